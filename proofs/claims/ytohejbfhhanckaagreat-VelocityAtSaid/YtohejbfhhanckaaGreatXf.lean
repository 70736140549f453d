/- VelocityAt: for any assembly, velocities, body and place the law returns true and leaves its arguments as they were; VelocityRigid, where what comes in is of bulk at most 1048576: for any assembly, velocities and two places the law returns true and leaves its arguments as they were. No other condition. Part 6 of 7: what the later parts need -/
import Derived.Test.YtohejbfhhanckaaGreatXe
set_option linter.unusedVariables false
namespace Go.Lw
variable {P : Program} {N : Nat}
def tr (a b k : Nat) : Nat := match Nat.beq k a with
  | true => b
  | false => match Nat.beq k b with
    | true => a
    | false => k
theorem tr_eq (a b k : Nat) : tr a b k = if k = a then b else if k = b then a else k := by
 unfold tr
 split
 ·rename_i h; rw [if_pos (Nat.eq_of_beq_eq_true h)]
 ·rename_i h; rw [if_neg (Nat.ne_of_beq_eq_false h)]
  split
  ·rename_i h; rw [if_pos (Nat.eq_of_beq_eq_true h)]
  ·rename_i h; rw [if_neg (Nat.ne_of_beq_eq_false h)]
theorem tr_tr (a b k : Nat) : tr a b (tr a b k) = k := by
 simp only [tr_eq]
 by_cases h1 : k = a
 ·subst h1
  by_cases h2 : b = k
  ·simp [h2]
  ·simp [h2]
 ·by_cases h2 : k = b
  ·subst h2; simp [h1]
  ·simp [h1, h2]
theorem pmH_pmH {σ : Nat -> Nat} (hσ : ∀ k, σ (σ k) = k) : ∀ H : Hp, pmH σ (pmH σ H) = H
 | [] => rfl
 | (k, x) :: l => by
  simp only [pmH, hσ, pmH_pmH hσ l]
  cases x with
  | none => rfl
  | some x => simp only [Blk.pm_pm hσ]
def tA : List (Nat × Nat) -> List AV -> List AV
  | [], xs => xs
  | p :: L, xs => tA L (xs.map (AV.pm (tr p.1 p.2)))
def tH : List (Nat × Nat) -> Hp -> Hp
  | [], H => H
  | p :: L, H => tH L (pmH (tr p.1 p.2) H)
def rB : List (Nat × Nat) -> AV -> AV
  | [], r => r
  | p :: L, r => (rB L r).pm (tr p.1 p.2)
def hB : List (Nat × Nat) -> Hp -> Hp
  | [], H => H
  | p :: L, H => pmH (tr p.1 p.2) (hB L H)
theorem conT {f : FuncId} : ∀ {L : List (Nat × Nat)} {xs : List AV} {H H' : Hp} {r : AV}, Con P f (tA L xs) (tH L H) r H' -> Con P f xs H (rB L r) (hB L H')
 | [], xs, H, H', r, h => h
 | p :: L, xs, H, H', r, h => by
  have h1 := (conT (L := L) h).pm (tr_tr p.1 p.2)
  rw [pmH_pmH (tr_tr p.1 p.2), List.map_map] at h1
  have e : (AV.pm (tr p.1 p.2) ∘ AV.pm (tr p.1 p.2)) = id := by funext x; exact AV.pm_pm (tr_tr p.1 p.2) x
  rw [e, List.map_id] at h1
  exact h1
def zipK : Nat -> List Nat -> List (Nat × Nat)
  | _, [] => []
  | b, k :: ks => (k, b) :: zipK (b + 1) ks
def memB (k : Nat) : List Nat -> Bool
  | [] => false
  | x :: l => match Nat.beq k x with
    | true => true
    | false => memB k l
def reach (s : AS) : Nat -> List Nat -> List Nat -> List Nat
  | 0, _, acc => acc
  | n + 1, ks, acc => match ks with
    | [] => acc
    | k :: ks => match memB k acc with
      | true => reach s n ks acc
      | false => match s.blk k with
        | some z => reach s n (z.nm ++ ks) (acc ++ [k])
        | none => reach s n ks acc
def pkH (s : AS) : List Nat -> Hp
  | [] => []
  | k :: ks => match s.blk k with
    | some z => (k, some z) :: pkH s ks
    | none => pkH s ks
theorem pkH_ok {s : AS} : ∀ {ks : List Nat} {k : Nat} {z : Blk}, lk (pkH s ks) k = some z -> lk s.hp k = some z
 | [], k, z, h => by cases h
 | k' :: ks, k, z, h => by
  unfold pkH at h
  split at h
  ·rename_i y hy
   rw [lk_cons] at h
   split at h
   ·rename_i e; cases h; rw [e]; exact hy
   ·exact pkH_ok h
  ·exact pkH_ok h
structure Ent (P : Program) where
  f : FuncId
  xs : List AV
  r : AV
  H' : Hp
  con : Con P f xs [] r H'
structure FE (P : Program) where
  f : FuncId
  fn : Func
  c : Code
  rs : List ResultVar
  hf : P.funcs[f]? = some fn
  hb : fn.body = some c
  hn : (fn.name == "runtime.NumGoroutine") = false
  hrs : fn.results = rs.toArray
structure Env (P : Program) where
  orc : FuncId -> Option (List AV -> Option (Ent P))
  fe : FuncId -> Option (FE P)
  mt : FuncId -> Bool
def vEq : Value -> Value -> Bool
  | .int k a, .int k' b => Nat.beq (ikn k) (ikn k') && icmp .eql a b
  | .bool a, .bool b => a == b
  | .nilIface, .nilIface => true
  | .string a, .string b => bytB a b
  | .slice none 0 0, .slice none 0 0 => true
  | .func (.func f) ⟨[]⟩ ⟨[]⟩, .func (.func g) ⟨[]⟩ ⟨[]⟩ => Nat.beq f g
  | .nilFunc, .nilFunc => true
  | .pointer none, .pointer none => true
  | .iface T v, .iface T' v' => Nat.beq T T' && vEq v v'
  | _, _ => false
theorem byt_ext {a b : ByteArray} (h : bytB a b = true) : a = b := by
 unfold bytB at h
 rw [bytL_ok] at h
 have h := eq_of_beq h
 have e : ∀ c : ByteArray, c = ⟨⟨c.data.toList⟩⟩ := fun c => by cases c; rfl
 rw [e a, e b, h]
theorem vEq_ok : ∀ (a b : Value), vEq a b = true -> a = b
 | .iface T v, b, h => by
  cases b with
  | iface T' v' =>
   simp only [vEq, Bool.and_eq_true] at h
   rw [Nat.eq_of_beq_eq_true h.1, vEq_ok v v' h.2]
  | _ => simp [vEq] at h
 | .int k a, b, h => by
  cases b with
  | int k' b =>
   simp only [vEq, Bool.and_eq_true] at h
   rw [ikn_inj h.1, eq_of_beq (show (a == b) = true from h.2)]
  | _ => simp [vEq] at h
 | .bool a, b, h => by
  cases b with
  | bool b => simp only [vEq, beq_iff_eq] at h; rw [h]
  | _ => simp [vEq] at h
 | .string a, b, h => by
  cases b with
  | string b => simp only [vEq] at h; rw [byt_ext h]
  | _ => simp [vEq] at h
 | .nilIface, b, h => by
  cases b <;> simp [vEq] at h
  rfl
 | .slice x n c, b, h => by
  unfold vEq at h
  split at h <;> simp_all
 | .float .., b, h => by simp [vEq] at h
 | .complex .., b, h => by simp [vEq] at h
 | .pointer p, b, h => by
  unfold vEq at h
  split at h <;> simp_all
 | .map _, b, h => by simp [vEq] at h
 | .chan _, b, h => by simp [vEq] at h
 | .func f x y, b, h => by
  unfold vEq at h
  split at h <;> first | (simp_all; done) | (simp_all; exact Nat.eq_of_beq_eq_true h)
 | .nilFunc, b, h => by
  unfold vEq at h
  split at h <;> simp_all
 | .agg _, b, h => by simp [vEq] at h
 | .tuple _, b, h => by simp [vEq] at h
mutual
def subB : AV -> AV -> Bool
  | .v a, y => match y with
    | .v b => vEq a b
    | .lst _ es => match es with
      | [] => match a with
        | .slice _ 0 _ => true
        | _ => false
      | _ => false
    | _ => false
  | .lst sz es, y => match y with
    | .lst sz' es' => Nat.beq sz sz' && subCs es es'
    | _ => false
  | .agg cs, y => match y with
    | .agg cs' => subBs cs cs'
    | _ => false
  | .tup cs, y => match y with
    | .tup cs' => subTs cs cs'
    | _ => false
  | _, _ => false
def subBs : List AV -> List AV -> Bool
  | [], y => match y with
    | [] => true
    | _ => false
  | x :: l, y => match y with
    | x' :: l' => x'.one && subB x x' && subBs l l'
    | [] => false
def subTs : List AV -> List AV -> Bool
  | [], y => match y with
    | [] => true
    | _ => false
  | x :: l, y => match y with
    | x' :: l' => subB x x' && subTs l l'
    | [] => false
def subCs : List AV -> List AV -> Bool
  | [], y => match y with
    | [] => true
    | _ => false
  | x :: l, y => match y with
    | x' :: l' => subE x x' && subCs l l'
    | [] => false
def subE : AV -> AV -> Bool
  | .agg cs, y => match y with
    | .agg cs' => subBs cs cs'
    | _ => false
  | .v a, y => match y with
    | .v b => vEq a b && b.oneCell'
    | .lst _ es => match es with
      | [] => match a with
        | .slice _ 0 _ => true
        | _ => false
      | _ => false
    | _ => false
  | .lst sz es, y => match y with
    | .lst sz' es' => Nat.beq sz sz' && subCs es es'
    | _ => false
  | _, _ => false
end
theorem sub_v {a : Value} {y : AV} (h : subB (.v a) y = true) : Sub (.v a) y := by
 cases y with
 | v b => simp only [subB] at h; rw [vEq_ok _ _ h]; exact .refl _
 | lst sz es =>
  cases es with
  | nil =>
   cases a with
   | slice x n c =>
    cases n with
    | zero => exact .nil _ _ _
    | succ n => simp [subB] at h
   | _ => simp [subB] at h
  | cons e es => simp [subB] at h
 | _ => simp [subB] at h
mutual
theorem subB_ok : ∀ (x y : AV), subB x y = true -> Sub x y
 | .v a, y, h => sub_v h
 | .lst sz es, y, h => by
  cases y with
  | lst sz' es' =>
   simp only [subB, Bool.and_eq_true] at h
   cases Nat.eq_of_beq_eq_true h.1
   exact Sub.lst (subCs_ok es es' h.2).1 (subCs_ok es es' h.2).2
  | _ => simp [subB] at h
 | .agg cs, y, h => by
  cases y with
  | agg cs' =>
   simp only [subB] at h
   exact Sub.agg (subBs_ok cs cs' h).1 (subBs_ok cs cs' h).2
  | _ => simp [subB] at h
 | .tup cs, y, h => by
  cases y with
  | tup cs' =>
   simp only [subB] at h
   exact Sub.tup (subTs_ok cs cs' h)
  | _ => simp [subB] at h
 | .iptr _, y, h => by simp [subB] at h
 | .ms .., y, h => by simp [subB] at h
 | .ptr .., y, h => by simp [subB] at h
 | .eptr .., y, h => by simp [subB] at h
 | .fn .., y, h => by simp [subB] at h
 | .opt .., y, h => by simp [subB] at h
 | .yl .., y, h => by simp [subB] at h
 | .cl .., y, h => by simp [subB] at h
theorem subBs_ok : ∀ (l l' : List AV), subBs l l' = true -> SubL l l' /\ l'.all AV.one = true
 | [], [], h => ⟨.nil, rfl⟩
 | [], _ :: _, h => by simp [subBs] at h
 | _ :: _, [], h => by simp [subBs] at h
 | x :: l, x' :: l', h => by
  simp only [subBs, Bool.and_eq_true] at h
  obtain ⟨h1, h2⟩ := subBs_ok l l' h.2
  exact ⟨.cons (subB_ok x x' h.1.2) h1, by simp only [List.all_cons, h.1.1, h2, Bool.and_self]⟩
theorem subTs_ok : ∀ (l l' : List AV), subTs l l' = true -> SubL l l'
 | [], [], h => .nil
 | [], _ :: _, h => by simp [subTs] at h
 | _ :: _, [], h => by simp [subTs] at h
 | x :: l, x' :: l', h => by
  simp only [subTs, Bool.and_eq_true] at h
  exact .cons (subB_ok x x' h.1) (subTs_ok l l' h.2)
theorem subCs_ok : ∀ (l l' : List AV), subCs l l' = true -> l.length = l'.length /\ ∀ (i : Nat) (e e' : AV), l[i]? = some e -> l'[i]? = some e' -> CellsSub e e'
 | [], [], h => ⟨rfl, fun i e e' h => by simp at h⟩
 | [], _ :: _, h => by simp [subCs] at h
 | _ :: _, [], h => by simp [subCs] at h
 | x :: l, x' :: l', h => by
  simp only [subCs, Bool.and_eq_true] at h
  obtain ⟨h1, h2⟩ := subCs_ok l l' h.2
  refine ⟨by simp [h1], ?_⟩
  intro i e e' he he'
  cases i with
  | zero => simp at he he'; subst he; subst he'; exact subE_ok x x' h.1
  | succ i => exact h2 i e e' (by simpa using he) (by simpa using he')
theorem subE_ok : ∀ (x y : AV), subE x y = true -> CellsSub x y
 | .v a, y, h => by
  have one : ∀ {z : AV}, z.cells = [z] -> z.one = true -> Sub (.v a) z -> CellsSub (.v a) z := by
   intro z h1 h2 h3
   refine ⟨by rw [h1]; rfl, ?_⟩
   intro j x y hx hy
   rw [h1] at hy
   cases j with
   | zero => simp [AV.cells] at hx hy; subst hx; subst hy; exact ⟨h2, h3⟩
   | succ j => simp at hy
  cases y with
  | v b =>
   simp only [subE, Bool.and_eq_true] at h
   exact one rfl h.2 (by rw [vEq_ok _ _ h.1]; exact .refl _)
  | lst sz es =>
   refine one rfl rfl (sub_v ?_)
   cases es with
   | nil => unfold subE at h; unfold subB; exact h
   | cons => simp [subE] at h
  | _ => simp [subE] at h
 | .lst sz es, y, h => by
  cases y with
  | lst sz' es' =>
   simp only [subE, Bool.and_eq_true] at h
   cases Nat.eq_of_beq_eq_true h.1
   refine ⟨rfl, ?_⟩
   intro j x y hx hy
   cases j with
   | zero =>
    simp [AV.cells] at hx hy; subst hx; subst hy
    exact ⟨rfl, Sub.lst (subCs_ok es es' h.2).1 (subCs_ok es es' h.2).2⟩
   | succ j => simp [AV.cells] at hy
  | _ => simp [subE] at h
 | .agg cs, y, h => by
  cases y with
  | agg cs' =>
   simp only [subE] at h
   obtain ⟨h1, h2⟩ := subBs_ok cs cs' h
   exact ⟨h1.len, fun j x y hx hy => ⟨List.all_eq_true.1 h2 y (List.mem_of_getElem? hy), h1.get j x y hx hy⟩⟩
  | _ => simp [subE] at h
 | .tup .., y, h => by simp [subE] at h
 | .iptr _, y, h => by simp [subE] at h
 | .ms .., y, h => by simp [subE] at h
 | .ptr .., y, h => by simp [subE] at h
 | .eptr .., y, h => by simp [subE] at h
 | .fn .., y, h => by simp [subE] at h
 | .opt .., y, h => by simp [subE] at h
 | .yl .., y, h => by simp [subE] at h
 | .cl .., y, h => by simp [subE] at h
end
end Go.Lw
namespace Go.Lw
variable {P : Program} {N : Nat}
inductive OR where
  | ok (u : Out)
  | need (k : Nat)
  | no
inductive CR where
  | ok (H : Hp) (r : AV) (H' : Hp)
  | need (k : Nat)
  | no
def subLB : List AV -> List AV -> Bool
  | [], y => match y with
    | [] => true
    | _ => false
  | x :: l, y => match y with
    | x' :: l' => subB x x' && subLB l l'
    | [] => false
theorem subLB_ok : ∀ {l l' : List AV}, subLB l l' = true -> SubL l l'
 | [], [], h => .nil
 | [], _ :: _, h => by simp [subLB] at h
 | _ :: _, [], h => by simp [subLB] at h
 | x :: l, x' :: l', h => by
  simp only [subLB, Bool.and_eq_true] at h
  exact .cons (subB_ok x x' h.1) (subLB_ok h.2)
def mx : Nat -> List Nat -> Nat
  | m, [] => m
  | m, k :: l => match Nat.blt m k && Nat.blt k 1000 with
    | true => mx k l
    | false => mx m l
def srchK (s : AS) : Nat -> Nat -> Nat
  | 0, k => k
  | n + 1, k => match s.freshB k with
    | true => k
    | false => srchK s n (k + 1)
def nxt (s : AS) (av : List Nat) : Nat := srchK s 100 (mx (mx 299 (s.hp.map (·.1))) av + 1)
mutual
theorem AV.pm_id (σ : Nat -> Nat) : ∀ x : AV, x.nm = [] -> x.pm σ = x
 | .ms k sz off len, h => by simp [AV.nm] at h
 | .ptr k off, h => by simp [AV.nm] at h
 | .eptr k sz i off, h => by simp [AV.nm] at h
 | .yl k, h => by simp [AV.nm] at h
 | .agg cs, h => by simp only [AV.pm]; rw [AV.pms_id σ cs (by simpa only [AV.nm] using h)]
 | .tup cs, h => by simp only [AV.pm]; rw [AV.pms_id σ cs (by simpa only [AV.nm] using h)]
 | .fn f cs, h => by simp only [AV.pm]; rw [AV.pms_id σ cs (by simpa only [AV.nm] using h)]
 | .opt b x, h => by simp only [AV.pm]; rw [AV.pm_id σ x (by simpa only [AV.nm] using h)]
 | .v x, h => rfl
 | .lst sz l, h => rfl
 | .iptr l, h => rfl
 | .cl f cs ds, h => rfl
theorem AV.pms_id (σ : Nat -> Nat) : ∀ l : List AV, AV.nms l = [] -> AV.pms σ l = l
 | [], h => rfl
 | x :: l, h => by
  simp only [AV.nms, List.append_eq_nil_iff] at h
  simp only [AV.pms]; rw [AV.pm_id σ x h.1, AV.pms_id σ l h.2]
end
theorem con_key {f : FuncId} {xs : List AV} {r : AV} {H' : Hp} (h : Con P f xs [] r H') (hx : AV.nms xs = []) (k d : Nat) : Con P f xs [] (r.pm (tr k d)) (pmH (tr k d) H') := by
 have h1 := h.pm (tr_tr k d)
 rw [<- AV.pms_eq, AV.pms_id _ xs hx] at h1
 exact h1
abbrev CallF := List Nat -> FuncId -> List AV -> Hp -> Option (AV × Hp)
def CallF.Ok (P : Program) (F : CallF) : Prop := ∀ av f xs H r H', F av f xs H = some (r, H') -> Con P f xs H r H'
def rowK (s : AS) : List Nat -> Option Nat
  | [] => none
  | k :: ks => match s.blk k with
    | some (.row _ _) => some k
    | _ => rowK s ks
def callG (F : CallF) (s : AS) (av : List Nat) (f : FuncId) (xs : List AV) : CR :=
  match pkH s (reach s 300 (AV.nms xs) []) with
  | H => match F (s.hp.map (·.1) ++ av) f xs H with
    | some (r, H') => .ok H r H'
    | none => .no
def callB (E : Env P) (F : CallF) (s : AS) (av : List Nat) (f : FuncId) (xs : List AV) : CR := match E.mt f with
  | true => callG F s av f xs
  | false => match rowK s (AV.nms xs) with
    | some k => .need k
    | none => callG F s av f xs
def callR (E : Env P) (F : CallF) (s : AS) (av : List Nat) (f : FuncId) (xs : List AV) : CR := match E.orc f with
  | some g => match AV.nms xs with
    | k :: _ => .need k
    | [] => match g xs with
      | some e => match Nat.beq e.f f && subLB xs e.xs with
        | true => match e.H' with
          | (k, some z) :: l => .ok [] (e.r.pm (tr k (nxt s av))) (pmH (tr k (nxt s av)) e.H')
          | _ => .ok [] e.r e.H'
        | false => callB E F s av f xs
      | none => callB E F s av f xs
  | none => callB E F s av f xs
theorem callG_ok {F : CallF} (hF : F.Ok P) {s : AS} {av : List Nat} {f : FuncId} {xs : List AV} {H H' : Hp} {r : AV} (h : callG F s av f xs = .ok H r H') : Con P f xs H r H' /\ ∀ k z, lk H k = some z -> s.blk k = some z := by
 unfold callG at h
 simp only at h
 split at h
 ·rename_i h1; cases h; exact ⟨hF _ _ _ _ _ _ h1, fun k z hz => pkH_ok hz⟩
 ·cases h
theorem callB_ok {E : Env P} {F : CallF} (hF : F.Ok P) {s : AS} {av : List Nat} {f : FuncId} {xs : List AV} {H H' : Hp} {r : AV} (h : callB E F s av f xs = .ok H r H') : Con P f xs H r H' /\ ∀ k z, lk H k = some z -> s.blk k = some z := by
 unfold callB at h
 split at h
 ·exact callG_ok hF h
 ·split at h
  ·cases h
  ·exact callG_ok hF h
theorem callR_ok {E : Env P} {F : CallF} (hF : F.Ok P) {s : AS} {av : List Nat} {f : FuncId} {xs : List AV} {H H' : Hp} {r : AV} (h : callR E F s av f xs = .ok H r H') : Con P f xs H r H' /\ ∀ k z, lk H k = some z -> s.blk k = some z := by
 unfold callR at h
 split at h
 ·split at h
  ·cases h
  ·rename_i hn
   split at h
   ·rename_i e he
    split at h
    ·rename_i hc
     simp only [Bool.and_eq_true] at hc
     have hf := Nat.eq_of_beq_eq_true hc.1
     subst hf
     have h9 := Con.subA (subLB_ok hc.2) e.con
     split at h
     ·rename_i k z l _
      obtain ⟨rfl, rfl, rfl⟩ := CR.ok.inj h
      exact ⟨con_key h9 hn _ _, fun k z hz => by cases hz⟩
     ·obtain ⟨rfl, rfl, rfl⟩ := CR.ok.inj h
      exact ⟨h9, fun k z hz => by cases hz⟩
    ·exact callB_ok hF h
   ·exact callB_ok hF h
 ·exact callB_ok hF h
theorem s_append0 {s : AS} {R : Array Oper} {d q sz cap0 : Nat} {a0 : Option Addr} {xs : List AV} {x y : Operand} {T E t : TypeId} {ti te : TI} {pos : String} {after : Array Edge}
  (hx : Ev s x (.v (.slice a0 0 0))) (hy : Ev s y (.lst sz xs)) (hT : tinfo P T = some ti) (hkd : ti.k = .slice E) (hE : tinfo P E = some te)
  (hsz : te.size = sz) (hz0 : (Nat.beq te.zero.length te.size && Nat.blt 0 te.size && Nat.blt 0 te.bytes) = true) (hb : (0 + xs.length) * te.bytes <= 140737488355328) (hdk : Nat.beq d q = false)
  (hN : Nat.blt d N = true) :
  Step P N R s ⟨some d, .call ⟨.builtin .append, #[x, y], #[T, T]⟩, t, pos, after, none⟩
   ⟨some (.ms d sz 0 (0 + xs.length)), [(d, some (.row sz ([] ++ xs))), (q, none)], rtOf x ++ rtOf y, []⟩ := by
 refine ⟨fun s' hag hnew C m a w Q next hC hr hnext => ?_⟩
 have hq : s'.Fresh q := by
  rcases hnew q (by simp) with h | h
  ·cases h
  ·exact h
 have hd : s'.Fresh d := by
  rcases hnew d (by simp) with h | h
  ·cases h
  ·exact h
 have hdq := Nat.ne_of_beq_eq_false hdk
 have hx' := hx.agree hag (fun _ h => List.mem_append.2 (.inl h))
 have hy' := hy.agree hag (fun _ h => List.mem_append.2 (.inr h))
 let s2 : AS := ⟨s'.sl, (q, some (.row sz [])) :: s'.hp⟩
 have evs : ∀ {o : Operand} {z : AV}, Ev s' o z -> Ev s2 o z := fun h => by
  cases h with
  | tmp h => exact .tmp h
  | opt h hb => exact .opt h hb
  | const c => exact .const c
  | func f => exact .func f
 have st := s_appendG (P := P) (N := N) (R := R) (s := s2) (d := d) (k := q) (t := t) (pos := pos) (after := after) (es := []) (evs hx') (fun g S m v h => Sub.nilMs a0 q sz g S m v h) (by simp [s2, AS.blk, lk_cons]) rfl (evs hy') hT hkd hE hsz hz0 hb hdk hN
 refine st.run s2 ⟨fun _ _ => rfl, fun _ _ => rfl⟩ ?_ C _ a w Q next hC (hr.virt sz hq) (fun m' a' w' hr' => hnext m' a' w' ?_)
 ·intro k hk
  simp only [List.map_cons, List.map_nil, List.mem_cons, List.not_mem_nil, or_false] at hk
  rcases hk with rfl | rfl
  ·exact .inr (Fresh.row hd hdq (fun h => h))
  ·exact .inl (by simp)
 ·refine RelM.congr ?_ ?_ hr'
  ·intro t; rfl
  ·intro k
   simp only [AS.app, AS.blk, s2, List.cons_append, List.nil_append, lk_cons]
   split
   ·rfl
   ·split <;> rfl
mutual
def avEq : AV -> AV -> Bool
  | .v a, y => match y with
    | .v b => vEq a b
    | _ => false
  | .lst sz es, y => match y with
    | .lst sz' es' => Nat.beq sz sz' && avEqs es es'
    | _ => false
  | .agg cs, y => match y with
    | .agg cs' => avEqs cs cs'
    | _ => false
  | .tup cs, y => match y with
    | .tup cs' => avEqs cs cs'
    | _ => false
  | .iptr cs, y => match y with
    | .iptr cs' => avEqs cs cs'
    | _ => false
  | .ms k sz off len, y => match y with
    | .ms k' sz' off' len' => Nat.beq k k' && (Nat.beq sz sz' && (Nat.beq off off' && Nat.beq len len'))
    | _ => false
  | .ptr k off, y => match y with
    | .ptr k' off' => Nat.beq k k' && Nat.beq off off'
    | _ => false
  | .eptr k sz i off, y => match y with
    | .eptr k' sz' i' off' => Nat.beq k k' && (Nat.beq sz sz' && (Nat.beq i i' && Nat.beq off off'))
    | _ => false
  | .fn f cs, y => match y with
    | .fn f' cs' => Nat.beq f f' && avEqs cs cs'
    | _ => false
  | .opt _ _, _ => false
  | .yl _, _ => false
  | .cl _ _ _, _ => false
def avEqs : List AV -> List AV -> Bool
  | [], y => match y with
    | [] => true
    | _ => false
  | x :: l, y => match y with
    | x' :: l' => avEq x x' && avEqs l l'
    | [] => false
end
mutual
theorem avEq_ok : ∀ (x y : AV), avEq x y = true -> x = y
 | .v a, y, h => by cases y <;> simp [avEq] at h; rw [vEq_ok _ _ h]
 | .lst sz es, y, h => by
  cases y <;> simp only [avEq, Bool.and_eq_true, Bool.false_eq_true] at h
  rw [Nat.eq_of_beq_eq_true h.1, avEqs_ok _ _ h.2]
 | .agg cs, y, h => by cases y <;> simp only [avEq, Bool.false_eq_true] at h; rw [avEqs_ok _ _ h]
 | .tup cs, y, h => by cases y <;> simp only [avEq, Bool.false_eq_true] at h; rw [avEqs_ok _ _ h]
 | .iptr cs, y, h => by cases y <;> simp only [avEq, Bool.false_eq_true] at h; rw [avEqs_ok _ _ h]
 | .ms k sz off len, y, h => by
  cases y <;> simp only [avEq, Bool.and_eq_true, Bool.false_eq_true] at h
  rw [Nat.eq_of_beq_eq_true h.1, Nat.eq_of_beq_eq_true h.2.1, Nat.eq_of_beq_eq_true h.2.2.1, Nat.eq_of_beq_eq_true h.2.2.2]
 | .ptr k off, y, h => by
  cases y <;> simp only [avEq, Bool.and_eq_true, Bool.false_eq_true] at h
  rw [Nat.eq_of_beq_eq_true h.1, Nat.eq_of_beq_eq_true h.2]
 | .eptr k sz i off, y, h => by
  cases y <;> simp only [avEq, Bool.and_eq_true, Bool.false_eq_true] at h
  rw [Nat.eq_of_beq_eq_true h.1, Nat.eq_of_beq_eq_true h.2.1, Nat.eq_of_beq_eq_true h.2.2.1, Nat.eq_of_beq_eq_true h.2.2.2]
 | .fn f cs, y, h => by
  cases y <;> simp only [avEq, Bool.and_eq_true, Bool.false_eq_true] at h
  rw [Nat.eq_of_beq_eq_true h.1, avEqs_ok _ _ h.2]
 | .opt .., y, h => by simp [avEq] at h
 | .yl .., y, h => by simp [avEq] at h
 | .cl .., y, h => by simp [avEq] at h
theorem avEqs_ok : ∀ (l l' : List AV), avEqs l l' = true -> l = l'
 | [], [], h => rfl
 | [], _ :: _, h => by simp [avEqs] at h
 | _ :: _, [], h => by simp [avEqs] at h
 | x :: l, x' :: l', h => by
  simp only [avEqs, Bool.and_eq_true] at h
  rw [avEq_ok x x' h.1, avEqs_ok l l' h.2]
end
def blkEq : Blk -> Blk -> Bool
  | .box cs, .box cs' => avEqs cs cs'
  | .row sz es, .row sz' es' => Nat.beq sz sz' && avEqs es es'
  | _, _ => false
theorem blkEq_ok {x y : Blk} (h : blkEq x y = true) : x = y := by
 cases x <;> cases y <;> simp only [blkEq, Bool.false_eq_true] at h
 ·rw [avEqs_ok _ _ h]
 ·simp only [Bool.and_eq_true] at h
  rw [Nat.eq_of_beq_eq_true h.1, avEqs_ok _ _ h.2]
theorem memB_ok {k : Nat} : ∀ {l : List Nat}, memB k l = true ↔ k ∈ l
 | [] => by simp [memB]
 | x :: l => by
  unfold memB
  split
  ·rename_i h; simp [Nat.eq_of_beq_eq_true h]
  ·rename_i h; rw [memB_ok (l := l)]; simp [Nat.ne_of_beq_eq_false h]
def chg (H : Hp) : List Nat -> Hp -> Hp
  | _, [] => []
  | seen, (k, x) :: l => match memB k seen with
    | true => chg H seen l
    | false => match x with
      | some z => match lk H k with
        | some y => match blkEq y z with
          | true => chg H (k :: seen) l
          | false => (k, some z) :: chg H (k :: seen) l
        | none => (k, some z) :: chg H (k :: seen) l
      | none => (k, none) :: chg H (k :: seen) l
theorem chg_ok {H R : Hp} (hR : ∀ t y, lk H t = some y -> lk R t = some y) : ∀ {l : Hp} {seen : List Nat} {t : Nat}, t ∉ seen -> lk (chg H seen l ++ R) t = if t ∈ l.map (·.1) then lk l t else lk R t
 | [], seen, t, h => by simp [chg]
 | (k, x) :: l, seen, t, h => by
  have rest : t ≠ k -> lk (chg H (k :: seen) l ++ R) t = if t ∈ ((k, x) :: l).map (·.1) then lk ((k, x) :: l) t else lk R t := by
   intro hne
   rw [chg_ok hR (fun hh => by rcases List.mem_cons.1 hh with e | e; exact hne e; exact h e)]
   simp only [List.map_cons, List.mem_cons, hne, false_or]
   rw [lk_cons, if_neg hne]
  have head : lk ((k, x) :: (chg H (k :: seen) l ++ R)) t = if t ∈ ((k, x) :: l).map (·.1) then lk ((k, x) :: l) t else lk R t := by
   rw [lk_cons]
   by_cases e : t = k
   ·rw [if_pos e, lk_cons, if_pos e]; simp [e]
   ·rw [if_neg e, rest e]
  unfold chg
  split
  ·rename_i hm
   have hne : t ≠ k := fun e => h (by rw [e]; exact memB_ok.1 hm)
   rw [chg_ok hR h]
   simp only [List.map_cons, List.mem_cons, hne, false_or]
   rw [lk_cons, if_neg hne]
  ·split
   ·rename_i z
    split
    ·rename_i y hy
     split
     ·rename_i he
      by_cases e : t = k
      ·rw [chg_none (by rw [e]; exact List.mem_cons_self ..), e, hR k y hy, blkEq_ok he]
       simp [lk_cons]
      ·exact rest e
     ·exact head
    ·exact head
   ·exact head
where
 chg_none {H R : Hp} : ∀ {l : Hp} {seen : List Nat} {t : Nat}, t ∈ seen -> lk (chg H seen l ++ R) t = lk R t
  | [], seen, t, h => rfl
  | (k, x) :: l, seen, t, h => by
   unfold chg
   split
   ·exact chg_none h
   ·rename_i hm
    have hne : t ≠ k := fun e => by rw [e] at h; rw [memB_ok.2 h] at hm; cases hm
    have ih := chg_none (H := H) (R := R) (l := l) (List.mem_cons_of_mem k h)
    split
    ·split
     ·split
      ·exact ih
      ·show lk (_ :: (_ ++ R)) t = _
       rw [lk_cons, if_neg hne]; exact ih
     ·show lk (_ :: (_ ++ R)) t = _
      rw [lk_cons, if_neg hne]; exact ih
    ·show lk (_ :: (_ ++ R)) t = _
     rw [lk_cons, if_neg hne]; exact ih
theorem chg_keys {H : Hp} : ∀ {l : Hp} {seen : List Nat} {k : Nat}, k ∈ l.map (·.1) -> k ∉ seen -> k ∈ (chg H seen l).map (·.1) \/ ∃ y, lk H k = some y
 | [], seen, k, h, _ => by simp at h
 | (k', x) :: l, seen, k, h, hs => by
  unfold chg
  by_cases e : k = k'
  ·subst e
   have hm : memB k seen = false := by
    cases hq : memB k seen with
    | true => exact absurd (memB_ok.1 hq) hs
    | false => rfl
   simp only [hm]
   split
   ·split
    ·rename_i y hy
     split
     ·exact .inr ⟨y, hy⟩
     ·exact .inl (by simp)
    ·exact .inl (by simp)
   ·exact .inl (by simp)
  ·have h' : k ∈ l.map (·.1) := by simpa [e] using h
   have hs' : k ∉ k' :: seen := fun hh => by rcases List.mem_cons.1 hh with e' | e'; exact e e'; exact hs e'
   have ih1 := chg_keys (H := H) h' hs
   have ih2 := chg_keys (H := H) h' hs'
   split
   ·exact ih1
   ·split
    ·split
     ·split
      ·exact ih2
      ·rcases ih2 with h | h
       ·exact .inl (List.mem_cons_of_mem _ h)
       ·exact .inr h
     ·rcases ih2 with h | h
      ·exact .inl (List.mem_cons_of_mem _ h)
      ·exact .inr h
    ·rcases ih2 with h | h
     ·exact .inl (List.mem_cons_of_mem _ h)
     ·exact .inr h
theorem step_slim {R : Array Oper} {s : AS} {o : Oper} {x : Option AV} {H U : Hp} {rt : List Nat} (hH : ∀ k z, lk H k = some z -> s.blk k = some z) (h : Step P N R s o ⟨x, U, rt, H.map (·.1)⟩) :
  Step P N R s o ⟨x, chg H [] U, rt, H.map (·.1)⟩ := by
 refine ⟨fun s' hag hnew C m a w Q next hC hr hnext => ?_⟩
 have hH' : ∀ k z, lk H k = some z -> lk s'.hp k = some z := fun k z hz => (hag.2 k (mem_keys_of_lk hz)).trans (hH k z hz)
 refine h.run s' hag (fun k hk => ?_) C m a w Q next hC hr (fun m' a' w' hr' => hnext m' a' w' ?_)
 ·rcases chg_keys (H := H) hk (seen := []) (by simp) with h1 | ⟨y, hy⟩
  ·exact hnew k h1
  ·exact .inl (mem_keys_of_lk hy)
 ·refine RelM.congr (s := s'.app o.dst ⟨x, U, rt, H.map (·.1)⟩) (fun t => rfl) (fun k => ?_) hr'
  simp only [AS.blk, AS.app]
  rw [chg_ok hH' (by simp), lk_append]
variable [Inhabited (Tys P)]
def appC (P : Program) [Inhabited (Tys P)] (s : AS) (d : Nat) (x y : Operand) (T : TypeId) : OR := match rdC s y with
  | some (.lst sz xs) => match tyOf P T with
    | some ti => match ti.k with
      | .slice E => match tyOf P E with
        | some te => match Nat.beq te.size sz && (Nat.beq te.zero.length te.size && Nat.blt 0 te.size && Nat.blt 0 te.bytes) with
          | true => match rdC s x with
            | some (.ms k sz' off len) => match s.blk k with
              | some (.row sz2 es) => match Nat.beq sz' sz && Nat.beq off 0 && Nat.beq sz2 sz && Nat.beq len es.length && Nat.ble ((len + xs.length) * te.bytes) 140737488355328 with
                | true => match Nat.beq d k with
                  | true => .no
                  | false => match frc (es ++ xs) with
                    | some l => wN (len + xs.length) fun n => .ok ⟨some (.ms d sz 0 n), [(d, some (.row sz l)), (k, none)], rtOf x ++ rtOf y, [k]⟩
                    | none => .no
                | false => .no
              | _ => .no
            | some (.v (.slice a0 0 0)) => match Nat.ble ((0 + xs.length) * te.bytes) 140737488355328 with
              | true => match Nat.beq d 299 with
                | true => .no
                | false => match frc ([] ++ xs) with
                  | some l => wN (0 + xs.length) fun n => .ok ⟨some (.ms d sz 0 n), [(d, some (.row sz l)), (299, none)], rtOf x ++ rtOf y, []⟩
                  | none => .no
              | false => .no
            | _ => .no
          | false => .no
        | none => .no
      | _ => .no
    | none => .no
  | some (.ms k _ _ _) => .need k
  | _ => .no
theorem appC_ok {s : AS} {R : Array Oper} {d : Nat} {x y : Operand} {T t : TypeId} {u : Out} {pos : String} {after : Array Edge} (h : appC P s d x y T = .ok u) (hN : Nat.blt d N = true) :
  Step P N R s ⟨some d, .call ⟨.builtin .append, #[x, y], #[T, T]⟩, t, pos, after, none⟩ u := by
 unfold appC at h
 split at h
 ·rename_i sz xs hy
  split at h
  ·rename_i ti hT
   split at h
   ·rename_i E hk
    split at h
    ·rename_i te hE
     split at h
     ·rename_i hc
      simp only [Bool.and_eq_true] at hc
      have hsz := Nat.eq_of_beq_eq_true hc.1
      have hz0 : (Nat.beq te.zero.length te.size && Nat.blt 0 te.size && Nat.blt 0 te.bytes) = true := by simp only [Bool.and_eq_true]; exact hc.2
      split at h
      ·rename_i k sz' off len hx
       split at h
       ·rename_i sz2 es hb
        split at h
        ·rename_i hg
         simp only [Bool.and_eq_true, Nat.ble_eq] at hg
         obtain ⟨⟨⟨⟨g1, g2⟩, g3⟩, g4⟩, g5⟩ := hg
         cases Nat.eq_of_beq_eq_true g1
         cases Nat.eq_of_beq_eq_true g2
         cases Nat.eq_of_beq_eq_true g3
         split at h
         ·cases h
         ·rename_i hdk
          split at h
          ·rename_i l hl
           cases frc_ok hl
           rw [wN_eq] at h; cases h
           exact s_append (rdC_ok hx) hb (Nat.eq_of_beq_eq_true g4) (rdC_ok hy) (tyOf_ok hT) hk (tyOf_ok hE) hsz hz0 g5 hdk hN
          ·cases h
        ·cases h
       ·cases h
      ·rename_i a0 hx
       split at h
       ·rename_i g5
        rw [Nat.ble_eq] at g5
        split at h
        ·cases h
        ·rename_i hdk
         split at h
         ·rename_i l hl
          cases frc_ok hl
          rw [wN_eq] at h; cases h
          exact s_append0 (cap0 := 0) (rdC_ok hx) (rdC_ok hy) (tyOf_ok hT) hk (tyOf_ok hE) hsz hz0 g5 hdk hN
         ·cases h
       ·cases h
      ·cases h
     ·cases h
    ·cases h
   ·cases h
  ·cases h
 ·cases h
 ·cases h
def stoE (P : Program) [Inhabited (Tys P)] (s : AS) (T : TypeId) (x y : Operand) : OR := match rdC s x with
  | some (.eptr k sz i off) => match rdC s y with
    | some v => match v.nm with
      | k' :: _ => .need k'
      | [] => match s.blk k with
        | some (.row sz' es) => match es[i]? with
          | some e => match tyOf P T with
            | some ti => match Nat.beq sz sz' && v.ok && Nat.beq v.cells.length ti.size && Nat.ble (off + ti.size) e.cells.length with
              | true => match e with
                | .agg cs => match frc (over cs off v.cells) with
                  | some l => match frc (es.set i (.agg l)) with
                    | some es' => .ok ⟨none, [(k, some (.row sz es'))], rtOf x ++ rtOf y, [k]⟩
                    | none => .no
                  | none => .no
                | e => match Nat.beq off 0 && Nat.beq v.cells.length 1 with
                  | true => match frc (es.set i v) with
                    | some es' => .ok ⟨none, [(k, some (.row sz es'))], rtOf x ++ rtOf y, [k]⟩
                    | none => .no
                  | false => .no
              | false => .no
            | none => .no
          | none => .no
        | _ => .no
    | none => .no
  | _ => .no
theorem cells_one1 {e : AV} (h : ∀ cs, e ≠ .agg cs) : e.cells = [e] := by
 cases e <;> first | rfl | exact absurd rfl (h _)
theorem stoE_ok {s : AS} {R : Array Oper} {x y : Operand} {T t : TypeId} {u : Out} {pos : String} {after : Array Edge} (h : stoE P s T x y = .ok u) :
  Step P N R s ⟨none, .store T x y, t, pos, after, none⟩ u := by
 unfold stoE at h
 split at h
 ·rename_i k sz i off hx
  split at h
  ·rename_i v hy
   split at h
   ·cases h
   ·rename_i hnm
    split at h
    ·rename_i sz' es hb
     split at h
     ·rename_i e he
      split at h
      ·rename_i ti hT
       split at h
       ·rename_i hc
        simp only [Bool.and_eq_true] at hc
        obtain ⟨⟨⟨c1, c2⟩, c3⟩, c4⟩ := hc
        cases Nat.eq_of_beq_eq_true c1
        split at h
        ·rename_i cs
         split at h
         ·rename_i l hl
          split at h
          ·rename_i es' hes
           cases h
           cases frc_ok hl
           cases frc_ok hes
           exact s_stEptr (rdC_ok hx) hb he (rdC_ok hy) c2 hnm (tyOf_ok hT) c3 c4 rfl
          ·cases h
         ·cases h
        ·rename_i hne
         split at h
         ·rename_i hg
          simp only [Bool.and_eq_true] at hg
          split at h
          ·rename_i es' hes
           cases h
           cases frc_ok hes
           cases Nat.eq_of_beq_eq_true hg.1
           refine s_stEptr (rdC_ok hx) hb he (rdC_ok hy) c2 hnm (tyOf_ok hT) c3 c4 ?_
           rw [cells_one1 hne]
           have := Nat.eq_of_beq_eq_true hg.2
           simp [over, this]
          ·cases h
         ·cases h
       ·cases h
      ·cases h
     ·cases h
    ·cases h
  ·cases h
 ·cases h
def mkS (P : Program) [Inhabited (Tys P)] (d : Nat) (T : TypeId) (n : Int) (rt : List Nat) : OR := match tyOf P T with
  | some ti => match ti.k with
    | .slice E => match tyOf P E with
      | some te => match te.zero.all Value.oneCell' && (Nat.beq te.zero.length te.size && Nat.blt 0 te.size && Nat.blt 0 te.bytes && (te.ag || Nat.beq te.size 1)) with
        | true => match n with
          | .ofNat n => match Nat.ble (n * te.bytes) 281474976710656 with
            | true => match frc (List.replicate n (mkT te.ag (te.zero.map .v))) with
              | some l => .ok ⟨some (.ms d te.size 0 n), [(d, some (.row te.size l))], rt, []⟩
              | none => .no
            | false => .no
          | .negSucc _ => .no
        | false => .no
      | none => .no
    | _ => .no
  | none => .no
theorem mkS_ok {s : AS} {R : Array Oper} {d : Nat} {x : Operand} {T t : TypeId} {n : Int} {u : Out} {pos : String} {after : Array Edge} (hx : Ev s x (.v (.int .i64 n))) (h : mkS P d T n (rtOf x) = .ok u) (hN : Nat.blt d N = true) :
  Step P N R s ⟨some d, .makeSlice T x x, t, pos, after, none⟩ u := by
 unfold mkS at h
 split at h
 ·rename_i ti hT
  split at h
  ·rename_i E hk
   split at h
   ·rename_i te hE
    split at h
    ·rename_i hc
     rw [Bool.and_eq_true] at hc
     split at h
     ·rename_i n
      split at h
      ·rename_i hb
       rw [Nat.ble_eq] at hb
       split at h
       ·rename_i l hl
        cases h
        cases frc_ok hl
        exact s_make (n := Int.ofNat n) hx (tyOf_ok hT) hk (tyOf_ok hE) hc.1 hc.2 (Int.natCast_nonneg _) (by simp only [Int.ofNat_eq_natCast]; omega) hN
       ·cases h
      ·cases h
     ·cases h
    ·cases h
   ·cases h
  ·cases h
 ·cases h
theorem s_callK {P : Program} {N : Nat} {s : AS} {R : Array Oper} {d f : Nat} {g : Operand} {args : Array Operand} {ts : Array TypeId} {xs : List AV} {H H' : Hp} {r : AV} {t : TypeId} {pos : String} {after : Array Edge}
  (hg : Ev s g (.v (.func (.func f) #[] #[]))) (hcon : Con P f xs H r H') (ha : EvL s args.toList xs) (hH : ∀ k z, lk H k = some z -> s.blk k = some z) (hok : callOkB s H H' r = true) (hN : Nat.blt d N = true) :
  Step P N R s ⟨some d, .call ⟨.value g, args, ts⟩, t, pos, after, none⟩ ⟨some r, H' ++ dead H, rtOf g ++ rtL args.toList, H.map (·.1)⟩ :=
 step_call rfl (fun d' h => by cases h; exact ⟨hN, rfl⟩) hcon hH hok fun s' hag C m a w hr => by
  have hag' : AgreeOn s s' ⟨none, [], rtOf g ++ rtL args.toList, []⟩ := ⟨hag, fun k hk => by cases hk⟩
  have ha' := ha.agree hag' (fun _ h => List.mem_append.2 (.inr h))
  have hgr := (hg.agree hag' (fun _ h => List.mem_append.2 (.inl h))).rep hr
  generalize hv : a.eval g = u at hgr
  cases hgr
  refine ⟨args.map a.eval, exec_callV (caps := #[]) rfl hv hcon.ok (by simp), ?_, ?_⟩
  ·have := ha'.length; simpa using this
  ·intro j v x hv hx; exact ha'.rep hr j v x (by simpa using hv) hx
def opdEq : Operand -> Operand -> Bool
  | .tmp a, .tmp b => Nat.beq a b
  | .const (.int k a), .const (.int k' b) => Nat.beq (ikn k) (ikn k') && icmp .eql a b
  | _, _ => false
theorem opdEq_ok {x y : Operand} (h : opdEq x y = true) : y = x := by
 unfold opdEq at h
 split at h
 ·rw [Nat.eq_of_beq_eq_true h]
 ·rename_i k a k' b
  simp only [Bool.and_eq_true] at h
  rw [ikn_inj h.1, eq_of_beq (show (a == b) = true from h.2)]
 ·cases h
def opD (E : Env P) (F : CallF) (av : List Nat) (s : AS) (d : Nat) (op : Op) : OR := match op with
  | .call c => match c with
    | ⟨.value g, args, ts⟩ => match rdLC s args.toList with
      | some xs => match g with
        | .func f => match callR E F s av f xs with
          | .ok H r H' => match callOkB s H H' r with
            | true => .ok ⟨some r, chg H [] (H' ++ dead H), rtL args.toList, H.map (·.1)⟩
            | false => .no
          | .need k => .need k
          | .no => .no
        | g => match rdC s g with
          | some (.fn f caps) => match callR E F s av f (xs ++ caps) with
            | .ok H r H' => match callOkB s H H' r with
              | true => .ok ⟨some r, chg H [] (H' ++ dead H), rtOf g ++ rtL args.toList, H.map (·.1)⟩
              | false => .no
            | .need k => .need k
            | .no => .no
          | some (.v (.func (.func f) ⟨[]⟩ ⟨[]⟩)) => match callR E F s av f xs with
            | .ok H r H' => match callOkB s H H' r with
              | true => .ok ⟨some r, chg H [] (H' ++ dead H), rtOf g ++ rtL args.toList, H.map (·.1)⟩
              | false => .no
            | .need k => .need k
            | .no => .no
          | some (.cl f pre caps) => match callR E F s av f (pre ++ xs ++ caps) with
            | .ok H r H' => match callOkB s H H' r with
              | true => .ok ⟨some r, chg H [] (H' ++ dead H), rtOf g ++ rtL args.toList, H.map (·.1)⟩
              | false => .no
            | .need k => .need k
            | .no => .no
          | _ => .no
      | none => .no
    | ⟨.builtin .append, args, ts⟩ => match args.toList with
      | [x, y] => match ts.toList with
        | [T, T'] => match Nat.beq T T' with
          | true => appC P s d x y T
          | false => .no
        | _ => .no
      | _ => .no
    | c => match opV P s (.call c) with
      | some r => .ok ⟨some r.x, [], r.rt, r.rd⟩
      | none => .no
  | .makeSlice T x y => match opdEq x y with
    | true => match rdC s x with
      | some (.v (.int .i64 n)) => mkS P d T n (rtOf x)
      | _ => .no
    | false => .no
  | .slice T x none (some (.const (.int k1 (.ofNat 0)))) (some (.const (.int k2 (.ofNat 0)))) => match rdC s x with
    | some (.lst sz es) => match sliV P T sz with
      | true => .ok ⟨some (.ms d sz 0 0), [(d, some (.row sz []))], rtOf x, []⟩
      | false => .no
    | _ => .no
  | .buildSlice T n parts => match n with
    | 0 => match parts.toList with
      | [] => match tyOf P T with
        | some ti => match ti.k with
          | .slice E => match tyOf P E with
            | some te => match te.zero.all Value.oneCell' && Nat.beq te.zero.length te.size with
              | true => .ok ⟨some (.ms d te.size 0 0), [(d, some (.row te.size []))], [], []⟩
              | false => .no
            | none => .no
          | _ => .no
        | none => .no
      | _ => .no
    | n + 1 => match opV P s (.buildSlice T (n + 1) parts) with
      | some r => .ok ⟨some r.x, [], r.rt, r.rd⟩
      | none => match rdLC s (parts.toList.map (·.2)) with
        | some xs => match AV.nms xs with
          | k :: _ => .need k
          | [] => .no
        | none => .no
  | op => match opV P s op with
    | some r => .ok ⟨some r.x, [], r.rt, r.rd⟩
    | none => match aNew P s d op with
      | some r => match r.2 with
        | [] => .ok r.1
        | _ => .no
      | none => .no
theorem opD_ok {E : Env P} {F : CallF} (hF : F.Ok P) {av : List Nat} {s : AS} {R : Array Oper} {d : Nat} {op : Op} {u : Out} {t : TypeId} {pos : String} {after : Array Edge} (h : opD E F av s d op = .ok u) (hN : Nat.blt d N = true) :
  Step P N R s ⟨some d, op, t, pos, after, none⟩ u := by
 unfold opD at h
 split at h
 ·split at h
  ·rename_i g args ts
   split at h
   ·rename_i xs hxs
    split at h
    ·rename_i f
     split at h
     ·rename_i H r H' hc
      split at h
      ·rename_i hok
       cases h
       obtain ⟨h1, h2⟩ := callR_ok hF hc
       exact step_slim h2 (s_callH h1 (rdLC_ok hxs) h2 hok hN)
      ·cases h
     ·cases h
     ·cases h
    ·split at h
     ·rename_i f caps hg
      split at h
      ·rename_i H r H' hc
       split at h
       ·rename_i hok
        cases h
        obtain ⟨h1, h2⟩ := callR_ok hF hc
        exact step_slim h2 (s_callV (rdC_ok hg) h1 (rdLC_ok hxs) h2 hok hN)
       ·cases h
      ·cases h
      ·cases h
     ·rename_i f hg
      split at h
      ·rename_i H r H' hc
       split at h
       ·rename_i hok
        cases h
        obtain ⟨h1, h2⟩ := callR_ok hF hc
        exact step_slim h2 (s_callK (rdC_ok hg) h1 (rdLC_ok hxs) h2 hok hN)
       ·cases h
      ·cases h
      ·cases h
     ·rename_i f pre caps hg
      split at h
      ·rename_i H r H' hc
       split at h
       ·rename_i hok
        cases h
        obtain ⟨h1, h2⟩ := callR_ok hF hc
        exact step_slim h2 (s_callW (rdC_ok hg) h1 (rdLC_ok hxs) h2 hok hN)
       ·cases h
      ·cases h
      ·cases h
     ·cases h
   ·cases h
  ·rename_i args ts
   split at h
   ·rename_i x y hx
    split at h
    ·rename_i T T' hT
     split at h
     ·rename_i hTT
      cases Nat.eq_of_beq_eq_true hTT
      have e1 : args = #[x, y] := by apply Array.toList_inj.1; simpa using hx
      have e2 : ts = #[T, T] := by apply Array.toList_inj.1; simpa using hT
      subst e1; subst e2
      exact appC_ok h hN
     ·cases h
    ·cases h
   ·cases h
  ·split at h
   ·rename_i h1; cases h; exact opV_ok h1 hN
   ·cases h
 ·split at h
  ·rename_i he
   cases opdEq_ok he
   split at h
   ·rename_i hx; exact mkS_ok (rdC_ok hx) h hN
   ·cases h
  ·cases h
 ·split at h
  ·rename_i hx
   split at h
   ·rename_i hs
    obtain ⟨ti, E, te, h1, h2, h3, h4⟩ := sliV_ok hs
    cases h
    exact s_slice00 (rdC_ok hx) h1 h2 h3 h4 hN
   ·cases h
  ·cases h
 ·rename_i T n parts
  split at h
  ·split at h
   ·rename_i hp
    have : parts = #[] := by apply Array.toList_inj.1; simpa using hp
    subst this
    split at h
    ·rename_i ti hT
     split at h
     ·rename_i E hk
      split at h
      ·rename_i te hE
       split at h
       ·rename_i hc
        rw [Bool.and_eq_true] at hc
        cases h
        exact s_buildMs0 (tyOf_ok hT) hk (tyOf_ok hE) hc.1 hc.2 hN
       ·cases h
      ·cases h
     ·cases h
    ·cases h
   ·cases h
  ·split at h
   ·rename_i h1; cases h; exact opV_ok h1 hN
   ·split at h
    ·split at h <;> cases h
    ·cases h
 ·split at h
  ·rename_i h1; cases h; exact opV_ok h1 hN
  ·split at h
   ·rename_i h1
    split at h
    ·rename_i ho; cases h; exact aNew_ok h1 (by rw [ho]; exact .nil) hN
    ·cases h
   ·cases h
def opN (E : Env P) (F : CallF) (av : List Nat) (s : AS) (op : Op) : OR := match op with
  | .call c => match c with
    | ⟨.value (.func f), args, ts⟩ => match rdLC s args.toList with
      | some xs => match callR E F s av f xs with
        | .ok H r H' => match callOkB s H H' r with
          | true => .ok ⟨none, chg H [] (H' ++ dead H), rtL args.toList, H.map (·.1)⟩
          | false => .no
        | .need k => .need k
        | .no => .no
      | none => .no
    | _ => .no
  | .store T x y => match aSto P s (.store T x y) with
    | some r => match r.2 with
      | [] => .ok r.1
      | _ => .no
    | none => stoE P s T x y
  | _ => .no
theorem opN_ok {E : Env P} {F : CallF} (hF : F.Ok P) {av : List Nat} {s : AS} {R : Array Oper} {op : Op} {u : Out} {t : TypeId} {pos : String} {after : Array Edge} (h : opN E F av s op = .ok u) :
  Step P N R s ⟨none, op, t, pos, after, none⟩ u := by
 unfold opN at h
 split at h
 ·split at h
  ·rename_i f args ts
   split at h
   ·rename_i xs hxs
    split at h
    ·rename_i H r H' hc
     split at h
     ·rename_i hok
      cases h
      obtain ⟨h1, h2⟩ := callR_ok hF hc
      exact step_slim h2 (s_callH0 h1 (rdLC_ok hxs) h2 hok)
     ·cases h
    ·cases h
    ·cases h
   ·cases h
  ·cases h
 ·split at h
  ·rename_i h1
   split at h
   ·rename_i ho; cases h; exact aSto_ok h1 (by rw [ho]; exact .nil)
   ·cases h
  ·exact stoE_ok h
 ·cases h
theorem Step.sub {P : Program} {N : Nat} {R : Array Oper} {s : AS} {o : Oper} {x y : AV} {upd : Hp} {rt rd : List Nat} (h : Step P N R s o ⟨some x, upd, rt, rd⟩) (hs : Sub x y) : Step P N R s o ⟨some y, upd, rt, rd⟩ := by
 refine ⟨fun s' hag hnew C m a w Q next hC hr hnext => h.run s' hag hnew C m a w Q next hC hr (fun m' a' w' hr' => hnext m' a' w' ?_)⟩
 refine hr'.weak (fun t z hz => ?_) (fun k z hz => ⟨z, hz, .refl _⟩)
 rw [get_app] at hz
 split at hz
 ·rename_i ht; cases hz; exact ⟨x, by rw [get_app, if_pos ht], hs⟩
 ·rename_i ht; exact ⟨z, by rw [get_app, if_neg ht]; exact hz, .refl _⟩
theorem Sub.opt_true (x : AV) : Sub (.opt true x) x := fun g S m v h => by cases h with | opt h _ => exact h rfl
theorem keys_mapHp (f : AV -> AV) (k : Nat) : ∀ l : Hp, (mapHp f k l).map (·.1) = l.map (·.1)
 | [] => rfl
 | (k', x) :: l => by simp only [mapHp, List.map_cons, keys_mapHp f k l]
theorem step_frzU {P : Program} {N : Nat} {R : Array Oper} {s : AS} {o : Oper} {d : Nat} {x : AV} {upd : Hp} {rt rd : List Nat} {k sz : Nat} {es : List AV} (hd : o.dst = some d) (hk : lk upd k = some (.row sz es)) (hrd : k ∉ rd)
  (h : Step P N R s o ⟨some x, upd, rt, rd⟩) : Step P N R s o ⟨some (x.fz k sz es), mapHp (AV.fz k sz es) k upd, rt, rd⟩ := by
 refine ⟨fun s' hag hnew C m a w Q next hC hr hnext => ?_⟩
 have hnew' : NewOk s' ⟨some x, upd, rt, rd⟩ := fun k' hk' => hnew k' (by rw [keys_mapHp]; exact hk')
 have hfr : s'.Fresh k := by
  rcases hnew' k (mem_keys_of_lk hk) with h | h
  ·exact absurd h hrd
  ·exact h
 refine h.run s' hag hnew' C m a w Q next hC hr (fun m' a' w' hr' => ?_)
 rw [hd] at hr'
 have hkk : (s'.app (some d) ⟨some x, upd, rt, rd⟩).blk k = some (.row sz es) := by
  show lk (upd ++ s'.hp) k = _
  rw [lk_append, if_pos (mem_keys_of_lk hk), hk]
 obtain ⟨m2, hr2⟩ := Wk.freeze hkk C m' a' w' hr'
 refine hnext m2 a' w' ?_
 rw [hd]
 refine hr2.congr ?_ ?_
 ·intro t
  simp only [AS.get, lk_mapSl, AS.app, lk_cons]
  split
  ·rfl
  ·cases hx : lk s'.sl t with
   | none => rfl
   | some y => simp only [Option.map_some]; rw [AV.fz_id _ _ _ _ (hfr.2.2.1 t y hx)]
 ·intro k'
  simp only [AS.blk, AS.app]
  rw [lk_mapHp, lk_append, lk_append, keys_mapHp, lk_mapHp]
  by_cases h1 : k' = k
  ·subst h1
   rw [if_pos rfl, if_pos (mem_keys_of_lk hk), if_pos rfl]
  ·rw [if_neg h1, if_neg h1]
   split
   ·rfl
   ·cases hx : lk s'.hp k' with
    | none => rfl
    | some y => simp only [Option.map_some]; rw [blk_map_id (hfr.2.2.2 k' y hx)]
def frzU : List Nat -> Out -> Out
  | [], u => u
  | k :: ks, u => match u.val with
    | some x => match lk u.upd k with
      | some (.row sz es) => match memB k u.rd with
        | false => frzU ks ⟨some (x.fz k sz es), mapHp (AV.fz k sz es) k u.upd, u.rt, u.rd⟩
        | true => frzU ks u
      | _ => frzU ks u
    | none => u
theorem frzU_ok {P : Program} {N : Nat} {R : Array Oper} {s : AS} {o : Oper} {d : Nat} (hd : o.dst = some d) : ∀ {ks : List Nat} {u : Out}, Step P N R s o u -> Step P N R s o (frzU ks u)
 | [], u, h => h
 | k :: ks, u, h => by
  unfold frzU
  split
  ·rename_i x hx
   split
   ·rename_i sz es hk
    split
    ·rename_i hm
     refine frzU_ok hd ?_
     obtain ⟨val, upd, rt, rd⟩ := u
     simp only at hx hk hm
     subst hx
     exact step_frzU hd hk (fun hh => by rw [memB_ok.2 hh] at hm; cases hm) h
    ·exact frzU_ok hd h
   ·exact frzU_ok hd h
  ·exact h
def opE (E : Env P) (F : CallF) (av fz : List Nat) (N : Nat) (R : List Oper) (s : AS) (o : Oper) : OR := match o.guard with
  | none => match o.dst with
    | some d => match Nat.blt d N with
      | true => match opD E F av s d o.op with
        | .ok u => .ok (frzU fz u)
        | r => r
      | false => .no
    | none => opN E F av s o.op
  | some (j, want) => match R[j]? with
    | some og => match og.dst with
      | some g => match o.dst with
        | some d => match Nat.blt d N with
          | true => match s.get g with
            | some (.v (.bool b)) => match b == want with
              | true => match opD E F av s d o.op with
                | .ok u => match (frzU fz u) with
                  | ⟨some x, upd, rt, rd⟩ => .ok ⟨some x, upd, g :: rt, rd⟩
                  | ⟨none, _, _, _⟩ => .no
                | r => r
              | false => .ok ⟨some (.opt false (.v (.bool false))), [], [g], []⟩
            | some (.opt false (.v (.bool b))) => .ok ⟨some (.opt false (.v (.bool false))), [], [g], []⟩
            | _ => .no
          | false => .no
        | none => .no
      | none => .no
    | none => .no
theorem opE_ok {E : Env P} {F : CallF} (hF : F.Ok P) {av fz : List Nat} {R : List Oper} {s : AS} {o : Oper} {u : Out} (h : opE E F av fz N R s o = .ok u) : Step P N R.toArray s o u := by
 obtain ⟨dst, op, ty, pos, after, guard⟩ := o
 unfold opE at h
 simp only at h
 split at h
 ·split at h
  ·split at h
   ·rename_i hN
    split at h
    ·rename_i u' h1; cases h; exact frzU_ok rfl (opD_ok hF h1 hN)
    ·rename_i hno; exact absurd h (hno u)
   ·cases h
  ·exact opN_ok hF h
 ·rename_i j want
  split at h
  ·rename_i og hog
   split at h
   ·rename_i g hg
    split at h
    ·rename_i d
     split at h
     ·rename_i hN
      have hj : (R.toArray[j]?).bind (·.dst) = some g := by simp [hog, hg]
      split at h
      ·rename_i b hb
       split at h
       ·rename_i hw
        split at h
        ·rename_i u' h1
         have hs := frzU_ok (ks := fz) rfl (opD_ok (R := R.toArray) (t := ty) (pos := pos) (after := after) hF h1 hN)
         split at h
         ·rename_i x upd rt rd hx
          cases h
          rw [hx] at hs
          have h2 := s_guardH (want := want) hj hb hN (fun hne => absurd (eq_of_beq hw) hne) (fun _ => hs)
          rw [hw] at h2
          exact h2.sub (.opt_true x)
         ·cases h
        ·rename_i hno; exact absurd h (hno u)
       ·rename_i hw
        cases h
        have h2 := s_guard (P := P) (op := op) (t := ty) (pos := pos) (after := after) (want := want) (x := .v (.bool false)) (rt := []) (rd := []) hj hb hN (fun e => by rw [e] at hw; simp at hw)
        rw [hw] at h2
        exact h2
      ·rename_i b hb
       cases h
       exact s_guardO (P := P) (op := op) (t := ty) (pos := pos) (after := after) (want := want) (x := .v (.bool false)) (rt := []) (rd := []) hj hb hN (fun e => by cases e)
      ·cases h
     ·cases h
    ·cases h
   ·cases h
  ·cases h
end Go.Lw
namespace Go.Lw
variable {P : Program} {N : Nat} [Inhabited (Tys P)]
theorem awp_postW {P : Program} {N : Nat} {c : Code} {Q Q' : Exit -> AS -> Prop} {s : AS} (h : AWP P N c Q s) (hq : ∀ e s, Q e s -> ∃ s', Wk s s' /\ Q' e s') : AWP P N c Q' s :=
 fun C m a w n hN hr => wpIn_mono (h C m a w n hN hr) fun e _ _ ⟨s', m', hQ, hr'⟩ => by
  obtain ⟨s2, hw, hQ'⟩ := hq e s' hQ
  obtain ⟨m2, hr2⟩ := hw C m' _ _ hr'
  exact ⟨s2, m2, hQ', hr2⟩
def dd {α : Type} : List Nat -> List (Nat × Option α) -> List (Nat × Option α)
  | _, [] => []
  | seen, (t, x) :: l => match memB t seen with
    | true => dd seen l
    | false => match x with
      | some v => (t, some v) :: dd (t :: seen) l
      | none => dd (t :: seen) l
theorem dd_ok {α : Type} : ∀ {l : List (Nat × Option α)} {seen : List Nat} {t : Nat} {x : α}, lk (dd seen l) t = some x -> t ∉ seen /\ lk l t = some x
 | [], seen, t, x, h => by cases h
 | (t', y) :: l, seen, t, x, h => by
  unfold dd at h
  rw [lk_cons]
  split at h
  ·rename_i hm
   obtain ⟨h1, h2⟩ := dd_ok h
   refine ⟨h1, ?_⟩
   rw [if_neg (fun (e : t = t') => h1 (by rw [e]; exact memB_ok.1 hm))]; exact h2
  ·rename_i hm
   have hm' : t' ∉ seen := fun hh => by rw [memB_ok.2 hh] at hm; cases hm
   split at h
   ·rw [lk_cons] at h
    split at h
    ·rename_i e; cases h; subst e; exact ⟨hm', by rw [if_pos rfl]⟩
    ·rename_i e
     obtain ⟨h1, h2⟩ := dd_ok h
     rw [if_neg e]
     exact ⟨fun hh => h1 (List.mem_cons_of_mem _ hh), h2⟩
   ·obtain ⟨h1, h2⟩ := dd_ok h
    have hne : t ≠ t' := fun e => h1 (by rw [e]; exact List.mem_cons_self ..)
    rw [if_neg hne]
    exact ⟨fun hh => h1 (List.mem_cons_of_mem _ hh), h2⟩
theorem wk_less {s : AS} {sl : Slots} {hp : Hp} (h1 : ∀ t x, lk sl t = some x -> lk s.sl t = some x) (h2 : ∀ k x, lk hp k = some x -> lk s.hp k = some x) : Wk s ⟨sl, hp⟩ :=
 fun C m a w hr => ⟨m, hr.weak (fun t x hx => ⟨x, h1 t x hx, .refl _⟩) (fun k x hx => ⟨x, h2 k x hx, .refl _⟩)⟩
def ddS (s : AS) : AS := ⟨dd [] s.sl, dd [] s.hp⟩
theorem wk_dd (s : AS) : Wk s (ddS s) := wk_less (fun t x h => (dd_ok h).2) (fun t x h => (dd_ok h).2)
def noK (k : Nat) : List Nat -> Slots -> Slots
  | _, [] => []
  | seen, (t, x) :: l => match memB t seen with
    | true => noK k seen l
    | false => match x with
      | some v => match memB k v.nm with
        | true => noK k (t :: seen) l
        | false => (t, some v) :: noK k (t :: seen) l
      | none => noK k (t :: seen) l
theorem noK_ok {k : Nat} : ∀ {l : Slots} {seen : List Nat} {t : Nat} {x : AV}, lk (noK k seen l) t = some x -> t ∉ seen /\ lk l t = some x
 | [], seen, t, x, h => by cases h
 | (t', y) :: l, seen, t, x, h => by
  unfold noK at h
  rw [lk_cons]
  have rest : ∀ {l' : Slots}, lk (noK k (t' :: seen) l) t = some x -> t ∉ seen /\ (if t = t' then y else lk l t) = some x := by
   intro _ h
   obtain ⟨h1, h2⟩ := noK_ok h
   rw [if_neg (fun (e : t = t') => h1 (by rw [e]; exact List.mem_cons_self ..))]
   exact ⟨fun hh => h1 (List.mem_cons_of_mem _ hh), h2⟩
  split at h
  ·rename_i hm
   obtain ⟨h1, h2⟩ := noK_ok h
   refine ⟨h1, ?_⟩
   rw [if_neg (fun (e : t = t') => h1 (by rw [e]; exact memB_ok.1 hm))]; exact h2
  ·rename_i hm
   have hm' : t' ∉ seen := fun hh => by rw [memB_ok.2 hh] at hm; cases hm
   split at h
   ·split at h
    ·exact rest (l' := l) h
    ·rw [lk_cons] at h
     split at h
     ·rename_i e; cases h; subst e; exact ⟨hm', by rw [if_pos rfl]⟩
     ·rename_i e
      obtain ⟨h1, h2⟩ := noK_ok h
      rw [if_neg e]
      exact ⟨fun hh => h1 (List.mem_cons_of_mem _ hh), h2⟩
   ·exact rest (l' := l) h
def rekS (s : AS) (k d : Nat) (y : Blk) : AS := ⟨mapSl (AV.rn k d) s.sl, renHp k d y s.hp⟩
def fixD (s : AS) (av : List Nat) (d : Nat) : Option AS := match s.freshB d with
  | true => some s
  | false => match s.blk d with
    | some y => match s.freshB (nxt s av) with
      | true => some (rekS s d (nxt s av) y)
      | false => none
    | none => some ⟨noK d [] s.sl, s.hp⟩
theorem fixD_ok {s s' : AS} {av : List Nat} {d : Nat} (h : fixD s av d = some s') : Wk s s' := by
 unfold fixD at h
 split at h
 ·cases h; exact .refl _
 ·split at h
  ·rename_i y hy
   split at h
   ·rename_i hf; cases h; exact Wk.rekey hy hf
   ·cases h
  ·cases h; exact wk_less (fun t x h => (noK_ok h).2) (fun _ _ h => h)
def newD (o : Oper) : Option Nat := match o.dst with
  | some d => match o.op with
    | .alloc _ => some d
    | .box _ _ => some d
    | .makeSlice _ _ _ => some d
    | .buildSlice _ 0 _ => some d
    | .slice _ _ _ _ (some _) => some d
    | .call ⟨.builtin .append, _, _⟩ => some d
    | _ => none
  | none => none
def prep (av : List Nat) : List Oper -> AS -> Option AS
  | [], s => some s
  | o :: os, s => match newD o with
    | some d => match fixD s av d with
      | some s' => prep av os s'
      | none => none
    | none => prep av os s
theorem prep_ok {av : List Nat} : ∀ {os : List Oper} {s s' : AS}, prep av os s = some s' -> Wk s s'
 | [], s, s', h => by cases h; exact .refl _
 | o :: os, s, s', h => by
  unfold prep at h
  split at h
  ·split at h
   ·rename_i h1; exact (fixD_ok h1).trans (prep_ok h)
   ·cases h
  ·exact prep_ok h
inductive RR where
  | ok (s : AS) (us : List Out)
  | need (k : Nat)
  | no
def nB {α : Type} : List α -> Bool
  | [] => true
  | _ => false
def opsE (E : Env P) (F : CallF) (av fz : List Nat) (N : Nat) (R : List Oper) : List Oper -> AS -> List Out -> RR
  | [], s, us => .ok s us
  | o :: os, s, us => match opE E F av fz N R s o with
    | .ok u => match nB u.upd || newOkB s u with
      | true => match s.app o.dst u with
        | ⟨sl, hp⟩ => opsE E F av fz N R os ⟨sl, hp⟩ (us ++ [u])
      | false => .no
    | .need k => .need k
    | .no => .no
theorem opsE_ok {E : Env P} {F : CallF} (hF : F.Ok P) {av fz : List Nat} {R : List Oper} : ∀ {os : List Oper} {s : AS} {us : List Out} {s' : AS} {us' : List Out}, opsE E F av fz N R os s us = .ok s' us' ->
  ARun P N R.toArray os s us (fun s2 us2 => s2 = s' /\ us2 = us')
 | [], s, us, s', us', h => by cases h; exact ⟨rfl, rfl⟩
 | o :: os, s, us, s', us', h => by
  unfold opsE at h
  split at h
  ·rename_i u hu
   split at h
   ·rename_i hn
    refine ⟨u, opE_ok hF hu, ?_, opsE_ok hF h⟩
    cases hu' : nB u.upd with
    | true =>
     intro k hk
     have : u.upd = [] := by cases hq : u.upd with | nil => rfl | cons a b => rw [hq] at hu'; cases hu'
     rw [this] at hk; cases hk
    | false => rw [hu'] at hn; exact newOk_of hn
   ·cases h
  ·cases h
  ·cases h
structure Sys where
  code : Nat -> Nat -> List Nat -> Code -> AS -> Option (Exit × AS)
  fn : Nat -> List Nat -> FuncId -> List AV -> Hp -> Option (AV × Hp)
def trF (S : Sys) (base : Nat) : CallF := fun av f xs H => match zipK base (H.map (·.1)) with
  | L => match S.fn (base + 100) av f (tA L xs) (tH L H) with
    | some (r, H') => some (rB L r, hB L H')
    | none => none
def isR (e : Exit) : Bool := match e with
  | .normal => true
  | _ => false
def frzS (s : AS) (k : Nat) : Option AS := match s.blk k with
  | some (.row sz es) => some ⟨mapSl (AV.fz k sz es) s.sl, mapHp (AV.fz k sz es) k s.hp⟩
  | _ => none
theorem frzS_ok {s s' : AS} {k : Nat} (h : frzS s k = some s') : Wk s s' := by
 unfold frzS at h
 split at h
 ·rename_i hk; cases h; exact Wk.freeze hk
 ·cases h
def regE (E : Env P) (F : CallF) (av : List Nat) (N : Nat) (A : List Oper) (d : Bool) : Nat -> List Nat -> AS -> Option AS
  | 0, _, _ => none
  | n + 1, fz, s0 => match opsE E F av fz N A A s0 [] with
    | .ok s' us => match d with
      | false => some s'
      | true => match chk A us s0 with
        | true => some s'
        | false => none
    | .need k => match frzS s0 k with
      | some ⟨sl, hp⟩ => regE E F av N A d n fz ⟨sl, hp⟩
      | none => match memB k fz with
        | true => none
        | false => regE E F av N A d n (k :: fz) s0
    | .no => none
theorem regE_ok {E : Env P} {F : CallF} (hF : F.Ok P) {av : List Nat} {id : Nat} {A : Array Oper} {d : Bool} (hnd : A.toList.all nd = true) : ∀ {n : Nat} {fz : List Nat} {s s1 : AS}, regE E F av N A.toList d n fz s = some s1 ->
  AWP P N (.region id A d) (fun e' s' => e' = .normal /\ s' = s1) s
 | 0, fz, s, s1, h => by cases h
 | n + 1, fz, s, s1, h => by
  unfold regE at h
  split at h
  ·rename_i s' us h1
   refine awp_reg (Q := fun e' s' => e' = .normal /\ s' = s1) (k := []) hnd (fun _ => (default : Tys P).mix) (arun_mono ?_ (opsE_ok hF h1))
   rintro s2 us2 ⟨hs, hu⟩
   rw [hs, hu]
   split at h
   ·obtain rfl := Option.some.inj h
    exact ⟨(fun e => by cases e), rfl, rfl⟩
   ·split at h
    ·rename_i hc
     obtain rfl := Option.some.inj h
     exact ⟨fun _ => hc, rfl, rfl⟩
    ·cases h
  ·split at h
   ·rename_i sl hp hf
    exact awp_weaken (frzS_ok hf) (regE_ok hF hnd h)
   ·split at h
    ·cases h
    ·exact regE_ok hF hnd h
  ·cases h
def codeS (E : Env P) (S : Sys) (N base : Nat) (av : List Nat) (c : Code) (s : AS) : Option (Exit × AS) := match c with
  | .skip => some (.normal, s)
  | .ret => some (.ret, s)
  | .exit id => some (.exit id, s)
  | .seq x y => match S.code N base av x s with
    | some (e, s1) => match isR e with
      | true => S.code N base av y s1
      | false => some (e, s1)
    | none => none
  | .block id c => match S.code N base av c s with
    | some (e, s1) => match e with
      | .exit id' => match Nat.beq id' id with
        | true => some (.normal, s1)
        | false => some (.exit id', s1)
      | e => some (e, s1)
    | none => none
  | .cond c x y => match rdC s c with
    | some (.v (.bool b)) => match b with
      | true => S.code N base av x s
      | false => S.code N base av y s
    | _ => none
  | .loop c => match S.code N base av c s with
    | some (e, s1) => match isR e with
      | true => match ddS s1 with
        | ⟨sl, hp⟩ => S.code N base av (.loop c) ⟨sl, hp⟩
      | false => some (e, s1)
    | none => none
  | .region id A d => match allNd A.toList with
    | true => match prep av A.toList s with
      | some s0 => match regE E (trF S base) av N A.toList d 20 [] s0 with
        | some s' => some (.normal, s')
        | none => none
      | none => none
    | false => none
  | _ => none
def renL (st : Nat) : List Nat -> AS -> Option AS
  | [], s => some s
  | k :: ks, s => match s.blk k with
    | some y => match srchK s 100 st with
      | d => match s.freshB d with
        | true => renL st ks (rekS s k d y)
        | false => none
    | none => none
theorem renL_ok {st : Nat} : ∀ {ks : List Nat} {s s' : AS}, renL st ks s = some s' -> Wk s s'
 | [], s, s', h => by cases h; exact .refl _
 | k :: ks, s, s', h => by
  unfold renL at h
  split at h
  ·rename_i y hy
   simp only at h
   split at h
   ·rename_i hf; exact (Wk.rekey (s := s) hy hf).trans (renL_ok h)
   ·cases h
  ·cases h
def cnt : Nat -> List Nat -> List Nat
  | _, [] => []
  | n, _ :: l => n :: cnt (n + 1) l
def loc : List Nat -> List Nat
  | [] => []
  | k :: ks => match Nat.blt k 1000 with
    | true => k :: loc ks
    | false => loc ks
def selS (sl : Slots) : List Nat -> Slots
  | [] => []
  | t :: ts => match lk sl t with
    | some x => (t, some x) :: selS sl ts
    | none => selS sl ts
theorem selS_ok {sl : Slots} : ∀ {ts : List Nat} {t : Nat} {x : AV}, lk (selS sl ts) t = some x -> lk sl t = some x
 | [], t, x, h => by cases h
 | t' :: ts, t, x, h => by
  unfold selS at h
  split at h
  ·rename_i y hy
   rw [lk_cons] at h
   split at h
   ·rename_i e; cases h; rw [e]; exact hy
   ·exact selS_ok h
  ·exact selS_ok h
def rsT : List ResultVar -> List Nat
  | [] => []
  | r :: rs => (match r with
    | .tmp t => t
    | .cell t _ => t) :: rsT rs
def finR (P : Program) [Inhabited (Tys P)] (rs : List ResultVar) (Hk : List Nat) (s : AS) : Option (AV × Hp) := match resL P s rs with
  | some ys => some (resT ys, pkH s (reach s 300 (AV.nms ys ++ Hk) []))
  | none => none
theorem finR_ok {rs : List ResultVar} {Hk : List Nat} {s : AS} {r : AV} {H' : Hp} (h : finR P rs Hk s = some (r, H')) : ∃ xs, ResL P s rs xs /\ Fin s (resT xs) r H' := by
 unfold finR at h
 split at h
 ·rename_i ys hy
  cases h
  exact ⟨ys, resL_ok hy, .keep (fun k z hz => pkH_ok hz)⟩
 ·cases h
def finS (P : Program) [Inhabited (Tys P)] (av : List Nat) (rs : List ResultVar) (Hk : List Nat) (s : AS) : Option (AV × Hp) := match reach s 300 (AV.nms ((selS s.sl (rsT rs)).filterMap (·.2)) ++ Hk) [] with
  | K => match loc K with
    | [] => finR P rs Hk s
    | k :: ks => match renL 700 (k :: ks) ⟨selS s.sl (rsT rs), pkH s K⟩ with
      | some s2 => match renL (mx 299 av + 1) (cnt 700 (k :: ks)) s2 with
        | some s3 => finR P rs Hk s3
        | none => none
      | none => none
theorem finS_ok {av : List Nat} {rs : List ResultVar} {Hk : List Nat} {s : AS} {r : AV} {H' : Hp} (h : finS P av rs Hk s = some (r, H')) : ∃ s2, Wk s s2 /\ ∃ xs, ResL P s2 rs xs /\ Fin s2 (resT xs) r H' := by
 unfold finS at h
 simp only at h
 split at h
 ·exact ⟨s, .refl _, finR_ok h⟩
 ·split at h
  ·rename_i s2 h2
   split at h
   ·rename_i s3 h3
    exact ⟨s3, ((wk_less (fun t x => selS_ok) (fun k x => pkH_ok)).trans (renL_ok h2)).trans (renL_ok h3), finR_ok h⟩
   ·cases h
  ·cases h
def allGe : Hp -> Bool
  | [] => true
  | (k, _) :: l => Nat.ble 1000 k && allGe l
theorem allGe_ok : ∀ {H : Hp} {k : Nat} {z : Blk}, allGe H = true -> lk H k = some z -> 1000 <= k
 | [], k, z, _, h => by cases h
 | (k', x) :: l, k, z, h0, h => by
  simp only [allGe, Bool.and_eq_true, Nat.ble_eq] at h0
  rw [lk_cons] at h
  split at h
  ·rename_i e; rw [e]; exact h0.1
  ·exact allGe_ok h0.2 h
def fnS (E : Env P) (S : Sys) (base : Nat) (av : List Nat) (f : FuncId) (xs : List AV) (H : Hp) : Option (AV × Hp) := match E.fe f with
  | some fe => match Nat.beq fe.f f && allGe H with
    | true => match initF 0 xs with
      | some sl => match S.code fe.fn.ntmps base av fe.c ⟨sl, H⟩ with
        | some (e, s1) => match isEnd e with
          | true => finS P av fe.rs (H.map (·.1)) s1
          | false => none
        | none => none
      | none => none
    | false => none
  | none => none
def ev (E : Env P) (n : Nat) : Sys := Nat.rec ⟨fun _ _ _ _ _ => none, fun _ _ _ _ _ => none⟩ (fun _ S => ⟨codeS E S, fnS E S⟩) n
structure SysOk (P : Program) (S : Sys) : Prop where
  code : ∀ N base av c s e s1, S.code N base av c s = some (e, s1) -> AWP P N c (fun e' s' => e' = e /\ s' = s1) s
  fn : ∀ base av f xs H r H', S.fn base av f xs H = some (r, H') -> Con P f xs H r H'
theorem trF_ok {P : Program} {S : Sys} (h : SysOk P S) (base : Nat) : (trF S base).Ok P := by
 intro av f xs H r H' h1
 unfold trF at h1
 simp only at h1
 split at h1
 ·rename_i h2; cases h1; exact conT (h.fn _ _ _ _ _ _ _ h2)
 ·cases h1
theorem fnS_ok {E : Env P} {S : Sys} (h : SysOk P S) {base : Nat} {av : List Nat} {f : FuncId} {xs : List AV} {H H' : Hp} {r : AV} (h1 : fnS E S base av f xs H = some (r, H')) : Con P f xs H r H' := by
 unfold fnS at h1
 split at h1
 ·rename_i fe hfe
  split at h1
  ·rename_i hc
   simp only [Bool.and_eq_true] at hc
   have hf := Nat.eq_of_beq_eq_true hc.1
   subst hf
   split at h1
   ·rename_i sl hsl
    cases initF_ok hsl
    split at h1
    ·rename_i e s1 h2
     split at h1
     ·rename_i he
      refine con_of fe.hf fe.hb fe.hn fe.hrs rfl (fun k z hz => allGe_ok hc.2 hz) ?_
      refine awp_postW (h.code _ _ _ _ _ _ _ h2) ?_
      rintro e' s' ⟨he', hs'⟩
      rw [he', hs']
      obtain ⟨s2, hw, hx⟩ := finS_ok h1
      refine ⟨s2, hw, ?_⟩
      cases e <;> first | exact hx | exact (nomatch he)
     ·cases h1
    ·cases h1
   ·cases h1
  ·cases h1
 ·cases h1
theorem ev_ok (E : Env P) : ∀ n m, m <= n -> SysOk P (ev E m)
 | 0, m, hm => by
  have : m = 0 := by omega
  subst this
  exact { code := (fun _ _ _ _ _ _ _ h => by cases h), fn := (fun _ _ _ _ _ _ _ h => by cases h) }
 | n + 1, m, hm => by
  by_cases hmn : m <= n
  ·exact ev_ok E n m hmn
  ·have : m = n + 1 := by omega
   subst this
   have ih := ev_ok E n n (Nat.le_refl _)
   refine ⟨?_, fun base av f xs H r H' h => fnS_ok ih h⟩
   intro N base av c s e s1 h
   change codeS E (ev E n) N base av c s = some (e, s1) at h
   cases c with
   | skip => cases h; exact awp_skip ⟨rfl, rfl⟩
   | ret => cases h; exact awp_ret ⟨rfl, rfl⟩
   | exit id => cases h; exact awp_exit ⟨rfl, rfl⟩
   | seq x y =>
    simp only [codeS] at h
    split at h
    ·rename_i e1 s2 h1
     refine awp_seq fun K hK => awp_mono (ih.code _ _ _ _ _ _ _ h1) ?_
     rintro e' s' ⟨he, hs⟩
     rw [he, hs]
     split at h
     ·rename_i hr
      cases e1 <;> first | exact hK _ (ih.code _ _ _ _ _ _ _ h) | exact (nomatch hr)
     ·rename_i hr
      obtain ⟨rfl, rfl⟩ := Prod.mk.inj (Option.some.inj h)
      cases e1 <;> first | exact ⟨rfl, rfl⟩ | exact (nomatch hr)
    ·cases h
   | block id c =>
    simp only [codeS] at h
    split at h
    ·rename_i e1 s2 h1
     refine awp_block (awp_mono (ih.code _ _ _ _ _ _ _ h1) ?_)
     rintro e' s' ⟨he, hs⟩
     rw [he, hs]
     split at h
     ·rename_i id'
      show match Nat.beq id' id with | true => _ | false => _
      split at h
      ·rename_i hb
       obtain ⟨rfl, rfl⟩ := Prod.mk.inj (Option.some.inj h)
       simp only []; exact ⟨trivial, trivial⟩
      ·rename_i hb
       obtain ⟨rfl, rfl⟩ := Prod.mk.inj (Option.some.inj h)
       simp only []; exact ⟨trivial, trivial⟩
     ·rename_i hne
      obtain ⟨rfl, rfl⟩ := Prod.mk.inj (Option.some.inj h)
      cases e1 <;> first | exact ⟨rfl, rfl⟩ | exact absurd rfl (hne _)
    ·cases h
   | cond c x y =>
    simp only [codeS] at h
    split at h
    ·rename_i b hb
     split at h
     ·exact awp_cond (rdC_ok hb) (fun _ => ih.code _ _ _ _ _ _ _ h) (fun e => by cases e)
     ·exact awp_cond (rdC_ok hb) (fun e => by cases e) (fun _ => ih.code _ _ _ _ _ _ _ h)
    ·cases h
   | loop c =>
    refine awp_loop (fun m s => m <= n + 1 /\ (ev E m).code N base av (.loop c) s = some (e, s1)) (n := n + 1) (.refl _) ⟨Nat.le_refl _, h⟩ ?_
    rintro m s ⟨hm, hI⟩ K hK
    cases m with
    | zero => cases hI
    | succ m =>
     change codeS E (ev E m) N base av (.loop c) s = some (e, s1) at hI
     have ihm := ev_ok E n m (by omega)
     simp only [codeS] at hI
     split at hI
     ·rename_i e1 s2 h1
      refine awp_mono (ihm.code _ _ _ _ _ _ _ h1) ?_
      rintro e' s' ⟨he, hs⟩
      rw [he, hs]
      split at hI
      ·rename_i hr
       cases e1 <;> first | exact hK _ _ m (wk_dd s2) ⟨by omega, hI⟩ (by omega) | exact (nomatch hr)
      ·rename_i hr
       obtain ⟨rfl, rfl⟩ := Prod.mk.inj (Option.some.inj hI)
       cases e1 <;> first | exact ⟨rfl, rfl⟩ | exact (nomatch hr)
     ·cases hI
   | region id A d =>
    simp only [codeS] at h
    split at h
    ·rename_i hnd
     split at h
     ·rename_i s0 h0
      refine awp_weaken (prep_ok h0) ?_
      split at h
      ·rename_i s' h1
       obtain ⟨rfl, rfl⟩ := Prod.mk.inj (Option.some.inj h)
       exact regE_ok (trF_ok ih base) (allNd_ok hnd) h1
      ·cases h
     ·cases h
    ·cases h
   | _ => cases h
theorem ev_fn (E : Env P) (n : Nat) {base : Nat} {av : List Nat} {f : FuncId} {xs : List AV} {H H' : Hp} {r : AV} (h : (ev E n).fn base av f xs H = some (r, H')) : Con P f xs H r H' :=
 (ev_ok E n n (Nat.le_refl _)).fn _ _ _ _ _ _ _ h
end Go.Lw
namespace Go.Lw
structure Gr where
  kind : Int
  bodies : List Int
  joints : List Int
  driver : Int
instance : Inhabited Gr := ⟨⟨0, [], [], 0⟩⟩
def Gr.av (g : Gr) : AV := .agg [i64 g.kind, .lst 1 (g.bodies.map i64), .lst 1 (g.joints.map i64), i64 g.driver]
def kn (k : List Bool) (i : Int) : Bool := k.getD i.toNat false
def onlyK (n : Nat) (b : Int) : List Bool := (List.replicate n false).set b.toNat true
def drivenB (l : Li) (b : Int) : Bool := l.drivers.any (fun d => decide (d.body = b))
def freeB (l : Li) (known : List Bool) (b : Int) : Bool := !kn known b && !drivenB l b
def jHit (kind body : Int) (oth : List Bool) (j : Jt) : Bool := decide (j.kind = kind) && (decide (j.a = body) && kn oth j.b || decide (j.b = body) && kn oth j.a)
def jointI (l : Li) (kind body : Int) (oth : List Bool) : Int := ixI (firstB l.joints.length (fun i => !jHit kind body oth (l.joints.getD i default)))
def drHit (l : Li) (known : List Bool) (i : Nat) : Bool := !kn known (l.drivers.getD i default).body && decide (0 <= jointI l 0 (l.drivers.getD i default).body known)
def driverG (l : Li) (known : List Bool) : Option Gr :=
  (firstB l.drivers.length (fun i => !drHit l known i)).map fun i => ⟨0, [(l.drivers.getD i default).body], [jointI l 0 (l.drivers.getD i default).body known], i⟩
def prHit (l : Li) (known : List Bool) (i k : Nat) : Bool :=
  (freeB l known i && freeB l known k) && (decide (0 <= jointI l 0 i known) && decide (0 <= jointI l 0 k known) && decide (0 <= jointI l 0 i (onlyK l.bodies.length k)))
def prAt (l : Li) (known : List Bool) (i : Nat) : Option Nat := (firstB (l.bodies.length - (i + 1)) (fun k => !prHit l known i (i + 1 + k))).map (· + (i + 1))
def prG (l : Li) (known : List Bool) (i k : Nat) : Gr := ⟨1, [i, k], [jointI l 0 i known, jointI l 0 k known, jointI l 0 i (onlyK l.bodies.length k)], 0⟩
def pairG (l : Li) (known : List Bool) : Option Gr :=
  (firstB l.bodies.length (fun i => (prAt l known i).isNone)).map fun i => match prAt l known i with
    | some k => prG l known i k
    | none => default
def sgHit (l : Li) (known : List Bool) (i : Nat) : Bool := freeB l known i && (decide (0 <= jointI l 0 i known) && decide (0 <= jointI l 1 i known))
def sgG (l : Li) (known : List Bool) (i : Nat) : Gr :=
  ⟨if (l.joints.getD (jointI l 1 i known).toNat default).a = i then 2 else 3, [i], [jointI l 0 i known, jointI l 1 i known], 0⟩
def singleG (l : Li) (known : List Bool) : Option Gr := (firstB l.bodies.length (fun i => !sgHit l known i)).map (sgG l known)
def nextG (l : Li) (known : List Bool) : Option Gr := (driverG l known).or ((pairG l known).or (singleG l known))
def markAll (known : List Bool) (bs : List Int) : List Bool := bs.foldl (fun k b => k.set b.toNat true) known
def findFrom (l : Li) : Nat -> List Bool -> List Gr -> List Bool × List Gr
  | 0, known, out => (known, out)
  | n + 1, known, out => match nextG l known with
    | none => (known, out)
    | some g => findFrom l n (markAll known g.bodies) (out ++ [g])
def findG (l : Li) : List Gr := (findFrom l l.bodies.length (onlyK l.bodies.length 0) []).2
def restK (l : Li) : List Bool := (findG l).foldl (fun k g => markAll k g.bodies) (onlyK l.bodies.length 0)
def restJ (l : Li) : List Bool := (findG l).foldl (fun k g => markAll k g.joints) (List.replicate l.joints.length false)
def unmarked (k : List Bool) : List Int := ((List.range k.length).filter (fun i => !k.getD i false)).map (fun i : Nat => ((i : Nat) : Int))
def splitE (l : Li) : Nat := if (unmarked (restK l)).length + (unmarked (restJ l)).length = 0 then 0 else 7
def splitG (l : Li) : List Gr := if splitE l = 0 then findG l else []
theorem len_only (n : Nat) (b : Int) : (onlyK n b).length = n := by unfold onlyK; simp
theorem len_mark : ∀ (bs : List Int) (k : List Bool), (markAll k bs).length = k.length
 | [], k => rfl
 | b :: bs, k => by
  show (markAll (k.set b.toNat true) bs).length = _
  rw [len_mark bs]; simp
theorem firstB_some {n i : Nat} {ok : Nat -> Bool} (h : firstB n ok = some i) : i < n /\ ok i = false := by
 unfold firstB at h
 rw [List.find?_range_eq_some] at h
 exact ⟨by simpa using h.2.1, by simpa using h.1⟩
theorem jointI_lt {l : Li} {kind body : Int} {oth : List Bool} : -1 <= jointI l kind body oth /\ jointI l kind body oth < l.joints.length := by
 unfold jointI
 cases h : firstB l.joints.length (fun i => !jHit kind body oth (l.joints.getD i default)) with
 | none => exact ⟨by decide, by show (-1 : Int) < _; omega⟩
 | some i => have := (firstB_some h).1; exact ⟨by show (-1 : Int) <= (i : Int); omega, by show (i : Int) < _; omega⟩
structure GrOk (l : Li) (g : Gr) : Prop where
  b : ∀ x ∈ g.bodies, 0 <= x /\ x < l.bodies.length
  j : ∀ x ∈ g.joints, 0 <= x /\ x < l.joints.length
  lb : g.bodies.length <= 2
  lj : g.joints.length <= 3
theorem driverG_ok {l : Li} (hl : liE l = 0) {known : List Bool} {g : Gr} (h : driverG l known = some g) : GrOk l g := by
 unfold driverG at h
 rw [Option.map_eq_some_iff] at h
 obtain ⟨i, hi, rfl⟩ := h
 obtain ⟨h1, h2⟩ := firstB_some hi
 obtain ⟨d, hd⟩ := getx h1
 have h3 := inB_t (dr_in hl hd)
 unfold drHit at h2
 simp only [Bool.not_eq_false', Bool.and_eq_true, decide_eq_true_eq] at h2
 rw [getD_of hd] at h2 ⊢
 have h4 := jointI_lt (l := l) (kind := 0) (body := d.body) (oth := known)
 refine ⟨fun x hx => ?_, fun x hx => ?_, by simp, by simp⟩
 ·rw [List.mem_singleton.1 hx]; exact h3
 ·rw [List.mem_singleton.1 hx]; exact ⟨h2.2, h4.2⟩
theorem pairG_ok {l : Li} {known : List Bool} {g : Gr} (h : pairG l known = some g) : GrOk l g := by
 unfold pairG at h
 rw [Option.map_eq_some_iff] at h
 obtain ⟨i, hi, h⟩ := h
 obtain ⟨h1, h2⟩ := firstB_some hi
 split at h
 ·rename_i k hk
  subst h
  unfold prAt at hk
  rw [Option.map_eq_some_iff] at hk
  obtain ⟨k', hk', rfl⟩ := hk
  obtain ⟨h3, h4⟩ := firstB_some hk'
  rw [show i + 1 + k' = k' + (i + 1) by omega] at h4
  unfold prHit at h4
  simp only [Bool.not_eq_false', Bool.and_eq_true, decide_eq_true_eq] at h4
  obtain ⟨_, ⟨j1, j2⟩, j3⟩ := h4
  refine ⟨fun x hx => ?_, fun x hx => ?_, by simp [prG], by simp [prG]⟩
  ·simp only [prG, List.mem_cons, List.not_mem_nil, or_false] at hx
   rcases hx with rfl | rfl <;> constructor <;> omega
  ·simp only [prG, List.mem_cons, List.not_mem_nil, or_false] at hx
   rcases hx with rfl | rfl | rfl
   ·exact ⟨j1, jointI_lt.2⟩
   ·exact ⟨j2, jointI_lt.2⟩
   ·exact ⟨j3, jointI_lt.2⟩
 ·rename_i hk; rw [hk] at h2; cases h2
theorem singleG_ok {l : Li} {known : List Bool} {g : Gr} (h : singleG l known = some g) : GrOk l g := by
 unfold singleG at h
 rw [Option.map_eq_some_iff] at h
 obtain ⟨i, hi, rfl⟩ := h
 obtain ⟨h1, h2⟩ := firstB_some hi
 unfold sgHit at h2
 simp only [Bool.not_eq_false', Bool.and_eq_true, decide_eq_true_eq] at h2
 obtain ⟨_, j1, j2⟩ := h2
 refine ⟨fun x hx => ?_, fun x hx => ?_, by simp [sgG], by simp [sgG]⟩
 ·simp only [sgG, List.mem_cons, List.not_mem_nil, or_false] at hx
  subst hx; constructor <;> omega
 ·simp only [sgG, List.mem_cons, List.not_mem_nil, or_false] at hx
  rcases hx with rfl | rfl
  ·exact ⟨j1, jointI_lt.2⟩
  ·exact ⟨j2, jointI_lt.2⟩
theorem nextG_ok {l : Li} (hl : liE l = 0) {known : List Bool} {g : Gr} (h : nextG l known = some g) : GrOk l g := by
 unfold nextG at h
 cases h1 : driverG l known with
 | some g' => rw [h1] at h; cases h; exact driverG_ok hl h1
 | none =>
  rw [h1] at h
  cases h2 : pairG l known with
  | some g' => rw [h2] at h; cases h; exact pairG_ok h2
  | none => rw [h2] at h; exact singleG_ok h
theorem findFrom_ok {l : Li} (hl : liE l = 0) : ∀ (n : Nat) (known : List Bool) (out : List Gr), (∀ g ∈ out, GrOk l g) -> (∀ g ∈ (findFrom l n known out).2, GrOk l g) /\ (findFrom l n known out).2.length <= out.length + n
 | 0, known, out, h => ⟨h, by simp [findFrom]⟩
 | n + 1, known, out, h => by
  unfold findFrom
  cases hg : nextG l known with
  | none => exact ⟨h, by simp⟩
  | some g =>
   have h1 := findFrom_ok hl n (markAll known g.bodies) (out ++ [g]) (fun x hx => by
    rcases List.mem_append.1 hx with hx | hx
    ·exact h x hx
    ·rw [List.mem_singleton.1 hx]; exact nextG_ok hl hg)
   refine ⟨h1.1, ?_⟩
   have := h1.2
   rw [List.length_append] at this
   show (findFrom l n (markAll known g.bodies) (out ++ [g])).2.length <= _
   simp only [List.length_cons, List.length_nil] at this
   omega
theorem findG_ok {l : Li} (hl : liE l = 0) : (∀ g ∈ findG l, GrOk l g) /\ (findG l).length <= 8 := by
 have h := findFrom_ok hl l.bodies.length (onlyK l.bodies.length 0) [] (fun g hg => by cases hg)
 have h8 := (li_parts hl).2.2.2.1
 exact ⟨h.1, by have := h.2; simp only [List.length_nil] at this; unfold findG; omega⟩
end Go.Lw
namespace Go.Lw
def otherI (j : Jt) (b : Int) : Int := if b = j.a then j.b else if b = j.b then j.a else -1
def gHit (kind body : Int) (p : Int -> Bool) (j : Jt) : Bool := decide (j.kind = kind) && (decide (0 <= otherI j body) && p (otherI j body))
def gJ (l : Li) (kind body : Int) (p : Int -> Bool) : Int := ixI (firstB l.joints.length (fun i => !gHit kind body p (l.joints.getD i default)))
theorem g_in {b : Bool} {z : Int} (h : cond b (icmp .geq z 0) false = true) : 0 <= z := by
 cases b
 ·cases h
 ·exact of_decide_eq_true h
theorem g_cond {a k z : Int} {q : Bool} : cond (cond (icmp .eql a k) (icmp .geq z 0) false) q false = (decide (a = k) && (decide (0 <= z) && q)) := by
 rw [int_eqb, show icmp .geq z 0 = decide (0 <= z) from rfl, and_cond, and_cond, Bool.and_assoc]
theorem other_lt {l : Li} (hli : liE l = 0) {i : Nat} {j : Jt} (hj : l.joints[i]? = some j) (b : Int) : otherI j b < l.bodies.length := by
 obtain ⟨i1, i2, _⟩ := jt_in hli hj
 have b1 := inB_t i1
 have b2 := inB_t i2
 unfold otherI
 split
 ·omega
 ·split <;> omega
theorem firstB_congr {n : Nat} {ok ok' : Nat -> Bool} (h : ∀ i, i < n -> ok i = ok' i) : firstB n ok = firstB n ok' := by
 unfold firstB
 have : ∀ l : List Nat, (∀ i ∈ l, i < n) -> l.find? (fun i => !ok i) = l.find? (fun i => !ok' i) := by
  intro l
  induction l with
  | nil => intro _; rfl
  | cons a l ih =>
   intro hl
   simp only [List.find?_cons, h a (hl a (by simp)), ih (fun i hi => hl i (by simp [hi]))]
 exact this _ (fun i hi => List.mem_range.1 hi)
theorem gJ_eq {l : Li} (hli : liE l = 0) {kind body : Int} {p : Int -> Bool} {oth : List Bool} (h : ∀ o : Int, 0 <= o -> o < l.bodies.length -> p o = kn oth o) : gJ l kind body p = jointI l kind body oth := by
 unfold gJ jointI
 rw [firstB_congr]
 intro i hi
 obtain ⟨j, hj⟩ := getx hi
 rw [getD_of hj]
 obtain ⟨i1, i2, _⟩ := jt_in hli hj
 have b1 := inB_t i1
 have b2 := inB_t i2
 congr 1
 unfold gHit jHit
 congr 1
 unfold otherI
 by_cases h1 : body = j.a
 ·subst h1
  rw [if_pos rfl, h _ b2.1 b2.2]
  by_cases h2 : j.b = j.a
  ·simp [h2, b1.1]
  ·simp [h2, b2.1]
 ·rw [if_neg h1]
  by_cases h2 : body = j.b
  ·subst h2
   rw [if_pos rfl, h _ b1.1 b1.2]
   have h3 : ¬ j.a = j.b := fun e => h1 e.symm
   simp [h3, b1.1]
  ·rw [if_neg h2]
   have h3 : ¬ j.a = body := fun e => h1 e.symm
   have h4 : ¬ j.b = body := fun e => h2 e.symm
   simp [h3, h4]
theorem kn_set {k : List Bool} {i : Nat} {b : Int} (h0 : 0 <= b) (hi : i < k.length) : kn (k.set i true) b = (decide (b = i) || kn k b) := by
 unfold kn
 rw [List.getD_eq_getElem?_getD, List.getElem?_set, List.getD_eq_getElem?_getD]
 by_cases h : b = i
 ·rw [decide_eq_true h, Bool.true_or, if_pos (by omega)]
  rw [if_pos (by omega)]; rfl
 ·rw [decide_eq_false h, Bool.false_or, if_neg (by omega)]
theorem kn_mark : ∀ {bs : List Int} {k : List Bool} {b : Int}, 0 <= b -> (∀ x ∈ bs, 0 <= x /\ x < k.length) -> kn (markAll k bs) b = (bs.any (fun x => decide (x = b)) || kn k b)
 | [], k, b, h0, h => by simp [markAll]
 | x :: bs, k, b, h0, h => by
  show kn (markAll (k.set x.toNat true) bs) b = _
  obtain ⟨hx0, hx1⟩ := h x (by simp)
  rw [kn_mark h0 (fun y hy => by rw [List.length_set]; exact h y (by simp [hy])), kn_set h0 (by omega), List.any_cons]
  have e : decide (b = (x.toNat : Int)) = decide (x = b) := decide_eq_decide.2 (by omega)
  rw [e]
  cases decide (x = b) <;> simp
theorem kn_false (n : Nat) (b : Int) : kn (List.replicate n false) b = false := by
 unfold kn
 rw [List.getD_eq_getElem?_getD, List.getElem?_replicate]
 split <;> rfl
def drivenL (l : Li) : List Bool := markAll (List.replicate l.bodies.length false) (l.drivers.map Dr.body)
theorem len_driven (l : Li) : (drivenL l).length = l.bodies.length := by unfold drivenL; rw [len_mark, List.length_replicate]
theorem kn_driven {l : Li} (hli : liE l = 0) {b : Int} (h0 : 0 <= b) : kn (drivenL l) b = drivenB l b := by
 unfold drivenL drivenB
 rw [kn_mark h0, kn_false, Bool.or_false, List.any_map]
 ·rfl
 ·intro x hx
  obtain ⟨d, hd, rfl⟩ := List.mem_map.1 hx
  obtain ⟨i, hi⟩ := List.mem_iff_getElem?.1 hd
  have := inB_t (dr_in hli hi)
  rw [List.length_replicate]; omega
theorem kn_only {n : Nat} {b o : Int} (h0 : 0 <= o) (hb0 : 0 <= b) (hb : b < n) : kn (onlyK n b) o = decide (o = b) := by
 unfold onlyK
 rw [kn_set h0 (by rw [List.length_replicate]; omega), kn_false, Bool.or_false]
 exact decide_eq_decide.2 (by omega)
def unk (k : List Bool) : Nat := k.countP (fun x => !x)
theorem unk_set {k : List Bool} {i : Nat} (h : k[i]? = some false) : unk (k.set i true) + 1 = unk k := by
 unfold unk
 have hi := (List.getElem?_eq_some_iff.1 h).1
 have he := (List.getElem?_eq_some_iff.1 h).2
 rw [List.countP_set hi, he]
 have : 0 < k.countP (fun x => !x) := List.countP_pos_iff.2 ⟨false, List.mem_of_getElem? h, rfl⟩
 simp; omega
theorem unk_set_le (k : List Bool) (i : Nat) : unk (k.set i true) <= unk k := by
 by_cases hi : i < k.length
 ·unfold unk; rw [List.countP_set hi]; simp
 ·rw [List.set_eq_of_length_le (by omega)]; exact Nat.le_refl _
theorem unk_mark_le : ∀ (bs : List Int) (k : List Bool), unk (markAll k bs) <= unk k
 | [], k => Nat.le_refl _
 | x :: bs, k => Nat.le_trans (unk_mark_le bs (k.set x.toNat true)) (unk_set_le k _)
theorem unk_mark {x : Int} {bs : List Int} {k : List Bool} (h : k[x.toNat]? = some false) : unk (markAll k (x :: bs)) < unk k := by
 have h1 := unk_mark_le bs (k.set x.toNat true)
 have h2 := unk_set h
 show unk (markAll (k.set x.toNat true) bs) < _
 omega
theorem kn_get {k : List Bool} {b : Int} (h : kn k b = false) (h1 : b.toNat < k.length) : k[b.toNat]? = some false := by
 unfold kn at h
 rw [List.getD_eq_getElem?_getD, List.getElem?_eq_getElem h1] at h
 rw [List.getElem?_eq_getElem h1]
 simpa using h
theorem nextG_new {l : Li} (hl : liE l = 0) {known : List Bool} (hk : known.length = l.bodies.length) {g : Gr} (h : nextG l known = some g) : ∃ x bs, g.bodies = x :: bs /\ known[x.toNat]? = some false := by
 unfold nextG at h
 cases h1 : driverG l known with
 | some g' =>
  rw [h1] at h; cases h
  unfold driverG at h1
  rw [Option.map_eq_some_iff] at h1
  obtain ⟨i, hi, rfl⟩ := h1
  obtain ⟨h2, h3⟩ := firstB_some hi
  obtain ⟨d, hd⟩ := getx h2
  have h4 := inB_t (dr_in hl hd)
  rw [getD_of hd] at *
  unfold drHit at h3
  rw [getD_of hd] at h3
  simp only [Bool.not_eq_false', Bool.and_eq_true, Bool.not_eq_true', decide_eq_true_eq] at h3
  exact ⟨_, _, rfl, kn_get h3.1 (by omega)⟩
 | none =>
  rw [h1] at h
  cases h2 : pairG l known with
  | some g' =>
   rw [h2] at h; cases h
   unfold pairG at h2
   rw [Option.map_eq_some_iff] at h2
   obtain ⟨i, hi, h2⟩ := h2
   obtain ⟨h3, h4⟩ := firstB_some hi
   split at h2
   ·rename_i k hk'
    subst h2
    unfold prAt at hk'
    rw [Option.map_eq_some_iff] at hk'
    obtain ⟨k', hk', rfl⟩ := hk'
    obtain ⟨h5, h6⟩ := firstB_some hk'
    unfold prHit freeB at h6
    simp only [Bool.not_eq_false', Bool.and_eq_true, Bool.not_eq_true', decide_eq_true_eq] at h6
    exact ⟨_, _, rfl, kn_get h6.1.1.1 (by omega)⟩
   ·rename_i hk'; rw [hk'] at h4; cases h4
  | none =>
   rw [h2] at h
   have h : singleG l known = some g := h
   unfold singleG at h
   rw [Option.map_eq_some_iff] at h
   obtain ⟨i, hi, rfl⟩ := h
   obtain ⟨h3, h4⟩ := firstB_some hi
   unfold sgHit freeB at h4
   simp only [Bool.not_eq_false', Bool.and_eq_true, Bool.not_eq_true', decide_eq_true_eq] at h4
   exact ⟨_, _, rfl, kn_get h4.1.1 (by omega)⟩
theorem nextG_less {l : Li} (hl : liE l = 0) {known : List Bool} (hk : known.length = l.bodies.length) {g : Gr} (h : nextG l known = some g) : unk (markAll known g.bodies) < unk known := by
 obtain ⟨x, bs, e, h1⟩ := nextG_new hl hk h
 rw [e]; exact unk_mark h1
theorem findFrom_more {l : Li} (hl : liE l = 0) : ∀ (n m : Nat) (known : List Bool) (out : List Gr), known.length = l.bodies.length -> unk known <= n -> unk known <= m -> findFrom l n known out = findFrom l m known out
 | 0, 0, known, out, hk, h1, h2 => rfl
 | 0, m + 1, known, out, hk, h1, h2 => by
  unfold findFrom
  cases hg : nextG l known with
  | none => rfl
  | some g => have := nextG_less hl hk hg; omega
 | n + 1, 0, known, out, hk, h1, h2 => by
  unfold findFrom
  cases hg : nextG l known with
  | none => rfl
  | some g => have := nextG_less hl hk hg; omega
 | n + 1, m + 1, known, out, hk, h1, h2 => by
  unfold findFrom
  cases hg : nextG l known with
  | none => rfl
  | some g =>
   have := nextG_less hl hk hg
   exact findFrom_more hl n m _ _ (by rw [len_mark]; exact hk) (by omega) (by omega)
theorem findFrom_known {l : Li} : ∀ (n : Nat) (known : List Bool) (out : List Gr), ∃ gs, findFrom l n known out = (gs.foldl (fun k g => markAll k g.bodies) known, out ++ gs)
 | 0, known, out => ⟨[], by simp [findFrom]⟩
 | n + 1, known, out => by
  unfold findFrom
  cases hg : nextG l known with
  | none => exact ⟨[], by simp⟩
  | some g =>
   obtain ⟨gs, e⟩ := findFrom_known n (markAll known g.bodies) (out ++ [g])
   exact ⟨g :: gs, by show findFrom l n _ _ = _; rw [e]; simp⟩
theorem find_restK (l : Li) : findFrom l l.bodies.length (onlyK l.bodies.length 0) [] = (restK l, findG l) := by
 obtain ⟨gs, e⟩ := findFrom_known (l := l) l.bodies.length (onlyK l.bodies.length 0) []
 unfold restK findG
 rw [e]; simp
theorem unm_zero {k : List Bool} : (unmarked k).length = 0 ↔ k.contains false = false := by
 unfold unmarked
 rw [List.length_map, List.length_eq_zero_iff, List.filter_eq_nil_iff]
 constructor
 ·intro h
  rw [<- Bool.not_eq_true, List.contains_iff_mem]
  intro hm
  obtain ⟨i, hi⟩ := List.mem_iff_getElem?.1 hm
  have hlt := (List.getElem?_eq_some_iff.1 hi).1
  have := h i (List.mem_range.2 hlt)
  rw [List.getD_eq_getElem?_getD, hi] at this
  simp at this
 ·intro h i hi
  rw [<- Bool.not_eq_true, List.contains_iff_mem] at h
  intro hc
  have hlt := List.mem_range.1 hi
  rw [List.getD_eq_getElem?_getD, List.getElem?_eq_getElem hlt] at hc
  simp at hc
  exact h (hc ▸ List.getElem_mem hlt)
theorem sub_gr0 : Sub (.agg [.v (.int .i64 0), .v (.slice none 0 0), .v (.slice none 0 0), .v (.int .i64 0)]) (Gr.av default) := .agg (.cons (.refl _) (.cons (.nil _ _ _) (.cons (.nil _ _ _) (.cons (.refl _) .nil)))) rfl
theorem geq_t {z : Int} (h : icmp .geq z 0 = true) : 0 <= z := of_decide_eq_true h
theorem geq_f {z : Int} (h : icmp .geq z 0 = false) : ¬ 0 <= z := of_decide_eq_false h
theorem three_b {a b c : Int} : cond (cond (icmp .geq a 0) (icmp .geq b 0) false) (icmp .geq c 0) false = (decide (0 <= a) && decide (0 <= b) && decide (0 <= c)) := by
 have e : ∀ z : Int, icmp .geq z 0 = decide (0 <= z) := fun z => rfl
 rw [e, e, e, and_cond, and_cond]
theorem two_b {a b : Int} : cond (icmp .lss a 0) true (icmp .lss b 0) = !(decide (0 <= a) && decide (0 <= b)) := by
 have e : ∀ z : Int, icmp .lss z 0 = !decide (0 <= z) := fun z => by rw [<- decide_not]; exact decide_eq_decide.2 (by omega)
 rw [e, e, or_cond, Bool.not_and]
theorem two_t {a b : Int} (h : cond (icmp .lss a 0) true (icmp .lss b 0) = true) : (decide (0 <= a) && decide (0 <= b)) = false := by rw [two_b] at h; exact not_t h
theorem two_f {a b : Int} (h : cond (icmp .lss a 0) true (icmp .lss b 0) = false) : 0 <= a /\ 0 <= b := by
 rw [two_b] at h
 have := not_f h
 simpa using this
end Go.Lw
namespace Go.Lw
open Go.Proofs
abbrev fdC (l : Li) (known driven : List Bool) (r : List AV) : List AV := l.av.cells ++ (.lst 1 (known.map bl) :: .lst 1 (driven.map bl) :: r)
theorem c_g_other (j : Jt) (b : Int) : FnC Tryz.prog 371 [j.av, i64 b] (i64 (otherI j b)) := by
 refine gF0 Tryz.func371 ?_
 refine gC (fun ht6 => ?_) (fun ht6 => ?_)
 ·have h1 : b = j.a := eql_t ht6
  refine gE1 ?_
  unfold otherI; rw [if_pos h1]
 ·have h1 : b ≠ j.a := eql_f ht6
  refine gC (fun ht12 => ?_) (fun ht12 => ?_)
  ·have h2 : b = j.b := eql_t ht12
   refine gE1 ?_
   unfold otherI; rw [if_neg h1, if_pos h2]
  ·have h2 : b ≠ j.b := eql_f ht12
   refine gE1 ?_
   unfold otherI; rw [if_neg h1, if_neg h2]; rfl
theorem c_g_joint1 (j : Jt) (kind body : Int) (f : FuncId) (pre caps : List AV) (p : Int -> Bool) (hp : 0 <= otherI j body -> FnC Tryz.prog f (pre ++ [i64 (otherI j body)] ++ caps) (bl (p (otherI j body)))) :
  FnC Tryz.prog 370 [j.av, .iptr [i64 body], .iptr [i64 kind], .iptr [.cl f pre caps]] (bl (gHit kind body p j)) := by
 refine gF0 Tryz.func370 ?_
 refine gc (c_g_other j body) ?_
 refine gcG (fun h => (hp (g_in h))) ?_
 refine gE1 ?_
 exact congrArg bl g_cond
theorem c_indexFunc_Joint (bs : List Jt) (hl : bs.length <= 281474976710656) (f : FuncId) (pre caps : List AV) (ok : Nat -> Bool)
  (hf : ∀ (i : Nat) (b : Jt), bs[i]? = some b -> (∀ j, j < i -> ok j = true) -> FnC Tryz.prog f (pre ++ [b.av] ++ caps) (bl (!ok i))) :
  FnC Tryz.prog 369 [.lst 7 (bs.map Jt.av), .cl f pre caps] (i64 (ixI (firstB bs.length ok))) := by
 refine gF0 Tryz.func369 ?_
 refine gl ?_
 refine gL1 [0, 1, 7] [] (fun (i : Nat) => [(8, some (i64 i))]) (fun _ => []) (fun i => i <= bs.length /\ ∀ j, j < i -> ok j = true) (fun i => bs.length - i) 0 ⟨Nat.zero_le _, fun j h => by omega⟩ ?_
 rintro i ⟨hi, hj⟩ K1 hK1
 refine gC (fun ht9 => ?_) (fun ht9 => ?_)
 ·have hin := lss_t ht9
  obtain ⟨b, hb⟩ := getx hin
  refine gi (getmap hb) ?_
  refine gc (hf i b hb hj) ?_
  refine gC (fun ht16 => ?_) (fun ht16 => ?_)
  ·have h2 := not_t ht16
   refine gE1 ?_
   rw [firstB_at hin hj h2]; rfl
  ·have h2 := not_f ht16
   refine ga (i64_add1 (by unfold maxL; omega)) ?_
   exact gK1 hK1 (i + 1) ⟨hin, fun j h9 => by rcases Nat.lt_or_ge j i with g | g; exact hj j g; (have : j = i := by omega); subst this; exact h2⟩
 ·have hin := lss_end hi ht9
  subst hin
  refine gE1 ?_
  rw [firstB_all hj]; rfl
theorem c_g_joint (l : Li) (hl : l.ok) (hli : liE l = 0) (Fd : List AV) (kind body : Int) (f : FuncId) (pre caps : List AV) (p : Int -> Bool)
  (hp : ∀ o : Int, 0 <= o -> o < l.bodies.length -> FnC Tryz.prog f (pre ++ [i64 o] ++ caps) (bl (p o))) :
  FnC Tryz.prog 342 [.iptr (l.av.cells ++ Fd), i64 kind, i64 body, .cl f pre caps] (i64 (gJ l kind body p)) := by
 refine gF0 Tryz.func342 ?_ (1, 0)
 refine gW ((Wk.freezeB (k := 7) rfl rfl).trans <| (Wk.freezeB (k := 5) rfl rfl).trans <| (Wk.freezeB (k := 6) rfl rfl).trans <| Wk.o (sl := [(0, some (.iptr (l.av.cells ++ Fd))), (5, some (.iptr [i64 kind])), (6, some (.iptr [i64 body])), (7, some (.iptr [.cl f pre caps]))]) (hp := [])) ?_
 refine gc (Con.subA (.cons (.refl _) (.cons (sub_cl rfl) .nil)) (c_indexFunc_Joint l.joints hl.lj 370 [] [.iptr [i64 body], .iptr [i64 kind], .iptr [.cl f pre caps]] (fun i => !gHit kind body p (l.joints.getD i default)) (fun i b hb hj => by rw [Bool.not_not, getD_of hb]; exact c_g_joint1 b kind body f pre caps p (fun h => hp _ h (other_lt hli hb body))))) ?_
 refine gE1 ?_
 rfl
theorem c_g_isKnown (l : Li) (known driven : List Bool) (r : List AV) (b : Int) (h0 : 0 <= b) (h1 : b < known.length) : FnC Tryz.prog 367 [.iptr (fdC l known driven r), i64 b] (bl (kn known b)) := by
 obtain ⟨v, hv⟩ : ∃ v, known[b.toNat]? = some v := getx (by omega)
 have ev : kn known b = v := getD_of hv
 refine gF0 Tryz.func367 ?_
 refine gi (getzx (n := b.toNat) (by omega) hv) ?_
 refine gE1 ?_
 rw [ev]
theorem c_g_anchored (l : Li) (hl : l.ok) (hli : liE l = 0) (known driven : List Bool) (hk : known.length = l.bodies.length) (r : List AV) (kind body : Int) :
  FnC Tryz.prog 340 [.iptr (fdC l known driven r), i64 kind, i64 body] (i64 (gJ l kind body (kn known))) := by
 refine gF0 Tryz.func340 ?_
 refine gc (c_g_joint l hl hli _ kind body 367 [.iptr (fdC l known driven r)] [] (kn known) (fun o h0 h1 => c_g_isKnown l known driven r o h0 (by omega))) ?_
 refine gE1 ?_
 rfl
theorem c_g_pair1 (o j : Int) : FnC Tryz.prog 343 [i64 o, .iptr [i64 j]] (bl (decide (o = j))) := by
 refine gF0 Tryz.func343 ?_
 refine gE1 ?_
 exact congrArg bl int_eqb
theorem c_g_free (l : Li) (known driven : List Bool) (hd : driven.length = known.length) (r : List AV) (b : Int) (h0 : 0 <= b) (h1 : b < known.length) :
  FnC Tryz.prog 344 [.iptr (fdC l known driven r), i64 b] (bl (!kn known b && !kn driven b)) := by
 obtain ⟨v, hv⟩ : ∃ v, known[b.toNat]? = some v := getx (by omega)
 have ev : kn known b = v := getD_of hv
 obtain ⟨u, hu⟩ : ∃ u, driven[b.toNat]? = some u := getx (by omega)
 have eu : kn driven b = u := getD_of hu
 refine gF0 Tryz.func344 ?_
 refine gi (getzx (n := b.toNat) (by omega) hv) ?_
 refine giG (fun _ => (getzx (n := b.toNat) (by omega) hu)) ?_
 refine gE1 ?_
 rw [ev, eu]; exact congrArg bl (and_cond _ _)
end Go.Lw
namespace Go.Lw
open Go.Proofs
theorem c_g_driver (l : Li) (hl : l.ok) (hli : liE l = 0) (known driven : List Bool) (hk : known.length = l.bodies.length) (r : List AV) :
  FnC Tryz.prog 282 [.iptr (fdC l known driven r)] (.tup [((driverG l known).getD default).av, bl (driverG l known).isSome]) := by
 have hld := hl.ld
 refine gF0 Tryz.func282 ?_
 refine gl ?_
 refine gL1 [0, 2, 11, 12] [2] (fun (i : Nat) => [(13, some (i64 i))]) (fun _ => []) (fun i => i <= l.drivers.length /\ ∀ j, j < i -> (!drHit l known j) = true) (fun i => l.drivers.length - i) 0 ⟨Nat.zero_le _, fun j h => by omega⟩ ?_
 rintro i ⟨hi, hj⟩ K1 hK1
 refine gC (fun ht14 => ?_) (fun ht14 => ?_)
 ·have hin := lss_t ht14
  obtain ⟨d, hd⟩ := getx hin
  have hdd : l.drivers.getD i default = d := getD_of hd
  have hb := inB_t (dr_in hli hd)
  obtain ⟨v, hv⟩ : ∃ v, known[d.body.toNat]? = some v := getx (by omega)
  have ev : kn known d.body = v := getD_of hv
  have ej : gJ l 0 d.body (kn known) = jointI l 0 d.body known := gJ_eq hli (fun o _ _ => rfl)
  refine gi (getmap hd) ?_
  refine gi (getzx (n := d.body.toNat) (by omega) hv) ?_
  refine gD ?_
  refine gC (fun ht25 => ?_) (fun ht25 => ?_)
  ·have h2 : drHit l known i = false := by unfold drHit; rw [hdd, ev, ht25]; rfl
   refine ga (i64_add1 (by unfold maxL; omega)) ?_
   exact gK1 hK1 (i + 1) ⟨hin, fun k h9 => by rcases Nat.lt_or_ge k i with g | g; exact hj k g; (have : k = i := by omega); subst this; rw [h2]; rfl⟩
  ·have hv0 : v = false := ht25
   refine gc (show FnC _ _ _ (i64 (jointI l 0 d.body known)) by rw [<- ej]; exact c_g_anchored l hl hli known driven hk r 0 d.body) ?_
   refine gC (fun ht31 => ?_) (fun ht31 => ?_)
   ·have h2 : drHit l known i = true := by unfold drHit; rw [hdd, ev, hv0, decide_eq_true (geq_t ht31)]; rfl
    have hg : driverG l known = some ⟨0, [d.body], [jointI l 0 d.body known], i⟩ := by unfold driverG; rw [firstB_at hin hj (by rw [h2]; rfl), <- hdd]; rfl
    refine gE2 ?_
    rw [hg]; rfl
   ·have h2 : drHit l known i = false := by unfold drHit; rw [hdd, decide_eq_false (geq_f ht31), Bool.and_false]
    refine ga (i64_add1 (by unfold maxL; omega)) ?_
    exact gK1 hK1 (i + 1) ⟨hin, fun k h9 => by rcases Nat.lt_or_ge k i with g | g; exact hj k g; (have : k = i := by omega); subst this; rw [h2]; rfl⟩
 ·have hin := lss_end hi ht14
  subst hin
  have hg : driverG l known = none := by unfold driverG; rw [firstB_all hj]; rfl
  refine gR ?_
  exact Fin.sub Fin.pure (by rw [hg]; exact Sub.tup (.cons sub_gr0 (.cons (.refl _) .nil)))
theorem g_free (l : Li) (hli : liE l = 0) (known : List Bool) (hk : known.length = l.bodies.length) (r : List AV) (b : Nat) (h1 : b < l.bodies.length) :
  FnC Tryz.prog 344 [.iptr (fdC l known (drivenL l) r), i64 b] (bl (freeB l known b)) := by
 have h := c_g_free l known (drivenL l) (by rw [len_driven, hk]) r b (by omega) (by omega)
 rw [kn_driven hli (by omega)] at h
 exact h
theorem g_anch (l : Li) (hl : l.ok) (hli : liE l = 0) (known : List Bool) (hk : known.length = l.bodies.length) (r : List AV) (kind body : Int) :
  FnC Tryz.prog 340 [.iptr (fdC l known (drivenL l) r), i64 kind, i64 body] (i64 (jointI l kind body known)) := by
 have h := c_g_anchored l hl hli known (drivenL l) hk r kind body
 rw [gJ_eq hli (fun o _ _ => rfl)] at h
 exact h
theorem c_g_single (l : Li) (hl : l.ok) (hli : liE l = 0) (known : List Bool) (hk : known.length = l.bodies.length) (r : List AV) :
  FnC Tryz.prog 284 [.iptr (fdC l known (drivenL l) r)] (.tup [((singleG l known).getD default).av, bl (singleG l known).isSome]) := by
 have h8 := (li_parts hli).2.2.2.1
 refine gF0 Tryz.func284 ?_
 refine gl ?_
 refine gL1 [0, 2, 12, 13] [2] (fun (i : Nat) => [(14, some (i64 i))]) (fun _ => []) (fun i => i <= l.bodies.length /\ ∀ j, j < i -> (!sgHit l known j) = true) (fun i => l.bodies.length - i) 0 ⟨Nat.zero_le _, fun j h => by omega⟩ ?_
 rintro i ⟨hi, hj⟩ K1 hK1
 refine gC (fun ht15 => ?_) (fun ht15 => ?_)
 ·have hin := lss_t ht15
  refine gc (g_free l hli known hk r i hin) ?_
  refine gC (fun ht20 => ?_) (fun ht20 => ?_)
  ·have h2 : sgHit l known i = false := by unfold sgHit; rw [not_t ht20]; rfl
   refine ga (i64_add1 (by unfold maxL; omega)) ?_
   exact gK1 hK1 (i + 1) ⟨hin, fun k h9 => by rcases Nat.lt_or_ge k i with g | g; exact hj k g; (have : k = i := by omega); subst this; rw [h2]; rfl⟩
  ·have hf := not_f ht20
   refine gc (g_anch l hl hli known hk r 0 i) ?_
   refine gc (g_anch l hl hli known hk r 1 i) ?_
   refine gC (fun ht32 => ?_) (fun ht32 => ?_)
   ·have h2 : sgHit l known i = false := by unfold sgHit; rw [two_t ht32, Bool.and_false]
    refine ga (i64_add1 (by unfold maxL; omega)) ?_
    exact gK1 hK1 (i + 1) ⟨hin, fun k h9 => by rcases Nat.lt_or_ge k i with g | g; exact hj k g; (have : k = i := by omega); subst this; rw [h2]; rfl⟩
   ·obtain ⟨p0, s0⟩ := two_f ht32
    have s1 := (jointI_lt (l := l) (kind := 1) (body := i) (oth := known)).2
    have h2 : sgHit l known i = true := by unfold sgHit; rw [hf, decide_eq_true p0, decide_eq_true s0]; rfl
    obtain ⟨j, hjt⟩ : ∃ j, l.joints[(jointI l 1 i known).toNat]? = some j := getx (by omega)
    have hjd : l.joints.getD (jointI l 1 i known).toNat default = j := getD_of hjt
    have hg : singleG l known = some (sgG l known i) := by unfold singleG; rw [firstB_at hin hj (by rw [h2]; rfl), Option.map_some]
    refine gi (getzx (n := (jointI l 1 i known).toNat) (by omega) hjt) ?_
    refine gC (fun ht43 => ?_) (fun ht43 => ?_)
    ·have hji : j.a = i := eql_t ht43
     refine gE2 ?_
     rw [hg]; unfold sgG; rw [hjd]; simp only [Option.getD_some, if_pos hji]; rfl
    ·have hji : j.a ≠ i := eql_f ht43
     refine gE2 ?_
     rw [hg]; unfold sgG; rw [hjd]; simp only [Option.getD_some, if_neg hji]; rfl
 ·have hin := lss_end hi ht15
  subst hin
  have hg : singleG l known = none := by unfold singleG; rw [firstB_all hj]; rfl
  refine gR ?_
  exact Fin.sub Fin.pure (by rw [hg]; exact Sub.tup (.cons sub_gr0 (.cons (.refl _) .nil)))
theorem c_g_pairs (Fd : List AV) : FnC Tryz.prog 341 [.iptr Fd] (.fn 368 [.iptr [.iptr Fd]]) := by
 refine gF0 Tryz.func341 ?_ (1, 0)
 refine gW ((Wk.freezeB (k := 1) rfl rfl).trans <| Wk.o (sl := [(1, some (.iptr [.iptr Fd]))]) (hp := [])) ?_
 refine gE1 ?_
 rfl
end Go.Lw
namespace Go.Lw
open Go.Proofs
def rgOf : Code -> Option (Array Tmp × Code × Code)
  | .rangeFunc _ ps x y => some (ps, x, y)
  | .seq a b => match rgOf a with
    | some r => some r
    | none => rgOf b
  | .block _ c => rgOf c
  | _ => none
def rgD (n : Nat) (o : Option Code) : LpD := match o with
  | some c => match rgOf c with
    | some (ps, x, y) => ⟨ps, x, y, n⟩
    | none => ⟨#[], .skip, .skip, 0⟩
  | none => ⟨#[], .skip, .skip, 0⟩
def pb0 (D : LpD) (Fd : List AV) (h : Bool) : Blk := .loop D (match h with | true => .done | false => .ready) (match h with | true => some .ret | false => none) [(1, some (.iptr [.iptr Fd])), (2, some (.ptr 1001 0)), (3, some (.ptr 1002 0))]
def pb1 (g : Gr) : Blk := .box [i64 g.kind, .lst 1 (g.bodies.map i64), .lst 1 (g.joints.map i64), i64 g.driver]
def pb2 (h : Bool) : Blk := .box [bl h]
def pairH (D : LpD) (Fd : List AV) (h : Bool) (g : Gr) : Hp := [(1000, some (pb0 D Fd h)), (1001, some (pb1 g)), (1002, some (pb2 h))]
theorem lkPair {D : LpD} {Fd : List AV} {h : Bool} {g : Gr} {k : Nat} {z : Blk} (hz : lk (pairH D Fd h g) k = some z) : 1000 <= k := by
 unfold pairH at hz
 simp only [lk_cons] at hz
 split at hz
 ·omega
 ·split at hz
  ·omega
  ·split at hz
   ·omega
   ·cases hz
theorem hno_pair {D : LpD} {Fd : List AV} {s : AS} (hs : ∀ k z, lk (pairH D Fd false default) k = some z -> s.blk k = some z) :
  ∀ k ∈ (pairH D Fd false default ++ dead (pairH D Fd false default)).map (·.1), k ∈ (pairH D Fd false default).map (·.1) /\ lk (pairH D Fd false default ++ dead (pairH D Fd false default)) k = s.blk k := by
 intro k hk
 have hk' : k = 1000 \/ k = 1001 \/ k = 1002 := by
  simp [pairH, dead] at hk
  omega
 rcases hk' with rfl | rfl | rfl
 ·exact ⟨by simp [pairH], (hs _ _ rfl).symm⟩
 ·exact ⟨by simp [pairH], (hs _ _ rfl).symm⟩
 ·exact ⟨by simp [pairH], (hs _ _ rfl).symm⟩
theorem pr_free {l : Li} {known : List Bool} {i k : Nat} (h : cond (freeB l known i) (freeB l known k) false = false) : prHit l known i k = false := by
 rw [and_cond] at h
 unfold prHit
 rw [h]; rfl
theorem keepP {H R : Hp} {k : Nat} {z : Blk} (h : lk H k = some z) : lk (H ++ R) k = some z := by rw [lk_append, if_pos (mem_keys_of_lk h)]; exact h
theorem fr1 {a b : Bool} (h : cond a b false = true) : a = true := by cases a <;> simp_all
theorem fr2 {a b : Bool} (h : cond a b false = true) : b = true := by cases a <;> simp_all
theorem c_g_pairs1 (D : LpD) (l : Li) (hl : l.ok) (hli : liE l = 0) (known : List Bool) (hk : known.length = l.bodies.length) (r : List AV)
  (hy : ∀ i k : Nat, i < k -> k < l.bodies.length -> freeB l known i = true -> freeB l known k = true ->
   YCon Tryz.prog 1000 [i64 i, i64 k] (pairH D (fdC l known (drivenL l) r) false default) (bl (!prHit l known i k)) (pairH D (fdC l known (drivenL l) r) (prHit l known i k) (cond (prHit l known i k) (prG l known i k) default))) :
  Con Tryz.prog 368 [.yl 1000, .iptr [.iptr (fdC l known (drivenL l) r)]] (pairH D (fdC l known (drivenL l) r) false default) (.tup []) (pairH D (fdC l known (drivenL l) r) (pairG l known).isSome ((pairG l known).getD default)) := by
 have h8 := (li_parts hli).2.2.2.1
 refine gF Tryz.func368 (fun k z h => lkPair h) ?_
 refine gl ?_
 refine gL1 [0, 1, 10] [1000, 1001, 1002] (fun (i : Nat) => [(11, some (i64 i))]) (fun _ => []) (fun i => i <= l.bodies.length /\ ∀ j, j < i -> (prAt l known j).isNone = true) (fun i => l.bodies.length - i) 0 ⟨Nat.zero_le _, fun j h => by omega⟩ ?_
 rintro i ⟨hi, hj⟩ K1 hK1
 refine gC (fun ht12 => ?_) (fun ht12 => ?_)
 ·have hin := lss_t ht12
  refine ga (i64_add1 (by unfold maxL; omega)) ?_
  refine gL1 [0, 1, 3, 10, 11] [] (fun (k : Nat) => [(4, some (i64 (i + 1 + k : Nat)))]) (fun _ => [(1000, some (pb0 D (fdC l known (drivenL l) r) false)), (1001, some (pb1 default)), (1002, some (pb2 false))]) (fun k => i + 1 + k <= l.bodies.length /\ ∀ j, j < k -> (!prHit l known i (i + 1 + j)) = true) (fun k => l.bodies.length - k) 0 ⟨by omega, fun j h => by omega⟩ ?_
  rintro k ⟨hkl, hkj⟩ K2 hK2
  refine gl ?_
  refine gC (fun ht23 => ?_) (fun ht23 => ?_)
  ·have hkn : i + 1 + k < l.bodies.length := lss_t ht23
   refine gc (g_free l hli known hk r i hin) ?_
   refine gcG (fun _ => (g_free l hli known hk r (i + 1 + k) hkn)) ?_
   refine gs (s_guardH rfl rfl rfl (by intro hb; have h0 : prHit l known i (i + 1 + k) = false := pr_free (by simpa using hb); simp only [h0, cond_false]; exact hno_pair (by intro k z h; exact h)) (fun hb => s_yield (k := 1000) (.opt rfl (by rw [hb]; rfl)) (hy i (i + 1 + k) (by omega) hkn (fr1 hb) (fr2 hb)) (.cons (.opt rfl (by rw [hb]; rfl)) (.cons (.opt rfl (by rw [hb]; rfl)) .nil)) (by intro k z h; exact h) rfl rfl)) ?_
   refine gC (fun ht40 => ?_) (fun ht40 => ?_)
   ·have h2 : prHit l known i (i + 1 + k) = true := by have h9 := fr2 ht40; rw [Bool.not_not] at h9; exact h9
    have hat : prAt l known i = some (i + 1 + k) := by unfold prAt; rw [firstB_at (by omega) hkj (by rw [h2]; rfl), Option.map_some]; congr 1; omega
    have hg : pairG l known = some (prG l known i (i + 1 + k)) := by unfold pairG; rw [firstB_at hin hj (by rw [hat]; rfl), Option.map_some, hat]
    refine gR ?_
    simp only [hg, h2, Option.isSome_some, Option.getD_some, cond_true]
    exact Fin.keep (fun k z h => keepP h)
   ·have h2 : prHit l known i (i + 1 + k) = false := by cases hc : cond (freeB l known i) (freeB l known ((i + 1 + k : Nat) : Int)) false with | false => exact pr_free hc | true => rw [hc, Bool.not_not] at ht40; exact ht40
    refine ga (i64_add1 (by unfold maxL; omega)) ?_
    exact gK1 hK2 (k + 1) ⟨by omega, fun j h9 => by rcases Nat.lt_or_ge j k with g | g; exact hkj j g; (have : j = k := by omega); subst this; rw [h2]; rfl⟩ (hw := Wk.of (by repeat (first | exact SlW.nil | refine SlW.k ?_)) (.cons rfl (BlkSub.of (by rw [h2])) (.cons rfl (BlkSub.of (by rw [h2]; rfl)) (.cons rfl (BlkSub.of (by rw [h2])) .nil))))
  ·have hkn : ¬ i + 1 + k < l.bodies.length := fun h => by have h1 := lss_f ht23; omega
   have hat : prAt l known i = none := by unfold prAt; rw [show l.bodies.length - (i + 1) = k by omega, firstB_all hkj]; rfl
   refine ga (i64_add1 (by unfold maxL; omega)) ?_
   exact gK1 hK1 (i + 1) ⟨hin, fun j h9 => by rcases Nat.lt_or_ge j i with g | g; exact hj j g; (have : j = i := by omega); subst this; rw [hat]; rfl⟩
 ·have hin := lss_end hi ht12
  have hg : pairG l known = none := by unfold pairG; rw [<- hin, firstB_all hj]; rfl
  refine gR ?_
  simp only [hg, Option.isSome_none, Option.getD_none]
  exact Fin.keep (fun k z h => h)
end Go.Lw
namespace Go.Lw
open Go.Proofs
theorem gZ {P : Program} {N : Nat} {Q : Exit -> AS -> Prop} {c : Code} {s : AS} (h : Gd P N Q (.code c [] s)) : AWP P N c Q s := h
theorem awp0_weaken {P : Program} {N : Nat} {Q : Exit -> AS -> Prop} {c : Code} {s s' : AS} (hw : Wk s s') (h : AWP0 P N c Q s') : AWP0 P N c Q s := by
 intro C m a w n hro hN hr
 obtain ⟨m', hr'⟩ := hw C m a w hr
 exact h C m' a w n hro hN hr'
def swp (k : Nat) : Nat := bif Nat.beq k 1000 then 900 else bif Nat.beq k 900 then 1000 else bif Nat.beq k 1001 then 2 else bif Nat.beq k 2 then 1001 else bif Nat.beq k 1002 then 3 else bif Nat.beq k 3 then 1002 else k
theorem nb {a b : Nat} (h : ¬ a = b) : Nat.beq a b = false := by
 cases h1 : Nat.beq a b
 ·rfl
 ·exact absurd (Nat.eq_of_beq_eq_true h1) h
theorem swp_swp (k : Nat) : swp (swp k) = k := by
 by_cases h1 : k = 1000
 ·subst h1; rfl
 by_cases h2 : k = 900
 ·subst h2; rfl
 by_cases h3 : k = 1001
 ·subst h3; rfl
 by_cases h4 : k = 2
 ·subst h4; rfl
 by_cases h5 : k = 1002
 ·subst h5; rfl
 by_cases h6 : k = 3
 ·subst h6; rfl
 have e : swp k = k := by simp only [swp, nb h1, nb h2, nb h3, nb h4, nb h5, nb h6, cond_false]
 rw [e, e]
theorem c_g_pair (l : Li) (hl : l.ok) (hli : liE l = 0) (known : List Bool) (hk : known.length = l.bodies.length) (r : List AV) :
  FnC Tryz.prog 283 [.iptr (fdC l known (drivenL l) r)] (.tup [((pairG l known).getD default).av, bl (pairG l known).isSome]) := by
 refine con_ofR (rs := Tryz.f283.results.toList) Tryz.func283 rfl rfl (by simp) rfl (fun k z h => by cases h) ?_
 refine awp0_seq (gZ (go ?_))
 refine awp0_weaken (s' := ⟨[(1, some (.iptr [.iptr (fdC l known (drivenL l) r)])), (2, some (.ptr 2 0)), (3, some (.ptr 3 0))], [(2, some (pb1 default)), (3, some (pb2 false))]⟩) ((Wk.freezeB (k := 1) rfl rfl).trans (Wk.of (.cons rfl (.refl _) (.cons rfl (.refl _) (.cons rfl (.refl _) .nil))) (.cons rfl (BlkSub.boxL (.cons (.refl _) (.cons (.nil _ _ _) (.cons (.nil _ _ _) (.cons (.refl _) .nil)))) rfl) (.cons rfl (.refl _) .nil)))) ?_
 refine awp0_seq0 ?_
 refine awp0_seq (gZ (go ?_))
 refine gc (c_g_pairs (fdC l known (drivenL l) r)) ?_
 refine awp0_block ?_
 have hy : ∀ i k : Nat, i < k -> k < l.bodies.length -> freeB l known i = true -> freeB l known k = true ->
   YCon Tryz.prog 1000 [i64 i, i64 k] (pairH (rgD Tryz.f283.ntmps Tryz.f283.body) (fdC l known (drivenL l) r) false default) (bl (!prHit l known i k)) (pairH (rgD Tryz.f283.ntmps Tryz.f283.body) (fdC l known (drivenL l) r) (prHit l known i k) (cond (prHit l known i k) (prG l known i k) default)) := by
  intro i k hik hkn hfi hfk
  refine ycon_of (k := 1000) (fun k z h => lkPair h) rfl rfl (by intro p hp; have h9 : p ∈ [11, 12] := hp; have h8 : p = 11 \/ p = 12 := (by simpa using h9); show p < 42; rcases h8 with h7 | h7 <;> (rw [h7]; decide)) ?_
  refine gZ (go ?_)
  refine ⟨rfl, _, _, rfl, ?_⟩
  have hJ : gJ l 0 i (fun o => decide (o = (k : Int))) = jointI l 0 i (onlyK l.bodies.length k) := gJ_eq hli (fun o h0 h1 => (kn_only h0 (by omega) (by omega)).symm)
  refine gZ (go ?_)
  refine gc (g_anch l hl hli known hk r 0 i) ?_
  refine gc (g_anch l hl hli known hk r 0 k) ?_
  refine gD ?_ (5, 0)
  refine gW (Wk.freezeB (k := 5) rfl rfl) ?_
  refine gc (r := i64 (jointI l 0 i (onlyK l.bodies.length k))) (by rw [<- hJ]; exact Con.subA (.cons (.refl _) (.cons (.refl _) (.cons (.refl _) (.cons (sub_cl rfl) .nil)))) (c_g_joint l hl hli _ 0 i 343 [] [.iptr [i64 k]] (fun o => decide (o = (k : Int))) (fun o h0 h1 => c_g_pair1 o k))) ?_
  refine gC (fun ht => ?_) (fun ht => ?_)
  ·have h2 : prHit l known i k = true := by unfold prHit; rw [hfi, hfk]; exact (three_b.symm.trans ht)
   rw [h2]
   exact ⟨_, _, rfl, Fin.keep (by intro q z h; simp only [pairH, lk_cons] at h; split at h; (subst_vars; exact h); split at h; (subst_vars; exact h); split at h; (subst_vars; exact h); cases h)⟩
  ·have h2 : prHit l known i k = false := by unfold prHit; rw [hfi, hfk]; exact (three_b.symm.trans ht)
   rw [h2]
   exact ⟨_, _, rfl, Fin.keep (by intro q z h; simp only [pairH, lk_cons] at h; split at h; (subst_vars; exact h); split at h; (subst_vars; exact h); split at h; (subst_vars; exact h); cases h)⟩
 have hcon := Con.pm swp_swp (c_g_pairs1 _ l hl hli known hk r hy)
 cases hg : pairG l known with
 | none =>
  rw [hg] at hcon
  refine awp0_range (k := 900) (sl0 := [(1, some (.iptr [.iptr (fdC l known (drivenL l) r)])), (2, some (.ptr 2 0)), (3, some (.ptr 3 0))]) (.tmp rfl) (by intro t x h; simp only [lk_cons] at h; split at h; (subst_vars; exact h); split at h; (subst_vars; exact h); split at h; (subst_vars; exact h); cases h) rfl rfl hcon (fun k' z h => h) rfl rfl rfl rfl (by intro h; cases h) (.inl ⟨rfl, ?_⟩)
  refine awp0_seq (gZ (go ?_))
  refine AWP.out (gZ (go ?_))
  refine gR ?_
  exact Fin.sub Fin.pure (Sub.tup (.cons sub_gr0 (.cons (.refl _) .nil)))
 | some g =>
  rw [hg] at hcon
  refine awp0_range (k := 900) (sl0 := [(1, some (.iptr [.iptr (fdC l known (drivenL l) r)])), (2, some (.ptr 2 0)), (3, some (.ptr 3 0))]) (.tmp rfl) (by intro t x h; simp only [lk_cons] at h; split at h; (subst_vars; exact h); split at h; (subst_vars; exact h); split at h; (subst_vars; exact h); cases h) rfl rfl hcon (fun k' z h => h) rfl rfl rfl rfl (by intro h; cases h) (.inr ⟨rfl, ?_⟩)
  exact (gE2 (P := Tryz.prog) (N := Tryz.f283.ntmps) (e := .ret) rfl)
end Go.Lw
namespace Go.Lw
open Go.Proofs
theorem some_of {α : Type} {o : Option α} (h : o.isSome = true) : ∃ x, o = some x := by cases o <;> simp_all
theorem none_of {α : Type} {o : Option α} (h : o.isSome = false) : o = none := by cases o <;> simp_all
theorem c_g_next (l : Li) (hl : l.ok) (hli : liE l = 0) (known : List Bool) (hk : known.length = l.bodies.length) (r : List AV) :
  FnC Tryz.prog 207 [.iptr (fdC l known (drivenL l) r)] (.tup [((nextG l known).getD default).av, bl (nextG l known).isSome]) := by
 refine gF0 Tryz.func207 ?_
 refine gc (c_g_driver l hl hli known (drivenL l) hk r) ?_
 refine gC (fun ht13 => ?_) (fun ht13 => ?_)
 ·obtain ⟨g, hg⟩ := some_of ht13
  refine gE2 ?_
  unfold nextG; rw [hg]; rfl
 ·have hg := none_of ht13
  refine gc (c_g_pair l hl hli known hk r) ?_
  refine gC (fun ht20 => ?_) (fun ht20 => ?_)
  ·obtain ⟨g, hg2⟩ := some_of ht20
   refine gE2 ?_
   unfold nextG; rw [hg, hg2]; rfl
  ·have hg2 := none_of ht20
   refine gc (c_g_single l hl hli known hk r) ?_
   refine gE2 ?_
   unfold nextG; rw [hg, hg2]; rfl
end Go.Lw
namespace Go.Lw
open Go.Proofs
end Go.Lw
namespace Go.Lw
open Go.Proofs
end Go.Lw
namespace Go.Lw
open Go.Proofs
end Go.Lw
namespace Go.Lw
open Go.Proofs
theorem len_fold {α : Type} {f : α -> List Int} : ∀ (gs : List α) (k : List Bool), (gs.foldl (fun k g => markAll k (f g)) k).length = k.length
 | [], k => rfl
 | g :: gs, k => by rw [List.foldl_cons, len_fold gs, len_mark]
end Go.Lw
namespace Go.Lw
variable {P : Program} {N : Nat} {R : Array Oper} {s : AS}
theorem s_makeV {d : Nat} {x : Operand} {n : Nat} {z : Value} {T E t : TypeId} {ti te : TI} {pos : String} {after : Array Edge} (hx : Ev s x (.v (.int .i64 n)))
    (hT : tinfo P T = some ti) (hk : ti.k = .slice E) (hE : tinfo P E = some te) (hz : te.zero = [z]) (hz1 : z.oneCell' = true) (hs : Nat.beq te.size 1 = true) (hbb : Nat.blt 0 te.bytes = true)
    (hb : (n : Int) * te.bytes <= 281474976710656) (hN : Nat.blt d N = true) :
    Step P N R s ⟨some d, .makeSlice T x x, t, pos, after, none⟩
      ⟨some (.ms d 1 0 n), [(d, some (.vec (List.replicate n z)))], rtOf x, []⟩ :=
  step_new rfl rfl hN (by simp) fun s' hag hfr C m a w hr => by
    have hxv := eval_v hr (hx.agree hag (fun _ h => h))
    have hs := Nat.eq_of_beq_eq_true hs
    rw [Nat.blt_eq] at hbb
    obtain ⟨d2, h3, h4, -, -⟩ := run_und hT w
    obtain rfl := tk_slice (h4.trans hk)
    obtain ⟨zv, h5, h6⟩ := run_zero hE w
    obtain ⟨ie, h7, h8, -⟩ := run_typeInfo hE w
    have h6' : zv.cells.toList = [z] := h6.trans hz
    have hzc : zv.cells = #[z] := by rw [<- Array.toArray_toList (xs := zv.cells), h6']
    have hnb : (n : Int) <= 281474976710656 := by
      have : (n : Int) * 1 <= n * te.bytes := Int.mul_le_mul_of_nonneg_left (by omega) (by omega)
      omega
    have hw1 : IntKind.i64.wrap (n : Int) = n := IntWalk.i64_in n (by omega)
    obtain ⟨zero, hzero⟩ : ∃ zero : Array Value, zero = (if n * te.size = 0 then #[] else zv.cells) := ⟨_, rfl⟩
    refine ⟨.slice (some ⟨w.heap.size, 0, none⟩) n n, (Array.range (n * te.size)).map (zero[· % zero.size]!), E, w.drawn, ?_, ?_, ?_, ?_⟩
    · have hmk : (Instr.makeSlice T (.int .i64 n) (.int .i64 n)).run P w =
          .ok (.slice (some ⟨w.heap.size, 0, none⟩) n n) { w with heap := w.heap.push (.cells ((Array.range (n * te.size)).map (zero[· % zero.size]!)) E) } := by
        have hc : ¬ (((n : Int) < 0 \/ 281474976710656 < (ie.bytes : Int) * n) \/ (n : Int) < 0) := by
          rw [h8, Int.mul_comm]; omega
        simp only [Instr.makeSlice, Sem.run_bind, h3, Result.andThen_ok, asInt, asIntOf, Sem.run_pure, h7, hw1]
        rw [if_neg (by simpa using hc)]
        simp only [Sem.run_bind, run_askRoom, Result.andThen_ok, run_sizeOf hE, Int.toNat_natCast]
        by_cases h0 : n * te.size = 0
        · rw [if_pos h0] at hzero ⊢
          subst hzero
          simp only [Sem.run_bind, Sem.run_pure, Result.andThen_ok, newRow, run_newObj]
        · rw [if_neg h0] at hzero ⊢
          subst hzero
          simp only [Sem.run_bind, Sem.run_pure, Result.andThen_ok, h5, newRow, run_newObj]
      simp only [execOp, hxv, Sem.run_bind, hmk, Result.andThen_ok, Sem.run_pure]
    · exact fun h => h
    · intro g S m' w' hg hS hm hw
      refine .vec hw ?_ (fun v hv => by rw [List.eq_of_mem_replicate hv]; exact hz1)
      apply List.ext_getElem?
      intro j
      rw [Array.getElem?_toList, List.getElem?_replicate]
      by_cases hj : j < n
      · have hpos : ¬ n * te.size = 0 := by rw [hs]; omega
        rw [if_neg hpos, hzc] at hzero
        subst hzero
        rw [if_pos hj]
        simp only [Array.getElem?_map, Array.getElem?_range, show j < n * te.size by rw [hs]; omega, if_true, Option.map_some, Option.some.injEq]
        simp [Nat.mod_one]
      · rw [if_neg hj, Array.getElem?_eq_none (by simp [hs]; omega)]
    · intro g S m' hm hS
      have := Rep.ms (g := g) (S := S) (m := m') (k := d) (sz := 1) (off := 0) (len := n) (cap := n) hm (Nat.le_refl _) (by simpa [hs] using hS)
      simpa using this
theorem s_stVec {x y : Operand} {k i : Nat} {vs : List Value} {v : Value} {T t : TypeId} {ti : TI} {pos : String} {after : Array Edge}
  (hx : Ev s x (.eptr k 1 i 0)) (hk : s.blk k = some (.vec vs)) (hi : i < vs.length) (hy : Ev s y (.v v)) (hv : v.oneCell' = true) (hT : tinfo P T = some ti) (hsz : Nat.beq ti.size 1 = true) :
  Step P N R s ⟨none, .store T x y, t, pos, after, none⟩ ⟨none, [(k, some (.vec (vs.set i v)))], rtOf x ++ rtOf y, [k]⟩ :=
 step_store rfl rfl (by simp) hk fun s' hag C m a w hr => by
  have hsz := Nat.eq_of_beq_eq_true hsz
  obtain ⟨b, hm, hxv⟩ := eval_eptr hr (hx.agree hag (fun _ h => List.mem_append.2 (.inl h)))
  have hyv := eval_v hr (hy.agree hag (fun _ h => List.mem_append.2 (.inr h)))
  have hb := hr.heap.blk k _ ((hag.2 k (by simp)).trans hk)
  rw [hm] at hb
  cases hb with
  | @vec _ _ c t2 hw hc h1 =>
   have hcs : c.size = vs.length := by rw [<- hc]; simp
   have hvc : v.cells = #[v] := by cases v <;> simp_all [Value.cells, Value.oneCell']
   refine ⟨b, c, (over c.toList i v.cells.toList).toArray, t2, hm, hw, ?_, ?_, ?_⟩
   ·simp [over, hvc]; omega
   ·have hrun := run_storeVar (P := P) (off := i) (v := v) hT hw (by rw [hvc, hsz]; rfl) (by omega) (by rw [hvc]; simpa using hv)
    simp [execOp, Instr.storeAt, hxv, Instr.sureAddr, hyv, hrun]
   ·intro g S w' hg hS hw'
    refine .vec hw' ?_ (fun u hu => ?_)
    ·rw [hc, hvc]
     unfold over
     rw [List.set_eq_take_append_cons_drop, if_pos hi]
     simp
    ·rcases List.mem_or_eq_of_mem_set hu with h9 | h9
     ·exact h1 u h9
     ·rw [h9]; exact hv
inductive Lent (H : Hp) (hid : List Nat) : AV -> AV -> Prop
  | same {x : AV} (h : x.nm = []) : Lent H hid x x
  | ms {k off len : Nat} {vs : List Value} (hk : lk H k = some (.vec vs)) (hh : k ∉ hid) (hl : off + len <= vs.length) (hm : vs.length <= maxL) : Lent H hid (.ms k 1 off len) (.lst 1 (((vs.drop off).take len).map .v))
theorem rep_v {g : Nat -> Array Value -> Prop} {S : Nat -> Nat -> Prop} {m : Nat -> Option Nat} {u y : Value} (h : Rep g S m u (.v y)) : u = y := by cases h; rfl
theorem own_nil {m : Nat -> Option Nat} {b : Nat} : ¬ Own [] m b := by rintro ⟨k, x, h, _⟩; cases h
def hidE (ext : Nat -> Prop) (H : Hp) (hid : List Nat) (m : Nat -> Option Nat) (b : Nat) : Prop := ext b \/ ∃ k z, k ∈ hid /\ lk H k = some z /\ m k = some b
theorem im_lent {ext : Nat -> Prop} {H : Hp} {hid : List Nat} {m m2 : Nat -> Option Nat} {w : World} {b : Nat} {cs : Array Value} (h : Im ext H m w b cs) : Im (hidE ext H hid m) [] m2 w b cs :=
 ⟨fun h' => h'.elim h.1 (fun ⟨k, z, _, hz, hb⟩ => h.2.1 ⟨k, z, hz, hb⟩), own_nil, h.2.2⟩
theorem not_hid {ext : Nat -> Prop} {H : Hp} {hid : List Nat} {m : Nat -> Option Nat} {w : World} (hh : HeapRel ext H m w) {k b : Nat} {z : Blk} (hk : lk H k = some z) (hb : m k = some b) (hn : k ∉ hid) : ¬ hidE ext H hid m b := by
 rintro (h | ⟨k', z', h1, h2, h3⟩)
 ·exact (hh.sep k z b hk hb).1 h
 ·have := hh.inj k k' z z' b hk h2 hb h3
  subst this; exact hn h1
theorem Lent.rep {ext : Nat -> Prop} {H : Hp} {hid : List Nat} {m : Nat -> Option Nat} {w : World} (hh : HeapRel ext H m w) {x x' : AV} (h : Lent H hid x x') :
  ∀ {v : Value}, Rep (Im ext H m w) (Sz w) m v x -> ∀ m2 : Nat -> Option Nat, Rep (Im (hidE ext H hid m) [] m w) (Sz w) m2 v x' := by
 cases h with
 | same hn => intro v hv m2; exact (rep_names hn hv).mono (fun _ _ h => im_lent h) (fun _ _ h => h) (fun _ _ _ h => h)
 | @ms k off len vs hk hnh hl hm =>
  intro v hr m2
  have hb := hh.blk k _ hk
  cases hr with
  | ms0 a => simp only [List.take_zero]; exact .lst0 _ _ _
  | @ms _ _ _ _ _ cap b hmk hc hS =>
   rw [hmk] at hb
   cases hb with
   | @vec _ _ c t hw hcv h1 =>
    have hcs : c.size = vs.length := by rw [<- hcv]; simp
    have hlen : (((vs.drop off).take len).map AV.v).length = len := by rw [List.length_map, List.length_take, List.length_drop]; omega
    have he' : ∀ (i : Nat) (e : AV), (((vs.drop off).take len).map AV.v)[i]? = some e -> ∃ u, e = .v u /\ c[off + i]? = some u /\ u ∈ vs := by
     intro i e he
     rw [List.getElem?_map, Option.map_eq_some_iff] at he
     obtain ⟨u, he, rfl⟩ := he
     rw [List.getElem?_take] at he
     split at he
     ·rw [List.getElem?_drop] at he
      exact ⟨u, rfl, by rw [<- Array.getElem?_toList, hcv]; exact he, List.mem_of_getElem? he⟩
     ·cases he
    have := Rep.lst (g := Im (hidE ext H hid m) [] m w) (S := Sz w) (m := m2) (b := b) (off := off) (cap := cap) (sz := 1) (es := ((vs.drop off).take len).map AV.v) (cs := c) (fun i j => c.getD (off + i) undef)
     ⟨not_hid hh hk hmk hnh, own_nil, t, (0, 0), hw⟩ (by omega) (by omega) ?_ ?_ ?_ ?_
    ·rw [hlen] at this; simpa using this
    ·intro i e he
     obtain ⟨u, rfl, _⟩ := he' i e he; rfl
    ·intro i j e x he hx
     obtain ⟨u, rfl, _, hm⟩ := he' i e he
     cases j with
     | zero => cases hx; exact h1 u hm
     | succ j => cases hx
    ·intro i j e x he hx
     obtain ⟨u, rfl, hu, _⟩ := he' i e he
     cases j with
     | zero => rw [Nat.mul_one, Nat.add_zero, Array.getD_eq_getD_getElem?, hu]; rfl
     | succ j => cases hx
    ·intro i j e x he hx
     obtain ⟨u, rfl, hu, _⟩ := he' i e he
     cases j with
     | zero => cases hx; rw [Array.getD_eq_getD_getElem?, hu]; exact .v _
     | succ j => cases hx
def isInt : AV -> Bool
  | .v (.int _ _) => true
  | _ => false
def noInt : AV -> Bool
  | .v (.int _ _) => false
  | .v _ => true
  | .lst _ _ => true
  | .ms _ _ _ _ => true
  | _ => false
mutual
def AV.li : AV -> Bool
  | .v _ => true
  | .agg cs => AV.lis cs
  | .tup cs => AV.lis cs
  | .lst sz es => Nat.beq sz 1 && es.all isInt
  | _ => false
def AV.lis : List AV -> Bool
  | [] => true
  | x :: l => x.li && AV.lis l
end
theorem AV.lis_mem : ∀ {l : List AV} {c : AV}, AV.lis l = true -> c ∈ l -> c.li = true
 | x :: l, c, h, hc => by
  simp only [AV.lis, Bool.and_eq_true] at h
  rcases List.mem_cons.1 hc with rfl | hc
  ·exact h.1
  ·exact AV.lis_mem h.2 hc
theorem rep_noInt {g : Nat -> Array Value -> Prop} {S : Nat -> Nat -> Prop} {m : Nat -> Option Nat} {u : Value} {x : AV} (hx : noInt x = true) (h : Rep g S m u x) (kk : IntKind) (z : Int) : u ≠ .int kk z := by
 rintro rfl
 cases h <;> cases hx
theorem rep_li {g g' : Nat -> Array Value -> Prop} {S S' : Nat -> Nat -> Prop} {m m' : Nat -> Option Nat} {v : Value} {x : AV} (hx : x.li = true)
  (hg : ∀ b cs (o : Nat) (kk : IntKind) (z : Int), cs[o]? = some (.int kk z) -> g b cs -> g' b cs) (h : Rep g S m v x) : Rep g' S' m' v x := by
 induction h with
 | v => exact .v _
 | agg hn h1 hr ih => exact .agg hn h1 (fun j u c hu hc => ih j u c hu hc (AV.lis_mem hx (List.mem_of_getElem? hc)))
 | tup hn hr ih => exact .tup hn (fun j u c hu hc => ih j u c hu hc (AV.lis_mem hx (List.mem_of_getElem? hc)))
 | lst0 a cap sz => exact .lst0 _ _ _
 | @lst _ b off cap sz es cs u hb hc hl hs h1 hu hr _ =>
  simp only [AV.li, Bool.and_eq_true] at hx
  have hsz := Nat.eq_of_beq_eq_true hx.1
  subst hsz
  match es, hx, hc, hl, hs, h1, hu, hr with
  | [], _, _, _, _, _, _, _ => exact .lst0 _ _ _
  | e :: es, hx, hc, hl, hs, h1, hu, hr =>
   have hcell : ∀ (i j : Nat) (e' c : AV), (e :: es)[i]? = some e' -> e'.cells[j]? = some c -> ∃ kk z, c = .v (.int kk z) := by
    intro i j e' c he hc'
    have h9 := List.all_eq_true.1 hx.2 e' (List.mem_of_getElem? he)
    cases e' with
    | v y => cases y with
     | int kk z =>
      cases j with
      | zero => cases hc'; exact ⟨_, _, rfl⟩
      | succ j => cases hc'
     | _ => cases h9
    | _ => cases h9
   have he0 : ∃ kk z, e = .v (.int kk z) := by
    have h9 := List.all_eq_true.1 hx.2 e (by simp)
    cases e with
    | v y => cases y with
     | int kk z => exact ⟨_, _, rfl⟩
     | _ => cases h9
    | _ => cases h9
   obtain ⟨kk, z, rfl⟩ := he0
   have h8 := hu 0 0 _ _ rfl rfl
   have h7 := hr 0 0 _ _ rfl rfl
   have h6 : u 0 0 = .int kk z := rep_v h7
   rw [h6] at h8
   refine .lst u (hg b cs _ kk z h8 hb) hc hl hs h1 hu (fun i j e' c he hc' => ?_)
   obtain ⟨k2, z2, rfl⟩ := hcell i j e' c he hc'
   rw [rep_v (hr i j _ _ he hc')]; exact .v _
 | _ => cases hx
theorem Con.lend {f : FuncId} {k : Nat} {cs : List AV} {cs' : Value -> List AV} {H : Hp} {r : AV} (hid : List Nat) (j0 : Nat) (hk : lk H k = some (.box cs)) (hkh : k ∉ hid)
  (hc : ∀ v : Value, v.oneCell' = true -> (cs' v).length = cs.length /\ (∀ (j : Nat) (x : AV), (cs' v)[j]? = some x -> x.one = true) /\
   ∀ (j : Nat) (x x' : AV), cs[j]? = some x -> (cs' v)[j]? = some x' -> (j = j0 /\ x' = .v v) \/ Lent H hid x x')
  (hj : j0 < cs.length)
  (hH : ∀ k z, lk H k = some z -> k ∈ hid \/ (∃ cs, z = .box cs /\ cs.all noInt = true) \/ ∃ vs, z = .vec vs /\ ∀ v ∈ vs, ∀ kk z, v ≠ .int kk z) (hr : r.li = true) (h : ∀ v : Value, FnC P f [.iptr (cs' v)] r) : Con P f [.ptr k 0] H r H := by
 refine ⟨(h undef).ok, ?_⟩
 intro ext m w vs hext hheap hvs hrep
 have hsz : 0 < vs.size := by rw [hvs]; exact Nat.one_pos
 have hr0 := hrep 0 vs[0] _ (Array.getElem?_eq_getElem hsz) rfl
 have hb := hheap.blk k _ hk
 generalize hv0 : vs[0] = v0 at hr0
 cases hr0 with
 | @ptr _ _ _ b hmk =>
  rw [hmk] at hb
  cases hb with
  | @box _ _ c t hw hn h1 hrr =>
   have hj0 : j0 < c.size := by omega
   have hx0 := List.getElem?_eq_getElem (l := cs) (i := j0) (by omega)
   have hone : (c[j0]).oneCell' = true := (hrr j0 _ _ (Array.getElem?_eq_getElem hj0) hx0).one (h1 j0 _ hx0)
   obtain ⟨g1, g2, g3⟩ := hc c[j0] hone
   have hext' : ∀ b, hidE ext H hid m b -> b < w.heap.size := by
    rintro b (h9 | ⟨k', z', _, h2, h3⟩)
    ·exact hext b h9
    ·exact (hheap.sep k' z' b h2 h3).2
   have hcall := (h c[j0]).ret (hidE ext H hid m) m w vs hext' ⟨fun k z hz => by (cases hz), fun k k' x x' b hx => by (cases hx), fun k x b hx => by (cases hx)⟩ (by rw [hvs]; rfl) (by
    intro j v x hv hx
    match j, hx with
    | 0, hx =>
     cases hx
     rw [Array.getElem?_eq_getElem hsz, hv0] at hv
     cases hv
     refine .iptr (cs := c) (fun j => c.getD j undef) ⟨not_hid hheap hk hmk hkh, own_nil, t, (0, 0), hw⟩ g2 ?_ ?_
     ·intro j x hx
      have hlt : j < c.size := by rw [hn, <- g1]; exact (List.getElem?_eq_some_iff.1 hx).1
      rw [Nat.zero_add, Array.getD_eq_getD_getElem?, Array.getElem?_eq_getElem hlt]; rfl
     ·intro j x hx
      have hlt : j < c.size := by rw [hn, <- g1]; exact (List.getElem?_eq_some_iff.1 hx).1
      obtain ⟨y, hy⟩ := get_of_length g1 hx
      have hcv : c[j]? = some (c.getD j undef) := by rw [Array.getD_eq_getD_getElem?, Array.getElem?_eq_getElem hlt]; rfl
      rcases g3 j y x hy hx with ⟨rfl, rfl⟩ | hl
      ·have : c.getD j undef = c[j] := by rw [Array.getElem?_eq_getElem hlt] at hcv; exact (Option.some.inj hcv).symm
       rw [this]; exact .v _
      ·exact hl.rep hheap (hrr j _ y hcv hy) noKeys)
   refine Calls.mono hcall ?_
   rintro e w' ⟨v, m', rfl, hf, hh, hnew, hkeep, hres⟩
   have hkeepB : ∀ b, b < w.heap.size -> w'.heap[b]? = w.heap[b]? := fun b hb => hf.keep b hb own_nil
   have hframe : Frame (Own H m) w w' := ⟨hf.os, hf.tape, hf.output, hf.size, hf.sz, fun b hb _ => hkeepB b hb⟩
   have him := im_mono (ext := ext) hframe (hp' := H) (m' := m) (fun k x b hk hb => .inl ⟨k, x, hk, hb⟩)
   refine ⟨v, m, rfl, hframe, ⟨?_, hheap.inj, ?_⟩, fun k x b hk hb => .inl ⟨k, x, hk, hb⟩, fun _ _ _ _ _ => rfl, ?_⟩
   ·intro k z hz
    exact BlkRep.mono (w := w) him hf.sz (fun _ _ _ h => h) rfl (fun b hb => hkeepB b (hheap.sep k z b hz hb).2) (hheap.blk k z hz)
   ·intro k z b hz hb
    have := hheap.sep k z b hz hb
    exact ⟨this.1, Nat.lt_of_lt_of_le this.2 hf.size⟩
   ·refine rep_li hr ?_ hres
    rintro b2 cs2 o kk z ho ⟨g1, g2, t2, fl, g3⟩
    refine ⟨fun h9 => g1 (.inl h9), ?_, t2, fl, g3⟩
    rintro ⟨k2, y, hk2, hb2⟩
    have hlt := fun b hb => (hheap.sep k2 _ b hk2 hb).2
    have h3 := hheap.blk k2 _ hk2
    rw [hb2] at h3
    rcases hH k2 y hk2 with h9 | ⟨cl, rfl, hcl⟩ | ⟨vs2, rfl, hvl⟩
    ·exact g1 (.inr ⟨k2, y, h9, hk2, hb2⟩)
    ·cases h3 with
     | @box _ _ c2 t' hw2 hn2 h12 hrr2 =>
      have hcc : c2 = cs2 := by
       rw [hkeepB b2 (hlt b2 hb2), hw2] at g3
       injection g3 with g3
       injection g3
      subst hcc
      have ho' : o < c2.size := (Array.getElem?_eq_some_iff.1 ho).1
      have hx := List.getElem?_eq_getElem (l := cl) (i := o) (by omega)
      exact rep_noInt (List.all_eq_true.1 hcl _ (List.mem_of_getElem? hx)) (hrr2 o _ _ ho hx) kk z rfl
    ·cases h3 with
     | @vec _ _ c2 t' hw2 hc2 h12 =>
      have hcc : c2 = cs2 := by
       rw [hkeepB b2 (hlt b2 hb2), hw2] at g3
       injection g3 with g3
       injection g3
      subst hcc
      have : Value.int kk z ∈ vs2 := by rw [<- hc2]; exact Array.mem_toList_iff.2 (Array.mem_of_getElem? ho)
      exact hvl _ this kk z rfl
end Go.Lw
namespace Go.Lw
open Go.Proofs
def bv (xs : List Bool) : List Value := xs.map .bool
theorem len_bv (xs : List Bool) : (bv xs).length = xs.length := List.length_map _
theorem bv_set (xs : List Bool) (n : Nat) : (bv xs).set n (.bool true) = bv (xs.set n true) := by unfold bv; rw [List.map_set]
theorem bv_no (xs : List Bool) : ∀ v ∈ bv xs, ∀ kk z, v ≠ .int kk z := by
 intro v hv kk z
 obtain ⟨b, _, rfl⟩ := List.mem_map.1 hv
 exact fun h => by cases h
theorem bv_av (xs : List Bool) : (bv xs).map AV.v = xs.map bl := by unfold bv; rw [List.map_map]; rfl
theorem bv_rep (n : Nat) : List.replicate n (Value.bool false) = bv (List.replicate n false) := by unfold bv; rw [List.map_replicate]
theorem ints_li (xs : List Int) : (xs.map i64).all isInt = true := by
 rw [List.all_eq_true]
 intro x hx
 obtain ⟨b, _, rfl⟩ := List.mem_map.1 hx
 rfl
theorem gr_li (g : Gr) (b : Bool) : (AV.tup [g.av, bl b]).li = true := by
 simp only [AV.li, AV.lis, Gr.av, ints_li]
 rfl
def fdB (l : Li) (n : Nat) : Blk := .box (l.av.cells ++ [.ms 23 1 0 l.bodies.length, .ms 27 1 0 l.bodies.length, .ms 31 1 0 l.joints.length, .ms 900 4 0 n])
def fdH (l : Li) (known used : List Bool) (out : List Gr) : Hp :=
  [(33, some (fdB l out.length)), (23, some (.vec (bv known))), (27, some (.vec (bv (drivenL l)))), (31, some (.vec (bv used))), (900, some (.row 4 (out.map Gr.av)))]
theorem sl_all {xs : List Bool} {n : Nat} (h : xs.length = n) : AV.lst 1 ((((bv xs).drop 0).take n).map .v) = .lst 1 (xs.map bl) := by
 rw [List.drop_zero, List.take_of_length_le (by rw [len_bv]; omega), bv_av]
theorem c_find_next (l : Li) (hl : l.ok) (hli : liE l = 0) (known used : List Bool) (hk : known.length = l.bodies.length) (hu : used.length = l.joints.length) (hm : l.bodies.length <= maxL /\ l.joints.length <= maxL) (out : List Gr) :
  Con Tryz.prog 207 [.ptr 33 0] (fdH l known used out) (.tup [((nextG l known).getD default).av, bl (nextG l known).isSome]) (fdH l known used out) := by
 refine Con.lend (cs := l.av.cells ++ [.ms 23 1 0 l.bodies.length, .ms 27 1 0 l.bodies.length, .ms 31 1 0 l.joints.length, .ms 900 4 0 out.length])
  (cs' := fun v => fdC l known (drivenL l) [.lst 1 (used.map bl), .v v]) [900] 7 rfl (by decide) ?_ (by simp [Li.av, AV.cells]) ?_ (gr_li _ _) (fun v => c_g_next l hl hli known hk _)
 ·intro v hv
  refine ⟨rfl, ?_, ?_⟩
  ·intro j x hx
   match j, hx with
   | 0, hx => cases hx; rfl
   | 1, hx => cases hx; rfl
   | 2, hx => cases hx; rfl
   | 3, hx => cases hx; rfl
   | 4, hx => cases hx; rfl
   | 5, hx => cases hx; rfl
   | 6, hx => cases hx; rfl
   | 7, hx => cases hx; exact hv
   | j + 8, hx => cases hx
  ·intro j x x' hx hx'
   match j, hx, hx' with
   | 0, hx, hx' => cases hx; cases hx'; exact .inr (.same rfl)
   | 1, hx, hx' => cases hx; cases hx'; exact .inr (.same rfl)
   | 2, hx, hx' => cases hx; cases hx'; exact .inr (.same rfl)
   | 3, hx, hx' => cases hx; cases hx'; exact .inr (.same rfl)
   | 4, hx, hx' =>
    cases hx; cases hx'
    have h := Lent.ms (H := fdH l known used out) (hid := [900]) (k := 23) (off := 0) (len := l.bodies.length) (vs := bv known) rfl (by decide) (by rw [len_bv]; omega) (by rw [len_bv]; omega)
    rw [sl_all hk] at h
    exact .inr h
   | 5, hx, hx' =>
    cases hx; cases hx'
    have h := Lent.ms (H := fdH l known used out) (hid := [900]) (k := 27) (off := 0) (len := l.bodies.length) (vs := bv (drivenL l)) rfl (by decide) (by rw [len_bv, len_driven]; omega) (by rw [len_bv, len_driven]; omega)
    rw [sl_all (len_driven l)] at h
    exact .inr h
   | 6, hx, hx' =>
    cases hx; cases hx'
    have h := Lent.ms (H := fdH l known used out) (hid := [900]) (k := 31) (off := 0) (len := l.joints.length) (vs := bv used) rfl (by decide) (by rw [len_bv]; omega) (by rw [len_bv]; omega)
    rw [sl_all hu] at h
    exact .inr h
   | 7, hx, hx' => cases hx; cases hx'; exact .inl ⟨rfl, rfl⟩
   | j + 8, hx, hx' => cases hx
 ·intro k z hz
  simp only [fdH, lk_cons] at hz
  split at hz
  ·cases hz; exact .inr (.inl ⟨_, rfl, rfl⟩)
  split at hz
  ·cases hz; exact .inr (.inr ⟨_, rfl, bv_no _⟩)
  split at hz
  ·cases hz; exact .inr (.inr ⟨_, rfl, bv_no _⟩)
  split at hz
  ·cases hz; exact .inr (.inr ⟨_, rfl, bv_no _⟩)
  split at hz
  ·subst_vars; exact .inl (by decide)
  ·cases hz
def fdR (l : Li) : AV := if liE l = 0 then .iptr (fdC l (restK l) (drivenL l) [.lst 1 ((restJ l).map bl), .lst 4 ((findG l).map Gr.av)]) else .v (.pointer none)
def usedL (l : Li) (out : List Gr) : List Bool := out.foldl (fun k g => markAll k g.joints) (List.replicate l.joints.length false)
theorem len_used (l : Li) (out : List Gr) : (usedL l out).length = l.joints.length := by unfold usedL; rw [len_fold, List.length_replicate]
theorem used_app (l : Li) (out : List Gr) (g : Gr) : usedL l (out ++ [g]) = markAll (usedL l out) g.joints := by unfold usedL; rw [List.foldl_append]; rfl
theorem mark_take {k : List Bool} {bs : List Int} {i : Nat} {b : Int} (h : bs[i]? = some b) : markAll k (bs.take (i + 1)) = (markAll k (bs.take i)).set b.toNat true := by
 unfold markAll
 rw [take_succ_get h, List.foldl_append]; rfl
theorem find_more {l : Li} (hli : liE l = 0) {known : List Bool} {out : List Gr} {g : Gr} (hk : known.length = l.bodies.length) (h : findFrom l (unk known) known out = (restK l, findG l)) (hg : nextG l known = some g) :
  findFrom l (unk (markAll known g.bodies)) (markAll known g.bodies) (out ++ [g]) = (restK l, findG l) := by
 have hlt := nextG_less hli hk hg
 obtain ⟨n, hn⟩ : ∃ n, unk known = n + 1 := ⟨unk known - 1, by omega⟩
 rw [hn] at h
 unfold findFrom at h
 rw [hg] at h
 rw [<- h]
 exact findFrom_more hli _ _ _ _ (by rw [len_mark]; exact hk) (Nat.le_refl _) (by omega)
theorem find_end {l : Li} {known : List Bool} {out : List Gr} (h : findFrom l (unk known) known out = (restK l, findG l)) (hg : nextG l known = none) : known = restK l /\ out = findG l := by
 cases hn : unk known with
 | zero => rw [hn] at h; exact ⟨(Prod.mk.inj h).1, (Prod.mk.inj h).2⟩
 | succ n => rw [hn] at h; unfold findFrom at h; rw [hg] at h; exact ⟨(Prod.mk.inj h).1, (Prod.mk.inj h).2⟩
theorem unk_only {n : Nat} : unk (onlyK n 0) <= n := by
 unfold unk
 exact Nat.le_trans List.countP_le_length (Nat.le_of_eq (len_only _ _))
theorem find_start {l : Li} (hli : liE l = 0) : findFrom l (unk (onlyK l.bodies.length 0)) (onlyK l.bodies.length 0) [] = (restK l, findG l) := by
 rw [<- find_restK]
 exact findFrom_more hli _ _ _ _ (len_only _ _) (Nat.le_refl _) unk_only
theorem out_le {l : Li} (hli : liE l = 0) {known : List Bool} {out : List Gr} (hk : known.length = l.bodies.length) (h : findFrom l (unk known) known out = (restK l, findG l)) : out.length <= 8 := by
 obtain ⟨gs, e⟩ := findFrom_known (l := l) (unk known) known out
 rw [e] at h
 have h1 := (findG_ok hli).2
 have h2 : out ++ gs = findG l := (Prod.mk.inj h).2
 rw [<- h2, List.length_append] at h1; omega
theorem wk_finder (l : Li) (known used : List Bool) (out : List Gr) (hk : known.length = l.bodies.length) (hu : used.length = l.joints.length) (hm : l.bodies.length <= maxL /\ l.joints.length <= maxL) :
  Wk ⟨[(5, some (.ptr 33 0))], fdH l known used out⟩ ⟨[(5, some (.iptr (fdC l known (drivenL l) [.lst 1 (used.map bl), .lst 4 (out.map Gr.av)])))], []⟩ := by
 have hd := len_driven l
 have q1 : .ms 23 1 0 l.bodies.length = AV.ms 23 1 0 ((bv known).map AV.v).length := by rw [List.length_map, len_bv, hk]
 refine (Wk.of (sl := [(5, some (.ptr 33 0))]) (hp := [(33, some (fdB l out.length)), (23, some (.row 1 ((bv known).map .v))), (27, some (.row 1 ((bv (drivenL l)).map .v))), (31, some (.row 1 ((bv used).map .v))), (900, some (.row 4 (out.map Gr.av)))])
  (.k .nil) (.cons rfl (.refl _) (.cons rfl (.vecRow (by rw [len_bv]; omega)) (.cons rfl (.vecRow (by rw [len_bv]; omega)) (.cons rfl (.vecRow (by rw [len_bv]; omega)) (.cons rfl (.refl _) .nil)))))).trans ?_
 refine (Wk.freeze (k := 23) rfl).trans ?_
 refine (Wk.of (sl := [(5, some (.ptr 33 0))]) (hp := [(33, some (.box (l.av.cells ++ [.lst 1 (known.map bl), .ms 27 1 0 l.bodies.length, .ms 31 1 0 l.joints.length, .ms 900 4 0 out.length]))), (27, some (.row 1 ((bv (drivenL l)).map .v))), (31, some (.row 1 ((bv used).map .v))), (900, some (.row 4 (out.map Gr.av)))])
  (.k .nil) (.cons rfl (BlkSub.boxL (.cons (.refl _) (.cons (.refl _) (.cons (.refl _) (.cons (.refl _) (.cons (.of ((fz_all (by rw [List.length_map, len_bv, hk])).trans (by rw [bv_av]))) (.cons (.refl _) (.cons (.refl _) (.cons (.refl _) .nil)))))))) rfl) (.cons rfl (.refl _) (.cons rfl (.refl _) (.cons rfl (.refl _) .nil))))).trans ?_
 refine (Wk.freeze (k := 27) rfl).trans ?_
 refine (Wk.of (sl := [(5, some (.ptr 33 0))]) (hp := [(33, some (.box (l.av.cells ++ [.lst 1 (known.map bl), .lst 1 ((drivenL l).map bl), .ms 31 1 0 l.joints.length, .ms 900 4 0 out.length]))), (31, some (.row 1 ((bv used).map .v))), (900, some (.row 4 (out.map Gr.av)))])
  (.k .nil) (.cons rfl (BlkSub.boxL (.cons (.refl _) (.cons (.refl _) (.cons (.refl _) (.cons (.refl _) (.cons (.refl _) (.cons (.of ((fz_all (by rw [List.length_map, len_bv, hd])).trans (by rw [bv_av]))) (.cons (.refl _) (.cons (.refl _) .nil)))))))) rfl) (.cons rfl (.refl _) (.cons rfl (.refl _) .nil)))).trans ?_
 refine (Wk.freeze (k := 31) rfl).trans ?_
 refine (Wk.of (sl := [(5, some (.ptr 33 0))]) (hp := [(33, some (.box (l.av.cells ++ [.lst 1 (known.map bl), .lst 1 ((drivenL l).map bl), .lst 1 (used.map bl), .ms 900 4 0 out.length]))), (900, some (.row 4 (out.map Gr.av)))])
  (.k .nil) (.cons rfl (BlkSub.boxL (.cons (.refl _) (.cons (.refl _) (.cons (.refl _) (.cons (.refl _) (.cons (.refl _) (.cons (.refl _) (.cons (.of ((fz_all (by rw [List.length_map, len_bv, hu])).trans (by rw [bv_av]))) (.cons (.refl _) .nil)))))))) rfl) (.cons rfl (.refl _) .nil))).trans ?_
 refine (Wk.freeze (k := 900) rfl).trans ?_
 refine (Wk.of (sl := [(5, some (.ptr 33 0))]) (hp := [(33, some (.box (fdC l known (drivenL l) [.lst 1 (used.map bl), .lst 4 (out.map Gr.av)])))])
  (.k .nil) (.cons rfl (BlkSub.boxL (.cons (.refl _) (.cons (.refl _) (.cons (.refl _) (.cons (.refl _) (.cons (.refl _) (.cons (.refl _) (.cons (.refl _) (.cons (.of (fz_all (by rw [List.length_map]))) .nil)))))))) rfl) .nil)).trans ?_
 refine (Wk.freezeB (k := 33) rfl rfl).trans ?_
 exact Wk.of (.k .nil) .nil
theorem c_g_find (l : Li) (hl : l.ok) : FnC Tryz.prog 145 [l.av] (.tup [fdR l, errA (liE l)]) := by
 refine gF0 Tryz.func145 ?_
 refine gc (c_model_Check l hl) ?_
 refine gC (fun ht17 => ?_) (fun ht17 => ?_)
 ·have h1 := nNil_t ht17
  refine gE2 ?_
  unfold fdR; rw [if_neg h1]
 ·have hli := nNil_f ht17
  have h8 := (li_parts hli).2.2.2.1
  have h0 := (li_parts hli).2.2.2.2
  have hj16 : l.joints.length <= 16 := by have := (li_parts hli).2.1; unfold jtsE at this; split at this; cases this; omega
  have hld := hl.ld
  have hm : l.bodies.length <= maxL /\ l.joints.length <= maxL := by unfold maxL; omega
  refine gl ?_
  refine gs (s_makeV (.tmp rfl) T222 rfl T4 rfl rfl rfl rfl (by dsimp only; omega) rfl) ?_
  refine gl ?_
  refine gs (s_makeV (.tmp rfl) T222 rfl T4 rfl rfl rfl rfl (by dsimp only; omega) rfl) ?_
  refine gl ?_
  refine gs (s_makeV (.tmp rfl) T222 rfl T4 rfl rfl rfl rfl (by dsimp only; omega) rfl) ?_
  refine gD ?_
  refine gs (s_idxMs0 (n := 0) (.tmp rfl) (.const _) T222 rfl T4 rfl rfl (by omega) rfl) ?_
  refine gs (s_stVec (.tmp rfl) rfl (by rw [List.length_replicate]; omega) (.const _) rfl T4 rfl) ?_ (6, 0)
  refine gW (Wk.of (sl := [(1, some (.ptr 1 0)), (5, some (.ptr 33 0))]) (hp := [(1, some (.box l.av.cells)), (33, some (.box (l.av.cells ++ [.ms 23 1 0 l.bodies.length, .ms 27 1 0 l.bodies.length, .ms 31 1 0 l.joints.length, .v (.slice none 0 0)]))), (23, some (.vec (bv (onlyK l.bodies.length 0)))), (27, some (.vec (bv (List.replicate l.bodies.length false)))), (31, some (.vec (bv (List.replicate l.joints.length false))))]) (by repeat (first | exact SlW.nil | refine SlW.k ?_)) (.cons rfl (.refl _) (.cons rfl (.refl _) (.cons rfl (BlkSub.of (by rw [bv_rep, bv_set]; rfl)) (.cons rfl (BlkSub.of (by rw [bv_rep])) (.cons rfl (BlkSub.of (by rw [bv_rep])) .nil)))))) ?_
  refine gl ?_
  refine gL1 [1, 5, 40, 41] [1, 23, 31] (fun (i : Nat) => [(42, some (i64 i))]) (fun i => [(33, some (.box (l.av.cells ++ [.ms 23 1 0 l.bodies.length, .ms 27 1 0 l.bodies.length, .ms 31 1 0 l.joints.length, .v (.slice none 0 0)]))), (27, some (.vec (bv (markAll (List.replicate l.bodies.length false) ((l.drivers.map Dr.body).take i)))))]) (fun i => i <= l.drivers.length) (fun i => l.drivers.length - i) 0 (Nat.zero_le _) ?_
  rintro i hi K1 hK1
  refine gC (fun ht43 => ?_) (fun ht43 => ?_) (st2 := (11, 0))
  ·have hin := lss_t ht43
   obtain ⟨d, hd⟩ := getx hin
   have hb := inB_t (dr_in hli hd)
   have hmt := mark_take (k := List.replicate l.bodies.length false) (bs := l.drivers.map Dr.body) (i := i) (b := d.body) (by rw [List.getElem?_map, hd]; rfl)
   refine gi (getmap hd) ?_
   refine gs (s_idxMs0 (n := d.body.toNat) (.tmp rfl) (.tmp rfl) T222 rfl T4 rfl (by omega) (by omega) rfl) ?_
   refine gs (s_stVec (.tmp rfl) rfl (by rw [len_bv, len_mark, List.length_replicate]; omega) (.const _) rfl T4 rfl) ?_
   refine gD ?_
   refine ga (i64_add1 (by unfold maxL; omega)) ?_
   exact gK1 hK1 (i + 1) hin (hw := Wk.of (by repeat (first | exact SlW.nil | refine SlW.k ?_)) (.cons rfl (.refl _) (.cons rfl (BlkSub.of (by rw [bv_set, hmt])) (.cons rfl (.refl _) (.cons rfl (.refl _) (.cons rfl (.refl _) .nil))))))
  ·have hin := lss_end hi ht43
   have hall : markAll (List.replicate l.bodies.length false) ((l.drivers.map Dr.body).take i) = drivenL l := by rw [hin]; unfold drivenL; rw [List.take_of_length_le (by rw [List.length_map]; omega)]
   refine gW ((Wk.virt 900 4 rfl).trans <| Wk.of (sl := [(1, some (.ptr 1 0)), (5, some (.ptr 33 0))]) (hp := [(33, some (fdB l 0)), (23, some (.vec (bv (onlyK l.bodies.length 0)))), (27, some (.vec (bv (drivenL l)))), (31, some (.vec (bv (List.replicate l.joints.length false)))), (900, some (.row 4 []))]) (by repeat (first | exact SlW.nil | refine SlW.k ?_)) (.cons rfl (BlkSub.boxL (.cons (.refl _) (.cons (.refl _) (.cons (.refl _) (.cons (.refl _) (.cons (.refl _) (.cons (.refl _) (.cons (.refl _) (.cons (Sub.nilMs _ _ _) .nil)))))))) rfl) (.cons rfl (.refl _) (.cons rfl (BlkSub.of (by rw [hall])) (.cons rfl (.refl _) (.cons rfl (.refl _) .nil)))))) ?_
   refine gt (s_callH (c_find_next l hl hli (onlyK l.bodies.length 0) (List.replicate l.joints.length false) (len_only _ _) List.length_replicate hm []) (.cons (.tmp rfl) .nil) (fun k z h => h) rfl rfl) ?_
   refine gL2 [5, 8] [] (fun (known : List Bool) (out : List Gr) => [(9, some (bl (nextG l known).isSome))]) (fun known out => [(8, some (.box ((nextG l known).getD default).av.cells)), (33, some (fdB l out.length)), (23, some (.vec (bv known))), (27, some (.vec (bv (drivenL l)))), (31, some (.vec (bv (usedL l out)))), (900, some (.row 4 (out.map Gr.av)))]) (fun known out => known.length = l.bodies.length /\ findFrom l (unk known) known out = (restK l, findG l)) (fun known _ => unk known) (onlyK l.bodies.length 0) ([]) ⟨len_only _ _, find_start hli⟩ ?_
   rintro known out ⟨hk, hf⟩ K2 hK2
   refine gC (fun ht59 => ?_) (fun ht59 => ?_) (st1 := (77777, 0)) (st2 := (27, 0))
   ·obtain ⟨g, hg⟩ := some_of ht59
    have hgo := nextG_ok hli hg
    have hout := out_le hli hk hf
    refine gW (Wk.of (sl := [(5, some (.ptr 33 0)), (8, some (.ptr 8 0))]) (hp := [(8, some (.box g.av.cells)), (33, some (fdB l out.length)), (23, some (.vec (bv known))), (27, some (.vec (bv (drivenL l)))), (31, some (.vec (bv (usedL l out)))), (900, some (.row 4 (out.map Gr.av)))]) (by repeat (first | exact SlW.nil | refine SlW.k ?_)) (.cons rfl (BlkSub.of (by rw [hg]; rfl)) (.cons rfl (.refl _) (.cons rfl (.refl _) (.cons rfl (.refl _) (.cons rfl (.refl _) (.cons rfl (.refl _) .nil))))))) ?_
    refine gl ?_
    refine gL1 [5, 8, 66, 67] [8, 33, 27, 31, 900] (fun (j : Nat) => [(68, some (i64 j))]) (fun j => [(23, some (.vec (bv (markAll known (g.bodies.take j)))))]) (fun j => j <= g.bodies.length) (fun j => g.bodies.length - j) 0 (Nat.zero_le _) ?_
    rintro j hj K3 hK3
    refine gC (fun ht69 => ?_) (fun ht69 => ?_)
    ·have hin := lss_t ht69
     obtain ⟨b, hb⟩ := getx hin
     have hbb := hgo.b b (List.mem_of_getElem? hb)
     have hlb := hgo.lb
     refine gi (getmap hb) ?_
     refine gs (s_idxMs0 (n := b.toNat) (.tmp rfl) (.tmp rfl) T222 rfl T4 rfl (by omega) (by omega) rfl) ?_
     refine gs (s_stVec (.tmp rfl) rfl (by rw [len_bv, len_mark]; omega) (.const _) rfl T4 rfl) ?_
     refine ga (i64_add1 (by unfold maxL; omega)) ?_
     exact gK1 hK3 (j + 1) hin (hw := Wk.of (by repeat (first | exact SlW.nil | refine SlW.k ?_)) (.cons rfl (BlkSub.of (by rw [bv_set, mark_take hb])) (.cons rfl (.refl _) (.cons rfl (.refl _) (.cons rfl (.refl _) (.cons rfl (.refl _) (.cons rfl (.refl _) .nil)))))))
    ·have hin := lss_end hj ht69
     subst hin
     refine gl ?_
     refine gL1 [5, 8, 80, 81] [8, 33, 27, 900] (fun (q : Nat) => [(82, some (i64 q))]) (fun q => [(23, some (.vec (bv (markAll known g.bodies)))), (31, some (.vec (bv (markAll (usedL l out) (g.joints.take q)))))]) (fun q => q <= g.joints.length) (fun q => g.joints.length - q) 0 (Nat.zero_le _) ?_ (h2 := (.cons rfl (BlkSub.of (by rw [List.take_length])) (.cons rfl (.refl _) .nil)))
     rintro q hq K4 hK4
     refine gC (fun ht83 => ?_) (fun ht83 => ?_)
     ·have hin := lss_t ht83
      obtain ⟨b, hb⟩ := getx hin
      have hbb := hgo.j b (List.mem_of_getElem? hb)
      have hlj := hgo.lj
      refine gi (getmap hb) ?_
      refine gs (s_idxMs0 (n := b.toNat) (.tmp rfl) (.tmp rfl) T222 rfl T4 rfl (by omega) (by omega) rfl) ?_
      refine gs (s_stVec (.tmp rfl) rfl (by rw [len_bv, len_mark, len_used]; omega) (.const _) rfl T4 rfl) ?_
      refine ga (i64_add1 (by unfold maxL; omega)) ?_
      exact gK1 hK4 (q + 1) hin (hw := Wk.of (by repeat (first | exact SlW.nil | refine SlW.k ?_)) (.cons rfl (.refl _) (.cons rfl (BlkSub.of (by rw [bv_set, mark_take hb])) (.cons rfl (.refl _) (.cons rfl (.refl _) (.cons rfl (.refl _) (.cons rfl (.refl _) .nil)))))))
     ·have hin := lss_end hq ht83
      subst hin
      refine gs (s_append (.tmp rfl) rfl (by rw [List.length_map]) (.tmp rfl) T137 rfl T166 rfl rfl (by simp only [List.length_cons, List.length_nil]; omega) rfl rfl) ?_
      refine gD ?_ (25, 0)
      refine gW (Wk.of (sl := [(5, some (.ptr 33 0)), (8, some (.ptr 8 0))]) (hp := [(8, some (.box g.av.cells)), (33, some (.box (l.av.cells ++ [.ms 23 1 0 l.bodies.length, .ms 27 1 0 l.bodies.length, .ms 31 1 0 l.joints.length, .ms 100 4 0 (out ++ [g]).length]))), (100, some (.row 4 ((out ++ [g]).map Gr.av))), (23, some (.vec (bv (markAll known g.bodies)))), (27, some (.vec (bv (drivenL l)))), (31, some (.vec (bv (usedL l (out ++ [g])))))]) (by repeat (first | exact SlW.nil | refine SlW.k ?_)) (.cons rfl (.refl _) (.cons rfl (BlkSub.of (by rw [List.length_append]; rfl)) (.cons rfl (BlkSub.of (by rw [List.map_append]; rfl)) (.cons rfl (.refl _) (.cons rfl (.refl _) (.cons rfl (BlkSub.of (by rw [used_app, List.take_length])) .nil))))))) ?_ (25, 0)
      refine gW (Wk.rekey (k := 100) (d := 900) rfl rfl) ?_ (26, 0)
      refine gW (Wk.o (sl := [(5, some (.ptr 33 0)), (103, some (g.av))]) (hp := [(33, some (fdB l (out ++ [g]).length)), (23, some (.vec (bv (markAll known g.bodies)))), (27, some (.vec (bv (drivenL l)))), (31, some (.vec (bv (usedL l (out ++ [g]))))), (900, some (.row 4 ((out ++ [g]).map Gr.av)))])) ?_
      refine gt (s_callH (c_find_next l hl hli (markAll known g.bodies) (usedL l (out ++ [g])) (by rw [len_mark]; exact hk) (len_used _ _) hm (out ++ [g])) (.cons (.tmp rfl) .nil) (by intro k z h; simp only [fdH, lk_cons] at h; split at h; (subst_vars; exact h); split at h; (subst_vars; exact h); split at h; (subst_vars; exact h); split at h; (subst_vars; exact h); split at h; (subst_vars; exact h); cases h) rfl rfl) ?_
      exact gK2 hK2 (markAll known g.bodies) (out ++ [g]) ⟨by rw [len_mark]; exact hk, find_more hli hk hf hg⟩ (nextG_less hli hk hg)
   ·have hg := none_of ht59
    obtain ⟨e1, e2⟩ := find_end hf hg
    subst e1 e2
    refine gW (Wk.o (sl := [(5, some (.ptr 33 0))]) (hp := [(33, some (fdB l (findG l).length)), (23, some (.vec (bv (restK l)))), (27, some (.vec (bv (drivenL l)))), (31, some (.vec (bv (usedL l (findG l))))), (900, some (.row 4 ((findG l).map Gr.av)))])) ?_ (27, 0)
    refine gW (wk_finder l (restK l) (usedL l (findG l)) (findG l) hk (len_used _ _) hm) ?_
    refine gE2 ?_
    unfold fdR; rw [if_pos hli, hli]; rfl
end Go.Lw
namespace Go.Lw
open Go.Proofs
theorem ix_any {α : Type} [BEq α] [LawfulBEq α] {xs : List α} {b : α} {ok : Nat -> Bool} (h : ∀ i x, xs[i]? = some x -> ok i = !(b == x)) : decide (0 <= ixI (firstB xs.length ok)) = xs.contains b := by
 cases hf : firstB xs.length ok with
 | some i =>
  obtain ⟨h1, h2⟩ := firstB_some hf
  obtain ⟨x, hx⟩ := getx h1
  rw [h i x hx] at h2
  have : b = x := by simpa using h2
  subst this
  rw [List.contains_iff_mem.2 (List.mem_of_getElem? hx)]
  exact decide_eq_true (by show (0 : Int) <= (i : Int); omega)
 | none =>
  rw [decide_eq_false (by show ¬ (0 : Int) <= -1; decide)]
  symm
  rw [<- Bool.not_eq_true, List.contains_iff_mem]
  intro hm
  obtain ⟨i, hi⟩ := List.mem_iff_getElem?.1 hm
  have hlt := (List.getElem?_eq_some_iff.1 hi).1
  unfold firstB at hf
  rw [List.find?_eq_none] at hf
  have := hf i (List.mem_range.2 hlt)
  rw [h i b hi] at this
  simp at this
theorem c_index_bool (xs : List Bool) (b : Bool) (hl : xs.length <= 281474976710656) : FnC Tryz.prog 208 [.lst 1 (xs.map bl), bl b] (i64 (ixI (firstB xs.length (fun i => !(b == xs.getD i false))))) := by
 refine gF0 Tryz.func208 ?_
 refine gl ?_
 refine gL1 [0, 1, 7] [] (fun (i : Nat) => [(8, some (i64 i))]) (fun _ => []) (fun i => i <= xs.length /\ ∀ j, j < i -> (!(b == xs.getD j false)) = true) (fun i => xs.length - i) 0 ⟨Nat.zero_le _, fun j h => by omega⟩ ?_
 rintro i ⟨hi, hj⟩ K1 hK1
 refine gC (fun ht9 => ?_) (fun ht9 => ?_)
 ·have hin := lss_t ht9
  obtain ⟨x, hx⟩ := getx hin
  have hg : xs.getD i false = x := getD_of hx
  refine gi (getmap hx) ?_
  refine gC (fun ht16 => ?_) (fun ht16 => ?_)
  ·have h2 : (b == x) = true := ht16
   refine gE1 ?_
   rw [firstB_at hin hj (by rw [hg, h2]; rfl)]; rfl
  ·have h2 : (b == x) = false := ht16
   refine ga (i64_add1 (by unfold maxL; omega)) ?_
   exact gK1 hK1 (i + 1) ⟨hin, fun j h9 => by rcases Nat.lt_or_ge j i with g | g; exact hj j g; (have : j = i := by omega); subst this; rw [hg, h2]; rfl⟩
 ·have hin := lss_end hi ht9
  subst hin
  refine gE1 ?_
  rw [firstB_all hj]; rfl
theorem c_contains_bool (xs : List Bool) (b : Bool) (hl : xs.length <= 281474976710656) : FnC Tryz.prog 146 [.lst 1 (xs.map bl), bl b] (bl (xs.contains b)) := by
 refine gF0 Tryz.func146 ?_
 refine gc (c_index_bool xs b hl) ?_
 refine gE1 ?_
 rw [<- ix_any (xs := xs) (b := b) (ok := fun i => !(b == xs.getD i false)) (fun i x hx => by rw [getD_of hx])]; rfl
theorem c_index_int (xs : List Int) (b : Int) (hl : xs.length <= 281474976710656) : FnC Tryz.prog 351 [.lst 1 (xs.map i64), i64 b] (i64 (ixI (firstB xs.length (fun i => !(b == xs.getD i 0))))) := by
 refine gF0 Tryz.func351 ?_
 refine gl ?_
 refine gL1 [0, 1, 7] [] (fun (i : Nat) => [(8, some (i64 i))]) (fun _ => []) (fun i => i <= xs.length /\ ∀ j, j < i -> (!(b == xs.getD j 0)) = true) (fun i => xs.length - i) 0 ⟨Nat.zero_le _, fun j h => by omega⟩ ?_
 rintro i ⟨hi, hj⟩ K1 hK1
 refine gC (fun ht9 => ?_) (fun ht9 => ?_)
 ·have hin := lss_t ht9
  obtain ⟨x, hx⟩ := getx hin
  have hg : xs.getD i 0 = x := getD_of hx
  refine gi (getmap hx) ?_
  refine gC (fun ht16 => ?_) (fun ht16 => ?_)
  ·have h2 : (b == x) = true := ht16
   refine gE1 ?_
   rw [firstB_at hin hj (by rw [hg, h2]; rfl)]; rfl
  ·have h2 : (b == x) = false := ht16
   refine ga (i64_add1 (by unfold maxL; omega)) ?_
   exact gK1 hK1 (i + 1) ⟨hin, fun j h9 => by rcases Nat.lt_or_ge j i with g | g; exact hj j g; (have : j = i := by omega); subst this; rw [hg, h2]; rfl⟩
 ·have hin := lss_end hi ht9
  subst hin
  refine gE1 ?_
  rw [firstB_all hj]; rfl
theorem c_contains_int (xs : List Int) (b : Int) (hl : xs.length <= 281474976710656) : FnC Tryz.prog 301 [.lst 1 (xs.map i64), i64 b] (bl (xs.contains b)) := by
 refine gF0 Tryz.func301 ?_
 refine gc (c_index_int xs b hl) ?_
 refine gE1 ?_
 rw [<- ix_any (xs := xs) (b := b) (ok := fun i => !(b == xs.getD i 0)) (fun i x hx => by rw [getD_of hx])]; rfl
theorem c_g_Split (l : Li) (hl : l.ok) : FnC Tryz.prog 83 [l.av] (.tup [.lst 4 (((if liE l = 0 then splitG l else [])).map Gr.av), errA (if liE l = 0 then splitE l else liE l)]) := by
 refine gF0 Tryz.func83 ?_
 refine gc (c_g_find l hl) (hnm := (by unfold fdR; split <;> rfl)) ?_
 refine gC (fun ht12 => ?_) (fun ht12 => ?_) (st2 := (77777, 0))
 ·have h1 := nNil_t ht12
  refine gR ?_
  exact fin_sub (by rw [if_neg h1, if_neg h1]; exact Sub.tup (.cons (.nil _ _ _) (.cons (.refl _) .nil)))
 ·have hli := nNil_f ht12
  have h8 := (li_parts hli).2.2.2.1
  have hj16 : l.joints.length <= 16 := by have := (li_parts hli).2.1; unfold jtsE at this; split at this; cases this; omega
  have lk1 : (restK l).length = l.bodies.length := by unfold restK; rw [len_fold, len_only]
  have lk2 : (restJ l).length = l.joints.length := by unfold restJ; rw [len_fold, List.length_replicate]
  have e1 : fdR l = .iptr (fdC l (restK l) (drivenL l) [.lst 1 ((restJ l).map bl), .lst 4 ((findG l).map Gr.av)]) := by unfold fdR; rw [if_pos hli]
  have c1 := unm_zero (k := restK l)
  have c2 := unm_zero (k := restJ l)
  refine gW (Wk.of (sl := [(4, some (.iptr (fdC l (restK l) (drivenL l) [.lst 1 ((restJ l).map bl), .lst 4 ((findG l).map Gr.av)]))), (5, some (errA (liE l)))]) (hp := []) (.cons rfl (Sub.of e1) (.k .nil)) .nil) ?_
  refine gc (c_contains_bool (restK l) false (by omega)) ?_
  refine gcG (fun _ => (c_contains_bool (restJ l) false (by omega))) ?_
  refine gC (fun ht25 => ?_) (fun ht25 => ?_)
  ·have h2 : splitE l = 7 := by
    unfold splitE
    rw [if_neg]
    intro h
    have h3 : (restK l).contains false = false := c1.1 (by omega)
    have h4 : (restJ l).contains false = false := c2.1 (by omega)
    rw [h3, h4] at ht25; cases ht25
   refine gR ?_
   exact fin_sub (by rw [if_pos hli, if_pos hli]; unfold splitG; rw [if_neg (by rw [h2]; simp), h2]; exact Sub.tup (.cons (.nil _ _ _) (.cons (.refl _) .nil)))
  ·have h2 : splitE l = 0 := by
    unfold splitE
    rw [if_pos]
    cases h3 : (restK l).contains false <;> cases h4 : (restJ l).contains false <;> rw [h3, h4] at ht25 <;> first | (cases ht25; done) | (have g1 := c1.2 h3; have g2 := c2.2 h4; omega)
   refine gE2 ?_
   rw [if_pos hli, if_pos hli, h2]; unfold splitG; rw [if_pos h2]; rfl
end Go.Lw
namespace Go.Lw
open Go.Proofs
def anc (g : Gr) (j : Jt) : Int := if g.bodies.contains j.a = true then (if g.bodies.contains j.b = true then -1 else j.b) else j.a
def ancL (l : Li) (g : Gr) : List Int := g.joints.map (fun j => anc g (l.joints.getD j.toNat default))
theorem len_anc (l : Li) (g : Gr) : (ancL l g).length = g.joints.length := by unfold ancL; rw [List.length_map]
theorem anc_at {l : Li} {g : Gr} {i : Nat} {z : Int} {j : Jt} (hz : g.joints[i]? = some z) (hj : l.joints[z.toNat]? = some j) : (ancL l g)[i]? = some (anc g j) := by
 unfold ancL; rw [List.getElem?_map, hz, Option.map_some, getD_of hj]
theorem anc_take {l : Li} {g : Gr} {i : Nat} {z : Int} {j : Jt} {a : Int} (hz : g.joints[i]? = some z) (hj : l.joints[z.toNat]? = some j) (ha : anc g j = a) : ((ancL l g).take i).map i64 ++ [i64 a] = ((ancL l g).take (i + 1)).map i64 := by
 rw [take_succ_get (anc_at hz hj), ha, List.map_append]; rfl
theorem in_rng {z : Int} {n : Nat} (h0 : 0 <= z) (h1 : z < n) : cond (icmp .lss z 0) true (icmp .geq z (n : Int)) = false := by
 rw [show icmp .lss z 0 = false from decide_eq_false (by omega)]
 exact decide_eq_false (by omega)
theorem c_g_Anchors (l : Li) (hl : l.ok) (hli : liE l = 0) (g : Gr) (hg : GrOk l g) : Con Tryz.prog 241 [l.av, g.av] [] (.tup [.ms 900 1 0 g.joints.length, .v .nilIface]) [(900, some (.row 1 ((ancL l g).map i64)))] := by
 have hlb := hg.lb
 have hlj := hg.lj
 refine gF Tryz.func241 (fun k z h => by cases h) ?_
 refine gc (c_model_Check l hl) ?_
 refine gC (fun ht16 => ?_) (fun ht16 => ?_) (st1 := (3, 0))
 ·(rw [hli] at ht16; cases ht16)
 ·refine gl ?_
  refine gW ((Wk.virt 900 1 rfl).trans <| Wk.of (sl := [(2, some (.ptr 2 0)), (3, some (.ptr 3 0)), (7, some (.ms 900 1 0 0)), (19, some (.lst 1 (g.joints.map i64))), (20, some (i64 g.joints.length)), (21, some (i64 0))]) (hp := [(2, some (.box l.av.cells)), (3, some (.box g.av.cells)), (900, some (.row 1 []))]) (.k (.k (.cons rfl (Sub.nilMs _ _ _) (.k (.k (.k .nil)))))) (.cons rfl (.refl _) (.cons rfl (.refl _) (.cons rfl (.refl _) .nil)))) ?_
  refine gL1 [2, 3, 19, 20] [2, 3] (fun (i : Nat) => [(7, some (.ms 900 1 0 i)), (21, some (i64 i))]) (fun i => [(900, some (.row 1 (((ancL l g).take i).map i64)))]) (fun i => i <= g.joints.length) (fun i => g.joints.length - i) 0 (Nat.zero_le _) ?_
  rintro i hi K1 hK1
  refine gC (fun ht22 => ?_) (fun ht22 => ?_) (st2 := (18, 0))
  ·have hin := lss_t ht22
   obtain ⟨z, hz⟩ := getx hin
   obtain ⟨z0, z1⟩ := hg.j z (List.mem_of_getElem? hz)
   obtain ⟨j, hj⟩ : ∃ j, l.joints[z.toNat]? = some j := getx (by omega)
   have hlt : (((ancL l g).take i).map i64).length = i := by rw [List.length_map, List.length_take, len_anc]; omega
   refine gi (getmap hz) ?_
   refine glG ?_
   refine gC (fun ht33 => ?_) (fun ht33 => ?_) (st1 := (9, 0))
   ·(rw [in_rng z0 z1] at ht33; cases ht33)
   ·refine gi (getzx (n := z.toNat) (by omega) hj) ?_
    refine gc (c_contains_int g.bodies j.a (by omega)) ?_
    refine gc (c_contains_int g.bodies j.b (by omega)) ?_
    refine gD ?_
    refine gC (fun ht55 => ?_) (fun ht55 => ?_)
    ·have ha : anc g j = -1 := by unfold anc; cases h1 : g.bodies.contains j.a <;> cases h2 : g.bodies.contains j.b <;> rw [h1, h2] at ht55 <;> first | (cases ht55; done) | rfl
     refine gs (s_append (.tmp rfl) rfl hlt.symm (.tmp rfl) T26 rfl T3 rfl rfl (by simp only [List.length_cons, List.length_nil]; omega) rfl rfl) ?_ (17, 0)
     refine gW (Wk.of (sl := [(2, some (.ptr 2 0)), (3, some (.ptr 3 0)), (7, some (.ms 62 1 0 (i + 1))), (19, some (.lst 1 (g.joints.map i64))), (20, some (i64 g.joints.length)), (21, some (i64 i))]) (hp := [(2, some (.box l.av.cells)), (3, some (.box g.av.cells)), (62, some (.row 1 (((ancL l g).take (i + 1)).map i64)))]) (by repeat (first | exact SlW.nil | refine SlW.k ?_)) (.cons rfl (.refl _) (.cons rfl (.refl _) (.cons rfl (BlkSub.of (congrArg (Blk.row 1) (anc_take hz hj ha))) .nil)))) ?_ (17, 0)
     refine gW (Wk.rekey (k := 62) (d := 900) rfl rfl) ?_
     refine ga (i64_add1 (by unfold maxL; omega)) ?_
     exact gK1 hK1 (i + 1) hin
    ·refine gC (fun ht63 => ?_) (fun ht63 => ?_)
     ·have ha : anc g j = j.b := by unfold anc; cases h1 : g.bodies.contains j.a <;> cases h2 : g.bodies.contains j.b <;> rw [h1] at ht63 <;> rw [h1, h2] at ht55 <;> first | (cases ht55; done) | (cases ht63; done) | rfl
      refine gs (s_append (.tmp rfl) rfl hlt.symm (.tmp rfl) T26 rfl T3 rfl rfl (by simp only [List.length_cons, List.length_nil]; omega) rfl rfl) ?_ (17, 0)
      refine gW (Wk.of (sl := [(2, some (.ptr 2 0)), (3, some (.ptr 3 0)), (7, some (.ms 69 1 0 (i + 1))), (19, some (.lst 1 (g.joints.map i64))), (20, some (i64 g.joints.length)), (21, some (i64 i))]) (hp := [(2, some (.box l.av.cells)), (3, some (.box g.av.cells)), (69, some (.row 1 (((ancL l g).take (i + 1)).map i64)))]) (by repeat (first | exact SlW.nil | refine SlW.k ?_)) (.cons rfl (.refl _) (.cons rfl (.refl _) (.cons rfl (BlkSub.of (congrArg (Blk.row 1) (anc_take hz hj ha))) .nil)))) ?_ (17, 0)
      refine gW (Wk.rekey (k := 69) (d := 900) rfl rfl) ?_
      refine ga (i64_add1 (by unfold maxL; omega)) ?_
      exact gK1 hK1 (i + 1) hin
     ·have ha : anc g j = j.a := by unfold anc; rw [if_neg (by rw [show g.bodies.contains j.a = false from ht63]; simp)]
      refine gs (s_append (.tmp rfl) rfl hlt.symm (.tmp rfl) T26 rfl T3 rfl rfl (by simp only [List.length_cons, List.length_nil]; omega) rfl rfl) ?_ (17, 0)
      refine gW (Wk.of (sl := [(2, some (.ptr 2 0)), (3, some (.ptr 3 0)), (7, some (.ms 54 1 0 (i + 1))), (19, some (.lst 1 (g.joints.map i64))), (20, some (i64 g.joints.length)), (21, some (i64 i))]) (hp := [(2, some (.box l.av.cells)), (3, some (.box g.av.cells)), (54, some (.row 1 (((ancL l g).take (i + 1)).map i64)))]) (by repeat (first | exact SlW.nil | refine SlW.k ?_)) (.cons rfl (.refl _) (.cons rfl (.refl _) (.cons rfl (BlkSub.of (congrArg (Blk.row 1) (anc_take hz hj ha))) .nil)))) ?_ (17, 0)
      refine gW (Wk.rekey (k := 54) (d := 900) rfl rfl) ?_
      refine ga (i64_add1 (by unfold maxL; omega)) ?_
      exact gK1 hK1 (i + 1) hin
  ·have hin := lss_end hi ht22
   subst hin
   refine gW (Wk.of (sl := [(7, some (.ms 900 1 0 g.joints.length))]) (hp := [(900, some (.row 1 ((ancL l g).map i64)))]) (by repeat (first | exact SlW.nil | refine SlW.k ?_)) (.cons rfl (BlkSub.of (by rw [List.take_of_length_le (by rw [len_anc]; exact Nat.le_refl _)])) .nil)) ?_
   refine gR ?_
   exact Fin.keep (keep1 rfl)
end Go.Lw
namespace Go.Lw
def barB (s : ByteArray) (n : Int) : Bd := ⟨s, [⟨⟨#[97]⟩, rt ((0 : Int) : Rat), rt ((0 : Int) : Rat)⟩, ⟨⟨#[98]⟩, rt (n : Rat), rt ((0 : Int) : Rat)⟩]⟩
def fb : Li := ⟨⟨#[102, 111, 117, 114, 98, 97, 114]⟩, [barB ⟨#[102, 114, 97, 109, 101]⟩ 4, barB ⟨#[99, 114, 97, 110, 107]⟩ 3, barB ⟨#[99, 111, 117, 112, 108, 101, 114]⟩ 5, barB ⟨#[114, 111, 99, 107, 101, 114]⟩ 6],
  [⟨⟨#[111]⟩, 0, 1, 0, 0, 0, 0⟩, ⟨⟨#[112]⟩, 0, 2, 0, 1, 1, 0⟩, ⟨⟨#[113]⟩, 0, 3, 0, 0, 1, 0⟩, ⟨⟨#[114]⟩, 0, 2, 1, 3, 1, 0⟩], [⟨⟨#[100]⟩, 1⟩]⟩
def t0 : Tn := ⟨⟨false, [], []⟩, false⟩
theorem eqS_data (a b : ByteArray) : eqS a b = (a.data.toList == b.data.toList) := by
 unfold eqS; rw [Go.ByteArray.toList_eq, Go.ByteArray.toList_eq]
theorem bar_okw {s : ByteArray} (hs : s.size <= 281474976710656) {n : Int} (hn : -9223372036854775808 <= n /\ n <= 9223372036854775807) :
  (barB s n).name.size <= 281474976710656 /\ (barB s n).pts.length <= 281474976710656 /\ ∀ m ∈ (barB s n).pts, m.name.size <= 281474976710656 /\ m.x.wok /\ m.y.wok := by
 have h0 : (rt ((0 : Int) : Rat)).ok := (int_qs (by omega)).ok
 have h1 : (rt (n : Rat)).ok := (int_qs hn).ok
 refine ⟨hs, by show 2 <= _; omega, fun m hm => ?_⟩
 simp only [barB, List.mem_cons, List.not_mem_nil, or_false] at hm
 rcases hm with rfl | rfl
 ·exact ⟨by show 1 <= _; omega, h0.wok, h0.wok⟩
 ·exact ⟨by show 1 <= _; omega, h1.wok, h0.wok⟩
end Go.Lw
namespace Go.Lw
open Go.Proofs
inductive FT (P : Program) where
  | lf
  | nd (l : FT P) (e : FE P) (r : FT P)
def FT.get {P : Program} : FT P -> Nat -> Option (FE P)
  | .lf, _ => none
  | .nd l e r, n => match Nat.beq n e.f with
    | true => some e
    | false => match Nat.blt n e.f with
      | true => l.get n
      | false => r.get n
def feG (P : Program) (n : Nat) : Option (FE P) := match h : P.funcs[n]? with
  | none => none
  | some fn => match hb : fn.body with
    | none => none
    | some c => match hn : (fn.name == "runtime.NumGoroutine") with
      | true => none
      | false => some ⟨n, fn, c, fn.results.toList, h, hb, hn, by simp⟩
def smQ (q : Rat) : Bool := Nat.blt q.num.natAbs 18446744073709551616 && Nat.blt q.den 18446744073709551616
theorem smQ_qb {q : Rat} (h : smQ q = true) : Qb 64 q := by
 simp only [smQ, Bool.and_eq_true, Nat.blt_eq] at h
 exact ⟨h.1, h.2⟩
theorem smQ_qs {q : Rat} (h : smQ q = true) : Qs q := (smQ_qb h).qs (by omega)
def n0 (q : Rat) : AV := nA (sh 0 (q : Rat))
def z0 : AV := towA []
theorem smQ_nm {q : Rat} (h : smQ q = true) : Nm ([] : List (List Rat)).length 64 (sh 0 (q : Rat)) := Nm.ofQ (by decide) (Cb.one (smQ_qb h))
theorem dec0 (q : Rat) : dec ([] : List (List Rat)).length (sh 0 (q : Rat)) = q := dec_sh0 0 q
theorem tw00 : Tw [] 1 where
 three := by decide
 len := fun j hj => absurd hj (Nat.not_lt_zero j)
 pos := fun j hj => absurd hj (Nat.not_lt_zero j)
 rb := ⟨1, 1, by omega, fun d hd => absurd hd List.not_mem_nil, by decide, by decide⟩
 le := by decide
theorem lm0 : lm ([] : List (List Rat)).length = 200000000000 := rfl
def dW : List AV -> Nat
  | [] => 0
  | x :: l => match x with
    | .v (.int _ (.ofNat n)) => n + 4294967296 * dW l
    | _ => 0
def dWs : AV -> Nat
  | .lst _ l => dW l
  | _ => 0
def dQ (x : AV) : Rat := match x with
  | .agg (.v (.bool s) :: n :: d :: _) => match s with
    | true => mkRat (-(dWs n : Int)) (dWs d)
    | false => mkRat (dWs n : Int) (dWs d)
  | _ => 0
def dN (x : AV) : Rat := match x with
  | .lst _ (x :: _) => dQ x
  | _ => 0
abbrev En := Option (Ent Tryz.prog)
def w2 (f : FuncId) (g : Rat -> Rat -> AV) (h : ∀ p q, smQ p = true -> smQ q = true -> FnC Tryz.prog f [qA p, qA q] (g p q)) (p q : Rat) : En := match hh : smQ p && smQ q with
  | true => some ⟨f, [qA p, qA q], g p q, [], h p q (by rw [Bool.and_eq_true] at hh; exact hh.1) (by rw [Bool.and_eq_true] at hh; exact hh.2)⟩
  | false => none
def oQ2 (f : FuncId) (g : Rat -> Rat -> AV) (h : ∀ p q, smQ p = true -> smQ q = true -> FnC Tryz.prog f [qA p, qA q] (g p q)) (xs : List AV) : En := match xs with
  | [a, b] => w2 f g h (dQ a) (dQ b)
  | _ => none
def w1 (f : FuncId) (a : Rat -> AV) (g : Rat -> AV) (h : ∀ p, smQ p = true -> FnC Tryz.prog f [a p] (g p)) (p : Rat) : En := match hh : smQ p with
  | true => some ⟨f, [a p], g p, [], h p hh⟩
  | false => none
def oQ1 (f : FuncId) (g : Rat -> AV) (h : ∀ p, smQ p = true -> FnC Tryz.prog f [qA p] (g p)) (xs : List AV) : En := match xs with
  | [a] => w1 f qA g h (dQ a)
  | _ => none
def w3 (f : FuncId) (g : Rat -> Rat -> AV) (h : ∀ p q, smQ p = true -> smQ q = true -> FnC Tryz.prog f [z0, n0 p, n0 q] (g p q)) (p q : Rat) : En := match hh : smQ p && smQ q with
  | true => some ⟨f, [z0, n0 p, n0 q], g p q, [], h p q (by rw [Bool.and_eq_true] at hh; exact hh.1) (by rw [Bool.and_eq_true] at hh; exact hh.2)⟩
  | false => none
def oT2 (f : FuncId) (g : Rat -> Rat -> AV) (h : ∀ p q, smQ p = true -> smQ q = true -> FnC Tryz.prog f [z0, n0 p, n0 q] (g p q)) (xs : List AV) : En := match xs with
  | [_, a, b] => w3 f g h (dN a) (dN b)
  | _ => none
def w4 (f : FuncId) (g : Rat -> AV) (h : ∀ p, smQ p = true -> FnC Tryz.prog f [z0, n0 p] (g p)) (p : Rat) : En := match hh : smQ p with
  | true => some ⟨f, [z0, n0 p], g p, [], h p hh⟩
  | false => none
def oT1 (f : FuncId) (g : Rat -> AV) (h : ∀ p, smQ p = true -> FnC Tryz.prog f [z0, n0 p] (g p)) (xs : List AV) : En := match xs with
  | [_, a] => w4 f g h (dN a)
  | _ => none
def oC (f : FuncId) (ys : List AV) (r : AV) (h : FnC Tryz.prog f ys r) (xs : List AV) : En := some ⟨f, ys, r, [], h⟩
def dI (x : AV) : Int := match x with
  | .v (.int _ z) => z
  | _ => 0
def oI (f : FuncId) (g : Int -> AV) (h : ∀ z, (-9223372036854775808 <= z /\ z <= 9223372036854775807) -> FnC Tryz.prog f [i64 z] (g z)) (xs : List AV) : En := match xs with
  | [a] => match (inferInstance : Decidable (-9223372036854775808 <= dI a /\ dI a <= 9223372036854775807)) with
    | .isTrue hh => some ⟨f, [i64 (dI a)], g (dI a), [], h (dI a) hh⟩
    | .isFalse _ => none
  | _ => none
theorem e_Add (p q : Rat) (hp : smQ p = true) (hq : smQ q = true) : FnC Tryz.prog 160 [z0, n0 p, n0 q] (.tup [n0 (p + q), .v .nilIface]) := by
 have h := tw_Add tw00 (smQ_nm hp) (smQ_nm hq) (by rw [lm0]; omega)
 rw [dec0, dec0] at h; exact h
theorem e_Sub (p q : Rat) (hp : smQ p = true) (hq : smQ q = true) : FnC Tryz.prog 158 [z0, n0 p, n0 q] (.tup [n0 (p + -q), .v .nilIface]) := by
 have h := tw_Sub tw00 (smQ_nm hp) (smQ_nm hq) (by rw [lm0]; omega)
 rw [dec0, dec0] at h; exact h
theorem e_Mul (p q : Rat) (hp : smQ p = true) (hq : smQ q = true) : FnC Tryz.prog 159 [z0, n0 p, n0 q] (.tup [n0 (p * q), .v .nilIface]) := by
 have h := tw_Mul tw00 (smQ_nm hp) (smQ_nm hq) (by rw [lm0]; omega)
 rw [dec0, dec0] at h; exact h
theorem e_Sign (p : Rat) (hp : smQ p = true) : FnC Tryz.prog 110 [z0, n0 p] (.tup [i64 (sgnQ p), .v .nilIface]) := by
 have h := tw_Sign tw00 (smQ_nm hp) (by rw [lm0]; omega)
 rw [dec0] at h; exact h
theorem e_Neg (p : Rat) (hp : smQ p = true) : FnC Tryz.prog 92 [z0, n0 p] (.tup [n0 (-p), .v .nilIface]) := by
 have h := tw_Neg tw00 (smQ_nm hp) (by rw [lm0]; omega)
 rw [dec0] at h; exact h
theorem e_Equal (p q : Rat) (hp : smQ p = true) (hq : smQ q = true) : FnC Tryz.prog 24 [z0, n0 p, n0 q] (bl (decide (sgnQ (p + -q) = 0))) := by
 have h := c_r11_Equal tw00 (smQ_nm hp) (smQ_nm hq) (by rw [lm0]; omega)
 rw [dec0, dec0] at h; exact h
def orcL : FuncId -> Option (List AV -> En)
  | 160 => some (oT2 160 _ e_Add)
  | 158 => some (oT2 158 _ e_Sub)
  | 159 => some (oT2 159 _ e_Mul)
  | 110 => some (oT1 110 _ e_Sign)
  | 92 => some (oT1 92 _ e_Neg)
  | 36 => some (oC 36 [z0] (.v .nilIface) (tw_Check tw00))
  | 87 => some (oQ1 87 n0 fun _ h => tw_Of (smQ_qs h))
  | 24 => some (oT2 24 _ e_Equal)
  | 88 => some (oI 88 (fun z => qA z) c_fraction_Of)
  | 33 => some (oI 33 (fun z => qA z) c_r02_Of)
  | 70 => some (oQ1 70 n0 fun _ h => r4_Of (smQ_qs h))
  | 149 => some (oQ2 149 (fun p q => qA (p + q)) fun _ _ h h' => q_Add (smQ_qs h) (smQ_qs h'))
  | 313 => some (oQ2 313 (fun p q => qA (p - q)) fun _ _ h h' => q_Sub (smQ_qs h) (smQ_qs h'))
  | 279 => some (oQ2 279 (fun p q => qA (p * q)) fun _ _ h h' => q_Mul (smQ_qs h) (smQ_qs h'))
  | 349 => some (oQ2 349 (fun p q => .tup [qA (p / q), errA (if q = 0 then 8 else 0)]) fun _ _ h h' => q_Div (smQ_qs h) (smQ_qs h'))
  | 228 => some (oQ1 228 (fun p => qA (-p)) fun _ h => q_Neg (smQ_qs h))
  | 136 => some (oQ1 136 (fun p => i64 (sgnQ p)) fun _ h => q_Sign (smQ_qs h))
  | _ => none
def dIs (x : AV) : List Int := match x with
  | .lst _ es => es.map dI
  | _ => []
def dG (x : AV) : Gr := match x with
  | .agg [k, b, j, d] => ⟨dI k, dIs b, dIs j, dI d⟩
  | _ => default
def rngB (n : Nat) (l : List Int) : Bool := l.all fun z => icmp .leq 0 z && icmp .lss z n
theorem rngB_ok {n : Nat} {l : List Int} (h : rngB n l = true) : ∀ x ∈ l, 0 <= x /\ x < n := by
 intro x hx
 have := List.all_eq_true.1 h x hx
 simp only [Bool.and_eq_true, icmp, decide_eq_true_eq] at this
 exact this
def grB (l : Li) (g : Gr) : Bool := rngB l.bodies.length g.bodies && rngB l.joints.length g.joints && Nat.ble g.bodies.length 2 && Nat.ble g.joints.length 3
theorem grB_ok {l : Li} {g : Gr} (h : grB l g = true) : GrOk l g := by
 simp only [grB, Bool.and_eq_true, Nat.ble_eq] at h
 exact ⟨rngB_ok h.1.1.1, rngB_ok h.1.1.2, h.1.2, h.2⟩
def ancE (l : Li) (hl : l.ok) (hli : liE l = 0) (g : Gr) : En := match hh : grB l g with
  | true => some ⟨241, [l.av, g.av], _, _, c_g_Anchors l hl hli g (grB_ok hh)⟩
  | false => none
def oAnc (l : Li) (hl : l.ok) (hli : liE l = 0) (xs : List AV) : En := match xs with
  | [_, g] => ancE l hl hli (dG g)
  | _ => none
theorem e_Split (l : Li) (hl : l.ok) (hli : liE l = 0) : FnC Tryz.prog 83 [l.av] (.tup [.lst 4 ((splitG l).map Gr.av), errA (splitE l)]) := by
 have h := c_g_Split l hl
 rw [if_pos hli, if_pos hli] at h; exact h
def orcG (l : Li) (hl : l.ok) (hli : liE l = 0) : FuncId -> Option (List AV -> En)
  | 83 => some (oC 83 [l.av] _ (e_Split l hl hli))
  | 241 => some (oAnc l hl hli)
  | 134 => some (oQ1 134 (fun p => bl (rt p).valid) fun _ h => c_fraction_Valid _ (smQ_qs h).ok)
  | f => orcL f
def orP : List (Ent Tryz.prog) -> FuncId -> Bool
  | [], _ => false
  | e :: l, f => match Nat.beq e.f f with
    | true => true
    | false => orP l f
def orS (xs : List AV) (f : FuncId) : List (Ent Tryz.prog) -> En
  | [] => none
  | e :: l => match Nat.beq e.f f && subLB xs e.xs with
    | true => some e
    | false => orS xs f l
def orF (L : List (Ent Tryz.prog)) (o : FuncId -> Option (List AV -> En)) (f : FuncId) : Option (List AV -> En) := match orP L f with
  | true => some fun xs => match orS xs f L with
    | some e => some e
    | none => match o f with
      | some g => g xs
      | none => none
  | false => o f
def mutF (n : FuncId) : Bool := Nat.beq n 242 || (Nat.beq n 302 || Nat.beq n 352)
end Go.Lw
namespace Go.Lw
open Go.Proofs
set_option maxRecDepth 20000
end Go.Lw
namespace Go.Lw
open Go.Proofs
theorem c_base_Num0 : FnC Tryz.prog 11 [.v .nilIface] (i64 0) := by
 refine gF0 Tryz.func11 ?_
 refine gC (fun ht6 => ?_) (fun ht6 => ?_) (st2 := (77777, 0))
 ·refine gE1 ?_
  first | rfl | (simp; done)
 ·cases ht6
theorem c_base_Num1 (n : Int) : FnC Tryz.prog 11 [.v (.iface 93 (.int .i64 n))] (i64 n) := by
 refine gF0 Tryz.func11 ?_
 refine gC (fun ht6 => ?_) (fun ht6 => ?_) (st1 := (2, 0))
 ·cases ht6
 ·refine gs (s_assert (.tmp rfl) T93 rfl rfl) ?_
  refine gC (fun ht13 => ?_) (fun ht13 => ?_) (st1 := (5, 0))
  ·cases ht13
  ·refine gE1 ?_
   rfl
theorem c_base_Num (e : Nat) : FnC Tryz.prog 11 [errA e] (i64 e) := by
 cases e with
 | zero => exact c_base_Num0
 | succ e => exact c_base_Num1 _
end Go.Lw
namespace Go.Lw
open Go.Proofs
theorem al_sz {a : As} (h : AL a) (hc : chkE a.rs = 0) : 8 * 4000 + 4 * kB 40000 a.rs.length + 4 <= lm a.rs.length := by
 obtain ⟨tw, _⟩ := chk_tw h.tr hc
 have h3 := tw.three
 rw [llq_len] at h3
 have h1 := eB_three 40000 h3
 have h2 := lm_ge a.rs.length
 show 8 * 4000 + 4 * eB 40000 a.rs.length + 4 <= _
 omega
theorem ixb_t {k : Int} {n : Nat} (h : cond (icmp .lss k 0) true (icmp .geq k (n : Int)) = true) : k < 0 \/ (n : Int) <= k := by
 by_cases h1 : k < 0
 ·exact .inl h1
 ·refine .inr ?_
  have h2 : icmp .lss k 0 = false := decide_eq_false h1
  rw [h2] at h
  exact of_decide_eq_true (p := k >= n) h
theorem ixb_f {k : Int} {n : Nat} (h : cond (icmp .lss k 0) true (icmp .geq k (n : Int)) = false) : ¬ (k < 0 \/ (n : Int) <= k) := by
 intro h1
 by_cases h2 : k < 0
 ·rw [show icmp .lss k 0 = true from decide_eq_true h2] at h; cases h
 ·rw [show icmp .lss k 0 = false from decide_eq_false h2] at h
  have h3 : ¬ (k >= n) := of_decide_eq_false h
  omega
theorem ix_nat {k : Int} {n : Nat} (h : ¬ (k < 0 \/ (n : Int) <= k)) : ∃ i : Nat, k = i /\ i < n := ⟨k.toNat, by omega, by omega⟩
theorem sub_pt0 (x y : List Rat) (hx : x = []) (hy : y = []) : Sub (.agg [.v (.slice none 0 0), .v (.slice none 0 0)]) (ptA x y) := by
 subst hx; subst hy
 exact Sub.agg (.cons (.nil _ _ _) (.cons (.nil _ _ _) .nil)) rfl
theorem c_r11_AtR (rs : List (List Rt)) (r e : Nat) (h : TR rs r) (h1 : chkE rs = 0) (b : Pl) (hb : ∀ x ∈ b.l, NR x e) (hc : chksE rs b.l = 0) (x y : Rt) (hx : x.ok) (hy : y.ok) (qx : Qb e x.q) (qy : Qb e y.q) (he : 8 * e + 4 * kB r rs.length + 4 <= lm rs.length) :
  FnC Tryz.prog 13 [towR rs, b.av, x.av, y.av] (ptA (whX rs b x y) (whY rs b x y)) := by
 obtain ⟨tw, etw⟩ := chk_tw h h1
 have pn := pln_of h hb hc
 rw [etw, pn.av]
 rw [<- len_llq rs] at he
 have hlm := lm_le (llq rs).length
 have nx := Nm.ofQ pn.c.five (Cb.one qx)
 have ny := Nm.ofQ pn.c.five (Cb.one qy)
 have nX := turn_nmX tw pn.c pn.s nx ny
 have nY := turn_nmY tw pn.c pn.s nx ny
 have z1 : e <= 2 * (e + e + kB r (llq rs).length) + 1 := by omega
 have z2 : 2 * (2 * (e + e + kB r (llq rs).length) + 1) <= lm (llq rs).length := at_size he
 have hadd := c_r11_Add tw nX nY (pn.x.mono z1) (pn.y.mono z1) z2
 refine gF0 Tryz.func13 ?_
 refine gc (c_r11_OfR x y hx hy (qx.qs (by omega)) (qy.qs (by omega))) ?_
 refine gc (c_r11_Turn tw pn.c pn.s nx ny (by omega)) ?_
 refine gc hadd ?_
 refine gD ?_
 refine gE1 ?_
 rw [at_ap1, at_ap2]; rfl
theorem light_xy {x y : Rt} (h : lightB [] [[x, y]] = true) (hx : x.wok) (hy : y.wok) : (x.ok /\ y.ok) /\ Qb 4000 x.q /\ Qb 4000 y.q := by
 have h1 : briefX 3 40 [x, y] = true := by
  have h2 : lightB [] [[x, y]] = briefB 3 40 [[x, y]] := by unfold lightB; rw [if_pos (.inl (Nat.zero_le _))]; rfl
  rw [h2] at h
  unfold briefB at h
  rw [List.all_eq_true] at h
  exact h _ (List.mem_singleton.2 rfl)
 obtain ⟨_, h2, h3⟩ := brief_x h1 (by omega) (by omega) (fun r hr => by
  simp only [List.mem_cons, List.not_mem_nil, or_false] at hr
  rcases hr with rfl | rfl <;> assumption)
 exact ⟨⟨h3 x (by simp), h3 y (by simp)⟩, (h2 x.q (by simp [lq])).mono (by omega), (h2 y.q (by simp [lq])).mono (by omega)⟩
theorem rs_xy {x y : Rt} (hx : x.wok) (hy : y.wok) : RsOk [[x, y]] := fun l hl => by
 rw [List.mem_singleton.1 hl]
 refine ⟨fun r hr => ?_, by show 2 <= _; omega⟩
 simp only [List.mem_cons, List.not_mem_nil, or_false] at hr
 rcases hr with rfl | rfl <;> assumption
theorem chks0 (rs : List (List Rt)) : chksE rs [] = chkE rs := by
 unfold chksE
 by_cases h : chkE rs = 0
 ·rw [if_neg (by omega), h]; rfl
 ·rw [if_pos h]
theorem ixw_t {c : Nat} {k : Int} {n : Nat} (h : cond (icmp .eql (c : Int) 0) (cond (icmp .lss k 0) true (icmp .geq k (n : Int))) false = true) : c = 0 /\ (k < 0 \/ (n : Int) <= k) := by
 cases h1 : icmp .eql (c : Int) 0
 ·rw [h1] at h; cases h
 ·rw [h1] at h; exact ⟨eql0_t h1, ixb_t h⟩
theorem ixw_f {c : Nat} {k : Int} {n : Nat} (h : cond (icmp .eql (c : Int) 0) (cond (icmp .lss k 0) true (icmp .geq k (n : Int))) false = false) : c ≠ 0 \/ ¬ (k < 0 \/ (n : Int) <= k) := by
 cases h1 : icmp .eql (c : Int) 0
 ·exact .inl (eql0_f h1)
 ·rw [h1] at h; exact .inr (ixb_f h)
theorem wh_nm {rs : List (List Rt)} {r e : Nat} (h : TR rs r) (h1 : chkE rs = 0) {b : Pl} (hb : ∀ x ∈ b.l, NR x e) (hc : chksE rs b.l = 0) {x y : Rt} (qx : Qb e x.q) (qy : Qb e y.q) :
  Nm (llq rs).length (2 * (e + e + kB r (llq rs).length) + 1 + e + 1) (whX rs b x y) /\ Nm (llq rs).length (2 * (e + e + kB r (llq rs).length) + 1 + e + 1) (whY rs b x y) := by
 obtain ⟨tw, etw⟩ := chk_tw h h1
 have pn := pln_of h hb hc
 have nx := Nm.ofQ pn.c.five (Cb.one qx)
 have ny := Nm.ofQ pn.c.five (Cb.one qy)
 have h2 := (turn_nmX tw pn.c pn.s nx ny).add pn.x
 have h3 := (turn_nmY tw pn.c pn.s nx ny).add pn.y
 rw [at_ap1] at h2
 rw [at_ap2] at h3
 exact ⟨h2, h3⟩
end Go.Lw
namespace Go.Lw
open Go.Proofs
theorem neqn_t {a b : Nat} (h : icmp .neq (a : Int) (b : Int) = true) : a ≠ b := by
 have h1 : ((a : Int) != (b : Int)) = true := h
 have h2 := bne_iff_ne.1 h1
 omega
theorem neqn_f {a b : Nat} (h : icmp .neq (a : Int) (b : Int) = false) : a = b := by
 have h1 : ((a : Int) != (b : Int)) = false := h
 have h2 : (a : Int) = b := by simpa only [bne_eq_false_iff_eq] using h1
 omega
abbrev fl2 (p : List Rt × List Rt) : List (List Rt) := [p.1, p.2]
abbrev ptR (x y : List Rt) : AV := .agg [nR x, nR y]
theorem len_fl2 (ps : List (List Rt × List Rt)) : (ps.flatMap fl2).length = 2 * ps.length := by
 induction ps with
 | nil => rfl
 | cons p ps ih =>
  have h : (fl2 p).length = 2 := rfl
  rw [List.flatMap_cons, List.length_append, ih, h, List.length_cons]; omega
theorem len_flP (bs : List Pl) : (bs.flatMap Pl.l).length = 4 * bs.length := by
 induction bs with
 | nil => rfl
 | cons p ps ih =>
  have h : (Pl.l p).length = 4 := rfl
  rw [List.flatMap_cons, List.length_append, ih, h, List.length_cons]; omega
theorem len_flV (vs : List Vr) : (vs.flatMap Vr.l).length = 3 * vs.length := by
 induction vs with
 | nil => rfl
 | cons p ps ih =>
  have h : (Vr.l p).length = 3 := rfl
  rw [List.flatMap_cons, List.length_append, ih, h, List.length_cons]; omega
theorem flat_take {α : Type} {f : α -> List (List Rt)} {l : List α} {i : Nat} {x : α} (h : l[i]? = some x) : (l.take (i + 1)).flatMap f = (l.take i).flatMap f ++ f x := by
 rw [take_succ_get h, List.flatMap_append]; simp
theorem c_point_checkAllE (rs : List (List Rt)) (r e : Nat) (h : TR rs r) (ps : List (List Rt × List Rt)) (hl : ∀ x ∈ ps.flatMap fl2, NR x e) (he : e <= lm rs.length) (hn : ps.length <= 500) : FnC Tryz.prog 93 [towR rs, .lst 2 (ps.map fun p => ptR p.1 p.2)] (errA (chksE rs (ps.flatMap fl2))) := by
  refine gF0 Tryz.func93 ?_
  refine gl ?_
  refine gW (Wk.virt 900 1 rfl) ?_
  refine gL1 [2, 8, 9] [2] (fun (i : Nat) => [(5, some (.ms 900 1 0 (2 * i))), (10, some (i64 i))]) (fun i => [(900, some (.row 1 (((ps.take i).flatMap fl2).map nR)))]) (fun i => i <= ps.length) (fun i => ps.length - i) 0 (Nat.zero_le _) ?_
  rintro i hi K1 hK1
  refine gC (fun ht11 => ?_) (fun ht11 => ?_) (st2 := (7, 0))
  · have hin : i < ps.length := by simpa [icmp] using ht11
    obtain ⟨p, hp⟩ := getx hin
    have hfl : ((ps.take i).flatMap fl2).length = 2 * i := by rw [len_fl2, List.length_take]; omega
    refine gi (getmap hp) ?_
    refine gs (s_append (.tmp rfl) rfl (by rw [List.length_map, hfl]) (.tmp rfl) T22 rfl T37 rfl rfl (by simp; omega) rfl rfl) ?_ (6, 0)
    refine gW (Wk.of (sl := [(2, some (.ptr 2 0)), (5, some (.ms 20 1 0 (2 * i + 2))), (8, some (.lst 2 (ps.map fun p => ptR p.1 p.2))), (9, some (i64 ps.length)), (10, some (i64 i))]) (hp := [(2, some (.box [.lst 1 (rs.map nR)])), (20, some (.row 1 (((ps.take (i + 1)).flatMap fl2).map nR)))]) (by repeat (first | exact SlW.nil | refine SlW.k ?_)) (.cons rfl (.refl _) (.cons rfl (BlkSub.of (by rw [flat_take hp, List.map_append]; rfl)) .nil))) ?_ (6, 0)
    refine gW (Wk.rekey (k := 20) (d := 900) rfl rfl) ?_
    refine ga (i64_add1 (by unfold maxL; omega)) ?_
    exact gK1 hK1 (i + 1) hin
  · have hin : i = ps.length := by have : ps.length <= i := by simpa [icmp] using ht11
                                   omega
    subst hin
    refine gW ((Wk.freeze (k := 900) rfl).trans <| Wk.of (sl := [(2, some (.ptr 2 0)), (5, some (.lst 1 ((ps.flatMap fl2).map nR)))]) (hp := [(2, some (.box [.lst 1 (rs.map nR)]))]) (.k (.cons rfl (Sub.of (by rw [fz_all (by rw [List.length_map, len_fl2, List.length_take]; omega), List.take_length])) .nil)) (.cons rfl (.refl _) .nil)) ?_
    refine gc (c_point_checkE rs r e h (ps.flatMap fl2) hl he (by rw [len_fl2]; omega)) ?_
    refine gE1 ?_
    first | rfl | (simp; done)
theorem c_point_CheckE (rs : List (List Rt)) (r e : Nat) (h : TR rs r) (x y : List Rt) (hx : NR x e) (hy : NR y e) (he : e <= lm rs.length) : FnC Tryz.prog 47 [towR rs, ptR x y] (errA (chksE rs [x, y])) := by
 refine gF0 Tryz.func47 ?_
 refine gc (c_point_checkAllE rs r e h [(x, y)] (fun z hz => by have hz' : z ∈ [x, y] := hz; simp only [List.mem_cons, List.not_mem_nil, or_false] at hz'; rcases hz' with rfl | rfl <;> assumption) he (by show 1 <= 500; omega)) ?_
 refine gE1 ?_
 first | rfl | (simp; done)
theorem velL_nr {a : As} {r : List Vr} (vl : VL a r) : ∀ x ∈ velL a r, NR x 4000 := by
 intro x hx
 rcases List.mem_append.1 hx with h | h
 ·obtain ⟨b, hb, hx⟩ := List.mem_flatMap.1 h; exact vl.al.nr b hb x hx
 ·obtain ⟨b, hb, hx⟩ := List.mem_flatMap.1 h; exact vl.nr b hb x hx
theorem e4_lm (n : Nat) : 4000 <= lm n := by have := lm_ge n; omega
theorem c_vel_check (a : As) (r : List Vr) (vl : VL a r) : FnC Tryz.prog 46 [a.av, .lst 3 (r.map Vr.av)] (errA (velE a r)) := by
 have hbl := vl.al.bl
 have hrl := vl.rl
 refine gF0 Tryz.func46 ?_
 refine gc (c_tower_Check a.rs 40000 vl.al.tr) ?_
 refine gC (fun ht19 => ?_) (fun ht19 => ?_)
 ·have h1 := nNil_t ht19
  refine gE1 ?_
  rw [vel_chk h1]
 ·have h1 := nNil_f ht19
  refine gl ?_
  refine gl ?_
  refine gC (fun ht26 => ?_) (fun ht26 => ?_)
  ·have h2 := neqn_t ht26
   refine gE1 ?_
   rw [vel_len h1 h2]; rfl
  ·have h2 := neqn_f ht26
   refine gl ?_
   refine gW (Wk.virt 900 1 rfl) ?_
   refine gL1 [1, 2, 29, 30] [2] (fun (i : Nat) => [(6, some (.ms 900 1 0 (4 * i))), (31, some (i64 i))]) (fun i => [(900, some (.row 1 (((a.bs.take i).flatMap Pl.l).map nR)))]) (fun i => i <= a.bs.length) (fun i => a.bs.length - i) 0 (Nat.zero_le _) ?_
   rintro i hi K1 hK1
   refine gC (fun ht32 => ?_) (fun ht32 => ?_) (st2 := (12, 0))
   ·have hin := lss_t ht32
    obtain ⟨b, hb⟩ := getx hin
    have hfl : ((a.bs.take i).flatMap Pl.l).length = 4 * i := by rw [len_flP, List.length_take]; omega
    refine gi (getmap hb) ?_
    refine gs (s_append (.tmp rfl) rfl (by rw [List.length_map, hfl]) (.tmp rfl) T22 rfl T37 rfl rfl (by simp; omega) rfl rfl) ?_ (11, 0)
    refine gW (Wk.of (sl := [(1, some (.lst 3 (r.map Vr.av))), (2, some (.ptr 2 0)), (6, some (.ms 45 1 0 (4 * i + 4))), (29, some (.lst 4 (a.bs.map Pl.av))), (30, some (i64 a.bs.length)), (31, some (i64 i))]) (hp := [(2, some (.box a.av.cells)), (45, some (.row 1 (((a.bs.take (i + 1)).flatMap Pl.l).map nR)))]) (by repeat (first | exact SlW.nil | refine SlW.k ?_)) (.cons rfl (.refl _) (.cons rfl (BlkSub.of (by rw [flat_take hb, List.map_append]; rfl)) .nil))) ?_ (11, 0)
    refine gW (Wk.rekey (k := 45) (d := 900) rfl rfl) ?_
    refine ga (i64_add1 (by unfold maxL; omega)) ?_
    exact gK1 hK1 (i + 1) hin
   ·have hin := lss_end hi ht32
    subst hin
    refine gW (Wk.of (sl := [(1, some (.lst 3 (r.map Vr.av))), (2, some (.ptr 2 0)), (6, some (.ms 900 1 0 (4 * a.bs.length + 3 * 0)))]) (hp := [(2, some (.box a.av.cells)), (900, some (.row 1 ((a.bs.flatMap Pl.l ++ (r.take 0).flatMap Vr.l).map nR)))]) (by repeat (first | exact SlW.nil | refine SlW.k ?_)) (.cons rfl (.refl _) (.cons rfl (BlkSub.of (by rw [List.take_length]; simp)) .nil))) ?_
    refine gl ?_
    refine gL1 [2, 47, 48] [2] (fun (i : Nat) => [(6, some (.ms 900 1 0 (4 * a.bs.length + 3 * i))), (49, some (i64 i))]) (fun i => [(900, some (.row 1 ((a.bs.flatMap Pl.l ++ (r.take i).flatMap Vr.l).map nR)))]) (fun i => i <= r.length) (fun i => r.length - i) 0 (Nat.zero_le _) ?_
    rintro i hi K2 hK2
    refine gC (fun ht50 => ?_) (fun ht50 => ?_) (st2 := (17, 0))
    ·have hin := lss_t ht50
     obtain ⟨v, hv⟩ := getx hin
     have hfl : (a.bs.flatMap Pl.l ++ (r.take i).flatMap Vr.l).length = 4 * a.bs.length + 3 * i := by rw [List.length_append, len_flP, len_flV, List.length_take]; omega
     refine gi (getmap hv) ?_
     refine gs (s_append (.tmp rfl) rfl (by rw [List.length_map, hfl]) (.tmp rfl) T22 rfl T37 rfl rfl (by simp; omega) rfl rfl) ?_ (16, 0)
     refine gW (Wk.of (sl := [(2, some (.ptr 2 0)), (6, some (.ms 61 1 0 (4 * a.bs.length + 3 * i + 3))), (47, some (.lst 3 (r.map Vr.av))), (48, some (i64 r.length)), (49, some (i64 i))]) (hp := [(2, some (.box a.av.cells)), (61, some (.row 1 ((a.bs.flatMap Pl.l ++ (r.take (i + 1)).flatMap Vr.l).map nR)))]) (by repeat (first | exact SlW.nil | refine SlW.k ?_)) (.cons rfl (.refl _) (.cons rfl (BlkSub.of (by rw [flat_take hv, <- List.append_assoc, List.map_append (l₂ := v.l)]; rfl)) .nil))) ?_ (16, 0)
     refine gW (Wk.rekey (k := 61) (d := 900) rfl rfl) ?_
     refine ga (i64_add1 (by unfold maxL; omega)) ?_
     exact gK1 hK2 (i + 1) hin
    ·have hin := lss_end hi ht50
     subst hin
     refine gW ((Wk.freeze (k := 900) rfl).trans <| Wk.of (sl := [(2, some (.ptr 2 0)), (6, some (.lst 1 ((velL a r).map nR)))]) (hp := [(2, some (.box a.av.cells))]) (.k (.cons rfl (Sub.of (by rw [fz_all (by rw [List.length_map, List.length_append, len_flP, len_flV, List.length_take]; omega), List.take_length]; rfl)) .nil)) (.cons rfl (.refl _) .nil)) ?_
     refine gl ?_
     have hvl : (velL a r).length = 4 * a.bs.length + 3 * r.length := by show (a.bs.flatMap Pl.l ++ r.flatMap Vr.l).length = _; rw [List.length_append, len_flP, len_flV]
     refine gL1 [2, 63, 64] [2] (fun (i : Nat) => [(65, some (i64 i))]) (fun _ => []) (fun i => i <= (velL a r).length /\ ∀ x ∈ (velL a r).take i, numE a.rs.length x = 0) (fun i => (velL a r).length - i) 0 ⟨Nat.zero_le _, fun x hx => by simp at hx⟩ ?_
     rintro i ⟨hi, hj⟩ K3 hK3
     refine gC (fun ht66 => ?_) (fun ht66 => ?_)
     ·have hin := lss_t ht66
      obtain ⟨x, hx⟩ := getx hin
      have hok := velL_nr vl x (List.mem_of_getElem? hx)
      have hone : chksE a.rs [x] = numE a.rs.length x := chks_one h1
      refine gi (getmap hx) ?_
      refine gc (c_tower_Neg a.rs 40000 vl.al.tr x 4000 hok (e4_lm _)) ?_
      refine gC (fun ht77 => ?_) (fun ht77 => ?_)
      ·have h3 := nNil_t ht77
       refine gE1 ?_
       rw [hone] at h3 ⊢; rw [vel_flat h1 h2, chks_at h1 hx hj h3]
      ·have h3 := nNil_f ht77
       rw [hone] at h3
       refine ga (i64_add1 (by unfold maxL; omega)) ?_
       exact gK1 hK3 (i + 1) ⟨hin, fun z hz => by rw [take_succ_get hx] at hz; rcases List.mem_append.1 hz with h9 | h9; exact hj z h9; (rw [List.mem_singleton.1 h9]; exact h3)⟩
     ·have hin := lss_end hi ht66
      rw [hin, List.take_length] at hj
      refine gE1 ?_
      rw [vel_flat h1 h2, chks_of h1 hj]; rfl
theorem c_r42_Bad (a : As) (r : List Vr) (vl : VL a r) : FnC Tryz.prog 18 [a.av, .lst 3 (r.map Vr.av)] (i64 (velE a r)) := by
 have hbl := vl.al.bl
 have hrl := vl.rl
 refine gF0 Tryz.func18 ?_
 refine gc (Con.subA (.cons (.refl _) (.cons (Sub.nil 1 none 0) .nil)) (c_r11_Bad a.rs 40000 0 vl.al.tr [] (fun x hx => by cases hx) (Nat.zero_le _) (by show 0 <= 1000; omega))) ?_
 refine gC (fun ht16 => ?_) (fun ht16 => ?_)
 ·have h1 := neq_t ht16
  rw [chks0] at h1
  refine gE1 ?_
  rw [vel_chk h1, chks0]
 ·have h1 := neq_f ht16
  rw [chks0] at h1
  refine gl ?_
  refine gl ?_
  refine gC (fun ht23 => ?_) (fun ht23 => ?_)
  ·have h2 := neqn_t ht23
   refine gE1 ?_
   rw [vel_len h1 h2]; rfl
  ·have h2 := neqn_f ht23
   refine gl ?_
   refine gL1 [1, 2, 25, 26] [2] (fun (i : Nat) => [(27, some (i64 i))]) (fun _ => []) (fun i => i <= a.bs.length /\ ∀ b ∈ a.bs.take i, chksE a.rs b.l = 0) (fun i => a.bs.length - i) 0 ⟨Nat.zero_le _, fun x hx => by simp at hx⟩ ?_
   rintro i ⟨hi, hj⟩ K1 hK1
   refine gC (fun ht28 => ?_) (fun ht28 => ?_)
   ·have hin := lss_t ht28
    obtain ⟨b, hb⟩ := getx hin
    refine gi (getmap hb) ?_
    refine gc (c_r11_Bad a.rs 40000 4000 vl.al.tr b.l (vl.al.nr b (List.mem_of_getElem? hb)) (e4_lm _) (by show 4 <= 1000; omega)) ?_
    refine gC (fun ht44 => ?_) (fun ht44 => ?_)
    ·have h3 := neq_t ht44
     refine gE1 ?_
     rw [vel_b h1 h2 hb hj h3]
    ·have h3 := neq_f ht44
     refine ga (i64_add1 (by unfold maxL; omega)) ?_
     exact gK1 hK1 (i + 1) ⟨hin, fun y hy => by rw [take_succ_get hb] at hy; rcases List.mem_append.1 hy with h9 | h9; exact hj y h9; (rw [List.mem_singleton.1 h9]; exact h3)⟩
   ·have hin := lss_end hi ht28
    rw [hin, List.take_length] at hj
    refine gl ?_
    refine gL1 [2, 47, 48] [2] (fun (i : Nat) => [(49, some (i64 i))]) (fun _ => []) (fun i => i <= r.length /\ ∀ b ∈ r.take i, chksE a.rs b.l = 0) (fun i => r.length - i) 0 ⟨Nat.zero_le _, fun x hx => by simp at hx⟩ ?_
    rintro i ⟨hk, hkj⟩ K2 hK2
    refine gC (fun ht50 => ?_) (fun ht50 => ?_)
    ·have hkn := lss_t ht50
     obtain ⟨v, hv⟩ := getx hkn
     refine gi (getmap hv) ?_
     refine gc (c_r11_Bad a.rs 40000 4000 vl.al.tr v.l (vl.nr v (List.mem_of_getElem? hv)) (e4_lm _) (by show 3 <= 1000; omega)) ?_
     refine gC (fun ht64 => ?_) (fun ht64 => ?_)
     ·have h3 := neq_t ht64
      refine gE1 ?_
      rw [vel_r h1 h2 hj hv hkj h3]
     ·have h3 := neq_f ht64
      refine ga (i64_add1 (by unfold maxL; omega)) ?_
      exact gK1 hK2 (i + 1) ⟨hkn, fun y hy => by rw [take_succ_get hv] at hy; rcases List.mem_append.1 hy with h9 | h9; exact hkj y h9; (rw [List.mem_singleton.1 h9]; exact h3)⟩
    ·have hkn := lss_end hk ht50
     rw [hkn, List.take_length] at hkj
     refine gE1 ?_
     rw [vel_0 h1 h2 hj hkj]; rfl
theorem vl_end {a : As} {r : List Vr} (h : a.bs.all (fun b => wideB a.rs b.l) = true) (h2 : r.all (fun b => wideB a.rs b.l) = true) :
  cond (cond (cond (icmp .leq (a.bs.length : Int) 20) (icmp .leq (r.length : Int) 20) false) (wideB a.rs []) false) (cond (icmp .leq (a.rs.length : Int) 2) true (icmp .gtr (a.rs.length : Int) 5)) false = vlB a r := by
 have e1 := leq_b (n := a.bs.length) (k := 20)
 have e4 := leq_b (n := r.length) (k := 20)
 have e2 := leq_b (n := a.rs.length) (k := 2)
 have e3 := gtr_b (n := a.rs.length) (k := 5)
 unfold vlB
 rw [h, h2, Bool.true_and, Bool.true_and]
 rw [show icmp .leq (a.bs.length : Int) 20 = decide (a.bs.length <= 20) from e1, show icmp .leq (r.length : Int) 20 = decide (r.length <= 20) from e4, show icmp .leq (a.rs.length : Int) 2 = decide (a.rs.length <= 2) from e2, show icmp .gtr (a.rs.length : Int) 5 = decide (5 < a.rs.length) from e3]
 cases wideB a.rs [] <;> by_cases c1 : a.bs.length <= 20 <;> by_cases c2 : r.length <= 20 <;> by_cases c3 : a.rs.length <= 2 <;> by_cases c4 : 5 < a.rs.length <;> simp [c1, c2, c3, c4]
theorem c_l42_Light (a : As) (ha : a.ok) (r : List Vr) (hr : ∀ x ∈ r, RsOk x.l) (hrl : r.length <= 281474976710656) : FnC Tryz.prog 15 [a.av, .lst 3 (r.map Vr.av)] (bl (vlB a r)) := by
 have hbl := ha.bl
 refine gF0 Tryz.func15 ?_
 refine gl ?_
 refine gL1 [1, 2, 10, 11] [2] (fun (i : Nat) => [(12, some (i64 i))]) (fun _ => []) (fun i => i <= a.bs.length /\ (a.bs.take i).all (fun b => wideB a.rs b.l) = true) (fun i => a.bs.length - i) 0 ⟨Nat.zero_le _, rfl⟩ ?_
 rintro i ⟨hi, hj⟩ K1 hK1
 refine gC (fun ht13 => ?_) (fun ht13 => ?_)
 ·have hin := lss_t ht13
  obtain ⟨b, hb⟩ := getx hin
  have hbo := ha.bs b (List.mem_of_getElem? hb)
  refine gi (getmap hb) ?_
  refine gc (c_l11_Wide a.rs b.l ha.rs hbo ha.rl (by show 4 <= 100; omega)) ?_
  refine gC (fun ht28 => ?_) (fun ht28 => ?_)
  ·have h1 := not_t ht28
   refine gE1 ?_
   unfold vlB; rw [all_miss hb h1]; rfl
  ·have h1 := not_f ht28
   refine ga (i64_add1 (by unfold maxL; omega)) ?_
   exact gK1 hK1 (i + 1) ⟨hin, all_step hj hb h1⟩
 ·have hall := all_end (lss_end hi ht13) hj
  refine gl ?_
  refine gL1 [1, 2, 30, 31] [2] (fun (i : Nat) => [(32, some (i64 i))]) (fun _ => []) (fun i => i <= r.length /\ (r.take i).all (fun b => wideB a.rs b.l) = true) (fun i => r.length - i) 0 ⟨Nat.zero_le _, rfl⟩ ?_
  rintro i ⟨hk, hkj⟩ K2 hK2
  refine gC (fun ht33 => ?_) (fun ht33 => ?_)
  ·have hkn := lss_t ht33
   obtain ⟨v, hv⟩ := getx hkn
   have hvo := hr v (List.mem_of_getElem? hv)
   refine gi (getmap hv) ?_
   refine gc (c_l11_Wide a.rs v.l ha.rs hvo ha.rl (by show 3 <= 100; omega)) ?_
   refine gC (fun ht46 => ?_) (fun ht46 => ?_)
   ·have h1 := not_t ht46
    refine gE1 ?_
    unfold vlB; rw [hall, all_miss hv h1]; rfl
   ·have h1 := not_f ht46
    refine ga (i64_add1 (by unfold maxL; omega)) ?_
    exact gK1 hK2 (i + 1) ⟨hkn, all_step hkj hv h1⟩
  ·have hall2 := all_end (lss_end hk ht33) hkj
   refine gl ?_
   refine glG ?_
   refine gcG (fun _ => (Con.subA (.cons (.refl _) (.cons (Sub.nil 1 none 0) .nil)) (c_l11_Wide a.rs [] ha.rs rs_nil ha.rl (by show 0 <= 100; omega)))) ?_
   refine glG ?_
   refine glG ?_
   refine gE1 ?_
   exact congrArg bl (vl_end hall hall2)
end Go.Lw
namespace Go.Lw
open Go.Proofs
abbrev mvB (rs : List (List Rt)) : Blk := .box [.lst 1 (rs.map nR), .v .nilIface]
theorem tow_eq {rs : List (List Rt)} {r : Nat} (h : TR rs r) (hc : chkE rs = 0) : towA (llq rs) = .agg [.lst 1 (rs.map nR)] := (chk_tw h hc).2.symm
theorem c_vm_keep (rs : List (List Rt)) (a : List Rat) : Con Tryz.prog 113 [.ptr 1000 0, nA a, .v .nilIface] [(1000, some (mvB rs))] (nA a) [(1000, some (mvB rs))] := by
 refine gF Tryz.func113 (fun k z h => lk1000 h) ?_
 refine gC (fun ht11 => ?_) (fun ht11 => ?_) (st2 := (77777, 0))
 ·refine gR ?_
  exact Fin.keep (keep1 rfl)
 ·cases ht11
section
variable {rs : List (List Rt)} {r u k : Nat} {a b c d e : List Rat} {x y z s t : Et (llq rs)} {w v w' v' w2 v2 w3 v3 w4 v4 : Nat}
theorem c_vm_mul (h : TR rs r) (hc : chkE rs = 0) [c0 : Ct (llq rs) u k] [ha : Zl (llq rs) u k a x w v] [hb : Zl (llq rs) u k b y w' v'] (hs : w + v + (w' + v') <= 10000 := by decide) :
  Con Tryz.prog 95 [.ptr 1000 0, nA a, nA b] [(1000, some (mvB rs))] (nA (sX (x * y))) [(1000, some (mvB rs))] := by
 have hx := x_Mul (ha := ha) (hb := hb) hs
 rw [tow_eq h hc] at hx
 refine gF Tryz.func95 (fun k z h => lk1000 h) ?_
 refine gc hx ?_
 refine gt (s_callH (c_vm_keep _ _) (.cons (.tmp rfl) (.cons (.tmp rfl) (.cons (.tmp rfl) .nil))) (by first | exact hH0 | exact hH1 rfl | exact hH2 rfl rfl) rfl rfl) ?_
 refine gR ?_
 exact Fin.keep (keep1 rfl)
theorem c_vm_add (h : TR rs r) (hc : chkE rs = 0) [c0 : Ct (llq rs) u k] [ha : Zl (llq rs) u k a x w v] [hb : Zl (llq rs) u k b y w' v'] (hs : w + v + (w' + v') <= 10000 := by decide) :
  Con Tryz.prog 96 [.ptr 1000 0, nA a, nA b] [(1000, some (mvB rs))] (nA (sX (x + y))) [(1000, some (mvB rs))] := by
 have hx := x_Add (ha := ha) (hb := hb) hs
 rw [tow_eq h hc] at hx
 refine gF Tryz.func96 (fun k z h => lk1000 h) ?_
 refine gc hx ?_
 refine gt (s_callH (c_vm_keep _ _) (.cons (.tmp rfl) (.cons (.tmp rfl) (.cons (.tmp rfl) .nil))) (by first | exact hH0 | exact hH1 rfl | exact hH2 rfl rfl) rfl rfl) ?_
 refine gR ?_
 exact Fin.keep (keep1 rfl)
theorem c_vm_sub (h : TR rs r) (hc : chkE rs = 0) [c0 : Ct (llq rs) u k] [ha : Zl (llq rs) u k a x w v] [hb : Zl (llq rs) u k b y w' v'] (hs : w + v + (w' + v') <= 10000 := by decide) :
  Con Tryz.prog 94 [.ptr 1000 0, nA a, nA b] [(1000, some (mvB rs))] (nA (sX (x - y))) [(1000, some (mvB rs))] := by
 have hx := x_Sub (ha := ha) (hb := hb) hs
 rw [tow_eq h hc] at hx
 refine gF Tryz.func94 (fun k z h => lk1000 h) ?_
 refine gc hx ?_
 refine gt (s_callH (c_vm_keep _ _) (.cons (.tmp rfl) (.cons (.tmp rfl) (.cons (.tmp rfl) .nil))) (by first | exact hH0 | exact hH1 rfl | exact hH2 rfl rfl) rfl rfl) ?_
 refine gR ?_
 exact Fin.keep (keep1 rfl)
theorem c_vm_at (h : TR rs r) (hc : chkE rs = 0) [c0 : Ct (llq rs) u k] [ha : Zl (llq rs) u k a x w v] [hb : Zl (llq rs) u k b y w' v'] [hc2 : Zl (llq rs) u k c z w2 v2] [hd : Zl (llq rs) u k d s w3 v3] [he : Zl (llq rs) u k e t w4 v4]
  (hs : w + v + (w' + v' + (w2 + v2)) + (w3 + v3 + (w4 + v4)) <= 1000) :
  Con Tryz.prog 48 [.ptr 1000 0, .agg [nA a, nA b, nA c], ptA d e] [(1000, some (mvB rs))] (ptA (sX (y - x * t)) (sX (z + x * s))) [(1000, some (mvB rs))] := by
 haveI i1 := ha.zu
 haveI i2 := hb.zu
 haveI i3 := hc2.zu
 haveI i4 := hd.zu
 haveI i5 := he.zu
 refine gF Tryz.func48 (fun k z h => lk1000 h) ?_
 refine gt (s_callH (c_vm_mul (ha := ha) (hb := he) h hc (by omega)) (.cons (.tmp rfl) (.cons (.tmp rfl) (.cons (.tmp rfl) .nil))) (by first | exact hH0 | exact hH1 rfl | exact hH2 rfl rfl) rfl rfl) ?_
 refine gt (s_callH (c_vm_sub (ha := hb) (b := sX (x * t)) (y := x * t) h hc (by omega)) (.cons (.tmp rfl) (.cons (.tmp rfl) (.cons (.tmp rfl) .nil))) (by first | exact hH0 | exact hH1 rfl | exact hH2 rfl rfl) rfl rfl) ?_
 refine gt (s_callH (c_vm_mul (ha := ha) (hb := hd) h hc (by omega)) (.cons (.tmp rfl) (.cons (.tmp rfl) (.cons (.tmp rfl) .nil))) (by first | exact hH0 | exact hH1 rfl | exact hH2 rfl rfl) rfl rfl) ?_
 refine gt (s_callH (c_vm_add (ha := hc2) (b := sX (x * s)) (y := x * s) h hc (by omega)) (.cons (.tmp rfl) (.cons (.tmp rfl) (.cons (.tmp rfl) .nil))) (by first | exact hH0 | exact hH1 rfl | exact hH2 rfl rfl) rfl rfl) ?_
 refine gD ?_
 refine gR ?_
 exact Fin.keep (keep1 rfl)
theorem c_r42_At {ts : List (List Rat)} {x y z s t : Et ts} [c0 : Ct ts u k] [ha : Zl ts u k a x w v] [hb : Zl ts u k b y w' v'] [hc2 : Zl ts u k c z w2 v2] [hd : Zl ts u k d s w3 v3] [he : Zl ts u k e t w4 v4]
  (hs : w + v + (w' + v' + (w2 + v2)) + (w3 + v3 + (w4 + v4)) <= 1000) :
  FnC Tryz.prog 19 [towA ts, .agg [nA a, nA b, nA c], ptA d e] (ptA (sX (y - x * t)) (sX (z + x * s))) := by
 haveI i1 := ha.zu
 haveI i2 := hb.zu
 haveI i3 := hc2.zu
 haveI i4 := hd.zu
 haveI i5 := he.zu
 refine gF0 Tryz.func19 ?_
 refine gc (xr_Times (ha := ha) (hb := he) (by omega)) ?_
 refine gc (xr_Minus (ha := hb) (b := sX (x * t)) (y := x * t) (by omega)) ?_
 refine gc (xr_Times (ha := ha) (hb := hd) (by omega)) ?_
 refine gc (xr_Plus (ha := hc2) (b := sX (x * s)) (y := x * s) (by omega)) ?_
 refine gD ?_
 refine gE1 ?_
 first | rfl | (simp; done)
end
structure VZ (rs : List (List Rt)) (v : Vr) : Prop where
  av : v.av = .agg [nA (lq v.w), nA (lq v.x), nA (lq v.y)]
  w : Zl (llq rs) 4000 300000 (lq v.w) (dE (llq rs) (lq v.w)) 1 0
  x : Zl (llq rs) 4000 300000 (lq v.x) (dE (llq rs) (lq v.x)) 1 0
  y : Zl (llq rs) 4000 300000 (lq v.y) (dE (llq rs) (lq v.y)) 1 0
theorem vz_of {a : As} {r : List Vr} (vl : VL a r) (h : velE a r = 0) {v : Vr} (hv : v ∈ r) : VZ a.rs v := by
 have ok := vel_ok h
 have c := vl.al.ct ok.chk
 obtain ⟨_, h2⟩ := chks_ok (ok.rs v hv)
 have n := vl.nr v hv
 have e1 : ∀ x ∈ v.l, nR x = nA (lq x) := fun x hx => ((n x hx).num (h2 x hx)).1
 have e2 : ∀ x ∈ v.l, Zl (llq a.rs) 4000 300000 (lq x) (dE (llq a.rs) (lq x)) 1 0 := fun x hx => zl_num c (n x hx) (h2 x hx) (by omega)
 refine ⟨?_, e2 _ (by simp [Vr.l]), e2 _ (by simp [Vr.l]), e2 _ (by simp [Vr.l])⟩
 unfold Vr.av
 rw [e1 _ (by simp [Vr.l]), e1 _ (by simp [Vr.l]), e1 _ (by simp [Vr.l])]
structure PZ (rs : List (List Rt)) (px py : List Rt) : Prop where
  av : ptR px py = ptA (lq px) (lq py)
  x : Zl (llq rs) 4000 300000 (lq px) (dE (llq rs) (lq px)) 40 40
  y : Zl (llq rs) 4000 300000 (lq py) (dE (llq rs) (lq py)) 40 40
theorem pz_of {rs : List (List Rt)} (c : Ct (llq rs) 4000 300000) {px py : List Rt} {e : Nat} (hp : NR px e) (hq : NR py e) (he : e <= 12160000) (h : chksE rs [px, py] = 0) : PZ rs px py := by
 obtain ⟨_, h2⟩ := chks_ok h
 have n1 := h2 px (by simp)
 have n2 := h2 py (by simp)
 refine ⟨?_, zl_num c hp n1 (by omega), zl_num c hq n2 (by omega)⟩
 show AV.agg [nR px, nR py] = _
 rw [(hp.num n1).1, (hq.num n2).1]; rfl
theorem vm_atR {a : As} {r : List Vr} (vl : VL a r) (h : velE a r = 0) {v : Vr} (hv : v ∈ r) {px py : List Rt} (pz : PZ a.rs px py) :
  Con Tryz.prog 48 [.ptr 1000 0, v.av, ptR px py] [(1000, some (mvB a.rs))] (ptA (vaX (llq a.rs) (lq v.w) (lq v.x) (lq py)) (vaY (llq a.rs) (lq v.w) (lq v.y) (lq px))) [(1000, some (mvB a.rs))] := by
 have vz := vz_of vl h hv
 haveI c := vl.al.ct (vel_ok h).chk
 rw [vz.av, pz.av]
 exact c_vm_at (ha := vz.w) (hb := vz.x) (hc2 := vz.y) (hd := pz.x) (he := pz.y) vl.al.tr (vel_ok h).chk (by decide)
theorem r42_atR {a : As} {r : List Vr} (vl : VL a r) (h : velE a r = 0) {v : Vr} (hv : v ∈ r) {px py : List Rt} (pz : PZ a.rs px py) :
  FnC Tryz.prog 19 [towR a.rs, v.av, ptR px py] (ptA (vaX (llq a.rs) (lq v.w) (lq v.x) (lq py)) (vaY (llq a.rs) (lq v.w) (lq v.y) (lq px))) := by
 have vz := vz_of vl h hv
 haveI c := vl.al.ct (vel_ok h).chk
 rw [vz.av, pz.av, (chk_tw vl.al.tr (vel_ok h).chk).2]
 exact c_r42_At (ha := vz.w) (hb := vz.x) (hc2 := vz.y) (hd := pz.x) (he := pz.y) (by decide)
theorem va_eq {a : As} {r : List Vr} (vl : VL a r) (h : velE a r = 0) {v : Vr} (hv : v ∈ r) {px py : List Rt} (pz : PZ a.rs px py) :
  FnC Tryz.prog 12 [towR a.rs, ptA (vaX (llq a.rs) (lq v.w) (lq v.x) (lq py)) (vaY (llq a.rs) (lq v.w) (lq v.y) (lq px)), ptA (vaX (llq a.rs) (lq v.w) (lq v.x) (lq py)) (vaY (llq a.rs) (lq v.w) (lq v.y) (lq px))] (bl true) := by
 have vz := vz_of vl h hv
 haveI c := vl.al.ct (vel_ok h).chk
 rw [(chk_tw vl.al.tr (vel_ok h).chk).2]
 haveI := vz.w.zu; haveI := vz.x.zu; haveI := vz.y.zu; haveI := pz.x.zu; haveI := pz.y.zu
 have h1 := xr_EqualPoint (ts := llq a.rs) (u := 4000) (k := 300000) (a := vaX (llq a.rs) (lq v.w) (lq v.x) (lq py)) (b := vaY (llq a.rs) (lq v.w) (lq v.y) (lq px))
  (a2 := vaX (llq a.rs) (lq v.w) (lq v.x) (lq py)) (b2 := vaY (llq a.rs) (lq v.w) (lq v.y) (lq px))
  (ha := (inferInstance : Zl (llq a.rs) 4000 300000 (sX (dE (llq a.rs) (lq v.x) - dE (llq a.rs) (lq v.w) * dE (llq a.rs) (lq py))) _ _ _))
  (hb := (inferInstance : Zl (llq a.rs) 4000 300000 (sX (dE (llq a.rs) (lq v.y) + dE (llq a.rs) (lq v.w) * dE (llq a.rs) (lq px))) _ _ _))
  (ha2 := (inferInstance : Zl (llq a.rs) 4000 300000 (sX (dE (llq a.rs) (lq v.x) - dE (llq a.rs) (lq v.w) * dE (llq a.rs) (lq py))) _ _ _))
  (hb2 := (inferInstance : Zl (llq a.rs) 4000 300000 (sX (dE (llq a.rs) (lq v.y) + dE (llq a.rs) (lq v.w) * dE (llq a.rs) (lq px))) _ _ _)) (by decide)
 rw [eqE_refl, eqE_refl] at h1
 exact h1
theorem sub_pt1 (x y : List Rat) (e : Nat) (hx : x = []) (hy : y = []) (z : AV) (hz : z = errA e) : Sub (.tup [.agg [.v (.slice none 0 0), .v (.slice none 0 0)], z]) (.tup [ptA x y, errA e]) := by
 subst hz
 exact Sub.tup (.cons (sub_pt0 _ _ hx hy) (.cons (.refl _) .nil))
def vaxL (a : As) (r : List Vr) (k : Int) (px py : List Rt) : List Rat := if vatE a r k px py = 0 then vrX a r k py else []
def vayL (a : As) (r : List Vr) (k : Int) (px py : List Rt) : List Rat := if vatE a r k px py = 0 then vrY a r k px else []
abbrev vaP (a : As) (r : List Vr) (k : Int) (px py : List Rt) : AV := .agg [nA (vaxL a r k px py), nA (vayL a r k px py)]
theorem vax_0 {a : As} {r : List Vr} {k : Int} {px py : List Rt} (h : vatE a r k px py ≠ 0) : vaxL a r k px py = [] := if_neg h
theorem vay_0 {a : As} {r : List Vr} {k : Int} {px py : List Rt} (h : vatE a r k px py ≠ 0) : vayL a r k px py = [] := if_neg h
theorem vax_1 {a : As} {r : List Vr} {i : Nat} {v : Vr} {px py : List Rt} (h : vatE a r i px py = 0) (hv : r[i]? = some v) : vaxL a r i px py = vaX (llq a.rs) (lq v.w) (lq v.x) (lq py) := by
 unfold vaxL vrX; rw [if_pos h, Int.toNat_natCast, getD_of hv]
theorem vay_1 {a : As} {r : List Vr} {i : Nat} {v : Vr} {px py : List Rt} (h : vatE a r i px py = 0) (hv : r[i]? = some v) : vayL a r i px py = vaY (llq a.rs) (lq v.w) (lq v.y) (lq px) := by
 unfold vayL vrY; rw [if_pos h, Int.toNat_natCast, getD_of hv]
theorem vaP_err {a : As} {r : List Vr} {k : Int} {px py : List Rt} {e : Nat} (he : vatE a r k px py = e) (h : e ≠ 0) : Sub (.tup [.agg [.v (.slice none 0 0), .v (.slice none 0 0)], errA e]) (.tup [vaP a r k px py, errA (vatE a r k px py)]) := by
 subst he; exact sub_pt1 _ _ _ (vax_0 h) (vay_0 h) _ rfl
theorem c_vel_At (a : As) (r : List Vr) (vl : VL a r) (k : Int) (px py : List Rt) (e : Nat) (hp : NR px e) (hq : NR py e) (he : e <= 12160000) :
  FnC Tryz.prog 16 [a.av, .lst 3 (r.map Vr.av), i64 k, ptR px py] (.tup [vaP a r k px py, errA (vatE a r k px py)]) := by
 have hrl := vl.rl
 refine gF0 Tryz.func16 ?_
 refine gc (c_vel_check a r vl) ?_
 refine gC (fun ht18 => ?_) (fun ht18 => ?_)
 ·have h1 := nNil_t ht18
  refine gR ?_
  exact fin_sub (vaP_err (vat_1 h1) h1)
 ·have h1 := nNil_f ht18
  refine glG ?_
  refine gC (fun ht28 => ?_) (fun ht28 => ?_)
  ·have h2 := ixb_t ht28
   refine gR ?_
   exact fin_sub (vaP_err (vat_2 h1 h2) (by decide))
  ·have h2 := ixb_f ht28
   have h3 := vat_3 (px := px) (py := py) h1 h2
   refine gc (c_point_CheckE a.rs 40000 e vl.al.tr px py hp hq (by have := lm_ge a.rs.length; omega)) ?_
   refine gC (fun ht36 => ?_) (fun ht36 => ?_)
   ·have h4 := nNil_t ht36
    refine gR ?_
    exact fin_sub (vaP_err h3 h4)
   ·have h4 := nNil_f ht36
    have pz := pz_of (vl.al.ct (vel_ok h1).chk) hp hq he h4
    obtain ⟨i, rfl, hi⟩ := ix_nat h2
    obtain ⟨v, hv⟩ := getx hi
    refine gi (getmap hv) ?_
    refine gt (s_callH (Con.rekeyB 42 rfl rfl rfl rfl (vm_atR vl h1 (List.mem_of_getElem? hv) pz)) (.cons (.tmp rfl) (.cons (.tmp rfl) (.cons (.tmp rfl) .nil))) (by first | exact hH0 | exact hH1 rfl | exact hH2 rfl rfl) rfl rfl) ?_
    refine gD ?_
    refine gC (fun ht54 => ?_) (fun ht54 => ?_) (st1 := (12, 0))
    ·cases ht54
    ·refine gE2 ?_
     show _ = AV.tup [AV.agg [nA (vaxL a r (i : Nat) px py), nA (vayL a r (i : Nat) px py)], _]; rw [vax_1 (h3.trans h4) hv, vay_1 (h3.trans h4) hv, h3, h4]; rfl
def vpE (a : As) (r : List Vr) (k : Int) : Nat := if velE a r ≠ 0 then velE a r else if k < 0 \/ (r.length : Int) <= k then 9 else 0
theorem vp_1 {a : As} {r : List Vr} {k : Int} (h : velE a r ≠ 0) : vpE a r k = velE a r := by unfold vpE; rw [if_pos h]
theorem vp_2 {a : As} {r : List Vr} {k : Int} (h : velE a r = 0) (hk : k < 0 \/ (r.length : Int) <= k) : vpE a r k = 9 := by unfold vpE; rw [if_neg (by omega), if_pos hk]
theorem vp_3 {a : As} {r : List Vr} {k : Int} (h : velE a r = 0) (hk : ¬ (k < 0 \/ (r.length : Int) <= k)) : vpE a r k = 0 := by unfold vpE; rw [if_neg (by omega), if_neg hk]
theorem vp_0 {a : As} {r : List Vr} {k : Int} (h : vpE a r k = 0) : ∃ (i : Nat) (v : Vr) (b : Pl), k = (i : Int) /\ r[i]? = some v /\ a.bs[i]? = some b /\ velE a r = 0 := by
 unfold vpE at h
 split at h
 ·rename_i h1; exact absurd h h1
 ·split at h
  ·cases h
  ·rename_i h1 h2
   obtain ⟨i, rfl, hi⟩ := ix_nat h2
   obtain ⟨v, hv⟩ := getx hi
   have h1 := Decidable.not_not.1 h1
   obtain ⟨b, hb⟩ := getx (show i < a.bs.length by rw [<- (vel_ok h1).len]; exact hi)
   exact ⟨i, v, b, rfl, hv, hb, h1⟩
theorem vat_vp {a : As} {r : List Vr} {k : Int} {px py : List Rt} (h : vpE a r k ≠ 0) : vatE a r k px py = vpE a r k := by
 unfold vatE vpE at *
 split at h
 ·rename_i h1; rw [if_pos h1, if_pos h1]
 ·rename_i h1
  split at h
  ·rename_i h2; rw [if_neg h1, if_pos h2, if_neg h1, if_pos h2]
  ·exact absurd rfl h
abbrev whXr (rs : List (List Rt)) (b : Pl) (x y : Rt) : List Rt := (whX rs b x y).map rt
abbrev whYr (rs : List (List Rt)) (b : Pl) (x y : Rt) : List Rt := (whY rs b x y).map rt
theorem wh_pt (rs : List (List Rt)) (b : Pl) (x y : Rt) : ptR (whXr rs b x y) (whYr rs b x y) = ptA (whX rs b x y) (whY rs b x y) := by
 show AV.agg [nR _, nR _] = _
 rw [nR_rt, nR_rt]; rfl
theorem wh_num {a : As} (al : AL a) (h1 : chkE a.rs = 0) {b : Pl} (hb : ∀ x ∈ b.l, NR x 4000) (hc : chksE a.rs b.l = 0) {x y : Rt} (qx : Qb 4000 x.q) (qy : Qb 4000 y.q) :
  NR (whXr a.rs b x y) 12160000 /\ NR (whYr a.rs b x y) 12160000 /\ chksE a.rs [whXr a.rs b x y, whYr a.rs b x y] = 0 := by
 obtain ⟨nx, ny⟩ := wh_nm al.tr h1 hb hc qx qy
 have hlm := lm_ge (llq a.rs).length
 have hk : kB 40000 (llq a.rs).length <= 300000 := by
  obtain ⟨tw, _⟩ := chk_tw al.tr h1
  exact Nat.le_trans (eB_three 40000 tw.three) (by omega)
 have nx := nx.mono (f := 12160000) (by omega)
 have ny := ny.mono (f := 12160000) (by omega)
 refine ⟨nx.rt (by omega), ny.rt (by omega), chks_of h1 fun z hz => ?_⟩
 simp only [List.mem_cons, List.not_mem_nil, or_false] at hz
 rw [<- llq_len a.rs]
 rcases hz with rfl | rfl
 ·exact numE_rt nx.nl
 ·exact numE_rt ny.nl
def vpxL (a : As) (r : List Vr) (k : Int) (x y : Rt) : List Rat := if vpE a r k = 0 then vrX a r k (whYr a.rs (a.bs.getD k.toNat default) x y) else []
def vpyL (a : As) (r : List Vr) (k : Int) (x y : Rt) : List Rat := if vpE a r k = 0 then vrY a r k (whXr a.rs (a.bs.getD k.toNat default) x y) else []
abbrev vpP (a : As) (r : List Vr) (k : Int) (x y : Rt) : AV := .agg [nA (vpxL a r k x y), nA (vpyL a r k x y)]
theorem vpx_0 {a : As} {r : List Vr} {k : Int} {x y : Rt} (h : vpE a r k ≠ 0) : vpxL a r k x y = [] := if_neg h
theorem vpy_0 {a : As} {r : List Vr} {k : Int} {x y : Rt} (h : vpE a r k ≠ 0) : vpyL a r k x y = [] := if_neg h
theorem vpx_1 {a : As} {r : List Vr} {i : Nat} {v : Vr} {b : Pl} {x y : Rt} (h : vpE a r i = 0) (hv : r[i]? = some v) (hb : a.bs[i]? = some b) : vpxL a r i x y = vaX (llq a.rs) (lq v.w) (lq v.x) (lq (whYr a.rs b x y)) := by
 unfold vpxL vrX; rw [if_pos h, Int.toNat_natCast, getD_of hv, getD_of hb]
theorem vpy_1 {a : As} {r : List Vr} {i : Nat} {v : Vr} {b : Pl} {x y : Rt} (h : vpE a r i = 0) (hv : r[i]? = some v) (hb : a.bs[i]? = some b) : vpyL a r i x y = vaY (llq a.rs) (lq v.w) (lq v.y) (lq (whXr a.rs b x y)) := by
 unfold vpyL vrY; rw [if_pos h, Int.toNat_natCast, getD_of hv, getD_of hb]
theorem vpP_err {a : As} {r : List Vr} {k : Int} {x y : Rt} {e : Nat} (he : vpE a r k = e) (h : e ≠ 0) : Sub (.tup [.agg [.v (.slice none 0 0), .v (.slice none 0 0)], errA e]) (.tup [vpP a r k x y, errA (vpE a r k)]) := by
 subst he; exact sub_pt1 _ _ _ (vpx_0 h) (vpy_0 h) _ rfl
theorem c_vel_Point (a : As) (r : List Vr) (vl : VL a r) (k : Int) (x y : Rt) (hx : x.ok) (hy : y.ok) (qx : Qb 4000 x.q) (qy : Qb 4000 y.q) :
  FnC Tryz.prog 17 [a.av, .lst 3 (r.map Vr.av), i64 k, x.av, y.av] (.tup [vpP a r k x y, errA (vpE a r k)]) := by
 have hrl := vl.rl
 refine gF0 Tryz.func17 ?_
 refine gc (c_vel_check a r vl) ?_
 refine gC (fun ht19 => ?_) (fun ht19 => ?_)
 ·have h1 := nNil_t ht19
  refine gR ?_
  exact fin_sub (vpP_err (vp_1 h1) h1)
 ·have h1 := nNil_f ht19
  refine glG ?_
  refine gC (fun ht29 => ?_) (fun ht29 => ?_)
  ·have h2 := ixb_t ht29
   refine gR ?_
   exact fin_sub (vpP_err (vp_2 h1 h2) (by decide))
  ·have h2 := ixb_f ht29
   have h3 := vp_3 h1 h2
   obtain ⟨i, v, b, rfl, hv, hb, _⟩ := vp_0 h3
   have hbm := List.mem_of_getElem? hb
   have hnr := vl.al.nr b hbm
   have h6 := (vel_ok h1).chk
   have h7 := (vel_ok h1).bs b hbm
   obtain ⟨nx, ny, hc⟩ := wh_num vl.al h6 hnr h7 qx qy
   have hpA := c_point_AtE a.rs 40000 4000 vl.al.tr h6 b hnr x y hx hy qx qy (al_sz vl.al h6)
   rw [if_pos h7, if_pos h7, h7, <- wh_pt] at hpA
   have hvA := c_vel_At a r vl i _ _ _ nx ny (Nat.le_refl _)
   have hva : vatE a r i (whXr a.rs b x y) (whYr a.rs b x y) = 0 := by rw [vat_3 h1 h2]; exact hc
   have hvA : FnC Tryz.prog 16 [a.av, .lst 3 (r.map Vr.av), i64 (i : Nat), ptR (whXr a.rs b x y) (whYr a.rs b x y)] (.tup [.agg [nA (vaxL a r (i : Nat) (whXr a.rs b x y) (whYr a.rs b x y)), nA (vayL a r (i : Nat) (whXr a.rs b x y) (whYr a.rs b x y))], errA (vatE a r (i : Nat) (whXr a.rs b x y) (whYr a.rs b x y))]) := hvA
   rw [vax_1 hva hv, vay_1 hva hv, hva] at hvA
   refine gi (getmap hb) ?_
   refine gc hpA ?_
   refine gD ?_
   refine gC (fun ht46 => ?_) (fun ht46 => ?_) (st1 := (8, 0))
   ·cases ht46
   ·refine gc hvA ?_
    refine gE2 ?_
    show _ = AV.tup [AV.agg [nA (vpxL a r (i : Nat) x y), nA (vpyL a r (i : Nat) x y)], _]; rw [vpx_1 h3 hv hb, vpy_1 h3 hv hb, h3]
end Go.Lw
namespace Go.Lw
open Go.Proofs
def dL (x : AV) : List Rat := match x with
  | .lst _ es => es.map dQ
  | _ => []
def lenB : Nat -> Nat -> Bool
  | 0, l => Nat.beq l 1
  | n + 1, l => Nat.beq l (2 ^ (n + 1)) || lenB n l
def nmB (n : Nat) (l : List Rat) : Bool := l.all smQ && (Nat.beq l.length 0 || lenB n l.length)
theorem lenB_ok : ∀ {n l : Nat}, lenB n l = true -> ∃ j, j <= n /\ l = 2 ^ j
 | 0, l, h => ⟨0, Nat.le_refl _, by unfold lenB at h; exact Nat.eq_of_beq_eq_true h⟩
 | n + 1, l, h => by
  unfold lenB at h
  rw [Bool.or_eq_true] at h
  rcases h with h | h
  ·exact ⟨n + 1, Nat.le_refl _, Nat.eq_of_beq_eq_true h⟩
  ·obtain ⟨j, h1, h2⟩ := lenB_ok h
   exact ⟨j, by omega, h2⟩
theorem nmB_nm {n : Nat} (h5 : n <= 5) {l : List Rat} (h : nmB n l = true) : Nm n 4000 l := by
 unfold nmB at h
 rw [Bool.and_eq_true, Bool.or_eq_true, List.all_eq_true] at h
 obtain ⟨h1, h2⟩ := h
 have hl : Nl n l := by
  rcases h2 with h2 | h2
  ·exact .inl (List.eq_nil_of_length_eq_zero (Nat.eq_of_beq_eq_true h2))
  ·exact .inr (lenB_ok h2)
 have h3 := hl.le
 have h4 : l.length <= 32 := Nat.le_trans h3 (pow_le2 (b := 5) h5)
 obtain ⟨D, N, a1, a2, a3⟩ := cd_list (e := 64) (l := l) (fun q hq => smQ_qb (h1 q hq))
 obtain ⟨k, hk⟩ : ∃ k, k = 4000 := ⟨_, rfl⟩
 rw [<- hk]
 exact ⟨h5, hl, D, N, a1, Nat.le_trans a2 (pow_le2 (by omega)), Nat.le_trans a3 (pow_le2 (by omega))⟩
structure TE where
  ts : List (List Rat)
  R : Nat
  tw : Tw ts R
  kb : eB R ts.length <= 300000
theorem TE.ct (t : TE) : Ct t.ts 4000 300000 := ⟨⟨t.R, t.tw, t.kb⟩, by omega, by omega, by omega, by omega⟩
def TE.A (t : TE) : AV := towA t.ts
abbrev TE.N (t : TE) : Type := Et t.ts
section
variable (t : TE)
def v2 (f : FuncId) (g : t.N -> t.N -> AV) (h : ∀ a b, nmB t.ts.length a = true -> nmB t.ts.length b = true -> FnC Tryz.prog f [t.A, nA a, nA b] (g (dE t.ts a) (dE t.ts b))) (a b : List Rat) : En :=
  match hh : nmB t.ts.length a && nmB t.ts.length b with
  | true => some ⟨f, [t.A, nA a, nA b], g (dE t.ts a) (dE t.ts b), [], h a b (by rw [Bool.and_eq_true] at hh; exact hh.1) (by rw [Bool.and_eq_true] at hh; exact hh.2)⟩
  | false => none
def oV2 (f : FuncId) (g : t.N -> t.N -> AV) (h : ∀ a b, nmB t.ts.length a = true -> nmB t.ts.length b = true -> FnC Tryz.prog f [t.A, nA a, nA b] (g (dE t.ts a) (dE t.ts b))) (xs : List AV) : En := match xs with
  | [_, a, b] => v2 t f g h (dL a) (dL b)
  | _ => none
def v1 (f : FuncId) (g : t.N -> AV) (h : ∀ a, nmB t.ts.length a = true -> FnC Tryz.prog f [t.A, nA a] (g (dE t.ts a))) (a : List Rat) : En :=
  match hh : nmB t.ts.length a with
  | true => some ⟨f, [t.A, nA a], g (dE t.ts a), [], h a hh⟩
  | false => none
def oV1 (f : FuncId) (g : t.N -> AV) (h : ∀ a, nmB t.ts.length a = true -> FnC Tryz.prog f [t.A, nA a] (g (dE t.ts a))) (xs : List AV) : En := match xs with
  | [_, a] => v1 t f g h (dL a)
  | _ => none
theorem TE.zl {a : List Rat} (h : nmB t.ts.length a = true) : Zl t.ts 4000 300000 a (dE t.ts a) 1 0 := Zl.at (nmB_nm t.tw.five h) (Nat.le_refl _)
theorem ex_Add (a b : List Rat) (ha : nmB t.ts.length a = true) (hb : nmB t.ts.length b = true) : FnC Tryz.prog 160 [t.A, nA a, nA b] (.tup [nA (sX (dE t.ts a + dE t.ts b)), .v .nilIface]) := by
 haveI := t.ct; haveI := t.zl ha; haveI := t.zl hb; exact x_Add
theorem ex_Sub (a b : List Rat) (ha : nmB t.ts.length a = true) (hb : nmB t.ts.length b = true) : FnC Tryz.prog 158 [t.A, nA a, nA b] (.tup [nA (sX (dE t.ts a - dE t.ts b)), .v .nilIface]) := by
 haveI := t.ct; haveI := t.zl ha; haveI := t.zl hb; exact x_Sub
theorem ex_Mul (a b : List Rat) (ha : nmB t.ts.length a = true) (hb : nmB t.ts.length b = true) : FnC Tryz.prog 159 [t.A, nA a, nA b] (.tup [nA (sX (dE t.ts a * dE t.ts b)), .v .nilIface]) := by
 haveI := t.ct; haveI := t.zl ha; haveI := t.zl hb; exact x_Mul
theorem ex_Neg (a : List Rat) (ha : nmB t.ts.length a = true) : FnC Tryz.prog 92 [t.A, nA a] (.tup [nA (sX (-dE t.ts a)), .v .nilIface]) := by
 haveI := t.ct; haveI := t.zl ha; exact x_Neg
theorem ex_Sign (a : List Rat) (ha : nmB t.ts.length a = true) : FnC Tryz.prog 110 [t.A, nA a] (.tup [i64 (sgE (dE t.ts a)), .v .nilIface]) := by
 haveI := t.ct; haveI := t.zl ha; exact x_Sign
theorem ex_Cmp (a b : List Rat) (ha : nmB t.ts.length a = true) (hb : nmB t.ts.length b = true) : FnC Tryz.prog 345 [t.A, nA a, nA b] (.tup [i64 (sgE (dE t.ts a - dE t.ts b)), .v .nilIface]) := by
 have h1 := lm_ge t.ts.length
 exact tw_Cmp t.tw (nmB_nm t.tw.five ha) (nmB_nm t.tw.five hb) (by omega)
theorem exr_Sign (a : List Rat) (ha : nmB t.ts.length a = true) : FnC Tryz.prog 22 [t.A, nA a] (i64 (sgE (dE t.ts a))) := by
 haveI := t.ct; haveI := t.zl ha; exact xr_Sign
theorem exr_Equal (a b : List Rat) (ha : nmB t.ts.length a = true) (hb : nmB t.ts.length b = true) : FnC Tryz.prog 24 [t.A, nA a, nA b] (bl (eqE (dE t.ts a) (dE t.ts b))) := by
 haveI := t.ct; haveI := t.zl ha; haveI := t.zl hb; exact xr_Equal
end
def smL (l : List Rat) : Bool := l.all smQ && Nat.ble l.length 1000000
theorem smL_ok {l : List Rat} (h : smL l = true) : (∀ q ∈ l, Qs q) /\ l.length <= 1000000 := by
 unfold smL at h
 rw [Bool.and_eq_true, List.all_eq_true, Nat.ble_eq] at h
 exact ⟨fun q hq => smQ_qs (h.1 q hq), h.2⟩
def wdE (a : List Rat) (n : Nat) : En := match hh : Nat.ble a.length n && Nat.ble n 1000000 with
  | true => some ⟨277, [nA a, i64 n], nA (wideL a n), [], c_tower_wide a n (by rw [Bool.and_eq_true, Nat.ble_eq] at hh; exact hh.1) (by rw [Bool.and_eq_true, Nat.ble_eq, Nat.ble_eq] at hh; omega)⟩
  | false => none
def oWd (xs : List AV) : En := match xs with
  | [a, n] => wdE (dL a) (dI n).toNat
  | _ => none
def plE2 (a b : List Rat) : En := match hh : smL a && smL b with
  | true => some ⟨202, [nA a, nA b], nA (plusL a b), [], by
      rw [Bool.and_eq_true] at hh
      exact c_tower_plus a b (smL_ok hh.1).1 (smL_ok hh.2).1 (by have := (smL_ok hh.1).2; omega) (by have := (smL_ok hh.2).2; omega)⟩
  | false => none
def oPl (xs : List AV) : En := match xs with
  | [a, b] => plE2 (dL a) (dL b)
  | _ => none
def miE (a : List Rat) : En := match hh : smL a with
  | true => some ⟨157, [nA a], nA (minusL a), [], c_tower_minus a (smL_ok hh).1 (by have := (smL_ok hh).2; omega)⟩
  | false => none
def oMi (xs : List AV) : En := match xs with
  | [a] => miE (dL a)
  | _ => none
def joE (a b : List Rat) (n : Nat) : En := match hh : Nat.ble a.length n && Nat.ble b.length n && Nat.ble n 1000000 with
  | true => some ⟨280, [nA a, nA b, i64 n], nA (joinL a b n), [], by
      rw [Bool.and_eq_true, Bool.and_eq_true, Nat.ble_eq, Nat.ble_eq, Nat.ble_eq] at hh
      exact c_tower_join a b n hh.1.1 hh.1.2 (by omega)⟩
  | false => none
def oJo (xs : List AV) : En := match xs with
  | [a, b, n] => joE (dL a) (dL b) (dI n).toNat
  | _ => none
def lev0 : List AV -> Bool
  | .agg (.lst _ [] :: _) :: _ => true
  | .agg (.v _ :: _) :: _ => true
  | _ => false
def byT (o o' : List AV -> En) (xs : List AV) : En := match lev0 xs with
  | true => o xs
  | false => o' xs
def te00 : TE := ⟨[], 1, tw00, by decide⟩
def orcT (t : TE) (o : FuncId -> Option (List AV -> En)) : FuncId -> Option (List AV -> En)
  | 160 => some (byT (oT2 160 _ e_Add) (oV2 t 160 (fun x y => .tup [nA (sX (x + y)), .v .nilIface]) (ex_Add t)))
  | 158 => some (byT (oT2 158 _ e_Sub) (oV2 t 158 (fun x y => .tup [nA (sX (x - y)), .v .nilIface]) (ex_Sub t)))
  | 159 => some (byT (oT2 159 _ e_Mul) (oV2 t 159 (fun x y => .tup [nA (sX (x * y)), .v .nilIface]) (ex_Mul t)))
  | 92 => some (byT (oT1 92 _ e_Neg) (oV1 t 92 (fun x => .tup [nA (sX (-x)), .v .nilIface]) (ex_Neg t)))
  | 110 => some (byT (oT1 110 _ e_Sign) (oV1 t 110 (fun x => .tup [i64 (sgE x), .v .nilIface]) (ex_Sign t)))
  | 36 => some (byT (oC 36 [z0] (.v .nilIface) (tw_Check tw00)) (oC 36 [t.A] (.v .nilIface) (tw_Check t.tw)))
  | 22 => some (oV1 t 22 (fun x => i64 (sgE x)) (exr_Sign t))
  | 24 => some (byT (oT2 24 _ e_Equal) (oV2 t 24 (fun x y => bl (eqE x y)) (exr_Equal t)))
  | 277 => some oWd
  | 202 => some oPl
  | 157 => some oMi
  | 280 => some oJo
  | 345 => some (byT (oV2 te00 345 (fun x y => .tup [i64 (sgE (x - y)), .v .nilIface]) (ex_Cmp te00)) (oV2 t 345 (fun x y => .tup [i64 (sgE (x - y)), .v .nilIface]) (ex_Cmp t)))
  | f => o f
theorem tw16 : Tw [[(16 : Rat)]] 10 where
 three := by decide
 len := fun j hj => by
  obtain rfl : j = 0 := by have : j < 1 := hj; omega
  rfl
 pos := fun j hj => by
  obtain rfl : j = 0 := by have : j < 1 := hj; omega
  decide +kernel
 rb := ⟨1, 16, by omega, fun d hd => by
  rw [List.mem_singleton.1 hd]
  exact ⟨by omega, fun q hq => ⟨16, by rw [List.mem_singleton.1 hq]; decide +kernel, by decide⟩⟩, by decide, by decide⟩
 le := by decide
def te16 : TE := ⟨[[(16 : Rat)]], 10, tw16, by decide⟩
end Go.Lw
namespace Go.Lw
def ck : Li := ⟨⟨#[115, 108, 105, 100, 101, 114]⟩, [barB ⟨#[102, 114, 97, 109, 101]⟩ 1, barB ⟨#[99, 114, 97, 110, 107]⟩ 3, barB ⟨#[114, 111, 100]⟩ 5],
  [⟨⟨#[111]⟩, 0, 1, 0, 0, 0, 0⟩, ⟨⟨#[112]⟩, 0, 2, 0, 1, 1, 0⟩, ⟨⟨#[115]⟩, 1, 2, 1, 0, 0, 1⟩], [⟨⟨#[100]⟩, 1⟩]⟩
theorem ck_li : liE ck = 0 := by
 have h1 : bdsE ck = 0 := by
  unfold bdsE firstN bdE dupB mkE
  simp only [eqS_data]
  decide +kernel
 have h2 : jtsE ck = 0 := by
  unfold jtsE firstN jtE dupB
  simp only [eqS_data]
  decide +kernel
 have h3 : drsE ck = 0 := by
  unfold drsE firstN drE dupB
  simp only [eqS_data]
  decide +kernel
 unfold liE
 rw [h1, h2, h3]
 decide +kernel
theorem ck_okw : ck.okw := by
 refine ⟨by decide, fun b hb => ?_, fun j hj => ?_, fun d hd => ?_, by decide, by decide, by decide⟩
 ·simp only [ck, List.mem_cons, List.not_mem_nil, or_false] at hb
  rcases hb with rfl | rfl | rfl <;> exact bar_okw (by decide) (by omega)
 ·simp only [ck, List.mem_cons, List.not_mem_nil, or_false] at hj
  rcases hj with rfl | rfl | rfl <;> decide
 ·simp only [ck, List.mem_cons, List.not_mem_nil, or_false] at hd
  rcases hd with rfl; decide
theorem ck_ok : ck.ok := li_ok (by decide +kernel) ck_okw
end Go.Lw
