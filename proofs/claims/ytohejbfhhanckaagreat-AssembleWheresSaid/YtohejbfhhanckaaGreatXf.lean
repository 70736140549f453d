/- AssembleWheres: for any assembly, any body and any point the law returns true and leaves its arguments as they were. No condition. Part 6 of 7: what the later parts need -/
import Derived.Test.YtohejbfhhanckaaGreatXe
set_option linter.unusedVariables false
namespace Go.Lw
variable {P : Program} {N : Nat}
inductive OR where
  | ok (u : Out)
  | need (k : Nat)
  | no
inductive CR where
  | ok (H : Hp) (r : AV) (H' : Hp)
  | need (k : Nat)
  | no
def subLB : List AV → List AV → Bool
  | [], y => match y with
    | [] => true
    | _ => false
  | x :: l, y => match y with
    | x' :: l' => subB x x' && subLB l l'
    | [] => false
theorem subLB_ok : ∀ {l l' : List AV}, subLB l l' = true → SubL l l'
  | [], [], h => .nil
  | [], _ :: _, h => by simp [subLB] at h
  | _ :: _, [], h => by simp [subLB] at h
  | x :: l, x' :: l', h => by
    simp only [subLB, Bool.and_eq_true] at h
    exact .cons (subB_ok x x' h.1) (subLB_ok h.2)
def mx : Nat → List Nat → Nat
  | m, [] => m
  | m, k :: l => match Nat.blt m k && Nat.blt k 1000 with
    | true => mx k l
    | false => mx m l
def srchK (s : AS) : Nat → Nat → Nat
  | 0, k => k
  | n + 1, k => match s.freshB k with
    | true => k
    | false => srchK s n (k + 1)
def nxt (s : AS) (av : List Nat) : Nat := srchK s 100 (mx (mx 299 (s.hp.map (·.1))) av + 1)
mutual
theorem AV.pm_id (σ : Nat → Nat) : ∀ x : AV, x.nm = [] → x.pm σ = x
  | .ms k sz off len, h => by simp [AV.nm] at h
  | .ptr k off, h => by simp [AV.nm] at h
  | .eptr k sz i off, h => by simp [AV.nm] at h
  | .yl k, h => by simp [AV.nm] at h
  | .agg cs, h => by simp only [AV.pm]; rw [AV.pms_id σ cs (by simpa only [AV.nm] using h)]
  | .tup cs, h => by simp only [AV.pm]; rw [AV.pms_id σ cs (by simpa only [AV.nm] using h)]
  | .fn f cs, h => by simp only [AV.pm]; rw [AV.pms_id σ cs (by simpa only [AV.nm] using h)]
  | .opt b x, h => by simp only [AV.pm]; rw [AV.pm_id σ x (by simpa only [AV.nm] using h)]
  | .v x, h => rfl
  | .lst sz l, h => rfl
  | .iptr l, h => rfl
  | .cl f cs ds, h => rfl
theorem AV.pms_id (σ : Nat → Nat) : ∀ l : List AV, AV.nms l = [] → AV.pms σ l = l
  | [], h => rfl
  | x :: l, h => by
    simp only [AV.nms, List.append_eq_nil_iff] at h
    simp only [AV.pms]; rw [AV.pm_id σ x h.1, AV.pms_id σ l h.2]
end
theorem con_key {f : FuncId} {xs : List AV} {r : AV} {H' : Hp} (h : Con P f xs [] r H') (hx : AV.nms xs = []) (k d : Nat) : Con P f xs [] (r.pm (tr k d)) (pmH (tr k d) H') := by
  have h1 := h.pm (tr_tr k d)
  rw [← AV.pms_eq, AV.pms_id _ xs hx] at h1
  exact h1
abbrev CallF := List Nat → FuncId → List AV → Hp → Option (AV × Hp)
def CallF.Ok (P : Program) (F : CallF) : Prop := ∀ av f xs H r H', F av f xs H = some (r, H') → Con P f xs H r H'
/-- The first row among keys. -/
def rowK (s : AS) : List Nat → Option Nat
  | [] => none
  | k :: ks => match s.blk k with
    | some (.row _ _) => some k
    | _ => rowK s ks
def callG (F : CallF) (s : AS) (av : List Nat) (f : FuncId) (xs : List AV) : CR :=
  match pkH s (reach s 300 (AV.nms xs) []) with
  | H => match F (s.hp.map (·.1) ++ av) f xs H with
    | some (r, H') => .ok H r H'
    | none => .no
/-- Rows are lent to those functions alone that write them. -/
def callB (E : Env P) (F : CallF) (s : AS) (av : List Nat) (f : FuncId) (xs : List AV) : CR := match E.mt f with
  | true => callG F s av f xs
  | false => match rowK s (AV.nms xs) with
    | some k => .need k
    | none => callG F s av f xs
def callR (E : Env P) (F : CallF) (s : AS) (av : List Nat) (f : FuncId) (xs : List AV) : CR := match E.orc f with
  | some g => match AV.nms xs with
    | k :: _ => .need k
    | [] => match g xs with
      | some e => match Nat.beq e.f f && subLB xs e.xs with
        | true => match e.H' with
          | (k, some z) :: l => .ok [] (e.r.pm (tr k (nxt s av))) (pmH (tr k (nxt s av)) e.H')
          | _ => .ok [] e.r e.H'
        | false => callB E F s av f xs
      | none => callB E F s av f xs
  | none => callB E F s av f xs
theorem callG_ok {F : CallF} (hF : F.Ok P) {s : AS} {av : List Nat} {f : FuncId} {xs : List AV} {H H' : Hp} {r : AV} (h : callG F s av f xs = .ok H r H') : Con P f xs H r H' ∧ ∀ k z, lk H k = some z → s.blk k = some z := by
  unfold callG at h
  simp only at h
  split at h
  · rename_i h1; cases h; exact ⟨hF _ _ _ _ _ _ h1, fun k z hz => pkH_ok hz⟩
  · cases h
theorem callB_ok {E : Env P} {F : CallF} (hF : F.Ok P) {s : AS} {av : List Nat} {f : FuncId} {xs : List AV} {H H' : Hp} {r : AV} (h : callB E F s av f xs = .ok H r H') : Con P f xs H r H' ∧ ∀ k z, lk H k = some z → s.blk k = some z := by
  unfold callB at h
  split at h
  · exact callG_ok hF h
  · split at h
    · cases h
    · exact callG_ok hF h
theorem callR_ok {E : Env P} {F : CallF} (hF : F.Ok P) {s : AS} {av : List Nat} {f : FuncId} {xs : List AV} {H H' : Hp} {r : AV} (h : callR E F s av f xs = .ok H r H') : Con P f xs H r H' ∧ ∀ k z, lk H k = some z → s.blk k = some z := by
  unfold callR at h
  split at h
  · split at h
    · cases h
    · rename_i hn
      split at h
      · rename_i e he
        split at h
        · rename_i hc
          simp only [Bool.and_eq_true] at hc
          have hf := Nat.eq_of_beq_eq_true hc.1
          subst hf
          have h9 := Con.subA (subLB_ok hc.2) e.con
          split at h
          · rename_i k z l _
            obtain ⟨rfl, rfl, rfl⟩ := CR.ok.inj h
            exact ⟨con_key h9 hn _ _, fun k z hz => by cases hz⟩
          · obtain ⟨rfl, rfl, rfl⟩ := CR.ok.inj h
            exact ⟨h9, fun k z hz => by cases hz⟩
        · exact callB_ok hF h
      · exact callB_ok hF h
  · exact callB_ok hF h
/-- An append to nothing. -/
theorem s_append0 {s : AS} {R : Array Oper} {d q sz cap0 : Nat} {a0 : Option Addr} {xs : List AV} {x y : Operand} {T E t : TypeId} {ti te : TI} {pos : String} {after : Array Edge}
    (hx : Ev s x (.v (.slice a0 0 0))) (hy : Ev s y (.lst sz xs)) (hT : tinfo P T = some ti) (hkd : ti.k = .slice E) (hE : tinfo P E = some te)
    (hsz : te.size = sz) (hz0 : (Nat.beq te.zero.length te.size && Nat.blt 0 te.size && Nat.blt 0 te.bytes) = true) (hb : (0 + xs.length) * te.bytes ≤ 140737488355328) (hdk : Nat.beq d q = false)
    (hN : Nat.blt d N = true) :
    Step P N R s ⟨some d, .call ⟨.builtin .append, #[x, y], #[T, T]⟩, t, pos, after, none⟩
      ⟨some (.ms d sz 0 (0 + xs.length)), [(d, some (.row sz ([] ++ xs))), (q, none)], rtOf x ++ rtOf y, []⟩ := by
  refine ⟨fun s' hag hnew C m a w Q next hC hr hnext => ?_⟩
  have hq : s'.Fresh q := by
    rcases hnew q (by simp) with h | h
    · cases h
    · exact h
  have hd : s'.Fresh d := by
    rcases hnew d (by simp) with h | h
    · cases h
    · exact h
  have hdq := Nat.ne_of_beq_eq_false hdk
  have hx' := hx.agree hag (fun _ h => List.mem_append.2 (.inl h))
  have hy' := hy.agree hag (fun _ h => List.mem_append.2 (.inr h))
  let s2 : AS := ⟨s'.sl, (q, some (.row sz [])) :: s'.hp⟩
  have evs : ∀ {o : Operand} {z : AV}, Ev s' o z → Ev s2 o z := fun h => by
    cases h with
    | tmp h => exact .tmp h
    | opt h hb => exact .opt h hb
    | const c => exact .const c
    | func f => exact .func f
  have st := s_appendG (P := P) (N := N) (R := R) (s := s2) (d := d) (k := q) (t := t) (pos := pos) (after := after) (es := []) (evs hx') (fun g S m v h => Sub.nilMs a0 q sz g S m v h) (by simp [s2, AS.blk, lk_cons]) rfl (evs hy') hT hkd hE hsz hz0 hb hdk hN
  refine st.run s2 ⟨fun _ _ => rfl, fun _ _ => rfl⟩ ?_ C _ a w Q next hC (hr.virt sz hq) (fun m' a' w' hr' => hnext m' a' w' ?_)
  · intro k hk
    simp only [List.map_cons, List.map_nil, List.mem_cons, List.not_mem_nil, or_false] at hk
    rcases hk with rfl | rfl
    · exact .inr (Fresh.row hd hdq (fun h => h))
    · exact .inl (by simp)
  · refine RelM.congr ?_ ?_ hr'
    · intro t; rfl
    · intro k
      simp only [AS.app, AS.blk, s2, List.cons_append, List.nil_append, lk_cons]
      split
      · rfl
      · split <;> rfl
/-! ### Blocks that a call leaves as they were -/
mutual
def avEq : AV → AV → Bool
  | .v a, y => match y with
    | .v b => vEq a b
    | _ => false
  | .lst sz es, y => match y with
    | .lst sz' es' => Nat.beq sz sz' && avEqs es es'
    | _ => false
  | .agg cs, y => match y with
    | .agg cs' => avEqs cs cs'
    | _ => false
  | .tup cs, y => match y with
    | .tup cs' => avEqs cs cs'
    | _ => false
  | .iptr cs, y => match y with
    | .iptr cs' => avEqs cs cs'
    | _ => false
  | .ms k sz off len, y => match y with
    | .ms k' sz' off' len' => Nat.beq k k' && (Nat.beq sz sz' && (Nat.beq off off' && Nat.beq len len'))
    | _ => false
  | .ptr k off, y => match y with
    | .ptr k' off' => Nat.beq k k' && Nat.beq off off'
    | _ => false
  | .eptr k sz i off, y => match y with
    | .eptr k' sz' i' off' => Nat.beq k k' && (Nat.beq sz sz' && (Nat.beq i i' && Nat.beq off off'))
    | _ => false
  | .fn f cs, y => match y with
    | .fn f' cs' => Nat.beq f f' && avEqs cs cs'
    | _ => false
  | .opt _ _, _ => false
  | .yl _, _ => false
  | .cl _ _ _, _ => false
def avEqs : List AV → List AV → Bool
  | [], y => match y with
    | [] => true
    | _ => false
  | x :: l, y => match y with
    | x' :: l' => avEq x x' && avEqs l l'
    | [] => false
end
mutual
theorem avEq_ok : ∀ (x y : AV), avEq x y = true → x = y
  | .v a, y, h => by cases y <;> simp [avEq] at h; rw [vEq_ok _ _ h]
  | .lst sz es, y, h => by
    cases y <;> simp only [avEq, Bool.and_eq_true, Bool.false_eq_true] at h
    rw [Nat.eq_of_beq_eq_true h.1, avEqs_ok _ _ h.2]
  | .agg cs, y, h => by cases y <;> simp only [avEq, Bool.false_eq_true] at h; rw [avEqs_ok _ _ h]
  | .tup cs, y, h => by cases y <;> simp only [avEq, Bool.false_eq_true] at h; rw [avEqs_ok _ _ h]
  | .iptr cs, y, h => by cases y <;> simp only [avEq, Bool.false_eq_true] at h; rw [avEqs_ok _ _ h]
  | .ms k sz off len, y, h => by
    cases y <;> simp only [avEq, Bool.and_eq_true, Bool.false_eq_true] at h
    rw [Nat.eq_of_beq_eq_true h.1, Nat.eq_of_beq_eq_true h.2.1, Nat.eq_of_beq_eq_true h.2.2.1, Nat.eq_of_beq_eq_true h.2.2.2]
  | .ptr k off, y, h => by
    cases y <;> simp only [avEq, Bool.and_eq_true, Bool.false_eq_true] at h
    rw [Nat.eq_of_beq_eq_true h.1, Nat.eq_of_beq_eq_true h.2]
  | .eptr k sz i off, y, h => by
    cases y <;> simp only [avEq, Bool.and_eq_true, Bool.false_eq_true] at h
    rw [Nat.eq_of_beq_eq_true h.1, Nat.eq_of_beq_eq_true h.2.1, Nat.eq_of_beq_eq_true h.2.2.1, Nat.eq_of_beq_eq_true h.2.2.2]
  | .fn f cs, y, h => by
    cases y <;> simp only [avEq, Bool.and_eq_true, Bool.false_eq_true] at h
    rw [Nat.eq_of_beq_eq_true h.1, avEqs_ok _ _ h.2]
  | .opt .., y, h => by simp [avEq] at h
  | .yl .., y, h => by simp [avEq] at h
  | .cl .., y, h => by simp [avEq] at h
theorem avEqs_ok : ∀ (l l' : List AV), avEqs l l' = true → l = l'
  | [], [], h => rfl
  | [], _ :: _, h => by simp [avEqs] at h
  | _ :: _, [], h => by simp [avEqs] at h
  | x :: l, x' :: l', h => by
    simp only [avEqs, Bool.and_eq_true] at h
    rw [avEq_ok x x' h.1, avEqs_ok l l' h.2]
end
def blkEq : Blk → Blk → Bool
  | .box cs, .box cs' => avEqs cs cs'
  | .row sz es, .row sz' es' => Nat.beq sz sz' && avEqs es es'
  | _, _ => false
theorem blkEq_ok {x y : Blk} (h : blkEq x y = true) : x = y := by
  cases x <;> cases y <;> simp only [blkEq, Bool.false_eq_true] at h
  · rw [avEqs_ok _ _ h]
  · simp only [Bool.and_eq_true] at h
    rw [Nat.eq_of_beq_eq_true h.1, avEqs_ok _ _ h.2]
theorem memB_ok {k : Nat} : ∀ {l : List Nat}, memB k l = true ↔ k ∈ l
  | [] => by simp [memB]
  | x :: l => by
    unfold memB
    split
    · rename_i h; simp [Nat.eq_of_beq_eq_true h]
    · rename_i h; rw [memB_ok (l := l)]; simp [Nat.ne_of_beq_eq_false h]
def chg (H : Hp) : List Nat → Hp → Hp
  | _, [] => []
  | seen, (k, x) :: l => match memB k seen with
    | true => chg H seen l
    | false => match x with
      | some z => match lk H k with
        | some y => match blkEq y z with
          | true => chg H (k :: seen) l
          | false => (k, some z) :: chg H (k :: seen) l
        | none => (k, some z) :: chg H (k :: seen) l
      | none => (k, none) :: chg H (k :: seen) l
theorem chg_ok {H R : Hp} (hR : ∀ t y, lk H t = some y → lk R t = some y) : ∀ {l : Hp} {seen : List Nat} {t : Nat}, t ∉ seen → lk (chg H seen l ++ R) t = if t ∈ l.map (·.1) then lk l t else lk R t
  | [], seen, t, h => by simp [chg]
  | (k, x) :: l, seen, t, h => by
    have rest : t ≠ k → lk (chg H (k :: seen) l ++ R) t = if t ∈ ((k, x) :: l).map (·.1) then lk ((k, x) :: l) t else lk R t := by
      intro hne
      rw [chg_ok hR (fun hh => by rcases List.mem_cons.1 hh with e | e; exact hne e; exact h e)]
      simp only [List.map_cons, List.mem_cons, hne, false_or]
      rw [lk_cons, if_neg hne]
    have head : lk ((k, x) :: (chg H (k :: seen) l ++ R)) t = if t ∈ ((k, x) :: l).map (·.1) then lk ((k, x) :: l) t else lk R t := by
      rw [lk_cons]
      by_cases e : t = k
      · rw [if_pos e, lk_cons, if_pos e]; simp [e]
      · rw [if_neg e, rest e]
    unfold chg
    split
    · rename_i hm
      have hne : t ≠ k := fun e => h (by rw [e]; exact memB_ok.1 hm)
      rw [chg_ok hR h]
      simp only [List.map_cons, List.mem_cons, hne, false_or]
      rw [lk_cons, if_neg hne]
    · split
      · rename_i z
        split
        · rename_i y hy
          split
          · rename_i he
            by_cases e : t = k
            · rw [chg_none (by rw [e]; exact List.mem_cons_self ..), e, hR k y hy, blkEq_ok he]
              simp [lk_cons]
            · exact rest e
          · exact head
        · exact head
      · exact head
where
  chg_none {H R : Hp} : ∀ {l : Hp} {seen : List Nat} {t : Nat}, t ∈ seen → lk (chg H seen l ++ R) t = lk R t
    | [], seen, t, h => rfl
    | (k, x) :: l, seen, t, h => by
      unfold chg
      split
      · exact chg_none h
      · rename_i hm
        have hne : t ≠ k := fun e => by rw [e] at h; rw [memB_ok.2 h] at hm; cases hm
        have ih := chg_none (H := H) (R := R) (l := l) (List.mem_cons_of_mem k h)
        split
        · split
          · split
            · exact ih
            · show lk (_ :: (_ ++ R)) t = _
              rw [lk_cons, if_neg hne]; exact ih
          · show lk (_ :: (_ ++ R)) t = _
            rw [lk_cons, if_neg hne]; exact ih
        · show lk (_ :: (_ ++ R)) t = _
          rw [lk_cons, if_neg hne]; exact ih
theorem chg_keys {H : Hp} : ∀ {l : Hp} {seen : List Nat} {k : Nat}, k ∈ l.map (·.1) → k ∉ seen → k ∈ (chg H seen l).map (·.1) ∨ ∃ y, lk H k = some y
  | [], seen, k, h, _ => by simp at h
  | (k', x) :: l, seen, k, h, hs => by
    unfold chg
    by_cases e : k = k'
    · subst e
      have hm : memB k seen = false := by
        cases hq : memB k seen with
        | true => exact absurd (memB_ok.1 hq) hs
        | false => rfl
      simp only [hm]
      split
      · split
        · rename_i y hy
          split
          · exact .inr ⟨y, hy⟩
          · exact .inl (by simp)
        · exact .inl (by simp)
      · exact .inl (by simp)
    · have h' : k ∈ l.map (·.1) := by simpa [e] using h
      have hs' : k ∉ k' :: seen := fun hh => by rcases List.mem_cons.1 hh with e' | e'; exact e e'; exact hs e'
      have ih1 := chg_keys (H := H) h' hs
      have ih2 := chg_keys (H := H) h' hs'
      split
      · exact ih1
      · split
        · split
          · split
            · exact ih2
            · rcases ih2 with h | h
              · exact .inl (List.mem_cons_of_mem _ h)
              · exact .inr h
          · rcases ih2 with h | h
            · exact .inl (List.mem_cons_of_mem _ h)
            · exact .inr h
        · rcases ih2 with h | h
          · exact .inl (List.mem_cons_of_mem _ h)
          · exact .inr h
theorem step_slim {R : Array Oper} {s : AS} {o : Oper} {x : Option AV} {H U : Hp} {rt : List Nat} (hH : ∀ k z, lk H k = some z → s.blk k = some z) (h : Step P N R s o ⟨x, U, rt, H.map (·.1)⟩) :
    Step P N R s o ⟨x, chg H [] U, rt, H.map (·.1)⟩ := by
  refine ⟨fun s' hag hnew C m a w Q next hC hr hnext => ?_⟩
  have hH' : ∀ k z, lk H k = some z → lk s'.hp k = some z := fun k z hz => (hag.2 k (mem_keys_of_lk hz)).trans (hH k z hz)
  refine h.run s' hag (fun k hk => ?_) C m a w Q next hC hr (fun m' a' w' hr' => hnext m' a' w' ?_)
  · rcases chg_keys (H := H) hk (seen := []) (by simp) with h1 | ⟨y, hy⟩
    · exact hnew k h1
    · exact .inl (mem_keys_of_lk hy)
  · refine RelM.congr (s := s'.app o.dst ⟨x, U, rt, H.map (·.1)⟩) (fun t => rfl) (fun k => ?_) hr'
    simp only [AS.blk, AS.app]
    rw [chg_ok hH' (by simp), lk_append]
variable [Inhabited (Tys P)]
def appC (P : Program) [Inhabited (Tys P)] (s : AS) (d : Nat) (x y : Operand) (T : TypeId) : OR := match rdC s y with
  | some (.lst sz xs) => match tyOf P T with
    | some ti => match ti.k with
      | .slice E => match tyOf P E with
        | some te => match Nat.beq te.size sz && (Nat.beq te.zero.length te.size && Nat.blt 0 te.size && Nat.blt 0 te.bytes) with
          | true => match rdC s x with
            | some (.ms k sz' off len) => match s.blk k with
              | some (.row sz2 es) => match Nat.beq sz' sz && Nat.beq off 0 && Nat.beq sz2 sz && Nat.beq len es.length && Nat.ble ((len + xs.length) * te.bytes) 140737488355328 with
                | true => match Nat.beq d k with
                  | true => .no
                  | false => match frc (es ++ xs) with
                    | some l => wN (len + xs.length) fun n => .ok ⟨some (.ms d sz 0 n), [(d, some (.row sz l)), (k, none)], rtOf x ++ rtOf y, [k]⟩
                    | none => .no
                | false => .no
              | _ => .no
            | some (.v (.slice a0 0 0)) => match Nat.ble ((0 + xs.length) * te.bytes) 140737488355328 with
              | true => match Nat.beq d 299 with
                | true => .no
                | false => match frc ([] ++ xs) with
                  | some l => wN (0 + xs.length) fun n => .ok ⟨some (.ms d sz 0 n), [(d, some (.row sz l)), (299, none)], rtOf x ++ rtOf y, []⟩
                  | none => .no
              | false => .no
            | _ => .no
          | false => .no
        | none => .no
      | _ => .no
    | none => .no
  | some (.ms k _ _ _) => .need k
  | _ => .no
theorem appC_ok {s : AS} {R : Array Oper} {d : Nat} {x y : Operand} {T t : TypeId} {u : Out} {pos : String} {after : Array Edge} (h : appC P s d x y T = .ok u) (hN : Nat.blt d N = true) :
    Step P N R s ⟨some d, .call ⟨.builtin .append, #[x, y], #[T, T]⟩, t, pos, after, none⟩ u := by
  unfold appC at h
  split at h
  · rename_i sz xs hy
    split at h
    · rename_i ti hT
      split at h
      · rename_i E hk
        split at h
        · rename_i te hE
          split at h
          · rename_i hc
            simp only [Bool.and_eq_true] at hc
            have hsz := Nat.eq_of_beq_eq_true hc.1
            have hz0 : (Nat.beq te.zero.length te.size && Nat.blt 0 te.size && Nat.blt 0 te.bytes) = true := by simp only [Bool.and_eq_true]; exact hc.2
            split at h
            · rename_i k sz' off len hx
              split at h
              · rename_i sz2 es hb
                split at h
                · rename_i hg
                  simp only [Bool.and_eq_true, Nat.ble_eq] at hg
                  obtain ⟨⟨⟨⟨g1, g2⟩, g3⟩, g4⟩, g5⟩ := hg
                  cases Nat.eq_of_beq_eq_true g1
                  cases Nat.eq_of_beq_eq_true g2
                  cases Nat.eq_of_beq_eq_true g3
                  split at h
                  · cases h
                  · rename_i hdk
                    split at h
                    · rename_i l hl
                      cases frc_ok hl
                      rw [wN_eq] at h; cases h
                      exact s_append (rdC_ok hx) hb (Nat.eq_of_beq_eq_true g4) (rdC_ok hy) (tyOf_ok hT) hk (tyOf_ok hE) hsz hz0 g5 hdk hN
                    · cases h
                · cases h
              · cases h
            · rename_i a0 hx
              split at h
              · rename_i g5
                rw [Nat.ble_eq] at g5
                split at h
                · cases h
                · rename_i hdk
                  split at h
                  · rename_i l hl
                    cases frc_ok hl
                    rw [wN_eq] at h; cases h
                    exact s_append0 (cap0 := 0) (rdC_ok hx) (rdC_ok hy) (tyOf_ok hT) hk (tyOf_ok hE) hsz hz0 g5 hdk hN
                  · cases h
              · cases h
            · cases h
          · cases h
        · cases h
      · cases h
    · cases h
  · cases h
  · cases h
/-- A store into an element of a row. -/
def stoE (P : Program) [Inhabited (Tys P)] (s : AS) (T : TypeId) (x y : Operand) : OR := match rdC s x with
  | some (.eptr k sz i off) => match rdC s y with
    | some v => match v.nm with
      | k' :: _ => .need k'
      | [] => match s.blk k with
        | some (.row sz' es) => match es[i]? with
          | some e => match tyOf P T with
            | some ti => match Nat.beq sz sz' && v.ok && Nat.beq v.cells.length ti.size && Nat.ble (off + ti.size) e.cells.length with
              | true => match e with
                | .agg cs => match frc (over cs off v.cells) with
                  | some l => match frc (es.set i (.agg l)) with
                    | some es' => .ok ⟨none, [(k, some (.row sz es'))], rtOf x ++ rtOf y, [k]⟩
                    | none => .no
                  | none => .no
                | e => match Nat.beq off 0 && Nat.beq v.cells.length 1 with
                  | true => match frc (es.set i v) with
                    | some es' => .ok ⟨none, [(k, some (.row sz es'))], rtOf x ++ rtOf y, [k]⟩
                    | none => .no
                  | false => .no
              | false => .no
            | none => .no
          | none => .no
        | _ => .no
    | none => .no
  | _ => .no
theorem cells_one1 {e : AV} (h : ∀ cs, e ≠ .agg cs) : e.cells = [e] := by
  cases e <;> first | rfl | exact absurd rfl (h _)
theorem stoE_ok {s : AS} {R : Array Oper} {x y : Operand} {T t : TypeId} {u : Out} {pos : String} {after : Array Edge} (h : stoE P s T x y = .ok u) :
    Step P N R s ⟨none, .store T x y, t, pos, after, none⟩ u := by
  unfold stoE at h
  split at h
  · rename_i k sz i off hx
    split at h
    · rename_i v hy
      split at h
      · cases h
      · rename_i hnm
        split at h
        · rename_i sz' es hb
          split at h
          · rename_i e he
            split at h
            · rename_i ti hT
              split at h
              · rename_i hc
                simp only [Bool.and_eq_true] at hc
                obtain ⟨⟨⟨c1, c2⟩, c3⟩, c4⟩ := hc
                cases Nat.eq_of_beq_eq_true c1
                split at h
                · rename_i cs
                  split at h
                  · rename_i l hl
                    split at h
                    · rename_i es' hes
                      cases h
                      cases frc_ok hl
                      cases frc_ok hes
                      exact s_stEptr (rdC_ok hx) hb he (rdC_ok hy) c2 hnm (tyOf_ok hT) c3 c4 rfl
                    · cases h
                  · cases h
                · rename_i hne
                  split at h
                  · rename_i hg
                    simp only [Bool.and_eq_true] at hg
                    split at h
                    · rename_i es' hes
                      cases h
                      cases frc_ok hes
                      cases Nat.eq_of_beq_eq_true hg.1
                      refine s_stEptr (rdC_ok hx) hb he (rdC_ok hy) c2 hnm (tyOf_ok hT) c3 c4 ?_
                      rw [cells_one1 hne]
                      have := Nat.eq_of_beq_eq_true hg.2
                      simp [over, this]
                    · cases h
                  · cases h
              · cases h
            · cases h
          · cases h
        · cases h
    · cases h
  · cases h
def mkS (P : Program) [Inhabited (Tys P)] (d : Nat) (T : TypeId) (n : Int) (rt : List Nat) : OR := match tyOf P T with
  | some ti => match ti.k with
    | .slice E => match tyOf P E with
      | some te => match te.zero.all Value.oneCell' && (Nat.beq te.zero.length te.size && Nat.blt 0 te.size && Nat.blt 0 te.bytes && (te.ag || Nat.beq te.size 1)) with
        | true => match n with
          | .ofNat n => match Nat.ble (n * te.bytes) 281474976710656 with
            | true => match frc (List.replicate n (mkT te.ag (te.zero.map .v))) with
              | some l => .ok ⟨some (.ms d te.size 0 n), [(d, some (.row te.size l))], rt, []⟩
              | none => .no
            | false => .no
          | .negSucc _ => .no
        | false => .no
      | none => .no
    | _ => .no
  | none => .no
theorem mkS_ok {s : AS} {R : Array Oper} {d : Nat} {x : Operand} {T t : TypeId} {n : Int} {u : Out} {pos : String} {after : Array Edge} (hx : Ev s x (.v (.int .i64 n))) (h : mkS P d T n (rtOf x) = .ok u) (hN : Nat.blt d N = true) :
    Step P N R s ⟨some d, .makeSlice T x x, t, pos, after, none⟩ u := by
  unfold mkS at h
  split at h
  · rename_i ti hT
    split at h
    · rename_i E hk
      split at h
      · rename_i te hE
        split at h
        · rename_i hc
          rw [Bool.and_eq_true] at hc
          split at h
          · rename_i n
            split at h
            · rename_i hb
              rw [Nat.ble_eq] at hb
              split at h
              · rename_i l hl
                cases h
                cases frc_ok hl
                exact s_make (n := Int.ofNat n) hx (tyOf_ok hT) hk (tyOf_ok hE) hc.1 hc.2 (Int.natCast_nonneg _) (by simp only [Int.ofNat_eq_natCast]; omega) hN
              · cases h
            · cases h
          · cases h
        · cases h
      · cases h
    · cases h
  · cases h
/-- A call of a function that a value names. -/
theorem s_callK {P : Program} {N : Nat} {s : AS} {R : Array Oper} {d f : Nat} {g : Operand} {args : Array Operand} {ts : Array TypeId} {xs : List AV} {H H' : Hp} {r : AV} {t : TypeId} {pos : String} {after : Array Edge}
    (hg : Ev s g (.v (.func (.func f) #[] #[]))) (hcon : Con P f xs H r H') (ha : EvL s args.toList xs) (hH : ∀ k z, lk H k = some z → s.blk k = some z) (hok : callOkB s H H' r = true) (hN : Nat.blt d N = true) :
    Step P N R s ⟨some d, .call ⟨.value g, args, ts⟩, t, pos, after, none⟩ ⟨some r, H' ++ dead H, rtOf g ++ rtL args.toList, H.map (·.1)⟩ :=
  step_call rfl (fun d' h => by cases h; exact ⟨hN, rfl⟩) hcon hH hok fun s' hag C m a w hr => by
    have hag' : AgreeOn s s' ⟨none, [], rtOf g ++ rtL args.toList, []⟩ := ⟨hag, fun k hk => by cases hk⟩
    have ha' := ha.agree hag' (fun _ h => List.mem_append.2 (.inr h))
    have hgr := (hg.agree hag' (fun _ h => List.mem_append.2 (.inl h))).rep hr
    generalize hv : a.eval g = u at hgr
    cases hgr
    refine ⟨args.map a.eval, exec_callV (caps := #[]) rfl hv hcon.ok (by simp), ?_, ?_⟩
    · have := ha'.length; simpa using this
    · intro j v x hv hx; exact ha'.rep hr j v x (by simpa using hv) hx
def opdEq : Operand → Operand → Bool
  | .tmp a, .tmp b => Nat.beq a b
  | .const (.int k a), .const (.int k' b) => Nat.beq (ikn k) (ikn k') && icmp .eql a b
  | _, _ => false
theorem opdEq_ok {x y : Operand} (h : opdEq x y = true) : y = x := by
  unfold opdEq at h
  split at h
  · rw [Nat.eq_of_beq_eq_true h]
  · rename_i k a k' b
    simp only [Bool.and_eq_true] at h
    rw [ikn_inj h.1, eq_of_beq (show (a == b) = true from h.2)]
  · cases h
/-- An operation without a guard that has a result. -/
def opD (E : Env P) (F : CallF) (av : List Nat) (s : AS) (d : Nat) (op : Op) : OR := match op with
  | .call c => match c with
    | ⟨.value g, args, ts⟩ => match rdLC s args.toList with
      | some xs => match g with
        | .func f => match callR E F s av f xs with
          | .ok H r H' => match callOkB s H H' r with
            | true => .ok ⟨some r, chg H [] (H' ++ dead H), rtL args.toList, H.map (·.1)⟩
            | false => .no
          | .need k => .need k
          | .no => .no
        | g => match rdC s g with
          | some (.fn f caps) => match callR E F s av f (xs ++ caps) with
            | .ok H r H' => match callOkB s H H' r with
              | true => .ok ⟨some r, chg H [] (H' ++ dead H), rtOf g ++ rtL args.toList, H.map (·.1)⟩
              | false => .no
            | .need k => .need k
            | .no => .no
          | some (.v (.func (.func f) ⟨[]⟩ ⟨[]⟩)) => match callR E F s av f xs with
            | .ok H r H' => match callOkB s H H' r with
              | true => .ok ⟨some r, chg H [] (H' ++ dead H), rtOf g ++ rtL args.toList, H.map (·.1)⟩
              | false => .no
            | .need k => .need k
            | .no => .no
          | some (.cl f pre caps) => match callR E F s av f (pre ++ xs ++ caps) with
            | .ok H r H' => match callOkB s H H' r with
              | true => .ok ⟨some r, chg H [] (H' ++ dead H), rtOf g ++ rtL args.toList, H.map (·.1)⟩
              | false => .no
            | .need k => .need k
            | .no => .no
          | _ => .no
      | none => .no
    | ⟨.builtin .append, args, ts⟩ => match args.toList with
      | [x, y] => match ts.toList with
        | [T, T'] => match Nat.beq T T' with
          | true => appC P s d x y T
          | false => .no
        | _ => .no
      | _ => .no
    | c => match opV P s (.call c) with
      | some r => .ok ⟨some r.x, [], r.rt, r.rd⟩
      | none => .no
  | .makeSlice T x y => match opdEq x y with
    | true => match rdC s x with
      | some (.v (.int .i64 n)) => mkS P d T n (rtOf x)
      | _ => .no
    | false => .no
  | .slice T x none (some (.const (.int k1 (.ofNat 0)))) (some (.const (.int k2 (.ofNat 0)))) => match rdC s x with
    | some (.lst sz es) => match sliV P T sz with
      | true => .ok ⟨some (.ms d sz 0 0), [(d, some (.row sz []))], rtOf x, []⟩
      | false => .no
    | _ => .no
  | .buildSlice T n parts => match n with
    | 0 => match parts.toList with
      | [] => match tyOf P T with
        | some ti => match ti.k with
          | .slice E => match tyOf P E with
            | some te => match te.zero.all Value.oneCell' && Nat.beq te.zero.length te.size with
              | true => .ok ⟨some (.ms d te.size 0 0), [(d, some (.row te.size []))], [], []⟩
              | false => .no
            | none => .no
          | _ => .no
        | none => .no
      | _ => .no
    | n + 1 => match opV P s (.buildSlice T (n + 1) parts) with
      | some r => .ok ⟨some r.x, [], r.rt, r.rd⟩
      | none => match rdLC s (parts.toList.map (·.2)) with
        | some xs => match AV.nms xs with
          | k :: _ => .need k
          | [] => .no
        | none => .no
  | op => match opV P s op with
    | some r => .ok ⟨some r.x, [], r.rt, r.rd⟩
    | none => match aNew P s d op with
      | some r => match r.2 with
        | [] => .ok r.1
        | _ => .no
      | none => .no
theorem opD_ok {E : Env P} {F : CallF} (hF : F.Ok P) {av : List Nat} {s : AS} {R : Array Oper} {d : Nat} {op : Op} {u : Out} {t : TypeId} {pos : String} {after : Array Edge} (h : opD E F av s d op = .ok u) (hN : Nat.blt d N = true) :
    Step P N R s ⟨some d, op, t, pos, after, none⟩ u := by
  unfold opD at h
  split at h
  · split at h
    · rename_i g args ts
      split at h
      · rename_i xs hxs
        split at h
        · rename_i f
          split at h
          · rename_i H r H' hc
            split at h
            · rename_i hok
              cases h
              obtain ⟨h1, h2⟩ := callR_ok hF hc
              exact step_slim h2 (s_callH h1 (rdLC_ok hxs) h2 hok hN)
            · cases h
          · cases h
          · cases h
        · split at h
          · rename_i f caps hg
            split at h
            · rename_i H r H' hc
              split at h
              · rename_i hok
                cases h
                obtain ⟨h1, h2⟩ := callR_ok hF hc
                exact step_slim h2 (s_callV (rdC_ok hg) h1 (rdLC_ok hxs) h2 hok hN)
              · cases h
            · cases h
            · cases h
          · rename_i f hg
            split at h
            · rename_i H r H' hc
              split at h
              · rename_i hok
                cases h
                obtain ⟨h1, h2⟩ := callR_ok hF hc
                exact step_slim h2 (s_callK (rdC_ok hg) h1 (rdLC_ok hxs) h2 hok hN)
              · cases h
            · cases h
            · cases h
          · rename_i f pre caps hg
            split at h
            · rename_i H r H' hc
              split at h
              · rename_i hok
                cases h
                obtain ⟨h1, h2⟩ := callR_ok hF hc
                exact step_slim h2 (s_callW (rdC_ok hg) h1 (rdLC_ok hxs) h2 hok hN)
              · cases h
            · cases h
            · cases h
          · cases h
      · cases h
    · rename_i args ts
      split at h
      · rename_i x y hx
        split at h
        · rename_i T T' hT
          split at h
          · rename_i hTT
            cases Nat.eq_of_beq_eq_true hTT
            have e1 : args = #[x, y] := by apply Array.toList_inj.1; simpa using hx
            have e2 : ts = #[T, T] := by apply Array.toList_inj.1; simpa using hT
            subst e1; subst e2
            exact appC_ok h hN
          · cases h
        · cases h
      · cases h
    · split at h
      · rename_i h1; cases h; exact opV_ok h1 hN
      · cases h
  · split at h
    · rename_i he
      cases opdEq_ok he
      split at h
      · rename_i hx; exact mkS_ok (rdC_ok hx) h hN
      · cases h
    · cases h
  · split at h
    · rename_i hx
      split at h
      · rename_i hs
        obtain ⟨ti, E, te, h1, h2, h3, h4⟩ := sliV_ok hs
        cases h
        exact s_slice00 (rdC_ok hx) h1 h2 h3 h4 hN
      · cases h
    · cases h
  · rename_i T n parts
    split at h
    · split at h
      · rename_i hp
        have : parts = #[] := by apply Array.toList_inj.1; simpa using hp
        subst this
        split at h
        · rename_i ti hT
          split at h
          · rename_i E hk
            split at h
            · rename_i te hE
              split at h
              · rename_i hc
                rw [Bool.and_eq_true] at hc
                cases h
                exact s_buildMs0 (tyOf_ok hT) hk (tyOf_ok hE) hc.1 hc.2 hN
              · cases h
            · cases h
          · cases h
        · cases h
      · cases h
    · split at h
      · rename_i h1; cases h; exact opV_ok h1 hN
      · split at h
        · split at h <;> cases h
        · cases h
  · split at h
    · rename_i h1; cases h; exact opV_ok h1 hN
    · split at h
      · rename_i h1
        split at h
        · rename_i ho; cases h; exact aNew_ok h1 (by rw [ho]; exact .nil) hN
        · cases h
      · cases h
/-- An operation without a guard and without a result. -/
def opN (E : Env P) (F : CallF) (av : List Nat) (s : AS) (op : Op) : OR := match op with
  | .call c => match c with
    | ⟨.value (.func f), args, ts⟩ => match rdLC s args.toList with
      | some xs => match callR E F s av f xs with
        | .ok H r H' => match callOkB s H H' r with
          | true => .ok ⟨none, chg H [] (H' ++ dead H), rtL args.toList, H.map (·.1)⟩
          | false => .no
        | .need k => .need k
        | .no => .no
      | none => .no
    | _ => .no
  | .store T x y => match aSto P s (.store T x y) with
    | some r => match r.2 with
      | [] => .ok r.1
      | _ => .no
    | none => stoE P s T x y
  | _ => .no
theorem opN_ok {E : Env P} {F : CallF} (hF : F.Ok P) {av : List Nat} {s : AS} {R : Array Oper} {op : Op} {u : Out} {t : TypeId} {pos : String} {after : Array Edge} (h : opN E F av s op = .ok u) :
    Step P N R s ⟨none, op, t, pos, after, none⟩ u := by
  unfold opN at h
  split at h
  · split at h
    · rename_i f args ts
      split at h
      · rename_i xs hxs
        split at h
        · rename_i H r H' hc
          split at h
          · rename_i hok
            cases h
            obtain ⟨h1, h2⟩ := callR_ok hF hc
            exact step_slim h2 (s_callH0 h1 (rdLC_ok hxs) h2 hok)
          · cases h
        · cases h
        · cases h
      · cases h
    · cases h
  · split at h
    · rename_i h1
      split at h
      · rename_i ho; cases h; exact aSto_ok h1 (by rw [ho]; exact .nil)
      · cases h
    · exact stoE_ok h
  · cases h
theorem Step.sub {P : Program} {N : Nat} {R : Array Oper} {s : AS} {o : Oper} {x y : AV} {upd : Hp} {rt rd : List Nat} (h : Step P N R s o ⟨some x, upd, rt, rd⟩) (hs : Sub x y) : Step P N R s o ⟨some y, upd, rt, rd⟩ := by
  refine ⟨fun s' hag hnew C m a w Q next hC hr hnext => h.run s' hag hnew C m a w Q next hC hr (fun m' a' w' hr' => hnext m' a' w' ?_)⟩
  refine hr'.weak (fun t z hz => ?_) (fun k z hz => ⟨z, hz, .refl _⟩)
  rw [get_app] at hz
  split at hz
  · rename_i ht; cases hz; exact ⟨x, by rw [get_app, if_pos ht], hs⟩
  · rename_i ht; exact ⟨z, by rw [get_app, if_neg ht]; exact hz, .refl _⟩
theorem Sub.opt_true (x : AV) : Sub (.opt true x) x := fun g S m v h => by cases h with | opt h _ => exact h rfl
theorem keys_mapHp (f : AV → AV) (k : Nat) : ∀ l : Hp, (mapHp f k l).map (·.1) = l.map (·.1)
  | [] => rfl
  | (k', x) :: l => by simp only [mapHp, List.map_cons, keys_mapHp f k l]
/-- A row that an operation leaves is read only at once. -/
theorem step_frzU {P : Program} {N : Nat} {R : Array Oper} {s : AS} {o : Oper} {d : Nat} {x : AV} {upd : Hp} {rt rd : List Nat} {k sz : Nat} {es : List AV} (hd : o.dst = some d) (hk : lk upd k = some (.row sz es)) (hrd : k ∉ rd)
    (h : Step P N R s o ⟨some x, upd, rt, rd⟩) : Step P N R s o ⟨some (x.fz k sz es), mapHp (AV.fz k sz es) k upd, rt, rd⟩ := by
  refine ⟨fun s' hag hnew C m a w Q next hC hr hnext => ?_⟩
  have hnew' : NewOk s' ⟨some x, upd, rt, rd⟩ := fun k' hk' => hnew k' (by rw [keys_mapHp]; exact hk')
  have hfr : s'.Fresh k := by
    rcases hnew' k (mem_keys_of_lk hk) with h | h
    · exact absurd h hrd
    · exact h
  refine h.run s' hag hnew' C m a w Q next hC hr (fun m' a' w' hr' => ?_)
  rw [hd] at hr'
  have hkk : (s'.app (some d) ⟨some x, upd, rt, rd⟩).blk k = some (.row sz es) := by
    show lk (upd ++ s'.hp) k = _
    rw [lk_append, if_pos (mem_keys_of_lk hk), hk]
  obtain ⟨m2, hr2⟩ := Wk.freeze hkk C m' a' w' hr'
  refine hnext m2 a' w' ?_
  rw [hd]
  refine hr2.congr ?_ ?_
  · intro t
    simp only [AS.get, lk_mapSl, AS.app, lk_cons]
    split
    · rfl
    · cases hx : lk s'.sl t with
      | none => rfl
      | some y => simp only [Option.map_some]; rw [AV.fz_id _ _ _ _ (hfr.2.2.1 t y hx)]
  · intro k'
    simp only [AS.blk, AS.app]
    rw [lk_mapHp, lk_append, lk_append, keys_mapHp, lk_mapHp]
    by_cases h1 : k' = k
    · subst h1
      rw [if_pos rfl, if_pos (mem_keys_of_lk hk), if_pos rfl]
    · rw [if_neg h1, if_neg h1]
      split
      · rfl
      · cases hx : lk s'.hp k' with
        | none => rfl
        | some y => simp only [Option.map_some]; rw [blk_map_id (hfr.2.2.2 k' y hx)]
def frzU : List Nat → Out → Out
  | [], u => u
  | k :: ks, u => match u.val with
    | some x => match lk u.upd k with
      | some (.row sz es) => match memB k u.rd with
        | false => frzU ks ⟨some (x.fz k sz es), mapHp (AV.fz k sz es) k u.upd, u.rt, u.rd⟩
        | true => frzU ks u
      | _ => frzU ks u
    | none => u
theorem frzU_ok {P : Program} {N : Nat} {R : Array Oper} {s : AS} {o : Oper} {d : Nat} (hd : o.dst = some d) : ∀ {ks : List Nat} {u : Out}, Step P N R s o u → Step P N R s o (frzU ks u)
  | [], u, h => h
  | k :: ks, u, h => by
    unfold frzU
    split
    · rename_i x hx
      split
      · rename_i sz es hk
        split
        · rename_i hm
          refine frzU_ok hd ?_
          obtain ⟨val, upd, rt, rd⟩ := u
          simp only at hx hk hm
          subst hx
          exact step_frzU hd hk (fun hh => by rw [memB_ok.2 hh] at hm; cases hm) h
        · exact frzU_ok hd h
      · exact frzU_ok hd h
    · exact h
def opE (E : Env P) (F : CallF) (av fz : List Nat) (N : Nat) (R : List Oper) (s : AS) (o : Oper) : OR := match o.guard with
  | none => match o.dst with
    | some d => match Nat.blt d N with
      | true => match opD E F av s d o.op with
        | .ok u => .ok (frzU fz u)
        | r => r
      | false => .no
    | none => opN E F av s o.op
  | some (j, want) => match R[j]? with
    | some og => match og.dst with
      | some g => match o.dst with
        | some d => match Nat.blt d N with
          | true => match s.get g with
            | some (.v (.bool b)) => match b == want with
              | true => match opD E F av s d o.op with
                | .ok u => match (frzU fz u) with
                  | ⟨some x, upd, rt, rd⟩ => .ok ⟨some x, upd, g :: rt, rd⟩
                  | ⟨none, _, _, _⟩ => .no
                | r => r
              | false => .ok ⟨some (.opt false (.v (.bool false))), [], [g], []⟩
            | some (.opt false (.v (.bool b))) => .ok ⟨some (.opt false (.v (.bool false))), [], [g], []⟩
            | _ => .no
          | false => .no
        | none => .no
      | none => .no
    | none => .no
theorem opE_ok {E : Env P} {F : CallF} (hF : F.Ok P) {av fz : List Nat} {R : List Oper} {s : AS} {o : Oper} {u : Out} (h : opE E F av fz N R s o = .ok u) : Step P N R.toArray s o u := by
  obtain ⟨dst, op, ty, pos, after, guard⟩ := o
  unfold opE at h
  simp only at h
  split at h
  · split at h
    · split at h
      · rename_i hN
        split at h
        · rename_i u' h1; cases h; exact frzU_ok rfl (opD_ok hF h1 hN)
        · rename_i hno; exact absurd h (hno u)
      · cases h
    · exact opN_ok hF h
  · rename_i j want
    split at h
    · rename_i og hog
      split at h
      · rename_i g hg
        split at h
        · rename_i d
          split at h
          · rename_i hN
            have hj : (R.toArray[j]?).bind (·.dst) = some g := by simp [hog, hg]
            split at h
            · rename_i b hb
              split at h
              · rename_i hw
                split at h
                · rename_i u' h1
                  have hs := frzU_ok (ks := fz) rfl (opD_ok (R := R.toArray) (t := ty) (pos := pos) (after := after) hF h1 hN)
                  split at h
                  · rename_i x upd rt rd hx
                    cases h
                    rw [hx] at hs
                    have h2 := s_guardH (want := want) hj hb hN (fun hne => absurd (eq_of_beq hw) hne) (fun _ => hs)
                    rw [hw] at h2
                    exact h2.sub (.opt_true x)
                  · cases h
                · rename_i hno; exact absurd h (hno u)
              · rename_i hw
                cases h
                have h2 := s_guard (P := P) (op := op) (t := ty) (pos := pos) (after := after) (want := want) (x := .v (.bool false)) (rt := []) (rd := []) hj hb hN (fun e => by rw [e] at hw; simp at hw)
                rw [hw] at h2
                exact h2
            · rename_i b hb
              cases h
              exact s_guardO (P := P) (op := op) (t := ty) (pos := pos) (after := after) (want := want) (x := .v (.bool false)) (rt := []) (rd := []) hj hb hN (fun e => by cases e)
            · cases h
          · cases h
        · cases h
      · cases h
    · cases h
end Go.Lw
namespace Go.Lw
variable {P : Program} {N : Nat} [Inhabited (Tys P)]
/-! ### Weaker states -/
theorem awp_postW {P : Program} {N : Nat} {c : Code} {Q Q' : Exit → AS → Prop} {s : AS} (h : AWP P N c Q s) (hq : ∀ e s, Q e s → ∃ s', Wk s s' ∧ Q' e s') : AWP P N c Q' s :=
  fun C m a w n hN hr => wpIn_mono (h C m a w n hN hr) fun e _ _ ⟨s', m', hQ, hr'⟩ => by
    obtain ⟨s2, hw, hQ'⟩ := hq e s' hQ
    obtain ⟨m2, hr2⟩ := hw C m' _ _ hr'
    exact ⟨s2, m2, hQ', hr2⟩
def dd {α : Type} : List Nat → List (Nat × Option α) → List (Nat × Option α)
  | _, [] => []
  | seen, (t, x) :: l => match memB t seen with
    | true => dd seen l
    | false => match x with
      | some v => (t, some v) :: dd (t :: seen) l
      | none => dd (t :: seen) l
theorem dd_ok {α : Type} : ∀ {l : List (Nat × Option α)} {seen : List Nat} {t : Nat} {x : α}, lk (dd seen l) t = some x → t ∉ seen ∧ lk l t = some x
  | [], seen, t, x, h => by cases h
  | (t', y) :: l, seen, t, x, h => by
    unfold dd at h
    rw [lk_cons]
    split at h
    · rename_i hm
      obtain ⟨h1, h2⟩ := dd_ok h
      refine ⟨h1, ?_⟩
      rw [if_neg (fun (e : t = t') => h1 (by rw [e]; exact memB_ok.1 hm))]; exact h2
    · rename_i hm
      have hm' : t' ∉ seen := fun hh => by rw [memB_ok.2 hh] at hm; cases hm
      split at h
      · rw [lk_cons] at h
        split at h
        · rename_i e; cases h; subst e; exact ⟨hm', by rw [if_pos rfl]⟩
        · rename_i e
          obtain ⟨h1, h2⟩ := dd_ok h
          rw [if_neg e]
          exact ⟨fun hh => h1 (List.mem_cons_of_mem _ hh), h2⟩
      · obtain ⟨h1, h2⟩ := dd_ok h
        have hne : t ≠ t' := fun e => h1 (by rw [e]; exact List.mem_cons_self ..)
        rw [if_neg hne]
        exact ⟨fun hh => h1 (List.mem_cons_of_mem _ hh), h2⟩
theorem wk_less {s : AS} {sl : Slots} {hp : Hp} (h1 : ∀ t x, lk sl t = some x → lk s.sl t = some x) (h2 : ∀ k x, lk hp k = some x → lk s.hp k = some x) : Wk s ⟨sl, hp⟩ :=
  fun C m a w hr => ⟨m, hr.weak (fun t x hx => ⟨x, h1 t x hx, .refl _⟩) (fun k x hx => ⟨x, h2 k x hx, .refl _⟩)⟩
def ddS (s : AS) : AS := ⟨dd [] s.sl, dd [] s.hp⟩
theorem wk_dd (s : AS) : Wk s (ddS s) := wk_less (fun t x h => (dd_ok h).2) (fun t x h => (dd_ok h).2)
/-- Slots that do not name a key. -/
def noK (k : Nat) : List Nat → Slots → Slots
  | _, [] => []
  | seen, (t, x) :: l => match memB t seen with
    | true => noK k seen l
    | false => match x with
      | some v => match memB k v.nm with
        | true => noK k (t :: seen) l
        | false => (t, some v) :: noK k (t :: seen) l
      | none => noK k (t :: seen) l
theorem noK_ok {k : Nat} : ∀ {l : Slots} {seen : List Nat} {t : Nat} {x : AV}, lk (noK k seen l) t = some x → t ∉ seen ∧ lk l t = some x
  | [], seen, t, x, h => by cases h
  | (t', y) :: l, seen, t, x, h => by
    unfold noK at h
    rw [lk_cons]
    have rest : ∀ {l' : Slots}, lk (noK k (t' :: seen) l) t = some x → t ∉ seen ∧ (if t = t' then y else lk l t) = some x := by
      intro _ h
      obtain ⟨h1, h2⟩ := noK_ok h
      rw [if_neg (fun (e : t = t') => h1 (by rw [e]; exact List.mem_cons_self ..))]
      exact ⟨fun hh => h1 (List.mem_cons_of_mem _ hh), h2⟩
    split at h
    · rename_i hm
      obtain ⟨h1, h2⟩ := noK_ok h
      refine ⟨h1, ?_⟩
      rw [if_neg (fun (e : t = t') => h1 (by rw [e]; exact memB_ok.1 hm))]; exact h2
    · rename_i hm
      have hm' : t' ∉ seen := fun hh => by rw [memB_ok.2 hh] at hm; cases hm
      split at h
      · split at h
        · exact rest (l' := l) h
        · rw [lk_cons] at h
          split at h
          · rename_i e; cases h; subst e; exact ⟨hm', by rw [if_pos rfl]⟩
          · rename_i e
            obtain ⟨h1, h2⟩ := noK_ok h
            rw [if_neg e]
            exact ⟨fun hh => h1 (List.mem_cons_of_mem _ hh), h2⟩
      · exact rest (l' := l) h
def rekS (s : AS) (k d : Nat) (y : Blk) : AS := ⟨mapSl (AV.rn k d) s.sl, renHp k d y s.hp⟩
/-- The key d is made free. -/
def fixD (s : AS) (av : List Nat) (d : Nat) : Option AS := match s.freshB d with
  | true => some s
  | false => match s.blk d with
    | some y => match s.freshB (nxt s av) with
      | true => some (rekS s d (nxt s av) y)
      | false => none
    | none => some ⟨noK d [] s.sl, s.hp⟩
theorem fixD_ok {s s' : AS} {av : List Nat} {d : Nat} (h : fixD s av d = some s') : Wk s s' := by
  unfold fixD at h
  split at h
  · cases h; exact .refl _
  · split at h
    · rename_i y hy
      split at h
      · rename_i hf; cases h; exact Wk.rekey hy hf
      · cases h
    · cases h; exact wk_less (fun t x h => (noK_ok h).2) (fun _ _ h => h)
def newD (o : Oper) : Option Nat := match o.dst with
  | some d => match o.op with
    | .alloc _ => some d
    | .box _ _ => some d
    | .makeSlice _ _ _ => some d
    | .buildSlice _ 0 _ => some d
    | .slice _ _ _ _ (some _) => some d
    | .call ⟨.builtin .append, _, _⟩ => some d
    | _ => none
  | none => none
def prep (av : List Nat) : List Oper → AS → Option AS
  | [], s => some s
  | o :: os, s => match newD o with
    | some d => match fixD s av d with
      | some s' => prep av os s'
      | none => none
    | none => prep av os s
theorem prep_ok {av : List Nat} : ∀ {os : List Oper} {s s' : AS}, prep av os s = some s' → Wk s s'
  | [], s, s', h => by cases h; exact .refl _
  | o :: os, s, s', h => by
    unfold prep at h
    split at h
    · split at h
      · rename_i h1; exact (fixD_ok h1).trans (prep_ok h)
      · cases h
    · exact prep_ok h
/-! ### Regions -/
inductive RR where
  | ok (s : AS) (us : List Out)
  | need (k : Nat)
  | no
def nB {α : Type} : List α → Bool
  | [] => true
  | _ => false
def opsE (E : Env P) (F : CallF) (av fz : List Nat) (N : Nat) (R : List Oper) : List Oper → AS → List Out → RR
  | [], s, us => .ok s us
  | o :: os, s, us => match opE E F av fz N R s o with
    | .ok u => match nB u.upd || newOkB s u with
      | true => match s.app o.dst u with
        | ⟨sl, hp⟩ => opsE E F av fz N R os ⟨sl, hp⟩ (us ++ [u])
      | false => .no
    | .need k => .need k
    | .no => .no
theorem opsE_ok {E : Env P} {F : CallF} (hF : F.Ok P) {av fz : List Nat} {R : List Oper} : ∀ {os : List Oper} {s : AS} {us : List Out} {s' : AS} {us' : List Out}, opsE E F av fz N R os s us = .ok s' us' →
    ARun P N R.toArray os s us (fun s2 us2 => s2 = s' ∧ us2 = us')
  | [], s, us, s', us', h => by cases h; exact ⟨rfl, rfl⟩
  | o :: os, s, us, s', us', h => by
    unfold opsE at h
    split at h
    · rename_i u hu
      split at h
      · rename_i hn
        refine ⟨u, opE_ok hF hu, ?_, opsE_ok hF h⟩
        cases hu' : nB u.upd with
        | true =>
          intro k hk
          have : u.upd = [] := by cases hq : u.upd with | nil => rfl | cons a b => rw [hq] at hu'; cases hu'
          rw [this] at hk; cases hk
        | false => rw [hu'] at hn; exact newOk_of hn
      · cases h
    · cases h
    · cases h
structure Sys where
  code : Nat → Nat → List Nat → Code → AS → Option (Exit × AS)
  fn : Nat → List Nat → FuncId → List AV → Hp → Option (AV × Hp)
def trF (S : Sys) (base : Nat) : CallF := fun av f xs H => match zipK base (H.map (·.1)) with
  | L => match S.fn (base + 100) av f (tA L xs) (tH L H) with
    | some (r, H') => some (rB L r, hB L H')
    | none => none
def isR (e : Exit) : Bool := match e with
  | .normal => true
  | _ => false
def frzS (s : AS) (k : Nat) : Option AS := match s.blk k with
  | some (.row sz es) => some ⟨mapSl (AV.fz k sz es) s.sl, mapHp (AV.fz k sz es) k s.hp⟩
  | _ => none
theorem frzS_ok {s s' : AS} {k : Nat} (h : frzS s k = some s') : Wk s s' := by
  unfold frzS at h
  split at h
  · rename_i hk; cases h; exact Wk.freeze hk
  · cases h
/-- A region, again and again with other rows read only. -/
def regE (E : Env P) (F : CallF) (av : List Nat) (N : Nat) (A : List Oper) (d : Bool) : Nat → List Nat → AS → Option AS
  | 0, _, _ => none
  | n + 1, fz, s0 => match opsE E F av fz N A A s0 [] with
    | .ok s' us => match d with
      | false => some s'
      | true => match chk A us s0 with
        | true => some s'
        | false => none
    | .need k => match frzS s0 k with
      | some ⟨sl, hp⟩ => regE E F av N A d n fz ⟨sl, hp⟩
      | none => match memB k fz with
        | true => none
        | false => regE E F av N A d n (k :: fz) s0
    | .no => none
theorem regE_ok {E : Env P} {F : CallF} (hF : F.Ok P) {av : List Nat} {id : Nat} {A : Array Oper} {d : Bool} (hnd : A.toList.all nd = true) : ∀ {n : Nat} {fz : List Nat} {s s1 : AS}, regE E F av N A.toList d n fz s = some s1 →
    AWP P N (.region id A d) (fun e' s' => e' = .normal ∧ s' = s1) s
  | 0, fz, s, s1, h => by cases h
  | n + 1, fz, s, s1, h => by
    unfold regE at h
    split at h
    · rename_i s' us h1
      refine awp_reg (Q := fun e' s' => e' = .normal ∧ s' = s1) (k := []) hnd (fun _ => (default : Tys P).mix) (arun_mono ?_ (opsE_ok hF h1))
      rintro s2 us2 ⟨hs, hu⟩
      rw [hs, hu]
      split at h
      · obtain rfl := Option.some.inj h
        exact ⟨(fun e => by cases e), rfl, rfl⟩
      · split at h
        · rename_i hc
          obtain rfl := Option.some.inj h
          exact ⟨fun _ => hc, rfl, rfl⟩
        · cases h
    · split at h
      · rename_i sl hp hf
        exact awp_weaken (frzS_ok hf) (regE_ok hF hnd h)
      · split at h
        · cases h
        · exact regE_ok hF hnd h
    · cases h
/-- One level of the machine. -/
def codeS (E : Env P) (S : Sys) (N base : Nat) (av : List Nat) (c : Code) (s : AS) : Option (Exit × AS) := match c with
  | .skip => some (.normal, s)
  | .ret => some (.ret, s)
  | .exit id => some (.exit id, s)
  | .seq x y => match S.code N base av x s with
    | some (e, s1) => match isR e with
      | true => S.code N base av y s1
      | false => some (e, s1)
    | none => none
  | .block id c => match S.code N base av c s with
    | some (e, s1) => match e with
      | .exit id' => match Nat.beq id' id with
        | true => some (.normal, s1)
        | false => some (.exit id', s1)
      | e => some (e, s1)
    | none => none
  | .cond c x y => match rdC s c with
    | some (.v (.bool b)) => match b with
      | true => S.code N base av x s
      | false => S.code N base av y s
    | _ => none
  | .loop c => match S.code N base av c s with
    | some (e, s1) => match isR e with
      | true => match ddS s1 with
        | ⟨sl, hp⟩ => S.code N base av (.loop c) ⟨sl, hp⟩
      | false => some (e, s1)
    | none => none
  | .region id A d => match allNd A.toList with
    | true => match prep av A.toList s with
      | some s0 => match regE E (trF S base) av N A.toList d 20 [] s0 with
        | some s' => some (.normal, s')
        | none => none
      | none => none
    | false => none
  | _ => none
def renL (st : Nat) : List Nat → AS → Option AS
  | [], s => some s
  | k :: ks, s => match s.blk k with
    | some y => match srchK s 100 st with
      | d => match s.freshB d with
        | true => renL st ks (rekS s k d y)
        | false => none
    | none => none
theorem renL_ok {st : Nat} : ∀ {ks : List Nat} {s s' : AS}, renL st ks s = some s' → Wk s s'
  | [], s, s', h => by cases h; exact .refl _
  | k :: ks, s, s', h => by
    unfold renL at h
    split at h
    · rename_i y hy
      simp only at h
      split at h
      · rename_i hf; exact (Wk.rekey (s := s) hy hf).trans (renL_ok h)
      · cases h
    · cases h
def cnt : Nat → List Nat → List Nat
  | _, [] => []
  | n, _ :: l => n :: cnt (n + 1) l
def loc : List Nat → List Nat
  | [] => []
  | k :: ks => match Nat.blt k 1000 with
    | true => k :: loc ks
    | false => loc ks
def selS (sl : Slots) : List Nat → Slots
  | [] => []
  | t :: ts => match lk sl t with
    | some x => (t, some x) :: selS sl ts
    | none => selS sl ts
theorem selS_ok {sl : Slots} : ∀ {ts : List Nat} {t : Nat} {x : AV}, lk (selS sl ts) t = some x → lk sl t = some x
  | [], t, x, h => by cases h
  | t' :: ts, t, x, h => by
    unfold selS at h
    split at h
    · rename_i y hy
      rw [lk_cons] at h
      split at h
      · rename_i e; cases h; rw [e]; exact hy
      · exact selS_ok h
    · exact selS_ok h
def rsT : List ResultVar → List Nat
  | [] => []
  | r :: rs => (match r with
    | .tmp t => t
    | .cell t _ => t) :: rsT rs
def finR (P : Program) [Inhabited (Tys P)] (rs : List ResultVar) (Hk : List Nat) (s : AS) : Option (AV × Hp) := match resL P s rs with
  | some ys => some (resT ys, pkH s (reach s 300 (AV.nms ys ++ Hk) []))
  | none => none
theorem finR_ok {rs : List ResultVar} {Hk : List Nat} {s : AS} {r : AV} {H' : Hp} (h : finR P rs Hk s = some (r, H')) : ∃ xs, ResL P s rs xs ∧ Fin s (resT xs) r H' := by
  unfold finR at h
  split at h
  · rename_i ys hy
    cases h
    exact ⟨ys, resL_ok hy, .keep (fun k z hz => pkH_ok hz)⟩
  · cases h
/-- The end of a function: its result, the blocks that are left. -/
def finS (P : Program) [Inhabited (Tys P)] (av : List Nat) (rs : List ResultVar) (Hk : List Nat) (s : AS) : Option (AV × Hp) := match reach s 300 (AV.nms ((selS s.sl (rsT rs)).filterMap (·.2)) ++ Hk) [] with
  | K => match loc K with
    | [] => finR P rs Hk s
    | k :: ks => match renL 700 (k :: ks) ⟨selS s.sl (rsT rs), pkH s K⟩ with
      | some s2 => match renL (mx 299 av + 1) (cnt 700 (k :: ks)) s2 with
        | some s3 => finR P rs Hk s3
        | none => none
      | none => none
theorem finS_ok {av : List Nat} {rs : List ResultVar} {Hk : List Nat} {s : AS} {r : AV} {H' : Hp} (h : finS P av rs Hk s = some (r, H')) : ∃ s2, Wk s s2 ∧ ∃ xs, ResL P s2 rs xs ∧ Fin s2 (resT xs) r H' := by
  unfold finS at h
  simp only at h
  split at h
  · exact ⟨s, .refl _, finR_ok h⟩
  · split at h
    · rename_i s2 h2
      split at h
      · rename_i s3 h3
        exact ⟨s3, ((wk_less (fun t x => selS_ok) (fun k x => pkH_ok)).trans (renL_ok h2)).trans (renL_ok h3), finR_ok h⟩
      · cases h
    · cases h
def allGe : Hp → Bool
  | [] => true
  | (k, _) :: l => Nat.ble 1000 k && allGe l
theorem allGe_ok : ∀ {H : Hp} {k : Nat} {z : Blk}, allGe H = true → lk H k = some z → 1000 ≤ k
  | [], k, z, _, h => by cases h
  | (k', x) :: l, k, z, h0, h => by
    simp only [allGe, Bool.and_eq_true, Nat.ble_eq] at h0
    rw [lk_cons] at h
    split at h
    · rename_i e; rw [e]; exact h0.1
    · exact allGe_ok h0.2 h
def fnS (E : Env P) (S : Sys) (base : Nat) (av : List Nat) (f : FuncId) (xs : List AV) (H : Hp) : Option (AV × Hp) := match E.fe f with
  | some fe => match Nat.beq fe.f f && allGe H with
    | true => match initF 0 xs with
      | some sl => match S.code fe.fn.ntmps base av fe.c ⟨sl, H⟩ with
        | some (e, s1) => match isEnd e with
          | true => finS P av fe.rs (H.map (·.1)) s1
          | false => none
        | none => none
      | none => none
    | false => none
  | none => none
def ev (E : Env P) (n : Nat) : Sys := Nat.rec ⟨fun _ _ _ _ _ => none, fun _ _ _ _ _ => none⟩ (fun _ S => ⟨codeS E S, fnS E S⟩) n
structure SysOk (P : Program) (S : Sys) : Prop where
  code : ∀ N base av c s e s1, S.code N base av c s = some (e, s1) → AWP P N c (fun e' s' => e' = e ∧ s' = s1) s
  fn : ∀ base av f xs H r H', S.fn base av f xs H = some (r, H') → Con P f xs H r H'
theorem trF_ok {P : Program} {S : Sys} (h : SysOk P S) (base : Nat) : (trF S base).Ok P := by
  intro av f xs H r H' h1
  unfold trF at h1
  simp only at h1
  split at h1
  · rename_i h2; cases h1; exact conT (h.fn _ _ _ _ _ _ _ h2)
  · cases h1
theorem fnS_ok {E : Env P} {S : Sys} (h : SysOk P S) {base : Nat} {av : List Nat} {f : FuncId} {xs : List AV} {H H' : Hp} {r : AV} (h1 : fnS E S base av f xs H = some (r, H')) : Con P f xs H r H' := by
  unfold fnS at h1
  split at h1
  · rename_i fe hfe
    split at h1
    · rename_i hc
      simp only [Bool.and_eq_true] at hc
      have hf := Nat.eq_of_beq_eq_true hc.1
      subst hf
      split at h1
      · rename_i sl hsl
        cases initF_ok hsl
        split at h1
        · rename_i e s1 h2
          split at h1
          · rename_i he
            refine con_of fe.hf fe.hb fe.hn fe.hrs rfl (fun k z hz => allGe_ok hc.2 hz) ?_
            refine awp_postW (h.code _ _ _ _ _ _ _ h2) ?_
            rintro e' s' ⟨he', hs'⟩
            rw [he', hs']
            obtain ⟨s2, hw, hx⟩ := finS_ok h1
            refine ⟨s2, hw, ?_⟩
            cases e <;> first | exact hx | exact (nomatch he)
          · cases h1
        · cases h1
      · cases h1
    · cases h1
  · cases h1
theorem ev_ok (E : Env P) : ∀ n m, m ≤ n → SysOk P (ev E m)
  | 0, m, hm => by
    have : m = 0 := by omega
    subst this
    exact { code := (fun _ _ _ _ _ _ _ h => by cases h), fn := (fun _ _ _ _ _ _ _ h => by cases h) }
  | n + 1, m, hm => by
    by_cases hmn : m ≤ n
    · exact ev_ok E n m hmn
    · have : m = n + 1 := by omega
      subst this
      have ih := ev_ok E n n (Nat.le_refl _)
      refine ⟨?_, fun base av f xs H r H' h => fnS_ok ih h⟩
      intro N base av c s e s1 h
      change codeS E (ev E n) N base av c s = some (e, s1) at h
      cases c with
      | skip => cases h; exact awp_skip ⟨rfl, rfl⟩
      | ret => cases h; exact awp_ret ⟨rfl, rfl⟩
      | exit id => cases h; exact awp_exit ⟨rfl, rfl⟩
      | seq x y =>
        simp only [codeS] at h
        split at h
        · rename_i e1 s2 h1
          refine awp_seq fun K hK => awp_mono (ih.code _ _ _ _ _ _ _ h1) ?_
          rintro e' s' ⟨he, hs⟩
          rw [he, hs]
          split at h
          · rename_i hr
            cases e1 <;> first | exact hK _ (ih.code _ _ _ _ _ _ _ h) | exact (nomatch hr)
          · rename_i hr
            obtain ⟨rfl, rfl⟩ := Prod.mk.inj (Option.some.inj h)
            cases e1 <;> first | exact ⟨rfl, rfl⟩ | exact (nomatch hr)
        · cases h
      | block id c =>
        simp only [codeS] at h
        split at h
        · rename_i e1 s2 h1
          refine awp_block (awp_mono (ih.code _ _ _ _ _ _ _ h1) ?_)
          rintro e' s' ⟨he, hs⟩
          rw [he, hs]
          split at h
          · rename_i id'
            show match Nat.beq id' id with | true => _ | false => _
            split at h
            · rename_i hb
              obtain ⟨rfl, rfl⟩ := Prod.mk.inj (Option.some.inj h)
              simp only []; exact ⟨trivial, trivial⟩
            · rename_i hb
              obtain ⟨rfl, rfl⟩ := Prod.mk.inj (Option.some.inj h)
              simp only []; exact ⟨trivial, trivial⟩
          · rename_i hne
            obtain ⟨rfl, rfl⟩ := Prod.mk.inj (Option.some.inj h)
            cases e1 <;> first | exact ⟨rfl, rfl⟩ | exact absurd rfl (hne _)
        · cases h
      | cond c x y =>
        simp only [codeS] at h
        split at h
        · rename_i b hb
          split at h
          · exact awp_cond (rdC_ok hb) (fun _ => ih.code _ _ _ _ _ _ _ h) (fun e => by cases e)
          · exact awp_cond (rdC_ok hb) (fun e => by cases e) (fun _ => ih.code _ _ _ _ _ _ _ h)
        · cases h
      | loop c =>
        refine awp_loop (fun m s => m ≤ n + 1 ∧ (ev E m).code N base av (.loop c) s = some (e, s1)) (n := n + 1) (.refl _) ⟨Nat.le_refl _, h⟩ ?_
        rintro m s ⟨hm, hI⟩ K hK
        cases m with
        | zero => cases hI
        | succ m =>
          change codeS E (ev E m) N base av (.loop c) s = some (e, s1) at hI
          have ihm := ev_ok E n m (by omega)
          simp only [codeS] at hI
          split at hI
          · rename_i e1 s2 h1
            refine awp_mono (ihm.code _ _ _ _ _ _ _ h1) ?_
            rintro e' s' ⟨he, hs⟩
            rw [he, hs]
            split at hI
            · rename_i hr
              cases e1 <;> first | exact hK _ _ m (wk_dd s2) ⟨by omega, hI⟩ (by omega) | exact (nomatch hr)
            · rename_i hr
              obtain ⟨rfl, rfl⟩ := Prod.mk.inj (Option.some.inj hI)
              cases e1 <;> first | exact ⟨rfl, rfl⟩ | exact (nomatch hr)
          · cases hI
      | region id A d =>
        simp only [codeS] at h
        split at h
        · rename_i hnd
          split at h
          · rename_i s0 h0
            refine awp_weaken (prep_ok h0) ?_
            split at h
            · rename_i s' h1
              obtain ⟨rfl, rfl⟩ := Prod.mk.inj (Option.some.inj h)
              exact regE_ok (trF_ok ih base) (allNd_ok hnd) h1
            · cases h
          · cases h
        · cases h
      | _ => cases h
/-- What the machine finds is a contract. -/
theorem ev_fn (E : Env P) (n : Nat) {base : Nat} {av : List Nat} {f : FuncId} {xs : List AV} {H H' : Hp} {r : AV} (h : (ev E n).fn base av f xs H = some (r, H')) : Con P f xs H r H' :=
  (ev_ok E n n (Nat.le_refl _)).fn _ _ _ _ _ _ _ h
end Go.Lw
namespace Go.Lw
structure Gr where
  kind : Int
  bodies : List Int
  joints : List Int
  driver : Int
instance : Inhabited Gr := ⟨⟨0, [], [], 0⟩⟩
def Gr.av (g : Gr) : AV := .agg [i64 g.kind, .lst 1 (g.bodies.map i64), .lst 1 (g.joints.map i64), i64 g.driver]
/-- Whether a body is marked. -/
def kn (k : List Bool) (i : Int) : Bool := k.getD i.toNat false
def onlyK (n : Nat) (b : Int) : List Bool := (List.replicate n false).set b.toNat true
def drivenB (l : Li) (b : Int) : Bool := l.drivers.any (fun d => decide (d.body = b))
def freeB (l : Li) (known : List Bool) (b : Int) : Bool := !kn known b && !drivenB l b
def jHit (kind body : Int) (oth : List Bool) (j : Jt) : Bool := decide (j.kind = kind) && (decide (j.a = body) && kn oth j.b || decide (j.b = body) && kn oth j.a)
def jointI (l : Li) (kind body : Int) (oth : List Bool) : Int := ixI (firstB l.joints.length (fun i => !jHit kind body oth (l.joints.getD i default)))
def drHit (l : Li) (known : List Bool) (i : Nat) : Bool := !kn known (l.drivers.getD i default).body && decide (0 ≤ jointI l 0 (l.drivers.getD i default).body known)
def driverG (l : Li) (known : List Bool) : Option Gr :=
  (firstB l.drivers.length (fun i => !drHit l known i)).map fun i => ⟨0, [(l.drivers.getD i default).body], [jointI l 0 (l.drivers.getD i default).body known], i⟩
def prHit (l : Li) (known : List Bool) (i k : Nat) : Bool :=
  (freeB l known i && freeB l known k) && (decide (0 ≤ jointI l 0 i known) && decide (0 ≤ jointI l 0 k known) && decide (0 ≤ jointI l 0 i (onlyK l.bodies.length k)))
/-- The first partner behind a body. -/
def prAt (l : Li) (known : List Bool) (i : Nat) : Option Nat := (firstB (l.bodies.length - (i + 1)) (fun k => !prHit l known i (i + 1 + k))).map (· + (i + 1))
def prG (l : Li) (known : List Bool) (i k : Nat) : Gr := ⟨1, [i, k], [jointI l 0 i known, jointI l 0 k known, jointI l 0 i (onlyK l.bodies.length k)], 0⟩
def pairG (l : Li) (known : List Bool) : Option Gr :=
  (firstB l.bodies.length (fun i => (prAt l known i).isNone)).map fun i => match prAt l known i with
    | some k => prG l known i k
    | none => default
def sgHit (l : Li) (known : List Bool) (i : Nat) : Bool := freeB l known i && (decide (0 ≤ jointI l 0 i known) && decide (0 ≤ jointI l 1 i known))
def sgG (l : Li) (known : List Bool) (i : Nat) : Gr :=
  ⟨if (l.joints.getD (jointI l 1 i known).toNat default).a = i then 2 else 3, [i], [jointI l 0 i known, jointI l 1 i known], 0⟩
def singleG (l : Li) (known : List Bool) : Option Gr := (firstB l.bodies.length (fun i => !sgHit l known i)).map (sgG l known)
def nextG (l : Li) (known : List Bool) : Option Gr := (driverG l known).or ((pairG l known).or (singleG l known))
def markAll (known : List Bool) (bs : List Int) : List Bool := bs.foldl (fun k b => k.set b.toNat true) known
def findFrom (l : Li) : Nat → List Bool → List Gr → List Bool × List Gr
  | 0, known, out => (known, out)
  | n + 1, known, out => match nextG l known with
    | none => (known, out)
    | some g => findFrom l n (markAll known g.bodies) (out ++ [g])
def findG (l : Li) : List Gr := (findFrom l l.bodies.length (onlyK l.bodies.length 0) []).2
def restK (l : Li) : List Bool := (findG l).foldl (fun k g => markAll k g.bodies) (onlyK l.bodies.length 0)
def restJ (l : Li) : List Bool := (findG l).foldl (fun k g => markAll k g.joints) (List.replicate l.joints.length false)
def unmarked (k : List Bool) : List Int := ((List.range k.length).filter (fun i => !k.getD i false)).map (fun i : Nat => ((i : Nat) : Int))
def splitE (l : Li) : Nat := if (unmarked (restK l)).length + (unmarked (restJ l)).length = 0 then 0 else 7
def splitG (l : Li) : List Gr := if splitE l = 0 then findG l else []
theorem len_only (n : Nat) (b : Int) : (onlyK n b).length = n := by unfold onlyK; simp
theorem len_mark : ∀ (bs : List Int) (k : List Bool), (markAll k bs).length = k.length
  | [], k => rfl
  | b :: bs, k => by
    show (markAll (k.set b.toNat true) bs).length = _
    rw [len_mark bs]; simp
theorem firstB_some {n i : Nat} {ok : Nat → Bool} (h : firstB n ok = some i) : i < n ∧ ok i = false := by
  unfold firstB at h
  rw [List.find?_range_eq_some] at h
  exact ⟨by simpa using h.2.1, by simpa using h.1⟩
theorem jointI_lt {l : Li} {kind body : Int} {oth : List Bool} : -1 ≤ jointI l kind body oth ∧ jointI l kind body oth < l.joints.length := by
  unfold jointI
  cases h : firstB l.joints.length (fun i => !jHit kind body oth (l.joints.getD i default)) with
  | none => exact ⟨by decide, by show (-1 : Int) < _; omega⟩
  | some i => have := (firstB_some h).1; exact ⟨by show (-1 : Int) ≤ (i : Int); omega, by show (i : Int) < _; omega⟩
/-- The bodies and joints of a group that is found are there. -/
structure GrOk (l : Li) (g : Gr) : Prop where
  b : ∀ x ∈ g.bodies, 0 ≤ x ∧ x < l.bodies.length
  j : ∀ x ∈ g.joints, 0 ≤ x ∧ x < l.joints.length
  lb : g.bodies.length ≤ 2
  lj : g.joints.length ≤ 3
theorem driverG_ok {l : Li} (hl : liE l = 0) {known : List Bool} {g : Gr} (h : driverG l known = some g) : GrOk l g := by
  unfold driverG at h
  rw [Option.map_eq_some_iff] at h
  obtain ⟨i, hi, rfl⟩ := h
  obtain ⟨h1, h2⟩ := firstB_some hi
  obtain ⟨d, hd⟩ := getx h1
  have h3 := inB_t (dr_in hl hd)
  unfold drHit at h2
  simp only [Bool.not_eq_false', Bool.and_eq_true, decide_eq_true_eq] at h2
  rw [getD_of hd] at h2 ⊢
  have h4 := jointI_lt (l := l) (kind := 0) (body := d.body) (oth := known)
  refine ⟨fun x hx => ?_, fun x hx => ?_, by simp, by simp⟩
  · rw [List.mem_singleton.1 hx]; exact h3
  · rw [List.mem_singleton.1 hx]; exact ⟨h2.2, h4.2⟩
theorem pairG_ok {l : Li} {known : List Bool} {g : Gr} (h : pairG l known = some g) : GrOk l g := by
  unfold pairG at h
  rw [Option.map_eq_some_iff] at h
  obtain ⟨i, hi, h⟩ := h
  obtain ⟨h1, h2⟩ := firstB_some hi
  split at h
  · rename_i k hk
    subst h
    unfold prAt at hk
    rw [Option.map_eq_some_iff] at hk
    obtain ⟨k', hk', rfl⟩ := hk
    obtain ⟨h3, h4⟩ := firstB_some hk'
    rw [show i + 1 + k' = k' + (i + 1) by omega] at h4
    unfold prHit at h4
    simp only [Bool.not_eq_false', Bool.and_eq_true, decide_eq_true_eq] at h4
    obtain ⟨_, ⟨j1, j2⟩, j3⟩ := h4
    refine ⟨fun x hx => ?_, fun x hx => ?_, by simp [prG], by simp [prG]⟩
    · simp only [prG, List.mem_cons, List.not_mem_nil, or_false] at hx
      rcases hx with rfl | rfl <;> constructor <;> omega
    · simp only [prG, List.mem_cons, List.not_mem_nil, or_false] at hx
      rcases hx with rfl | rfl | rfl
      · exact ⟨j1, jointI_lt.2⟩
      · exact ⟨j2, jointI_lt.2⟩
      · exact ⟨j3, jointI_lt.2⟩
  · rename_i hk; rw [hk] at h2; cases h2
theorem singleG_ok {l : Li} {known : List Bool} {g : Gr} (h : singleG l known = some g) : GrOk l g := by
  unfold singleG at h
  rw [Option.map_eq_some_iff] at h
  obtain ⟨i, hi, rfl⟩ := h
  obtain ⟨h1, h2⟩ := firstB_some hi
  unfold sgHit at h2
  simp only [Bool.not_eq_false', Bool.and_eq_true, decide_eq_true_eq] at h2
  obtain ⟨_, j1, j2⟩ := h2
  refine ⟨fun x hx => ?_, fun x hx => ?_, by simp [sgG], by simp [sgG]⟩
  · simp only [sgG, List.mem_cons, List.not_mem_nil, or_false] at hx
    subst hx; constructor <;> omega
  · simp only [sgG, List.mem_cons, List.not_mem_nil, or_false] at hx
    rcases hx with rfl | rfl
    · exact ⟨j1, jointI_lt.2⟩
    · exact ⟨j2, jointI_lt.2⟩
theorem nextG_ok {l : Li} (hl : liE l = 0) {known : List Bool} {g : Gr} (h : nextG l known = some g) : GrOk l g := by
  unfold nextG at h
  cases h1 : driverG l known with
  | some g' => rw [h1] at h; cases h; exact driverG_ok hl h1
  | none =>
    rw [h1] at h
    cases h2 : pairG l known with
    | some g' => rw [h2] at h; cases h; exact pairG_ok h2
    | none => rw [h2] at h; exact singleG_ok h
theorem findFrom_ok {l : Li} (hl : liE l = 0) : ∀ (n : Nat) (known : List Bool) (out : List Gr), (∀ g ∈ out, GrOk l g) → (∀ g ∈ (findFrom l n known out).2, GrOk l g) ∧ (findFrom l n known out).2.length ≤ out.length + n
  | 0, known, out, h => ⟨h, by simp [findFrom]⟩
  | n + 1, known, out, h => by
    unfold findFrom
    cases hg : nextG l known with
    | none => exact ⟨h, by simp⟩
    | some g =>
      have h1 := findFrom_ok hl n (markAll known g.bodies) (out ++ [g]) (fun x hx => by
        rcases List.mem_append.1 hx with hx | hx
        · exact h x hx
        · rw [List.mem_singleton.1 hx]; exact nextG_ok hl hg)
      refine ⟨h1.1, ?_⟩
      have := h1.2
      rw [List.length_append] at this
      show (findFrom l n (markAll known g.bodies) (out ++ [g])).2.length ≤ _
      simp only [List.length_cons, List.length_nil] at this
      omega
theorem findG_ok {l : Li} (hl : liE l = 0) : (∀ g ∈ findG l, GrOk l g) ∧ (findG l).length ≤ 8 := by
  have h := findFrom_ok hl l.bodies.length (onlyK l.bodies.length 0) [] (fun g hg => by cases hg)
  have h8 := (li_parts hl).2.2.2.1
  exact ⟨h.1, by have := h.2; simp only [List.length_nil] at this; unfold findG; omega⟩
end Go.Lw
namespace Go.Lw
/-- The other body of a joint. -/
def otherI (j : Jt) (b : Int) : Int := if b = j.a then j.b else if b = j.b then j.a else -1
def gHit (kind body : Int) (p : Int → Bool) (j : Jt) : Bool := decide (j.kind = kind) && (decide (0 ≤ otherI j body) && p (otherI j body))
def gJ (l : Li) (kind body : Int) (p : Int → Bool) : Int := ixI (firstB l.joints.length (fun i => !gHit kind body p (l.joints.getD i default)))
theorem g_in {b : Bool} {z : Int} (h : cond b (icmp .geq z 0) false = true) : 0 ≤ z := by
  cases b
  · cases h
  · exact of_decide_eq_true h
theorem g_cond {a k z : Int} {q : Bool} : cond (cond (icmp .eql a k) (icmp .geq z 0) false) q false = (decide (a = k) && (decide (0 ≤ z) && q)) := by
  rw [int_eqb, show icmp .geq z 0 = decide (0 ≤ z) from rfl, and_cond, and_cond, Bool.and_assoc]
theorem other_lt {l : Li} (hli : liE l = 0) {i : Nat} {j : Jt} (hj : l.joints[i]? = some j) (b : Int) : otherI j b < l.bodies.length := by
  obtain ⟨i1, i2, _⟩ := jt_in hli hj
  have b1 := inB_t i1
  have b2 := inB_t i2
  unfold otherI
  split
  · omega
  · split <;> omega
theorem firstB_congr {n : Nat} {ok ok' : Nat → Bool} (h : ∀ i, i < n → ok i = ok' i) : firstB n ok = firstB n ok' := by
  unfold firstB
  have : ∀ l : List Nat, (∀ i ∈ l, i < n) → l.find? (fun i => !ok i) = l.find? (fun i => !ok' i) := by
    intro l
    induction l with
    | nil => intro _; rfl
    | cons a l ih =>
      intro hl
      simp only [List.find?_cons, h a (hl a (by simp)), ih (fun i hi => hl i (by simp [hi]))]
  exact this _ (fun i hi => List.mem_range.1 hi)
theorem gJ_eq {l : Li} (hli : liE l = 0) {kind body : Int} {p : Int → Bool} {oth : List Bool} (h : ∀ o : Int, 0 ≤ o → o < l.bodies.length → p o = kn oth o) : gJ l kind body p = jointI l kind body oth := by
  unfold gJ jointI
  rw [firstB_congr]
  intro i hi
  obtain ⟨j, hj⟩ := getx hi
  rw [getD_of hj]
  obtain ⟨i1, i2, _⟩ := jt_in hli hj
  have b1 := inB_t i1
  have b2 := inB_t i2
  congr 1
  unfold gHit jHit
  congr 1
  unfold otherI
  by_cases h1 : body = j.a
  · subst h1
    rw [if_pos rfl, h _ b2.1 b2.2]
    by_cases h2 : j.b = j.a
    · simp [h2, b1.1]
    · simp [h2, b2.1]
  · rw [if_neg h1]
    by_cases h2 : body = j.b
    · subst h2
      rw [if_pos rfl, h _ b1.1 b1.2]
      have h3 : ¬ j.a = j.b := fun e => h1 e.symm
      simp [h3, b1.1]
    · rw [if_neg h2]
      have h3 : ¬ j.a = body := fun e => h1 e.symm
      have h4 : ¬ j.b = body := fun e => h2 e.symm
      simp [h3, h4]
/-! ### Marks -/
theorem kn_set {k : List Bool} {i : Nat} {b : Int} (h0 : 0 ≤ b) (hi : i < k.length) : kn (k.set i true) b = (decide (b = i) || kn k b) := by
  unfold kn
  rw [List.getD_eq_getElem?_getD, List.getElem?_set, List.getD_eq_getElem?_getD]
  by_cases h : b = i
  · rw [decide_eq_true h, Bool.true_or, if_pos (by omega)]
    rw [if_pos (by omega)]; rfl
  · rw [decide_eq_false h, Bool.false_or, if_neg (by omega)]
theorem kn_mark : ∀ {bs : List Int} {k : List Bool} {b : Int}, 0 ≤ b → (∀ x ∈ bs, 0 ≤ x ∧ x < k.length) → kn (markAll k bs) b = (bs.any (fun x => decide (x = b)) || kn k b)
  | [], k, b, h0, h => by simp [markAll]
  | x :: bs, k, b, h0, h => by
    show kn (markAll (k.set x.toNat true) bs) b = _
    obtain ⟨hx0, hx1⟩ := h x (by simp)
    rw [kn_mark h0 (fun y hy => by rw [List.length_set]; exact h y (by simp [hy])), kn_set h0 (by omega), List.any_cons]
    have e : decide (b = (x.toNat : Int)) = decide (x = b) := decide_eq_decide.2 (by omega)
    rw [e]
    cases decide (x = b) <;> simp
theorem kn_false (n : Nat) (b : Int) : kn (List.replicate n false) b = false := by
  unfold kn
  rw [List.getD_eq_getElem?_getD, List.getElem?_replicate]
  split <;> rfl
/-- The bodies that drivers turn. -/
def drivenL (l : Li) : List Bool := markAll (List.replicate l.bodies.length false) (l.drivers.map Dr.body)
theorem len_driven (l : Li) : (drivenL l).length = l.bodies.length := by unfold drivenL; rw [len_mark, List.length_replicate]
theorem kn_driven {l : Li} (hli : liE l = 0) {b : Int} (h0 : 0 ≤ b) : kn (drivenL l) b = drivenB l b := by
  unfold drivenL drivenB
  rw [kn_mark h0, kn_false, Bool.or_false, List.any_map]
  · rfl
  · intro x hx
    obtain ⟨d, hd, rfl⟩ := List.mem_map.1 hx
    obtain ⟨i, hi⟩ := List.mem_iff_getElem?.1 hd
    have := inB_t (dr_in hli hi)
    rw [List.length_replicate]; omega
theorem kn_only {n : Nat} {b o : Int} (h0 : 0 ≤ o) (hb0 : 0 ≤ b) (hb : b < n) : kn (onlyK n b) o = decide (o = b) := by
  unfold onlyK
  rw [kn_set h0 (by rw [List.length_replicate]; omega), kn_false, Bool.or_false]
  exact decide_eq_decide.2 (by omega)
/-! ### The end of the search -/
def unk (k : List Bool) : Nat := k.countP (fun x => !x)
theorem unk_set {k : List Bool} {i : Nat} (h : k[i]? = some false) : unk (k.set i true) + 1 = unk k := by
  unfold unk
  have hi := (List.getElem?_eq_some_iff.1 h).1
  have he := (List.getElem?_eq_some_iff.1 h).2
  rw [List.countP_set hi, he]
  have : 0 < k.countP (fun x => !x) := List.countP_pos_iff.2 ⟨false, List.mem_of_getElem? h, rfl⟩
  simp; omega
theorem unk_set_le (k : List Bool) (i : Nat) : unk (k.set i true) ≤ unk k := by
  by_cases hi : i < k.length
  · unfold unk; rw [List.countP_set hi]; simp
  · rw [List.set_eq_of_length_le (by omega)]; exact Nat.le_refl _
theorem unk_mark_le : ∀ (bs : List Int) (k : List Bool), unk (markAll k bs) ≤ unk k
  | [], k => Nat.le_refl _
  | x :: bs, k => Nat.le_trans (unk_mark_le bs (k.set x.toNat true)) (unk_set_le k _)
theorem unk_mark {x : Int} {bs : List Int} {k : List Bool} (h : k[x.toNat]? = some false) : unk (markAll k (x :: bs)) < unk k := by
  have h1 := unk_mark_le bs (k.set x.toNat true)
  have h2 := unk_set h
  show unk (markAll (k.set x.toNat true) bs) < _
  omega
theorem kn_get {k : List Bool} {b : Int} (h : kn k b = false) (h1 : b.toNat < k.length) : k[b.toNat]? = some false := by
  unfold kn at h
  rw [List.getD_eq_getElem?_getD, List.getElem?_eq_getElem h1] at h
  rw [List.getElem?_eq_getElem h1]
  simpa using h
/-- A group that is found has a body that was not known. -/
theorem nextG_new {l : Li} (hl : liE l = 0) {known : List Bool} (hk : known.length = l.bodies.length) {g : Gr} (h : nextG l known = some g) : ∃ x bs, g.bodies = x :: bs ∧ known[x.toNat]? = some false := by
  unfold nextG at h
  cases h1 : driverG l known with
  | some g' =>
    rw [h1] at h; cases h
    unfold driverG at h1
    rw [Option.map_eq_some_iff] at h1
    obtain ⟨i, hi, rfl⟩ := h1
    obtain ⟨h2, h3⟩ := firstB_some hi
    obtain ⟨d, hd⟩ := getx h2
    have h4 := inB_t (dr_in hl hd)
    rw [getD_of hd] at *
    unfold drHit at h3
    rw [getD_of hd] at h3
    simp only [Bool.not_eq_false', Bool.and_eq_true, Bool.not_eq_true', decide_eq_true_eq] at h3
    exact ⟨_, _, rfl, kn_get h3.1 (by omega)⟩
  | none =>
    rw [h1] at h
    cases h2 : pairG l known with
    | some g' =>
      rw [h2] at h; cases h
      unfold pairG at h2
      rw [Option.map_eq_some_iff] at h2
      obtain ⟨i, hi, h2⟩ := h2
      obtain ⟨h3, h4⟩ := firstB_some hi
      split at h2
      · rename_i k hk'
        subst h2
        unfold prAt at hk'
        rw [Option.map_eq_some_iff] at hk'
        obtain ⟨k', hk', rfl⟩ := hk'
        obtain ⟨h5, h6⟩ := firstB_some hk'
        unfold prHit freeB at h6
        simp only [Bool.not_eq_false', Bool.and_eq_true, Bool.not_eq_true', decide_eq_true_eq] at h6
        exact ⟨_, _, rfl, kn_get h6.1.1.1 (by omega)⟩
      · rename_i hk'; rw [hk'] at h4; cases h4
    | none =>
      rw [h2] at h
      have h : singleG l known = some g := h
      unfold singleG at h
      rw [Option.map_eq_some_iff] at h
      obtain ⟨i, hi, rfl⟩ := h
      obtain ⟨h3, h4⟩ := firstB_some hi
      unfold sgHit freeB at h4
      simp only [Bool.not_eq_false', Bool.and_eq_true, Bool.not_eq_true', decide_eq_true_eq] at h4
      exact ⟨_, _, rfl, kn_get h4.1.1 (by omega)⟩
theorem nextG_less {l : Li} (hl : liE l = 0) {known : List Bool} (hk : known.length = l.bodies.length) {g : Gr} (h : nextG l known = some g) : unk (markAll known g.bodies) < unk known := by
  obtain ⟨x, bs, e, h1⟩ := nextG_new hl hk h
  rw [e]; exact unk_mark h1
/-- With steps enough the search has come to its end. -/
theorem findFrom_more {l : Li} (hl : liE l = 0) : ∀ (n m : Nat) (known : List Bool) (out : List Gr), known.length = l.bodies.length → unk known ≤ n → unk known ≤ m → findFrom l n known out = findFrom l m known out
  | 0, 0, known, out, hk, h1, h2 => rfl
  | 0, m + 1, known, out, hk, h1, h2 => by
    unfold findFrom
    cases hg : nextG l known with
    | none => rfl
    | some g => have := nextG_less hl hk hg; omega
  | n + 1, 0, known, out, hk, h1, h2 => by
    unfold findFrom
    cases hg : nextG l known with
    | none => rfl
    | some g => have := nextG_less hl hk hg; omega
  | n + 1, m + 1, known, out, hk, h1, h2 => by
    unfold findFrom
    cases hg : nextG l known with
    | none => rfl
    | some g =>
      have := nextG_less hl hk hg
      exact findFrom_more hl n m _ _ (by rw [len_mark]; exact hk) (by omega) (by omega)
theorem findFrom_known {l : Li} : ∀ (n : Nat) (known : List Bool) (out : List Gr), ∃ gs, findFrom l n known out = (gs.foldl (fun k g => markAll k g.bodies) known, out ++ gs)
  | 0, known, out => ⟨[], by simp [findFrom]⟩
  | n + 1, known, out => by
    unfold findFrom
    cases hg : nextG l known with
    | none => exact ⟨[], by simp⟩
    | some g =>
      obtain ⟨gs, e⟩ := findFrom_known n (markAll known g.bodies) (out ++ [g])
      exact ⟨g :: gs, by show findFrom l n _ _ = _; rw [e]; simp⟩
theorem find_restK (l : Li) : findFrom l l.bodies.length (onlyK l.bodies.length 0) [] = (restK l, findG l) := by
  obtain ⟨gs, e⟩ := findFrom_known (l := l) l.bodies.length (onlyK l.bodies.length 0) []
  unfold restK findG
  rw [e]; simp
theorem unm_zero {k : List Bool} : (unmarked k).length = 0 ↔ k.contains false = false := by
  unfold unmarked
  rw [List.length_map, List.length_eq_zero_iff, List.filter_eq_nil_iff]
  constructor
  · intro h
    rw [← Bool.not_eq_true, List.contains_iff_mem]
    intro hm
    obtain ⟨i, hi⟩ := List.mem_iff_getElem?.1 hm
    have hlt := (List.getElem?_eq_some_iff.1 hi).1
    have := h i (List.mem_range.2 hlt)
    rw [List.getD_eq_getElem?_getD, hi] at this
    simp at this
  · intro h i hi
    rw [← Bool.not_eq_true, List.contains_iff_mem] at h
    intro hc
    have hlt := List.mem_range.1 hi
    rw [List.getD_eq_getElem?_getD, List.getElem?_eq_getElem hlt] at hc
    simp at hc
    exact h (hc ▸ List.getElem_mem hlt)
theorem sub_gr0 : Sub (.agg [.v (.int .i64 0), .v (.slice none 0 0), .v (.slice none 0 0), .v (.int .i64 0)]) (Gr.av default) := .agg (.cons (.refl _) (.cons (.nil _ _ _) (.cons (.nil _ _ _) (.cons (.refl _) .nil)))) rfl
theorem geq_t {z : Int} (h : icmp .geq z 0 = true) : 0 ≤ z := of_decide_eq_true h
theorem geq_f {z : Int} (h : icmp .geq z 0 = false) : ¬ 0 ≤ z := of_decide_eq_false h
theorem three_b {a b c : Int} : cond (cond (icmp .geq a 0) (icmp .geq b 0) false) (icmp .geq c 0) false = (decide (0 ≤ a) && decide (0 ≤ b) && decide (0 ≤ c)) := by
  have e : ∀ z : Int, icmp .geq z 0 = decide (0 ≤ z) := fun z => rfl
  rw [e, e, e, and_cond, and_cond]
theorem two_b {a b : Int} : cond (icmp .lss a 0) true (icmp .lss b 0) = !(decide (0 ≤ a) && decide (0 ≤ b)) := by
  have e : ∀ z : Int, icmp .lss z 0 = !decide (0 ≤ z) := fun z => by rw [← decide_not]; exact decide_eq_decide.2 (by omega)
  rw [e, e, or_cond, Bool.not_and]
theorem two_t {a b : Int} (h : cond (icmp .lss a 0) true (icmp .lss b 0) = true) : (decide (0 ≤ a) && decide (0 ≤ b)) = false := by rw [two_b] at h; exact not_t h
theorem two_f {a b : Int} (h : cond (icmp .lss a 0) true (icmp .lss b 0) = false) : 0 ≤ a ∧ 0 ≤ b := by
  rw [two_b] at h
  have := not_f h
  simpa using this
end Go.Lw
namespace Go.Lw
open Go.Proofs
/-- Behind a linkage's cells the finder's lists. -/
abbrev fdC (l : Li) (known driven : List Bool) (r : List AV) : List AV := l.av.cells ++ (.lst 1 (known.map bl) :: .lst 1 (driven.map bl) :: r)
theorem c_g_other (j : Jt) (b : Int) : FnC Tryz.prog 371 [j.av, i64 b] (i64 (otherI j b)) := by
 refine gF0 Tryz.func371 ?_
 refine gC (fun ht6 => ?_) (fun ht6 => ?_)
 ·have h1 : b = j.a := eql_t ht6
  refine gE1 ?_
  unfold otherI; rw [if_pos h1]
 ·have h1 : b ≠ j.a := eql_f ht6
  refine gC (fun ht12 => ?_) (fun ht12 => ?_)
  ·have h2 : b = j.b := eql_t ht12
   refine gE1 ?_
   unfold otherI; rw [if_neg h1, if_pos h2]
  ·have h2 : b ≠ j.b := eql_f ht12
   refine gE1 ?_
   unfold otherI; rw [if_neg h1, if_neg h2]; rfl
theorem c_g_joint1 (j : Jt) (kind body : Int) (f : FuncId) (pre caps : List AV) (p : Int → Bool) (hp : 0 ≤ otherI j body → FnC Tryz.prog f (pre ++ [i64 (otherI j body)] ++ caps) (bl (p (otherI j body)))) :
  FnC Tryz.prog 370 [j.av, .iptr [i64 body], .iptr [i64 kind], .iptr [.cl f pre caps]] (bl (gHit kind body p j)) := by
 refine gF0 Tryz.func370 ?_
 refine gc (c_g_other j body) ?_
 refine gcG (fun h => (hp (g_in h))) ?_
 refine gE1 ?_
 exact congrArg bl g_cond
theorem c_indexFunc_Joint (bs : List Jt) (hl : bs.length ≤ 281474976710656) (f : FuncId) (pre caps : List AV) (ok : Nat → Bool)
  (hf : ∀ (i : Nat) (b : Jt), bs[i]? = some b → (∀ j, j < i → ok j = true) → FnC Tryz.prog f (pre ++ [b.av] ++ caps) (bl (!ok i))) :
  FnC Tryz.prog 369 [.lst 7 (bs.map Jt.av), .cl f pre caps] (i64 (ixI (firstB bs.length ok))) := by
 refine gF0 Tryz.func369 ?_
 refine gl ?_
 refine gL1 [0, 1, 7] [] (fun (i : Nat) => [(8, some (i64 i))]) (fun _ => []) (fun i => i ≤ bs.length ∧ ∀ j, j < i → ok j = true) (fun i => bs.length - i) 0 ⟨Nat.zero_le _, fun j h => by omega⟩ ?_
 rintro i ⟨hi, hj⟩ K1 hK1
 refine gC (fun ht9 => ?_) (fun ht9 => ?_)
 ·have hin := lss_t ht9
  obtain ⟨b, hb⟩ := getx hin
  refine gi (getmap hb) ?_
  refine gc (hf i b hb hj) ?_
  refine gC (fun ht16 => ?_) (fun ht16 => ?_)
  ·have h2 := not_t ht16
   refine gE1 ?_
   rw [firstB_at hin hj h2]; rfl
  ·have h2 := not_f ht16
   refine ga (i64_add1 (by unfold maxL; omega)) ?_
   exact gK1 hK1 (i + 1) ⟨hin, fun j h9 => by rcases Nat.lt_or_ge j i with g | g; exact hj j g; (have : j = i := by omega); subst this; exact h2⟩
 ·have hin := lss_end hi ht9
  subst hin
  refine gE1 ?_
  rw [firstB_all hj]; rfl
theorem c_g_joint (l : Li) (hl : l.ok) (hli : liE l = 0) (Fd : List AV) (kind body : Int) (f : FuncId) (pre caps : List AV) (p : Int → Bool)
  (hp : ∀ o : Int, 0 ≤ o → o < l.bodies.length → FnC Tryz.prog f (pre ++ [i64 o] ++ caps) (bl (p o))) :
  FnC Tryz.prog 342 [.iptr (l.av.cells ++ Fd), i64 kind, i64 body, .cl f pre caps] (i64 (gJ l kind body p)) := by
 refine gF0 Tryz.func342 ?_ (1, 0)
 refine gW ((Wk.freezeB (k := 7) rfl rfl).trans <| (Wk.freezeB (k := 5) rfl rfl).trans <| (Wk.freezeB (k := 6) rfl rfl).trans <| Wk.o (sl := [(0, some (.iptr (l.av.cells ++ Fd))), (5, some (.iptr [i64 kind])), (6, some (.iptr [i64 body])), (7, some (.iptr [.cl f pre caps]))]) (hp := [])) ?_
 refine gc (Con.subA (.cons (.refl _) (.cons (sub_cl rfl) .nil)) (c_indexFunc_Joint l.joints hl.lj 370 [] [.iptr [i64 body], .iptr [i64 kind], .iptr [.cl f pre caps]] (fun i => !gHit kind body p (l.joints.getD i default)) (fun i b hb hj => by rw [Bool.not_not, getD_of hb]; exact c_g_joint1 b kind body f pre caps p (fun h => hp _ h (other_lt hli hb body))))) ?_
 refine gE1 ?_
 rfl
theorem c_g_isKnown (l : Li) (known driven : List Bool) (r : List AV) (b : Int) (h0 : 0 ≤ b) (h1 : b < known.length) : FnC Tryz.prog 367 [.iptr (fdC l known driven r), i64 b] (bl (kn known b)) := by
 obtain ⟨v, hv⟩ : ∃ v, known[b.toNat]? = some v := getx (by omega)
 have ev : kn known b = v := getD_of hv
 refine gF0 Tryz.func367 ?_
 refine gi (getzx (n := b.toNat) (by omega) hv) ?_
 refine gE1 ?_
 rw [ev]
theorem c_g_anchored (l : Li) (hl : l.ok) (hli : liE l = 0) (known driven : List Bool) (hk : known.length = l.bodies.length) (r : List AV) (kind body : Int) :
  FnC Tryz.prog 340 [.iptr (fdC l known driven r), i64 kind, i64 body] (i64 (gJ l kind body (kn known))) := by
 refine gF0 Tryz.func340 ?_
 refine gc (c_g_joint l hl hli _ kind body 367 [.iptr (fdC l known driven r)] [] (kn known) (fun o h0 h1 => c_g_isKnown l known driven r o h0 (by omega))) ?_
 refine gE1 ?_
 rfl
theorem c_g_pair1 (o j : Int) : FnC Tryz.prog 343 [i64 o, .iptr [i64 j]] (bl (decide (o = j))) := by
 refine gF0 Tryz.func343 ?_
 refine gE1 ?_
 exact congrArg bl int_eqb
theorem c_g_free (l : Li) (known driven : List Bool) (hd : driven.length = known.length) (r : List AV) (b : Int) (h0 : 0 ≤ b) (h1 : b < known.length) :
  FnC Tryz.prog 344 [.iptr (fdC l known driven r), i64 b] (bl (!kn known b && !kn driven b)) := by
 obtain ⟨v, hv⟩ : ∃ v, known[b.toNat]? = some v := getx (by omega)
 have ev : kn known b = v := getD_of hv
 obtain ⟨u, hu⟩ : ∃ u, driven[b.toNat]? = some u := getx (by omega)
 have eu : kn driven b = u := getD_of hu
 refine gF0 Tryz.func344 ?_
 refine gi (getzx (n := b.toNat) (by omega) hv) ?_
 refine giG (fun _ => (getzx (n := b.toNat) (by omega) hu)) ?_
 refine gE1 ?_
 rw [ev, eu]; exact congrArg bl (and_cond _ _)
end Go.Lw
namespace Go.Lw
open Go.Proofs
theorem c_g_driver (l : Li) (hl : l.ok) (hli : liE l = 0) (known driven : List Bool) (hk : known.length = l.bodies.length) (r : List AV) :
  FnC Tryz.prog 282 [.iptr (fdC l known driven r)] (.tup [((driverG l known).getD default).av, bl (driverG l known).isSome]) := by
 have hld := hl.ld
 refine gF0 Tryz.func282 ?_
 refine gl ?_
 refine gL1 [0, 2, 11, 12] [2] (fun (i : Nat) => [(13, some (i64 i))]) (fun _ => []) (fun i => i ≤ l.drivers.length ∧ ∀ j, j < i → (!drHit l known j) = true) (fun i => l.drivers.length - i) 0 ⟨Nat.zero_le _, fun j h => by omega⟩ ?_
 rintro i ⟨hi, hj⟩ K1 hK1
 refine gC (fun ht14 => ?_) (fun ht14 => ?_)
 ·have hin := lss_t ht14
  obtain ⟨d, hd⟩ := getx hin
  have hdd : l.drivers.getD i default = d := getD_of hd
  have hb := inB_t (dr_in hli hd)
  obtain ⟨v, hv⟩ : ∃ v, known[d.body.toNat]? = some v := getx (by omega)
  have ev : kn known d.body = v := getD_of hv
  have ej : gJ l 0 d.body (kn known) = jointI l 0 d.body known := gJ_eq hli (fun o _ _ => rfl)
  refine gi (getmap hd) ?_
  refine gi (getzx (n := d.body.toNat) (by omega) hv) ?_
  refine gD ?_
  refine gC (fun ht25 => ?_) (fun ht25 => ?_)
  ·have h2 : drHit l known i = false := by unfold drHit; rw [hdd, ev, ht25]; rfl
   refine ga (i64_add1 (by unfold maxL; omega)) ?_
   exact gK1 hK1 (i + 1) ⟨hin, fun k h9 => by rcases Nat.lt_or_ge k i with g | g; exact hj k g; (have : k = i := by omega); subst this; rw [h2]; rfl⟩
  ·have hv0 : v = false := ht25
   refine gc (show FnC _ _ _ (i64 (jointI l 0 d.body known)) by rw [← ej]; exact c_g_anchored l hl hli known driven hk r 0 d.body) ?_
   refine gC (fun ht31 => ?_) (fun ht31 => ?_)
   ·have h2 : drHit l known i = true := by unfold drHit; rw [hdd, ev, hv0, decide_eq_true (geq_t ht31)]; rfl
    have hg : driverG l known = some ⟨0, [d.body], [jointI l 0 d.body known], i⟩ := by unfold driverG; rw [firstB_at hin hj (by rw [h2]; rfl), ← hdd]; rfl
    refine gE2 ?_
    rw [hg]; rfl
   ·have h2 : drHit l known i = false := by unfold drHit; rw [hdd, decide_eq_false (geq_f ht31), Bool.and_false]
    refine ga (i64_add1 (by unfold maxL; omega)) ?_
    exact gK1 hK1 (i + 1) ⟨hin, fun k h9 => by rcases Nat.lt_or_ge k i with g | g; exact hj k g; (have : k = i := by omega); subst this; rw [h2]; rfl⟩
 ·have hin := lss_end hi ht14
  subst hin
  have hg : driverG l known = none := by unfold driverG; rw [firstB_all hj]; rfl
  refine gR ?_
  exact Fin.sub Fin.pure (by rw [hg]; exact Sub.tup (.cons sub_gr0 (.cons (.refl _) .nil)))
theorem g_free (l : Li) (hli : liE l = 0) (known : List Bool) (hk : known.length = l.bodies.length) (r : List AV) (b : Nat) (h1 : b < l.bodies.length) :
  FnC Tryz.prog 344 [.iptr (fdC l known (drivenL l) r), i64 b] (bl (freeB l known b)) := by
 have h := c_g_free l known (drivenL l) (by rw [len_driven, hk]) r b (by omega) (by omega)
 rw [kn_driven hli (by omega)] at h
 exact h
theorem g_anch (l : Li) (hl : l.ok) (hli : liE l = 0) (known : List Bool) (hk : known.length = l.bodies.length) (r : List AV) (kind body : Int) :
  FnC Tryz.prog 340 [.iptr (fdC l known (drivenL l) r), i64 kind, i64 body] (i64 (jointI l kind body known)) := by
 have h := c_g_anchored l hl hli known (drivenL l) hk r kind body
 rw [gJ_eq hli (fun o _ _ => rfl)] at h
 exact h
theorem c_g_single (l : Li) (hl : l.ok) (hli : liE l = 0) (known : List Bool) (hk : known.length = l.bodies.length) (r : List AV) :
  FnC Tryz.prog 284 [.iptr (fdC l known (drivenL l) r)] (.tup [((singleG l known).getD default).av, bl (singleG l known).isSome]) := by
 have h8 := (li_parts hli).2.2.2.1
 refine gF0 Tryz.func284 ?_
 refine gl ?_
 refine gL1 [0, 2, 12, 13] [2] (fun (i : Nat) => [(14, some (i64 i))]) (fun _ => []) (fun i => i ≤ l.bodies.length ∧ ∀ j, j < i → (!sgHit l known j) = true) (fun i => l.bodies.length - i) 0 ⟨Nat.zero_le _, fun j h => by omega⟩ ?_
 rintro i ⟨hi, hj⟩ K1 hK1
 refine gC (fun ht15 => ?_) (fun ht15 => ?_)
 ·have hin := lss_t ht15
  refine gc (g_free l hli known hk r i hin) ?_
  refine gC (fun ht20 => ?_) (fun ht20 => ?_)
  ·have h2 : sgHit l known i = false := by unfold sgHit; rw [not_t ht20]; rfl
   refine ga (i64_add1 (by unfold maxL; omega)) ?_
   exact gK1 hK1 (i + 1) ⟨hin, fun k h9 => by rcases Nat.lt_or_ge k i with g | g; exact hj k g; (have : k = i := by omega); subst this; rw [h2]; rfl⟩
  ·have hf := not_f ht20
   refine gc (g_anch l hl hli known hk r 0 i) ?_
   refine gc (g_anch l hl hli known hk r 1 i) ?_
   refine gC (fun ht32 => ?_) (fun ht32 => ?_)
   ·have h2 : sgHit l known i = false := by unfold sgHit; rw [two_t ht32, Bool.and_false]
    refine ga (i64_add1 (by unfold maxL; omega)) ?_
    exact gK1 hK1 (i + 1) ⟨hin, fun k h9 => by rcases Nat.lt_or_ge k i with g | g; exact hj k g; (have : k = i := by omega); subst this; rw [h2]; rfl⟩
   ·obtain ⟨p0, s0⟩ := two_f ht32
    have s1 := (jointI_lt (l := l) (kind := 1) (body := i) (oth := known)).2
    have h2 : sgHit l known i = true := by unfold sgHit; rw [hf, decide_eq_true p0, decide_eq_true s0]; rfl
    obtain ⟨j, hjt⟩ : ∃ j, l.joints[(jointI l 1 i known).toNat]? = some j := getx (by omega)
    have hjd : l.joints.getD (jointI l 1 i known).toNat default = j := getD_of hjt
    have hg : singleG l known = some (sgG l known i) := by unfold singleG; rw [firstB_at hin hj (by rw [h2]; rfl), Option.map_some]
    refine gi (getzx (n := (jointI l 1 i known).toNat) (by omega) hjt) ?_
    refine gC (fun ht43 => ?_) (fun ht43 => ?_)
    ·have hji : j.a = i := eql_t ht43
     refine gE2 ?_
     rw [hg]; unfold sgG; rw [hjd]; simp only [Option.getD_some, if_pos hji]; rfl
    ·have hji : j.a ≠ i := eql_f ht43
     refine gE2 ?_
     rw [hg]; unfold sgG; rw [hjd]; simp only [Option.getD_some, if_neg hji]; rfl
 ·have hin := lss_end hi ht15
  subst hin
  have hg : singleG l known = none := by unfold singleG; rw [firstB_all hj]; rfl
  refine gR ?_
  exact Fin.sub Fin.pure (by rw [hg]; exact Sub.tup (.cons sub_gr0 (.cons (.refl _) .nil)))
theorem c_g_pairs (Fd : List AV) : FnC Tryz.prog 341 [.iptr Fd] (.fn 368 [.iptr [.iptr Fd]]) := by
 refine gF0 Tryz.func341 ?_ (1, 0)
 refine gW ((Wk.freezeB (k := 1) rfl rfl).trans <| Wk.o (sl := [(1, some (.iptr [.iptr Fd]))]) (hp := [])) ?_
 refine gE1 ?_
 rfl
end Go.Lw
namespace Go.Lw
open Go.Proofs
/-- The range over a function that a code holds. -/
def rgOf : Code → Option (Array Tmp × Code × Code)
  | .rangeFunc _ ps x y => some (ps, x, y)
  | .seq a b => match rgOf a with
    | some r => some r
    | none => rgOf b
  | .block _ c => rgOf c
  | _ => none
def rgD (n : Nat) (o : Option Code) : LpD := match o with
  | some c => match rgOf c with
    | some (ps, x, y) => ⟨ps, x, y, n⟩
    | none => ⟨#[], .skip, .skip, 0⟩
  | none => ⟨#[], .skip, .skip, 0⟩
def pb0 (D : LpD) (Fd : List AV) (h : Bool) : Blk := .loop D (match h with | true => .done | false => .ready) (match h with | true => some .ret | false => none) [(1, some (.iptr [.iptr Fd])), (2, some (.ptr 1001 0)), (3, some (.ptr 1002 0))]
def pb1 (g : Gr) : Blk := .box [i64 g.kind, .lst 1 (g.bodies.map i64), .lst 1 (g.joints.map i64), i64 g.driver]
def pb2 (h : Bool) : Blk := .box [bl h]
/-- What pair's loop owns: its record, the group, whether there is one. -/
def pairH (D : LpD) (Fd : List AV) (h : Bool) (g : Gr) : Hp := [(1000, some (pb0 D Fd h)), (1001, some (pb1 g)), (1002, some (pb2 h))]
theorem lkPair {D : LpD} {Fd : List AV} {h : Bool} {g : Gr} {k : Nat} {z : Blk} (hz : lk (pairH D Fd h g) k = some z) : 1000 ≤ k := by
 unfold pairH at hz
 simp only [lk_cons] at hz
 split at hz
 ·omega
 ·split at hz
  ·omega
  ·split at hz
   ·omega
   ·cases hz
theorem hno_pair {D : LpD} {Fd : List AV} {s : AS} (hs : ∀ k z, lk (pairH D Fd false default) k = some z → s.blk k = some z) :
  ∀ k ∈ (pairH D Fd false default ++ dead (pairH D Fd false default)).map (·.1), k ∈ (pairH D Fd false default).map (·.1) ∧ lk (pairH D Fd false default ++ dead (pairH D Fd false default)) k = s.blk k := by
 intro k hk
 have hk' : k = 1000 ∨ k = 1001 ∨ k = 1002 := by
  simp [pairH, dead] at hk
  omega
 rcases hk' with rfl | rfl | rfl
 ·exact ⟨by simp [pairH], (hs _ _ rfl).symm⟩
 ·exact ⟨by simp [pairH], (hs _ _ rfl).symm⟩
 ·exact ⟨by simp [pairH], (hs _ _ rfl).symm⟩
/-- A pair is a hit only if both bodies are free. -/
theorem pr_free {l : Li} {known : List Bool} {i k : Nat} (h : cond (freeB l known i) (freeB l known k) false = false) : prHit l known i k = false := by
 rw [and_cond] at h
 unfold prHit
 rw [h]; rfl
theorem keepP {H R : Hp} {k : Nat} {z : Blk} (h : lk H k = some z) : lk (H ++ R) k = some z := by rw [lk_append, if_pos (mem_keys_of_lk h)]; exact h
theorem fr1 {a b : Bool} (h : cond a b false = true) : a = true := by cases a <;> simp_all
theorem fr2 {a b : Bool} (h : cond a b false = true) : b = true := by cases a <;> simp_all
theorem c_g_pairs1 (D : LpD) (l : Li) (hl : l.ok) (hli : liE l = 0) (known : List Bool) (hk : known.length = l.bodies.length) (r : List AV)
  (hy : ∀ i k : Nat, i < k → k < l.bodies.length → freeB l known i = true → freeB l known k = true →
   YCon Tryz.prog 1000 [i64 i, i64 k] (pairH D (fdC l known (drivenL l) r) false default) (bl (!prHit l known i k)) (pairH D (fdC l known (drivenL l) r) (prHit l known i k) (cond (prHit l known i k) (prG l known i k) default))) :
  Con Tryz.prog 368 [.yl 1000, .iptr [.iptr (fdC l known (drivenL l) r)]] (pairH D (fdC l known (drivenL l) r) false default) (.tup []) (pairH D (fdC l known (drivenL l) r) (pairG l known).isSome ((pairG l known).getD default)) := by
 have h8 := (li_parts hli).2.2.2.1
 refine gF Tryz.func368 (fun k z h => lkPair h) ?_
 refine gl ?_
 refine gL1 [0, 1, 10] [1000, 1001, 1002] (fun (i : Nat) => [(11, some (i64 i))]) (fun _ => []) (fun i => i ≤ l.bodies.length ∧ ∀ j, j < i → (prAt l known j).isNone = true) (fun i => l.bodies.length - i) 0 ⟨Nat.zero_le _, fun j h => by omega⟩ ?_
 rintro i ⟨hi, hj⟩ K1 hK1
 refine gC (fun ht12 => ?_) (fun ht12 => ?_)
 ·have hin := lss_t ht12
  refine ga (i64_add1 (by unfold maxL; omega)) ?_
  refine gL1 [0, 1, 3, 10, 11] [] (fun (k : Nat) => [(4, some (i64 (i + 1 + k : Nat)))]) (fun _ => [(1000, some (pb0 D (fdC l known (drivenL l) r) false)), (1001, some (pb1 default)), (1002, some (pb2 false))]) (fun k => i + 1 + k ≤ l.bodies.length ∧ ∀ j, j < k → (!prHit l known i (i + 1 + j)) = true) (fun k => l.bodies.length - k) 0 ⟨by omega, fun j h => by omega⟩ ?_
  rintro k ⟨hkl, hkj⟩ K2 hK2
  refine gl ?_
  refine gC (fun ht23 => ?_) (fun ht23 => ?_)
  ·have hkn : i + 1 + k < l.bodies.length := lss_t ht23
   refine gc (g_free l hli known hk r i hin) ?_
   refine gcG (fun _ => (g_free l hli known hk r (i + 1 + k) hkn)) ?_
   refine gs (s_guardH rfl rfl rfl (by intro hb; have h0 : prHit l known i (i + 1 + k) = false := pr_free (by simpa using hb); simp only [h0, cond_false]; exact hno_pair (by intro k z h; exact h)) (fun hb => s_yield (k := 1000) (.opt rfl (by rw [hb]; rfl)) (hy i (i + 1 + k) (by omega) hkn (fr1 hb) (fr2 hb)) (.cons (.opt rfl (by rw [hb]; rfl)) (.cons (.opt rfl (by rw [hb]; rfl)) .nil)) (by intro k z h; exact h) rfl rfl)) ?_
   refine gC (fun ht40 => ?_) (fun ht40 => ?_)
   ·have h2 : prHit l known i (i + 1 + k) = true := by have h9 := fr2 ht40; rw [Bool.not_not] at h9; exact h9
    have hat : prAt l known i = some (i + 1 + k) := by unfold prAt; rw [firstB_at (by omega) hkj (by rw [h2]; rfl), Option.map_some]; congr 1; omega
    have hg : pairG l known = some (prG l known i (i + 1 + k)) := by unfold pairG; rw [firstB_at hin hj (by rw [hat]; rfl), Option.map_some, hat]
    refine gR ?_
    simp only [hg, h2, Option.isSome_some, Option.getD_some, cond_true]
    exact Fin.keep (fun k z h => keepP h)
   ·have h2 : prHit l known i (i + 1 + k) = false := by cases hc : cond (freeB l known i) (freeB l known ((i + 1 + k : Nat) : Int)) false with | false => exact pr_free hc | true => rw [hc, Bool.not_not] at ht40; exact ht40
    refine ga (i64_add1 (by unfold maxL; omega)) ?_
    exact gK1 hK2 (k + 1) ⟨by omega, fun j h9 => by rcases Nat.lt_or_ge j k with g | g; exact hkj j g; (have : j = k := by omega); subst this; rw [h2]; rfl⟩ (hw := Wk.of (by repeat (first | exact SlW.nil | refine SlW.k ?_)) (.cons rfl (BlkSub.of (by rw [h2])) (.cons rfl (BlkSub.of (by rw [h2]; rfl)) (.cons rfl (BlkSub.of (by rw [h2])) .nil))))
  ·have hkn : ¬ i + 1 + k < l.bodies.length := fun h => by have h1 := lss_f ht23; omega
   have hat : prAt l known i = none := by unfold prAt; rw [show l.bodies.length - (i + 1) = k by omega, firstB_all hkj]; rfl
   refine ga (i64_add1 (by unfold maxL; omega)) ?_
   exact gK1 hK1 (i + 1) ⟨hin, fun j h9 => by rcases Nat.lt_or_ge j i with g | g; exact hj j g; (have : j = i := by omega); subst this; rw [hat]; rfl⟩
 ·have hin := lss_end hi ht12
  have hg : pairG l known = none := by unfold pairG; rw [← hin, firstB_all hj]; rfl
  refine gR ?_
  simp only [hg, Option.isSome_none, Option.getD_none]
  exact Fin.keep (fun k z h => h)
end Go.Lw
namespace Go.Lw
open Go.Proofs
theorem gZ {P : Program} {N : Nat} {Q : Exit → AS → Prop} {c : Code} {s : AS} (h : Gd P N Q (.code c [] s)) : AWP P N c Q s := h
theorem awp0_weaken {P : Program} {N : Nat} {Q : Exit → AS → Prop} {c : Code} {s s' : AS} (hw : Wk s s') (h : AWP0 P N c Q s') : AWP0 P N c Q s := by
 intro C m a w n hro hN hr
 obtain ⟨m', hr'⟩ := hw C m a w hr
 exact h C m' a w n hro hN hr'
/-- The keys of pair's blocks, for the iterator and for itself. -/
def swp (k : Nat) : Nat := bif Nat.beq k 1000 then 900 else bif Nat.beq k 900 then 1000 else bif Nat.beq k 1001 then 2 else bif Nat.beq k 2 then 1001 else bif Nat.beq k 1002 then 3 else bif Nat.beq k 3 then 1002 else k
theorem nb {a b : Nat} (h : ¬ a = b) : Nat.beq a b = false := by
 cases h1 : Nat.beq a b
 ·rfl
 ·exact absurd (Nat.eq_of_beq_eq_true h1) h
theorem swp_swp (k : Nat) : swp (swp k) = k := by
 by_cases h1 : k = 1000
 ·subst h1; rfl
 by_cases h2 : k = 900
 ·subst h2; rfl
 by_cases h3 : k = 1001
 ·subst h3; rfl
 by_cases h4 : k = 2
 ·subst h4; rfl
 by_cases h5 : k = 1002
 ·subst h5; rfl
 by_cases h6 : k = 3
 ·subst h6; rfl
 have e : swp k = k := by simp only [swp, nb h1, nb h2, nb h3, nb h4, nb h5, nb h6, cond_false]
 rw [e, e]
theorem c_g_pair (l : Li) (hl : l.ok) (hli : liE l = 0) (known : List Bool) (hk : known.length = l.bodies.length) (r : List AV) :
  FnC Tryz.prog 283 [.iptr (fdC l known (drivenL l) r)] (.tup [((pairG l known).getD default).av, bl (pairG l known).isSome]) := by
 refine con_ofR (rs := Tryz.f283.results.toList) Tryz.func283 rfl rfl (by simp) rfl (fun k z h => by cases h) ?_
 refine awp0_seq (gZ (go ?_))
 refine awp0_weaken (s' := ⟨[(1, some (.iptr [.iptr (fdC l known (drivenL l) r)])), (2, some (.ptr 2 0)), (3, some (.ptr 3 0))], [(2, some (pb1 default)), (3, some (pb2 false))]⟩) ((Wk.freezeB (k := 1) rfl rfl).trans (Wk.of (.cons rfl (.refl _) (.cons rfl (.refl _) (.cons rfl (.refl _) .nil))) (.cons rfl (BlkSub.boxL (.cons (.refl _) (.cons (.nil _ _ _) (.cons (.nil _ _ _) (.cons (.refl _) .nil)))) rfl) (.cons rfl (.refl _) .nil)))) ?_
 refine awp0_seq0 ?_
 refine awp0_seq (gZ (go ?_))
 refine gc (c_g_pairs (fdC l known (drivenL l) r)) ?_
 refine awp0_block ?_
 have hy : ∀ i k : Nat, i < k → k < l.bodies.length → freeB l known i = true → freeB l known k = true →
   YCon Tryz.prog 1000 [i64 i, i64 k] (pairH (rgD Tryz.f283.ntmps Tryz.f283.body) (fdC l known (drivenL l) r) false default) (bl (!prHit l known i k)) (pairH (rgD Tryz.f283.ntmps Tryz.f283.body) (fdC l known (drivenL l) r) (prHit l known i k) (cond (prHit l known i k) (prG l known i k) default)) := by
  intro i k hik hkn hfi hfk
  refine ycon_of (k := 1000) (fun k z h => lkPair h) rfl rfl (by intro p hp; have h9 : p ∈ [11, 12] := hp; have h8 : p = 11 ∨ p = 12 := (by simpa using h9); show p < 42; rcases h8 with h7 | h7 <;> (rw [h7]; decide)) ?_
  refine gZ (go ?_)
  refine ⟨rfl, _, _, rfl, ?_⟩
  have hJ : gJ l 0 i (fun o => decide (o = (k : Int))) = jointI l 0 i (onlyK l.bodies.length k) := gJ_eq hli (fun o h0 h1 => (kn_only h0 (by omega) (by omega)).symm)
  refine gZ (go ?_)
  refine gc (g_anch l hl hli known hk r 0 i) ?_
  refine gc (g_anch l hl hli known hk r 0 k) ?_
  refine gD ?_ (5, 0)
  refine gW (Wk.freezeB (k := 5) rfl rfl) ?_
  refine gc (r := i64 (jointI l 0 i (onlyK l.bodies.length k))) (by rw [← hJ]; exact Con.subA (.cons (.refl _) (.cons (.refl _) (.cons (.refl _) (.cons (sub_cl rfl) .nil)))) (c_g_joint l hl hli _ 0 i 343 [] [.iptr [i64 k]] (fun o => decide (o = (k : Int))) (fun o h0 h1 => c_g_pair1 o k))) ?_
  refine gC (fun ht => ?_) (fun ht => ?_)
  ·have h2 : prHit l known i k = true := by unfold prHit; rw [hfi, hfk]; exact (three_b.symm.trans ht)
   rw [h2]
   exact ⟨_, _, rfl, Fin.keep (by intro q z h; simp only [pairH, lk_cons] at h; split at h; (subst_vars; exact h); split at h; (subst_vars; exact h); split at h; (subst_vars; exact h); cases h)⟩
  ·have h2 : prHit l known i k = false := by unfold prHit; rw [hfi, hfk]; exact (three_b.symm.trans ht)
   rw [h2]
   exact ⟨_, _, rfl, Fin.keep (by intro q z h; simp only [pairH, lk_cons] at h; split at h; (subst_vars; exact h); split at h; (subst_vars; exact h); split at h; (subst_vars; exact h); cases h)⟩
 have hcon := Con.pm swp_swp (c_g_pairs1 _ l hl hli known hk r hy)
 cases hg : pairG l known with
 | none =>
  rw [hg] at hcon
  refine awp0_range (k := 900) (sl0 := [(1, some (.iptr [.iptr (fdC l known (drivenL l) r)])), (2, some (.ptr 2 0)), (3, some (.ptr 3 0))]) (.tmp rfl) (by intro t x h; simp only [lk_cons] at h; split at h; (subst_vars; exact h); split at h; (subst_vars; exact h); split at h; (subst_vars; exact h); cases h) rfl rfl hcon (fun k' z h => h) rfl rfl rfl rfl (by intro h; cases h) (.inl ⟨rfl, ?_⟩)
  refine awp0_seq (gZ (go ?_))
  refine AWP.out (gZ (go ?_))
  refine gR ?_
  exact Fin.sub Fin.pure (Sub.tup (.cons sub_gr0 (.cons (.refl _) .nil)))
 | some g =>
  rw [hg] at hcon
  refine awp0_range (k := 900) (sl0 := [(1, some (.iptr [.iptr (fdC l known (drivenL l) r)])), (2, some (.ptr 2 0)), (3, some (.ptr 3 0))]) (.tmp rfl) (by intro t x h; simp only [lk_cons] at h; split at h; (subst_vars; exact h); split at h; (subst_vars; exact h); split at h; (subst_vars; exact h); cases h) rfl rfl hcon (fun k' z h => h) rfl rfl rfl rfl (by intro h; cases h) (.inr ⟨rfl, ?_⟩)
  exact (gE2 (P := Tryz.prog) (N := Tryz.f283.ntmps) (e := .ret) rfl)
end Go.Lw
namespace Go.Lw
open Go.Proofs
theorem some_of {α : Type} {o : Option α} (h : o.isSome = true) : ∃ x, o = some x := by cases o <;> simp_all
theorem none_of {α : Type} {o : Option α} (h : o.isSome = false) : o = none := by cases o <;> simp_all
theorem c_g_next (l : Li) (hl : l.ok) (hli : liE l = 0) (known : List Bool) (hk : known.length = l.bodies.length) (r : List AV) :
  FnC Tryz.prog 207 [.iptr (fdC l known (drivenL l) r)] (.tup [((nextG l known).getD default).av, bl (nextG l known).isSome]) := by
 refine gF0 Tryz.func207 ?_
 refine gc (c_g_driver l hl hli known (drivenL l) hk r) ?_
 refine gC (fun ht13 => ?_) (fun ht13 => ?_)
 ·obtain ⟨g, hg⟩ := some_of ht13
  refine gE2 ?_
  unfold nextG; rw [hg]; rfl
 ·have hg := none_of ht13
  refine gc (c_g_pair l hl hli known hk r) ?_
  refine gC (fun ht20 => ?_) (fun ht20 => ?_)
  ·obtain ⟨g, hg2⟩ := some_of ht20
   refine gE2 ?_
   unfold nextG; rw [hg, hg2]; rfl
  ·have hg2 := none_of ht20
   refine gc (c_g_single l hl hli known hk r) ?_
   refine gE2 ?_
   unfold nextG; rw [hg, hg2]; rfl
end Go.Lw
namespace Go.Lw
open Go.Proofs
def u8 (n : Nat) : AV := .v (.int .u8 n)
theorem and_dec {p q : Bool} {a b : Nat} {c : Nat} (hp : p = decide (a ≤ c)) (hq : q = decide (c ≤ b)) : cond p q false = decide (a ≤ c ∧ c ≤ b) := by
 subst hp; subst hq
 by_cases h : a ≤ c
 ·simp [h]
 ·simp [h]
theorem ge_u8 (c k : Nat) : icmp .geq (c : Int) (k : Int) = decide (k ≤ c) := by simp only [icmp, decide_eq_decide]; omega
theorem le_u8 (c k : Nat) : icmp .leq (c : Int) (k : Int) = decide (c ≤ k) := by simp only [icmp, decide_eq_decide]; omega
theorem letter_1 (c : Nat) : cond (cond (icmp .geq (c : Int) 97) (icmp .leq (c : Int) 122) false) true (cond (icmp .geq (c : Int) 65) (icmp .leq (c : Int) 90) false) = letterB c := by
 have e1 : cond (icmp .geq (c : Int) 97) (icmp .leq (c : Int) 122) false = decide (97 ≤ c ∧ c ≤ 122) := and_dec (ge_u8 c 97) (le_u8 c 122)
 have e2 : cond (icmp .geq (c : Int) 65) (icmp .leq (c : Int) 90) false = decide (65 ≤ c ∧ c ≤ 90) := and_dec (ge_u8 c 65) (le_u8 c 90)
 rw [e1, e2]
 unfold letterB
 cases decide (97 ≤ c ∧ c ≤ 122) <;> rfl
theorem digit_1 (c : Nat) : cond (icmp .geq (c : Int) 48) (icmp .leq (c : Int) 57) false = digitB c := and_dec (ge_u8 c 48) (le_u8 c 57)
theorem part_1 (c : Nat) : cond (cond (letterB c) true (digitB c)) true (icmp .eql (c : Int) 95) = partB c := by
 unfold partB
 have : icmp .eql (c : Int) 95 = decide (c = 95) := by
  rw [Bool.eq_iff_iff]; simp only [icmp, beq_iff_eq, decide_eq_true_eq]; omega
 rw [this]
 cases letterB c <;> cases digitB c <;> rfl
theorem c_token_letter (c : Nat) : FnC Tryz.prog 233 [u8 c] (bl (letterB c)) := by
 refine gF0 Tryz.func233 ?_
 refine gE1 ?_
 exact congrArg bl (letter_1 c)
theorem c_token_digit (c : Nat) : FnC Tryz.prog 299 [u8 c] (bl (digitB c)) := by
 refine gF0 Tryz.func299 ?_
 refine gE1 ?_
 exact congrArg bl (digit_1 c)
theorem c_token_part (c : Nat) : FnC Tryz.prog 234 [u8 c] (bl (partB c)) := by
 refine gF0 Tryz.func234 ?_
 refine gc (c_token_letter c) ?_
 refine gcG (fun _ => (c_token_digit c)) ?_
 refine gE1 ?_
 exact congrArg bl (part_1 c)
theorem c_token_word (s : ByteArray) (hs : s.size ≤ 281474976710656) : FnC Tryz.prog 167 [.v (.string s)] (i64 (wordL s)) := by
 refine gF0 Tryz.func167 ?_
 refine gs (s_guard rfl rfl rfl (fun h => s_idxStr (.opt rfl (o1 h)) (.const _) T9 rfl (by omega) (by have := empty_f h; omega) rfl)) ?_
 refine gcG (fun _ => (c_token_letter (byteAt s 0))) ?_
 refine gC (fun ht11 => ?_) (fun ht11 => ?_)
 ·have h0 : wordL s = 0 := word_none ht11
  refine gE1 ?_
  rw [h0]; rfl
 ·obtain ⟨h0, h1⟩ := word_some ht11
  refine gL1 [0] [] (fun (n : Nat) => [(3, some (i64 n))]) (fun _ => []) (fun n => 1 ≤ n ∧ n ≤ s.size ∧ wordN s 1 (s.size - 1) = wordN s n (s.size - n)) (fun n => s.size - n) 1 ⟨Nat.le_refl _, h0, rfl⟩ ?_
  rintro n ⟨hn1, hn, hw⟩ K1 hK1
  refine gs (s_guard rfl rfl rfl (fun h => s_idxStr (.opt rfl (o1 h)) (.opt rfl (o1 h)) T9 rfl (by omega) (by have := lss_t h; omega) rfl)) ?_
  refine gcG (fun _ => (c_token_part (byteAt s n))) ?_
  refine gC (fun ht21 => ?_) (fun ht21 => ?_)
  ·have h2 : n < s.size ∧ partB (byteAt s n) = true := cond_lss ht21
   refine ga (i64_add1 (by unfold maxL; omega)) ?_
   exact gK1 hK1 (n + 1) ⟨by omega, by omega, by rw [hw, show s.size - n = (s.size - (n + 1)) + 1 by omega]; simp only [wordN, h2.2, if_true]⟩
  ·have h2 : n < s.size → partB (byteAt s n) = false := cond_nlss ht21
   have h3 : wordL s = n := by
    unfold wordL
    rw [if_pos ⟨h0, h1⟩, hw]
    rcases Nat.lt_or_ge n s.size with h | h
    ·rw [show s.size - n = (s.size - (n + 1)) + 1 by omega]
     simp only [wordN, h2 h, Bool.false_eq_true, if_false]
    ·rw [show s.size - n = 0 by omega]; rfl
   refine gE1 ?_
   rw [h3]
theorem c_token_Name (s : ByteArray) (hs : s.size ≤ 281474976710656) : FnC Tryz.prog 106 [.v (.string s)] (bl (nameB s)) := by
 refine gF0 Tryz.func106 ?_
 refine gc (c_token_word s hs) ?_
 refine gE1 ?_
 exact congrArg bl (name_cond s)
end Go.Lw
namespace Go.Lw
open Go.Proofs
theorem c_model_in (i : Int) (n : Nat) : FnC Tryz.prog 169 [i64 i, i64 n] (bl (inB i n)) := by
 refine gF0 Tryz.func169 ?_
 refine gE1 ?_
 exact congrArg bl (inB_cond i n)
theorem c_model_bodies (bs : List Bd) (hbs : ∀ b ∈ bs, b.ok) (hl : bs.length ≤ 281474976710656) : FnC Tryz.prog 107 [.lst 2 (bs.map Bd.av)] (errA (firstN bs.length (bdE bs))) := by
 refine gF0 Tryz.func107 ?_
 refine gl ?_
 refine gL1 [0, 11, 12] [] (fun (i : Nat) => [(13, some (i64 i))]) (fun _ => []) (fun i => i ≤ bs.length ∧ ∀ j, j < i → bdE bs j = 0) (fun i => bs.length - i) 0 ⟨Nat.zero_le _, fun j h => by omega⟩ ?_
 rintro i ⟨hi, hj⟩ K1 hK1
 refine gC (fun ht14 => ?_) (fun ht14 => ?_)
 ·have hin := lss_t ht14
  obtain ⟨b, hb⟩ := getx hin
  have hbd : bs.getD i default = b := getD_of hb
  have hbo := hbs b (List.mem_of_getElem? hb)
  have hbdup := dup_names Bd.name hb
  refine gi (getmap hb) ?_
  refine gc (c_token_Name b.name hbo.name) ?_
  refine gC (fun ht21 => ?_) (fun ht21 => ?_)
  ·have h1 := not_t ht21
   have e1 : bdE bs i = 5 := by unfold bdE; rw [hbd, if_pos h1]
   refine gE1 ?_
   rw [firstN_at hin hj (by rw [e1]; decide), e1]; rfl
  ·have h1 := not_f ht21
   refine gs (s_sliceLst (.tmp rfl) (.none _) (.some _ (.tmp rfl) (by omega)) T70 rfl T131 rfl (by omega) (by simp only [List.length_map]; omega) rfl) ?_
   refine ge rfl ?_
   refine gL1 [0, 3, 4, 11, 12, 13] [4] (fun (k : Nat) => [(25, some (.lst 2 ((bs.take i).map Bd.av))), (26, some (i64 i)), (27, some (i64 k))]) (fun _ => []) (fun k => k ≤ i ∧ (bs.take k).any (fun y => eqS y.name b.name) = false) (fun k => i - k) 0 ⟨Nat.zero_le _, rfl⟩ ?_ (h1 := (.cons rfl (Sub.of (cutT 2 Bd.av bs i)) (.cons rfl (Sub.int (by simp; omega)) (.k .nil))))
   rintro k ⟨hk, hd⟩ K2 hK2
   refine gC (fun ht28 => ?_) (fun ht28 => ?_)
   ·have hkn := lss_t ht28
    obtain ⟨y, hy'⟩ : ∃ y, (bs.take i)[k]? = some y := getx (by simp; omega)
    have hy := (get_take hy').1
    refine gi (getmap hy') ?_
    refine gC (fun ht35 => ?_) (fun ht35 => ?_)
    ·have h2 : eqS y.name b.name = true := ht35
     have e1 : bdE bs i = 6 := by unfold bdE; rw [hbd, if_neg (by rw [h1]; decide), if_pos (by rw [hbdup]; exact any_hit hy hkn h2)]
     refine gE1 ?_
     rw [firstN_at hin hj (by rw [e1]; decide), e1]; rfl
    ·have h2 : eqS y.name b.name = false := ht35
     refine ga (i64_add1 (by unfold maxL; omega)) ?_
     exact gK1 hK2 (k + 1) ⟨hkn, any_step hy hd h2⟩
   ·have hkn := lss_end hk ht28
    subst hkn
    have hnd : ¬ dupB (bs.map Bd.name) k = true := by rw [hbdup, hd]; decide
    refine gl ?_
    refine gC (fun ht41 => ?_) (fun ht41 => ?_)
    ·have h3 : 8 < b.pts.length := gtr_t ht41
     have e1 : bdE bs k = 4 := by unfold bdE; rw [hbd, if_neg (by rw [h1]; decide), if_neg hnd, if_pos h3]
     refine gE1 ?_
     rw [firstN_at hin hj (by rw [e1]; decide), e1]; rfl
    ·have h3 : b.pts.length ≤ 8 := gtr_f ht41
     have e1 : bdE bs k = firstN b.pts.length (mkE b.pts) := by unfold bdE; rw [hbd, if_neg (by rw [h1]; decide), if_neg hnd, if_neg (by omega)]
     refine gl ?_
     refine gL1 [0, 4, 11, 12, 13, 44, 45] [4] (fun (p : Nat) => [(46, some (i64 p))]) (fun _ => []) (fun p => p ≤ b.pts.length ∧ ∀ j, j < p → mkE b.pts j = 0) (fun p => b.pts.length - p) 0 ⟨Nat.zero_le _, fun j h => by omega⟩ ?_
     rintro p ⟨hp, hpj⟩ K3 hK3
     refine gC (fun ht47 => ?_) (fun ht47 => ?_)
     ·have hpn := lss_t ht47
      obtain ⟨m, hm⟩ := getx hpn
      have hmd : b.pts.getD p default = m := getD_of hm
      have hmm := List.mem_of_getElem? hm
      have hmdup := dup_names Mk.name hm
      have hmo := hbo.pts m hmm
      refine gi (getmap hm) ?_
      refine gc (c_token_Name m.name (hbo.names m hmm)) ?_
      refine gC (fun ht54 => ?_) (fun ht54 => ?_)
      ·have h4 := not_t ht54
       have e2 : mkE b.pts p = 5 := by unfold mkE; rw [hmd, if_pos h4]
       have e3 : bdE bs k = 5 := by rw [e1, firstN_at hpn hpj (by rw [e2]; decide), e2]
       refine gE1 ?_
       rw [firstN_at hin hj (by rw [e3]; decide), e3]; rfl
      ·have h4 := not_f ht54
       refine gs (s_sliceLst (.tmp rfl) (.none _) (.some _ (.tmp rfl) (by omega)) T129 rfl T128 rfl (by omega) (by simp only [List.length_map]; omega) rfl) ?_
       refine ge rfl ?_
       refine gL1 [0, 4, 8, 11, 12, 13, 44, 45, 46] [4, 8] (fun (q : Nat) => [(59, some (.lst 7 ((b.pts.take p).map Mk.av))), (60, some (i64 p)), (61, some (i64 q))]) (fun _ => []) (fun q => q ≤ p ∧ (b.pts.take q).any (fun y => eqS y.name m.name) = false) (fun q => p - q) 0 ⟨Nat.zero_le _, rfl⟩ ?_ (h1 := (.cons rfl (Sub.of (cutT 7 Mk.av b.pts p)) (.cons rfl (Sub.int (by simp; omega)) (.k .nil))))
       rintro q ⟨hq, hqd⟩ K4 hK4
       refine gC (fun ht62 => ?_) (fun ht62 => ?_)
       ·have hqn := lss_t ht62
        obtain ⟨y, hy'⟩ : ∃ y, (b.pts.take p)[q]? = some y := getx (by simp; omega)
        have hy := (get_take hy').1
        refine gi (getmap hy') ?_
        refine gC (fun ht69 => ?_) (fun ht69 => ?_)
        ·have h5 : eqS y.name m.name = true := ht69
         have e2 : mkE b.pts p = 6 := by unfold mkE; rw [hmd, if_neg (by rw [h4]; decide), if_pos (by rw [hmdup]; exact any_hit hy hqn h5)]
         have e3 : bdE bs k = 6 := by rw [e1, firstN_at hpn hpj (by rw [e2]; decide), e2]
         refine gE1 ?_
         rw [firstN_at hin hj (by rw [e3]; decide), e3]; rfl
        ·have h5 : eqS y.name m.name = false := ht69
         refine ga (i64_add1 (by unfold maxL; omega)) ?_
         exact gK1 hK4 (q + 1) ⟨hqn, any_step hy hqd h5⟩
       ·have hqn := lss_end hq ht62
        subst hqn
        have hmnd : ¬ dupB (b.pts.map Mk.name) q = true := by rw [hmdup, hqd]; decide
        refine gc (c_fraction_Valid m.x hmo.x) ?_
        refine gcG (fun _ => (c_fraction_Valid m.y hmo.y)) ?_
        refine gC (fun ht81 => ?_) (fun ht81 => ?_)
        ·have h6 := or_t ht81
         have e2 : mkE b.pts q = 3 := by unfold mkE; rw [hmd, if_neg (by rw [h4]; decide), if_neg hmnd, if_neg (by rintro ⟨g1, g2⟩; rcases h6 with g | g; (rw [g1] at g; cases g); (rw [g2] at g; cases g))]
         have e3 : bdE bs k = 3 := by rw [e1, firstN_at hpn hpj (by rw [e2]; decide), e2]
         refine gE1 ?_
         rw [firstN_at hin hj (by rw [e3]; decide), e3]; rfl
        ·have h6 := or_f ht81
         have e2 : mkE b.pts q = 0 := by unfold mkE; rw [hmd, if_neg (by rw [h4]; decide), if_neg hmnd, if_pos h6]
         refine ga (i64_add1 (by unfold maxL; omega)) ?_
         exact gK1 hK3 (q + 1) ⟨hpn, fun j h9 => by rcases Nat.lt_or_ge j q with g | g; exact hpj j g; (have : j = q := by omega); subst this; exact e2⟩
     ·have hpn := lss_end hp ht47
      subst hpn
      have e2 : bdE bs k = 0 := e1.trans (firstN_all hpj)
      refine ga (i64_add1 (by unfold maxL; omega)) ?_
      exact gK1 hK1 (k + 1) ⟨hin, fun j h9 => by rcases Nat.lt_or_ge j k with g | g; exact hj j g; (have : j = k := by omega); subst this; exact e2⟩
 ·have hin := lss_end hi ht14
  subst hin
  refine gE1 ?_
  rw [firstN_all hj]; rfl
end Go.Lw
namespace Go.Lw
open Go.Proofs
theorem c_model_joint (l : Li) (hl : l.ok) (j : Jt) : FnC Tryz.prog 168 [l.av, j.av] (errA (jt0 l j)) := by
 refine gF0 Tryz.func168 ?_
 refine gC (fun ht15 => ?_) (fun ht15 => ?_)
 ·have h1 := kind_t ht15
  refine gE1 ?_
  unfold jt0; rw [if_pos h1]; rfl
 ·have h1 := kind_f ht15
  refine gl ?_
  refine gc (c_model_in j.a l.bodies.length) ?_
  refine glG ?_
  refine gcG (fun _ => (c_model_in j.b l.bodies.length)) ?_
  refine gC (fun ht32 => ?_) (fun ht32 => ?_)
  ·have h2 := or_t ht32
   refine gE1 ?_
   unfold jt0; rw [if_neg h1, if_pos h2]; rfl
  ·have h2 := or_f ht32
   have h2n : ¬ (inB j.a l.bodies.length = false ∨ inB j.b l.bodies.length = false) := by rw [h2.1, h2.2]; simp
   obtain ⟨A, hA, pA, mA, zA0⟩ := bodyAt h2.1
   obtain ⟨B, hB, pB, mB, zB0⟩ := bodyAt h2.2
   refine gC (fun ht38 => ?_) (fun ht38 => ?_)
   ·have h3 := eql_t ht38
    refine gE1 ?_
    unfold jt0; rw [if_neg h1, if_neg h2n, if_pos h3]; rfl
   ·have h3 := eql_f ht38
    refine gi (getmap hB) ?_
    refine gi (getmap hA) ?_
    refine gl ?_
    refine gc (c_model_in j.point A.pts.length) ?_
    refine glG ?_
    refine gcG (fun _ => (c_model_in j.on B.pts.length)) ?_
    refine gD ?_
    refine gC (fun ht66 => ?_) (fun ht66 => ?_)
    ·have h4 := or_t ht66
     refine gE1 ?_
     unfold jt0; rw [if_neg h1, if_neg h2n, if_neg h3, pA, pB, if_pos h4]; rfl
    ·have h4 := or_f ht66
     have h4n : ¬ (inB j.point A.pts.length = false ∨ inB j.on B.pts.length = false) := by rw [h4.1, h4.2]; simp
     refine gC (fun ht70 => ?_) (fun ht70 => ?_)
     ·have h5 := eql_t ht70
      refine gC (fun ht73 => ?_) (fun ht73 => ?_)
      ·have h6 := neq_t' ht73
       refine gE1 ?_
       unfold jt0; rw [if_neg h1, if_neg h2n, if_neg h3, pA, pB, if_neg h4n, if_pos h5, if_pos h6]; rfl
      ·have h6 := neq_f' ht73
       refine gE1 ?_
       unfold jt0; rw [if_neg h1, if_neg h2n, if_neg h3, pA, pB, if_neg h4n, if_pos h5, if_neg (by rw [h6]; simp)]; rfl
     ·have h5 := eql_f ht70
      refine gl ?_
      refine gc (c_model_in j.to B.pts.length) ?_
      refine gC (fun ht80 => ?_) (fun ht80 => ?_)
      ·have h6 := not_t ht80
       refine gE1 ?_
       unfold jt0; rw [if_neg h1, if_neg h2n, if_neg h3, pA, pB, if_neg h4n, if_neg h5, if_pos h6]; rfl
      ·have h6 := not_f ht80
       obtain ⟨m1, g1, d1, mm1, z1⟩ := markAt h4.2
       obtain ⟨m2, g2, d2, mm2, z2⟩ := markAt h6
       have mo1 := (hl.bodies B mB).pts m1 mm1
       have mo2 := (hl.bodies B mB).pts m2 mm2
       refine gi (getmap g1) ?_
       refine gi (getmap g2) ?_
       refine gD ?_
       refine gc (c_fraction_Cmp m1.x m2.x mo1.x mo2.x) ?_
       refine gcG (fun _ => (c_fraction_Cmp m1.y m2.y mo1.y mo2.y)) ?_
       refine gC (fun ht105 => ?_) (fun ht105 => ?_)
       ·have h7 := both_t ht105
        refine gE1 ?_
        unfold jt0; rw [if_neg h1, if_neg h2n, if_neg h3, pA, pB, if_neg h4n, if_neg h5, if_neg (by rw [h6]; decide), d1, d2, if_pos h7]; rfl
       ·have h7 := both_f ht105
        refine gE1 ?_
        unfold jt0; rw [if_neg h1, if_neg h2n, if_neg h3, pA, pB, if_neg h4n, if_neg h5, if_neg (by rw [h6]; decide), d1, d2, if_neg h7]; rfl
theorem c_model_joints (l : Li) (hl : l.ok) : FnC Tryz.prog 108 [l.av] (errA (jtsE l)) := by
 have hlj := hl.lj
 refine gF0 Tryz.func108 ?_
 refine gl ?_
 refine gC (fun ht11 => ?_) (fun ht11 => ?_)
 ·have h0 : 16 < l.joints.length := gtr_t ht11
  refine gE1 ?_
  unfold jtsE; rw [if_pos h0]; rfl
 ·have h0 : l.joints.length ≤ 16 := gtr_f ht11
  have e0 : jtsE l = firstN l.joints.length (jtE l) := by unfold jtsE; rw [if_neg (by omega)]
  refine gl ?_
  refine gL1 [1, 14, 15] [1] (fun (i : Nat) => [(16, some (i64 i))]) (fun _ => []) (fun i => i ≤ l.joints.length ∧ ∀ j, j < i → jtE l j = 0) (fun i => l.joints.length - i) 0 ⟨Nat.zero_le _, fun j h => by omega⟩ ?_
  rintro i ⟨hi, hj⟩ K1 hK1
  refine gC (fun ht17 => ?_) (fun ht17 => ?_)
  ·have hin := lss_t ht17
   obtain ⟨b, hb⟩ := getx hin
   have hbd : l.joints.getD i default = b := getD_of hb
   have hbdup := dup_names Jt.name hb
   refine gi (getmap hb) ?_
   refine gc (c_token_Name b.name (hl.jnames b (List.mem_of_getElem? hb))) ?_
   refine gC (fun ht24 => ?_) (fun ht24 => ?_)
   ·have h1 := not_t ht24
    have e1 : jtE l i = 5 := by unfold jtE; rw [hbd, if_pos h1]
    refine gE1 ?_
    rw [e0, firstN_at hin hj (by rw [e1]; decide), e1]; rfl
   ·have h1 := not_f ht24
    refine gs (s_sliceLst (.tmp rfl) (.none _) (.some _ (.tmp rfl) (by omega)) T71 rfl T120 rfl (by omega) (by simp only [List.length_map]; omega) rfl) ?_
    refine ge rfl ?_
    refine gL1 [1, 3, 4, 14, 15, 16] [1, 4] (fun (k : Nat) => [(29, some (.lst 7 ((l.joints.take i).map Jt.av))), (30, some (i64 i)), (31, some (i64 k))]) (fun _ => []) (fun k => k ≤ i ∧ (l.joints.take k).any (fun y => eqS y.name b.name) = false) (fun k => i - k) 0 ⟨Nat.zero_le _, rfl⟩ ?_ (h1 := (.cons rfl (Sub.of (cutT 7 Jt.av l.joints i)) (.cons rfl (Sub.int (by simp; omega)) (.k .nil))))
    rintro k ⟨hk, hd⟩ K2 hK2
    refine gC (fun ht32 => ?_) (fun ht32 => ?_)
    ·have hkn := lss_t ht32
     obtain ⟨y, hy'⟩ : ∃ y, (l.joints.take i)[k]? = some y := getx (by simp; omega)
     have hy := (get_take hy').1
     refine gi (getmap hy') ?_
     refine gC (fun ht39 => ?_) (fun ht39 => ?_)
     ·have h2 : eqS y.name b.name = true := ht39
      have e1 : jtE l i = 6 := by unfold jtE; rw [hbd, if_neg (by rw [h1]; decide), if_pos (by rw [hbdup]; exact any_hit hy hkn h2)]
      refine gE1 ?_
      rw [e0, firstN_at hin hj (by rw [e1]; decide), e1]; rfl
     ·have h2 : eqS y.name b.name = false := ht39
      refine ga (i64_add1 (by unfold maxL; omega)) ?_
      exact gK1 hK2 (k + 1) ⟨hkn, any_step hy hd h2⟩
    ·have hkn := lss_end hk ht32
     subst hkn
     have hnd : ¬ dupB (l.joints.map Jt.name) k = true := by rw [hbdup, hd]; decide
     have e1 : jtE l k = jt0 l b := by unfold jtE; rw [hbd, if_neg (by rw [h1]; decide), if_neg hnd]
     refine gc (c_model_joint l hl b) ?_
     refine gC (fun ht46 => ?_) (fun ht46 => ?_)
     ·have h3 := nNil_t ht46
      refine gE1 ?_
      rw [e0, firstN_at hin hj (by rw [e1]; exact h3), e1]
     ·have h3 := nNil_f ht46
      refine ga (i64_add1 (by unfold maxL; omega)) ?_
      exact gK1 hK1 (k + 1) ⟨hin, fun j h9 => by rcases Nat.lt_or_ge j k with g | g; exact hj j g; (have : j = k := by omega); subst this; exact e1.trans h3⟩
  ·have hin := lss_end hi ht17
   subst hin
   refine gE1 ?_
   rw [e0, firstN_all hj]; rfl
theorem c_model_drivers (l : Li) (hl : l.ok) : FnC Tryz.prog 109 [l.av] (errA (drsE l)) := by
 have hld := hl.ld
 refine gF0 Tryz.func109 ?_
 refine gl ?_
 refine gC (fun ht12 => ?_) (fun ht12 => ?_)
 ·have h0 : 2 < l.drivers.length := gtr_t ht12
  refine gE1 ?_
  unfold drsE; rw [if_pos h0]; rfl
 ·have h0 : l.drivers.length ≤ 2 := gtr_f ht12
  have e0 : drsE l = firstN l.drivers.length (drE l) := by unfold drsE; rw [if_neg (by omega)]
  refine gl ?_
  refine gL1 [1, 15, 16] [1] (fun (i : Nat) => [(17, some (i64 i))]) (fun _ => []) (fun i => i ≤ l.drivers.length ∧ ∀ j, j < i → drE l j = 0) (fun i => l.drivers.length - i) 0 ⟨Nat.zero_le _, fun j h => by omega⟩ ?_
  rintro i ⟨hi, hj⟩ K1 hK1
  refine gC (fun ht18 => ?_) (fun ht18 => ?_)
  ·have hin := lss_t ht18
   obtain ⟨b, hb⟩ := getx hin
   have hbd : l.drivers.getD i default = b := getD_of hb
   have hbdup := dup_names Dr.name hb
   refine gi (getmap hb) ?_
   refine gc (c_token_Name b.name (hl.dnames b (List.mem_of_getElem? hb))) ?_
   refine gC (fun ht25 => ?_) (fun ht25 => ?_)
   ·have h1 := not_t ht25
    have e1 : drE l i = 5 := by unfold drE; rw [hbd, if_pos h1]
    refine gE1 ?_
    rw [e0, firstN_at hin hj (by rw [e1]; decide), e1]; rfl
   ·have h1 := not_f ht25
    refine gs (s_sliceLst (.tmp rfl) (.none _) (.some _ (.tmp rfl) (by omega)) T72 rfl T143 rfl (by omega) (by simp only [List.length_map]; omega) rfl) ?_
    refine ge rfl ?_
    refine gL1 [1, 3, 4, 15, 16, 17] [1, 4] (fun (k : Nat) => [(30, some (.lst 2 ((l.drivers.take i).map Dr.av))), (31, some (i64 i)), (32, some (i64 k))]) (fun _ => []) (fun k => k ≤ i ∧ (l.drivers.take k).any (fun y => eqS y.name b.name) = false) (fun k => i - k) 0 ⟨Nat.zero_le _, rfl⟩ ?_ (h1 := (.cons rfl (Sub.of (cutT 2 Dr.av l.drivers i)) (.cons rfl (Sub.int (by simp; omega)) (.k .nil))))
    rintro k ⟨hk, hd⟩ K2 hK2
    refine gC (fun ht33 => ?_) (fun ht33 => ?_)
    ·have hkn := lss_t ht33
     obtain ⟨y, hy'⟩ : ∃ y, (l.drivers.take i)[k]? = some y := getx (by simp; omega)
     have hy := (get_take hy').1
     refine gi (getmap hy') ?_
     refine gC (fun ht40 => ?_) (fun ht40 => ?_)
     ·have h2 : eqS y.name b.name = true := ht40
      have e1 : drE l i = 6 := by unfold drE; rw [hbd, if_neg (by rw [h1]; decide), if_pos (by rw [hbdup]; exact any_hit hy hkn h2)]
      refine gE1 ?_
      rw [e0, firstN_at hin hj (by rw [e1]; decide), e1]; rfl
     ·have h2 : eqS y.name b.name = false := ht40
      refine ga (i64_add1 (by unfold maxL; omega)) ?_
      exact gK1 hK2 (k + 1) ⟨hkn, any_step hy hd h2⟩
    ·have hkn := lss_end hk ht33
     subst hkn
     have hnd : ¬ dupB (l.drivers.map Dr.name) k = true := by rw [hbdup, hd]; decide
     refine gl ?_
     refine gc (c_model_in b.body l.bodies.length) ?_
     refine gC (fun ht49 => ?_) (fun ht49 => ?_)
     ·have h3 := not_t ht49
      have e1 : drE l k = 9 := by unfold drE; rw [hbd, if_neg (by rw [h1]; decide), if_neg hnd, if_pos h3]
      refine gE1 ?_
      rw [e0, firstN_at hin hj (by rw [e1]; decide), e1]; rfl
     ·have h3 := not_f ht49
      refine gC (fun ht53 => ?_) (fun ht53 => ?_)
      ·have h4 := eql_t ht53
       have e1 : drE l k = 7 := by unfold drE; rw [hbd, if_neg (by rw [h1]; decide), if_neg hnd, if_neg (by rw [h3]; decide), if_pos h4]
       refine gE1 ?_
       rw [e0, firstN_at hin hj (by rw [e1]; decide), e1]; rfl
      ·have h4 := eql_f ht53
       have e1 : drE l k = if (l.drivers.take k).any (fun d => decide (d.body = b.body)) = true then 6 else 0 := by unfold drE; rw [hbd, if_neg (by rw [h1]; decide), if_neg hnd, if_neg (by rw [h3]; decide), if_neg h4]
       refine gs (s_sliceLst (.tmp rfl) (.none _) (.some _ (.tmp rfl) (by omega)) T72 rfl T143 rfl (by omega) (by simp only [List.length_map]; omega) rfl) ?_
       refine ge rfl ?_
       refine gL1 [1, 4, 15, 16, 17] [1, 4] (fun (q : Nat) => [(58, some (.lst 2 ((l.drivers.take k).map Dr.av))), (59, some (i64 k)), (60, some (i64 q))]) (fun _ => []) (fun q => q ≤ k ∧ (l.drivers.take q).any (fun d => decide (d.body = b.body)) = false) (fun q => k - q) 0 ⟨Nat.zero_le _, rfl⟩ ?_ (h1 := (.cons rfl (Sub.of (cutT 2 Dr.av l.drivers k)) (.cons rfl (Sub.int (by simp; omega)) (.k .nil))))
       rintro q ⟨hq, hqd⟩ K3 hK3
       refine gC (fun ht61 => ?_) (fun ht61 => ?_)
       ·have hqn := lss_t ht61
        obtain ⟨y, hy'⟩ : ∃ y, (l.drivers.take k)[q]? = some y := getx (by simp; omega)
        have hy := (get_take hy').1
        refine gi (getmap hy') ?_
        refine gC (fun ht68 => ?_) (fun ht68 => ?_)
        ·have h5 : decide (y.body = b.body) = true := decide_eq_true (eql_t ht68)
         have e2 : drE l k = 6 := by rw [e1, if_pos (any_hit hy hqn h5)]
         refine gE1 ?_
         rw [e0, firstN_at hin hj (by rw [e2]; decide), e2]; rfl
        ·have h5 : decide (y.body = b.body) = false := decide_eq_false (eql_f ht68)
         refine ga (i64_add1 (by unfold maxL; omega)) ?_
         exact gK1 hK3 (q + 1) ⟨hqn, any_step hy hqd h5⟩
       ·have hqn := lss_end hq ht61
        subst hqn
        have e2 : drE l q = 0 := by rw [e1, hqd]; rfl
        refine ga (i64_add1 (by unfold maxL; omega)) ?_
        exact gK1 hK1 (q + 1) ⟨hin, fun j h9 => by rcases Nat.lt_or_ge j q with g | g; exact hj j g; (have : j = q := by omega); subst this; exact e2⟩
  ·have hin := lss_end hi ht18
   subst hin
   refine gE1 ?_
   rw [e0, firstN_all hj]; rfl
theorem c_model_Check (l : Li) (hl : l.ok) : FnC Tryz.prog 55 [l.av] (errA (liE l)) := by
 have hlb := hl.lb
 refine gF0 Tryz.func55 ?_
 refine gc (c_token_Name l.name hl.name) ?_
 refine gC (fun ht8 => ?_) (fun ht8 => ?_)
 ·have h1 := not_t ht8
  refine gE1 ?_
  unfold liE; rw [if_pos h1]; rfl
 ·have h1 := not_f ht8
  refine gl ?_
  refine gC (fun ht13 => ?_) (fun ht13 => ?_)
  ·have h2 := eql0_t ht13
   refine gE1 ?_
   unfold liE; rw [if_neg (by rw [h1]; decide), if_pos h2]; rfl
  ·have h2 := eql0_f ht13
   refine gl ?_
   refine gC (fun ht18 => ?_) (fun ht18 => ?_)
   ·have h3 : 8 < l.bodies.length := gtr_t ht18
    refine gE1 ?_
    unfold liE; rw [if_neg (by rw [h1]; decide), if_neg h2, if_pos h3]; rfl
   ·have h3 : l.bodies.length ≤ 8 := gtr_f ht18
    have e0 : liE l = if bdsE l ≠ 0 then bdsE l else if jtsE l ≠ 0 then jtsE l else drsE l := by unfold liE; rw [if_neg (by rw [h1]; decide), if_neg h2, if_neg (by omega)]
    refine gc (c_model_bodies l.bodies hl.bodies hlb) ?_
    refine gC (fun ht24 => ?_) (fun ht24 => ?_)
    ·have h4 : bdsE l ≠ 0 := nNil_t ht24
     refine gE1 ?_
     rw [e0, if_pos h4]; rfl
    ·have h4 : bdsE l = 0 := nNil_f ht24
     refine gc (c_model_joints l hl) ?_
     refine gC (fun ht29 => ?_) (fun ht29 => ?_)
     ·have h5 := nNil_t ht29
      refine gE1 ?_
      rw [e0, if_neg (by rw [h4]; simp), if_pos h5]
     ·have h5 := nNil_f ht29
      refine gc (c_model_drivers l hl) ?_
      refine gE1 ?_
      rw [e0, if_neg (by rw [h4]; simp), if_neg (by rw [h5]; simp)]
end Go.Lw
namespace Go.Lw
open Go.Proofs
end Go.Lw
namespace Go.Lw
open Go.Proofs
end Go.Lw
namespace Go.Lw
open Go.Proofs
end Go.Lw
namespace Go.Lw
open Go.Proofs
/-- The first places that are not marked. -/
def unm (k : List Bool) (i : Nat) : List Int := ((List.range i).filter (fun j => !k.getD j false)).map (fun j : Nat => ((j : Nat) : Int))
theorem len_fold {α : Type} {f : α → List Int} : ∀ (gs : List α) (k : List Bool), (gs.foldl (fun k g => markAll k (f g)) k).length = k.length
 | [], k => rfl
 | g :: gs, k => by rw [List.foldl_cons, len_fold gs, len_mark]
end Go.Lw
namespace Go.Lw
variable {P : Program} {N : Nat} {R : Array Oper} {s : AS}
/-- A slice of scalars, made: its block is known as a whole. -/
theorem s_makeV {d : Nat} {x : Operand} {n : Nat} {z : Value} {T E t : TypeId} {ti te : TI} {pos : String} {after : Array Edge} (hx : Ev s x (.v (.int .i64 n)))
    (hT : tinfo P T = some ti) (hk : ti.k = .slice E) (hE : tinfo P E = some te) (hz : te.zero = [z]) (hz1 : z.oneCell' = true) (hs : Nat.beq te.size 1 = true) (hbb : Nat.blt 0 te.bytes = true)
    (hb : (n : Int) * te.bytes ≤ 281474976710656) (hN : Nat.blt d N = true) :
    Step P N R s ⟨some d, .makeSlice T x x, t, pos, after, none⟩
      ⟨some (.ms d 1 0 n), [(d, some (.vec (List.replicate n z)))], rtOf x, []⟩ :=
  step_new rfl rfl hN (by simp) fun s' hag hfr C m a w hr => by
    have hxv := eval_v hr (hx.agree hag (fun _ h => h))
    have hs := Nat.eq_of_beq_eq_true hs
    rw [Nat.blt_eq] at hbb
    obtain ⟨d2, h3, h4, -, -⟩ := run_und hT w
    obtain rfl := tk_slice (h4.trans hk)
    obtain ⟨zv, h5, h6⟩ := run_zero hE w
    obtain ⟨ie, h7, h8, -⟩ := run_typeInfo hE w
    have h6' : zv.cells.toList = [z] := h6.trans hz
    have hzc : zv.cells = #[z] := by rw [← Array.toArray_toList (xs := zv.cells), h6']
    have hnb : (n : Int) ≤ 281474976710656 := by
      have : (n : Int) * 1 ≤ n * te.bytes := Int.mul_le_mul_of_nonneg_left (by omega) (by omega)
      omega
    have hw1 : IntKind.i64.wrap (n : Int) = n := IntWalk.i64_in n (by omega)
    obtain ⟨zero, hzero⟩ : ∃ zero : Array Value, zero = (if n * te.size = 0 then #[] else zv.cells) := ⟨_, rfl⟩
    refine ⟨.slice (some ⟨w.heap.size, 0, none⟩) n n, (Array.range (n * te.size)).map (zero[· % zero.size]!), E, w.drawn, ?_, ?_, ?_, ?_⟩
    · have hmk : (Instr.makeSlice T (.int .i64 n) (.int .i64 n)).run P w =
          .ok (.slice (some ⟨w.heap.size, 0, none⟩) n n) { w with heap := w.heap.push (.cells ((Array.range (n * te.size)).map (zero[· % zero.size]!)) E) } := by
        have hc : ¬ (((n : Int) < 0 ∨ 281474976710656 < (ie.bytes : Int) * n) ∨ (n : Int) < 0) := by
          rw [h8, Int.mul_comm]; omega
        simp only [Instr.makeSlice, Sem.run_bind, h3, Result.andThen_ok, asInt, asIntOf, Sem.run_pure, h7, hw1]
        rw [if_neg (by simpa using hc)]
        simp only [Sem.run_bind, run_askRoom, Result.andThen_ok, run_sizeOf hE, Int.toNat_natCast]
        by_cases h0 : n * te.size = 0
        · rw [if_pos h0] at hzero ⊢
          subst hzero
          simp only [Sem.run_bind, Sem.run_pure, Result.andThen_ok, newRow, run_newObj]
        · rw [if_neg h0] at hzero ⊢
          subst hzero
          simp only [Sem.run_bind, Sem.run_pure, Result.andThen_ok, h5, newRow, run_newObj]
      simp only [execOp, hxv, Sem.run_bind, hmk, Result.andThen_ok, Sem.run_pure]
    · exact fun h => h
    · intro g S m' w' hg hS hm hw
      refine .vec hw ?_ (fun v hv => by rw [List.eq_of_mem_replicate hv]; exact hz1)
      apply List.ext_getElem?
      intro j
      rw [Array.getElem?_toList, List.getElem?_replicate]
      by_cases hj : j < n
      · have hpos : ¬ n * te.size = 0 := by rw [hs]; omega
        rw [if_neg hpos, hzc] at hzero
        subst hzero
        rw [if_pos hj]
        simp only [Array.getElem?_map, Array.getElem?_range, show j < n * te.size by rw [hs]; omega, if_true, Option.map_some, Option.some.injEq]
        simp [Nat.mod_one]
      · rw [if_neg hj, Array.getElem?_eq_none (by simp [hs]; omega)]
    · intro g S m' hm hS
      have := Rep.ms (g := g) (S := S) (m := m') (k := d) (sz := 1) (off := 0) (len := n) (cap := n) hm (Nat.le_refl _) (by simpa [hs] using hS)
      simpa using this
/-- A store into such a slice. -/
theorem s_stVec {x y : Operand} {k i : Nat} {vs : List Value} {v : Value} {T t : TypeId} {ti : TI} {pos : String} {after : Array Edge}
    (hx : Ev s x (.eptr k 1 i 0)) (hk : s.blk k = some (.vec vs)) (hi : i < vs.length) (hy : Ev s y (.v v)) (hv : v.oneCell' = true) (hT : tinfo P T = some ti) (hsz : Nat.beq ti.size 1 = true) :
    Step P N R s ⟨none, .store T x y, t, pos, after, none⟩ ⟨none, [(k, some (.vec (vs.set i v)))], rtOf x ++ rtOf y, [k]⟩ :=
  step_store rfl rfl (by simp) hk fun s' hag C m a w hr => by
    have hsz := Nat.eq_of_beq_eq_true hsz
    obtain ⟨b, hm, hxv⟩ := eval_eptr hr (hx.agree hag (fun _ h => List.mem_append.2 (.inl h)))
    have hyv := eval_v hr (hy.agree hag (fun _ h => List.mem_append.2 (.inr h)))
    have hb := hr.heap.blk k _ ((hag.2 k (by simp)).trans hk)
    rw [hm] at hb
    cases hb with
    | @vec _ _ c t2 hw hc h1 =>
      have hcs : c.size = vs.length := by rw [← hc]; simp
      have hvc : v.cells = #[v] := by cases v <;> simp_all [Value.cells, Value.oneCell']
      refine ⟨b, c, (over c.toList i v.cells.toList).toArray, t2, hm, hw, ?_, ?_, ?_⟩
      · simp [over, hvc]; omega
      · have hrun := run_storeVar (P := P) (off := i) (v := v) hT hw (by rw [hvc, hsz]; rfl) (by omega) (by rw [hvc]; simpa using hv)
        simp [execOp, Instr.storeAt, hxv, Instr.sureAddr, hyv, hrun]
      · intro g S w' hg hS hw'
        refine .vec hw' ?_ (fun u hu => ?_)
        · rw [hc, hvc]
          unfold over
          rw [List.set_eq_take_append_cons_drop, if_pos hi]
          simp
        · rcases List.mem_or_eq_of_mem_set hu with h9 | h9
          · exact h1 u h9
          · rw [h9]; exact hv
/-! ### Blocks that are lent -/
/-- What becomes of a cell when boxes are lent; others are hidden. -/
inductive Lent (H : Hp) (hid : List Nat) : AV → AV → Prop
  | same {x : AV} (h : x.nm = []) : Lent H hid x x
  | ms {k off len : Nat} {vs : List Value} (hk : lk H k = some (.vec vs)) (hh : k ∉ hid) (hl : off + len ≤ vs.length) (hm : vs.length ≤ maxL) : Lent H hid (.ms k 1 off len) (.lst 1 (((vs.drop off).take len).map .v))
theorem rep_v {g : Nat → Array Value → Prop} {S : Nat → Nat → Prop} {m : Nat → Option Nat} {u y : Value} (h : Rep g S m u (.v y)) : u = y := by cases h; rfl
theorem own_nil {m : Nat → Option Nat} {b : Nat} : ¬ Own [] m b := by rintro ⟨k, x, h, _⟩; cases h
/-- What the callee must not touch: what the caller must not, and the hidden blocks. -/
def hidE (ext : Nat → Prop) (H : Hp) (hid : List Nat) (m : Nat → Option Nat) (b : Nat) : Prop := ext b ∨ ∃ k z, k ∈ hid ∧ lk H k = some z ∧ m k = some b
theorem im_lent {ext : Nat → Prop} {H : Hp} {hid : List Nat} {m m2 : Nat → Option Nat} {w : World} {b : Nat} {cs : Array Value} (h : Im ext H m w b cs) : Im (hidE ext H hid m) [] m2 w b cs :=
  ⟨fun h' => h'.elim h.1 (fun ⟨k, z, _, hz, hb⟩ => h.2.1 ⟨k, z, hz, hb⟩), own_nil, h.2.2⟩
theorem not_hid {ext : Nat → Prop} {H : Hp} {hid : List Nat} {m : Nat → Option Nat} {w : World} (hh : HeapRel ext H m w) {k b : Nat} {z : Blk} (hk : lk H k = some z) (hb : m k = some b) (hn : k ∉ hid) : ¬ hidE ext H hid m b := by
  rintro (h | ⟨k', z', h1, h2, h3⟩)
  · exact (hh.sep k z b hk hb).1 h
  · have := hh.inj k k' z z' b hk h2 hb h3
    subst this; exact hn h1
theorem Lent.rep {ext : Nat → Prop} {H : Hp} {hid : List Nat} {m : Nat → Option Nat} {w : World} (hh : HeapRel ext H m w) {x x' : AV} (h : Lent H hid x x') :
    ∀ {v : Value}, Rep (Im ext H m w) (Sz w) m v x → ∀ m2 : Nat → Option Nat, Rep (Im (hidE ext H hid m) [] m w) (Sz w) m2 v x' := by
  cases h with
  | same hn => intro v hv m2; exact (rep_names hn hv).mono (fun _ _ h => im_lent h) (fun _ _ h => h) (fun _ _ _ h => h)
  | @ms k off len vs hk hnh hl hm =>
    intro v hr m2
    have hb := hh.blk k _ hk
    cases hr with
    | ms0 a => simp only [List.take_zero]; exact .lst0 _ _ _
    | @ms _ _ _ _ _ cap b hmk hc hS =>
      rw [hmk] at hb
      cases hb with
      | @vec _ _ c t hw hcv h1 =>
        have hcs : c.size = vs.length := by rw [← hcv]; simp
        have hlen : (((vs.drop off).take len).map AV.v).length = len := by rw [List.length_map, List.length_take, List.length_drop]; omega
        have he' : ∀ (i : Nat) (e : AV), (((vs.drop off).take len).map AV.v)[i]? = some e → ∃ u, e = .v u ∧ c[off + i]? = some u ∧ u ∈ vs := by
          intro i e he
          rw [List.getElem?_map, Option.map_eq_some_iff] at he
          obtain ⟨u, he, rfl⟩ := he
          rw [List.getElem?_take] at he
          split at he
          · rw [List.getElem?_drop] at he
            exact ⟨u, rfl, by rw [← Array.getElem?_toList, hcv]; exact he, List.mem_of_getElem? he⟩
          · cases he
        have := Rep.lst (g := Im (hidE ext H hid m) [] m w) (S := Sz w) (m := m2) (b := b) (off := off) (cap := cap) (sz := 1) (es := ((vs.drop off).take len).map AV.v) (cs := c) (fun i j => c.getD (off + i) undef)
          ⟨not_hid hh hk hmk hnh, own_nil, t, (0, 0), hw⟩ (by omega) (by omega) ?_ ?_ ?_ ?_
        · rw [hlen] at this; simpa using this
        · intro i e he
          obtain ⟨u, rfl, _⟩ := he' i e he; rfl
        · intro i j e x he hx
          obtain ⟨u, rfl, _, hm⟩ := he' i e he
          cases j with
          | zero => cases hx; exact h1 u hm
          | succ j => cases hx
        · intro i j e x he hx
          obtain ⟨u, rfl, hu, _⟩ := he' i e he
          cases j with
          | zero => rw [Nat.mul_one, Nat.add_zero, Array.getD_eq_getD_getElem?, hu]; rfl
          | succ j => cases hx
        · intro i j e x he hx
          obtain ⟨u, rfl, hu, _⟩ := he' i e he
          cases j with
          | zero => cases hx; rw [Array.getD_eq_getD_getElem?, hu]; exact .v _
          | succ j => cases hx
def isInt : AV → Bool
  | .v (.int _ _) => true
  | _ => false
/-- A cell that holds no number. -/
def noInt : AV → Bool
  | .v (.int _ _) => false
  | .v _ => true
  | .lst _ _ => true
  | .ms _ _ _ _ => true
  | _ => false
mutual
/-- Scalars and lists of numbers. -/
def AV.li : AV → Bool
  | .v _ => true
  | .agg cs => AV.lis cs
  | .tup cs => AV.lis cs
  | .lst sz es => Nat.beq sz 1 && es.all isInt
  | _ => false
def AV.lis : List AV → Bool
  | [] => true
  | x :: l => x.li && AV.lis l
end
theorem AV.lis_mem : ∀ {l : List AV} {c : AV}, AV.lis l = true → c ∈ l → c.li = true
  | x :: l, c, h, hc => by
    simp only [AV.lis, Bool.and_eq_true] at h
    rcases List.mem_cons.1 hc with rfl | hc
    · exact h.1
    · exact AV.lis_mem h.2 hc
theorem rep_noInt {g : Nat → Array Value → Prop} {S : Nat → Nat → Prop} {m : Nat → Option Nat} {u : Value} {x : AV} (hx : noInt x = true) (h : Rep g S m u x) (kk : IntKind) (z : Int) : u ≠ .int kk z := by
  rintro rfl
  cases h <;> cases hx
theorem rep_li {g g' : Nat → Array Value → Prop} {S S' : Nat → Nat → Prop} {m m' : Nat → Option Nat} {v : Value} {x : AV} (hx : x.li = true)
    (hg : ∀ b cs (o : Nat) (kk : IntKind) (z : Int), cs[o]? = some (.int kk z) → g b cs → g' b cs) (h : Rep g S m v x) : Rep g' S' m' v x := by
  induction h with
  | v => exact .v _
  | agg hn h1 hr ih => exact .agg hn h1 (fun j u c hu hc => ih j u c hu hc (AV.lis_mem hx (List.mem_of_getElem? hc)))
  | tup hn hr ih => exact .tup hn (fun j u c hu hc => ih j u c hu hc (AV.lis_mem hx (List.mem_of_getElem? hc)))
  | lst0 a cap sz => exact .lst0 _ _ _
  | @lst _ b off cap sz es cs u hb hc hl hs h1 hu hr _ =>
    simp only [AV.li, Bool.and_eq_true] at hx
    have hsz := Nat.eq_of_beq_eq_true hx.1
    subst hsz
    match es, hx, hc, hl, hs, h1, hu, hr with
    | [], _, _, _, _, _, _, _ => exact .lst0 _ _ _
    | e :: es, hx, hc, hl, hs, h1, hu, hr =>
      have hcell : ∀ (i j : Nat) (e' c : AV), (e :: es)[i]? = some e' → e'.cells[j]? = some c → ∃ kk z, c = .v (.int kk z) := by
        intro i j e' c he hc'
        have h9 := List.all_eq_true.1 hx.2 e' (List.mem_of_getElem? he)
        cases e' with
        | v y => cases y with
          | int kk z =>
            cases j with
            | zero => cases hc'; exact ⟨_, _, rfl⟩
            | succ j => cases hc'
          | _ => cases h9
        | _ => cases h9
      have he0 : ∃ kk z, e = .v (.int kk z) := by
        have h9 := List.all_eq_true.1 hx.2 e (by simp)
        cases e with
        | v y => cases y with
          | int kk z => exact ⟨_, _, rfl⟩
          | _ => cases h9
        | _ => cases h9
      obtain ⟨kk, z, rfl⟩ := he0
      have h8 := hu 0 0 _ _ rfl rfl
      have h7 := hr 0 0 _ _ rfl rfl
      have h6 : u 0 0 = .int kk z := rep_v h7
      rw [h6] at h8
      refine .lst u (hg b cs _ kk z h8 hb) hc hl hs h1 hu (fun i j e' c he hc' => ?_)
      obtain ⟨k2, z2, rfl⟩ := hcell i j e' c he hc'
      rw [rep_v (hr i j _ _ he hc')]; exact .v _
  | _ => cases hx
/-- A call that only reads a box of its caller's and what hangs on it; one cell of it is hidden. -/
theorem Con.lend {f : FuncId} {k : Nat} {cs : List AV} {cs' : Value → List AV} {H : Hp} {r : AV} (hid : List Nat) (j0 : Nat) (hk : lk H k = some (.box cs)) (hkh : k ∉ hid)
    (hc : ∀ v : Value, v.oneCell' = true → (cs' v).length = cs.length ∧ (∀ (j : Nat) (x : AV), (cs' v)[j]? = some x → x.one = true) ∧
      ∀ (j : Nat) (x x' : AV), cs[j]? = some x → (cs' v)[j]? = some x' → (j = j0 ∧ x' = .v v) ∨ Lent H hid x x')
    (hj : j0 < cs.length)
    (hH : ∀ k z, lk H k = some z → k ∈ hid ∨ (∃ cs, z = .box cs ∧ cs.all noInt = true) ∨ ∃ vs, z = .vec vs ∧ ∀ v ∈ vs, ∀ kk z, v ≠ .int kk z) (hr : r.li = true) (h : ∀ v : Value, FnC P f [.iptr (cs' v)] r) : Con P f [.ptr k 0] H r H := by
  refine ⟨(h undef).ok, ?_⟩
  intro ext m w vs hext hheap hvs hrep
  -- the box
  have hsz : 0 < vs.size := by rw [hvs]; exact Nat.one_pos
  have hr0 := hrep 0 vs[0] _ (Array.getElem?_eq_getElem hsz) rfl
  have hb := hheap.blk k _ hk
  generalize hv0 : vs[0] = v0 at hr0
  cases hr0 with
  | @ptr _ _ _ b hmk =>
    rw [hmk] at hb
    cases hb with
    | @box _ _ c t hw hn h1 hrr =>
      have hj0 : j0 < c.size := by omega
      have hx0 := List.getElem?_eq_getElem (l := cs) (i := j0) (by omega)
      have hone : (c[j0]).oneCell' = true := (hrr j0 _ _ (Array.getElem?_eq_getElem hj0) hx0).one (h1 j0 _ hx0)
      obtain ⟨g1, g2, g3⟩ := hc c[j0] hone
      have hext' : ∀ b, hidE ext H hid m b → b < w.heap.size := by
        rintro b (h9 | ⟨k', z', _, h2, h3⟩)
        · exact hext b h9
        · exact (hheap.sep k' z' b h2 h3).2
      have hcall := (h c[j0]).ret (hidE ext H hid m) m w vs hext' ⟨fun k z hz => by (cases hz), fun k k' x x' b hx => by (cases hx), fun k x b hx => by (cases hx)⟩ (by rw [hvs]; rfl) (by
        intro j v x hv hx
        match j, hx with
        | 0, hx =>
          cases hx
          rw [Array.getElem?_eq_getElem hsz, hv0] at hv
          cases hv
          refine .iptr (cs := c) (fun j => c.getD j undef) ⟨not_hid hheap hk hmk hkh, own_nil, t, (0, 0), hw⟩ g2 ?_ ?_
          · intro j x hx
            have hlt : j < c.size := by rw [hn, ← g1]; exact (List.getElem?_eq_some_iff.1 hx).1
            rw [Nat.zero_add, Array.getD_eq_getD_getElem?, Array.getElem?_eq_getElem hlt]; rfl
          · intro j x hx
            have hlt : j < c.size := by rw [hn, ← g1]; exact (List.getElem?_eq_some_iff.1 hx).1
            obtain ⟨y, hy⟩ := get_of_length g1 hx
            have hcv : c[j]? = some (c.getD j undef) := by rw [Array.getD_eq_getD_getElem?, Array.getElem?_eq_getElem hlt]; rfl
            rcases g3 j y x hy hx with ⟨rfl, rfl⟩ | hl
            · have : c.getD j undef = c[j] := by rw [Array.getElem?_eq_getElem hlt] at hcv; exact (Option.some.inj hcv).symm
              rw [this]; exact .v _
            · exact hl.rep hheap (hrr j _ y hcv hy) noKeys)
      refine Calls.mono hcall ?_
      rintro e w' ⟨v, m', rfl, hf, hh, hnew, hkeep, hres⟩
      have hkeepB : ∀ b, b < w.heap.size → w'.heap[b]? = w.heap[b]? := fun b hb => hf.keep b hb own_nil
      have hframe : Frame (Own H m) w w' := ⟨hf.os, hf.tape, hf.output, hf.size, hf.sz, fun b hb _ => hkeepB b hb⟩
      have him := im_mono (ext := ext) hframe (hp' := H) (m' := m) (fun k x b hk hb => .inl ⟨k, x, hk, hb⟩)
      refine ⟨v, m, rfl, hframe, ⟨?_, hheap.inj, ?_⟩, fun k x b hk hb => .inl ⟨k, x, hk, hb⟩, fun _ _ _ _ _ => rfl, ?_⟩
      · intro k z hz
        exact BlkRep.mono (w := w) him hf.sz (fun _ _ _ h => h) rfl (fun b hb => hkeepB b (hheap.sep k z b hz hb).2) (hheap.blk k z hz)
      · intro k z b hz hb
        have := hheap.sep k z b hz hb
        exact ⟨this.1, Nat.lt_of_lt_of_le this.2 hf.size⟩
      · refine rep_li hr ?_ hres
        rintro b2 cs2 o kk z ho ⟨g1, g2, t2, fl, g3⟩
        refine ⟨fun h9 => g1 (.inl h9), ?_, t2, fl, g3⟩
        rintro ⟨k2, y, hk2, hb2⟩
        have hlt := fun b hb => (hheap.sep k2 _ b hk2 hb).2
        have h3 := hheap.blk k2 _ hk2
        rw [hb2] at h3
        rcases hH k2 y hk2 with h9 | ⟨cl, rfl, hcl⟩ | ⟨vs2, rfl, hvl⟩
        · exact g1 (.inr ⟨k2, y, h9, hk2, hb2⟩)
        · cases h3 with
          | @box _ _ c2 t' hw2 hn2 h12 hrr2 =>
            have hcc : c2 = cs2 := by
              rw [hkeepB b2 (hlt b2 hb2), hw2] at g3
              injection g3 with g3
              injection g3
            subst hcc
            have ho' : o < c2.size := (Array.getElem?_eq_some_iff.1 ho).1
            have hx := List.getElem?_eq_getElem (l := cl) (i := o) (by omega)
            exact rep_noInt (List.all_eq_true.1 hcl _ (List.mem_of_getElem? hx)) (hrr2 o _ _ ho hx) kk z rfl
        · cases h3 with
          | @vec _ _ c2 t' hw2 hc2 h12 =>
            have hcc : c2 = cs2 := by
              rw [hkeepB b2 (hlt b2 hb2), hw2] at g3
              injection g3 with g3
              injection g3
            subst hcc
            have : Value.int kk z ∈ vs2 := by rw [← hc2]; exact Array.mem_toList_iff.2 (Array.mem_of_getElem? ho)
            exact hvl _ this kk z rfl
end Go.Lw
namespace Go.Lw
open Go.Proofs
/-- Marks as a block holds them. -/
def bv (xs : List Bool) : List Value := xs.map .bool
theorem len_bv (xs : List Bool) : (bv xs).length = xs.length := List.length_map _
theorem bv_set (xs : List Bool) (n : Nat) : (bv xs).set n (.bool true) = bv (xs.set n true) := by unfold bv; rw [List.map_set]
theorem bv_no (xs : List Bool) : ∀ v ∈ bv xs, ∀ kk z, v ≠ .int kk z := by
 intro v hv kk z
 obtain ⟨b, _, rfl⟩ := List.mem_map.1 hv
 exact fun h => by cases h
theorem bv_av (xs : List Bool) : (bv xs).map AV.v = xs.map bl := by unfold bv; rw [List.map_map]; rfl
theorem bv_rep (n : Nat) : List.replicate n (Value.bool false) = bv (List.replicate n false) := by unfold bv; rw [List.map_replicate]
theorem ints_li (xs : List Int) : (xs.map i64).all isInt = true := by
 rw [List.all_eq_true]
 intro x hx
 obtain ⟨b, _, rfl⟩ := List.mem_map.1 hx
 rfl
theorem gr_li (g : Gr) (b : Bool) : (AV.tup [g.av, bl b]).li = true := by
 simp only [AV.li, AV.lis, Gr.av, ints_li]
 rfl
/-- What the finder owns. -/
def fdB (l : Li) (n : Nat) : Blk := .box (l.av.cells ++ [.ms 23 1 0 l.bodies.length, .ms 27 1 0 l.bodies.length, .ms 31 1 0 l.joints.length, .ms 900 4 0 n])
def fdH (l : Li) (known used : List Bool) (out : List Gr) : Hp :=
  [(33, some (fdB l out.length)), (23, some (.vec (bv known))), (27, some (.vec (bv (drivenL l)))), (31, some (.vec (bv used))), (900, some (.row 4 (out.map Gr.av)))]
theorem sl_all {xs : List Bool} {n : Nat} (h : xs.length = n) : AV.lst 1 ((((bv xs).drop 0).take n).map .v) = .lst 1 (xs.map bl) := by
 rw [List.drop_zero, List.take_of_length_le (by rw [len_bv]; omega), bv_av]
theorem c_find_next (l : Li) (hl : l.ok) (hli : liE l = 0) (known used : List Bool) (hk : known.length = l.bodies.length) (hu : used.length = l.joints.length) (hm : l.bodies.length ≤ maxL ∧ l.joints.length ≤ maxL) (out : List Gr) :
  Con Tryz.prog 207 [.ptr 33 0] (fdH l known used out) (.tup [((nextG l known).getD default).av, bl (nextG l known).isSome]) (fdH l known used out) := by
 refine Con.lend (cs := l.av.cells ++ [.ms 23 1 0 l.bodies.length, .ms 27 1 0 l.bodies.length, .ms 31 1 0 l.joints.length, .ms 900 4 0 out.length])
  (cs' := fun v => fdC l known (drivenL l) [.lst 1 (used.map bl), .v v]) [900] 7 rfl (by decide) ?_ (by simp [Li.av, AV.cells]) ?_ (gr_li _ _) (fun v => c_g_next l hl hli known hk _)
 ·intro v hv
  refine ⟨rfl, ?_, ?_⟩
  ·intro j x hx
   match j, hx with
   | 0, hx => cases hx; rfl
   | 1, hx => cases hx; rfl
   | 2, hx => cases hx; rfl
   | 3, hx => cases hx; rfl
   | 4, hx => cases hx; rfl
   | 5, hx => cases hx; rfl
   | 6, hx => cases hx; rfl
   | 7, hx => cases hx; exact hv
   | j + 8, hx => cases hx
  ·intro j x x' hx hx'
   match j, hx, hx' with
   | 0, hx, hx' => cases hx; cases hx'; exact .inr (.same rfl)
   | 1, hx, hx' => cases hx; cases hx'; exact .inr (.same rfl)
   | 2, hx, hx' => cases hx; cases hx'; exact .inr (.same rfl)
   | 3, hx, hx' => cases hx; cases hx'; exact .inr (.same rfl)
   | 4, hx, hx' =>
    cases hx; cases hx'
    have h := Lent.ms (H := fdH l known used out) (hid := [900]) (k := 23) (off := 0) (len := l.bodies.length) (vs := bv known) rfl (by decide) (by rw [len_bv]; omega) (by rw [len_bv]; omega)
    rw [sl_all hk] at h
    exact .inr h
   | 5, hx, hx' =>
    cases hx; cases hx'
    have h := Lent.ms (H := fdH l known used out) (hid := [900]) (k := 27) (off := 0) (len := l.bodies.length) (vs := bv (drivenL l)) rfl (by decide) (by rw [len_bv, len_driven]; omega) (by rw [len_bv, len_driven]; omega)
    rw [sl_all (len_driven l)] at h
    exact .inr h
   | 6, hx, hx' =>
    cases hx; cases hx'
    have h := Lent.ms (H := fdH l known used out) (hid := [900]) (k := 31) (off := 0) (len := l.joints.length) (vs := bv used) rfl (by decide) (by rw [len_bv]; omega) (by rw [len_bv]; omega)
    rw [sl_all hu] at h
    exact .inr h
   | 7, hx, hx' => cases hx; cases hx'; exact .inl ⟨rfl, rfl⟩
   | j + 8, hx, hx' => cases hx
 ·intro k z hz
  simp only [fdH, lk_cons] at hz
  split at hz
  ·cases hz; exact .inr (.inl ⟨_, rfl, rfl⟩)
  split at hz
  ·cases hz; exact .inr (.inr ⟨_, rfl, bv_no _⟩)
  split at hz
  ·cases hz; exact .inr (.inr ⟨_, rfl, bv_no _⟩)
  split at hz
  ·cases hz; exact .inr (.inr ⟨_, rfl, bv_no _⟩)
  split at hz
  ·subst_vars; exact .inl (by decide)
  ·cases hz
/-- What find leaves. -/
def fdR (l : Li) : AV := if liE l = 0 then .iptr (fdC l (restK l) (drivenL l) [.lst 1 ((restJ l).map bl), .lst 4 ((findG l).map Gr.av)]) else .v (.pointer none)
/-- The joints that are used. -/
def usedL (l : Li) (out : List Gr) : List Bool := out.foldl (fun k g => markAll k g.joints) (List.replicate l.joints.length false)
theorem len_used (l : Li) (out : List Gr) : (usedL l out).length = l.joints.length := by unfold usedL; rw [len_fold, List.length_replicate]
theorem used_app (l : Li) (out : List Gr) (g : Gr) : usedL l (out ++ [g]) = markAll (usedL l out) g.joints := by unfold usedL; rw [List.foldl_append]; rfl
theorem mark_take {k : List Bool} {bs : List Int} {i : Nat} {b : Int} (h : bs[i]? = some b) : markAll k (bs.take (i + 1)) = (markAll k (bs.take i)).set b.toNat true := by
 unfold markAll
 rw [take_succ_get h, List.foldl_append]; rfl
theorem find_more {l : Li} (hli : liE l = 0) {known : List Bool} {out : List Gr} {g : Gr} (hk : known.length = l.bodies.length) (h : findFrom l (unk known) known out = (restK l, findG l)) (hg : nextG l known = some g) :
  findFrom l (unk (markAll known g.bodies)) (markAll known g.bodies) (out ++ [g]) = (restK l, findG l) := by
 have hlt := nextG_less hli hk hg
 obtain ⟨n, hn⟩ : ∃ n, unk known = n + 1 := ⟨unk known - 1, by omega⟩
 rw [hn] at h
 unfold findFrom at h
 rw [hg] at h
 rw [← h]
 exact findFrom_more hli _ _ _ _ (by rw [len_mark]; exact hk) (Nat.le_refl _) (by omega)
theorem find_end {l : Li} {known : List Bool} {out : List Gr} (h : findFrom l (unk known) known out = (restK l, findG l)) (hg : nextG l known = none) : known = restK l ∧ out = findG l := by
 cases hn : unk known with
 | zero => rw [hn] at h; exact ⟨(Prod.mk.inj h).1, (Prod.mk.inj h).2⟩
 | succ n => rw [hn] at h; unfold findFrom at h; rw [hg] at h; exact ⟨(Prod.mk.inj h).1, (Prod.mk.inj h).2⟩
theorem unk_only {n : Nat} : unk (onlyK n 0) ≤ n := by
 unfold unk
 exact Nat.le_trans List.countP_le_length (Nat.le_of_eq (len_only _ _))
theorem find_start {l : Li} (hli : liE l = 0) : findFrom l (unk (onlyK l.bodies.length 0)) (onlyK l.bodies.length 0) [] = (restK l, findG l) := by
 rw [← find_restK]
 exact findFrom_more hli _ _ _ _ (len_only _ _) (Nat.le_refl _) unk_only
/-- Out of room the search finds nothing more. -/
theorem out_le {l : Li} (hli : liE l = 0) {known : List Bool} {out : List Gr} (hk : known.length = l.bodies.length) (h : findFrom l (unk known) known out = (restK l, findG l)) : out.length ≤ 8 := by
 obtain ⟨gs, e⟩ := findFrom_known (l := l) (unk known) known out
 rw [e] at h
 have h1 := (findG_ok hli).2
 have h2 : out ++ gs = findG l := (Prod.mk.inj h).2
 rw [← h2, List.length_append] at h1; omega
/-- The finder is not written any more. -/
theorem wk_finder (l : Li) (known used : List Bool) (out : List Gr) (hk : known.length = l.bodies.length) (hu : used.length = l.joints.length) (hm : l.bodies.length ≤ maxL ∧ l.joints.length ≤ maxL) :
  Wk ⟨[(5, some (.ptr 33 0))], fdH l known used out⟩ ⟨[(5, some (.iptr (fdC l known (drivenL l) [.lst 1 (used.map bl), .lst 4 (out.map Gr.av)])))], []⟩ := by
 have hd := len_driven l
 have q1 : .ms 23 1 0 l.bodies.length = AV.ms 23 1 0 ((bv known).map AV.v).length := by rw [List.length_map, len_bv, hk]
 refine (Wk.of (sl := [(5, some (.ptr 33 0))]) (hp := [(33, some (fdB l out.length)), (23, some (.row 1 ((bv known).map .v))), (27, some (.row 1 ((bv (drivenL l)).map .v))), (31, some (.row 1 ((bv used).map .v))), (900, some (.row 4 (out.map Gr.av)))])
  (.k .nil) (.cons rfl (.refl _) (.cons rfl (.vecRow (by rw [len_bv]; omega)) (.cons rfl (.vecRow (by rw [len_bv]; omega)) (.cons rfl (.vecRow (by rw [len_bv]; omega)) (.cons rfl (.refl _) .nil)))))).trans ?_
 refine (Wk.freeze (k := 23) rfl).trans ?_
 refine (Wk.of (sl := [(5, some (.ptr 33 0))]) (hp := [(33, some (.box (l.av.cells ++ [.lst 1 (known.map bl), .ms 27 1 0 l.bodies.length, .ms 31 1 0 l.joints.length, .ms 900 4 0 out.length]))), (27, some (.row 1 ((bv (drivenL l)).map .v))), (31, some (.row 1 ((bv used).map .v))), (900, some (.row 4 (out.map Gr.av)))])
  (.k .nil) (.cons rfl (BlkSub.boxL (.cons (.refl _) (.cons (.refl _) (.cons (.refl _) (.cons (.refl _) (.cons (.of ((fz_all (by rw [List.length_map, len_bv, hk])).trans (by rw [bv_av]))) (.cons (.refl _) (.cons (.refl _) (.cons (.refl _) .nil)))))))) rfl) (.cons rfl (.refl _) (.cons rfl (.refl _) (.cons rfl (.refl _) .nil))))).trans ?_
 refine (Wk.freeze (k := 27) rfl).trans ?_
 refine (Wk.of (sl := [(5, some (.ptr 33 0))]) (hp := [(33, some (.box (l.av.cells ++ [.lst 1 (known.map bl), .lst 1 ((drivenL l).map bl), .ms 31 1 0 l.joints.length, .ms 900 4 0 out.length]))), (31, some (.row 1 ((bv used).map .v))), (900, some (.row 4 (out.map Gr.av)))])
  (.k .nil) (.cons rfl (BlkSub.boxL (.cons (.refl _) (.cons (.refl _) (.cons (.refl _) (.cons (.refl _) (.cons (.refl _) (.cons (.of ((fz_all (by rw [List.length_map, len_bv, hd])).trans (by rw [bv_av]))) (.cons (.refl _) (.cons (.refl _) .nil)))))))) rfl) (.cons rfl (.refl _) (.cons rfl (.refl _) .nil)))).trans ?_
 refine (Wk.freeze (k := 31) rfl).trans ?_
 refine (Wk.of (sl := [(5, some (.ptr 33 0))]) (hp := [(33, some (.box (l.av.cells ++ [.lst 1 (known.map bl), .lst 1 ((drivenL l).map bl), .lst 1 (used.map bl), .ms 900 4 0 out.length]))), (900, some (.row 4 (out.map Gr.av)))])
  (.k .nil) (.cons rfl (BlkSub.boxL (.cons (.refl _) (.cons (.refl _) (.cons (.refl _) (.cons (.refl _) (.cons (.refl _) (.cons (.refl _) (.cons (.of ((fz_all (by rw [List.length_map, len_bv, hu])).trans (by rw [bv_av]))) (.cons (.refl _) .nil)))))))) rfl) (.cons rfl (.refl _) .nil))).trans ?_
 refine (Wk.freeze (k := 900) rfl).trans ?_
 refine (Wk.of (sl := [(5, some (.ptr 33 0))]) (hp := [(33, some (.box (fdC l known (drivenL l) [.lst 1 (used.map bl), .lst 4 (out.map Gr.av)])))])
  (.k .nil) (.cons rfl (BlkSub.boxL (.cons (.refl _) (.cons (.refl _) (.cons (.refl _) (.cons (.refl _) (.cons (.refl _) (.cons (.refl _) (.cons (.refl _) (.cons (.of (fz_all (by rw [List.length_map]))) .nil)))))))) rfl) .nil)).trans ?_
 refine (Wk.freezeB (k := 33) rfl rfl).trans ?_
 exact Wk.of (.k .nil) .nil
theorem c_g_find (l : Li) (hl : l.ok) : FnC Tryz.prog 145 [l.av] (.tup [fdR l, errA (liE l)]) := by
 refine gF0 Tryz.func145 ?_
 refine gc (c_model_Check l hl) ?_
 refine gC (fun ht17 => ?_) (fun ht17 => ?_)
 ·have h1 := nNil_t ht17
  refine gE2 ?_
  unfold fdR; rw [if_neg h1]
 ·have hli := nNil_f ht17
  have h8 := (li_parts hli).2.2.2.1
  have h0 := (li_parts hli).2.2.2.2
  have hj16 : l.joints.length ≤ 16 := by have := (li_parts hli).2.1; unfold jtsE at this; split at this; cases this; omega
  have hld := hl.ld
  have hm : l.bodies.length ≤ maxL ∧ l.joints.length ≤ maxL := by unfold maxL; omega
  refine gl ?_
  refine gs (s_makeV (.tmp rfl) T222 rfl T4 rfl rfl rfl rfl (by dsimp only; omega) rfl) ?_
  refine gl ?_
  refine gs (s_makeV (.tmp rfl) T222 rfl T4 rfl rfl rfl rfl (by dsimp only; omega) rfl) ?_
  refine gl ?_
  refine gs (s_makeV (.tmp rfl) T222 rfl T4 rfl rfl rfl rfl (by dsimp only; omega) rfl) ?_
  refine gD ?_
  refine gs (s_idxMs0 (n := 0) (.tmp rfl) (.const _) T222 rfl T4 rfl rfl (by omega) rfl) ?_
  refine gs (s_stVec (.tmp rfl) rfl (by rw [List.length_replicate]; omega) (.const _) rfl T4 rfl) ?_ (6, 0)
  refine gW (Wk.of (sl := [(1, some (.ptr 1 0)), (5, some (.ptr 33 0))]) (hp := [(1, some (.box l.av.cells)), (33, some (.box (l.av.cells ++ [.ms 23 1 0 l.bodies.length, .ms 27 1 0 l.bodies.length, .ms 31 1 0 l.joints.length, .v (.slice none 0 0)]))), (23, some (.vec (bv (onlyK l.bodies.length 0)))), (27, some (.vec (bv (List.replicate l.bodies.length false)))), (31, some (.vec (bv (List.replicate l.joints.length false))))]) (by repeat (first | exact SlW.nil | refine SlW.k ?_)) (.cons rfl (.refl _) (.cons rfl (.refl _) (.cons rfl (BlkSub.of (by rw [bv_rep, bv_set]; rfl)) (.cons rfl (BlkSub.of (by rw [bv_rep])) (.cons rfl (BlkSub.of (by rw [bv_rep])) .nil)))))) ?_
  refine gl ?_
  refine gL1 [1, 5, 40, 41] [1, 23, 31] (fun (i : Nat) => [(42, some (i64 i))]) (fun i => [(33, some (.box (l.av.cells ++ [.ms 23 1 0 l.bodies.length, .ms 27 1 0 l.bodies.length, .ms 31 1 0 l.joints.length, .v (.slice none 0 0)]))), (27, some (.vec (bv (markAll (List.replicate l.bodies.length false) ((l.drivers.map Dr.body).take i)))))]) (fun i => i ≤ l.drivers.length) (fun i => l.drivers.length - i) 0 (Nat.zero_le _) ?_
  rintro i hi K1 hK1
  refine gC (fun ht43 => ?_) (fun ht43 => ?_) (st2 := (11, 0))
  ·have hin := lss_t ht43
   obtain ⟨d, hd⟩ := getx hin
   have hb := inB_t (dr_in hli hd)
   have hmt := mark_take (k := List.replicate l.bodies.length false) (bs := l.drivers.map Dr.body) (i := i) (b := d.body) (by rw [List.getElem?_map, hd]; rfl)
   refine gi (getmap hd) ?_
   refine gs (s_idxMs0 (n := d.body.toNat) (.tmp rfl) (.tmp rfl) T222 rfl T4 rfl (by omega) (by omega) rfl) ?_
   refine gs (s_stVec (.tmp rfl) rfl (by rw [len_bv, len_mark, List.length_replicate]; omega) (.const _) rfl T4 rfl) ?_
   refine gD ?_
   refine ga (i64_add1 (by unfold maxL; omega)) ?_
   exact gK1 hK1 (i + 1) hin (hw := Wk.of (by repeat (first | exact SlW.nil | refine SlW.k ?_)) (.cons rfl (.refl _) (.cons rfl (BlkSub.of (by rw [bv_set, hmt])) (.cons rfl (.refl _) (.cons rfl (.refl _) (.cons rfl (.refl _) .nil))))))
  ·have hin := lss_end hi ht43
   have hall : markAll (List.replicate l.bodies.length false) ((l.drivers.map Dr.body).take i) = drivenL l := by rw [hin]; unfold drivenL; rw [List.take_of_length_le (by rw [List.length_map]; omega)]
   refine gW ((Wk.virt 900 4 rfl).trans <| Wk.of (sl := [(1, some (.ptr 1 0)), (5, some (.ptr 33 0))]) (hp := [(33, some (fdB l 0)), (23, some (.vec (bv (onlyK l.bodies.length 0)))), (27, some (.vec (bv (drivenL l)))), (31, some (.vec (bv (List.replicate l.joints.length false)))), (900, some (.row 4 []))]) (by repeat (first | exact SlW.nil | refine SlW.k ?_)) (.cons rfl (BlkSub.boxL (.cons (.refl _) (.cons (.refl _) (.cons (.refl _) (.cons (.refl _) (.cons (.refl _) (.cons (.refl _) (.cons (.refl _) (.cons (Sub.nilMs _ _ _) .nil)))))))) rfl) (.cons rfl (.refl _) (.cons rfl (BlkSub.of (by rw [hall])) (.cons rfl (.refl _) (.cons rfl (.refl _) .nil)))))) ?_
   refine gt (s_callH (c_find_next l hl hli (onlyK l.bodies.length 0) (List.replicate l.joints.length false) (len_only _ _) List.length_replicate hm []) (.cons (.tmp rfl) .nil) (fun k z h => h) rfl rfl) ?_
   refine gL2 [5, 8] [] (fun (known : List Bool) (out : List Gr) => [(9, some (bl (nextG l known).isSome))]) (fun known out => [(8, some (.box ((nextG l known).getD default).av.cells)), (33, some (fdB l out.length)), (23, some (.vec (bv known))), (27, some (.vec (bv (drivenL l)))), (31, some (.vec (bv (usedL l out)))), (900, some (.row 4 (out.map Gr.av)))]) (fun known out => known.length = l.bodies.length ∧ findFrom l (unk known) known out = (restK l, findG l)) (fun known _ => unk known) (onlyK l.bodies.length 0) ([]) ⟨len_only _ _, find_start hli⟩ ?_
   rintro known out ⟨hk, hf⟩ K2 hK2
   refine gC (fun ht59 => ?_) (fun ht59 => ?_) (st1 := (77777, 0)) (st2 := (27, 0))
   ·obtain ⟨g, hg⟩ := some_of ht59
    have hgo := nextG_ok hli hg
    have hout := out_le hli hk hf
    refine gW (Wk.of (sl := [(5, some (.ptr 33 0)), (8, some (.ptr 8 0))]) (hp := [(8, some (.box g.av.cells)), (33, some (fdB l out.length)), (23, some (.vec (bv known))), (27, some (.vec (bv (drivenL l)))), (31, some (.vec (bv (usedL l out)))), (900, some (.row 4 (out.map Gr.av)))]) (by repeat (first | exact SlW.nil | refine SlW.k ?_)) (.cons rfl (BlkSub.of (by rw [hg]; rfl)) (.cons rfl (.refl _) (.cons rfl (.refl _) (.cons rfl (.refl _) (.cons rfl (.refl _) (.cons rfl (.refl _) .nil))))))) ?_
    refine gl ?_
    refine gL1 [5, 8, 66, 67] [8, 33, 27, 31, 900] (fun (j : Nat) => [(68, some (i64 j))]) (fun j => [(23, some (.vec (bv (markAll known (g.bodies.take j)))))]) (fun j => j ≤ g.bodies.length) (fun j => g.bodies.length - j) 0 (Nat.zero_le _) ?_
    rintro j hj K3 hK3
    refine gC (fun ht69 => ?_) (fun ht69 => ?_)
    ·have hin := lss_t ht69
     obtain ⟨b, hb⟩ := getx hin
     have hbb := hgo.b b (List.mem_of_getElem? hb)
     have hlb := hgo.lb
     refine gi (getmap hb) ?_
     refine gs (s_idxMs0 (n := b.toNat) (.tmp rfl) (.tmp rfl) T222 rfl T4 rfl (by omega) (by omega) rfl) ?_
     refine gs (s_stVec (.tmp rfl) rfl (by rw [len_bv, len_mark]; omega) (.const _) rfl T4 rfl) ?_
     refine ga (i64_add1 (by unfold maxL; omega)) ?_
     exact gK1 hK3 (j + 1) hin (hw := Wk.of (by repeat (first | exact SlW.nil | refine SlW.k ?_)) (.cons rfl (BlkSub.of (by rw [bv_set, mark_take hb])) (.cons rfl (.refl _) (.cons rfl (.refl _) (.cons rfl (.refl _) (.cons rfl (.refl _) (.cons rfl (.refl _) .nil)))))))
    ·have hin := lss_end hj ht69
     subst hin
     refine gl ?_
     refine gL1 [5, 8, 80, 81] [8, 33, 27, 900] (fun (q : Nat) => [(82, some (i64 q))]) (fun q => [(23, some (.vec (bv (markAll known g.bodies)))), (31, some (.vec (bv (markAll (usedL l out) (g.joints.take q)))))]) (fun q => q ≤ g.joints.length) (fun q => g.joints.length - q) 0 (Nat.zero_le _) ?_ (h2 := (.cons rfl (BlkSub.of (by rw [List.take_length])) (.cons rfl (.refl _) .nil)))
     rintro q hq K4 hK4
     refine gC (fun ht83 => ?_) (fun ht83 => ?_)
     ·have hin := lss_t ht83
      obtain ⟨b, hb⟩ := getx hin
      have hbb := hgo.j b (List.mem_of_getElem? hb)
      have hlj := hgo.lj
      refine gi (getmap hb) ?_
      refine gs (s_idxMs0 (n := b.toNat) (.tmp rfl) (.tmp rfl) T222 rfl T4 rfl (by omega) (by omega) rfl) ?_
      refine gs (s_stVec (.tmp rfl) rfl (by rw [len_bv, len_mark, len_used]; omega) (.const _) rfl T4 rfl) ?_
      refine ga (i64_add1 (by unfold maxL; omega)) ?_
      exact gK1 hK4 (q + 1) hin (hw := Wk.of (by repeat (first | exact SlW.nil | refine SlW.k ?_)) (.cons rfl (.refl _) (.cons rfl (BlkSub.of (by rw [bv_set, mark_take hb])) (.cons rfl (.refl _) (.cons rfl (.refl _) (.cons rfl (.refl _) (.cons rfl (.refl _) .nil)))))))
     ·have hin := lss_end hq ht83
      subst hin
      refine gs (s_append (.tmp rfl) rfl (by rw [List.length_map]) (.tmp rfl) T137 rfl T166 rfl rfl (by simp only [List.length_cons, List.length_nil]; omega) rfl rfl) ?_
      refine gD ?_ (25, 0)
      refine gW (Wk.of (sl := [(5, some (.ptr 33 0)), (8, some (.ptr 8 0))]) (hp := [(8, some (.box g.av.cells)), (33, some (.box (l.av.cells ++ [.ms 23 1 0 l.bodies.length, .ms 27 1 0 l.bodies.length, .ms 31 1 0 l.joints.length, .ms 100 4 0 (out ++ [g]).length]))), (100, some (.row 4 ((out ++ [g]).map Gr.av))), (23, some (.vec (bv (markAll known g.bodies)))), (27, some (.vec (bv (drivenL l)))), (31, some (.vec (bv (usedL l (out ++ [g])))))]) (by repeat (first | exact SlW.nil | refine SlW.k ?_)) (.cons rfl (.refl _) (.cons rfl (BlkSub.of (by rw [List.length_append]; rfl)) (.cons rfl (BlkSub.of (by rw [List.map_append]; rfl)) (.cons rfl (.refl _) (.cons rfl (.refl _) (.cons rfl (BlkSub.of (by rw [used_app, List.take_length])) .nil))))))) ?_ (25, 0)
      refine gW (Wk.rekey (k := 100) (d := 900) rfl rfl) ?_ (26, 0)
      refine gW (Wk.o (sl := [(5, some (.ptr 33 0)), (103, some (g.av))]) (hp := [(33, some (fdB l (out ++ [g]).length)), (23, some (.vec (bv (markAll known g.bodies)))), (27, some (.vec (bv (drivenL l)))), (31, some (.vec (bv (usedL l (out ++ [g]))))), (900, some (.row 4 ((out ++ [g]).map Gr.av)))])) ?_
      refine gt (s_callH (c_find_next l hl hli (markAll known g.bodies) (usedL l (out ++ [g])) (by rw [len_mark]; exact hk) (len_used _ _) hm (out ++ [g])) (.cons (.tmp rfl) .nil) (by intro k z h; simp only [fdH, lk_cons] at h; split at h; (subst_vars; exact h); split at h; (subst_vars; exact h); split at h; (subst_vars; exact h); split at h; (subst_vars; exact h); split at h; (subst_vars; exact h); cases h) rfl rfl) ?_
      exact gK2 hK2 (markAll known g.bodies) (out ++ [g]) ⟨by rw [len_mark]; exact hk, find_more hli hk hf hg⟩ (nextG_less hli hk hg)
   ·have hg := none_of ht59
    obtain ⟨e1, e2⟩ := find_end hf hg
    subst e1 e2
    refine gW (Wk.o (sl := [(5, some (.ptr 33 0))]) (hp := [(33, some (fdB l (findG l).length)), (23, some (.vec (bv (restK l)))), (27, some (.vec (bv (drivenL l)))), (31, some (.vec (bv (usedL l (findG l))))), (900, some (.row 4 ((findG l).map Gr.av)))])) ?_ (27, 0)
    refine gW (wk_finder l (restK l) (usedL l (findG l)) (findG l) hk (len_used _ _) hm) ?_
    refine gE2 ?_
    unfold fdR; rw [if_pos hli, hli]; rfl
end Go.Lw
namespace Go.Lw
open Go.Proofs
theorem ix_any {α : Type} [BEq α] [LawfulBEq α] {xs : List α} {b : α} {ok : Nat → Bool} (h : ∀ i x, xs[i]? = some x → ok i = !(b == x)) : decide (0 ≤ ixI (firstB xs.length ok)) = xs.contains b := by
 cases hf : firstB xs.length ok with
 | some i =>
  obtain ⟨h1, h2⟩ := firstB_some hf
  obtain ⟨x, hx⟩ := getx h1
  rw [h i x hx] at h2
  have : b = x := by simpa using h2
  subst this
  rw [List.contains_iff_mem.2 (List.mem_of_getElem? hx)]
  exact decide_eq_true (by show (0 : Int) ≤ (i : Int); omega)
 | none =>
  rw [decide_eq_false (by show ¬ (0 : Int) ≤ -1; decide)]
  symm
  rw [← Bool.not_eq_true, List.contains_iff_mem]
  intro hm
  obtain ⟨i, hi⟩ := List.mem_iff_getElem?.1 hm
  have hlt := (List.getElem?_eq_some_iff.1 hi).1
  unfold firstB at hf
  rw [List.find?_eq_none] at hf
  have := hf i (List.mem_range.2 hlt)
  rw [h i b hi] at this
  simp at this
theorem c_index_bool (xs : List Bool) (b : Bool) (hl : xs.length ≤ 281474976710656) : FnC Tryz.prog 208 [.lst 1 (xs.map bl), bl b] (i64 (ixI (firstB xs.length (fun i => !(b == xs.getD i false))))) := by
 refine gF0 Tryz.func208 ?_
 refine gl ?_
 refine gL1 [0, 1, 7] [] (fun (i : Nat) => [(8, some (i64 i))]) (fun _ => []) (fun i => i ≤ xs.length ∧ ∀ j, j < i → (!(b == xs.getD j false)) = true) (fun i => xs.length - i) 0 ⟨Nat.zero_le _, fun j h => by omega⟩ ?_
 rintro i ⟨hi, hj⟩ K1 hK1
 refine gC (fun ht9 => ?_) (fun ht9 => ?_)
 ·have hin := lss_t ht9
  obtain ⟨x, hx⟩ := getx hin
  have hg : xs.getD i false = x := getD_of hx
  refine gi (getmap hx) ?_
  refine gC (fun ht16 => ?_) (fun ht16 => ?_)
  ·have h2 : (b == x) = true := ht16
   refine gE1 ?_
   rw [firstB_at hin hj (by rw [hg, h2]; rfl)]; rfl
  ·have h2 : (b == x) = false := ht16
   refine ga (i64_add1 (by unfold maxL; omega)) ?_
   exact gK1 hK1 (i + 1) ⟨hin, fun j h9 => by rcases Nat.lt_or_ge j i with g | g; exact hj j g; (have : j = i := by omega); subst this; rw [hg, h2]; rfl⟩
 ·have hin := lss_end hi ht9
  subst hin
  refine gE1 ?_
  rw [firstB_all hj]; rfl
theorem c_contains_bool (xs : List Bool) (b : Bool) (hl : xs.length ≤ 281474976710656) : FnC Tryz.prog 146 [.lst 1 (xs.map bl), bl b] (bl (xs.contains b)) := by
 refine gF0 Tryz.func146 ?_
 refine gc (c_index_bool xs b hl) ?_
 refine gE1 ?_
 rw [← ix_any (xs := xs) (b := b) (ok := fun i => !(b == xs.getD i false)) (fun i x hx => by rw [getD_of hx])]; rfl
theorem c_index_int (xs : List Int) (b : Int) (hl : xs.length ≤ 281474976710656) : FnC Tryz.prog 351 [.lst 1 (xs.map i64), i64 b] (i64 (ixI (firstB xs.length (fun i => !(b == xs.getD i 0))))) := by
 refine gF0 Tryz.func351 ?_
 refine gl ?_
 refine gL1 [0, 1, 7] [] (fun (i : Nat) => [(8, some (i64 i))]) (fun _ => []) (fun i => i ≤ xs.length ∧ ∀ j, j < i → (!(b == xs.getD j 0)) = true) (fun i => xs.length - i) 0 ⟨Nat.zero_le _, fun j h => by omega⟩ ?_
 rintro i ⟨hi, hj⟩ K1 hK1
 refine gC (fun ht9 => ?_) (fun ht9 => ?_)
 ·have hin := lss_t ht9
  obtain ⟨x, hx⟩ := getx hin
  have hg : xs.getD i 0 = x := getD_of hx
  refine gi (getmap hx) ?_
  refine gC (fun ht16 => ?_) (fun ht16 => ?_)
  ·have h2 : (b == x) = true := ht16
   refine gE1 ?_
   rw [firstB_at hin hj (by rw [hg, h2]; rfl)]; rfl
  ·have h2 : (b == x) = false := ht16
   refine ga (i64_add1 (by unfold maxL; omega)) ?_
   exact gK1 hK1 (i + 1) ⟨hin, fun j h9 => by rcases Nat.lt_or_ge j i with g | g; exact hj j g; (have : j = i := by omega); subst this; rw [hg, h2]; rfl⟩
 ·have hin := lss_end hi ht9
  subst hin
  refine gE1 ?_
  rw [firstB_all hj]; rfl
theorem c_contains_int (xs : List Int) (b : Int) (hl : xs.length ≤ 281474976710656) : FnC Tryz.prog 301 [.lst 1 (xs.map i64), i64 b] (bl (xs.contains b)) := by
 refine gF0 Tryz.func301 ?_
 refine gc (c_index_int xs b hl) ?_
 refine gE1 ?_
 rw [← ix_any (xs := xs) (b := b) (ok := fun i => !(b == xs.getD i 0)) (fun i x hx => by rw [getD_of hx])]; rfl
theorem c_g_Split (l : Li) (hl : l.ok) : FnC Tryz.prog 83 [l.av] (.tup [.lst 4 (((if liE l = 0 then splitG l else [])).map Gr.av), errA (if liE l = 0 then splitE l else liE l)]) := by
 refine gF0 Tryz.func83 ?_
 refine gc (c_g_find l hl) (hnm := (by unfold fdR; split <;> rfl)) ?_
 refine gC (fun ht12 => ?_) (fun ht12 => ?_) (st2 := (77777, 0))
 ·have h1 := nNil_t ht12
  refine gR ?_
  exact fin_sub (by rw [if_neg h1, if_neg h1]; exact Sub.tup (.cons (.nil _ _ _) (.cons (.refl _) .nil)))
 ·have hli := nNil_f ht12
  have h8 := (li_parts hli).2.2.2.1
  have hj16 : l.joints.length ≤ 16 := by have := (li_parts hli).2.1; unfold jtsE at this; split at this; cases this; omega
  have lk1 : (restK l).length = l.bodies.length := by unfold restK; rw [len_fold, len_only]
  have lk2 : (restJ l).length = l.joints.length := by unfold restJ; rw [len_fold, List.length_replicate]
  have e1 : fdR l = .iptr (fdC l (restK l) (drivenL l) [.lst 1 ((restJ l).map bl), .lst 4 ((findG l).map Gr.av)]) := by unfold fdR; rw [if_pos hli]
  have c1 := unm_zero (k := restK l)
  have c2 := unm_zero (k := restJ l)
  refine gW (Wk.of (sl := [(4, some (.iptr (fdC l (restK l) (drivenL l) [.lst 1 ((restJ l).map bl), .lst 4 ((findG l).map Gr.av)]))), (5, some (errA (liE l)))]) (hp := []) (.cons rfl (Sub.of e1) (.k .nil)) .nil) ?_
  refine gc (c_contains_bool (restK l) false (by omega)) ?_
  refine gcG (fun _ => (c_contains_bool (restJ l) false (by omega))) ?_
  refine gC (fun ht25 => ?_) (fun ht25 => ?_)
  ·have h2 : splitE l = 7 := by
    unfold splitE
    rw [if_neg]
    intro h
    have h3 : (restK l).contains false = false := c1.1 (by omega)
    have h4 : (restJ l).contains false = false := c2.1 (by omega)
    rw [h3, h4] at ht25; cases ht25
   refine gR ?_
   exact fin_sub (by rw [if_pos hli, if_pos hli]; unfold splitG; rw [if_neg (by rw [h2]; simp), h2]; exact Sub.tup (.cons (.nil _ _ _) (.cons (.refl _) .nil)))
  ·have h2 : splitE l = 0 := by
    unfold splitE
    rw [if_pos]
    cases h3 : (restK l).contains false <;> cases h4 : (restJ l).contains false <;> rw [h3, h4] at ht25 <;> first | (cases ht25; done) | (have g1 := c1.2 h3; have g2 := c2.2 h4; omega)
   refine gE2 ?_
   rw [if_pos hli, if_pos hli, h2]; unfold splitG; rw [if_pos h2]; rfl
end Go.Lw
namespace Go.Lw
open Go.Proofs
/-- The body outside of a group at a joint. -/
def anc (g : Gr) (j : Jt) : Int := if g.bodies.contains j.a = true then (if g.bodies.contains j.b = true then -1 else j.b) else j.a
def ancL (l : Li) (g : Gr) : List Int := g.joints.map (fun j => anc g (l.joints.getD j.toNat default))
theorem len_anc (l : Li) (g : Gr) : (ancL l g).length = g.joints.length := by unfold ancL; rw [List.length_map]
theorem anc_at {l : Li} {g : Gr} {i : Nat} {z : Int} {j : Jt} (hz : g.joints[i]? = some z) (hj : l.joints[z.toNat]? = some j) : (ancL l g)[i]? = some (anc g j) := by
 unfold ancL; rw [List.getElem?_map, hz, Option.map_some, getD_of hj]
theorem anc_take {l : Li} {g : Gr} {i : Nat} {z : Int} {j : Jt} {a : Int} (hz : g.joints[i]? = some z) (hj : l.joints[z.toNat]? = some j) (ha : anc g j = a) : ((ancL l g).take i).map i64 ++ [i64 a] = ((ancL l g).take (i + 1)).map i64 := by
 rw [take_succ_get (anc_at hz hj), ha, List.map_append]; rfl
theorem in_rng {z : Int} {n : Nat} (h0 : 0 ≤ z) (h1 : z < n) : cond (icmp .lss z 0) true (icmp .geq z (n : Int)) = false := by
 rw [show icmp .lss z 0 = false from decide_eq_false (by omega)]
 exact decide_eq_false (by omega)
theorem c_g_Anchors (l : Li) (hl : l.ok) (hli : liE l = 0) (g : Gr) (hg : GrOk l g) : Con Tryz.prog 241 [l.av, g.av] [] (.tup [.ms 900 1 0 g.joints.length, .v .nilIface]) [(900, some (.row 1 ((ancL l g).map i64)))] := by
 have hlb := hg.lb
 have hlj := hg.lj
 refine gF Tryz.func241 (fun k z h => by cases h) ?_
 refine gc (c_model_Check l hl) ?_
 refine gC (fun ht16 => ?_) (fun ht16 => ?_) (st1 := (3, 0))
 ·(rw [hli] at ht16; cases ht16)
 ·refine gl ?_
  refine gW ((Wk.virt 900 1 rfl).trans <| Wk.of (sl := [(2, some (.ptr 2 0)), (3, some (.ptr 3 0)), (7, some (.ms 900 1 0 0)), (19, some (.lst 1 (g.joints.map i64))), (20, some (i64 g.joints.length)), (21, some (i64 0))]) (hp := [(2, some (.box l.av.cells)), (3, some (.box g.av.cells)), (900, some (.row 1 []))]) (.k (.k (.cons rfl (Sub.nilMs _ _ _) (.k (.k (.k .nil)))))) (.cons rfl (.refl _) (.cons rfl (.refl _) (.cons rfl (.refl _) .nil)))) ?_
  refine gL1 [2, 3, 19, 20] [2, 3] (fun (i : Nat) => [(7, some (.ms 900 1 0 i)), (21, some (i64 i))]) (fun i => [(900, some (.row 1 (((ancL l g).take i).map i64)))]) (fun i => i ≤ g.joints.length) (fun i => g.joints.length - i) 0 (Nat.zero_le _) ?_
  rintro i hi K1 hK1
  refine gC (fun ht22 => ?_) (fun ht22 => ?_) (st2 := (18, 0))
  ·have hin := lss_t ht22
   obtain ⟨z, hz⟩ := getx hin
   obtain ⟨z0, z1⟩ := hg.j z (List.mem_of_getElem? hz)
   obtain ⟨j, hj⟩ : ∃ j, l.joints[z.toNat]? = some j := getx (by omega)
   have hlt : (((ancL l g).take i).map i64).length = i := by rw [List.length_map, List.length_take, len_anc]; omega
   refine gi (getmap hz) ?_
   refine glG ?_
   refine gC (fun ht33 => ?_) (fun ht33 => ?_) (st1 := (9, 0))
   ·(rw [in_rng z0 z1] at ht33; cases ht33)
   ·refine gi (getzx (n := z.toNat) (by omega) hj) ?_
    refine gc (c_contains_int g.bodies j.a (by omega)) ?_
    refine gc (c_contains_int g.bodies j.b (by omega)) ?_
    refine gD ?_
    refine gC (fun ht55 => ?_) (fun ht55 => ?_)
    ·have ha : anc g j = -1 := by unfold anc; cases h1 : g.bodies.contains j.a <;> cases h2 : g.bodies.contains j.b <;> rw [h1, h2] at ht55 <;> first | (cases ht55; done) | rfl
     refine gs (s_append (.tmp rfl) rfl hlt.symm (.tmp rfl) T26 rfl T3 rfl rfl (by simp only [List.length_cons, List.length_nil]; omega) rfl rfl) ?_ (17, 0)
     refine gW (Wk.of (sl := [(2, some (.ptr 2 0)), (3, some (.ptr 3 0)), (7, some (.ms 62 1 0 (i + 1))), (19, some (.lst 1 (g.joints.map i64))), (20, some (i64 g.joints.length)), (21, some (i64 i))]) (hp := [(2, some (.box l.av.cells)), (3, some (.box g.av.cells)), (62, some (.row 1 (((ancL l g).take (i + 1)).map i64)))]) (by repeat (first | exact SlW.nil | refine SlW.k ?_)) (.cons rfl (.refl _) (.cons rfl (.refl _) (.cons rfl (BlkSub.of (congrArg (Blk.row 1) (anc_take hz hj ha))) .nil)))) ?_ (17, 0)
     refine gW (Wk.rekey (k := 62) (d := 900) rfl rfl) ?_
     refine ga (i64_add1 (by unfold maxL; omega)) ?_
     exact gK1 hK1 (i + 1) hin
    ·refine gC (fun ht63 => ?_) (fun ht63 => ?_)
     ·have ha : anc g j = j.b := by unfold anc; cases h1 : g.bodies.contains j.a <;> cases h2 : g.bodies.contains j.b <;> rw [h1] at ht63 <;> rw [h1, h2] at ht55 <;> first | (cases ht55; done) | (cases ht63; done) | rfl
      refine gs (s_append (.tmp rfl) rfl hlt.symm (.tmp rfl) T26 rfl T3 rfl rfl (by simp only [List.length_cons, List.length_nil]; omega) rfl rfl) ?_ (17, 0)
      refine gW (Wk.of (sl := [(2, some (.ptr 2 0)), (3, some (.ptr 3 0)), (7, some (.ms 69 1 0 (i + 1))), (19, some (.lst 1 (g.joints.map i64))), (20, some (i64 g.joints.length)), (21, some (i64 i))]) (hp := [(2, some (.box l.av.cells)), (3, some (.box g.av.cells)), (69, some (.row 1 (((ancL l g).take (i + 1)).map i64)))]) (by repeat (first | exact SlW.nil | refine SlW.k ?_)) (.cons rfl (.refl _) (.cons rfl (.refl _) (.cons rfl (BlkSub.of (congrArg (Blk.row 1) (anc_take hz hj ha))) .nil)))) ?_ (17, 0)
      refine gW (Wk.rekey (k := 69) (d := 900) rfl rfl) ?_
      refine ga (i64_add1 (by unfold maxL; omega)) ?_
      exact gK1 hK1 (i + 1) hin
     ·have ha : anc g j = j.a := by unfold anc; rw [if_neg (by rw [show g.bodies.contains j.a = false from ht63]; simp)]
      refine gs (s_append (.tmp rfl) rfl hlt.symm (.tmp rfl) T26 rfl T3 rfl rfl (by simp only [List.length_cons, List.length_nil]; omega) rfl rfl) ?_ (17, 0)
      refine gW (Wk.of (sl := [(2, some (.ptr 2 0)), (3, some (.ptr 3 0)), (7, some (.ms 54 1 0 (i + 1))), (19, some (.lst 1 (g.joints.map i64))), (20, some (i64 g.joints.length)), (21, some (i64 i))]) (hp := [(2, some (.box l.av.cells)), (3, some (.box g.av.cells)), (54, some (.row 1 (((ancL l g).take (i + 1)).map i64)))]) (by repeat (first | exact SlW.nil | refine SlW.k ?_)) (.cons rfl (.refl _) (.cons rfl (.refl _) (.cons rfl (BlkSub.of (congrArg (Blk.row 1) (anc_take hz hj ha))) .nil)))) ?_ (17, 0)
      refine gW (Wk.rekey (k := 54) (d := 900) rfl rfl) ?_
      refine ga (i64_add1 (by unfold maxL; omega)) ?_
      exact gK1 hK1 (i + 1) hin
  ·have hin := lss_end hi ht22
   subst hin
   refine gW (Wk.of (sl := [(7, some (.ms 900 1 0 g.joints.length))]) (hp := [(900, some (.row 1 ((ancL l g).map i64)))]) (by repeat (first | exact SlW.nil | refine SlW.k ?_)) (.cons rfl (BlkSub.of (by rw [List.take_of_length_le (by rw [len_anc]; exact Nat.le_refl _)])) .nil)) ?_
   refine gR ?_
   exact Fin.keep (keep1 rfl)
end Go.Lw
namespace Go.Lw
def barB (s : ByteArray) (n : Int) : Bd := ⟨s, [⟨⟨#[97]⟩, rt ((0 : Int) : Rat), rt ((0 : Int) : Rat)⟩, ⟨⟨#[98]⟩, rt (n : Rat), rt ((0 : Int) : Rat)⟩]⟩
def fb : Li := ⟨⟨#[102, 111, 117, 114, 98, 97, 114]⟩, [barB ⟨#[102, 114, 97, 109, 101]⟩ 4, barB ⟨#[99, 114, 97, 110, 107]⟩ 3, barB ⟨#[99, 111, 117, 112, 108, 101, 114]⟩ 5, barB ⟨#[114, 111, 99, 107, 101, 114]⟩ 6],
  [⟨⟨#[111]⟩, 0, 1, 0, 0, 0, 0⟩, ⟨⟨#[112]⟩, 0, 2, 0, 1, 1, 0⟩, ⟨⟨#[113]⟩, 0, 3, 0, 0, 1, 0⟩, ⟨⟨#[114]⟩, 0, 2, 1, 3, 1, 0⟩], [⟨⟨#[100]⟩, 1⟩]⟩
def t0 : Tn := ⟨⟨false, [], []⟩, false⟩
theorem eqS_data (a b : ByteArray) : eqS a b = (a.data.toList == b.data.toList) := by
  unfold eqS; rw [Go.ByteArray.toList_eq, Go.ByteArray.toList_eq]
theorem fb_li : liE fb = 0 := by
  have h1 : bdsE fb = 0 := by
    unfold bdsE firstN bdE dupB mkE
    simp only [eqS_data]
    decide +kernel
  have h2 : jtsE fb = 0 := by
    unfold jtsE firstN jtE dupB
    simp only [eqS_data]
    decide +kernel
  have h3 : drsE fb = 0 := by
    unfold drsE firstN drE dupB
    simp only [eqS_data]
    decide +kernel
  unfold liE
  rw [h1, h2, h3]
  decide +kernel
theorem bar_okw {s : ByteArray} (hs : s.size ≤ 281474976710656) {n : Int} (hn : -9223372036854775808 ≤ n ∧ n ≤ 9223372036854775807) :
    (barB s n).name.size ≤ 281474976710656 ∧ (barB s n).pts.length ≤ 281474976710656 ∧ ∀ m ∈ (barB s n).pts, m.name.size ≤ 281474976710656 ∧ m.x.wok ∧ m.y.wok := by
  have h0 : (rt ((0 : Int) : Rat)).ok := (int_qs (by omega)).ok
  have h1 : (rt (n : Rat)).ok := (int_qs hn).ok
  refine ⟨hs, by show 2 ≤ _; omega, fun m hm => ?_⟩
  simp only [barB, List.mem_cons, List.not_mem_nil, or_false] at hm
  rcases hm with rfl | rfl
  · exact ⟨by show 1 ≤ _; omega, h0.wok, h0.wok⟩
  · exact ⟨by show 1 ≤ _; omega, h1.wok, h0.wok⟩
theorem fb_okw : fb.okw := by
  refine ⟨by decide, fun b hb => ?_, fun j hj => ?_, fun d hd => ?_, by decide, by decide, by decide⟩
  · simp only [fb, List.mem_cons, List.not_mem_nil, or_false] at hb
    rcases hb with rfl | rfl | rfl | rfl <;> exact bar_okw (by decide) (by omega)
  · simp only [fb, List.mem_cons, List.not_mem_nil, or_false] at hj
    rcases hj with rfl | rfl | rfl | rfl <;> decide
  · simp only [fb, List.mem_cons, List.not_mem_nil, or_false] at hd
    rcases hd with rfl; decide
theorem fb_ok : fb.ok := li_ok (by decide +kernel) fb_okw
end Go.Lw
namespace Go.Lw
open Go.Proofs
inductive FT (P : Program) where
  | lf
  | nd (l : FT P) (e : FE P) (r : FT P)
def FT.get {P : Program} : FT P → Nat → Option (FE P)
  | .lf, _ => none
  | .nd l e r, n => match Nat.beq n e.f with
    | true => some e
    | false => match Nat.blt n e.f with
      | true => l.get n
      | false => r.get n
def mkFE {P : Program} (f : FuncId) (fn : Func) (hf : P.funcs[f]? = some fn) (hb : fn.body.isSome = true) (hn : (fn.name == "runtime.NumGoroutine") = false) : FE P where
  f := f
  fn := fn
  c := match fn.body with
    | some c => c
    | none => .skip
  rs := fn.results.toList
  hf := hf
  hb := by cases h : fn.body with
    | some c => rfl
    | none => rw [h] at hb; cases hb
  hn := hn
  hrs := by simp
/-! ### Numbers -/
def smQ (q : Rat) : Bool := Nat.blt q.num.natAbs 18446744073709551616 && Nat.blt q.den 18446744073709551616
theorem smQ_qb {q : Rat} (h : smQ q = true) : Qb 64 q := by
 simp only [smQ, Bool.and_eq_true, Nat.blt_eq] at h
 exact ⟨h.1, h.2⟩
theorem smQ_qs {q : Rat} (h : smQ q = true) : Qs q := (smQ_qb h).qs (by omega)
def n0 (q : Rat) : AV := nA (sh 0 (q : Rat))
def z0 : AV := towA []
theorem smQ_nm {q : Rat} (h : smQ q = true) : Nm ([] : List (List Rat)).length 64 (sh 0 (q : Rat)) := Nm.ofQ (by decide) (Cb.one (smQ_qb h))
theorem dec0 (q : Rat) : dec ([] : List (List Rat)).length (sh 0 (q : Rat)) = q := dec_sh0 0 q
theorem tw00 : Tw [] 1 where
 three := by decide
 len := fun j hj => absurd hj (Nat.not_lt_zero j)
 pos := fun j hj => absurd hj (Nat.not_lt_zero j)
 rb := ⟨1, 1, by omega, fun d hd => absurd hd List.not_mem_nil, by decide, by decide⟩
 le := by decide
theorem lm0 : lm ([] : List (List Rat)).length = 200000000000 := rfl
def dW : List AV → Nat
  | [] => 0
  | x :: l => match x with
    | .v (.int _ (.ofNat n)) => n + 4294967296 * dW l
    | _ => 0
def dWs : AV → Nat
  | .lst _ l => dW l
  | _ => 0
def dQ (x : AV) : Rat := match x with
  | .agg (.v (.bool s) :: n :: d :: _) => match s with
    | true => mkRat (-(dWs n : Int)) (dWs d)
    | false => mkRat (dWs n : Int) (dWs d)
  | _ => 0
def dN (x : AV) : Rat := match x with
  | .lst _ (x :: _) => dQ x
  | _ => 0
abbrev En := Option (Ent Tryz.prog)
def w2 (f : FuncId) (g : Rat → Rat → AV) (h : ∀ p q, smQ p = true → smQ q = true → FnC Tryz.prog f [qA p, qA q] (g p q)) (p q : Rat) : En := match hh : smQ p && smQ q with
  | true => some ⟨f, [qA p, qA q], g p q, [], h p q (by rw [Bool.and_eq_true] at hh; exact hh.1) (by rw [Bool.and_eq_true] at hh; exact hh.2)⟩
  | false => none
def oQ2 (f : FuncId) (g : Rat → Rat → AV) (h : ∀ p q, smQ p = true → smQ q = true → FnC Tryz.prog f [qA p, qA q] (g p q)) (xs : List AV) : En := match xs with
  | [a, b] => w2 f g h (dQ a) (dQ b)
  | _ => none
def w1 (f : FuncId) (a : Rat → AV) (g : Rat → AV) (h : ∀ p, smQ p = true → FnC Tryz.prog f [a p] (g p)) (p : Rat) : En := match hh : smQ p with
  | true => some ⟨f, [a p], g p, [], h p hh⟩
  | false => none
def oQ1 (f : FuncId) (g : Rat → AV) (h : ∀ p, smQ p = true → FnC Tryz.prog f [qA p] (g p)) (xs : List AV) : En := match xs with
  | [a] => w1 f qA g h (dQ a)
  | _ => none
def w3 (f : FuncId) (g : Rat → Rat → AV) (h : ∀ p q, smQ p = true → smQ q = true → FnC Tryz.prog f [z0, n0 p, n0 q] (g p q)) (p q : Rat) : En := match hh : smQ p && smQ q with
  | true => some ⟨f, [z0, n0 p, n0 q], g p q, [], h p q (by rw [Bool.and_eq_true] at hh; exact hh.1) (by rw [Bool.and_eq_true] at hh; exact hh.2)⟩
  | false => none
def oT2 (f : FuncId) (g : Rat → Rat → AV) (h : ∀ p q, smQ p = true → smQ q = true → FnC Tryz.prog f [z0, n0 p, n0 q] (g p q)) (xs : List AV) : En := match xs with
  | [_, a, b] => w3 f g h (dN a) (dN b)
  | _ => none
def w4 (f : FuncId) (g : Rat → AV) (h : ∀ p, smQ p = true → FnC Tryz.prog f [z0, n0 p] (g p)) (p : Rat) : En := match hh : smQ p with
  | true => some ⟨f, [z0, n0 p], g p, [], h p hh⟩
  | false => none
def oT1 (f : FuncId) (g : Rat → AV) (h : ∀ p, smQ p = true → FnC Tryz.prog f [z0, n0 p] (g p)) (xs : List AV) : En := match xs with
  | [_, a] => w4 f g h (dN a)
  | _ => none
def oC (f : FuncId) (ys : List AV) (r : AV) (h : FnC Tryz.prog f ys r) (xs : List AV) : En := some ⟨f, ys, r, [], h⟩
def dI (x : AV) : Int := match x with
  | .v (.int _ z) => z
  | _ => 0
def oI (f : FuncId) (g : Int → AV) (h : ∀ z, (-9223372036854775808 ≤ z ∧ z ≤ 9223372036854775807) → FnC Tryz.prog f [i64 z] (g z)) (xs : List AV) : En := match xs with
  | [a] => match (inferInstance : Decidable (-9223372036854775808 ≤ dI a ∧ dI a ≤ 9223372036854775807)) with
    | .isTrue hh => some ⟨f, [i64 (dI a)], g (dI a), [], h (dI a) hh⟩
    | .isFalse _ => none
  | _ => none
theorem e_Add (p q : Rat) (hp : smQ p = true) (hq : smQ q = true) : FnC Tryz.prog 160 [z0, n0 p, n0 q] (.tup [n0 (p + q), .v .nilIface]) := by
 have h := tw_Add tw00 (smQ_nm hp) (smQ_nm hq) (by rw [lm0]; omega)
 rw [dec0, dec0] at h; exact h
theorem e_Sub (p q : Rat) (hp : smQ p = true) (hq : smQ q = true) : FnC Tryz.prog 158 [z0, n0 p, n0 q] (.tup [n0 (p + -q), .v .nilIface]) := by
 have h := tw_Sub tw00 (smQ_nm hp) (smQ_nm hq) (by rw [lm0]; omega)
 rw [dec0, dec0] at h; exact h
theorem e_Mul (p q : Rat) (hp : smQ p = true) (hq : smQ q = true) : FnC Tryz.prog 159 [z0, n0 p, n0 q] (.tup [n0 (p * q), .v .nilIface]) := by
 have h := tw_Mul tw00 (smQ_nm hp) (smQ_nm hq) (by rw [lm0]; omega)
 rw [dec0, dec0] at h; exact h
theorem e_Sign (p : Rat) (hp : smQ p = true) : FnC Tryz.prog 110 [z0, n0 p] (.tup [i64 (sgnQ p), .v .nilIface]) := by
 have h := tw_Sign tw00 (smQ_nm hp) (by rw [lm0]; omega)
 rw [dec0] at h; exact h
theorem e_Neg (p : Rat) (hp : smQ p = true) : FnC Tryz.prog 92 [z0, n0 p] (.tup [n0 (-p), .v .nilIface]) := by
 have h := tw_Neg tw00 (smQ_nm hp) (by rw [lm0]; omega)
 rw [dec0] at h; exact h
theorem e_Equal (p q : Rat) (hp : smQ p = true) (hq : smQ q = true) : FnC Tryz.prog 24 [z0, n0 p, n0 q] (bl (decide (sgnQ (p + -q) = 0))) := by
 have h := c_r11_Equal tw00 (smQ_nm hp) (smQ_nm hq) (by rw [lm0]; omega)
 rw [dec0, dec0] at h; exact h
def orcL : FuncId → Option (List AV → En)
  | 160 => some (oT2 160 _ e_Add)
  | 158 => some (oT2 158 _ e_Sub)
  | 159 => some (oT2 159 _ e_Mul)
  | 110 => some (oT1 110 _ e_Sign)
  | 92 => some (oT1 92 _ e_Neg)
  | 36 => some (oC 36 [z0] (.v .nilIface) (tw_Check tw00))
  | 87 => some (oQ1 87 n0 fun _ h => tw_Of (smQ_qs h))
  | 24 => some (oT2 24 _ e_Equal)
  | 88 => some (oI 88 (fun z => qA z) c_fraction_Of)
  | 33 => some (oI 33 (fun z => qA z) c_r02_Of)
  | 70 => some (oQ1 70 n0 fun _ h => r4_Of (smQ_qs h))
  | 149 => some (oQ2 149 (fun p q => qA (p + q)) fun _ _ h h' => q_Add (smQ_qs h) (smQ_qs h'))
  | 313 => some (oQ2 313 (fun p q => qA (p - q)) fun _ _ h h' => q_Sub (smQ_qs h) (smQ_qs h'))
  | 279 => some (oQ2 279 (fun p q => qA (p * q)) fun _ _ h h' => q_Mul (smQ_qs h) (smQ_qs h'))
  | 349 => some (oQ2 349 (fun p q => .tup [qA (p / q), errA (if q = 0 then 8 else 0)]) fun _ _ h h' => q_Div (smQ_qs h) (smQ_qs h'))
  | 228 => some (oQ1 228 (fun p => qA (-p)) fun _ h => q_Neg (smQ_qs h))
  | 136 => some (oQ1 136 (fun p => i64 (sgnQ p)) fun _ h => q_Sign (smQ_qs h))
  | _ => none
def dIs (x : AV) : List Int := match x with
  | .lst _ es => es.map dI
  | _ => []
def dG (x : AV) : Gr := match x with
  | .agg [k, b, j, d] => ⟨dI k, dIs b, dIs j, dI d⟩
  | _ => default
def rngB (n : Nat) (l : List Int) : Bool := l.all fun z => icmp .leq 0 z && icmp .lss z n
theorem rngB_ok {n : Nat} {l : List Int} (h : rngB n l = true) : ∀ x ∈ l, 0 ≤ x ∧ x < n := by
 intro x hx
 have := List.all_eq_true.1 h x hx
 simp only [Bool.and_eq_true, icmp, decide_eq_true_eq] at this
 exact this
def grB (l : Li) (g : Gr) : Bool := rngB l.bodies.length g.bodies && rngB l.joints.length g.joints && Nat.ble g.bodies.length 2 && Nat.ble g.joints.length 3
theorem grB_ok {l : Li} {g : Gr} (h : grB l g = true) : GrOk l g := by
 simp only [grB, Bool.and_eq_true, Nat.ble_eq] at h
 exact ⟨rngB_ok h.1.1.1, rngB_ok h.1.1.2, h.1.2, h.2⟩
def ancE (l : Li) (hl : l.ok) (hli : liE l = 0) (g : Gr) : En := match hh : grB l g with
  | true => some ⟨241, [l.av, g.av], _, _, c_g_Anchors l hl hli g (grB_ok hh)⟩
  | false => none
def oAnc (l : Li) (hl : l.ok) (hli : liE l = 0) (xs : List AV) : En := match xs with
  | [_, g] => ancE l hl hli (dG g)
  | _ => none
theorem e_Split (l : Li) (hl : l.ok) (hli : liE l = 0) : FnC Tryz.prog 83 [l.av] (.tup [.lst 4 ((splitG l).map Gr.av), errA (splitE l)]) := by
 have h := c_g_Split l hl
 rw [if_pos hli, if_pos hli] at h; exact h
def orcG (l : Li) (hl : l.ok) (hli : liE l = 0) : FuncId → Option (List AV → En)
  | 83 => some (oC 83 [l.av] _ (e_Split l hl hli))
  | 241 => some (oAnc l hl hli)
  | 134 => some (oQ1 134 (fun p => bl (rt p).valid) fun _ h => c_fraction_Valid _ (smQ_qs h).ok)
  | f => orcL f
/-- Facts that are known. -/
def orP : List (Ent Tryz.prog) → FuncId → Bool
  | [], _ => false
  | e :: l, f => match Nat.beq e.f f with
    | true => true
    | false => orP l f
def orS (xs : List AV) (f : FuncId) : List (Ent Tryz.prog) → En
  | [] => none
  | e :: l => match Nat.beq e.f f && subLB xs e.xs with
    | true => some e
    | false => orS xs f l
def orF (L : List (Ent Tryz.prog)) (o : FuncId → Option (List AV → En)) (f : FuncId) : Option (List AV → En) := match orP L f with
  | true => some fun xs => match orS xs f L with
    | some e => some e
    | none => match o f with
      | some g => g xs
      | none => none
  | false => o f
/-- The functions that write the rows that they are given. -/
def mutF (n : FuncId) : Bool := Nat.beq n 242 || (Nat.beq n 302 || Nat.beq n 352)
end Go.Lw
namespace Go.Lw
open Go.Proofs
set_option maxRecDepth 20000
theorem k27_0 : Con Tryz.prog 31 [] [] (.agg [.v (.string ⟨⟨[102, 111, 117, 114, 98, 97, 114]⟩⟩), .lst 2 [.agg [.v (.string ⟨⟨[102, 114, 97, 109, 101]⟩⟩), .lst 7 [.agg [.v (.string ⟨⟨[97]⟩⟩), .v (.bool false), .lst 1 [], .lst 1 [], .v (.bool false), .lst 1 [], .lst 1 []], .agg [.v (.string ⟨⟨[98]⟩⟩), .v (.bool false), .lst 1 [.v (.int .u32 4)], .lst 1 [.v (.int .u32 1)], .v (.bool false), .lst 1 [], .lst 1 []]]], .agg [.v (.string ⟨⟨[99, 114, 97, 110, 107]⟩⟩), .lst 7 [.agg [.v (.string ⟨⟨[97]⟩⟩), .v (.bool false), .lst 1 [], .lst 1 [], .v (.bool false), .lst 1 [], .lst 1 []], .agg [.v (.string ⟨⟨[98]⟩⟩), .v (.bool false), .lst 1 [.v (.int .u32 3)], .lst 1 [.v (.int .u32 1)], .v (.bool false), .lst 1 [], .lst 1 []]]], .agg [.v (.string ⟨⟨[99, 111, 117, 112, 108, 101, 114]⟩⟩), .lst 7 [.agg [.v (.string ⟨⟨[97]⟩⟩), .v (.bool false), .lst 1 [], .lst 1 [], .v (.bool false), .lst 1 [], .lst 1 []], .agg [.v (.string ⟨⟨[98]⟩⟩), .v (.bool false), .lst 1 [.v (.int .u32 5)], .lst 1 [.v (.int .u32 1)], .v (.bool false), .lst 1 [], .lst 1 []]]], .agg [.v (.string ⟨⟨[114, 111, 99, 107, 101, 114]⟩⟩), .lst 7 [.agg [.v (.string ⟨⟨[97]⟩⟩), .v (.bool false), .lst 1 [], .lst 1 [], .v (.bool false), .lst 1 [], .lst 1 []], .agg [.v (.string ⟨⟨[98]⟩⟩), .v (.bool false), .lst 1 [.v (.int .u32 6)], .lst 1 [.v (.int .u32 1)], .v (.bool false), .lst 1 [], .lst 1 []]]]], .lst 7 [.agg [.v (.string ⟨⟨[111]⟩⟩), .v (.int .i64 0), .v (.int .i64 1), .v (.int .i64 0), .v (.int .i64 0), .v (.int .i64 0), .v (.int .i64 0)], .agg [.v (.string ⟨⟨[112]⟩⟩), .v (.int .i64 0), .v (.int .i64 2), .v (.int .i64 0), .v (.int .i64 1), .v (.int .i64 1), .v (.int .i64 0)], .agg [.v (.string ⟨⟨[113]⟩⟩), .v (.int .i64 0), .v (.int .i64 3), .v (.int .i64 0), .v (.int .i64 0), .v (.int .i64 1), .v (.int .i64 0)], .agg [.v (.string ⟨⟨[114]⟩⟩), .v (.int .i64 0), .v (.int .i64 2), .v (.int .i64 1), .v (.int .i64 3), .v (.int .i64 1), .v (.int .i64 0)]], .lst 2 [.agg [.v (.string ⟨⟨[100]⟩⟩), .v (.int .i64 1)]]]) [] :=
  ev_fn ⟨orF [] ((orcG fb fb_ok fb_li)), fun n => FT.get (.nd (.nd .lf (mkFE 31 Tryz.f31 Tryz.func31 rfl rfl) .lf) (mkFE 66 Tryz.f66 Tryz.func66 rfl rfl) (.nd .lf (mkFE 125 Tryz.f125 Tryz.func125 rfl rfl) .lf)) n, mutF⟩ 6000 (base := 2000) (av := []) (by kernel_rfl)
theorem k27_1 : Con Tryz.prog 122 [.agg [.v (.string ⟨⟨[102, 111, 117, 114, 98, 97, 114]⟩⟩), .lst 2 [.agg [.v (.string ⟨⟨[102, 114, 97, 109, 101]⟩⟩), .lst 7 [.agg [.v (.string ⟨⟨[97]⟩⟩), .v (.bool false), .lst 1 [], .lst 1 [], .v (.bool false), .lst 1 [], .lst 1 []], .agg [.v (.string ⟨⟨[98]⟩⟩), .v (.bool false), .lst 1 [.v (.int .u32 4)], .lst 1 [.v (.int .u32 1)], .v (.bool false), .lst 1 [], .lst 1 []]]], .agg [.v (.string ⟨⟨[99, 114, 97, 110, 107]⟩⟩), .lst 7 [.agg [.v (.string ⟨⟨[97]⟩⟩), .v (.bool false), .lst 1 [], .lst 1 [], .v (.bool false), .lst 1 [], .lst 1 []], .agg [.v (.string ⟨⟨[98]⟩⟩), .v (.bool false), .lst 1 [.v (.int .u32 3)], .lst 1 [.v (.int .u32 1)], .v (.bool false), .lst 1 [], .lst 1 []]]], .agg [.v (.string ⟨⟨[99, 111, 117, 112, 108, 101, 114]⟩⟩), .lst 7 [.agg [.v (.string ⟨⟨[97]⟩⟩), .v (.bool false), .lst 1 [], .lst 1 [], .v (.bool false), .lst 1 [], .lst 1 []], .agg [.v (.string ⟨⟨[98]⟩⟩), .v (.bool false), .lst 1 [.v (.int .u32 5)], .lst 1 [.v (.int .u32 1)], .v (.bool false), .lst 1 [], .lst 1 []]]], .agg [.v (.string ⟨⟨[114, 111, 99, 107, 101, 114]⟩⟩), .lst 7 [.agg [.v (.string ⟨⟨[97]⟩⟩), .v (.bool false), .lst 1 [], .lst 1 [], .v (.bool false), .lst 1 [], .lst 1 []], .agg [.v (.string ⟨⟨[98]⟩⟩), .v (.bool false), .lst 1 [.v (.int .u32 6)], .lst 1 [.v (.int .u32 1)], .v (.bool false), .lst 1 [], .lst 1 []]]]], .lst 7 [.agg [.v (.string ⟨⟨[111]⟩⟩), .v (.int .i64 0), .v (.int .i64 1), .v (.int .i64 0), .v (.int .i64 0), .v (.int .i64 0), .v (.int .i64 0)], .agg [.v (.string ⟨⟨[112]⟩⟩), .v (.int .i64 0), .v (.int .i64 2), .v (.int .i64 0), .v (.int .i64 1), .v (.int .i64 1), .v (.int .i64 0)], .agg [.v (.string ⟨⟨[113]⟩⟩), .v (.int .i64 0), .v (.int .i64 3), .v (.int .i64 0), .v (.int .i64 0), .v (.int .i64 1), .v (.int .i64 0)], .agg [.v (.string ⟨⟨[114]⟩⟩), .v (.int .i64 0), .v (.int .i64 2), .v (.int .i64 1), .v (.int .i64 3), .v (.int .i64 1), .v (.int .i64 0)]], .lst 2 [.agg [.v (.string ⟨⟨[100]⟩⟩), .v (.int .i64 1)]]], .v (.int .i64 0), .agg [.v (.bool false), .v (.slice none 0 0), .v (.slice none 0 0), .v (.bool false)], .agg [.v (.slice none 0 0), .lst 4 [.agg [.lst 3 [.agg [.v (.bool false), .lst 1 [.v (.int .u32 1)], .lst 1 [.v (.int .u32 1)]]], .v (.slice none 0 0), .v (.slice none 0 0), .v (.slice none 0 0)], .agg [.v (.slice none 0 0), .v (.slice none 0 0), .v (.slice none 0 0), .v (.slice none 0 0)], .agg [.v (.slice none 0 0), .v (.slice none 0 0), .v (.slice none 0 0), .v (.slice none 0 0)], .agg [.v (.slice none 0 0), .v (.slice none 0 0), .v (.slice none 0 0), .v (.slice none 0 0)]], .v (.slice none 0 0)]] [] (.tup [.lst 3 [.agg [.v (.slice none 0 0), .lst 4 [.agg [.lst 3 [.agg [.v (.bool false), .lst 1 [.v (.int .u32 1)], .lst 1 [.v (.int .u32 1)]]], .v (.slice none 0 0), .lst 3 [], .lst 3 []]], .v (.int .i64 1)]], .v .nilIface]) [] :=
  ev_fn ⟨orF [⟨_, _, _, _, k27_0⟩] ((orcG fb fb_ok fb_li)), fun n => FT.get (.nd (.nd (.nd (.nd (.nd (.nd (.nd .lf (mkFE 37 Tryz.f37 Tryz.func37 rfl rfl) .lf) (mkFE 47 Tryz.f47 Tryz.func47 rfl rfl) (.nd .lf (mkFE 71 Tryz.f71 Tryz.func71 rfl rfl) .lf)) (mkFE 72 Tryz.f72 Tryz.func72 rfl rfl) (.nd (.nd .lf (mkFE 73 Tryz.f73 Tryz.func73 rfl rfl) .lf) (mkFE 74 Tryz.f74 Tryz.func74 rfl rfl) (.nd .lf (mkFE 75 Tryz.f75 Tryz.func75 rfl rfl) .lf))) (mkFE 76 Tryz.f76 Tryz.func76 rfl rfl) (.nd (.nd (.nd .lf (mkFE 93 Tryz.f93 Tryz.func93 rfl rfl) .lf) (mkFE 112 Tryz.f112 Tryz.func112 rfl rfl) (.nd .lf (mkFE 114 Tryz.f114 Tryz.func114 rfl rfl) .lf)) (mkFE 119 Tryz.f119 Tryz.func119 rfl rfl) (.nd (.nd .lf (mkFE 122 Tryz.f122 Tryz.func122 rfl rfl) .lf) (mkFE 133 Tryz.f133 Tryz.func133 rfl rfl) .lf))) (mkFE 135 Tryz.f135 Tryz.func135 rfl rfl) (.nd (.nd (.nd (.nd .lf (mkFE 137 Tryz.f137 Tryz.func137 rfl rfl) .lf) (mkFE 138 Tryz.f138 Tryz.func138 rfl rfl) (.nd .lf (mkFE 139 Tryz.f139 Tryz.func139 rfl rfl) .lf)) (mkFE 140 Tryz.f140 Tryz.func140 rfl rfl) (.nd (.nd .lf (mkFE 141 Tryz.f141 Tryz.func141 rfl rfl) .lf) (mkFE 156 Tryz.f156 Tryz.func156 rfl rfl) .lf)) (mkFE 157 Tryz.f157 Tryz.func157 rfl rfl) (.nd (.nd (.nd .lf (mkFE 170 Tryz.f170 Tryz.func170 rfl rfl) .lf) (mkFE 171 Tryz.f171 Tryz.func171 rfl rfl) (.nd .lf (mkFE 172 Tryz.f172 Tryz.func172 rfl rfl) .lf)) (mkFE 179 Tryz.f179 Tryz.func179 rfl rfl) (.nd (.nd .lf (mkFE 180 Tryz.f180 Tryz.func180 rfl rfl) .lf) (mkFE 181 Tryz.f181 Tryz.func181 rfl rfl) .lf)))) (mkFE 182 Tryz.f182 Tryz.func182 rfl rfl) (.nd (.nd (.nd (.nd (.nd .lf (mkFE 183 Tryz.f183 Tryz.func183 rfl rfl) .lf) (mkFE 198 Tryz.f198 Tryz.func198 rfl rfl) (.nd .lf (mkFE 199 Tryz.f199 Tryz.func199 rfl rfl) .lf)) (mkFE 202 Tryz.f202 Tryz.func202 rfl rfl) (.nd (.nd .lf (mkFE 203 Tryz.f203 Tryz.func203 rfl rfl) .lf) (mkFE 204 Tryz.f204 Tryz.func204 rfl rfl) .lf)) (mkFE 226 Tryz.f226 Tryz.func226 rfl rfl) (.nd (.nd (.nd .lf (mkFE 227 Tryz.f227 Tryz.func227 rfl rfl) .lf) (mkFE 236 Tryz.f236 Tryz.func236 rfl rfl) (.nd .lf (mkFE 242 Tryz.f242 Tryz.func242 rfl rfl) .lf)) (mkFE 243 Tryz.f243 Tryz.func243 rfl rfl) (.nd (.nd .lf (mkFE 244 Tryz.f244 Tryz.func244 rfl rfl) .lf) (mkFE 245 Tryz.f245 Tryz.func245 rfl rfl) .lf))) (mkFE 246 Tryz.f246 Tryz.func246 rfl rfl) (.nd (.nd (.nd (.nd .lf (mkFE 247 Tryz.f247 Tryz.func247 rfl rfl) .lf) (mkFE 248 Tryz.f248 Tryz.func248 rfl rfl) (.nd .lf (mkFE 249 Tryz.f249 Tryz.func249 rfl rfl) .lf)) (mkFE 250 Tryz.f250 Tryz.func250 rfl rfl) (.nd (.nd .lf (mkFE 252 Tryz.f252 Tryz.func252 rfl rfl) .lf) (mkFE 254 Tryz.f254 Tryz.func254 rfl rfl) .lf)) (mkFE 255 Tryz.f255 Tryz.func255 rfl rfl) (.nd (.nd (.nd .lf (mkFE 256 Tryz.f256 Tryz.func256 rfl rfl) .lf) (mkFE 257 Tryz.f257 Tryz.func257 rfl rfl) (.nd .lf (mkFE 258 Tryz.f258 Tryz.func258 rfl rfl) .lf)) (mkFE 259 Tryz.f259 Tryz.func259 rfl rfl) (.nd (.nd .lf (mkFE 260 Tryz.f260 Tryz.func260 rfl rfl) .lf) (mkFE 261 Tryz.f261 Tryz.func261 rfl rfl) .lf))))) (mkFE 262 Tryz.f262 Tryz.func262 rfl rfl) (.nd (.nd (.nd (.nd (.nd (.nd .lf (mkFE 263 Tryz.f263 Tryz.func263 rfl rfl) .lf) (mkFE 264 Tryz.f264 Tryz.func264 rfl rfl) (.nd .lf (mkFE 277 Tryz.f277 Tryz.func277 rfl rfl) .lf)) (mkFE 278 Tryz.f278 Tryz.func278 rfl rfl) (.nd (.nd .lf (mkFE 280 Tryz.f280 Tryz.func280 rfl rfl) .lf) (mkFE 295 Tryz.f295 Tryz.func295 rfl rfl) .lf)) (mkFE 296 Tryz.f296 Tryz.func296 rfl rfl) (.nd (.nd (.nd .lf (mkFE 302 Tryz.f302 Tryz.func302 rfl rfl) .lf) (mkFE 303 Tryz.f303 Tryz.func303 rfl rfl) (.nd .lf (mkFE 304 Tryz.f304 Tryz.func304 rfl rfl) .lf)) (mkFE 305 Tryz.f305 Tryz.func305 rfl rfl) (.nd (.nd .lf (mkFE 306 Tryz.f306 Tryz.func306 rfl rfl) .lf) (mkFE 307 Tryz.f307 Tryz.func307 rfl rfl) .lf))) (mkFE 308 Tryz.f308 Tryz.func308 rfl rfl) (.nd (.nd (.nd (.nd .lf (mkFE 309 Tryz.f309 Tryz.func309 rfl rfl) .lf) (mkFE 310 Tryz.f310 Tryz.func310 rfl rfl) (.nd .lf (mkFE 311 Tryz.f311 Tryz.func311 rfl rfl) .lf)) (mkFE 312 Tryz.f312 Tryz.func312 rfl rfl) (.nd (.nd .lf (mkFE 316 Tryz.f316 Tryz.func316 rfl rfl) .lf) (mkFE 318 Tryz.f318 Tryz.func318 rfl rfl) .lf)) (mkFE 319 Tryz.f319 Tryz.func319 rfl rfl) (.nd (.nd (.nd .lf (mkFE 321 Tryz.f321 Tryz.func321 rfl rfl) .lf) (mkFE 322 Tryz.f322 Tryz.func322 rfl rfl) (.nd .lf (mkFE 323 Tryz.f323 Tryz.func323 rfl rfl) .lf)) (mkFE 324 Tryz.f324 Tryz.func324 rfl rfl) (.nd (.nd .lf (mkFE 325 Tryz.f325 Tryz.func325 rfl rfl) .lf) (mkFE 326 Tryz.f326 Tryz.func326 rfl rfl) .lf)))) (mkFE 327 Tryz.f327 Tryz.func327 rfl rfl) (.nd (.nd (.nd (.nd (.nd .lf (mkFE 328 Tryz.f328 Tryz.func328 rfl rfl) .lf) (mkFE 329 Tryz.f329 Tryz.func329 rfl rfl) (.nd .lf (mkFE 330 Tryz.f330 Tryz.func330 rfl rfl) .lf)) (mkFE 331 Tryz.f331 Tryz.func331 rfl rfl) (.nd (.nd .lf (mkFE 332 Tryz.f332 Tryz.func332 rfl rfl) .lf) (mkFE 333 Tryz.f333 Tryz.func333 rfl rfl) .lf)) (mkFE 352 Tryz.f352 Tryz.func352 rfl rfl) (.nd (.nd (.nd .lf (mkFE 353 Tryz.f353 Tryz.func353 rfl rfl) .lf) (mkFE 354 Tryz.f354 Tryz.func354 rfl rfl) (.nd .lf (mkFE 355 Tryz.f355 Tryz.func355 rfl rfl) .lf)) (mkFE 356 Tryz.f356 Tryz.func356 rfl rfl) (.nd (.nd .lf (mkFE 357 Tryz.f357 Tryz.func357 rfl rfl) .lf) (mkFE 358 Tryz.f358 Tryz.func358 rfl rfl) .lf))) (mkFE 359 Tryz.f359 Tryz.func359 rfl rfl) (.nd (.nd (.nd (.nd .lf (mkFE 360 Tryz.f360 Tryz.func360 rfl rfl) .lf) (mkFE 361 Tryz.f361 Tryz.func361 rfl rfl) (.nd .lf (mkFE 362 Tryz.f362 Tryz.func362 rfl rfl) .lf)) (mkFE 363 Tryz.f363 Tryz.func363 rfl rfl) (.nd (.nd .lf (mkFE 364 Tryz.f364 Tryz.func364 rfl rfl) .lf) (mkFE 366 Tryz.f366 Tryz.func366 rfl rfl) .lf)) (mkFE 373 Tryz.f373 Tryz.func373 rfl rfl) (.nd (.nd (.nd .lf (mkFE 374 Tryz.f374 Tryz.func374 rfl rfl) .lf) (mkFE 375 Tryz.f375 Tryz.func375 rfl rfl) (.nd .lf (mkFE 376 Tryz.f376 Tryz.func376 rfl rfl) .lf)) (mkFE 377 Tryz.f377 Tryz.func377 rfl rfl) (.nd (.nd .lf (mkFE 378 Tryz.f378 Tryz.func378 rfl rfl) .lf) (mkFE 379 Tryz.f379 Tryz.func379 rfl rfl) .lf)))))) n, mutF⟩ 6000 (base := 2000) (av := []) (by kernel_rfl)
theorem k27_2 : Con Tryz.prog 251 [.agg [.v (.slice none 0 0)], .agg [.lst 3 [.agg [.v (.bool false), .lst 1 [.v (.int .u32 3)], .lst 1 [.v (.int .u32 1)]]], .lst 3 [], .lst 3 [.agg [.v (.bool false), .lst 1 [.v (.int .u32 25)], .lst 1 [.v (.int .u32 1)]]]], .agg [.lst 3 [.agg [.v (.bool false), .lst 1 [.v (.int .u32 4)], .lst 1 [.v (.int .u32 1)]]], .lst 3 [], .lst 3 [.agg [.v (.bool false), .lst 1 [.v (.int .u32 36)], .lst 1 [.v (.int .u32 1)]]]]] [] (.tup [.agg [.v (.slice none 0 0), .lst 2 [.agg [.lst 3 [.agg [.v (.bool true), .lst 1 [.v (.int .u32 2)], .lst 1 [.v (.int .u32 1)]]], .lst 3 []]]], .v .nilIface]) [] :=
  ev_fn ⟨orF [⟨_, _, _, _, k27_0⟩, ⟨_, _, _, _, k27_1⟩] ((orcG fb fb_ok fb_li)), fun n => FT.get (.nd (.nd (.nd (.nd (.nd (.nd .lf (mkFE 47 Tryz.f47 Tryz.func47 rfl rfl) .lf) (mkFE 71 Tryz.f71 Tryz.func71 rfl rfl) .lf) (mkFE 72 Tryz.f72 Tryz.func72 rfl rfl) (.nd (.nd .lf (mkFE 73 Tryz.f73 Tryz.func73 rfl rfl) .lf) (mkFE 93 Tryz.f93 Tryz.func93 rfl rfl) .lf)) (mkFE 133 Tryz.f133 Tryz.func133 rfl rfl) (.nd (.nd (.nd .lf (mkFE 135 Tryz.f135 Tryz.func135 rfl rfl) .lf) (mkFE 137 Tryz.f137 Tryz.func137 rfl rfl) .lf) (mkFE 139 Tryz.f139 Tryz.func139 rfl rfl) (.nd (.nd .lf (mkFE 140 Tryz.f140 Tryz.func140 rfl rfl) .lf) (mkFE 141 Tryz.f141 Tryz.func141 rfl rfl) .lf))) (mkFE 156 Tryz.f156 Tryz.func156 rfl rfl) (.nd (.nd (.nd (.nd .lf (mkFE 157 Tryz.f157 Tryz.func157 rfl rfl) .lf) (mkFE 170 Tryz.f170 Tryz.func170 rfl rfl) .lf) (mkFE 198 Tryz.f198 Tryz.func198 rfl rfl) (.nd (.nd .lf (mkFE 199 Tryz.f199 Tryz.func199 rfl rfl) .lf) (mkFE 202 Tryz.f202 Tryz.func202 rfl rfl) .lf)) (mkFE 203 Tryz.f203 Tryz.func203 rfl rfl) (.nd (.nd (.nd .lf (mkFE 204 Tryz.f204 Tryz.func204 rfl rfl) .lf) (mkFE 226 Tryz.f226 Tryz.func226 rfl rfl) .lf) (mkFE 236 Tryz.f236 Tryz.func236 rfl rfl) (.nd (.nd .lf (mkFE 251 Tryz.f251 Tryz.func251 rfl rfl) .lf) (mkFE 259 Tryz.f259 Tryz.func259 rfl rfl) .lf)))) (mkFE 277 Tryz.f277 Tryz.func277 rfl rfl) (.nd (.nd (.nd (.nd (.nd .lf (mkFE 278 Tryz.f278 Tryz.func278 rfl rfl) .lf) (mkFE 280 Tryz.f280 Tryz.func280 rfl rfl) .lf) (mkFE 295 Tryz.f295 Tryz.func295 rfl rfl) (.nd (.nd .lf (mkFE 296 Tryz.f296 Tryz.func296 rfl rfl) .lf) (mkFE 314 Tryz.f314 Tryz.func314 rfl rfl) .lf)) (mkFE 315 Tryz.f315 Tryz.func315 rfl rfl) (.nd (.nd (.nd .lf (mkFE 316 Tryz.f316 Tryz.func316 rfl rfl) .lf) (mkFE 317 Tryz.f317 Tryz.func317 rfl rfl) .lf) (mkFE 318 Tryz.f318 Tryz.func318 rfl rfl) (.nd (.nd .lf (mkFE 319 Tryz.f319 Tryz.func319 rfl rfl) .lf) (mkFE 320 Tryz.f320 Tryz.func320 rfl rfl) .lf))) (mkFE 321 Tryz.f321 Tryz.func321 rfl rfl) (.nd (.nd (.nd (.nd .lf (mkFE 322 Tryz.f322 Tryz.func322 rfl rfl) .lf) (mkFE 323 Tryz.f323 Tryz.func323 rfl rfl) .lf) (mkFE 324 Tryz.f324 Tryz.func324 rfl rfl) (.nd (.nd .lf (mkFE 326 Tryz.f326 Tryz.func326 rfl rfl) .lf) (mkFE 327 Tryz.f327 Tryz.func327 rfl rfl) .lf)) (mkFE 328 Tryz.f328 Tryz.func328 rfl rfl) (.nd (.nd (.nd .lf (mkFE 329 Tryz.f329 Tryz.func329 rfl rfl) .lf) (mkFE 332 Tryz.f332 Tryz.func332 rfl rfl) .lf) (mkFE 333 Tryz.f333 Tryz.func333 rfl rfl) (.nd (.nd .lf (mkFE 365 Tryz.f365 Tryz.func365 rfl rfl) .lf) (mkFE 366 Tryz.f366 Tryz.func366 rfl rfl) .lf))))) n, mutF⟩ 6000 (base := 2000) (av := []) (by kernel_rfl)
theorem k27_3 : Con Tryz.prog 253 [.agg [.v (.slice none 0 0), .lst 2 [.agg [.lst 3 [.agg [.v (.bool true), .lst 1 [.v (.int .u32 2)], .lst 1 [.v (.int .u32 1)]]], .lst 3 []]]], .lst 14 [.agg [.v (.bool false), .lst 1 [], .lst 1 [], .v (.bool false), .lst 1 [], .lst 1 [], .lst 3 [.agg [.v (.bool false), .lst 1 [.v (.int .u32 3)], .lst 1 [.v (.int .u32 1)]]], .lst 3 [], .v (.bool false), .lst 1 [.v (.int .u32 5)], .lst 1 [.v (.int .u32 1)], .v (.bool false), .lst 1 [], .lst 1 []], .agg [.v (.bool false), .lst 1 [], .lst 1 [], .v (.bool false), .lst 1 [], .lst 1 [], .lst 3 [.agg [.v (.bool false), .lst 1 [.v (.int .u32 4)], .lst 1 [.v (.int .u32 1)]]], .lst 3 [], .v (.bool false), .lst 1 [.v (.int .u32 6)], .lst 1 [.v (.int .u32 1)], .v (.bool false), .lst 1 [], .lst 1 []]]] [] (.tup [.ms 300 3 0 1, .v .nilIface]) [(300, some (.row 3 [.agg [.v (.slice none 0 0), .lst 4 [.agg [.lst 3 [.agg [.v (.bool true), .lst 1 [.v (.int .u32 1)], .lst 1 [.v (.int .u32 1)]]], .v (.slice none 0 0), .lst 3 [.agg [.v (.bool false), .lst 1 [.v (.int .u32 3)], .lst 1 [.v (.int .u32 1)]]], .lst 3 []], .agg [.lst 3 [.agg [.v (.bool true), .lst 1 [.v (.int .u32 1)], .lst 1 [.v (.int .u32 1)]]], .v (.slice none 0 0), .lst 3 [.agg [.v (.bool false), .lst 1 [.v (.int .u32 4)], .lst 1 [.v (.int .u32 1)]]], .lst 3 []]], .v (.int .i64 0)]]))] :=
  ev_fn ⟨orF [⟨_, _, _, _, k27_0⟩, ⟨_, _, _, _, k27_1⟩, ⟨_, _, _, _, k27_2⟩] ((orcG fb fb_ok fb_li)), fun n => FT.get (.nd (.nd (.nd (.nd (.nd (.nd .lf (mkFE 71 Tryz.f71 Tryz.func71 rfl rfl) .lf) (mkFE 72 Tryz.f72 Tryz.func72 rfl rfl) .lf) (mkFE 73 Tryz.f73 Tryz.func73 rfl rfl) (.nd (.nd .lf (mkFE 74 Tryz.f74 Tryz.func74 rfl rfl) .lf) (mkFE 75 Tryz.f75 Tryz.func75 rfl rfl) .lf)) (mkFE 93 Tryz.f93 Tryz.func93 rfl rfl) (.nd (.nd (.nd .lf (mkFE 114 Tryz.f114 Tryz.func114 rfl rfl) .lf) (mkFE 133 Tryz.f133 Tryz.func133 rfl rfl) .lf) (mkFE 135 Tryz.f135 Tryz.func135 rfl rfl) (.nd .lf (mkFE 137 Tryz.f137 Tryz.func137 rfl rfl) .lf))) (mkFE 138 Tryz.f138 Tryz.func138 rfl rfl) (.nd (.nd (.nd (.nd .lf (mkFE 139 Tryz.f139 Tryz.func139 rfl rfl) .lf) (mkFE 140 Tryz.f140 Tryz.func140 rfl rfl) .lf) (mkFE 141 Tryz.f141 Tryz.func141 rfl rfl) (.nd (.nd .lf (mkFE 156 Tryz.f156 Tryz.func156 rfl rfl) .lf) (mkFE 157 Tryz.f157 Tryz.func157 rfl rfl) .lf)) (mkFE 171 Tryz.f171 Tryz.func171 rfl rfl) (.nd (.nd (.nd .lf (mkFE 172 Tryz.f172 Tryz.func172 rfl rfl) .lf) (mkFE 198 Tryz.f198 Tryz.func198 rfl rfl) .lf) (mkFE 199 Tryz.f199 Tryz.func199 rfl rfl) (.nd .lf (mkFE 202 Tryz.f202 Tryz.func202 rfl rfl) .lf)))) (mkFE 203 Tryz.f203 Tryz.func203 rfl rfl) (.nd (.nd (.nd (.nd (.nd .lf (mkFE 204 Tryz.f204 Tryz.func204 rfl rfl) .lf) (mkFE 226 Tryz.f226 Tryz.func226 rfl rfl) .lf) (mkFE 227 Tryz.f227 Tryz.func227 rfl rfl) (.nd (.nd .lf (mkFE 236 Tryz.f236 Tryz.func236 rfl rfl) .lf) (mkFE 246 Tryz.f246 Tryz.func246 rfl rfl) .lf)) (mkFE 247 Tryz.f247 Tryz.func247 rfl rfl) (.nd (.nd (.nd .lf (mkFE 250 Tryz.f250 Tryz.func250 rfl rfl) .lf) (mkFE 253 Tryz.f253 Tryz.func253 rfl rfl) .lf) (mkFE 260 Tryz.f260 Tryz.func260 rfl rfl) (.nd .lf (mkFE 261 Tryz.f261 Tryz.func261 rfl rfl) .lf))) (mkFE 263 Tryz.f263 Tryz.func263 rfl rfl) (.nd (.nd (.nd (.nd .lf (mkFE 264 Tryz.f264 Tryz.func264 rfl rfl) .lf) (mkFE 277 Tryz.f277 Tryz.func277 rfl rfl) .lf) (mkFE 278 Tryz.f278 Tryz.func278 rfl rfl) (.nd .lf (mkFE 280 Tryz.f280 Tryz.func280 rfl rfl) .lf)) (mkFE 295 Tryz.f295 Tryz.func295 rfl rfl) (.nd (.nd (.nd .lf (mkFE 296 Tryz.f296 Tryz.func296 rfl rfl) .lf) (mkFE 307 Tryz.f307 Tryz.func307 rfl rfl) .lf) (mkFE 308 Tryz.f308 Tryz.func308 rfl rfl) (.nd .lf (mkFE 312 Tryz.f312 Tryz.func312 rfl rfl) .lf))))) n, mutF⟩ 6000 (base := 2000) (av := []) (by kernel_rfl)
theorem k27_4 : Con Tryz.prog 122 [.agg [.v (.string ⟨⟨[102, 111, 117, 114, 98, 97, 114]⟩⟩), .lst 2 [.agg [.v (.string ⟨⟨[102, 114, 97, 109, 101]⟩⟩), .lst 7 [.agg [.v (.string ⟨⟨[97]⟩⟩), .v (.bool false), .lst 1 [], .lst 1 [], .v (.bool false), .lst 1 [], .lst 1 []], .agg [.v (.string ⟨⟨[98]⟩⟩), .v (.bool false), .lst 1 [.v (.int .u32 4)], .lst 1 [.v (.int .u32 1)], .v (.bool false), .lst 1 [], .lst 1 []]]], .agg [.v (.string ⟨⟨[99, 114, 97, 110, 107]⟩⟩), .lst 7 [.agg [.v (.string ⟨⟨[97]⟩⟩), .v (.bool false), .lst 1 [], .lst 1 [], .v (.bool false), .lst 1 [], .lst 1 []], .agg [.v (.string ⟨⟨[98]⟩⟩), .v (.bool false), .lst 1 [.v (.int .u32 3)], .lst 1 [.v (.int .u32 1)], .v (.bool false), .lst 1 [], .lst 1 []]]], .agg [.v (.string ⟨⟨[99, 111, 117, 112, 108, 101, 114]⟩⟩), .lst 7 [.agg [.v (.string ⟨⟨[97]⟩⟩), .v (.bool false), .lst 1 [], .lst 1 [], .v (.bool false), .lst 1 [], .lst 1 []], .agg [.v (.string ⟨⟨[98]⟩⟩), .v (.bool false), .lst 1 [.v (.int .u32 5)], .lst 1 [.v (.int .u32 1)], .v (.bool false), .lst 1 [], .lst 1 []]]], .agg [.v (.string ⟨⟨[114, 111, 99, 107, 101, 114]⟩⟩), .lst 7 [.agg [.v (.string ⟨⟨[97]⟩⟩), .v (.bool false), .lst 1 [], .lst 1 [], .v (.bool false), .lst 1 [], .lst 1 []], .agg [.v (.string ⟨⟨[98]⟩⟩), .v (.bool false), .lst 1 [.v (.int .u32 6)], .lst 1 [.v (.int .u32 1)], .v (.bool false), .lst 1 [], .lst 1 []]]]], .lst 7 [.agg [.v (.string ⟨⟨[111]⟩⟩), .v (.int .i64 0), .v (.int .i64 1), .v (.int .i64 0), .v (.int .i64 0), .v (.int .i64 0), .v (.int .i64 0)], .agg [.v (.string ⟨⟨[112]⟩⟩), .v (.int .i64 0), .v (.int .i64 2), .v (.int .i64 0), .v (.int .i64 1), .v (.int .i64 1), .v (.int .i64 0)], .agg [.v (.string ⟨⟨[113]⟩⟩), .v (.int .i64 0), .v (.int .i64 3), .v (.int .i64 0), .v (.int .i64 0), .v (.int .i64 1), .v (.int .i64 0)], .agg [.v (.string ⟨⟨[114]⟩⟩), .v (.int .i64 0), .v (.int .i64 2), .v (.int .i64 1), .v (.int .i64 3), .v (.int .i64 1), .v (.int .i64 0)]], .lst 2 [.agg [.v (.string ⟨⟨[100]⟩⟩), .v (.int .i64 1)]]], .v (.int .i64 1), .agg [.v (.bool false), .v (.slice none 0 0), .v (.slice none 0 0), .v (.bool false)], .agg [.v (.slice none 0 0), .lst 4 [.agg [.lst 3 [.agg [.v (.bool false), .lst 1 [.v (.int .u32 1)], .lst 1 [.v (.int .u32 1)]]], .v (.slice none 0 0), .v (.slice none 0 0), .v (.slice none 0 0)], .agg [.lst 3 [.agg [.v (.bool false), .lst 1 [.v (.int .u32 1)], .lst 1 [.v (.int .u32 1)]]], .v (.slice none 0 0), .lst 3 [], .lst 3 []], .agg [.v (.slice none 0 0), .v (.slice none 0 0), .v (.slice none 0 0), .v (.slice none 0 0)], .agg [.v (.slice none 0 0), .v (.slice none 0 0), .v (.slice none 0 0), .v (.slice none 0 0)]], .lst 1 [.v (.int .i64 1)]]] [] (.tup [.ms 300 3 0 1, .v .nilIface]) [(300, some (.row 3 [.agg [.v (.slice none 0 0), .lst 4 [.agg [.lst 3 [.agg [.v (.bool true), .lst 1 [.v (.int .u32 1)], .lst 1 [.v (.int .u32 1)]]], .v (.slice none 0 0), .lst 3 [.agg [.v (.bool false), .lst 1 [.v (.int .u32 3)], .lst 1 [.v (.int .u32 1)]]], .lst 3 []], .agg [.lst 3 [.agg [.v (.bool true), .lst 1 [.v (.int .u32 1)], .lst 1 [.v (.int .u32 1)]]], .v (.slice none 0 0), .lst 3 [.agg [.v (.bool false), .lst 1 [.v (.int .u32 4)], .lst 1 [.v (.int .u32 1)]]], .lst 3 []]], .v (.int .i64 0)]]))] :=
  ev_fn ⟨orF [⟨_, _, _, _, k27_0⟩, ⟨_, _, _, _, k27_1⟩, ⟨_, _, _, _, k27_2⟩, ⟨_, _, _, _, k27_3⟩] ((orcG fb fb_ok fb_li)), fun n => FT.get (.nd (.nd (.nd (.nd (.nd (.nd (.nd .lf (mkFE 37 Tryz.f37 Tryz.func37 rfl rfl) .lf) (mkFE 47 Tryz.f47 Tryz.func47 rfl rfl) (.nd .lf (mkFE 71 Tryz.f71 Tryz.func71 rfl rfl) .lf)) (mkFE 72 Tryz.f72 Tryz.func72 rfl rfl) (.nd (.nd .lf (mkFE 73 Tryz.f73 Tryz.func73 rfl rfl) .lf) (mkFE 74 Tryz.f74 Tryz.func74 rfl rfl) (.nd .lf (mkFE 75 Tryz.f75 Tryz.func75 rfl rfl) .lf))) (mkFE 76 Tryz.f76 Tryz.func76 rfl rfl) (.nd (.nd (.nd .lf (mkFE 93 Tryz.f93 Tryz.func93 rfl rfl) .lf) (mkFE 112 Tryz.f112 Tryz.func112 rfl rfl) (.nd .lf (mkFE 114 Tryz.f114 Tryz.func114 rfl rfl) .lf)) (mkFE 119 Tryz.f119 Tryz.func119 rfl rfl) (.nd (.nd .lf (mkFE 122 Tryz.f122 Tryz.func122 rfl rfl) .lf) (mkFE 133 Tryz.f133 Tryz.func133 rfl rfl) .lf))) (mkFE 135 Tryz.f135 Tryz.func135 rfl rfl) (.nd (.nd (.nd (.nd .lf (mkFE 137 Tryz.f137 Tryz.func137 rfl rfl) .lf) (mkFE 138 Tryz.f138 Tryz.func138 rfl rfl) (.nd .lf (mkFE 139 Tryz.f139 Tryz.func139 rfl rfl) .lf)) (mkFE 140 Tryz.f140 Tryz.func140 rfl rfl) (.nd (.nd .lf (mkFE 141 Tryz.f141 Tryz.func141 rfl rfl) .lf) (mkFE 156 Tryz.f156 Tryz.func156 rfl rfl) .lf)) (mkFE 157 Tryz.f157 Tryz.func157 rfl rfl) (.nd (.nd (.nd .lf (mkFE 170 Tryz.f170 Tryz.func170 rfl rfl) .lf) (mkFE 171 Tryz.f171 Tryz.func171 rfl rfl) (.nd .lf (mkFE 172 Tryz.f172 Tryz.func172 rfl rfl) .lf)) (mkFE 179 Tryz.f179 Tryz.func179 rfl rfl) (.nd (.nd .lf (mkFE 180 Tryz.f180 Tryz.func180 rfl rfl) .lf) (mkFE 181 Tryz.f181 Tryz.func181 rfl rfl) .lf)))) (mkFE 182 Tryz.f182 Tryz.func182 rfl rfl) (.nd (.nd (.nd (.nd (.nd .lf (mkFE 183 Tryz.f183 Tryz.func183 rfl rfl) .lf) (mkFE 198 Tryz.f198 Tryz.func198 rfl rfl) (.nd .lf (mkFE 199 Tryz.f199 Tryz.func199 rfl rfl) .lf)) (mkFE 202 Tryz.f202 Tryz.func202 rfl rfl) (.nd (.nd .lf (mkFE 203 Tryz.f203 Tryz.func203 rfl rfl) .lf) (mkFE 204 Tryz.f204 Tryz.func204 rfl rfl) .lf)) (mkFE 226 Tryz.f226 Tryz.func226 rfl rfl) (.nd (.nd (.nd .lf (mkFE 227 Tryz.f227 Tryz.func227 rfl rfl) .lf) (mkFE 236 Tryz.f236 Tryz.func236 rfl rfl) (.nd .lf (mkFE 242 Tryz.f242 Tryz.func242 rfl rfl) .lf)) (mkFE 243 Tryz.f243 Tryz.func243 rfl rfl) (.nd (.nd .lf (mkFE 244 Tryz.f244 Tryz.func244 rfl rfl) .lf) (mkFE 245 Tryz.f245 Tryz.func245 rfl rfl) .lf))) (mkFE 246 Tryz.f246 Tryz.func246 rfl rfl) (.nd (.nd (.nd (.nd .lf (mkFE 247 Tryz.f247 Tryz.func247 rfl rfl) .lf) (mkFE 248 Tryz.f248 Tryz.func248 rfl rfl) (.nd .lf (mkFE 249 Tryz.f249 Tryz.func249 rfl rfl) .lf)) (mkFE 250 Tryz.f250 Tryz.func250 rfl rfl) (.nd (.nd .lf (mkFE 252 Tryz.f252 Tryz.func252 rfl rfl) .lf) (mkFE 254 Tryz.f254 Tryz.func254 rfl rfl) .lf)) (mkFE 255 Tryz.f255 Tryz.func255 rfl rfl) (.nd (.nd (.nd .lf (mkFE 256 Tryz.f256 Tryz.func256 rfl rfl) .lf) (mkFE 257 Tryz.f257 Tryz.func257 rfl rfl) (.nd .lf (mkFE 258 Tryz.f258 Tryz.func258 rfl rfl) .lf)) (mkFE 259 Tryz.f259 Tryz.func259 rfl rfl) (.nd (.nd .lf (mkFE 260 Tryz.f260 Tryz.func260 rfl rfl) .lf) (mkFE 261 Tryz.f261 Tryz.func261 rfl rfl) .lf))))) (mkFE 262 Tryz.f262 Tryz.func262 rfl rfl) (.nd (.nd (.nd (.nd (.nd (.nd .lf (mkFE 263 Tryz.f263 Tryz.func263 rfl rfl) .lf) (mkFE 264 Tryz.f264 Tryz.func264 rfl rfl) (.nd .lf (mkFE 277 Tryz.f277 Tryz.func277 rfl rfl) .lf)) (mkFE 278 Tryz.f278 Tryz.func278 rfl rfl) (.nd (.nd .lf (mkFE 280 Tryz.f280 Tryz.func280 rfl rfl) .lf) (mkFE 295 Tryz.f295 Tryz.func295 rfl rfl) .lf)) (mkFE 296 Tryz.f296 Tryz.func296 rfl rfl) (.nd (.nd (.nd .lf (mkFE 302 Tryz.f302 Tryz.func302 rfl rfl) .lf) (mkFE 303 Tryz.f303 Tryz.func303 rfl rfl) (.nd .lf (mkFE 304 Tryz.f304 Tryz.func304 rfl rfl) .lf)) (mkFE 305 Tryz.f305 Tryz.func305 rfl rfl) (.nd (.nd .lf (mkFE 306 Tryz.f306 Tryz.func306 rfl rfl) .lf) (mkFE 307 Tryz.f307 Tryz.func307 rfl rfl) .lf))) (mkFE 308 Tryz.f308 Tryz.func308 rfl rfl) (.nd (.nd (.nd (.nd .lf (mkFE 309 Tryz.f309 Tryz.func309 rfl rfl) .lf) (mkFE 310 Tryz.f310 Tryz.func310 rfl rfl) (.nd .lf (mkFE 311 Tryz.f311 Tryz.func311 rfl rfl) .lf)) (mkFE 312 Tryz.f312 Tryz.func312 rfl rfl) (.nd (.nd .lf (mkFE 316 Tryz.f316 Tryz.func316 rfl rfl) .lf) (mkFE 318 Tryz.f318 Tryz.func318 rfl rfl) .lf)) (mkFE 319 Tryz.f319 Tryz.func319 rfl rfl) (.nd (.nd (.nd .lf (mkFE 321 Tryz.f321 Tryz.func321 rfl rfl) .lf) (mkFE 322 Tryz.f322 Tryz.func322 rfl rfl) (.nd .lf (mkFE 323 Tryz.f323 Tryz.func323 rfl rfl) .lf)) (mkFE 324 Tryz.f324 Tryz.func324 rfl rfl) (.nd (.nd .lf (mkFE 325 Tryz.f325 Tryz.func325 rfl rfl) .lf) (mkFE 326 Tryz.f326 Tryz.func326 rfl rfl) .lf)))) (mkFE 327 Tryz.f327 Tryz.func327 rfl rfl) (.nd (.nd (.nd (.nd (.nd .lf (mkFE 328 Tryz.f328 Tryz.func328 rfl rfl) .lf) (mkFE 329 Tryz.f329 Tryz.func329 rfl rfl) (.nd .lf (mkFE 330 Tryz.f330 Tryz.func330 rfl rfl) .lf)) (mkFE 331 Tryz.f331 Tryz.func331 rfl rfl) (.nd (.nd .lf (mkFE 332 Tryz.f332 Tryz.func332 rfl rfl) .lf) (mkFE 333 Tryz.f333 Tryz.func333 rfl rfl) .lf)) (mkFE 352 Tryz.f352 Tryz.func352 rfl rfl) (.nd (.nd (.nd .lf (mkFE 353 Tryz.f353 Tryz.func353 rfl rfl) .lf) (mkFE 354 Tryz.f354 Tryz.func354 rfl rfl) (.nd .lf (mkFE 355 Tryz.f355 Tryz.func355 rfl rfl) .lf)) (mkFE 356 Tryz.f356 Tryz.func356 rfl rfl) (.nd (.nd .lf (mkFE 357 Tryz.f357 Tryz.func357 rfl rfl) .lf) (mkFE 358 Tryz.f358 Tryz.func358 rfl rfl) .lf))) (mkFE 359 Tryz.f359 Tryz.func359 rfl rfl) (.nd (.nd (.nd (.nd .lf (mkFE 360 Tryz.f360 Tryz.func360 rfl rfl) .lf) (mkFE 361 Tryz.f361 Tryz.func361 rfl rfl) (.nd .lf (mkFE 362 Tryz.f362 Tryz.func362 rfl rfl) .lf)) (mkFE 363 Tryz.f363 Tryz.func363 rfl rfl) (.nd (.nd .lf (mkFE 364 Tryz.f364 Tryz.func364 rfl rfl) .lf) (mkFE 366 Tryz.f366 Tryz.func366 rfl rfl) .lf)) (mkFE 373 Tryz.f373 Tryz.func373 rfl rfl) (.nd (.nd (.nd .lf (mkFE 374 Tryz.f374 Tryz.func374 rfl rfl) .lf) (mkFE 375 Tryz.f375 Tryz.func375 rfl rfl) (.nd .lf (mkFE 376 Tryz.f376 Tryz.func376 rfl rfl) .lf)) (mkFE 377 Tryz.f377 Tryz.func377 rfl rfl) (.nd (.nd .lf (mkFE 378 Tryz.f378 Tryz.func378 rfl rfl) .lf) (mkFE 379 Tryz.f379 Tryz.func379 rfl rfl) .lf)))))) n, mutF⟩ 6000 (base := 2000) (av := []) (by kernel_rfl)
theorem k27_5 : Con Tryz.prog 178 [.lst 3 [.agg [.v (.bool false), .lst 1 [.v (.int .u32 1)], .lst 1 [.v (.int .u32 1)]]]] [] (.ms 300 3 0 1) [(300, some (.row 3 [.agg [.v (.bool false), .lst 1 [.v (.int .u32 1)], .lst 1 [.v (.int .u32 1)]]]))] :=
  ev_fn ⟨orF [⟨_, _, _, _, k27_0⟩, ⟨_, _, _, _, k27_1⟩, ⟨_, _, _, _, k27_2⟩, ⟨_, _, _, _, k27_3⟩, ⟨_, _, _, _, k27_4⟩] ((orcG fb fb_ok fb_li)), fun n => FT.get (.nd .lf (mkFE 178 Tryz.f178 Tryz.func178 rfl rfl) .lf) n, mutF⟩ 6000 (base := 2000) (av := []) (by kernel_rfl)
theorem k27_6 : Con Tryz.prog 178 [.v (.slice none 0 0)] [] (.v (.slice none 0 0)) [] :=
  ev_fn ⟨orF [⟨_, _, _, _, k27_0⟩, ⟨_, _, _, _, k27_1⟩, ⟨_, _, _, _, k27_2⟩, ⟨_, _, _, _, k27_3⟩, ⟨_, _, _, _, k27_4⟩, ⟨_, _, _, _, k27_5⟩] ((orcG fb fb_ok fb_li)), fun n => FT.get (.nd .lf (mkFE 178 Tryz.f178 Tryz.func178 rfl rfl) .lf) n, mutF⟩ 6000 (base := 2000) (av := []) (by kernel_rfl)
theorem k27_7 : Con Tryz.prog 178 [.lst 3 []] [] (.v (.slice none 0 0)) [] :=
  ev_fn ⟨orF [⟨_, _, _, _, k27_0⟩, ⟨_, _, _, _, k27_1⟩, ⟨_, _, _, _, k27_2⟩, ⟨_, _, _, _, k27_3⟩, ⟨_, _, _, _, k27_4⟩, ⟨_, _, _, _, k27_5⟩, ⟨_, _, _, _, k27_6⟩] ((orcG fb fb_ok fb_li)), fun n => FT.get (.nd .lf (mkFE 178 Tryz.f178 Tryz.func178 rfl rfl) .lf) n, mutF⟩ 6000 (base := 2000) (av := []) (by kernel_rfl)
theorem k27_8 : Con Tryz.prog 178 [.lst 3 [.agg [.v (.bool true), .lst 1 [.v (.int .u32 1)], .lst 1 [.v (.int .u32 1)]]]] [] (.ms 300 3 0 1) [(300, some (.row 3 [.agg [.v (.bool true), .lst 1 [.v (.int .u32 1)], .lst 1 [.v (.int .u32 1)]]]))] :=
  ev_fn ⟨orF [⟨_, _, _, _, k27_0⟩, ⟨_, _, _, _, k27_1⟩, ⟨_, _, _, _, k27_2⟩, ⟨_, _, _, _, k27_3⟩, ⟨_, _, _, _, k27_4⟩, ⟨_, _, _, _, k27_5⟩, ⟨_, _, _, _, k27_6⟩, ⟨_, _, _, _, k27_7⟩] ((orcG fb fb_ok fb_li)), fun n => FT.get (.nd .lf (mkFE 178 Tryz.f178 Tryz.func178 rfl rfl) .lf) n, mutF⟩ 6000 (base := 2000) (av := []) (by kernel_rfl)
theorem k27_9 : Con Tryz.prog 178 [.lst 3 [.agg [.v (.bool false), .lst 1 [.v (.int .u32 3)], .lst 1 [.v (.int .u32 1)]]]] [] (.ms 300 3 0 1) [(300, some (.row 3 [.agg [.v (.bool false), .lst 1 [.v (.int .u32 3)], .lst 1 [.v (.int .u32 1)]]]))] :=
  ev_fn ⟨orF [⟨_, _, _, _, k27_0⟩, ⟨_, _, _, _, k27_1⟩, ⟨_, _, _, _, k27_2⟩, ⟨_, _, _, _, k27_3⟩, ⟨_, _, _, _, k27_4⟩, ⟨_, _, _, _, k27_5⟩, ⟨_, _, _, _, k27_6⟩, ⟨_, _, _, _, k27_7⟩, ⟨_, _, _, _, k27_8⟩] ((orcG fb fb_ok fb_li)), fun n => FT.get (.nd .lf (mkFE 178 Tryz.f178 Tryz.func178 rfl rfl) .lf) n, mutF⟩ 6000 (base := 2000) (av := []) (by kernel_rfl)
theorem k27_10 : Con Tryz.prog 178 [.lst 3 [.agg [.v (.bool false), .lst 1 [.v (.int .u32 4)], .lst 1 [.v (.int .u32 1)]]]] [] (.ms 300 3 0 1) [(300, some (.row 3 [.agg [.v (.bool false), .lst 1 [.v (.int .u32 4)], .lst 1 [.v (.int .u32 1)]]]))] :=
  ev_fn ⟨orF [⟨_, _, _, _, k27_0⟩, ⟨_, _, _, _, k27_1⟩, ⟨_, _, _, _, k27_2⟩, ⟨_, _, _, _, k27_3⟩, ⟨_, _, _, _, k27_4⟩, ⟨_, _, _, _, k27_5⟩, ⟨_, _, _, _, k27_6⟩, ⟨_, _, _, _, k27_7⟩, ⟨_, _, _, _, k27_8⟩, ⟨_, _, _, _, k27_9⟩] ((orcG fb fb_ok fb_li)), fun n => FT.get (.nd .lf (mkFE 178 Tryz.f178 Tryz.func178 rfl rfl) .lf) n, mutF⟩ 6000 (base := 2000) (av := []) (by kernel_rfl)
theorem k27_11 : Con Tryz.prog 30 [.agg [.v (.string ⟨⟨[102, 111, 117, 114, 98, 97, 114]⟩⟩), .lst 2 [.agg [.v (.string ⟨⟨[102, 114, 97, 109, 101]⟩⟩), .lst 7 [.agg [.v (.string ⟨⟨[97]⟩⟩), .v (.bool false), .lst 1 [], .lst 1 [], .v (.bool false), .lst 1 [], .lst 1 []], .agg [.v (.string ⟨⟨[98]⟩⟩), .v (.bool false), .lst 1 [.v (.int .u32 4)], .lst 1 [.v (.int .u32 1)], .v (.bool false), .lst 1 [], .lst 1 []]]], .agg [.v (.string ⟨⟨[99, 114, 97, 110, 107]⟩⟩), .lst 7 [.agg [.v (.string ⟨⟨[97]⟩⟩), .v (.bool false), .lst 1 [], .lst 1 [], .v (.bool false), .lst 1 [], .lst 1 []], .agg [.v (.string ⟨⟨[98]⟩⟩), .v (.bool false), .lst 1 [.v (.int .u32 3)], .lst 1 [.v (.int .u32 1)], .v (.bool false), .lst 1 [], .lst 1 []]]], .agg [.v (.string ⟨⟨[99, 111, 117, 112, 108, 101, 114]⟩⟩), .lst 7 [.agg [.v (.string ⟨⟨[97]⟩⟩), .v (.bool false), .lst 1 [], .lst 1 [], .v (.bool false), .lst 1 [], .lst 1 []], .agg [.v (.string ⟨⟨[98]⟩⟩), .v (.bool false), .lst 1 [.v (.int .u32 5)], .lst 1 [.v (.int .u32 1)], .v (.bool false), .lst 1 [], .lst 1 []]]], .agg [.v (.string ⟨⟨[114, 111, 99, 107, 101, 114]⟩⟩), .lst 7 [.agg [.v (.string ⟨⟨[97]⟩⟩), .v (.bool false), .lst 1 [], .lst 1 [], .v (.bool false), .lst 1 [], .lst 1 []], .agg [.v (.string ⟨⟨[98]⟩⟩), .v (.bool false), .lst 1 [.v (.int .u32 6)], .lst 1 [.v (.int .u32 1)], .v (.bool false), .lst 1 [], .lst 1 []]]]], .lst 7 [.agg [.v (.string ⟨⟨[111]⟩⟩), .v (.int .i64 0), .v (.int .i64 1), .v (.int .i64 0), .v (.int .i64 0), .v (.int .i64 0), .v (.int .i64 0)], .agg [.v (.string ⟨⟨[112]⟩⟩), .v (.int .i64 0), .v (.int .i64 2), .v (.int .i64 0), .v (.int .i64 1), .v (.int .i64 1), .v (.int .i64 0)], .agg [.v (.string ⟨⟨[113]⟩⟩), .v (.int .i64 0), .v (.int .i64 3), .v (.int .i64 0), .v (.int .i64 0), .v (.int .i64 1), .v (.int .i64 0)], .agg [.v (.string ⟨⟨[114]⟩⟩), .v (.int .i64 0), .v (.int .i64 2), .v (.int .i64 1), .v (.int .i64 3), .v (.int .i64 1), .v (.int .i64 0)]], .lst 2 [.agg [.v (.string ⟨⟨[100]⟩⟩), .v (.int .i64 1)]]], .lst 4 [.agg [.v (.bool false), .v (.slice none 0 0), .v (.slice none 0 0), .v (.bool false)]]] [] (.tup [.ms 300 3 0 1, .v .nilIface]) [(300, some (.row 3 [.agg [.v (.slice none 0 0), .lst 4 [.agg [.lst 3 [.agg [.v (.bool false), .lst 1 [.v (.int .u32 1)], .lst 1 [.v (.int .u32 1)]]], .v (.slice none 0 0), .v (.slice none 0 0), .v (.slice none 0 0)], .agg [.lst 3 [.agg [.v (.bool false), .lst 1 [.v (.int .u32 1)], .lst 1 [.v (.int .u32 1)]]], .v (.slice none 0 0), .v (.slice none 0 0), .v (.slice none 0 0)], .agg [.lst 3 [.agg [.v (.bool true), .lst 1 [.v (.int .u32 1)], .lst 1 [.v (.int .u32 1)]]], .v (.slice none 0 0), .lst 3 [.agg [.v (.bool false), .lst 1 [.v (.int .u32 3)], .lst 1 [.v (.int .u32 1)]]], .v (.slice none 0 0)], .agg [.lst 3 [.agg [.v (.bool true), .lst 1 [.v (.int .u32 1)], .lst 1 [.v (.int .u32 1)]]], .v (.slice none 0 0), .lst 3 [.agg [.v (.bool false), .lst 1 [.v (.int .u32 4)], .lst 1 [.v (.int .u32 1)]]], .v (.slice none 0 0)]], .lst 1 [.v (.int .i64 1), .v (.int .i64 0)]]]))] :=
  ev_fn ⟨orF [⟨_, _, _, _, k27_0⟩, ⟨_, _, _, _, k27_1⟩, ⟨_, _, _, _, k27_2⟩, ⟨_, _, _, _, k27_3⟩, ⟨_, _, _, _, k27_4⟩, ⟨_, _, _, _, k27_5⟩, ⟨_, _, _, _, k27_6⟩, ⟨_, _, _, _, k27_7⟩, ⟨_, _, _, _, k27_8⟩, ⟨_, _, _, _, k27_9⟩, ⟨_, _, _, _, k27_10⟩] ((orcG fb fb_ok fb_li)), fun n => FT.get (.nd (.nd (.nd (.nd .lf (mkFE 30 Tryz.f30 Tryz.func30 rfl rfl) .lf) (mkFE 63 Tryz.f63 Tryz.func63 rfl rfl) .lf) (mkFE 64 Tryz.f64 Tryz.func64 rfl rfl) (.nd (.nd .lf (mkFE 65 Tryz.f65 Tryz.func65 rfl rfl) .lf) (mkFE 119 Tryz.f119 Tryz.func119 rfl rfl) .lf)) (mkFE 120 Tryz.f120 Tryz.func120 rfl rfl) (.nd (.nd (.nd .lf (mkFE 121 Tryz.f121 Tryz.func121 rfl rfl) .lf) (mkFE 123 Tryz.f123 Tryz.func123 rfl rfl) .lf) (mkFE 124 Tryz.f124 Tryz.func124 rfl rfl) (.nd (.nd .lf (mkFE 177 Tryz.f177 Tryz.func177 rfl rfl) .lf) (mkFE 184 Tryz.f184 Tryz.func184 rfl rfl) .lf))) n, mutF⟩ 6000 (base := 2000) (av := []) (by kernel_rfl)
theorem c_l27_awake : FnC Tryz.prog 7 [] (bl true) :=
  ev_fn ⟨orF [⟨_, _, _, _, k27_0⟩, ⟨_, _, _, _, k27_1⟩, ⟨_, _, _, _, k27_2⟩, ⟨_, _, _, _, k27_3⟩, ⟨_, _, _, _, k27_4⟩, ⟨_, _, _, _, k27_5⟩, ⟨_, _, _, _, k27_6⟩, ⟨_, _, _, _, k27_7⟩, ⟨_, _, _, _, k27_8⟩, ⟨_, _, _, _, k27_9⟩, ⟨_, _, _, _, k27_10⟩, ⟨_, _, _, _, k27_11⟩] ((orcG fb fb_ok fb_li)), fun n => FT.get (.nd (.nd (.nd (.nd (.nd .lf (mkFE 7 Tryz.f7 Tryz.func7 rfl rfl) .lf) (mkFE 9 Tryz.f9 Tryz.func9 rfl rfl) .lf) (mkFE 12 Tryz.f12 Tryz.func12 rfl rfl) (.nd .lf (mkFE 32 Tryz.f32 Tryz.func32 rfl rfl) .lf)) (mkFE 34 Tryz.f34 Tryz.func34 rfl rfl) (.nd (.nd .lf (mkFE 37 Tryz.f37 Tryz.func37 rfl rfl) .lf) (mkFE 73 Tryz.f73 Tryz.func73 rfl rfl) (.nd .lf (mkFE 74 Tryz.f74 Tryz.func74 rfl rfl) .lf))) (mkFE 75 Tryz.f75 Tryz.func75 rfl rfl) (.nd (.nd (.nd .lf (mkFE 76 Tryz.f76 Tryz.func76 rfl rfl) .lf) (mkFE 93 Tryz.f93 Tryz.func93 rfl rfl) (.nd .lf (mkFE 138 Tryz.f138 Tryz.func138 rfl rfl) .lf)) (mkFE 139 Tryz.f139 Tryz.func139 rfl rfl) (.nd (.nd .lf (mkFE 140 Tryz.f140 Tryz.func140 rfl rfl) .lf) (mkFE 141 Tryz.f141 Tryz.func141 rfl rfl) (.nd .lf (mkFE 204 Tryz.f204 Tryz.func204 rfl rfl) .lf)))) n, mutF⟩ 6000 (base := 2000) (av := []) (by kernel_rfl)
end Go.Lw
namespace Go.Lw
open Go.Proofs
end Go.Lw
namespace Go.Lw
open Go.Proofs
theorem c_l11_brief (rs xs : List (List Rt)) (w m : Nat) (hrs : RsOk rs) (hxs : RsOk xs) (hrl : rs.length ≤ 100) (hxl : xs.length ≤ 100) : FnC Tryz.prog 35 [towR rs, i64 w, i64 m, .lst 1 (xs.map nR)] (bl (briefB w m (rs ++ xs))) := by
 obtain ⟨l, hl⟩ : ∃ l, l = rs ++ xs := ⟨_, rfl⟩
 have hlo : RsOk l := by rw [hl]; exact hrs.app hxs
 have hll : l.length ≤ 200 := by rw [hl, List.length_append]; omega
 have hml : rs.map nR ++ xs.map nR = l.map nR := by rw [hl, List.map_append]
 rw [← hl]
 refine gF0 Tryz.func35 ?_
 refine gs (s_buildMs0 T22 rfl T37 rfl rfl rfl) ?_
 refine gs (s_append (.tmp rfl) rfl rfl (.tmp rfl) T22 rfl T37 rfl rfl (by simp only [List.length_map]; omega) rfl rfl) ?_
 refine gs (s_appendF (.tmp rfl) rfl (by simp) (.tmp rfl) T22 rfl T37 rfl rfl (by simp only [List.length_map]; omega) rfl rfl) ?_
 refine ge rfl ?_
 refine gL1 [1, 2] [] (fun (i : Nat) => [(18, some (.lst 1 (l.map nR))), (19, some (i64 l.length)), (20, some (i64 i))]) (fun _ => []) (fun i => i ≤ l.length ∧ (l.take i).all (briefX w m) = true) (fun i => l.length - i) 0 ⟨Nat.zero_le _, rfl⟩ ?_ (h1 := (.cons rfl (Sub.of (congrArg (AV.lst 1) hml)) (.cons rfl (Sub.int (by rw [List.nil_append, hml, List.length_map])) (.k .nil))))
 rintro i ⟨hi, hj⟩ K1 hK1
 refine gC (fun ht21 => ?_) (fun ht21 => ?_)
 ·have hin := lss_t ht21
  obtain ⟨x, hx⟩ := getx hin
  have hxo := hlo x (List.mem_of_getElem? hx)
  have hxl := hxo.2
  refine gi (getmap hx) ?_
  refine gl ?_
  refine gC (fun ht27 => ?_) (fun ht27 => ?_)
  ·have h1 := gtr_t ht27
   refine gE1 ?_
   rw [briefB, all_miss hx (by unfold briefX; rw [decide_eq_false (by omega)]; rfl)]; rfl
  ·have h1 : x.length ≤ m := gtr_f ht27
   refine gl ?_
   refine gL1 [1, 2, 18, 19, 20, 28, 29] [] (fun (k : Nat) => [(30, some (i64 k))]) (fun _ => []) (fun k => k ≤ x.length ∧ (x.take k).all (fun r => decide (r.num.length ≤ w ∧ r.den.length ≤ w)) = true) (fun k => x.length - k) 0 ⟨Nat.zero_le _, rfl⟩ ?_
   rintro k ⟨hk, hkj⟩ K2 hK2
   refine gC (fun ht31 => ?_) (fun ht31 => ?_)
   ·have hkn := lss_t ht31
    obtain ⟨r, hr⟩ := getx hkn
    refine gi (getmap hr) ?_
    refine gl ?_
    refine glG ?_
    refine gC (fun ht45 => ?_) (fun ht45 => ?_)
    ·have h2 : ¬ (r.num.length ≤ w ∧ r.den.length ≤ w) := orGt_t ht45
     refine gE1 ?_
     rw [briefB, all_miss hx (by unfold briefX; rw [all_miss hr (decide_eq_false h2), Bool.and_false])]; rfl
    ·have h2 : r.num.length ≤ w ∧ r.den.length ≤ w := orGt_f ht45
     refine ga (i64_add1 (by unfold maxL; omega)) ?_
     exact gK1 hK2 (k + 1) ⟨hkn, all_step hkj hr (decide_eq_true h2)⟩
   ·have hkn := lss_end hk ht31
    refine ga (i64_add1 (by unfold maxL; omega)) ?_
    exact gK1 hK1 (i + 1) ⟨hin, all_step hj hx (by unfold briefX; rw [decide_eq_true h1, all_end hkn hkj]; rfl)⟩
 ·have hin := lss_end hi ht21
  refine gE1 ?_
  rw [briefB, all_end hin hj]; rfl
theorem c_l11_Light (rs xs : List (List Rt)) (hrs : RsOk rs) (hxs : RsOk xs) (hrl : rs.length ≤ 281474976710656) (hxl : xs.length ≤ 100) : FnC Tryz.prog 8 [towR rs, .lst 1 (xs.map nR)] (bl (lightB rs xs)) := by
 refine gF0 Tryz.func8 ?_
 refine gl ?_
 refine gC (fun ht9 => ?_) (fun ht9 => ?_)
 ·have h1 : rs.length ≤ 1 ∨ (5 < rs.length ∧ rs.length ≤ 8) := few_t ht9
  refine gc (c_l11_brief rs xs 3 40 hrs hxs (by omega) hxl) ?_
  refine gE1 ?_
  unfold lightB; rw [if_pos h1]
 ·have h1 : ¬ (rs.length ≤ 1 ∨ (5 < rs.length ∧ rs.length ≤ 8)) := few_f ht9
  refine gC (fun ht23 => ?_) (fun ht23 => ?_)
  ·have h2 : rs.length = 2 := by have := eql_t ht23; omega
   refine gc (c_l11_brief rs xs 1 40 hrs hxs (by omega) hxl) ?_
   refine gE1 ?_
   unfold lightB; rw [if_neg h1, if_pos h2]
  ·have h2 : ¬ rs.length = 2 := by have := eql_f ht23; omega
   refine gC (fun ht29 => ?_) (fun ht29 => ?_)
   ·have h3 : rs.length = 3 := by have := eql_t ht29; omega
    refine gc (c_l11_brief rs xs 1 4 hrs hxs (by omega) hxl) ?_
    refine gE1 ?_
    unfold lightB; rw [if_neg h1, if_neg h2, if_pos h3]
   ·have h3 : ¬ rs.length = 3 := by have := eql_f ht29; omega
    refine gE1 ?_
    unfold lightB; rw [if_neg h1, if_neg h2, if_neg h3]; rfl
end Go.Lw
