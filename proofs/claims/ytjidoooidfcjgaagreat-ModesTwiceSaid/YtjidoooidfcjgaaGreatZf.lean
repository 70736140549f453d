/- ModesMirrors: for any linkage and any turns the law returns true and leaves its arguments as they were; ModesTwice: for any linkage and any turns the law returns true and leaves its arguments as they were. No other condition. Part 6 of 6: the statement -/
import Derived.Test.YtjidoooidfcjgaaGreatZe
set_option linter.unusedVariables false
open List (mem_of_getElem? mem_cons_of_mem mem_append map_cons mem_cons length_cons mem_cons_self length_append length_nil getElem?_eq_none all_eq_true getElem?_take getElem?_drop getElem?_map getElem?_eq_getElem nil_append map_append length_take take_of_length_le drop_zero take_length not_mem_nil length_map map_map map_replicate map_set)
open Nat (eq_of_beq_eq_true le_refl lt_of_lt_of_le lt_or_ge le_trans zero_le)
open Option (map_eq_some_iff)
open Bool (and_eq_true)
open Array (getD_eq_getD_getElem?)
open Int (toNat_natCast)
open Go.Proofs.Tryz
namespace Go.Lw
variable {P : Program} {N : Nat}
inductive OR where
  | ok (u : Out)
  | need (k : Nat)
  | no
inductive CR where
  | ok (H : Hp) (r : AV) (H' : Hp)
  | need (k : Nat)
  | no
def avt : List AV -> List AV -> Bool
  | [], y => match y with
    | [] => true
    | _ => false
  | x :: l, y => match y with
    | x' :: l' => al5 x x' && avt l l'
    | [] => false
theorem awn : ∀ {l l' : List AV}, avt l l' = true -> SubL l l'
 | [],[],h => .nil
 | [],_ :: _,h => by simp [avt] at h
 | _ :: _,[],h => by simp [avt] at h
 | x :: l, x' :: l', h => by
  simp only [avt,and_eq_true] at h
  exact .cons (aur x x' h.1) (awn h.2)
def mx : Nat -> List Nat -> Nat
  | m,[] => m
  | m, k :: l => match Nat.blt m k && Nat.blt k 1000 with
    | true => mx k l
    | false => mx m l
def bbd (s : AS) : Nat -> Nat -> Nat
  | 0,k => k
  | n + 1, k => match s.freshB k with
    | true => k
    | false => bbd s n (k + 1)
def nxt (s : AS) (av : List Nat) : Nat := bbd s 100 (mx (mx 299 (s.hp.map (·.1))) av + 1)
mutual
theorem AV.pm_id (σ : Nat -> Nat) : ∀ x : AV, x.nm = [] -> x.pm σ = x
 | .ms k sz off len,h => by simp [AV.nm] at h
 | .ptr k off,h => by simp [AV.nm] at h
 | .eptr k sz i off,h => by simp [AV.nm] at h
 | .yl k,h => by simp [AV.nm] at h
 | .agg cs,h => by simp only [AV.pm]; rw [AV.pms_id σ cs (by simpa only [AV.nm] using h)]
 | .tup cs,h => by simp only [AV.pm]; rw [AV.pms_id σ cs (by simpa only [AV.nm] using h)]
 | .fn f cs,h => by simp only [AV.pm]; rw [AV.pms_id σ cs (by simpa only [AV.nm] using h)]
 | .opt b x,h => by simp only [AV.pm]; rw [AV.pm_id σ x (by simpa only [AV.nm] using h)]
 | .v x,h => rfl
 | .lst sz l,h => rfl
 | .iptr l,h => rfl
 | .cl f cs ds,h => rfl
theorem AV.pms_id (σ : Nat -> Nat) : ∀ l : List AV, AV.nms l = [] -> AV.pms σ l = l
 | [],h => rfl
 | x :: l, h => by
  simp only [AV.nms,List.append_eq_nil_iff] at h
  simp only [AV.pms]; rw [AV.pm_id σ x h.1,AV.pms_id σ l h.2]
end
theorem bai {f : FuncId} {xs : List AV} {r : AV} {H' : Hp} (h : Con P f xs [] r H') (hx : AV.nms xs = []) (k d : Nat) : Con P f xs [] (r.pm (tr k d)) (pmH (tr k d) H') := by
 have h1 := h.pm (a7w k d)
 rw [<- AV.pms_eq,AV.pms_id _ xs hx] at h1
 exact h1
abbrev agz := List Nat -> FuncId -> List AV -> Hp -> Option (AV × Hp)
def agz.Ok (P : Program) (F : agz) : Prop := ∀ av f xs H r H',F av f xs H = some (r,H') -> Con P f xs H r H'
def biy (s : AS) : List Nat -> Option Nat
  | [] => none
  | k :: ks => match s.blk k with
    | some (.row _ _) => some k
    | _ => biy s ks
def a6a (F : agz) (s : AS) (av : List Nat) (f : FuncId) (xs : List AV) : CR :=
  match pkH s (azx s 300 (AV.nms xs) []) with
  | H => match F (s.hp.map (·.1) ++ av) f xs H with
    | some (r,H') => .ok H r H'
    | none => .no
def a1g (E : Env P) (F : agz) (s : AS) (av : List Nat) (f : FuncId) (xs : List AV) : CR := match E.mt f with
  | true => a6a F s av f xs
  | false => match biy s (AV.nms xs) with
    | some k => .need k
    | none => a6a F s av f xs
def avw (E : Env P) (F : agz) (s : AS) (av : List Nat) (f : FuncId) (xs : List AV) : CR := match E.orc f with
  | some g => match AV.nms xs with
    | k :: _ => .need k
    | [] => match g xs with
      | some e => match Nat.beq e.f f && avt xs e.xs with
        | true => match e.H' with
          | (k,some z) :: l => .ok [] (e.r.pm (tr k (nxt s av))) (pmH (tr k (nxt s av)) e.H')
          | _ => .ok [] e.r e.H'
        | false => a1g E F s av f xs
      | none => a1g E F s av f xs
  | none => a1g E F s av f xs
theorem ax1 {F : agz} (hF : F.Ok P) {s : AS} {av : List Nat} {f : FuncId} {xs : List AV} {H H' : Hp} {r : AV} (h : a6a F s av f xs = .ok H r H') : Con P f xs H r H' /\ ∀ k z, lk H k = some z -> s.blk k = some z := by
 unfold a6a at h
 simp only at h
 split at h
 ·rename_i h1; cases h; exact ⟨hF _ _ _ _ _ _ h1,fun k z hz => ar7 hz⟩
 ·cases h
theorem arm {E : Env P} {F : agz} (hF : F.Ok P) {s : AS} {av : List Nat} {f : FuncId} {xs : List AV} {H H' : Hp} {r : AV} (h : a1g E F s av f xs = .ok H r H') : Con P f xs H r H' /\ ∀ k z, lk H k = some z -> s.blk k = some z := by
 unfold a1g at h
 split at h
 ·exact ax1 hF h
 ·split at h
  ·cases h
  ·exact ax1 hF h
theorem aki {E : Env P} {F : agz} (hF : F.Ok P) {s : AS} {av : List Nat} {f : FuncId} {xs : List AV} {H H' : Hp} {r : AV} (h : avw E F s av f xs = .ok H r H') : Con P f xs H r H' /\ ∀ k z, lk H k = some z -> s.blk k = some z := by
 unfold avw at h
 split at h
 ·split at h
  ·cases h
  ·rename_i hn
   split at h
   ·rename_i e he
    split at h
    ·rename_i hc
     simp only [and_eq_true] at hc
     have hf := eq_of_beq_eq_true hc.1
     subst hf
     have h9 := Con.subA (awn hc.2) e.con
     split at h
     ·rename_i k z l _
      obtain ⟨rfl,rfl,rfl⟩ := CR.ok.inj h
      exact ⟨bai h9 hn _ _,fun k z hz => by cases hz⟩
     ·obtain ⟨rfl, rfl, rfl⟩ := CR.ok.inj h
      exact ⟨h9,fun k z hz => by cases hz⟩
    ·exact arm hF h
   ·exact arm hF h
 ·exact arm hF h
theorem a0s {s : AS} {R : Array Oper} {d q sz cap0 : Nat} {a0 : Option Addr} {xs : List AV} {x y : Operand} {T E t : TypeId} {ti te : TI} {pos : String} {after : Array Edge}
  (hx : Ev s x (.v (.slice a0 0 0))) (hy : Ev s y (.lst sz xs)) (hT : aaf P T = some ti) (hkd : ti.k = .slice E) (hE : aaf P E = some te)
  (hsz : te.size = sz) (hz0 : (Nat.beq te.zero.length te.size && Nat.blt 0 te.size && Nat.blt 0 te.bytes) = true) (hb : (0 + xs.length) * te.bytes <= 140737488355328) (hdk : Nat.beq d q = false)
  (hN : Nat.blt d N = true) :
  Step P N R s ⟨some d, .call ⟨.builtin .append, #[x, y], #[T, T]⟩, t, pos, after, none⟩
   ⟨some (.ms d sz 0 (0 + xs.length)),[(d,some (.row sz ([] ++ xs))),(q,none)],aaj x ++ aaj y,[]⟩ := by
 refine ⟨fun s' hag hnew C m a w Q next hC hr hnext => ?_⟩
 have hq : s'.Fresh q := by
  rcases hnew q (by simp) with h | h
  ·cases h
  ·exact h
 have hd : s'.Fresh d := by
  rcases hnew d (by simp) with h | h
  ·cases h
  ·exact h
 have hdq := Nat.ne_of_beq_eq_false hdk
 have hx' := hx.agree hag (fun _ h => List.mem_append.2 (.inl h))
 have hy' := hy.agree hag (fun _ h => List.mem_append.2 (.inr h))
 let s2 : AS := ⟨s'.sl,(q,some (.row sz [])) :: s'.hp⟩
 have evs : ∀ {o : Operand} {z : AV}, Ev s' o z -> Ev s2 o z := fun h => by
  cases h with
  | tmp h => exact .tmp h
  | opt h hb => exact .opt h hb
  | const c => exact .const c
  | func f => exact .func f
 have st := asw (P := P) (N := N) (R := R) (s := s2) (d := d) (k := q) (t := t) (pos := pos) (after := after) (es := []) (evs hx') (fun g S m v h => Sub.nilMs a0 q sz g S m v h) (by simp [s2,AS.blk,aac]) rfl (evs hy') hT hkd hE hsz hz0 hb hdk hN
 refine st.run s2 ⟨fun _ _ => rfl,fun _ _ => rfl⟩ ?_ C _ a w Q next hC (hr.virt sz hq) (fun m' a' w' hr' => hnext m' a' w' ?_)
 ·intro k hk
  simp only [map_cons,List.map_nil,mem_cons,not_mem_nil,or_false] at hk
  rcases hk with rfl | rfl
  ·exact .inr (Fresh.row hd hdq (fun h => h))
  ·exact .inl (by simp)
 ·refine RelM.congr ?_ ?_ hr'
  ·intro t; rfl
  ·intro k
   simp only [AS.app,AS.blk,s2,List.cons_append,nil_append,aac]
   split
   ·rfl
   ·split <;> rfl
mutual
def ax2 : AV -> AV -> Bool
  | .v a, y => match y with
    | .v b => vEq a b
    | _ => false
  | .lst sz es, y => match y with
    | .lst sz' es' => Nat.beq sz sz' && al2 es es'
    | _ => false
  | .agg cs, y => match y with
    | .agg cs' => al2 cs cs'
    | _ => false
  | .tup cs, y => match y with
    | .tup cs' => al2 cs cs'
    | _ => false
  | .iptr cs, y => match y with
    | .iptr cs' => al2 cs cs'
    | _ => false
  | .ms k sz off len, y => match y with
    | .ms k' sz' off' len' => Nat.beq k k' && (Nat.beq sz sz' && (Nat.beq off off' && Nat.beq len len'))
    | _ => false
  | .ptr k off, y => match y with
    | .ptr k' off' => Nat.beq k k' && Nat.beq off off'
    | _ => false
  | .eptr k sz i off, y => match y with
    | .eptr k' sz' i' off' => Nat.beq k k' && (Nat.beq sz sz' && (Nat.beq i i' && Nat.beq off off'))
    | _ => false
  | .fn f cs, y => match y with
    | .fn f' cs' => Nat.beq f f' && al2 cs cs'
    | _ => false
  | .opt _ _,_ => false
  | .yl _,_ => false
  | .cl _ _ _,_ => false
def al2 : List AV -> List AV -> Bool
  | [], y => match y with
    | [] => true
    | _ => false
  | x :: l, y => match y with
    | x' :: l' => ax2 x x' && al2 l l'
    | [] => false
end
mutual
theorem baf : ∀ (x y : AV), ax2 x y = true -> x = y
 | .v a,y,h => by cases y <;> simp [ax2] at h; rw [aw4 _ _ h]
 | .lst sz es, y, h => by
  cases y <;> simp only [ax2,and_eq_true,Bool.false_eq_true] at h
  rw [eq_of_beq_eq_true h.1,afr _ _ h.2]
 | .agg cs,y,h => by cases y <;> simp only [ax2,Bool.false_eq_true] at h; rw [afr _ _ h]
 | .tup cs,y,h => by cases y <;> simp only [ax2,Bool.false_eq_true] at h; rw [afr _ _ h]
 | .iptr cs,y,h => by cases y <;> simp only [ax2,Bool.false_eq_true] at h; rw [afr _ _ h]
 | .ms k sz off len, y, h => by
  cases y <;> simp only [ax2,and_eq_true,Bool.false_eq_true] at h
  rw [eq_of_beq_eq_true h.1,eq_of_beq_eq_true h.2.1,eq_of_beq_eq_true h.2.2.1,eq_of_beq_eq_true h.2.2.2]
 | .ptr k off, y, h => by
  cases y <;> simp only [ax2,and_eq_true,Bool.false_eq_true] at h
  rw [eq_of_beq_eq_true h.1,eq_of_beq_eq_true h.2]
 | .eptr k sz i off, y, h => by
  cases y <;> simp only [ax2,and_eq_true,Bool.false_eq_true] at h
  rw [eq_of_beq_eq_true h.1,eq_of_beq_eq_true h.2.1,eq_of_beq_eq_true h.2.2.1,eq_of_beq_eq_true h.2.2.2]
 | .fn f cs, y, h => by
  cases y <;> simp only [ax2,and_eq_true,Bool.false_eq_true] at h
  rw [eq_of_beq_eq_true h.1,afr _ _ h.2]
 | .opt ..,y,h => by simp [ax2] at h
 | .yl ..,y,h => by simp [ax2] at h
 | .cl ..,y,h => by simp [ax2] at h
theorem afr : ∀ (l l' : List AV), al2 l l' = true -> l = l'
 | [],[],h => rfl
 | [],_ :: _,h => by simp [al2] at h
 | _ :: _,[],h => by simp [al2] at h
 | x :: l, x' :: l', h => by
  simp only [al2,and_eq_true] at h
  rw [baf x x' h.1,afr l l' h.2]
end
def bag : Blk -> Blk -> Bool
  | .box cs,.box cs' => al2 cs cs'
  | .row sz es,.row sz' es' => Nat.beq sz sz' && al2 es es'
  | _,_ => false
theorem a6v {x y : Blk} (h : bag x y = true) : x = y := by
 cases x <;> cases y <;> simp only [bag,Bool.false_eq_true] at h
 ·rw [afr _ _ h]
 ·simp only [and_eq_true] at h
  rw [eq_of_beq_eq_true h.1,afr _ _ h.2]
theorem ags {k : Nat} : ∀ {l : List Nat}, azc k l = true ↔ k ∈ l
 | [] => by simp [azc]
 | x :: l => by
  unfold azc
  split
  ·rename_i h; simp [eq_of_beq_eq_true h]
  ·rename_i h; rw [ags (l := l)]; simp [Nat.ne_of_beq_eq_false h]
def chg (H : Hp) : List Nat -> Hp -> Hp
  | _,[] => []
  | seen, (k, x) :: l => match azc k seen with
    | true => chg H seen l
    | false => match x with
      | some z => match lk H k with
        | some y => match bag y z with
          | true => chg H (k :: seen) l
          | false => (k,some z) :: chg H (k :: seen) l
        | none => (k,some z) :: chg H (k :: seen) l
      | none => (k,none) :: chg H (k :: seen) l
theorem a4b {H R : Hp} (hR : ∀ t y, lk H t = some y -> lk R t = some y) : ∀ {l : Hp} {seen : List Nat} {t : Nat}, t ∉ seen -> lk (chg H seen l ++ R) t = if t ∈ l.map (·.1) then lk l t else lk R t
 | [],seen,t,h => by simp [chg]
 | (k, x) :: l, seen, t, h => by
  have rest : t ≠ k -> lk (chg H (k :: seen) l ++ R) t = if t ∈ ((k, x) :: l).map (·.1) then lk ((k, x) :: l) t else lk R t := by
   intro hne
   rw [a4b hR (fun hh => by rcases List.mem_cons.1 hh with e | e; exact hne e; exact h e)]
   simp only [map_cons,mem_cons,hne,false_or]
   rw [aac,if_neg hne]
  have head : lk ((k, x) :: (chg H (k :: seen) l ++ R)) t = if t ∈ ((k, x) :: l).map (·.1) then lk ((k, x) :: l) t else lk R t := by
   rw [aac]
   by_cases e : t = k
   ·rw [if_pos e,aac,if_pos e]; simp [e]
   ·rw [if_neg e,rest e]
  unfold chg
  split
  ·rename_i hm
   have hne : t ≠ k := fun e => h (by rw [e]; exact ags.1 hm)
   rw [a4b hR h]
   simp only [map_cons,mem_cons,hne,false_or]
   rw [aac,if_neg hne]
  ·split
   ·rename_i z
    split
    ·rename_i y hy
     split
     ·rename_i he
      by_cases e : t = k
      ·rw [chg_none (by rw [e]; exact mem_cons_self ..), e, hR k y hy, a6v he]
       simp [aac]
      ·exact rest e
     ·exact head
    ·exact head
   ·exact head
where
 chg_none {H R : Hp} : ∀ {l : Hp} {seen : List Nat} {t : Nat}, t ∈ seen -> lk (chg H seen l ++ R) t = lk R t
  | [],seen,t,h => rfl
  | (k, x) :: l, seen, t, h => by
   unfold chg
   split
   ·exact chg_none h
   ·rename_i hm
    have hne : t ≠ k := fun e => by rw [e] at h; rw [ags.2 h] at hm; cases hm
    have ih := chg_none (H := H) (R := R) (l := l) (mem_cons_of_mem k h)
    split
    ·split
     ·split
      ·exact ih
      ·show lk (_ :: (_ ++ R)) t = _
       rw [aac,if_neg hne]; exact ih
     ·show lk (_ :: (_ ++ R)) t = _
      rw [aac,if_neg hne]; exact ih
    ·show lk (_ :: (_ ++ R)) t = _
     rw [aac,if_neg hne]; exact ih
theorem aqt {H : Hp} : ∀ {l : Hp} {seen : List Nat} {k : Nat}, k ∈ l.map (·.1) -> k ∉ seen -> k ∈ (chg H seen l).map (·.1) \/ ∃ y, lk H k = some y
 | [],seen,k,h,_ => by simp at h
 | (k', x) :: l, seen, k, h, hs => by
  unfold chg
  by_cases e : k = k'
  ·subst e
   have hm : azc k seen = false := by
    cases hq : azc k seen with
    | true => exact absurd (ags.1 hq) hs
    | false => rfl
   simp only [hm]
   split
   ·split
    ·rename_i y hy
     split
     ·exact .inr ⟨y,hy⟩
     ·exact .inl (by simp)
    ·exact .inl (by simp)
   ·exact .inl (by simp)
  ·have h' : k ∈ l.map (·.1) := by simpa [e] using h
   have hs' : k ∉ k' :: seen := fun hh => by rcases List.mem_cons.1 hh with e' | e'; exact e e'; exact hs e'
   have ih1 := aqt (H := H) h' hs
   have ih2 := aqt (H := H) h' hs'
   split
   ·exact ih1
   ·split
    ·split
     ·split
      ·exact ih2
      ·rcases ih2 with h | h
       ·exact .inl (mem_cons_of_mem _ h)
       ·exact .inr h
     ·rcases ih2 with h | h
      ·exact .inl (mem_cons_of_mem _ h)
      ·exact .inr h
    ·rcases ih2 with h | h
     ·exact .inl (mem_cons_of_mem _ h)
     ·exact .inr h
theorem ah2 {R : Array Oper} {s : AS} {o : Oper} {x : Option AV} {H U : Hp} {rt : List Nat} (hH : ∀ k z, lk H k = some z -> s.blk k = some z) (h : Step P N R s o ⟨x, U, rt, H.map (·.1)⟩) :
  Step P N R s o ⟨x,chg H [] U,rt,H.map (·.1)⟩ := by
 refine ⟨fun s' hag hnew C m a w Q next hC hr hnext => ?_⟩
 have hH' : ∀ k z,lk H k = some z -> lk s'.hp k = some z := fun k z hz => (hag.2 k (aa5 hz)).trans (hH k z hz)
 refine h.run s' hag (fun k hk => ?_) C m a w Q next hC hr (fun m' a' w' hr' => hnext m' a' w' ?_)
 ·rcases aqt (H := H) hk (seen := []) (by simp) with h1 | ⟨y, hy⟩
  ·exact hnew k h1
  ·exact .inl (aa5 hy)
 ·refine RelM.congr (s := s'.app o.dst ⟨x, U, rt, H.map (·.1)⟩) (fun t => rfl) (fun k => ?_) hr'
  simp only [AS.blk,AS.app]
  rw [a4b hH' (by simp),acs]
variable [Inhabited (Tys P)]
def bht (P : Program) [Inhabited (Tys P)] (s : AS) (d : Nat) (x y : Operand) (T : TypeId) : OR := match rdC s y with
  | some (.lst sz xs) => match ahe P T with
    | some ti => match ti.k with
      | .slice E => match ahe P E with
        | some te => match Nat.beq te.size sz && (Nat.beq te.zero.length te.size && Nat.blt 0 te.size && Nat.blt 0 te.bytes) with
          | true => match rdC s x with
            | some (.ms k sz' off len) => match s.blk k with
              | some (.row sz2 es) => match Nat.beq sz' sz && Nat.beq off 0 && Nat.beq sz2 sz && Nat.beq len es.length && Nat.ble ((len + xs.length) * te.bytes) 140737488355328 with
                | true => match Nat.beq d k with
                  | true => .no
                  | false => match frc (es ++ xs) with
                    | some l => wN (len + xs.length) fun n => .ok ⟨some (.ms d sz 0 n),[(d,some (.row sz l)),(k,none)],aaj x ++ aaj y,[k]⟩
                    | none => .no
                | false => .no
              | _ => .no
            | some (.v (.slice a0 0 0)) => match Nat.ble ((0 + xs.length) * te.bytes) 140737488355328 with
              | true => match Nat.beq d 299 with
                | true => .no
                | false => match frc ([] ++ xs) with
                  | some l => wN (0 + xs.length) fun n => .ok ⟨some (.ms d sz 0 n),[(d,some (.row sz l)),(299,none)],aaj x ++ aaj y,[]⟩
                  | none => .no
              | false => .no
            | _ => .no
          | false => .no
        | none => .no
      | _ => .no
    | none => .no
  | some (.ms k _ _ _) => .need k
  | _ => .no
theorem bcn {s : AS} {R : Array Oper} {d : Nat} {x y : Operand} {T t : TypeId} {u : Out} {pos : String} {after : Array Edge} (h : bht P s d x y T = .ok u) (hN : Nat.blt d N = true) :
  Step P N R s ⟨some d,.call ⟨.builtin .append,#[x,y],#[T,T]⟩,t,pos,after,none⟩ u := by
 unfold bht at h
 split at h
 ·rename_i sz xs hy
  split at h
  ·rename_i ti hT
   split at h
   ·rename_i E hk
    split at h
    ·rename_i te hE
     split at h
     ·rename_i hc
      simp only [and_eq_true] at hc
      have hsz := eq_of_beq_eq_true hc.1
      have hz0 : (Nat.beq te.zero.length te.size && Nat.blt 0 te.size && Nat.blt 0 te.bytes) = true:=by simp only [and_eq_true]; exact hc.2
      split at h
      ·rename_i k sz' off len hx
       split at h
       ·rename_i sz2 es hb
        split at h
        ·rename_i hg
         simp only [and_eq_true,Nat.ble_eq] at hg
         obtain ⟨⟨⟨⟨g1,g2⟩,g3⟩,g4⟩,g5⟩ := hg
         cases eq_of_beq_eq_true g1
         cases eq_of_beq_eq_true g2
         cases eq_of_beq_eq_true g3
         split at h
         ·cases h
         ·rename_i hdk
          split at h
          ·rename_i l hl
           cases afs hl
           rw [avv] at h; cases h
           exact abh (abf hx) hb (eq_of_beq_eq_true g4) (abf hy) (aav hT) hk (aav hE) hsz hz0 g5 hdk hN
          ·cases h
        ·cases h
       ·cases h
      ·rename_i a0 hx
       split at h
       ·rename_i g5
        rw [Nat.ble_eq] at g5
        split at h
        ·cases h
        ·rename_i hdk
         split at h
         ·rename_i l hl
          cases afs hl
          rw [avv] at h; cases h
          exact a0s (cap0 := 0) (abf hx) (abf hy) (aav hT) hk (aav hE) hsz hz0 g5 hdk hN
         ·cases h
       ·cases h
      ·cases h
     ·cases h
    ·cases h
   ·cases h
  ·cases h
 ·cases h
 ·cases h
def bha (P : Program) [Inhabited (Tys P)] (s : AS) (T : TypeId) (x y : Operand) : OR := match rdC s x with
  | some (.eptr k sz i off) => match rdC s y with
    | some v => match v.nm with
      | k' :: _ => .need k'
      | [] => match s.blk k with
        | some (.row sz' es) => match es[i]? with
          | some e => match ahe P T with
            | some ti => match Nat.beq sz sz' && v.ok && Nat.beq v.cells.length ti.size && Nat.ble (off + ti.size) e.cells.length with
              | true => match e with
                | .agg cs => match frc (over cs off v.cells) with
                  | some l => match frc (es.set i (.agg l)) with
                    | some es' => .ok ⟨none,[(k,some (.row sz es'))],aaj x ++ aaj y,[k]⟩
                    | none => .no
                  | none => .no
                | e => match Nat.beq off 0 && Nat.beq v.cells.length 1 with
                  | true => match frc (es.set i v) with
                    | some es' => .ok ⟨none,[(k,some (.row sz es'))],aaj x ++ aaj y,[k]⟩
                    | none => .no
                  | false => .no
              | false => .no
            | none => .no
          | none => .no
        | _ => .no
    | none => .no
  | _ => .no
theorem azy {e : AV} (h : ∀ cs, e ≠ .agg cs) : e.cells = [e] := by
 cases e <;> first | rfl | exact absurd rfl (h _)
theorem a99 {s : AS} {R : Array Oper} {x y : Operand} {T t : TypeId} {u : Out} {pos : String} {after : Array Edge} (h : bha P s T x y = .ok u) :
  Step P N R s ⟨none,.store T x y,t,pos,after,none⟩ u := by
 unfold bha at h
 split at h
 ·rename_i k sz i off hx
  split at h
  ·rename_i v hy
   split at h
   ·cases h
   ·rename_i hnm
    split at h
    ·rename_i sz' es hb
     split at h
     ·rename_i e he
      split at h
      ·rename_i ti hT
       split at h
       ·rename_i hc
        simp only [and_eq_true] at hc
        obtain ⟨⟨⟨c1,c2⟩,c3⟩,c4⟩ := hc
        cases eq_of_beq_eq_true c1
        split at h
        ·rename_i cs
         split at h
         ·rename_i l hl
          split at h
          ·rename_i es' hes
           cases h
           cases afs hl
           cases afs hes
           exact aqj (abf hx) hb he (abf hy) c2 hnm (aav hT) c3 c4 rfl
          ·cases h
         ·cases h
        ·rename_i hne
         split at h
         ·rename_i hg
          simp only [and_eq_true] at hg
          split at h
          ·rename_i es' hes
           cases h
           cases afs hes
           cases eq_of_beq_eq_true hg.1
           refine aqj (abf hx) hb he (abf hy) c2 hnm (aav hT) c3 c4 ?_
           rw [azy hne]
           have := eq_of_beq_eq_true hg.2
           simp [over,this]
          ·cases h
         ·cases h
       ·cases h
      ·cases h
     ·cases h
    ·cases h
  ·cases h
 ·cases h
def mkS (P : Program) [Inhabited (Tys P)] (d : Nat) (T : TypeId) (n : Int) (rt : List Nat) : OR := match ahe P T with
  | some ti => match ti.k with
    | .slice E => match ahe P E with
      | some te => match te.zero.all Value.oneCell' && (Nat.beq te.zero.length te.size && Nat.blt 0 te.size && Nat.blt 0 te.bytes && (te.ag || Nat.beq te.size 1)) with
        | true => match n with
          | .ofNat n => match Nat.ble (n * te.bytes) 281474976710656 with
            | true => match frc (List.replicate n (mkT te.ag (te.zero.map .v))) with
              | some l => .ok ⟨some (.ms d te.size 0 n),[(d,some (.row te.size l))],rt,[]⟩
              | none => .no
            | false => .no
          | .negSucc _ => .no
        | false => .no
      | none => .no
    | _ => .no
  | none => .no
theorem bf7 {s : AS} {R : Array Oper} {d : Nat} {x : Operand} {T t : TypeId} {n : Int} {u : Out} {pos : String} {after : Array Edge} (hx : Ev s x (.v (.int .i64 n))) (h : mkS P d T n (aaj x) = .ok u) (hN : Nat.blt d N = true) :
  Step P N R s ⟨some d,.makeSlice T x x,t,pos,after,none⟩ u := by
 unfold mkS at h
 split at h
 ·rename_i ti hT
  split at h
  ·rename_i E hk
   split at h
   ·rename_i te hE
    split at h
    ·rename_i hc
     rw [and_eq_true] at hc
     split at h
     ·rename_i n
      split at h
      ·rename_i hb
       rw [Nat.ble_eq] at hb
       split at h
       ·rename_i l hl
        cases h
        cases afs hl
        exact afh (n := Int.ofNat n) hx (aav hT) hk (aav hE) hc.1 hc.2 (Int.natCast_nonneg _) (by simp only [Int.ofNat_eq_natCast]; omega) hN
       ·cases h
      ·cases h
     ·cases h
    ·cases h
   ·cases h
  ·cases h
 ·cases h
theorem baq {P : Program} {N : Nat} {s : AS} {R : Array Oper} {d f : Nat} {g : Operand} {args : Array Operand} {ts : Array TypeId} {xs : List AV} {H H' : Hp} {r : AV} {t : TypeId} {pos : String} {after : Array Edge}
  (hg : Ev s g (.v (.func (.func f) #[] #[]))) (hcon : Con P f xs H r H') (ha : EvL s args.toList xs) (hH : ∀ k z,lk H k = some z -> s.blk k = some z) (hok : acl s H H' r = true) (hN : Nat.blt d N = true) :
  Step P N R s ⟨some d,.call ⟨.value g,args,ts⟩,t,pos,after,none⟩ ⟨some r,H' ++ ai0 H,aaj g ++ rtL args.toList,H.map (·.1)⟩ :=
 ahx rfl (fun d' h => by cases h; exact ⟨hN, rfl⟩) hcon hH hok fun s' hag C m a w hr => by
  have hag' : acn s s' ⟨none,[],aaj g ++ rtL args.toList,[]⟩ := ⟨hag,fun k hk => by cases hk⟩
  have ha' := ha.agree hag' (fun _ h => List.mem_append.2 (.inr h))
  have hgr := (hg.agree hag' (fun _ h => List.mem_append.2 (.inl h))).rep hr
  generalize hv : a.eval g = u at hgr
  cases hgr
  refine ⟨args.map a.eval,apc (caps := #[]) rfl hv hcon.ok (by simp),?_,?_⟩
  ·have := ha'.length; simpa using this
  ·intro j v x hv hx; exact ha'.rep hr j v x (by simpa using hv) hx
def a9p : Operand -> Operand -> Bool
  | .tmp a,.tmp b => Nat.beq a b
  | .const (.int k a),.const (.int k' b) => Nat.beq (ikn k) (ikn k') && aaa .eql a b
  | _,_ => false
theorem a62 {x y : Operand} (h : a9p x y = true) : y = x := by
 unfold a9p at h
 split at h
 ·rw [eq_of_beq_eq_true h]
 ·rename_i k a k' b
  simp only [and_eq_true] at h
  rw [ag3 h.1,eq_of_beq (show (a == b) = true from h.2)]
 ·cases h
def opD (E : Env P) (F : agz) (av : List Nat) (s : AS) (d : Nat) (op : Op) : OR := match op with
  | .call c => match c with
    | ⟨.value g, args, ts⟩ => match bc1 s args.toList with
      | some xs => match g with
        | .func f => match avw E F s av f xs with
          | .ok H r H' => match acl s H H' r with
            | true => .ok ⟨some r,chg H [] (H' ++ ai0 H),rtL args.toList,H.map (·.1)⟩
            | false => .no
          | .need k => .need k
          | .no => .no
        | g => match rdC s g with
          | some (.fn f caps) => match avw E F s av f (xs ++ caps) with
            | .ok H r H' => match acl s H H' r with
              | true => .ok ⟨some r,chg H [] (H' ++ ai0 H),aaj g ++ rtL args.toList,H.map (·.1)⟩
              | false => .no
            | .need k => .need k
            | .no => .no
          | some (.v (.func (.func f) ⟨[]⟩ ⟨[]⟩)) => match avw E F s av f xs with
            | .ok H r H' => match acl s H H' r with
              | true => .ok ⟨some r,chg H [] (H' ++ ai0 H),aaj g ++ rtL args.toList,H.map (·.1)⟩
              | false => .no
            | .need k => .need k
            | .no => .no
          | some (.cl f pre caps) => match avw E F s av f (pre ++ xs ++ caps) with
            | .ok H r H' => match acl s H H' r with
              | true => .ok ⟨some r,chg H [] (H' ++ ai0 H),aaj g ++ rtL args.toList,H.map (·.1)⟩
              | false => .no
            | .need k => .need k
            | .no => .no
          | _ => .no
      | none => .no
    | ⟨.builtin .append, args, ts⟩ => match args.toList with
      | [x, y] => match ts.toList with
        | [T, T'] => match Nat.beq T T' with
          | true => bht P s d x y T
          | false => .no
        | _ => .no
      | _ => .no
    | c => match opV P s (.call c) with
      | some r => .ok ⟨some r.x,[],r.rt,r.rd⟩
      | none => .no
  | .makeSlice T x y => match a9p x y with
    | true => match rdC s x with
      | some (.v (.int .i64 n)) => mkS P d T n (aaj x)
      | _ => .no
    | false => .no
  | .slice T x none (some (.const (.int k1 (.ofNat 0)))) (some (.const (.int k2 (.ofNat 0)))) => match rdC s x with
    | some (.lst sz es) => match bb3 P T sz with
      | true => .ok ⟨some (.ms d sz 0 0),[(d,some (.row sz []))],aaj x,[]⟩
      | false => .no
    | _ => .no
  | .buildSlice T n parts => match n with
    | 0 => match parts.toList with
      | [] => match ahe P T with
        | some ti => match ti.k with
          | .slice E => match ahe P E with
            | some te => match te.zero.all Value.oneCell' && Nat.beq te.zero.length te.size with
              | true => .ok ⟨some (.ms d te.size 0 0),[(d,some (.row te.size []))],[],[]⟩
              | false => .no
            | none => .no
          | _ => .no
        | none => .no
      | _ => .no
    | n + 1 => match opV P s (.buildSlice T (n + 1) parts) with
      | some r => .ok ⟨some r.x,[],r.rt,r.rd⟩
      | none => match bc1 s (parts.toList.map (·.2)) with
        | some xs => match AV.nms xs with
          | k :: _ => .need k
          | [] => .no
        | none => .no
  | op => match opV P s op with
    | some r => .ok ⟨some r.x,[],r.rt,r.rd⟩
    | none => match bgo P s d op with
      | some r => match r.2 with
        | [] => .ok r.1
        | _ => .no
      | none => .no
theorem a8r {E : Env P} {F : agz} (hF : F.Ok P) {av : List Nat} {s : AS} {R : Array Oper} {d : Nat} {op : Op} {u : Out} {t : TypeId} {pos : String} {after : Array Edge} (h : opD E F av s d op = .ok u) (hN : Nat.blt d N = true) :
  Step P N R s ⟨some d,op,t,pos,after,none⟩ u := by
 unfold opD at h
 split at h
 ·split at h
  ·rename_i g args ts
   split at h
   ·rename_i xs hxs
    split at h
    ·rename_i f
     split at h
     ·rename_i H r H' hc
      split at h
      ·rename_i hok
       cases h
       obtain ⟨h1,h2⟩ := aki hF hc
       exact ah2 h2 (aa9 h1 (ak2 hxs) h2 hok hN)
      ·cases h
     ·cases h
     ·cases h
    ·split at h
     ·rename_i f caps hg
      split at h
      ·rename_i H r H' hc
       split at h
       ·rename_i hok
        cases h
        obtain ⟨h1,h2⟩ := aki hF hc
        exact ah2 h2 (bcx (abf hg) h1 (ak2 hxs) h2 hok hN)
       ·cases h
      ·cases h
      ·cases h
     ·rename_i f hg
      split at h
      ·rename_i H r H' hc
       split at h
       ·rename_i hok
        cases h
        obtain ⟨h1,h2⟩ := aki hF hc
        exact ah2 h2 (baq (abf hg) h1 (ak2 hxs) h2 hok hN)
       ·cases h
      ·cases h
      ·cases h
     ·rename_i f pre caps hg
      split at h
      ·rename_i H r H' hc
       split at h
       ·rename_i hok
        cases h
        obtain ⟨h1,h2⟩ := aki hF hc
        exact ah2 h2 (a3c (abf hg) h1 (ak2 hxs) h2 hok hN)
       ·cases h
      ·cases h
      ·cases h
     ·cases h
   ·cases h
  ·rename_i args ts
   split at h
   ·rename_i x y hx
    split at h
    ·rename_i T T' hT
     split at h
     ·rename_i hTT
      cases eq_of_beq_eq_true hTT
      have e1 : args = #[x,y]:=by apply Array.toList_inj.1; simpa using hx
      have e2 : ts = #[T,T]:=by apply Array.toList_inj.1; simpa using hT
      subst e1; subst e2
      exact bcn h hN
     ·cases h
    ·cases h
   ·cases h
  ·split at h
   ·rename_i h1; cases h; exact a0e h1 hN
   ·cases h
 ·split at h
  ·rename_i he
   cases a62 he
   split at h
   ·rename_i hx; exact bf7 (abf hx) h hN
   ·cases h
  ·cases h
 ·split at h
  ·rename_i hx
   split at h
   ·rename_i hs
    obtain ⟨ti,E,te,h1,h2,h3,h4⟩ := anz hs
    cases h
    exact a16 (abf hx) h1 h2 h3 h4 hN
   ·cases h
  ·cases h
 ·rename_i T n parts
  split at h
  ·split at h
   ·rename_i hp
    have : parts = #[]:=by apply Array.toList_inj.1; simpa using hp
    subst this
    split at h
    ·rename_i ti hT
     split at h
     ·rename_i E hk
      split at h
      ·rename_i te hE
       split at h
       ·rename_i hc
        rw [and_eq_true] at hc
        cases h
        exact aby (aav hT) hk (aav hE) hc.1 hc.2 hN
       ·cases h
      ·cases h
     ·cases h
    ·cases h
   ·cases h
  ·split at h
   ·rename_i h1; cases h; exact a0e h1 hN
   ·split at h
    ·split at h <;> cases h
    ·cases h
 ·split at h
  ·rename_i h1; cases h; exact a0e h1 hN
  ·split at h
   ·rename_i h1
    split at h
    ·rename_i ho; cases h; exact a14 h1 (by rw [ho]; exact .nil) hN
    ·cases h
   ·cases h
def opN (E : Env P) (F : agz) (av : List Nat) (s : AS) (op : Op) : OR := match op with
  | .call c => match c with
    | ⟨.value (.func f), args, ts⟩ => match bc1 s args.toList with
      | some xs => match avw E F s av f xs with
        | .ok H r H' => match acl s H H' r with
          | true => .ok ⟨none,chg H [] (H' ++ ai0 H),rtL args.toList,H.map (·.1)⟩
          | false => .no
        | .need k => .need k
        | .no => .no
      | none => .no
    | _ => .no
  | .store T x y => match bgl P s (.store T x y) with
    | some r => match r.2 with
      | [] => .ok r.1
      | _ => .no
    | none => bha P s T x y
  | _ => .no
theorem bfm {E : Env P} {F : agz} (hF : F.Ok P) {av : List Nat} {s : AS} {R : Array Oper} {op : Op} {u : Out} {t : TypeId} {pos : String} {after : Array Edge} (h : opN E F av s op = .ok u) :
  Step P N R s ⟨none,op,t,pos,after,none⟩ u := by
 unfold opN at h
 split at h
 ·split at h
  ·rename_i f args ts
   split at h
   ·rename_i xs hxs
    split at h
    ·rename_i H r H' hc
     split at h
     ·rename_i hok
      cases h
      obtain ⟨h1,h2⟩ := aki hF hc
      exact ah2 h2 (a6q h1 (ak2 hxs) h2 hok)
     ·cases h
    ·cases h
    ·cases h
   ·cases h
  ·cases h
 ·split at h
  ·rename_i h1
   split at h
   ·rename_i ho; cases h; exact a3l h1 (by rw [ho]; exact .nil)
   ·cases h
  ·exact a99 h
 ·cases h
theorem Step.sub {P : Program} {N : Nat} {R : Array Oper} {s : AS} {o : Oper} {x y : AV} {upd : Hp} {rt rd : List Nat} (h : Step P N R s o ⟨some x, upd, rt, rd⟩) (hs : Sub x y) : Step P N R s o ⟨some y, upd, rt, rd⟩ := by
 refine ⟨fun s' hag hnew C m a w Q next hC hr hnext => h.run s' hag hnew C m a w Q next hC hr (fun m' a' w' hr' => hnext m' a' w' ?_)⟩
 refine hr'.weak (fun t z hz => ?_) (fun k z hz => ⟨z,hz,.refl _⟩)
 rw [acx] at hz
 split at hz
 ·rename_i ht; cases hz; exact ⟨x,by rw [acx,if_pos ht],hs⟩
 ·rename_i ht; exact ⟨z,by rw [acx,if_neg ht]; exact hz,.refl _⟩
theorem Sub.opt_true (x : AV) : Sub (.opt true x) x := fun g S m v h => by cases h with | opt h _ => exact h rfl
theorem alb (f : AV -> AV) (k : Nat) : ∀ l : Hp, (afp f k l).map (·.1) = l.map (·.1)
 | [] => rfl
 | (k',x) :: l => by simp only [afp,map_cons,alb f k l]
theorem a3j {P : Program} {N : Nat} {R : Array Oper} {s : AS} {o : Oper} {d : Nat} {x : AV} {upd : Hp} {rt rd : List Nat} {k sz : Nat} {es : List AV} (hd : o.dst = some d) (hk : lk upd k = some (.row sz es)) (hrd : k ∉ rd)
  (h : Step P N R s o ⟨some x,upd,rt,rd⟩) : Step P N R s o ⟨some (x.fz k sz es),afp (AV.fz k sz es) k upd,rt,rd⟩ := by
 refine ⟨fun s' hag hnew C m a w Q next hC hr hnext => ?_⟩
 have hnew' : akj s' ⟨some x,upd,rt,rd⟩ := fun k' hk' => hnew k' (by rw [alb]; exact hk')
 have hfr : s'.Fresh k := by
  rcases hnew' k (aa5 hk) with h | h
  ·exact absurd h hrd
  ·exact h
 refine h.run s' hag hnew' C m a w Q next hC hr (fun m' a' w' hr' => ?_)
 rw [hd] at hr'
 have hkk : (s'.app (some d) ⟨some x, upd, rt, rd⟩).blk k = some (.row sz es) := by
  show lk (upd ++ s'.hp) k = _
  rw [acs,if_pos (aa5 hk),hk]
 obtain ⟨m2,hr2⟩ := Wk.freeze hkk C m' a' w' hr'
 refine hnext m2 a' w' ?_
 rw [hd]
 refine hr2.congr ?_ ?_
 ·intro t
  simp only [AS.get,ag0,AS.app,aac]
  split
  ·rfl
  ·cases hx : lk s'.sl t with
   | none => rfl
   | some y => simp only [Option.map_some]; rw [AV.fz_id _ _ _ _ (hfr.2.2.1 t y hx)]
 ·intro k'
  simp only [AS.blk,AS.app]
  rw [aeu,acs,acs,alb,aeu]
  by_cases h1 : k' = k
  ·subst h1
   rw [if_pos rfl,if_pos (aa5 hk),if_pos rfl]
  ·rw [if_neg h1, if_neg h1]
   split
   ·rfl
   ·cases hx : lk s'.hp k' with
    | none => rfl
    | some y => simp only [Option.map_some]; rw [apf (hfr.2.2.2 k' y hx)]
def a9j : List Nat -> Out -> Out
  | [],u => u
  | k :: ks, u => match u.val with
    | some x => match lk u.upd k with
      | some (.row sz es) => match azc k u.rd with
        | false => a9j ks ⟨some (x.fz k sz es),afp (AV.fz k sz es) k u.upd,u.rt,u.rd⟩
        | true => a9j ks u
      | _ => a9j ks u
    | none => u
theorem am9 {P : Program} {N : Nat} {R : Array Oper} {s : AS} {o : Oper} {d : Nat} (hd : o.dst = some d) : ∀ {ks : List Nat} {u : Out}, Step P N R s o u -> Step P N R s o (a9j ks u)
 | [],u,h => h
 | k :: ks, u, h => by
  unfold a9j
  split
  ·rename_i x hx
   split
   ·rename_i sz es hk
    split
    ·rename_i hm
     refine am9 hd ?_
     obtain ⟨val,upd,rt,rd⟩ := u
     simp only at hx hk hm
     subst hx
     exact a3j hd hk (fun hh => by rw [ags.2 hh] at hm; cases hm) h
    ·exact am9 hd h
   ·exact am9 hd h
  ·exact h
def opE (E : Env P) (F : agz) (av fz : List Nat) (N : Nat) (R : List Oper) (s : AS) (o : Oper) : OR := match o.guard with
  | none => match o.dst with
    | some d => match Nat.blt d N with
      | true => match opD E F av s d o.op with
        | .ok u => .ok (a9j fz u)
        | r => r
      | false => .no
    | none => opN E F av s o.op
  | some (j, want) => match R[j]? with
    | some og => match og.dst with
      | some g => match o.dst with
        | some d => match Nat.blt d N with
          | true => match s.get g with
            | some (.v (.bool b)) => match b == want with
              | true => match opD E F av s d o.op with
                | .ok u => match (a9j fz u) with
                  | ⟨some x,upd,rt,rd⟩ => .ok ⟨some x,upd,g :: rt,rd⟩
                  | ⟨none,_,_,_⟩ => .no
                | r => r
              | false => .ok ⟨some (.opt false (.v (.bool false))),[],[g],[]⟩
            | some (.opt false (.v (.bool b))) => .ok ⟨some (.opt false (.v (.bool false))),[],[g],[]⟩
            | _ => .no
          | false => .no
        | none => .no
      | none => .no
    | none => .no
theorem be7 {E : Env P} {F : agz} (hF : F.Ok P) {av fz : List Nat} {R : List Oper} {s : AS} {o : Oper} {u : Out} (h : opE E F av fz N R s o = .ok u) : Step P N R.toArray s o u := by
 obtain ⟨dst,op,ty,pos,after,guard⟩ := o
 unfold opE at h
 simp only at h
 split at h
 ·split at h
  ·split at h
   ·rename_i hN
    split at h
    ·rename_i u' h1; cases h; exact am9 rfl (a8r hF h1 hN)
    ·rename_i hno; exact absurd h (hno u)
   ·cases h
  ·exact bfm hF h
 ·rename_i j want
  split at h
  ·rename_i og hog
   split at h
   ·rename_i g hg
    split at h
    ·rename_i d
     split at h
     ·rename_i hN
      have hj : (R.toArray[j]?).bind (·.dst) = some g:=by simp [hog,hg]
      split at h
      ·rename_i b hb
       split at h
       ·rename_i hw
        split at h
        ·rename_i u' h1
         have hs := am9 (ks := fz) rfl (a8r (R := R.toArray) (t := ty) (pos := pos) (after := after) hF h1 hN)
         split at h
         ·rename_i x upd rt rd hx
          cases h
          rw [hx] at hs
          have h2 := aw1 (want := want) hj hb hN (fun hne => absurd (eq_of_beq hw) hne) (fun _ => hs)
          rw [hw] at h2
          exact h2.sub (.opt_true x)
         ·cases h
        ·rename_i hno; exact absurd h (hno u)
       ·rename_i hw
        cases h
        have h2 := aco (P := P) (op := op) (t := ty) (pos := pos) (after := after) (want := want) (x := .v (.bool false)) (rt := []) (rd := []) hj hb hN (fun e => by rw [e] at hw; simp at hw)
        rw [hw] at h2
        exact h2
      ·rename_i b hb
       cases h
       exact ago (P := P) (op := op) (t := ty) (pos := pos) (after := after) (want := want) (x := .v (.bool false)) (rt := []) (rd := []) hj hb hN (fun e => by cases e)
      ·cases h
     ·cases h
    ·cases h
   ·cases h
  ·cases h
end Go.Lw
namespace Go.Lw
variable {P : Program} {N : Nat} [Inhabited (Tys P)]
theorem a32 {P : Program} {N : Nat} {c : Code} {Q Q' : Exit -> AS -> Prop} {s : AS} (h : AWP P N c Q s) (hq : ∀ e s, Q e s -> ∃ s', Wk s s' /\ Q' e s') : AWP P N c Q' s :=
 fun C m a w n hN hr => wpIn_mono (h C m a w n hN hr) fun e _ _ ⟨s', m', hQ, hr'⟩ => by
  obtain ⟨s2,hw,hQ'⟩ := hq e s' hQ
  obtain ⟨m2,hr2⟩ := hw C m' _ _ hr'
  exact ⟨s2,m2,hQ',hr2⟩
def dd {α : Type} : List Nat -> List (Nat × Option α) -> List (Nat × Option α)
  | _,[] => []
  | seen, (t, x) :: l => match azc t seen with
    | true => dd seen l
    | false => match x with
      | some v => (t,some v) :: dd (t :: seen) l
      | none => dd (t :: seen) l
theorem a0m {α : Type} : ∀ {l : List (Nat × Option α)} {seen : List Nat} {t : Nat} {x : α}, lk (dd seen l) t = some x -> t ∉ seen /\ lk l t = some x
 | [],seen,t,x,h => by cases h
 | (t', y) :: l, seen, t, x, h => by
  unfold dd at h
  rw [aac]
  split at h
  ·rename_i hm
   obtain ⟨h1,h2⟩ := a0m h
   refine ⟨h1,?_⟩
   rw [if_neg (fun (e : t = t') => h1 (by rw [e]; exact ags.1 hm))]; exact h2
  ·rename_i hm
   have hm' : t' ∉ seen := fun hh => by rw [ags.2 hh] at hm; cases hm
   split at h
   ·rw [aac] at h
    split at h
    ·rename_i e; cases h; subst e; exact ⟨hm',by rw [if_pos rfl]⟩
    ·rename_i e
     obtain ⟨h1,h2⟩ := a0m h
     rw [if_neg e]
     exact ⟨fun hh => h1 (mem_cons_of_mem _ hh),h2⟩
   ·obtain ⟨h1, h2⟩ := a0m h
    have hne : t ≠ t' := fun e => h1 (by rw [e]; exact mem_cons_self ..)
    rw [if_neg hne]
    exact ⟨fun hh => h1 (mem_cons_of_mem _ hh),h2⟩
theorem auk {s : AS} {sl : abo} {hp : Hp} (h1 : ∀ t x, lk sl t = some x -> lk s.sl t = some x) (h2 : ∀ k x, lk hp k = some x -> lk s.hp k = some x) : Wk s ⟨sl, hp⟩ :=
 fun C m a w hr => ⟨m,hr.weak (fun t x hx => ⟨x,h1 t x hx,.refl _⟩) (fun k x hx => ⟨x,h2 k x hx,.refl _⟩)⟩
def ddS (s : AS) : AS := ⟨dd [] s.sl,dd [] s.hp⟩
theorem bhh (s : AS) : Wk s (ddS s) := auk (fun t x h => (a0m h).2) (fun t x h => (a0m h).2)
def noK (k : Nat) : List Nat -> abo -> abo
  | _,[] => []
  | seen, (t, x) :: l => match azc t seen with
    | true => noK k seen l
    | false => match x with
      | some v => match azc k v.nm with
        | true => noK k (t :: seen) l
        | false => (t,some v) :: noK k (t :: seen) l
      | none => noK k (t :: seen) l
theorem aw6 {k : Nat} : ∀ {l : abo} {seen : List Nat} {t : Nat} {x : AV}, lk (noK k seen l) t = some x -> t ∉ seen /\ lk l t = some x
 | [],seen,t,x,h => by cases h
 | (t', y) :: l, seen, t, x, h => by
  unfold noK at h
  rw [aac]
  have rest : ∀ {l' : abo}, lk (noK k (t' :: seen) l) t = some x -> t ∉ seen /\ (if t = t' then y else lk l t) = some x := by
   intro _ h
   obtain ⟨h1,h2⟩ := aw6 h
   rw [if_neg (fun (e : t = t') => h1 (by rw [e]; exact mem_cons_self ..))]
   exact ⟨fun hh => h1 (mem_cons_of_mem _ hh),h2⟩
  split at h
  ·rename_i hm
   obtain ⟨h1,h2⟩ := aw6 h
   refine ⟨h1,?_⟩
   rw [if_neg (fun (e : t = t') => h1 (by rw [e]; exact ags.1 hm))]; exact h2
  ·rename_i hm
   have hm' : t' ∉ seen := fun hh => by rw [ags.2 hh] at hm; cases hm
   split at h
   ·split at h
    ·exact rest (l' := l) h
    ·rw [aac] at h
     split at h
     ·rename_i e; cases h; subst e; exact ⟨hm',by rw [if_pos rfl]⟩
     ·rename_i e
      obtain ⟨h1,h2⟩ := aw6 h
      rw [if_neg e]
      exact ⟨fun hh => h1 (mem_cons_of_mem _ hh),h2⟩
   ·exact rest (l' := l) h
def biw (s : AS) (k d : Nat) (y : Blk) : AS := ⟨ajb (AV.rn k d) s.sl,ara k d y s.hp⟩
def bii (s : AS) (av : List Nat) (d : Nat) : Option AS := match s.freshB d with
  | true => some s
  | false => match s.blk d with
    | some y => match s.freshB (nxt s av) with
      | true => some (biw s d (nxt s av) y)
      | false => none
    | none => some ⟨noK d [] s.sl,s.hp⟩
theorem bbu {s s' : AS} {av : List Nat} {d : Nat} (h : bii s av d = some s') : Wk s s' := by
 unfold bii at h
 split at h
 ·cases h; exact .refl _
 ·split at h
  ·rename_i y hy
   split at h
   ·rename_i hf; cases h; exact Wk.rekey hy hf
   ·cases h
  ·cases h; exact auk (fun t x h => (aw6 h).2) (fun _ _ h => h)
def bjd (o : Oper) : Option Nat := match o.dst with
  | some d => match o.op with
    | .alloc _ => some d
    | .box _ _ => some d
    | .makeSlice _ _ _ => some d
    | .buildSlice _ 0 _ => some d
    | .slice _ _ _ _ (some _) => some d
    | .call ⟨.builtin .append,_,_⟩ => some d
    | _ => none
  | none => none
def bdm (av : List Nat) : List Oper -> AS -> Option AS
  | [],s => some s
  | o :: os, s => match bjd o with
    | some d => match bii s av d with
      | some s' => bdm av os s'
      | none => none
    | none => bdm av os s
theorem avn {av : List Nat} : ∀ {os : List Oper} {s s' : AS}, bdm av os s = some s' -> Wk s s'
 | [],s,s',h => by cases h; exact .refl _
 | o :: os, s, s', h => by
  unfold bdm at h
  split at h
  ·split at h
   ·rename_i h1; exact (bbu h1).trans (avn h)
   ·cases h
  ·exact avn h
inductive RR where
  | ok (s : AS) (us : List Out)
  | need (k : Nat)
  | no
def nB {α : Type} : List α -> Bool
  | [] => true
  | _ => false
def bgg (E : Env P) (F : agz) (av fz : List Nat) (N : Nat) (R : List Oper) : List Oper -> AS -> List Out -> RR
  | [],s,us => .ok s us
  | o :: os, s, us => match opE E F av fz N R s o with
    | .ok u => match nB u.upd || a11 s u with
      | true => match s.app o.dst u with
        | ⟨sl,hp⟩ => bgg E F av fz N R os ⟨sl,hp⟩ (us ++ [u])
      | false => .no
    | .need k => .need k
    | .no => .no
theorem a49 {E : Env P} {F : agz} (hF : F.Ok P) {av fz : List Nat} {R : List Oper} : ∀ {os : List Oper} {s : AS} {us : List Out} {s' : AS} {us' : List Out}, bgg E F av fz N R os s us = .ok s' us' ->
  arp P N R.toArray os s us (fun s2 us2 => s2 = s' /\ us2 = us')
 | [],s,us,s',us',h => by cases h; exact ⟨rfl,rfl⟩
 | o :: os, s, us, s', us', h => by
  unfold bgg at h
  split at h
  ·rename_i u hu
   split at h
   ·rename_i hn
    refine ⟨u,be7 hF hu,?_,a49 hF h⟩
    cases hu' : nB u.upd with
    | true =>
     intro k hk
     have : u.upd = []:=by cases hq : u.upd with | nil => rfl | cons a b => rw [hq] at hu'; cases hu'
     rw [this] at hk; cases hk
    | false => rw [hu'] at hn; exact ako hn
   ·cases h
  ·cases h
  ·cases h
structure Sys where
  code : Nat -> Nat -> List Nat -> Code -> AS -> Option (Exit × AS)
  fn : Nat -> List Nat -> FuncId -> List AV -> Hp -> Option (AV × Hp)
def trF (S : Sys) (base : Nat) : agz := fun av f xs H => match biu base (H.map (·.1)) with
  | L => match S.fn (base + 100) av f (tA L xs) (tH L H) with
    | some (r,H') => some (rB L r,hB L H')
    | none => none
def isR (e : Exit) : Bool := match e with
  | .normal => true
  | _ => false
def bib (s : AS) (k : Nat) : Option AS := match s.blk k with
  | some (.row sz es) => some ⟨ajb (AV.fz k sz es) s.sl,afp (AV.fz k sz es) k s.hp⟩
  | _ => none
theorem bcb {s s' : AS} {k : Nat} (h : bib s k = some s') : Wk s s' := by
 unfold bib at h
 split at h
 ·rename_i hk; cases h; exact Wk.freeze hk
 ·cases h
def bfe (E : Env P) (F : agz) (av : List Nat) (N : Nat) (A : List Oper) (d : Bool) : Nat -> List Nat -> AS -> Option AS
  | 0,_,_ => none
  | n + 1, fz, s0 => match bgg E F av fz N A A s0 [] with
    | .ok s' us => match d with
      | false => some s'
      | true => match chk A us s0 with
        | true => some s'
        | false => none
    | .need k => match bib s0 k with
      | some ⟨sl,hp⟩ => bfe E F av N A d n fz ⟨sl,hp⟩
      | none => match azc k fz with
        | true => none
        | false => bfe E F av N A d n (k :: fz) s0
    | .no => none
theorem au1 {E : Env P} {F : agz} (hF : F.Ok P) {av : List Nat} {id : Nat} {A : Array Oper} {d : Bool} (hnd : A.toList.all nd = true) : ∀ {n : Nat} {fz : List Nat} {s s1 : AS}, bfe E F av N A.toList d n fz s = some s1 ->
  AWP P N (.region id A d) (fun e' s' => e' = .normal /\ s' = s1) s
 | 0,fz,s,s1,h => by cases h
 | n + 1, fz, s, s1, h => by
  unfold bfe at h
  split at h
  ·rename_i s' us h1
   refine a3v (Q := fun e' s' => e' = .normal /\ s' = s1) (k := []) hnd (fun _ => (default : Tys P).mix) (akk ?_ (a49 hF h1))
   rintro s2 us2 ⟨hs,hu⟩
   rw [hs,hu]
   split at h
   ·obtain rfl := Option.some.inj h
    exact ⟨(fun e => by cases e),rfl,rfl⟩
   ·split at h
    ·rename_i hc
     obtain rfl := Option.some.inj h
     exact ⟨fun _ => hc,rfl,rfl⟩
    ·cases h
  ·split at h
   ·rename_i sl hp hf
    exact aeh (bcb hf) (au1 hF hnd h)
   ·split at h
    ·cases h
    ·exact au1 hF hnd h
  ·cases h
def asf (E : Env P) (S : Sys) (N base : Nat) (av : List Nat) (c : Code) (s : AS) : Option (Exit × AS) := match c with
  | .skip => some (.normal,s)
  | .ret => some (.ret,s)
  | .exit id => some (.exit id,s)
  | .seq x y => match S.code N base av x s with
    | some (e, s1) => match isR e with
      | true => S.code N base av y s1
      | false => some (e,s1)
    | none => none
  | .block id c => match S.code N base av c s with
    | some (e, s1) => match e with
      | .exit id' => match Nat.beq id' id with
        | true => some (.normal,s1)
        | false => some (.exit id',s1)
      | e => some (e,s1)
    | none => none
  | .cond c x y => match rdC s c with
    | some (.v (.bool b)) => match b with
      | true => S.code N base av x s
      | false => S.code N base av y s
    | _ => none
  | .loop c => match S.code N base av c s with
    | some (e, s1) => match isR e with
      | true => match ddS s1 with
        | ⟨sl,hp⟩ => S.code N base av (.loop c) ⟨sl,hp⟩
      | false => some (e,s1)
    | none => none
  | .region id A d => match az7 A.toList with
    | true => match bdm av A.toList s with
      | some s0 => match bfe E (trF S base) av N A.toList d 20 [] s0 with
        | some s' => some (.normal,s')
        | none => none
      | none => none
    | false => none
  | _ => none
def bdf (st : Nat) : List Nat -> AS -> Option AS
  | [],s => some s
  | k :: ks, s => match s.blk k with
    | some y => match bbd s 100 st with
      | d => match s.freshB d with
        | true => bdf st ks (biw s k d y)
        | false => none
    | none => none
theorem avh {st : Nat} : ∀ {ks : List Nat} {s s' : AS}, bdf st ks s = some s' -> Wk s s'
 | [],s,s',h => by cases h; exact .refl _
 | k :: ks, s, s', h => by
  unfold bdf at h
  split at h
  ·rename_i y hy
   simp only at h
   split at h
   ·rename_i hf; exact (Wk.rekey (s := s) hy hf).trans (avh h)
   ·cases h
  ·cases h
def cnt : Nat -> List Nat -> List Nat
  | _,[] => []
  | n,_ :: l => n :: cnt (n + 1) l
def loc : List Nat -> List Nat
  | [] => []
  | k :: ks => match Nat.blt k 1000 with
    | true => k :: loc ks
    | false => loc ks
def bc0 (sl : abo) : List Nat -> abo
  | [] => []
  | t :: ts => match lk sl t with
    | some x => (t,some x) :: bc0 sl ts
    | none => bc0 sl ts
theorem at7 {sl : abo} : ∀ {ts : List Nat} {t : Nat} {x : AV}, lk (bc0 sl ts) t = some x -> lk sl t = some x
 | [],t,x,h => by cases h
 | t' :: ts, t, x, h => by
  unfold bc0 at h
  split at h
  ·rename_i y hy
   rw [aac] at h
   split at h
   ·rename_i e; cases h; rw [e]; exact hy
   ·exact at7 h
  ·exact at7 h
def rsT : List ResultVar -> List Nat
  | [] => []
  | r :: rs => (match r with
    | .tmp t => t
    | .cell t _ => t) :: rsT rs
def bgi (P : Program) [Inhabited (Tys P)] (rs : List ResultVar) (Hk : List Nat) (s : AS) : Option (AV × Hp) := match ba2 P s rs with
  | some ys => some (ajp ys,pkH s (azx s 300 (AV.nms ys ++ Hk) []))
  | none => none
theorem a4p {rs : List ResultVar} {Hk : List Nat} {s : AS} {r : AV} {H' : Hp} (h : bgi P rs Hk s = some (r, H')) : ∃ xs, ResL P s rs xs /\ Fin s (ajp xs) r H' := by
 unfold bgi at h
 split at h
 ·rename_i ys hy
  cases h
  exact ⟨ys,avp hy,.keep (fun k z hz => ar7 hz)⟩
 ·cases h
def biq (P : Program) [Inhabited (Tys P)] (av : List Nat) (rs : List ResultVar) (Hk : List Nat) (s : AS) : Option (AV × Hp) := match azx s 300 (AV.nms ((bc0 s.sl (rsT rs)).filterMap (·.2)) ++ Hk) [] with
  | K => match loc K with
    | [] => bgi P rs Hk s
    | k :: ks => match bdf 700 (k :: ks) ⟨bc0 s.sl (rsT rs), pkH s K⟩ with
      | some s2 => match bdf (mx 299 av + 1) (cnt 700 (k :: ks)) s2 with
        | some s3 => bgi P rs Hk s3
        | none => none
      | none => none
theorem bbm {av : List Nat} {rs : List ResultVar} {Hk : List Nat} {s : AS} {r : AV} {H' : Hp} (h : biq P av rs Hk s = some (r, H')) : ∃ s2, Wk s s2 /\ ∃ xs, ResL P s2 rs xs /\ Fin s2 (ajp xs) r H' := by
 unfold biq at h
 simp only at h
 split at h
 ·exact ⟨s,.refl _,a4p h⟩
 ·split at h
  ·rename_i s2 h2
   split at h
   ·rename_i s3 h3
    exact ⟨s3,((auk (fun t x => at7) (fun k x => ar7)).trans (avh h2)).trans (avh h3),a4p h⟩
   ·cases h
  ·cases h
def a5x : Hp -> Bool
  | [] => true
  | (k,_) :: l => Nat.ble 1000 k && a5x l
theorem awq : ∀ {H : Hp} {k : Nat} {z : Blk}, a5x H = true -> lk H k = some z -> 1000 <= k
 | [],k,z,_,h => by cases h
 | (k', x) :: l, k, z, h0, h => by
  simp only [a5x,and_eq_true,Nat.ble_eq] at h0
  rw [aac] at h
  split at h
  ·rename_i e; rw [e]; exact h0.1
  ·exact awq h0.2 h
def fnS (E : Env P) (S : Sys) (base : Nat) (av : List Nat) (f : FuncId) (xs : List AV) (H : Hp) : Option (AV × Hp) := match E.fe f with
  | some fe => match Nat.beq fe.f f && a5x H with
    | true => match azi 0 xs with
      | some sl => match S.code fe.fn.ntmps base av fe.c ⟨sl, H⟩ with
        | some (e, s1) => match a68 e with
          | true => biq P av fe.rs (H.map (·.1)) s1
          | false => none
        | none => none
      | none => none
    | false => none
  | none => none
def ev (E : Env P) (n : Nat) : Sys := Nat.rec ⟨fun _ _ _ _ _ => none,fun _ _ _ _ _ => none⟩ (fun _ S => ⟨asf E S,fnS E S⟩) n
structure SysOk (P : Program) (S : Sys) : Prop where
  code : ∀ N base av c s e s1,S.code N base av c s = some (e,s1) -> AWP P N c (fun e' s' => e' = e /\ s' = s1) s
  fn : ∀ base av f xs H r H',S.fn base av f xs H = some (r,H') -> Con P f xs H r H'
theorem bfd {P : Program} {S : Sys} (h : SysOk P S) (base : Nat) : (trF S base).Ok P := by
 intro av f xs H r H' h1
 unfold trF at h1
 simp only at h1
 split at h1
 ·rename_i h2; cases h1; exact biz (h.fn _ _ _ _ _ _ _ h2)
 ·cases h1
theorem beh {E : Env P} {S : Sys} (h : SysOk P S) {base : Nat} {av : List Nat} {f : FuncId} {xs : List AV} {H H' : Hp} {r : AV} (h1 : fnS E S base av f xs H = some (r, H')) : Con P f xs H r H' := by
 unfold fnS at h1
 split at h1
 ·rename_i fe hfe
  split at h1
  ·rename_i hc
   simp only [and_eq_true] at hc
   have hf := eq_of_beq_eq_true hc.1
   subst hf
   split at h1
   ·rename_i sl hsl
    cases ama hsl
    split at h1
    ·rename_i e s1 h2
     split at h1
     ·rename_i he
      refine a4r fe.hf fe.hb fe.hn fe.hrs rfl (fun k z hz => awq hc.2 hz) ?_
      refine a32 (h.code _ _ _ _ _ _ _ h2) ?_
      rintro e' s' ⟨he',hs'⟩
      rw [he',hs']
      obtain ⟨s2,hw,hx⟩ := bbm h1
      refine ⟨s2,hw,?_⟩
      cases e <;> first | exact hx | exact (nomatch he)
     ·cases h1
    ·cases h1
   ·cases h1
  ·cases h1
 ·cases h1
theorem a5w (E : Env P) : ∀ n m, m <= n -> SysOk P (ev E m)
 | 0, m, hm => by
  have : m = 0:=by omega
  subst this
  exact { code := (fun _ _ _ _ _ _ _ h => by cases h),fn := (fun _ _ _ _ _ _ _ h => by cases h) }
 | n + 1, m, hm => by
  by_cases hmn : m <= n
  ·exact a5w E n m hmn
  ·have : m = n + 1 := by omega
   subst this
   have ih := a5w E n n (le_refl _)
   refine ⟨?_,fun base av f xs H r H' h => beh ih h⟩
   intro N base av c s e s1 h
   change asf E (ev E n) N base av c s = some (e,s1) at h
   cases c with
   | skip => cases h; exact axl ⟨rfl,rfl⟩
   | ret => cases h; exact a0l ⟨rfl,rfl⟩
   | exit id => cases h; exact aw0 ⟨rfl,rfl⟩
   | seq x y =>
    simp only [asf] at h
    split at h
    ·rename_i e1 s2 h1
     refine a3u fun K hK => acp (ih.code _ _ _ _ _ _ _ h1) ?_
     rintro e' s' ⟨he,hs⟩
     rw [he,hs]
     split at h
     ·rename_i hr
      cases e1 <;> first | exact hK _ (ih.code _ _ _ _ _ _ _ h) | exact (nomatch hr)
     ·rename_i hr
      obtain ⟨rfl,rfl⟩ := Prod.mk.inj (Option.some.inj h)
      cases e1 <;> first | exact ⟨rfl,rfl⟩ | exact (nomatch hr)
    ·cases h
   | block id c =>
    simp only [asf] at h
    split at h
    ·rename_i e1 s2 h1
     refine asr (acp (ih.code _ _ _ _ _ _ _ h1) ?_)
     rintro e' s' ⟨he,hs⟩
     rw [he,hs]
     split at h
     ·rename_i id'
      show match Nat.beq id' id with | true => _ | false => _
      split at h
      ·rename_i hb
       obtain ⟨rfl,rfl⟩ := Prod.mk.inj (Option.some.inj h)
       simp only []; exact ⟨trivial,trivial⟩
      ·rename_i hb
       obtain ⟨rfl,rfl⟩ := Prod.mk.inj (Option.some.inj h)
       simp only []; exact ⟨trivial,trivial⟩
     ·rename_i hne
      obtain ⟨rfl,rfl⟩ := Prod.mk.inj (Option.some.inj h)
      cases e1 <;> first | exact ⟨rfl,rfl⟩ | exact absurd rfl (hne _)
    ·cases h
   | cond c x y =>
    simp only [asf] at h
    split at h
    ·rename_i b hb
     split at h
     ·exact aq6 (abf hb) (fun _ => ih.code _ _ _ _ _ _ _ h) (fun e => by cases e)
     ·exact aq6 (abf hb) (fun e => by cases e) (fun _ => ih.code _ _ _ _ _ _ _ h)
    ·cases h
   | loop c =>
    refine ah7 (fun m s => m <= n + 1 /\ (ev E m).code N base av (.loop c) s = some (e,s1)) (n := n + 1) (.refl _) ⟨le_refl _,h⟩ ?_
    rintro m s ⟨hm,hI⟩ K hK
    cases m with
    | zero => cases hI
    | succ m =>
     change asf E (ev E m) N base av (.loop c) s = some (e,s1) at hI
     have ihm := a5w E n m (by omega)
     simp only [asf] at hI
     split at hI
     ·rename_i e1 s2 h1
      refine acp (ihm.code _ _ _ _ _ _ _ h1) ?_
      rintro e' s' ⟨he,hs⟩
      rw [he,hs]
      split at hI
      ·rename_i hr
       cases e1 <;> first | exact hK _ _ m (bhh s2) ⟨by omega,hI⟩ (by omega) | exact (nomatch hr)
      ·rename_i hr
       obtain ⟨rfl,rfl⟩ := Prod.mk.inj (Option.some.inj hI)
       cases e1 <;> first | exact ⟨rfl,rfl⟩ | exact (nomatch hr)
     ·cases hI
   | region id A d =>
    simp only [asf] at h
    split at h
    ·rename_i hnd
     split at h
     ·rename_i s0 h0
      refine aeh (avn h0) ?_
      split at h
      ·rename_i s' h1
       obtain ⟨rfl,rfl⟩ := Prod.mk.inj (Option.some.inj h)
       exact au1 (bfd ih base) (aqp hnd) h1
      ·cases h
     ·cases h
    ·cases h
   | _ => cases h
theorem ahr (E : Env P) (n : Nat) {base : Nat} {av : List Nat} {f : FuncId} {xs : List AV} {H H' : Hp} {r : AV} (h : (ev E n).fn base av f xs H = some (r, H')) : Con P f xs H r H' :=
 (a5w E n n (le_refl _)).fn _ _ _ _ _ _ _ h
end Go.Lw
namespace Go.Lw
open Go.Proofs
abbrev fdC (l : Li) (known driven : List Bool) (r : List AV) : List AV := l.av.cells ++ (.lst 1 (known.map bl) :: .lst 1 (driven.map bl) :: r)
theorem a1u (j : Jt) (b : Int) : FnC prog 448 [j.av, i64 b] (i64 (ahd j b)) := by
 refine gF0 func448 ?_
 refine gC (fun ht6 => ?_) (fun ht6 => ?_)
 ·have h1 : b = j.a := ahf ht6
  refine gE1 ?_
  unfold ahd; rw [if_pos h1]
 ·have h1 : b ≠ j.a := aj0 ht6
  refine gC (fun ht12 => ?_) (fun ht12 => ?_)
  ·have h2 : b = j.b := ahf ht12
   refine gE1 ?_
   unfold ahd; rw [if_neg h1,if_pos h2]
  ·have h2 : b ≠ j.b := aj0 ht12
   refine gE1 ?_
   unfold ahd; rw [if_neg h1,if_neg h2]; rfl
theorem azu (j : Jt) (kind body : Int) (f : FuncId) (pre caps : List AV) (p : Int -> Bool) (hp : 0 <= ahd j body -> FnC prog f (pre ++ [i64 (ahd j body)] ++ caps) (bl (p (ahd j body)))) :
  FnC prog 447 [j.av,.iptr [i64 body],.iptr [i64 kind],.iptr [.cl f pre caps]] (bl (bgk kind body p j)) := by
 refine gF0 func447 ?_
 refine gc (a1u j body) ?_
 refine gcG (fun h => (hp (bi6 h))) ?_
 refine gE1 ?_
 exact congrArg bl bgd
theorem aky (bs : List Jt) (hl : bs.length <= 281474976710656) (f : FuncId) (pre caps : List AV) (ok : Nat -> Bool)
  (hf : ∀ (i : Nat) (b : Jt),bs[i]? = some b -> (∀ j,j < i -> ok j = true) -> FnC prog f (pre ++ [b.av] ++ caps) (bl (!ok i))) :
  FnC prog 446 [.lst 7 (bs.map Jt.av),.cl f pre caps] (i64 (ixI (ac1 bs.length ok))) := by
 refine gF0 func446 ?_
 refine gl ?_
 refine gL1 [0,1,7] [] (fun (i : Nat) => [(8,some (i64 i))]) (fun _ => []) (fun i => i <= bs.length /\ ∀ j,j < i -> ok j = true) (fun i => bs.length - i) 0 ⟨zero_le _,fun j h => by omega⟩ ?_
 rintro i ⟨hi,hj⟩ K1 hK1
 refine gC (fun ht9 => ?_) (fun ht9 => ?_)
 ·have hin := abb ht9
  obtain ⟨b,hb⟩ := ab6 hin
  refine gi (aae hb) ?_
  refine gc (hf i b hb hj) ?_
  refine gC (fun ht16 => ?_) (fun ht16 => ?_)
  ·have h2 := aeb ht16
   refine gE1 ?_
   rw [acu hin hj h2]; rfl
  ·have h2 := aea ht16
   refine ga aas ?_
   exact gK1 hK1 (i + 1) ⟨hin,fun j h9 => by rcases lt_or_ge j i with g | g; exact hj j g; (have : j = i:=by omega); subst this; exact h2⟩
 ·have hin := aal hi ht9
  subst hin
  refine gE1 ?_
  rw [ab7 hj]; rfl
theorem asz (l : Li) (hl : l.ok) (hli : liE l = 0) (Fd : List AV) (kind body : Int) (f : FuncId) (pre caps : List AV) (p : Int -> Bool)
  (hp : ∀ o : Int,0 <= o -> o < l.bodies.length -> FnC prog f (pre ++ [i64 o] ++ caps) (bl (p o))) :
  FnC prog 434 [.iptr (l.av.cells ++ Fd),i64 kind,i64 body,.cl f pre caps] (i64 (gJ l kind body p)) := by
 refine gF0 func434 ?_ (1,0)
 refine gW ((Wk.freezeB (k := 7) rfl rfl).trans <| (Wk.freezeB (k := 5) rfl rfl).trans <| (Wk.freezeB (k := 6) rfl rfl).trans <| Wk.o (sl := [(0,some (.iptr (l.av.cells ++ Fd))),(5,some (.iptr [i64 kind])),(6,some (.iptr [i64 body])),(7,some (.iptr [.cl f pre caps]))]) (hp := [])) ?_
 refine gc (Con.subA (.cons (.refl _) (.cons (a83 rfl) .nil)) (aky l.joints hl.lj 447 [] [.iptr [i64 body],.iptr [i64 kind],.iptr [.cl f pre caps]] (fun i => !bgk kind body p (l.joints.getD i default)) (fun i b hb hj => by rw [Bool.not_not,aar hb]; exact azu b kind body f pre caps p (fun h => hp _ h (a5y hli hb body))))) ?_
 refine gE1 ?_
 rfl
theorem au5 (l : Li) (known driven : List Bool) (r : List AV) (b : Int) (h0 : 0 <= b) (h1 : b < known.length) : FnC prog 444 [.iptr (fdC l known driven r), i64 b] (bl (kn known b)) := by
 obtain ⟨v,hv⟩ : ∃ v,known[b.toNat]? = some v := ab6 (by omega)
 have ev : kn known b = v := aar hv
 refine gF0 func444 ?_
 refine gi (aqm (n := b.toNat) (by omega) hv) ?_
 refine gE1 ?_
 rw [ev]
theorem alf (l : Li) (hl : l.ok) (hli : liE l = 0) (known driven : List Bool) (hk : known.length = l.bodies.length) (r : List AV) (kind body : Int) :
  FnC prog 432 [.iptr (fdC l known driven r),i64 kind,i64 body] (i64 (gJ l kind body (kn known))) := by
 refine gF0 func432 ?_
 refine gc (asz l hl hli _ kind body 444 [.iptr (fdC l known driven r)] [] (kn known) (fun o h0 h1 => au5 l known driven r o h0 (by omega))) ?_
 refine gE1 ?_
 rfl
theorem a4x (o j : Int) : FnC prog 435 [i64 o, .iptr [i64 j]] (bl (decide (o = j))) := by
 refine gF0 func435 ?_
 refine gE1 ?_
 exact congrArg bl ane
theorem a66 (l : Li) (known driven : List Bool) (hd : driven.length = known.length) (r : List AV) (b : Int) (h0 : 0 <= b) (h1 : b < known.length) :
  FnC prog 436 [.iptr (fdC l known driven r),i64 b] (bl (!kn known b && !kn driven b)) := by
 obtain ⟨v,hv⟩ : ∃ v,known[b.toNat]? = some v := ab6 (by omega)
 have ev : kn known b = v := aar hv
 obtain ⟨u,hu⟩ : ∃ u,driven[b.toNat]? = some u := ab6 (by omega)
 have eu : kn driven b = u := aar hu
 refine gF0 func436 ?_
 refine gi (aqm (n := b.toNat) (by omega) hv) ?_
 refine giG (fun _ => (aqm (n := b.toNat) (by omega) hu)) ?_
 refine gE1 ?_
 rw [ev,eu]; exact congrArg bl (adr _ _)
end Go.Lw
namespace Go.Lw
open Go.Proofs
theorem azm (l : Li) (hl : l.ok) (hli : liE l = 0) (known driven : List Bool) (hk : known.length = l.bodies.length) (r : List AV) :
  FnC prog 401 [.iptr (fdC l known driven r)] (.tup [((driverG l known).getD default).av,bl (driverG l known).isSome]) := by
 have hld := hl.ld
 refine gF0 func401 ?_
 refine gl ?_
 refine gL1 [0,2,11,12] [2] (fun (i : Nat) => [(13,some (i64 i))]) (fun _ => []) (fun i => i <= l.drivers.length /\ ∀ j,j < i -> (!drHit l known j) = true) (fun i => l.drivers.length - i) 0 ⟨zero_le _,fun j h => by omega⟩ ?_
 rintro i ⟨hi,hj⟩ K1 hK1
 refine gC (fun ht14 => ?_) (fun ht14 => ?_)
 ·have hin := abb ht14
  obtain ⟨d,hd⟩ := ab6 hin
  have hdd : l.drivers.getD i default = d := aar hd
  have hb := aim (ayo hli hd)
  obtain ⟨v,hv⟩ : ∃ v,known[d.body.toNat]? = some v := ab6 (by omega)
  have ev : kn known d.body = v := aar hv
  have ej : gJ l 0 d.body (kn known) = jointI l 0 d.body known := bcs hli (fun o _ _ => rfl)
  refine gi (aae hd) ?_
  refine gi (aqm (n := d.body.toNat) (by omega) hv) ?_
  refine gD ?_
  refine gC (fun ht25 => ?_) (fun ht25 => ?_)
  ·have h2 : drHit l known i = false := by unfold drHit; rw [hdd, ev, ht25]; rfl
   refine ga aas ?_
   exact gK1 hK1 (i + 1) ⟨hin,fun k h9 => by rcases lt_or_ge k i with g | g; exact hj k g; (have : k = i:=by omega); subst this; rw [h2]; rfl⟩
  ·have hv0 : v = false := ht25
   refine gc (show FnC _ _ _ (i64 (jointI l 0 d.body known)) by rw [<- ej]; exact alf l hl hli known driven hk r 0 d.body) ?_
   refine gC (fun ht31 => ?_) (fun ht31 => ?_)
   ·have h2 : drHit l known i = true := by unfold drHit; rw [hdd, ev, hv0, decide_eq_true (bel ht31)]; rfl
    have hg : driverG l known = some ⟨0,[d.body],[jointI l 0 d.body known],i⟩:=by unfold driverG; rw [acu hin hj (by rw [h2]; rfl),<- hdd]; rfl
    refine gE2 ?_
    rw [hg]; rfl
   ·have h2 : drHit l known i = false := by unfold drHit; rw [hdd, decide_eq_false (bdq ht31), Bool.and_false]
    refine ga aas ?_
    exact gK1 hK1 (i + 1) ⟨hin,fun k h9 => by rcases lt_or_ge k i with g | g; exact hj k g; (have : k = i:=by omega); subst this; rw [h2]; rfl⟩
 ·have hin := aal hi ht14
  subst hin
  have hg : driverG l known = none:=by unfold driverG; rw [ab7 hj]; rfl
  refine gR ?_
  exact Fin.sub Fin.pure (by rw [hg]; exact Sub.tup (.cons akx (.cons (.refl _) .nil)))
theorem a33 (l : Li) (hli : liE l = 0) (known : List Bool) (hk : known.length = l.bodies.length) (r : List AV) (b : Nat) (h1 : b < l.bodies.length) :
  FnC prog 436 [.iptr (fdC l known (aat l) r),i64 b] (bl (freeB l known b)) := by
 have h := a66 l known (aat l) (by rw [af4,hk]) r b (by omega) (by omega)
 rw [a2z hli (by omega)] at h
 exact h
theorem awy (l : Li) (hl : l.ok) (hli : liE l = 0) (known : List Bool) (hk : known.length = l.bodies.length) (r : List AV) (kind body : Int) :
  FnC prog 432 [.iptr (fdC l known (aat l) r),i64 kind,i64 body] (i64 (jointI l kind body known)) := by
 have h := alf l hl hli known (aat l) hk r kind body
 rw [bcs hli (fun o _ _ => rfl)] at h
 exact h
theorem azw (l : Li) (hl : l.ok) (hli : liE l = 0) (known : List Bool) (hk : known.length = l.bodies.length) (r : List AV) :
  FnC prog 403 [.iptr (fdC l known (aat l) r)] (.tup [((singleG l known).getD default).av,bl (singleG l known).isSome]) := by
 have h8 := (abr hli).2.2.2.1
 refine gF0 func403 ?_
 refine gl ?_
 refine gL1 [0,2,12,13] [2] (fun (i : Nat) => [(14,some (i64 i))]) (fun _ => []) (fun i => i <= l.bodies.length /\ ∀ j,j < i -> (!sgHit l known j) = true) (fun i => l.bodies.length - i) 0 ⟨zero_le _,fun j h => by omega⟩ ?_
 rintro i ⟨hi,hj⟩ K1 hK1
 refine gC (fun ht15 => ?_) (fun ht15 => ?_)
 ·have hin := abb ht15
  refine gc (a33 l hli known hk r i hin) ?_
  refine gC (fun ht20 => ?_) (fun ht20 => ?_)
  ·have h2 : sgHit l known i = false := by unfold sgHit; rw [aeb ht20]; rfl
   refine ga aas ?_
   exact gK1 hK1 (i + 1) ⟨hin,fun k h9 => by rcases lt_or_ge k i with g | g; exact hj k g; (have : k = i:=by omega); subst this; rw [h2]; rfl⟩
  ·have hf := aea ht20
   refine gc (awy l hl hli known hk r 0 i) ?_
   refine gc (awy l hl hli known hk r 1 i) ?_
   refine gC (fun ht32 => ?_) (fun ht32 => ?_)
   ·have h2 : sgHit l known i = false := by unfold sgHit; rw [bep ht32, Bool.and_false]
    refine ga aas ?_
    exact gK1 hK1 (i + 1) ⟨hin,fun k h9 => by rcases lt_or_ge k i with g | g; exact hj k g; (have : k = i:=by omega); subst this; rw [h2]; rfl⟩
   ·obtain ⟨p0, s0⟩ := bdk ht32
    have s1 := (aew (l := l) (kind := 1) (body := i) (oth := known)).2
    have h2 : sgHit l known i = true:=by unfold sgHit; rw [hf,decide_eq_true p0,decide_eq_true s0]; rfl
    obtain ⟨j,hjt⟩ : ∃ j,l.joints[(jointI l 1 i known).toNat]? = some j := ab6 (by omega)
    have hjd : l.joints.getD (jointI l 1 i known).toNat default = j := aar hjt
    have hg : singleG l known = some (sgG l known i):=by unfold singleG; rw [acu hin hj (by rw [h2]; rfl),Option.map_some]
    refine gi (aqm (n := (jointI l 1 i known).toNat) (by omega) hjt) ?_
    refine gC (fun ht43 => ?_) (fun ht43 => ?_)
    ·have hji : j.a = i := ahf ht43
     refine gE2 ?_
     rw [hg]; unfold sgG; rw [hjd]; simp only [Option.getD_some,if_pos hji]; rfl
    ·have hji : j.a ≠ i := aj0 ht43
     refine gE2 ?_
     rw [hg]; unfold sgG; rw [hjd]; simp only [Option.getD_some,if_neg hji]; rfl
 ·have hin := aal hi ht15
  subst hin
  have hg : singleG l known = none:=by unfold singleG; rw [ab7 hj]; rfl
  refine gR ?_
  exact Fin.sub Fin.pure (by rw [hg]; exact Sub.tup (.cons akx (.cons (.refl _) .nil)))
theorem a5a (Fd : List AV) : FnC prog 433 [.iptr Fd] (.fn 445 [.iptr [.iptr Fd]]) := by
 refine gF0 func433 ?_ (1,0)
 refine gW ((Wk.freezeB (k := 1) rfl rfl).trans <| Wk.o (sl := [(1,some (.iptr [.iptr Fd]))]) (hp := [])) ?_
 refine gE1 ?_
 rfl
end Go.Lw
namespace Go.Lw
open Go.Proofs
def bgp : Code -> Option (Array Tmp × Code × Code)
  | .rangeFunc _ ps x y => some (ps,x,y)
  | .seq a b => match bgp a with
    | some r => some r
    | none => bgp b
  | .block _ c => bgp c
  | _ => none
def rgD (n : Nat) (o : Option Code) : LpD := match o with
  | some c => match bgp c with
    | some (ps,x,y) => ⟨ps,x,y,n⟩
    | none => ⟨#[],.skip,.skip,0⟩
  | none => ⟨#[],.skip,.skip,0⟩
def pb0 (D : LpD) (Fd : List AV) (h : Bool) : Blk := .loop D (match h with | true => .done | false => .ready) (match h with | true => some .ret | false => none) [(1,some (.iptr [.iptr Fd])),(2,some (.ptr 1001 0)),(3,some (.ptr 1002 0))]
def pb1 (g : Gr) : Blk := .box [i64 g.kind,.lst 1 (g.bodies.map i64),.lst 1 (g.joints.map i64),i64 g.driver]
def pb2 (h : Bool) : Blk := .box [bl h]
def af7 (D : LpD) (Fd : List AV) (h : Bool) (g : Gr) : Hp := [(1000,some (pb0 D Fd h)),(1001,some (pb1 g)),(1002,some (pb2 h))]
theorem a8h {D : LpD} {Fd : List AV} {h : Bool} {g : Gr} {k : Nat} {z : Blk} (hz : lk (af7 D Fd h g) k = some z) : 1000 <= k := by
 unfold af7 at hz
 simp only [aac] at hz
 split at hz
 ·omega
 ·split at hz
  ·omega
  ·split at hz
   ·omega
   ·cases hz
theorem a5z {D : LpD} {Fd : List AV} {s : AS} (hs : ∀ k z, lk (af7 D Fd false default) k = some z -> s.blk k = some z) :
  ∀ k ∈ (af7 D Fd false default ++ ai0 (af7 D Fd false default)).map (·.1),k ∈ (af7 D Fd false default).map (·.1) /\ lk (af7 D Fd false default ++ ai0 (af7 D Fd false default)) k = s.blk k := by
 intro k hk
 have hk' : k = 1000 \/ k = 1001 \/ k = 1002 := by
  simp [af7,ai0] at hk
  omega
 rcases hk' with rfl | rfl | rfl
 ·exact ⟨by simp [af7],(hs _ _ rfl).symm⟩
 ·exact ⟨by simp [af7],(hs _ _ rfl).symm⟩
 ·exact ⟨by simp [af7],(hs _ _ rfl).symm⟩
theorem a0w {l : Li} {known : List Bool} {i k : Nat} (h : cond (freeB l known i) (freeB l known k) false = false) : prHit l known i k = false := by
 rw [adr] at h
 unfold prHit
 rw [h]; rfl
theorem bhd {H R : Hp} {k : Nat} {z : Blk} (h : lk H k = some z) : lk (H ++ R) k = some z:=by rw [acs,if_pos (aa5 h)]; exact h
theorem fr1 {a b : Bool} (h : cond a b false = true) : a = true:=by cases a <;> simp_all
theorem fr2 {a b : Bool} (h : cond a b false = true) : b = true:=by cases a <;> simp_all
theorem ayn (D : LpD) (l : Li) (hl : l.ok) (hli : liE l = 0) (known : List Bool) (hk : known.length = l.bodies.length) (r : List AV)
  (hy : ∀ i k : Nat, i < k -> k < l.bodies.length -> freeB l known i = true -> freeB l known k = true ->
   bgh prog 1000 [i64 i,i64 k] (af7 D (fdC l known (aat l) r) false default) (bl (!prHit l known i k)) (af7 D (fdC l known (aat l) r) (prHit l known i k) (cond (prHit l known i k) (prG l known i k) default))) :
  Con prog 445 [.yl 1000,.iptr [.iptr (fdC l known (aat l) r)]] (af7 D (fdC l known (aat l) r) false default) (.tup []) (af7 D (fdC l known (aat l) r) (pairG l known).isSome ((pairG l known).getD default)) := by
 have h8 := (abr hli).2.2.2.1
 refine gF func445 (fun k z h => a8h h) ?_
 refine gl ?_
 refine gL1 [0,1,10] [1000,1001,1002] (fun (i : Nat) => [(11,some (i64 i))]) (fun _ => []) (fun i => i <= l.bodies.length /\ ∀ j,j < i -> (prAt l known j).isNone = true) (fun i => l.bodies.length - i) 0 ⟨zero_le _,fun j h => by omega⟩ ?_
 rintro i ⟨hi,hj⟩ K1 hK1
 refine gC (fun ht12 => ?_) (fun ht12 => ?_)
 ·have hin := abb ht12
  refine ga aas ?_
  refine gL1 [0,1,3,10,11] [] (fun (k : Nat) => [(4,some (i64 (i + 1 + k : Nat)))]) (fun _ => [(1000,some (pb0 D (fdC l known (aat l) r) false)),(1001,some (pb1 default)),(1002,some (pb2 false))]) (fun k => i + 1 + k <= l.bodies.length /\ ∀ j,j < k -> (!prHit l known i (i + 1 + j)) = true) (fun k => l.bodies.length - k) 0 ⟨by omega,fun j h => by omega⟩ ?_
  rintro k ⟨hkl,hkj⟩ K2 hK2
  refine gl ?_
  refine gC (fun ht23 => ?_) (fun ht23 => ?_)
  ·have hkn : i + 1 + k < l.bodies.length := abb ht23
   refine gc (a33 l hli known hk r i hin) ?_
   refine gcG (fun _ => (a33 l hli known hk r (i + 1 + k) hkn)) ?_
   refine gs (aw1 rfl rfl rfl (by intro hb; have h0 : prHit l known i (i + 1 + k) = false := a0w (by simpa using hb); simp only [h0,cond_false]; exact a5z (by intro k z h; exact h)) (fun hb => bbo (k := 1000) (.opt rfl (by rw [hb]; rfl)) (hy i (i + 1 + k) (by omega) hkn (fr1 hb) (fr2 hb)) (.cons (.opt rfl (by rw [hb]; rfl)) (.cons (.opt rfl (by rw [hb]; rfl)) .nil)) (by intro k z h; exact h) rfl rfl)) ?_
   refine gC (fun ht40 => ?_) (fun ht40 => ?_)
   ·have h2 : prHit l known i (i + 1 + k) = true := by have h9 := fr2 ht40; rw [Bool.not_not] at h9; exact h9
    have hat : prAt l known i = some (i + 1 + k):=by unfold prAt; rw [acu (by omega) hkj (by rw [h2]; rfl),Option.map_some]; congr 1; omega
    have hg : pairG l known = some (prG l known i (i + 1 + k)):=by unfold pairG; rw [acu hin hj (by rw [hat]; rfl),Option.map_some,hat]
    refine gR ?_
    simp only [hg,h2,Option.isSome_some,Option.getD_some,cond_true]
    exact Fin.keep (fun k z h => bhd h)
   ·have h2 : prHit l known i (i + 1 + k) = false := by cases hc : cond (freeB l known i) (freeB l known ((i + 1 + k : Nat) : Int)) false with | false => exact a0w hc | true => rw [hc, Bool.not_not] at ht40; exact ht40
    refine ga aas ?_
    exact gK1 hK2 (k + 1) ⟨by omega,fun j h9 => by rcases lt_or_ge j k with g | g; exact hkj j g; (have : j = k:=by omega); subst this; rw [h2]; rfl⟩ (hw := Wk.of abq (.cons rfl (BlkSub.of (by rw [h2])) (.cons rfl (BlkSub.of (by rw [h2]; rfl)) (.cons rfl (BlkSub.of (by rw [h2])) .nil))))
  ·have hkn : ¬ i + 1 + k < l.bodies.length := fun h => by have h1 := a6j ht23; omega
   have hat : prAt l known i = none:=by unfold prAt; rw [show l.bodies.length - (i + 1) = k by omega,ab7 hkj]; rfl
   refine ga aas ?_
   exact gK1 hK1 (i + 1) ⟨hin,fun j h9 => by rcases lt_or_ge j i with g | g; exact hj j g; (have : j = i:=by omega); subst this; rw [hat]; rfl⟩
 ·have hin := aal hi ht12
  have hg : pairG l known = none:=by unfold pairG; rw [<- hin,ab7 hj]; rfl
  refine gR ?_
  simp only [hg,Option.isSome_none,Option.getD_none]
  exact Fin.keep (fun k z h => h)
end Go.Lw
namespace Go.Lw
open Go.Proofs
theorem gZ {P : Program} {N : Nat} {Q : Exit -> AS -> Prop} {c : Code} {s : AS} (h : Gd P N Q (.code c [] s)) : AWP P N c Q s := h
theorem aum {P : Program} {N : Nat} {Q : Exit -> AS -> Prop} {c : Code} {s s' : AS} (hw : Wk s s') (h : az1 P N c Q s') : az1 P N c Q s := by
 intro C m a w n hro hN hr
 obtain ⟨m',hr'⟩ := hw C m a w hr
 exact h C m' a w n hro hN hr'
def swp (k : Nat) : Nat := bif Nat.beq k 1000 then 900 else bif Nat.beq k 900 then 1000 else bif Nat.beq k 1001 then 2 else bif Nat.beq k 2 then 1001 else bif Nat.beq k 1002 then 3 else bif Nat.beq k 3 then 1002 else k
theorem nb {a b : Nat} (h : ¬ a = b) : Nat.beq a b = false := by
 cases h1 : Nat.beq a b
 ·rfl
 ·exact absurd (eq_of_beq_eq_true h1) h
theorem a93 (k : Nat) : swp (swp k) = k := by
 by_cases h1 : k = 1000
 ·subst h1; rfl
 by_cases h2 : k = 900
 ·subst h2; rfl
 by_cases h3 : k = 1001
 ·subst h3; rfl
 by_cases h4 : k = 2
 ·subst h4; rfl
 by_cases h5 : k = 1002
 ·subst h5; rfl
 by_cases h6 : k = 3
 ·subst h6; rfl
 have e : swp k = k:=by simp only [swp,nb h1,nb h2,nb h3,nb h4,nb h5,nb h6,cond_false]
 rw [e,e]
theorem a5t (l : Li) (hl : l.ok) (hli : liE l = 0) (known : List Bool) (hk : known.length = l.bodies.length) (r : List AV) :
  FnC prog 402 [.iptr (fdC l known (aat l) r)] (.tup [((pairG l known).getD default).av,bl (pairG l known).isSome]) := by
 refine a2w (rs := Tryz.f402.results.toList) func402 rfl rfl (by simp) rfl (fun k z h => by cases h) ?_
 refine ap0 (gZ (go ?_))
 refine aum (s' := ⟨[(1,some (.iptr [.iptr (fdC l known (aat l) r)])),(2,some (.ptr 2 0)),(3,some (.ptr 3 0))],[(2,some (pb1 default)),(3,some (pb2 false))]⟩) ((Wk.freezeB (k := 1) rfl rfl).trans (Wk.of (.cons rfl (.refl _) (.cons rfl (.refl _) (.cons rfl (.refl _) .nil))) (.cons rfl (BlkSub.boxL (.cons (.refl _) (.cons (.nil _ _ _) (.cons (.nil _ _ _) (.cons (.refl _) .nil)))) rfl) (.cons rfl (.refl _) .nil)))) ?_
 refine a2g ?_
 refine ap0 (gZ (go ?_))
 refine gc (a5a (fdC l known (aat l) r)) ?_
 refine azd ?_
 have hy : ∀ i k : Nat, i < k -> k < l.bodies.length -> freeB l known i = true -> freeB l known k = true ->
   bgh prog 1000 [i64 i,i64 k] (af7 (rgD Tryz.f402.ntmps Tryz.f402.body) (fdC l known (aat l) r) false default) (bl (!prHit l known i k)) (af7 (rgD Tryz.f402.ntmps Tryz.f402.body) (fdC l known (aat l) r) (prHit l known i k) (cond (prHit l known i k) (prG l known i k) default)) := by
  intro i k hik hkn hfi hfk
  refine bae (k := 1000) (fun k z h => a8h h) rfl rfl (by intro p hp; have h9 : p ∈ [11,12] := hp; have h8 : p = 11 \/ p = 12 := (by simpa using h9); show p < 42; rcases h8 with h7 | h7 <;> (rw [h7]; decide)) ?_
  refine gZ (go ?_)
  refine ⟨rfl,_,_,rfl,?_⟩
  have hJ : gJ l 0 i (fun o => decide (o = (k : Int))) = jointI l 0 i (adv l.bodies.length k) := bcs hli (fun o h0 h1 => (aub h0 (by omega) (by omega)).symm)
  refine gZ (go ?_)
  refine gc (awy l hl hli known hk r 0 i) ?_
  refine gc (awy l hl hli known hk r 0 k) ?_
  refine gD ?_ (5,0)
  refine gW (Wk.freezeB (k := 5) rfl rfl) ?_
  refine gc (r := i64 (jointI l 0 i (adv l.bodies.length k))) (by rw [<- hJ]; exact Con.subA (.cons (.refl _) (.cons (.refl _) (.cons (.refl _) (.cons (a83 rfl) .nil)))) (asz l hl hli _ 0 i 435 [] [.iptr [i64 k]] (fun o => decide (o = (k : Int))) (fun o h0 h1 => a4x o k))) ?_
  refine gC (fun ht => ?_) (fun ht => ?_)
  ·have h2 : prHit l known i k = true := by unfold prHit; rw [hfi, hfk]; exact (ari.symm.trans ht)
   rw [h2]
   exact ⟨_,_,rfl,Fin.keep (by intro q z h; simp only [af7,aac] at h; split at h; (subst_vars; exact h); split at h; (subst_vars; exact h); split at h; (subst_vars; exact h); cases h)⟩
  ·have h2 : prHit l known i k = false := by unfold prHit; rw [hfi, hfk]; exact (ari.symm.trans ht)
   rw [h2]
   exact ⟨_,_,rfl,Fin.keep (by intro q z h; simp only [af7,aac] at h; split at h; (subst_vars; exact h); split at h; (subst_vars; exact h); split at h; (subst_vars; exact h); cases h)⟩
 have hcon := Con.pm a93 (ayn _ l hl hli known hk r hy)
 cases hg : pairG l known with
 | none =>
  rw [hg] at hcon
  refine apo (k := 900) (sl0 := [(1,some (.iptr [.iptr (fdC l known (aat l) r)])),(2,some (.ptr 2 0)),(3,some (.ptr 3 0))]) (.tmp rfl) (by intro t x h; simp only [aac] at h; split at h; (subst_vars; exact h); split at h; (subst_vars; exact h); split at h; (subst_vars; exact h); cases h) rfl rfl hcon (fun k' z h => h) rfl rfl rfl rfl (by intro h; cases h) (.inl ⟨rfl,?_⟩)
  refine ap0 (gZ (go ?_))
  refine AWP.out (gZ (go ?_))
  refine gR ?_
  exact Fin.sub Fin.pure (Sub.tup (.cons akx (.cons (.refl _) .nil)))
 | some g =>
  rw [hg] at hcon
  refine apo (k := 900) (sl0 := [(1,some (.iptr [.iptr (fdC l known (aat l) r)])),(2,some (.ptr 2 0)),(3,some (.ptr 3 0))]) (.tmp rfl) (by intro t x h; simp only [aac] at h; split at h; (subst_vars; exact h); split at h; (subst_vars; exact h); split at h; (subst_vars; exact h); cases h) rfl rfl hcon (fun k' z h => h) rfl rfl rfl rfl (by intro h; cases h) (.inr ⟨rfl,?_⟩)
  exact (gE2 (P := prog) (N := Tryz.f402.ntmps) (e := .ret) rfl)
end Go.Lw
namespace Go.Lw
open Go.Proofs
theorem au2 {α : Type} {o : Option α} (h : o.isSome = true) : ∃ x,o = some x:=by cases o <;> simp_all
theorem auo {α : Type} {o : Option α} (h : o.isSome = false) : o = none:=by cases o <;> simp_all
theorem a7h (l : Li) (hl : l.ok) (hli : liE l = 0) (known : List Bool) (hk : known.length = l.bodies.length) (r : List AV) :
  FnC prog 348 [.iptr (fdC l known (aat l) r)] (.tup [((nextG l known).getD default).av,bl (nextG l known).isSome]) := by
 refine gF0 func348 ?_
 refine gc (azm l hl hli known (aat l) hk r) ?_
 refine gC (fun ht13 => ?_) (fun ht13 => ?_)
 ·obtain ⟨g, hg⟩ := au2 ht13
  refine gE2 ?_
  unfold nextG; rw [hg]; rfl
 ·have hg := auo ht13
  refine gc (a5t l hl hli known hk r) ?_
  refine gC (fun ht20 => ?_) (fun ht20 => ?_)
  ·obtain ⟨g, hg2⟩ := au2 ht20
   refine gE2 ?_
   unfold nextG; rw [hg,hg2]; rfl
  ·have hg2 := auo ht20
   refine gc (azw l hl hli known hk r) ?_
   refine gE2 ?_
   unfold nextG; rw [hg,hg2]; rfl
end Go.Lw
namespace Go.Lw
variable {P : Program} {N : Nat} {R : Array Oper} {s : AS}
theorem au6 {d : Nat} {x : Operand} {n : Nat} {z : Value} {T E t : TypeId} {ti te : TI} {pos : String} {after : Array Edge} (hx : Ev s x (.v (.int .i64 n)))
    (hT : aaf P T = some ti) (hk : ti.k = .slice E) (hE : aaf P E = some te) (hz : te.zero = [z]) (hz1 : z.oneCell' = true) (hs : Nat.beq te.size 1 = true) (hbb : Nat.blt 0 te.bytes = true)
    (hb : (n : Int) * te.bytes <= 281474976710656) (hN : Nat.blt d N = true) :
    Step P N R s ⟨some d, .makeSlice T x x, t, pos, after, none⟩
      ⟨some (.ms d 1 0 n),[(d,some (.vec (List.replicate n z)))],aaj x,[]⟩ :=
  aj9 rfl rfl hN (by simp) fun s' hag hfr C m a w hr => by
    have hxv := alu hr (hx.agree hag (fun _ h => h))
    have hs := eq_of_beq_eq_true hs
    rw [Nat.blt_eq] at hbb
    obtain ⟨d2,h3,h4,-,-⟩ := abn hT w
    obtain rfl := acb (h4.trans hk)
    obtain ⟨zv,h5,h6⟩ := aj1 hE w
    obtain ⟨ie,h7,h8,-⟩ := als hE w
    have h6' : zv.cells.toList = [z] := h6.trans hz
    have hzc : zv.cells = #[z]:=by rw [<- Array.toArray_toList (xs := zv.cells),h6']
    have hnb : (n : Int) <= 281474976710656 := by
      have : (n : Int) * 1 <= n * te.bytes := Int.mul_le_mul_of_nonneg_left (by omega) (by omega)
      omega
    have hw1 : IntKind.i64.wrap (n : Int) = n := IntWalk.i64_in n (by omega)
    obtain ⟨zero,hzero⟩ : ∃ zero : Array Value,zero = (if n * te.size = 0 then #[] else zv.cells) := ⟨_,rfl⟩
    refine ⟨.slice (some ⟨w.heap.size,0,none⟩) n n,(Array.range (n * te.size)).map (zero[· % zero.size]!),E,w.drawn,?_,?_,?_,?_⟩
    · have hmk : (Instr.makeSlice T (.int .i64 n) (.int .i64 n)).run P w =
          .ok (.slice (some ⟨w.heap.size,0,none⟩) n n) { w with heap := w.heap.push (.cells ((Array.range (n * te.size)).map (zero[· % zero.size]!)) E) } := by
        have hc : ¬ (((n : Int) < 0 \/ 281474976710656 < (ie.bytes : Int) * n) \/ (n : Int) < 0) := by
          rw [h8,Int.mul_comm]; omega
        simp only [Instr.makeSlice,Sem.run_bind,h3,Result.andThen_ok,asInt,asIntOf,Sem.run_pure,h7,hw1]
        rw [if_neg (by simpa using hc)]
        simp only [Sem.run_bind,run_askRoom,Result.andThen_ok,abe hE,toNat_natCast]
        by_cases h0 : n * te.size = 0
        · rw [if_pos h0] at hzero ⊢
          subst hzero
          simp only [Sem.run_bind,Sem.run_pure,Result.andThen_ok,newRow,run_newObj]
        · rw [if_neg h0] at hzero ⊢
          subst hzero
          simp only [Sem.run_bind,Sem.run_pure,Result.andThen_ok,h5,newRow,run_newObj]
      simp only [execOp,hxv,Sem.run_bind,hmk,Result.andThen_ok,Sem.run_pure]
    · exact fun h => h
    · intro g S m' w' hg hS hm hw
      refine .vec hw ?_ (fun v hv => by rw [List.eq_of_mem_replicate hv]; exact hz1)
      apply List.ext_getElem?
      intro j
      rw [Array.getElem?_toList,List.getElem?_replicate]
      by_cases hj : j < n
      · have hpos : ¬ n * te.size = 0 := by rw [hs]; omega
        rw [if_neg hpos,hzc] at hzero
        subst hzero
        rw [if_pos hj]
        simp only [Array.getElem?_map,Array.getElem?_range,show j < n * te.size by rw [hs]; omega,if_true,Option.map_some,Option.some.injEq]
        simp [Nat.mod_one]
      · rw [if_neg hj,Array.getElem?_eq_none (by simp [hs]; omega)]
    · intro g S m' hm hS
      have := Rep.ms (g := g) (S := S) (m := m') (k := d) (sz := 1) (off := 0) (len := n) (cap := n) hm (le_refl _) (by simpa [hs] using hS)
      simpa using this
theorem aqg {x y : Operand} {k i : Nat} {vs : List Value} {v : Value} {T t : TypeId} {ti : TI} {pos : String} {after : Array Edge}
  (hx : Ev s x (.eptr k 1 i 0)) (hk : s.blk k = some (.vec vs)) (hi : i < vs.length) (hy : Ev s y (.v v)) (hv : v.oneCell' = true) (hT : aaf P T = some ti) (hsz : Nat.beq ti.size 1 = true) :
  Step P N R s ⟨none,.store T x y,t,pos,after,none⟩ ⟨none,[(k,some (.vec (vs.set i v)))],aaj x ++ aaj y,[k]⟩ :=
 ak0 rfl rfl (by simp) hk fun s' hag C m a w hr => by
  have hsz := eq_of_beq_eq_true hsz
  obtain ⟨b,hm,hxv⟩ := ajr hr (hx.agree hag (fun _ h => List.mem_append.2 (.inl h)))
  have hyv := alu hr (hy.agree hag (fun _ h => List.mem_append.2 (.inr h)))
  have hb := hr.heap.blk k _ ((hag.2 k (by simp)).trans hk)
  rw [hm] at hb
  cases hb with
  | @vec _ _ c t2 hw hc h1 =>
   have hcs : c.size = vs.length:=by rw [<- hc]; simp
   have hvc : v.cells = #[v]:=by cases v <;> simp_all [Value.cells,Value.oneCell']
   refine ⟨b,c,(over c.toList i v.cells.toList).toArray,t2,hm,hw,?_,?_,?_⟩
   ·simp [over,hvc]; omega
   ·have hrun := ahj (P := P) (off := i) (v := v) hT hw (by rw [hvc, hsz]; rfl) (by omega) (by rw [hvc]; simpa using hv)
    simp [execOp,Instr.storeAt,hxv,Instr.sureAddr,hyv,hrun]
   ·intro g S w' hg hS hw'
    refine .vec hw' ?_ (fun u hu => ?_)
    ·rw [hc, hvc]
     unfold over
     rw [List.set_eq_take_append_cons_drop,if_pos hi]
     simp
    ·rcases List.mem_or_eq_of_mem_set hu with h9 | h9
     ·exact h1 u h9
     ·rw [h9]; exact hv
inductive Lent (H : Hp) (hid : List Nat) : AV -> AV -> Prop
  | same {x : AV} (h : x.nm = []) : Lent H hid x x
  | ms {k off len : Nat} {vs : List Value} (hk : lk H k = some (.vec vs)) (hh : k ∉ hid) (hl : off + len <= vs.length) (hm : vs.length <= ack) : Lent H hid (.ms k 1 off len) (.lst 1 (((vs.drop off).take len).map .v))
theorem bf6 {g : Nat -> Array Value -> Prop} {S : Nat -> Nat -> Prop} {m : Nat -> Option Nat} {u y : Value} (h : Rep g S m u (.v y)) : u = y:=by cases h; rfl
theorem ap6 {m : Nat -> Option Nat} {b : Nat} : ¬ Own [] m b:=by rintro ⟨k,x,h,_⟩; cases h
def bcy (ext : Nat -> Prop) (H : Hp) (hid : List Nat) (m : Nat -> Option Nat) (b : Nat) : Prop := ext b \/ ∃ k z,k ∈ hid /\ lk H k = some z /\ m k = some b
theorem bco {ext : Nat -> Prop} {H : Hp} {hid : List Nat} {m m2 : Nat -> Option Nat} {w : World} {b : Nat} {cs : Array Value} (h : Im ext H m w b cs) : Im (bcy ext H hid m) [] m2 w b cs :=
 ⟨fun h' => h'.elim h.1 (fun ⟨k,z,_,hz,hb⟩ => h.2.1 ⟨k,z,hz,hb⟩),ap6,h.2.2⟩
theorem a0r {ext : Nat -> Prop} {H : Hp} {hid : List Nat} {m : Nat -> Option Nat} {w : World} (hh : HeapRel ext H m w) {k b : Nat} {z : Blk} (hk : lk H k = some z) (hb : m k = some b) (hn : k ∉ hid) : ¬ bcy ext H hid m b := by
 rintro (h | ⟨k',z',h1,h2,h3⟩)
 ·exact (hh.sep k z b hk hb).1 h
 ·have := hh.inj k k' z z' b hk h2 hb h3
  subst this; exact hn h1
theorem Lent.rep {ext : Nat -> Prop} {H : Hp} {hid : List Nat} {m : Nat -> Option Nat} {w : World} (hh : HeapRel ext H m w) {x x' : AV} (h : Lent H hid x x') :
  ∀ {v : Value},Rep (Im ext H m w) (Sz w) m v x -> ∀ m2 : Nat -> Option Nat,Rep (Im (bcy ext H hid m) [] m w) (Sz w) m2 v x' := by
 cases h with
 | same hn => intro v hv m2; exact (afk hn hv).mono (fun _ _ h => bco h) (fun _ _ h => h) (fun _ _ _ h => h)
 | @ms k off len vs hk hnh hl hm =>
  intro v hr m2
  have hb := hh.blk k _ hk
  cases hr with
  | ms0 a => simp only [List.take_zero]; exact .lst0 _ _ _
  | @ms _ _ _ _ _ cap b hmk hc hS =>
   rw [hmk] at hb
   cases hb with
   | @vec _ _ c t hw hcv h1 =>
    have hcs : c.size = vs.length:=by rw [<- hcv]; simp
    have hlen : (((vs.drop off).take len).map AV.v).length = len:=by rw [length_map,length_take,List.length_drop]; omega
    have he' : ∀ (i : Nat) (e : AV), (((vs.drop off).take len).map AV.v)[i]? = some e -> ∃ u, e = .v u /\ c[off + i]? = some u /\ u ∈ vs := by
     intro i e he
     rw [getElem?_map,map_eq_some_iff] at he
     obtain ⟨u,he,rfl⟩ := he
     rw [getElem?_take] at he
     split at he
     ·rw [getElem?_drop] at he
      exact ⟨u,rfl,by rw [<- Array.getElem?_toList,hcv]; exact he,mem_of_getElem? he⟩
     ·cases he
    have := Rep.lst (g := Im (bcy ext H hid m) [] m w) (S := Sz w) (m := m2) (b := b) (off := off) (cap := cap) (sz := 1) (es := ((vs.drop off).take len).map AV.v) (cs := c) (fun i j => c.getD (off + i) undef)
     ⟨a0r hh hk hmk hnh,ap6,t,(0,0),hw⟩ (by omega) (by omega) ?_ ?_ ?_ ?_
    ·rw [hlen] at this; simpa using this
    ·intro i e he
     obtain ⟨u,rfl,_⟩ := he' i e he; rfl
    ·intro i j e x he hx
     obtain ⟨u,rfl,_,hm⟩ := he' i e he
     cases j with
     | zero => cases hx; exact h1 u hm
     | succ j => cases hx
    ·intro i j e x he hx
     obtain ⟨u,rfl,hu,_⟩ := he' i e he
     cases j with
     | zero => rw [Nat.mul_one,Nat.add_zero,getD_eq_getD_getElem?,hu]; rfl
     | succ j => cases hx
    ·intro i j e x he hx
     obtain ⟨u,rfl,hu,_⟩ := he' i e he
     cases j with
     | zero => cases hx; rw [getD_eq_getD_getElem?,hu]; exact .v _
     | succ j => cases hx
def bdx : AV -> Bool
  | .v (.int _ _) => true
  | _ => false
def bfy : AV -> Bool
  | .v (.int _ _) => false
  | .v _ => true
  | .lst _ _ => true
  | .ms _ _ _ _ => true
  | _ => false
mutual
def AV.li : AV -> Bool
  | .v _ => true
  | .agg cs => AV.lis cs
  | .tup cs => AV.lis cs
  | .lst sz es => Nat.beq sz 1 && es.all bdx
  | _ => false
def AV.lis : List AV -> Bool
  | [] => true
  | x :: l => x.li && AV.lis l
end
theorem AV.lis_mem : ∀ {l : List AV} {c : AV}, AV.lis l = true -> c ∈ l -> c.li = true
 | x :: l, c, h, hc => by
  simp only [AV.lis,and_eq_true] at h
  rcases List.mem_cons.1 hc with rfl | hc
  ·exact h.1
  ·exact AV.lis_mem h.2 hc
theorem a23 {g : Nat -> Array Value -> Prop} {S : Nat -> Nat -> Prop} {m : Nat -> Option Nat} {u : Value} {x : AV} (hx : bfy x = true) (h : Rep g S m u x) (kk : IntKind) (z : Int) : u ≠ .int kk z := by
 rintro rfl
 cases h <;> cases hx
theorem beg {g g' : Nat -> Array Value -> Prop} {S S' : Nat -> Nat -> Prop} {m m' : Nat -> Option Nat} {v : Value} {x : AV} (hx : x.li = true)
  (hg : ∀ b cs (o : Nat) (kk : IntKind) (z : Int),cs[o]? = some (.int kk z) -> g b cs -> g' b cs) (h : Rep g S m v x) : Rep g' S' m' v x := by
 induction h with
 | v => exact .v _
 | agg hn h1 hr ih => exact .agg hn h1 (fun j u c hu hc => ih j u c hu hc (AV.lis_mem hx (mem_of_getElem? hc)))
 | tup hn hr ih => exact .tup hn (fun j u c hu hc => ih j u c hu hc (AV.lis_mem hx (mem_of_getElem? hc)))
 | lst0 a cap sz => exact .lst0 _ _ _
 | @lst _ b off cap sz es cs u hb hc hl hs h1 hu hr _ =>
  simp only [AV.li,and_eq_true] at hx
  have hsz := eq_of_beq_eq_true hx.1
  subst hsz
  match es,hx,hc,hl,hs,h1,hu,hr with
  | [],_,_,_,_,_,_,_ => exact .lst0 _ _ _
  | e :: es, hx, hc, hl, hs, h1, hu, hr =>
   have hcell : ∀ (i j : Nat) (e' c : AV), (e :: es)[i]? = some e' -> e'.cells[j]? = some c -> ∃ kk z, c = .v (.int kk z) := by
    intro i j e' c he hc'
    have h9 := List.all_eq_true.1 hx.2 e' (mem_of_getElem? he)
    cases e' with
    | v y => cases y with
     | int kk z =>
      cases j with
      | zero => cases hc'; exact ⟨_,_,rfl⟩
      | succ j => cases hc'
     | _ => cases h9
    | _ => cases h9
   have he0 : ∃ kk z, e = .v (.int kk z) := by
    have h9 := List.all_eq_true.1 hx.2 e (by simp)
    cases e with
    | v y => cases y with
     | int kk z => exact ⟨_,_,rfl⟩
     | _ => cases h9
    | _ => cases h9
   obtain ⟨kk,z,rfl⟩ := he0
   have h8 := hu 0 0 _ _ rfl rfl
   have h7 := hr 0 0 _ _ rfl rfl
   have h6 : u 0 0 = .int kk z := bf6 h7
   rw [h6] at h8
   refine .lst u (hg b cs _ kk z h8 hb) hc hl hs h1 hu (fun i j e' c he hc' => ?_)
   obtain ⟨k2,z2,rfl⟩ := hcell i j e' c he hc'
   rw [bf6 (hr i j _ _ he hc')]; exact .v _
 | _ => cases hx
theorem Con.lend {f : FuncId} {k : Nat} {cs : List AV} {cs' : Value -> List AV} {H : Hp} {r : AV} (hid : List Nat) (j0 : Nat) (hk : lk H k = some (.box cs)) (hkh : k ∉ hid)
  (hc : ∀ v : Value, v.oneCell' = true -> (cs' v).length = cs.length /\ (∀ (j : Nat) (x : AV), (cs' v)[j]? = some x -> x.one = true) /\
   ∀ (j : Nat) (x x' : AV),cs[j]? = some x -> (cs' v)[j]? = some x' -> (j = j0 /\ x' = .v v) \/ Lent H hid x x')
  (hj : j0 < cs.length)
  (hH : ∀ k z,lk H k = some z -> k ∈ hid \/ (∃ cs,z = .box cs /\ cs.all bfy = true) \/ ∃ vs,z = .vec vs /\ ∀ v ∈ vs,∀ kk z,v ≠ .int kk z) (hr : r.li = true) (h : ∀ v : Value,FnC P f [.iptr (cs' v)] r) : Con P f [.ptr k 0] H r H := by
 refine ⟨(h undef).ok,?_⟩
 intro ext m w vs hext hheap hvs hrep
 have hsz : 0 < vs.size:=by rw [hvs]; exact Nat.one_pos
 have hr0 := hrep 0 vs[0] _ (Array.getElem?_eq_getElem hsz) rfl
 have hb := hheap.blk k _ hk
 generalize hv0 : vs[0] = v0 at hr0
 cases hr0 with
 | @ptr _ _ _ b hmk =>
  rw [hmk] at hb
  cases hb with
  | @box _ _ c t hw hn h1 hrr =>
   have hj0 : j0 < c.size:=by omega
   have hx0 := getElem?_eq_getElem (l := cs) (i := j0) (by omega)
   have hone : (c[j0]).oneCell' = true := (hrr j0 _ _ (Array.getElem?_eq_getElem hj0) hx0).one (h1 j0 _ hx0)
   obtain ⟨g1,g2,g3⟩ := hc c[j0] hone
   have hext' : ∀ b, bcy ext H hid m b -> b < w.heap.size := by
    rintro b (h9 | ⟨k',z',_,h2,h3⟩)
    ·exact hext b h9
    ·exact (hheap.sep k' z' b h2 h3).2
   have hcall := (h c[j0]).ret (bcy ext H hid m) m w vs hext' ⟨fun k z hz => by (cases hz), fun k k' x x' b hx => by (cases hx), fun k x b hx => by (cases hx)⟩ (by rw [hvs]; rfl) (by
    intro j v x hv hx
    match j,hx with
    | 0, hx =>
     cases hx
     rw [Array.getElem?_eq_getElem hsz,hv0] at hv
     cases hv
     refine .iptr (cs := c) (fun j => c.getD j undef) ⟨a0r hheap hk hmk hkh,ap6,t,(0,0),hw⟩ g2 ?_ ?_
     ·intro j x hx
      have hlt : j < c.size:=by rw [hn,<- g1]; exact (List.getElem?_eq_some_iff.1 hx).1
      rw [Nat.zero_add,getD_eq_getD_getElem?,Array.getElem?_eq_getElem hlt]; rfl
     ·intro j x hx
      have hlt : j < c.size:=by rw [hn,<- g1]; exact (List.getElem?_eq_some_iff.1 hx).1
      obtain ⟨y,hy⟩ := aa7 g1 hx
      have hcv : c[j]? = some (c.getD j undef):=by rw [getD_eq_getD_getElem?,Array.getElem?_eq_getElem hlt]; rfl
      rcases g3 j y x hy hx with ⟨rfl,rfl⟩ | hl
      ·have : c.getD j undef = c[j] := by rw [Array.getElem?_eq_getElem hlt] at hcv; exact (Option.some.inj hcv).symm
       rw [this]; exact .v _
      ·exact hl.rep hheap (hrr j _ y hcv hy) ab4)
   refine Calls.mono hcall ?_
   rintro e w' ⟨v,m',rfl,hf,hh,hnew,hkeep,hres⟩
   have hkeepB : ∀ b,b < w.heap.size -> w'.heap[b]? = w.heap[b]? := fun b hb => hf.keep b hb ap6
   have hframe : Frame (Own H m) w w' := ⟨hf.os,hf.tape,hf.output,hf.size,hf.sz,fun b hb _ => hkeepB b hb⟩
   have him := ab3 (ext := ext) hframe (hp' := H) (m' := m) (fun k x b hk hb => .inl ⟨k,x,hk,hb⟩)
   refine ⟨v,m,rfl,hframe,⟨?_,hheap.inj,?_⟩,fun k x b hk hb => .inl ⟨k,x,hk,hb⟩,fun _ _ _ _ _ => rfl,?_⟩
   ·intro k z hz
    exact BlkRep.mono (w := w) him hf.sz (fun _ _ _ h => h) rfl (fun b hb => hkeepB b (hheap.sep k z b hz hb).2) (hheap.blk k z hz)
   ·intro k z b hz hb
    have := hheap.sep k z b hz hb
    exact ⟨this.1,lt_of_lt_of_le this.2 hf.size⟩
   ·refine beg hr ?_ hres
    rintro b2 cs2 o kk z ho ⟨g1,g2,t2,fl,g3⟩
    refine ⟨fun h9 => g1 (.inl h9),?_,t2,fl,g3⟩
    rintro ⟨k2,y,hk2,hb2⟩
    have hlt := fun b hb => (hheap.sep k2 _ b hk2 hb).2
    have h3 := hheap.blk k2 _ hk2
    rw [hb2] at h3
    rcases hH k2 y hk2 with h9 | ⟨cl,rfl,hcl⟩ | ⟨vs2,rfl,hvl⟩
    ·exact g1 (.inr ⟨k2,y,h9,hk2,hb2⟩)
    ·cases h3 with
     | @box _ _ c2 t' hw2 hn2 h12 hrr2 =>
      have hcc : c2 = cs2 := by
       rw [hkeepB b2 (hlt b2 hb2),hw2] at g3
       injection g3 with g3
       injection g3
      subst hcc
      have ho' : o < c2.size := (Array.getElem?_eq_some_iff.1 ho).1
      have hx := getElem?_eq_getElem (l := cl) (i := o) (by omega)
      exact a23 (List.all_eq_true.1 hcl _ (mem_of_getElem? hx)) (hrr2 o _ _ ho hx) kk z rfl
    ·cases h3 with
     | @vec _ _ c2 t' hw2 hc2 h12 =>
      have hcc : c2 = cs2 := by
       rw [hkeepB b2 (hlt b2 hb2),hw2] at g3
       injection g3 with g3
       injection g3
      subst hcc
      have : Value.int kk z ∈ vs2:=by rw [<- hc2]; exact Array.mem_toList_iff.2 (Array.mem_of_getElem? ho)
      exact hvl _ this kk z rfl
end Go.Lw
namespace Go.Lw
open Go.Proofs
def bv (xs : List Bool) : List Value := xs.map .bool
theorem ae2 (xs : List Bool) : (bv xs).length = xs.length := length_map _
theorem aye (xs : List Bool) (n : Nat) : (bv xs).set n (.bool true) = bv (xs.set n true):=by unfold bv; rw [map_set]
theorem bbr (xs : List Bool) : ∀ v ∈ bv xs, ∀ kk z, v ≠ .int kk z := by
 intro v hv kk z
 obtain ⟨b,_,rfl⟩ := List.mem_map.1 hv
 exact fun h => by cases h
theorem a6u (xs : List Bool) : (bv xs).map AV.v = xs.map bl:=by unfold bv; rw [map_map]; rfl
theorem a3h (n : Nat) : List.replicate n (Value.bool false) = bv (List.replicate n false):=by unfold bv; rw [map_replicate]
theorem bbh (xs : List Int) : (xs.map i64).all bdx = true := by
 rw [all_eq_true]
 intro x hx
 obtain ⟨b,_,rfl⟩ := List.mem_map.1 hx
 rfl
theorem bh9 (g : Gr) (b : Bool) : (AV.tup [g.av, bl b]).li = true := by
 simp only [AV.li,AV.lis,Gr.av,bbh]
 rfl
def fdB (l : Li) (n : Nat) : Blk := .box (l.av.cells ++ [.ms 23 1 0 l.bodies.length,.ms 27 1 0 l.bodies.length,.ms 31 1 0 l.joints.length,.ms 900 4 0 n])
def fdH (l : Li) (known used : List Bool) (out : List Gr) : Hp :=
  [(33,some (fdB l out.length)),(23,some (.vec (bv known))),(27,some (.vec (bv (aat l)))),(31,some (.vec (bv used))),(900,some (.row 4 (out.map Gr.av)))]
theorem a12 {xs : List Bool} {n : Nat} (h : xs.length = n) : AV.lst 1 ((((bv xs).drop 0).take n).map .v) = .lst 1 (xs.map bl) := by
 rw [drop_zero,take_of_length_le (by rw [ae2]; omega),a6u]
theorem aml (l : Li) (hl : l.ok) (hli : liE l = 0) (known used : List Bool) (hk : known.length = l.bodies.length) (hu : used.length = l.joints.length) (hm : l.bodies.length <= ack /\ l.joints.length <= ack) (out : List Gr) :
  Con prog 348 [.ptr 33 0] (fdH l known used out) (.tup [((nextG l known).getD default).av,bl (nextG l known).isSome]) (fdH l known used out) := by
 refine Con.lend (cs := l.av.cells ++ [.ms 23 1 0 l.bodies.length, .ms 27 1 0 l.bodies.length, .ms 31 1 0 l.joints.length, .ms 900 4 0 out.length])
  (cs' := fun v => fdC l known (aat l) [.lst 1 (used.map bl),.v v]) [900] 7 rfl (by decide) ?_ (by simp [Li.av,AV.cells]) ?_ (bh9 _ _) (fun v => a7h l hl hli known hk _)
 ·intro v hv
  refine ⟨rfl,?_,?_⟩
  ·intro j x hx
   match j,hx with
   | 0,hx => cases hx; rfl
   | 1,hx => cases hx; rfl
   | 2,hx => cases hx; rfl
   | 3,hx => cases hx; rfl
   | 4,hx => cases hx; rfl
   | 5,hx => cases hx; rfl
   | 6,hx => cases hx; rfl
   | 7,hx => cases hx; exact hv
   | j + 8,hx => cases hx
  ·intro j x x' hx hx'
   match j,hx,hx' with
   | 0,hx,hx' => cases hx; cases hx'; exact .inr (.same rfl)
   | 1,hx,hx' => cases hx; cases hx'; exact .inr (.same rfl)
   | 2,hx,hx' => cases hx; cases hx'; exact .inr (.same rfl)
   | 3,hx,hx' => cases hx; cases hx'; exact .inr (.same rfl)
   | 4, hx, hx' =>
    cases hx; cases hx'
    have h := Lent.ms (H := fdH l known used out) (hid := [900]) (k := 23) (off := 0) (len := l.bodies.length) (vs := bv known) rfl (by decide) (by rw [ae2]; omega) (by rw [ae2]; omega)
    rw [a12 hk] at h
    exact .inr h
   | 5, hx, hx' =>
    cases hx; cases hx'
    have h := Lent.ms (H := fdH l known used out) (hid := [900]) (k := 27) (off := 0) (len := l.bodies.length) (vs := bv (aat l)) rfl (by decide) (by rw [ae2,af4]; omega) (by rw [ae2,af4]; omega)
    rw [a12 (af4 l)] at h
    exact .inr h
   | 6, hx, hx' =>
    cases hx; cases hx'
    have h := Lent.ms (H := fdH l known used out) (hid := [900]) (k := 31) (off := 0) (len := l.joints.length) (vs := bv used) rfl (by decide) (by rw [ae2]; omega) (by rw [ae2]; omega)
    rw [a12 hu] at h
    exact .inr h
   | 7,hx,hx' => cases hx; cases hx'; exact .inl ⟨rfl,rfl⟩
   | j + 8,hx,hx' => cases hx
 ·intro k z hz
  simp only [fdH,aac] at hz
  split at hz
  ·cases hz; exact .inr (.inl ⟨_,rfl,rfl⟩)
  split at hz
  ·cases hz; exact .inr (.inr ⟨_,rfl,bbr _⟩)
  split at hz
  ·cases hz; exact .inr (.inr ⟨_,rfl,bbr _⟩)
  split at hz
  ·cases hz; exact .inr (.inr ⟨_,rfl,bbr _⟩)
  split at hz
  ·subst_vars; exact .inl (by decide)
  ·cases hz
def fdR (l : Li) : AV := if liE l = 0 then .iptr (fdC l (ac2 l) (aat l) [.lst 1 ((afn l).map bl),.lst 4 ((findG l).map Gr.av)]) else .v (.pointer none)
def ak1 (l : Li) (out : List Gr) : List Bool := out.foldl (fun k g => aao k g.joints) (List.replicate l.joints.length false)
theorem ark (l : Li) (out : List Gr) : (ak1 l out).length = l.joints.length:=by unfold ak1; rw [aia,List.length_replicate]
theorem a7d (l : Li) (out : List Gr) (g : Gr) : ak1 l (out ++ [g]) = aao (ak1 l out) g.joints:=by unfold ak1; rw [List.foldl_append]; rfl
theorem aoe {k : List Bool} {bs : List Int} {i : Nat} {b : Int} (h : bs[i]? = some b) : aao k (bs.take (i + 1)) = (aao k (bs.take i)).set b.toNat true := by
 unfold aao
 rw [aax h,List.foldl_append]; rfl
theorem a2j {l : Li} (hli : liE l = 0) {known : List Bool} {out : List Gr} {g : Gr} (hk : known.length = l.bodies.length) (h : findFrom l (unk known) known out = (ac2 l, findG l)) (hg : nextG l known = some g) :
  findFrom l (unk (aao known g.bodies)) (aao known g.bodies) (out ++ [g]) = (ac2 l,findG l) := by
 have hlt := agd hli hk hg
 obtain ⟨n,hn⟩ : ∃ n,unk known = n + 1 := ⟨unk known - 1,by omega⟩
 rw [hn] at h
 unfold findFrom at h
 rw [hg] at h
 rw [<- h]
 exact agr hli _ _ _ _ (by rw [aer]; exact hk) (le_refl _) (by omega)
theorem a6c {l : Li} {known : List Bool} {out : List Gr} (h : findFrom l (unk known) known out = (ac2 l, findG l)) (hg : nextG l known = none) : known = ac2 l /\ out = findG l := by
 cases hn : unk known with
 | zero => rw [hn] at h; exact ⟨(Prod.mk.inj h).1,(Prod.mk.inj h).2⟩
 | succ n => rw [hn] at h; unfold findFrom at h; rw [hg] at h; exact ⟨(Prod.mk.inj h).1,(Prod.mk.inj h).2⟩
theorem a7m {n : Nat} : unk (adv n 0) <= n := by
 unfold unk
 exact le_trans List.countP_le_length (Nat.le_of_eq (adh _ _))
theorem azf {l : Li} (hli : liE l = 0) : findFrom l (unk (adv l.bodies.length 0)) (adv l.bodies.length 0) [] = (ac2 l, findG l) := by
 rw [<- ayq]
 exact agr hli _ _ _ _ (adh _ _) (le_refl _) a7m
theorem bfk {l : Li} (hli : liE l = 0) {known : List Bool} {out : List Gr} (hk : known.length = l.bodies.length) (h : findFrom l (unk known) known out = (ac2 l, findG l)) : out.length <= 8 := by
 obtain ⟨gs,e⟩ := af2 (l := l) (unk known) known out
 rw [e] at h
 have h1 := (akb hli).2
 have h2 : out ++ gs = findG l := (Prod.mk.inj h).2
 rw [<- h2,length_append] at h1; omega
theorem a0u (l : Li) (known used : List Bool) (out : List Gr) (hk : known.length = l.bodies.length) (hu : used.length = l.joints.length) (hm : l.bodies.length <= ack /\ l.joints.length <= ack) :
  Wk ⟨[(5,some (.ptr 33 0))],fdH l known used out⟩ ⟨[(5,some (.iptr (fdC l known (aat l) [.lst 1 (used.map bl),.lst 4 (out.map Gr.av)])))],[]⟩ := by
 have hd := af4 l
 have q1 : .ms 23 1 0 l.bodies.length = AV.ms 23 1 0 ((bv known).map AV.v).length:=by rw [length_map,ae2,hk]
 refine (Wk.of (sl := [(5, some (.ptr 33 0))]) (hp := [(33, some (fdB l out.length)), (23, some (.row 1 ((bv known).map .v))), (27, some (.row 1 ((bv (aat l)).map .v))), (31, some (.row 1 ((bv used).map .v))), (900, some (.row 4 (out.map Gr.av)))])
  (.k .nil) (.cons rfl (.refl _) (.cons rfl (.vecRow (by rw [ae2]; omega)) (.cons rfl (.vecRow (by rw [ae2]; omega)) (.cons rfl (.vecRow (by rw [ae2]; omega)) (.cons rfl (.refl _) .nil)))))).trans ?_
 refine (Wk.freeze (k := 23) rfl).trans ?_
 refine (Wk.of (sl := [(5, some (.ptr 33 0))]) (hp := [(33, some (.box (l.av.cells ++ [.lst 1 (known.map bl), .ms 27 1 0 l.bodies.length, .ms 31 1 0 l.joints.length, .ms 900 4 0 out.length]))), (27, some (.row 1 ((bv (aat l)).map .v))), (31, some (.row 1 ((bv used).map .v))), (900, some (.row 4 (out.map Gr.av)))])
  (.k .nil) (.cons rfl (BlkSub.boxL (.cons (.refl _) (.cons (.refl _) (.cons (.refl _) (.cons (.refl _) (.cons (.of ((abw (by rw [length_map,ae2,hk])).trans (by rw [a6u]))) (.cons (.refl _) (.cons (.refl _) (.cons (.refl _) .nil)))))))) rfl) (.cons rfl (.refl _) (.cons rfl (.refl _) (.cons rfl (.refl _) .nil))))).trans ?_
 refine (Wk.freeze (k := 27) rfl).trans ?_
 refine (Wk.of (sl := [(5, some (.ptr 33 0))]) (hp := [(33, some (.box (l.av.cells ++ [.lst 1 (known.map bl), .lst 1 ((aat l).map bl), .ms 31 1 0 l.joints.length, .ms 900 4 0 out.length]))), (31, some (.row 1 ((bv used).map .v))), (900, some (.row 4 (out.map Gr.av)))])
  (.k .nil) (.cons rfl (BlkSub.boxL (.cons (.refl _) (.cons (.refl _) (.cons (.refl _) (.cons (.refl _) (.cons (.refl _) (.cons (.of ((abw (by rw [length_map,ae2,hd])).trans (by rw [a6u]))) (.cons (.refl _) (.cons (.refl _) .nil)))))))) rfl) (.cons rfl (.refl _) (.cons rfl (.refl _) .nil)))).trans ?_
 refine (Wk.freeze (k := 31) rfl).trans ?_
 refine (Wk.of (sl := [(5, some (.ptr 33 0))]) (hp := [(33, some (.box (l.av.cells ++ [.lst 1 (known.map bl), .lst 1 ((aat l).map bl), .lst 1 (used.map bl), .ms 900 4 0 out.length]))), (900, some (.row 4 (out.map Gr.av)))])
  (.k .nil) (.cons rfl (BlkSub.boxL (.cons (.refl _) (.cons (.refl _) (.cons (.refl _) (.cons (.refl _) (.cons (.refl _) (.cons (.refl _) (.cons (.of ((abw (by rw [length_map,ae2,hu])).trans (by rw [a6u]))) (.cons (.refl _) .nil)))))))) rfl) (.cons rfl (.refl _) .nil))).trans ?_
 refine (Wk.freeze (k := 900) rfl).trans ?_
 refine (Wk.of (sl := [(5, some (.ptr 33 0))]) (hp := [(33, some (.box (fdC l known (aat l) [.lst 1 (used.map bl), .lst 4 (out.map Gr.av)])))])
  (.k .nil) (.cons rfl (BlkSub.boxL (.cons (.refl _) (.cons (.refl _) (.cons (.refl _) (.cons (.refl _) (.cons (.refl _) (.cons (.refl _) (.cons (.refl _) (.cons (.of (abw (by rw [length_map]))) .nil)))))))) rfl) .nil)).trans ?_
 refine (Wk.freezeB (k := 33) rfl rfl).trans ?_
 exact Wk.of (.k .nil) .nil
theorem a6i (l : Li) (hl : l.ok) : FnC prog 260 [l.av] (.tup [fdR l, ain (liE l)]) := by
 refine gF0 func260 ?_
 refine gc (ag6 l hl) ?_
 refine gC (fun ht17 => ?_) (fun ht17 => ?_)
 ·have h1 := aec ht17
  refine gE2 ?_
  unfold fdR; rw [if_neg h1]
 ·have hli := aee ht17
  have h8 := (abr hli).2.2.2.1
  have h0 := (abr hli).2.2.2.2
  have hj16 : l.joints.length <= 16:=by have := (abr hli).2.1; unfold akr at this; split at this; cases this; omega
  have hld := hl.ld
  have hm : l.bodies.length <= ack /\ l.joints.length <= ack:=by unfold ack; omega
  refine gl ?_
  refine gs (au6 (.tmp rfl) T162 rfl T4 rfl rfl rfl rfl (by dsimp only; omega) rfl) ?_
  refine gl ?_
  refine gs (au6 (.tmp rfl) T162 rfl T4 rfl rfl rfl rfl (by dsimp only; omega) rfl) ?_
  refine gl ?_
  refine gs (au6 (.tmp rfl) T162 rfl T4 rfl rfl rfl rfl (by dsimp only; omega) rfl) ?_
  refine gD ?_
  refine gs (aaq (n := 0) (.tmp rfl) (.const _) T162 rfl T4 rfl rfl (by omega) rfl) ?_
  refine gs (aqg (.tmp rfl) rfl (by rw [List.length_replicate]; omega) (.const _) rfl T4 rfl) ?_ (6,0)
  refine gW (Wk.of (sl := [(1,some (.ptr 1 0)),(5,some (.ptr 33 0))]) (hp := [(1,some (.box l.av.cells)),(33,some (.box (l.av.cells ++ [.ms 23 1 0 l.bodies.length,.ms 27 1 0 l.bodies.length,.ms 31 1 0 l.joints.length,.v (.slice none 0 0)]))),(23,some (.vec (bv (adv l.bodies.length 0)))),(27,some (.vec (bv (List.replicate l.bodies.length false)))),(31,some (.vec (bv (List.replicate l.joints.length false))))]) abq (.cons rfl (.refl _) (.cons rfl (.refl _) (.cons rfl (BlkSub.of (by rw [a3h,aye]; rfl)) (.cons rfl (BlkSub.of (by rw [a3h])) (.cons rfl (BlkSub.of (by rw [a3h])) .nil)))))) ?_
  refine gl ?_
  refine gL1 [1,5,40,41] [1,23,31] (fun (i : Nat) => [(42,some (i64 i))]) (fun i => [(33,some (.box (l.av.cells ++ [.ms 23 1 0 l.bodies.length,.ms 27 1 0 l.bodies.length,.ms 31 1 0 l.joints.length,.v (.slice none 0 0)]))),(27,some (.vec (bv (aao (List.replicate l.bodies.length false) ((l.drivers.map Dr.body).take i)))))]) (fun i => i <= l.drivers.length) (fun i => l.drivers.length - i) 0 (zero_le _) ?_
  rintro i hi K1 hK1
  refine gC (fun ht43 => ?_) (fun ht43 => ?_) (st2 := (11,0))
  ·have hin := abb ht43
   obtain ⟨d,hd⟩ := ab6 hin
   have hb := aim (ayo hli hd)
   have hmt := aoe (k := List.replicate l.bodies.length false) (bs := l.drivers.map Dr.body) (i := i) (b := d.body) (by rw [getElem?_map,hd]; rfl)
   refine gi (aae hd) ?_
   refine gs (aaq (n := d.body.toNat) (.tmp rfl) (.tmp rfl) T162 rfl T4 rfl (by omega) (by omega) rfl) ?_
   refine gs (aqg (.tmp rfl) rfl (by rw [ae2,aer,List.length_replicate]; omega) (.const _) rfl T4 rfl) ?_
   refine gD ?_
   refine ga aas ?_
   exact gK1 hK1 (i + 1) hin (hw := Wk.of abq (.cons rfl (.refl _) (.cons rfl (BlkSub.of (by rw [aye,hmt])) (.cons rfl (.refl _) (.cons rfl (.refl _) (.cons rfl (.refl _) .nil))))))
  ·have hin := aal hi ht43
   have hall : aao (List.replicate l.bodies.length false) ((l.drivers.map Dr.body).take i) = aat l:=by rw [hin]; unfold aat; rw [take_of_length_le (by rw [length_map]; omega)]
   refine gW ((Wk.virt 900 4 rfl).trans <| Wk.of (sl := [(1,some (.ptr 1 0)),(5,some (.ptr 33 0))]) (hp := [(33,some (fdB l 0)),(23,some (.vec (bv (adv l.bodies.length 0)))),(27,some (.vec (bv (aat l)))),(31,some (.vec (bv (List.replicate l.joints.length false)))),(900,some (.row 4 []))]) abq (.cons rfl (BlkSub.boxL (.cons (.refl _) (.cons (.refl _) (.cons (.refl _) (.cons (.refl _) (.cons (.refl _) (.cons (.refl _) (.cons (.refl _) (.cons (Sub.nilMs _ _ _) .nil)))))))) rfl) (.cons rfl (.refl _) (.cons rfl (BlkSub.of (by rw [hall])) (.cons rfl (.refl _) (.cons rfl (.refl _) .nil)))))) ?_
   refine gt (aa9 (aml l hl hli (adv l.bodies.length 0) (List.replicate l.joints.length false) (adh _ _) List.length_replicate hm []) (.cons (.tmp rfl) .nil) (fun k z h => h) rfl rfl) ?_
   refine gL2 [5,8] [] (fun (known : List Bool) (out : List Gr) => [(9,some (bl (nextG l known).isSome))]) (fun known out => [(8,some (.box ((nextG l known).getD default).av.cells)),(33,some (fdB l out.length)),(23,some (.vec (bv known))),(27,some (.vec (bv (aat l)))),(31,some (.vec (bv (ak1 l out)))),(900,some (.row 4 (out.map Gr.av)))]) (fun known out => known.length = l.bodies.length /\ findFrom l (unk known) known out = (ac2 l,findG l)) (fun known _ => unk known) (adv l.bodies.length 0) ([]) ⟨adh _ _,azf hli⟩ ?_
   rintro known out ⟨hk,hf⟩ K2 hK2
   refine gC (fun ht59 => ?_) (fun ht59 => ?_) (st1 := (77777,0)) (st2 := (27,0))
   ·obtain ⟨g, hg⟩ := au2 ht59
    have hgo := ap8 hli hg
    have hout := bfk hli hk hf
    refine gW (Wk.of (sl := [(5,some (.ptr 33 0)),(8,some (.ptr 8 0))]) (hp := [(8,some (.box g.av.cells)),(33,some (fdB l out.length)),(23,some (.vec (bv known))),(27,some (.vec (bv (aat l)))),(31,some (.vec (bv (ak1 l out)))),(900,some (.row 4 (out.map Gr.av)))]) abq (.cons rfl (BlkSub.of (by rw [hg]; rfl)) (.cons rfl (.refl _) (.cons rfl (.refl _) (.cons rfl (.refl _) (.cons rfl (.refl _) (.cons rfl (.refl _) .nil))))))) ?_
    refine gl ?_
    refine gL1 [5,8,66,67] [8,33,27,31,900] (fun (j : Nat) => [(68,some (i64 j))]) (fun j => [(23,some (.vec (bv (aao known (g.bodies.take j)))))]) (fun j => j <= g.bodies.length) (fun j => g.bodies.length - j) 0 (zero_le _) ?_
    rintro j hj K3 hK3
    refine gC (fun ht69 => ?_) (fun ht69 => ?_)
    ·have hin := abb ht69
     obtain ⟨b,hb⟩ := ab6 hin
     have hbb := hgo.b b (mem_of_getElem? hb)
     have hlb := hgo.lb
     refine gi (aae hb) ?_
     refine gs (aaq (n := b.toNat) (.tmp rfl) (.tmp rfl) T162 rfl T4 rfl (by omega) (by omega) rfl) ?_
     refine gs (aqg (.tmp rfl) rfl (by rw [ae2,aer]; omega) (.const _) rfl T4 rfl) ?_
     refine ga aas ?_
     exact gK1 hK3 (j + 1) hin (hw := Wk.of abq (.cons rfl (BlkSub.of (by rw [aye,aoe hb])) (.cons rfl (.refl _) (.cons rfl (.refl _) (.cons rfl (.refl _) (.cons rfl (.refl _) (.cons rfl (.refl _) .nil)))))))
    ·have hin := aal hj ht69
     subst hin
     refine gl ?_
     refine gL1 [5,8,80,81] [8,33,27,900] (fun (q : Nat) => [(82,some (i64 q))]) (fun q => [(23,some (.vec (bv (aao known g.bodies)))),(31,some (.vec (bv (aao (ak1 l out) (g.joints.take q)))))]) (fun q => q <= g.joints.length) (fun q => g.joints.length - q) 0 (zero_le _) ?_ (h2 := (.cons rfl (BlkSub.of (by rw [take_length])) (.cons rfl (.refl _) .nil)))
     rintro q hq K4 hK4
     refine gC (fun ht83 => ?_) (fun ht83 => ?_)
     ·have hin := abb ht83
      obtain ⟨b,hb⟩ := ab6 hin
      have hbb := hgo.j b (mem_of_getElem? hb)
      have hlj := hgo.lj
      refine gi (aae hb) ?_
      refine gs (aaq (n := b.toNat) (.tmp rfl) (.tmp rfl) T162 rfl T4 rfl (by omega) (by omega) rfl) ?_
      refine gs (aqg (.tmp rfl) rfl (by rw [ae2,aer,ark]; omega) (.const _) rfl T4 rfl) ?_
      refine ga aas ?_
      exact gK1 hK4 (q + 1) hin (hw := Wk.of abq (.cons rfl (.refl _) (.cons rfl (BlkSub.of (by rw [aye,aoe hb])) (.cons rfl (.refl _) (.cons rfl (.refl _) (.cons rfl (.refl _) (.cons rfl (.refl _) .nil)))))))
     ·have hin := aal hq ht83
      subst hin
      refine gs (abh (.tmp rfl) rfl (by rw [length_map]) (.tmp rfl) T86 rfl T129 rfl rfl (by simp only [length_cons,length_nil]; omega) rfl rfl) ?_
      refine gD ?_ (25,0)
      refine gW (Wk.of (sl := [(5,some (.ptr 33 0)),(8,some (.ptr 8 0))]) (hp := [(8,some (.box g.av.cells)),(33,some (.box (l.av.cells ++ [.ms 23 1 0 l.bodies.length,.ms 27 1 0 l.bodies.length,.ms 31 1 0 l.joints.length,.ms 100 4 0 (out ++ [g]).length]))),(100,some (.row 4 ((out ++ [g]).map Gr.av))),(23,some (.vec (bv (aao known g.bodies)))),(27,some (.vec (bv (aat l)))),(31,some (.vec (bv (ak1 l (out ++ [g])))))]) abq (.cons rfl (.refl _) (.cons rfl (BlkSub.of (by rw [length_append]; rfl)) (.cons rfl (BlkSub.of (by rw [map_append]; rfl)) (.cons rfl (.refl _) (.cons rfl (.refl _) (.cons rfl (BlkSub.of (by rw [a7d,take_length])) .nil))))))) ?_ (25,0)
      refine gW (Wk.rekey (k := 100) (d := 900) rfl rfl) ?_ (26,0)
      refine gW (Wk.o (sl := [(5,some (.ptr 33 0)),(103,some (g.av))]) (hp := [(33,some (fdB l (out ++ [g]).length)),(23,some (.vec (bv (aao known g.bodies)))),(27,some (.vec (bv (aat l)))),(31,some (.vec (bv (ak1 l (out ++ [g]))))),(900,some (.row 4 ((out ++ [g]).map Gr.av)))])) ?_
      refine gt (aa9 (aml l hl hli (aao known g.bodies) (ak1 l (out ++ [g])) (by rw [aer]; exact hk) (ark _ _) hm (out ++ [g])) (.cons (.tmp rfl) .nil) (by intro k z h; simp only [fdH,aac] at h; split at h; (subst_vars; exact h); split at h; (subst_vars; exact h); split at h; (subst_vars; exact h); split at h; (subst_vars; exact h); split at h; (subst_vars; exact h); cases h) rfl rfl) ?_
      exact gK2 hK2 (aao known g.bodies) (out ++ [g]) ⟨by rw [aer]; exact hk,a2j hli hk hf hg⟩ (agd hli hk hg)
   ·have hg := auo ht59
    obtain ⟨e1,e2⟩ := a6c hf hg
    subst e1 e2
    refine gW (Wk.o (sl := [(5,some (.ptr 33 0))]) (hp := [(33,some (fdB l (findG l).length)),(23,some (.vec (bv (ac2 l)))),(27,some (.vec (bv (aat l)))),(31,some (.vec (bv (ak1 l (findG l))))),(900,some (.row 4 ((findG l).map Gr.av)))])) ?_ (27,0)
    refine gW (a0u l (ac2 l) (ak1 l (findG l)) (findG l) hk (ark _ _) hm) ?_
    refine gE2 ?_
    unfold fdR; rw [if_pos hli,hli]; rfl
end Go.Lw
namespace Go.Lw
open Go.Proofs
theorem a86 {α : Type} [BEq α] [LawfulBEq α] {xs : List α} {b : α} {ok : Nat -> Bool} (h : ∀ i x, xs[i]? = some x -> ok i = !(b == x)) : decide (0 <= ixI (ac1 xs.length ok)) = xs.contains b := by
 cases hf : ac1 xs.length ok with
 | some i =>
  obtain ⟨h1,h2⟩ := abm hf
  obtain ⟨x,hx⟩ := ab6 h1
  rw [h i x hx] at h2
  have : b = x:=by simpa using h2
  subst this
  rw [List.contains_iff_mem.2 (mem_of_getElem? hx)]
  exact decide_eq_true (by show (0 : Int) <= (i : Int); omega)
 | none =>
  rw [decide_eq_false (by show ¬ (0 : Int) <= -1; decide)]
  symm
  rw [<- Bool.not_eq_true,List.contains_iff_mem]
  intro hm
  obtain ⟨i,hi⟩ := List.mem_iff_getElem?.1 hm
  have hlt := (List.getElem?_eq_some_iff.1 hi).1
  unfold ac1 at hf
  rw [List.find?_eq_none] at hf
  have := hf i (List.mem_range.2 hlt)
  rw [h i b hi] at this
  simp at this
theorem ata (xs : List Bool) (b : Bool) (hl : xs.length <= 281474976710656) : FnC prog 349 [.lst 1 (xs.map bl), bl b] (i64 (ixI (ac1 xs.length (fun i => !(b == xs.getD i false))))) := by
 refine gF0 func349 ?_
 refine gl ?_
 refine gL1 [0,1,7] [] (fun (i : Nat) => [(8,some (i64 i))]) (fun _ => []) (fun i => i <= xs.length /\ ∀ j,j < i -> (!(b == xs.getD j false)) = true) (fun i => xs.length - i) 0 ⟨zero_le _,fun j h => by omega⟩ ?_
 rintro i ⟨hi,hj⟩ K1 hK1
 refine gC (fun ht9 => ?_) (fun ht9 => ?_)
 ·have hin := abb ht9
  obtain ⟨x,hx⟩ := ab6 hin
  have hg : xs.getD i false = x := aar hx
  refine gi (aae hx) ?_
  refine gC (fun ht16 => ?_) (fun ht16 => ?_)
  ·have h2 : (b == x) = true := ht16
   refine gE1 ?_
   rw [acu hin hj (by rw [hg,h2]; rfl)]; rfl
  ·have h2 : (b == x) = false := ht16
   refine ga aas ?_
   exact gK1 hK1 (i + 1) ⟨hin,fun j h9 => by rcases lt_or_ge j i with g | g; exact hj j g; (have : j = i:=by omega); subst this; rw [hg,h2]; rfl⟩
 ·have hin := aal hi ht9
  subst hin
  refine gE1 ?_
  rw [ab7 hj]; rfl
theorem ahn (xs : List Bool) (b : Bool) (hl : xs.length <= 281474976710656) : FnC prog 261 [.lst 1 (xs.map bl), bl b] (bl (xs.contains b)) := by
 refine gF0 func261 ?_
 refine gc (ata xs b hl) ?_
 refine gE1 ?_
 rw [<- a86 (xs := xs) (b := b) (ok := fun i => !(b == xs.getD i false)) (fun i x hx => by rw [aar hx])]; rfl
theorem aua (xs : List Int) (b : Int) (hl : xs.length <= 281474976710656) : FnC prog 352 [.lst 1 (xs.map i64), i64 b] (i64 (ixI (ac1 xs.length (fun i => !(b == xs.getD i 0))))) := by
 refine gF0 func352 ?_
 refine gl ?_
 refine gL1 [0,1,7] [] (fun (i : Nat) => [(8,some (i64 i))]) (fun _ => []) (fun i => i <= xs.length /\ ∀ j,j < i -> (!(b == xs.getD j 0)) = true) (fun i => xs.length - i) 0 ⟨zero_le _,fun j h => by omega⟩ ?_
 rintro i ⟨hi,hj⟩ K1 hK1
 refine gC (fun ht9 => ?_) (fun ht9 => ?_)
 ·have hin := abb ht9
  obtain ⟨x,hx⟩ := ab6 hin
  have hg : xs.getD i 0 = x := aar hx
  refine gi (aae hx) ?_
  refine gC (fun ht16 => ?_) (fun ht16 => ?_)
  ·have h2 : (b == x) = true := ht16
   refine gE1 ?_
   rw [acu hin hj (by rw [hg,h2]; rfl)]; rfl
  ·have h2 : (b == x) = false := ht16
   refine ga aas ?_
   exact gK1 hK1 (i + 1) ⟨hin,fun j h9 => by rcases lt_or_ge j i with g | g; exact hj j g; (have : j = i:=by omega); subst this; rw [hg,h2]; rfl⟩
 ·have hin := aal hi ht9
  subst hin
  refine gE1 ?_
  rw [ab7 hj]; rfl
theorem ai4 (xs : List Int) (b : Int) (hl : xs.length <= 281474976710656) : FnC prog 264 [.lst 1 (xs.map i64), i64 b] (bl (xs.contains b)) := by
 refine gF0 func264 ?_
 refine gc (aua xs b hl) ?_
 refine gE1 ?_
 rw [<- a86 (xs := xs) (b := b) (ok := fun i => !(b == xs.getD i 0)) (fun i x hx => by rw [aar hx])]; rfl
theorem a4j (l : Li) (hl : l.ok) : FnC prog 144 [l.av] (.tup [.lst 4 (((if liE l = 0 then splitG l else [])).map Gr.av), ain (if liE l = 0 then splitE l else liE l)]) := by
 refine gF0 func144 ?_
 refine gc (a6i l hl) (hnm := (by unfold fdR; split <;> rfl)) ?_
 refine gC (fun ht12 => ?_) (fun ht12 => ?_) (st2 := (77777,0))
 ·have h1 := aec ht12
  refine gR ?_
  exact ae5 (by rw [if_neg h1,if_neg h1]; exact Sub.tup (.cons (.nil _ _ _) (.cons (.refl _) .nil)))
 ·have hli := aee ht12
  have h8 := (abr hli).2.2.2.1
  have hj16 : l.joints.length <= 16:=by have := (abr hli).2.1; unfold akr at this; split at this; cases this; omega
  have lk1 : (ac2 l).length = l.bodies.length:=by unfold ac2; rw [aia,adh]
  have lk2 : (afn l).length = l.joints.length:=by unfold afn; rw [aia,List.length_replicate]
  have e1 : fdR l = .iptr (fdC l (ac2 l) (aat l) [.lst 1 ((afn l).map bl),.lst 4 ((findG l).map Gr.av)]):=by unfold fdR; rw [if_pos hli]
  have c1 := ax4 (k := ac2 l)
  have c2 := ax4 (k := afn l)
  refine gW (Wk.of (sl := [(4,some (.iptr (fdC l (ac2 l) (aat l) [.lst 1 ((afn l).map bl),.lst 4 ((findG l).map Gr.av)]))),(5,some (ain (liE l)))]) (hp := []) (.cons rfl (Sub.of e1) (.k .nil)) .nil) ?_
  refine gc (ahn (ac2 l) false (by omega)) ?_
  refine gcG (fun _ => (ahn (afn l) false (by omega))) ?_
  refine gC (fun ht25 => ?_) (fun ht25 => ?_)
  ·have h2 : splitE l = 7 := by
    unfold splitE
    rw [if_neg]
    intro h
    have h3 : (ac2 l).contains false = false := c1.1 (by omega)
    have h4 : (afn l).contains false = false := c2.1 (by omega)
    rw [h3,h4] at ht25; cases ht25
   refine gR ?_
   exact ae5 (by rw [if_pos hli,if_pos hli]; unfold splitG; rw [if_neg (by rw [h2]; simp),h2]; exact Sub.tup (.cons (.nil _ _ _) (.cons (.refl _) .nil)))
  ·have h2 : splitE l = 0 := by
    unfold splitE
    rw [if_pos]
    cases h3 : (ac2 l).contains false <;> cases h4 : (afn l).contains false <;> rw [h3,h4] at ht25 <;> first | (cases ht25; done) | (have g1 := c1.2 h3; have g2 := c2.2 h4; omega)
   refine gE2 ?_
   rw [if_pos hli,if_pos hli,h2]; unfold splitG; rw [if_pos h2]; rfl
end Go.Lw
namespace Go.Lw
open Go.Proofs
theorem bew {l : Li} {g : Gr} {i : Nat} {z : Int} {j : Jt} (hz : g.joints[i]? = some z) (hj : l.joints[z.toNat]? = some j) : (ay9 l g)[i]? = some (anc g j) := by
 unfold ay9; rw [getElem?_map,hz,Option.map_some,aar hj]
theorem aqa {l : Li} {g : Gr} {i : Nat} {z : Int} {j : Jt} {a : Int} (hz : g.joints[i]? = some z) (hj : l.joints[z.toNat]? = some j) (ha : anc g j = a) : ((ay9 l g).take i).map i64 ++ [i64 a] = ((ay9 l g).take (i + 1)).map i64 := by
 rw [aax (bew hz hj),ha,map_append]; rfl
theorem bdc {z : Int} {n : Nat} (h0 : 0 <= z) (h1 : z < n) : cond (aaa .lss z 0) true (aaa .geq z (n : Int)) = false := by
 rw [show aaa .lss z 0 = false from decide_eq_false (by omega)]
 exact decide_eq_false (by omega)
theorem aul (l : Li) (hl : l.ok) (hli : liE l = 0) (g : Gr) (hg : GrOk l g) : Con prog 146 [l.av, g.av] [] (.tup [.ms 900 1 0 g.joints.length, .v .nilIface]) [(900, some (.row 1 ((ay9 l g).map i64)))] := by
 have hlb := hg.lb
 have hlj := hg.lj
 refine gF func146 (fun k z h => by cases h) ?_
 refine gc (ag6 l hl) ?_
 refine gC (fun ht16 => ?_) (fun ht16 => ?_) (st1 := (3,0))
 ·(rw [hli] at ht16; cases ht16)
 ·refine gl ?_
  refine gW ((Wk.virt 900 1 rfl).trans <| Wk.of (sl := [(2,some (.ptr 2 0)),(3,some (.ptr 3 0)),(7,some (.ms 900 1 0 0)),(19,some (.lst 1 (g.joints.map i64))),(20,some (i64 g.joints.length)),(21,some (i64 0))]) (hp := [(2,some (.box l.av.cells)),(3,some (.box g.av.cells)),(900,some (.row 1 []))]) (.k (.k (.cons rfl (Sub.nilMs _ _ _) (.k (.k (.k .nil)))))) (.cons rfl (.refl _) (.cons rfl (.refl _) (.cons rfl (.refl _) .nil)))) ?_
  refine gL1 [2,3,19,20] [2,3] (fun (i : Nat) => [(7,some (.ms 900 1 0 i)),(21,some (i64 i))]) (fun i => [(900,some (.row 1 (((ay9 l g).take i).map i64)))]) (fun i => i <= g.joints.length) (fun i => g.joints.length - i) 0 (zero_le _) ?_
  rintro i hi K1 hK1
  refine gC (fun ht22 => ?_) (fun ht22 => ?_) (st2 := (18,0))
  ·have hin := abb ht22
   obtain ⟨z,hz⟩ := ab6 hin
   obtain ⟨z0,z1⟩ := hg.j z (mem_of_getElem? hz)
   obtain ⟨j,hj⟩ : ∃ j,l.joints[z.toNat]? = some j := ab6 (by omega)
   have hlt : (((ay9 l g).take i).map i64).length = i:=by rw [length_map,length_take,a03]; omega
   refine gi (aae hz) ?_
   refine glG ?_
   refine gC (fun ht33 => ?_) (fun ht33 => ?_) (st1 := (9,0))
   ·(rw [bdc z0 z1] at ht33; cases ht33)
   ·refine gi (aqm (n := z.toNat) (by omega) hj) ?_
    refine gc (ai4 g.bodies j.a (by omega)) ?_
    refine gc (ai4 g.bodies j.b (by omega)) ?_
    refine gD ?_
    refine gC (fun ht55 => ?_) (fun ht55 => ?_)
    ·have ha : anc g j = -1 := by unfold anc; cases h1 : g.bodies.contains j.a <;> cases h2 : g.bodies.contains j.b <;> rw [h1, h2] at ht55 <;> first | (cases ht55; done) | rfl
     refine gs (abh (.tmp rfl) rfl hlt.symm (.tmp rfl) T31 rfl T3 rfl rfl (by simp only [length_cons,length_nil]; omega) rfl rfl) ?_ (17,0)
     refine gW (Wk.of (sl := [(2,some (.ptr 2 0)),(3,some (.ptr 3 0)),(7,some (.ms 62 1 0 (i + 1))),(19,some (.lst 1 (g.joints.map i64))),(20,some (i64 g.joints.length)),(21,some (i64 i))]) (hp := [(2,some (.box l.av.cells)),(3,some (.box g.av.cells)),(62,some (.row 1 (((ay9 l g).take (i + 1)).map i64)))]) abq (.cons rfl (.refl _) (.cons rfl (.refl _) (.cons rfl (BlkSub.of (congrArg (Blk.row 1) (aqa hz hj ha))) .nil)))) ?_ (17,0)
     refine gW (Wk.rekey (k := 62) (d := 900) rfl rfl) ?_
     refine ga aas ?_
     exact gK1 hK1 (i + 1) hin
    ·refine gC (fun ht63 => ?_) (fun ht63 => ?_)
     ·have ha : anc g j = j.b := by unfold anc; cases h1 : g.bodies.contains j.a <;> cases h2 : g.bodies.contains j.b <;> rw [h1] at ht63 <;> rw [h1, h2] at ht55 <;> first | (cases ht55; done) | (cases ht63; done) | rfl
      refine gs (abh (.tmp rfl) rfl hlt.symm (.tmp rfl) T31 rfl T3 rfl rfl (by simp only [length_cons,length_nil]; omega) rfl rfl) ?_ (17,0)
      refine gW (Wk.of (sl := [(2,some (.ptr 2 0)),(3,some (.ptr 3 0)),(7,some (.ms 69 1 0 (i + 1))),(19,some (.lst 1 (g.joints.map i64))),(20,some (i64 g.joints.length)),(21,some (i64 i))]) (hp := [(2,some (.box l.av.cells)),(3,some (.box g.av.cells)),(69,some (.row 1 (((ay9 l g).take (i + 1)).map i64)))]) abq (.cons rfl (.refl _) (.cons rfl (.refl _) (.cons rfl (BlkSub.of (congrArg (Blk.row 1) (aqa hz hj ha))) .nil)))) ?_ (17,0)
      refine gW (Wk.rekey (k := 69) (d := 900) rfl rfl) ?_
      refine ga aas ?_
      exact gK1 hK1 (i + 1) hin
     ·have ha : anc g j = j.a := by unfold anc; rw [if_neg (by rw [show g.bodies.contains j.a = false from ht63]; simp)]
      refine gs (abh (.tmp rfl) rfl hlt.symm (.tmp rfl) T31 rfl T3 rfl rfl (by simp only [length_cons,length_nil]; omega) rfl rfl) ?_ (17,0)
      refine gW (Wk.of (sl := [(2,some (.ptr 2 0)),(3,some (.ptr 3 0)),(7,some (.ms 54 1 0 (i + 1))),(19,some (.lst 1 (g.joints.map i64))),(20,some (i64 g.joints.length)),(21,some (i64 i))]) (hp := [(2,some (.box l.av.cells)),(3,some (.box g.av.cells)),(54,some (.row 1 (((ay9 l g).take (i + 1)).map i64)))]) abq (.cons rfl (.refl _) (.cons rfl (.refl _) (.cons rfl (BlkSub.of (congrArg (Blk.row 1) (aqa hz hj ha))) .nil)))) ?_ (17,0)
      refine gW (Wk.rekey (k := 54) (d := 900) rfl rfl) ?_
      refine ga aas ?_
      exact gK1 hK1 (i + 1) hin
  ·have hin := aal hi ht22
   subst hin
   refine gW (Wk.of (sl := [(7,some (.ms 900 1 0 g.joints.length))]) (hp := [(900,some (.row 1 ((ay9 l g).map i64)))]) abq (.cons rfl (BlkSub.of (by rw [take_of_length_le (by rw [a03]; exact le_refl _)])) .nil)) ?_
   refine gR ?_
   exact Fin.keep (at4 rfl)
end Go.Lw
namespace Go.Lw
def a8w (s : ByteArray) (n : Int) : Bd := ⟨s,[⟨⟨#[97]⟩,rt ((0 : Int) : Rat),rt ((0 : Int) : Rat)⟩,⟨⟨#[98]⟩,rt (n : Rat),rt ((0 : Int) : Rat)⟩]⟩
def fb : Li := ⟨⟨#[102, 111, 117, 114, 98, 97, 114]⟩, [a8w ⟨#[102, 114, 97, 109, 101]⟩ 4, a8w ⟨#[99, 114, 97, 110, 107]⟩ 3, a8w ⟨#[99, 111, 117, 112, 108, 101, 114]⟩ 5, a8w ⟨#[114, 111, 99, 107, 101, 114]⟩ 6],
  [⟨⟨#[111]⟩,0,1,0,0,0,0⟩,⟨⟨#[112]⟩,0,2,0,1,1,0⟩,⟨⟨#[113]⟩,0,3,0,0,1,0⟩,⟨⟨#[114]⟩,0,2,1,3,1,0⟩],[⟨⟨#[100]⟩,1⟩]⟩
def t0 : Tn := ⟨⟨false,[],[]⟩,false⟩
theorem arj (a b : ByteArray) : eqS a b = (a.data.toList == b.data.toList) := by
 unfold eqS; rw [Go.ByteArray.toList_eq,Go.ByteArray.toList_eq]
theorem ahm : liE fb = 0 := by
 have h1 : apj fb = 0 := by
  unfold apj adi bdE ask mkE
  simp only [arj]
  decide +kernel
 have h2 : akr fb = 0 := by
  unfold akr adi jtE ask
  simp only [arj]
  decide +kernel
 have h3 : aqr fb = 0 := by
  unfold aqr adi drE ask
  simp only [arj]
  decide +kernel
 unfold liE
 rw [h1,h2,h3]
 decide +kernel
theorem bbi {s : ByteArray} (hs : s.size <= 281474976710656) {n : Int} (hn : -9223372036854775808 <= n /\ n <= 9223372036854775807) :
  (a8w s n).name.size <= 281474976710656 /\ (a8w s n).pts.length <= 281474976710656 /\ ∀ m ∈ (a8w s n).pts,m.name.size <= 281474976710656 /\ m.x.wok /\ m.y.wok := by
 have h0 : (rt ((0 : Int) : Rat)).ok := (a72 (by omega)).ok
 have h1 : (rt (n : Rat)).ok := (a72 hn).ok
 refine ⟨hs,by show 2 <= _; omega,fun m hm => ?_⟩
 simp only [a8w,mem_cons,not_mem_nil,or_false] at hm
 rcases hm with rfl | rfl
 ·exact ⟨by show 1 <= _; omega,h0.wok,h0.wok⟩
 ·exact ⟨by show 1 <= _; omega,h1.wok,h0.wok⟩
theorem bfo : fb.okw := by
 refine ⟨by decide,fun b hb => ?_,fun j hj => ?_,fun d hd => ?_,by decide,by decide,by decide⟩
 ·simp only [fb, mem_cons, not_mem_nil, or_false] at hb
  rcases hb with rfl | rfl | rfl | rfl <;> exact bbi (by decide) (by omega)
 ·simp only [fb, mem_cons, not_mem_nil, or_false] at hj
  rcases hj with rfl | rfl | rfl | rfl <;> decide
 ·simp only [fb, mem_cons, not_mem_nil, or_false] at hd
  rcases hd with rfl; decide
theorem adg : fb.ok := a37 (by decide +kernel) bfo
end Go.Lw
namespace Go.Lw
open Go.Proofs
def feG (P : Program) (n : Nat) : Option (FE P) := match h : P.funcs[n]? with
  | none => none
  | some fn => match hb : fn.body with
    | none => none
    | some c => match hn : (fn.name == "runtime.NumGoroutine") with
      | true => none
      | false => some ⟨n,fn,c,fn.results.toList,h,hb,hn,by simp⟩
def smQ (q : Rat) : Bool := Nat.blt q.num.natAbs 18446744073709551616 && Nat.blt q.den 18446744073709551616
theorem a8t {q : Rat} (h : smQ q = true) : Qb 64 q := by
 simp only [smQ,and_eq_true,Nat.blt_eq] at h
 exact ⟨h.1,h.2⟩
theorem agc {q : Rat} (h : smQ q = true) : Qs q := (a8t h).qs (by omega)
def n0 (q : Rat) : AV := nA (sh 0 (q : Rat))
def z0 : AV := ao0 []
theorem ahc {q : Rat} (h : smQ q = true) : Nm ([] : List (List Rat)).length 64 (sh 0 (q : Rat)) := Nm.ofQ (by decide) (Cb.one (a8t h))
theorem az4 (q : Rat) : dec ([] : List (List Rat)).length (sh 0 (q : Rat)) = q := a13 0 q
theorem a8p : Tw [] 1 where
 three:=by decide
 len := fun j hj => absurd hj (Nat.not_lt_zero j)
 pos := fun j hj => absurd hj (Nat.not_lt_zero j)
 rb := ⟨1,1,by omega,fun d hd => absurd hd not_mem_nil,by decide,by decide⟩
 le:=by decide
theorem lm0 : lm ([] : List (List Rat)).length = 200000000000 := rfl
def dW : List AV -> Nat
  | [] => 0
  | x :: l => match x with
    | .v (.int _ (.ofNat n)) => n + 4294967296 * dW l
    | _ => 0
def dWs : AV -> Nat
  | .lst _ l => dW l
  | _ => 0
def dQ (x : AV) : Rat := match x with
  | .agg (.v (.bool s) :: n :: d :: _) => match s with
    | true => mkRat (-(dWs n : Int)) (dWs d)
    | false => mkRat (dWs n : Int) (dWs d)
  | _ => 0
def dN (x : AV) : Rat := match x with
  | .lst _ (x :: _) => dQ x
  | _ => 0
abbrev En := Option (Ent prog)
def w2 (f : FuncId) (g : Rat -> Rat -> AV) (h : ∀ p q, smQ p = true -> smQ q = true -> FnC prog f [qA p, qA q] (g p q)) (p q : Rat) : En := match hh : smQ p && smQ q with
  | true => some ⟨f,[qA p,qA q],g p q,[],h p q (by rw [and_eq_true] at hh; exact hh.1) (by rw [and_eq_true] at hh; exact hh.2)⟩
  | false => none
def oQ2 (f : FuncId) (g : Rat -> Rat -> AV) (h : ∀ p q, smQ p = true -> smQ q = true -> FnC prog f [qA p, qA q] (g p q)) (xs : List AV) : En := match xs with
  | [a,b] => w2 f g h (dQ a) (dQ b)
  | _ => none
def w1 (f : FuncId) (a : Rat -> AV) (g : Rat -> AV) (h : ∀ p, smQ p = true -> FnC prog f [a p] (g p)) (p : Rat) : En := match hh : smQ p with
  | true => some ⟨f,[a p],g p,[],h p hh⟩
  | false => none
def oQ1 (f : FuncId) (g : Rat -> AV) (h : ∀ p, smQ p = true -> FnC prog f [qA p] (g p)) (xs : List AV) : En := match xs with
  | [a] => w1 f qA g h (dQ a)
  | _ => none
def w3 (f : FuncId) (g : Rat -> Rat -> AV) (h : ∀ p q, smQ p = true -> smQ q = true -> FnC prog f [z0, n0 p, n0 q] (g p q)) (p q : Rat) : En := match hh : smQ p && smQ q with
  | true => some ⟨f,[z0,n0 p,n0 q],g p q,[],h p q (by rw [and_eq_true] at hh; exact hh.1) (by rw [and_eq_true] at hh; exact hh.2)⟩
  | false => none
def oT2 (f : FuncId) (g : Rat -> Rat -> AV) (h : ∀ p q, smQ p = true -> smQ q = true -> FnC prog f [z0, n0 p, n0 q] (g p q)) (xs : List AV) : En := match xs with
  | [_,a,b] => w3 f g h (dN a) (dN b)
  | _ => none
def w4 (f : FuncId) (g : Rat -> AV) (h : ∀ p, smQ p = true -> FnC prog f [z0, n0 p] (g p)) (p : Rat) : En := match hh : smQ p with
  | true => some ⟨f,[z0,n0 p],g p,[],h p hh⟩
  | false => none
def oT1 (f : FuncId) (g : Rat -> AV) (h : ∀ p, smQ p = true -> FnC prog f [z0, n0 p] (g p)) (xs : List AV) : En := match xs with
  | [_,a] => w4 f g h (dN a)
  | _ => none
def oC (f : FuncId) (ys : List AV) (r : AV) (h : FnC prog f ys r) (xs : List AV) : En := some ⟨f,ys,r,[],h⟩
def dI (x : AV) : Int := match x with
  | .v (.int _ z) => z
  | _ => 0
def oI (f : FuncId) (g : Int -> AV) (h : ∀ z, (-9223372036854775808 <= z /\ z <= 9223372036854775807) -> FnC prog f [i64 z] (g z)) (xs : List AV) : En := match xs with
  | [a] => match (inferInstance : Decidable (-9223372036854775808 <= dI a /\ dI a <= 9223372036854775807)) with
    | .isTrue hh => some ⟨f,[i64 (dI a)],g (dI a),[],h (dI a) hh⟩
    | .isFalse _ => none
  | _ => none
theorem bij (p q : Rat) (hp : smQ p = true) (hq : smQ q = true) : FnC prog 231 [z0, n0 p, n0 q] (.tup [n0 (p + q), .v .nilIface]) := by
 have h := bea a8p (ahc hp) (ahc hq) (by rw [lm0]; omega)
 rw [az4,az4] at h; exact h
theorem bh5 (p q : Rat) (hp : smQ p = true) (hq : smQ q = true) : FnC prog 163 [z0, n0 p, n0 q] (.tup [n0 (p + -q), .v .nilIface]) := by
 have h := bf4 a8p (ahc hp) (ahc hq) (by rw [lm0]; omega)
 rw [az4,az4] at h; exact h
theorem bh1 (p q : Rat) (hp : smQ p = true) (hq : smQ q = true) : FnC prog 164 [z0, n0 p, n0 q] (.tup [n0 (p * q), .v .nilIface]) := by
 have h := bek a8p (ahc hp) (ahc hq) (by rw [lm0]; omega)
 rw [az4,az4] at h; exact h
theorem bc9 (p : Rat) (hp : smQ p = true) : FnC prog 205 [z0, n0 p] (.tup [i64 (ahh p), .v .nilIface]) := by
 have h := bbk a8p (ahc hp) (by rw [lm0]; omega)
 rw [az4] at h; exact h
theorem bhb (p : Rat) (hp : smQ p = true) : FnC prog 148 [z0, n0 p] (.tup [n0 (-p), .v .nilIface]) := by
 have h := bdh a8p (ahc hp) (by rw [lm0]; omega)
 rw [az4] at h; exact h
theorem a9m (p q : Rat) (hp : smQ p = true) (hq : smQ q = true) : FnC prog 17 [z0, n0 p, n0 q] (bl (decide (ahh (p + -q) = 0))) := by
 have h := avo a8p (ahc hp) (ahc hq) (by rw [lm0]; omega)
 rw [az4,az4] at h; exact h
def bjc : FuncId -> Option (List AV -> En)
  | 231 => some (oT2 231 _ bij)
  | 163 => some (oT2 163 _ bh5)
  | 164 => some (oT2 164 _ bh1)
  | 205 => some (oT1 205 _ bc9)
  | 148 => some (oT1 148 _ bhb)
  | 145 => some (oC 145 [z0] (.v .nilIface) (a7l a8p))
  | 149 => some (oQ1 149 n0 fun _ h => bg4 (agc h))
  | 17 => some (oT2 17 _ a9m)
  | 150 => some (oI 150 (fun z => qA z) aq0)
  | 120 => some (oI 120 (fun z => qA z) a7i)
  | 137 => some (oQ1 137 n0 fun _ h => bg3 (agc h))
  | 206 => some (oQ2 206 (fun p q => qA (p + q)) fun _ _ h h' => bh6 (agc h) (agc h'))
  | 281 => some (oQ2 281 (fun p q => qA (p - q)) fun _ _ h h' => bhv (agc h) (agc h'))
  | 288 => some (oQ2 288 (fun p q => qA (p * q)) fun _ _ h h' => bg7 (agc h) (agc h'))
  | 431 => some (oQ2 431 (fun p q => .tup [qA (p / q),ain (if q = 0 then 8 else 0)]) fun _ _ h h' => bhe (agc h) (agc h'))
  | 111 => some (oQ1 111 (fun p => qA (-p)) fun _ h => bh7 (agc h))
  | 313 => some (oQ1 313 (fun p => i64 (ahh p)) fun _ h => bfn (agc h))
  | _ => none
def dIs (x : AV) : List Int := match x with
  | .lst _ es => es.map dI
  | _ => []
def dG (x : AV) : Gr := match x with
  | .agg [k,b,j,d] => ⟨dI k,dIs b,dIs j,dI d⟩
  | _ => default
def bhn (n : Nat) (l : List Int) : Bool := l.all fun z => aaa .leq 0 z && aaa .lss z n
theorem a2d {n : Nat} {l : List Int} (h : bhn n l = true) : ∀ x ∈ l, 0 <= x /\ x < n := by
 intro x hx
 have := List.all_eq_true.1 h x hx
 simp only [and_eq_true,aaa,decide_eq_true_eq] at this
 exact this
def grB (l : Li) (g : Gr) : Bool := bhn l.bodies.length g.bodies && bhn l.joints.length g.joints && Nat.ble g.bodies.length 2 && Nat.ble g.joints.length 3
theorem bdl {l : Li} {g : Gr} (h : grB l g = true) : GrOk l g := by
 simp only [grB,and_eq_true,Nat.ble_eq] at h
 exact ⟨a2d h.1.1.1,a2d h.1.1.2,h.1.2,h.2⟩
def bi7 (l : Li) (hl : l.ok) (hli : liE l = 0) (g : Gr) : En := match hh : grB l g with
  | true => some ⟨146,[l.av,g.av],_,_,aul l hl hli g (bdl hh)⟩
  | false => none
def bjg (l : Li) (hl : l.ok) (hli : liE l = 0) (xs : List AV) : En := match xs with
  | [_,g] => bi7 l hl hli (dG g)
  | _ => none
theorem baz (l : Li) (hl : l.ok) (hli : liE l = 0) : FnC prog 144 [l.av] (.tup [.lst 4 ((splitG l).map Gr.av), ain (splitE l)]) := by
 have h := a4j l hl
 rw [if_pos hli,if_pos hli] at h; exact h
def ar4 (l : Li) (hl : l.ok) (hli : liE l = 0) : FuncId -> Option (List AV -> En)
  | 144 => some (oC 144 [l.av] _ (baz l hl hli))
  | 146 => some (bjg l hl hli)
  | 229 => some (oQ1 229 (fun p => bl (rt p).valid) fun _ h => ab8 _ (agc h).ok)
  | f => bjc f
def orP : List (Ent prog) -> FuncId -> Bool
  | [],_ => false
  | e :: l, f => match Nat.beq e.f f with
    | true => true
    | false => orP l f
def orS (xs : List AV) (f : FuncId) : List (Ent prog) -> En
  | [] => none
  | e :: l => match Nat.beq e.f f && avt xs e.xs with
    | true => some e
    | false => orS xs f l
def orF (L : List (Ent prog)) (o : FuncId -> Option (List AV -> En)) (f : FuncId) : Option (List AV -> En) := match orP L f with
  | true => some fun xs => match orS xs f L with
    | some e => some e
    | none => match o f with
      | some g => g xs
      | none => none
  | false => o f
def ar0 (n : FuncId) : Bool := Nat.beq n 147 || (Nat.beq n 265 || Nat.beq n 353)
end Go.Lw
namespace Go.Lw
open Go.Proofs
theorem bho (p q : Rat) (hp : smQ p = true) (hq : smQ q = true) : FnC prog 449 [z0, n0 p, n0 q] (.tup [i64 (ahh (p + -q)), .v .nilIface]) := by
 have h := bdb a8p (ahc hp) (ahc hq) (by rw [lm0]; omega)
 rw [az4,az4] at h; exact h
def ats (o : FuncId -> Option (List AV -> En)) : FuncId -> Option (List AV -> En)
  | 449 => some (oT2 449 _ bho)
  | f => o f
end Go.Lw
namespace Go.Lw
open Go.Proofs
set_option maxRecDepth 20000
def bdp : AV := .agg [.v (.string ⟨⟨[111]⟩⟩),.v (.int .i64 0),.v (.int .i64 1),.v (.int .i64 0),.v (.int .i64 0),.v (.int .i64 0),.v (.int .i64 0)]
def ber : AV := .agg [.v (.string ⟨⟨[112]⟩⟩),.v (.int .i64 0),.v (.int .i64 2),.v (.int .i64 0),.v (.int .i64 1),.v (.int .i64 1),.v (.int .i64 0)]
def bej : AV := .agg [.v (.string ⟨⟨[113]⟩⟩),.v (.int .i64 0),.v (.int .i64 3),.v (.int .i64 0),.v (.int .i64 0),.v (.int .i64 1),.v (.int .i64 0)]
def bei : AV := .agg [.v (.string ⟨⟨[114]⟩⟩),.v (.int .i64 0),.v (.int .i64 2),.v (.int .i64 1),.v (.int .i64 3),.v (.int .i64 1),.v (.int .i64 0)]
def a9c : AV := .agg [.lst 3 [.agg [.v (.bool false),.lst 1 [.v (.int .u32 1)],.lst 1 [.v (.int .u32 1)]]],.v (.slice none 0 0),.lst 3 [],.lst 3 []]
def bfx : AV := .agg [.v (.string ⟨⟨[98]⟩⟩),.v (.bool false),.lst 1 [.v (.int .u32 4)],.lst 1 [.v (.int .u32 1)],.v (.bool false),.lst 1 [],.lst 1 []]
def bd9 : AV := .agg [.v (.string ⟨⟨[98]⟩⟩),.v (.bool false),.lst 1 [.v (.int .u32 3)],.lst 1 [.v (.int .u32 1)],.v (.bool false),.lst 1 [],.lst 1 []]
def bdr : AV := .agg [.v (.string ⟨⟨[98]⟩⟩),.v (.bool false),.lst 1 [.v (.int .u32 5)],.lst 1 [.v (.int .u32 1)],.v (.bool false),.lst 1 [],.lst 1 []]
def be4 : AV := .agg [.v (.string ⟨⟨[98]⟩⟩),.v (.bool false),.lst 1 [.v (.int .u32 6)],.lst 1 [.v (.int .u32 1)],.v (.bool false),.lst 1 [],.lst 1 []]
def a8i : AV := .agg [.v (.slice none 0 0),.lst 2 [.agg [.lst 3 [.agg [.v (.bool true),.lst 1 [.v (.int .u32 2)],.lst 1 [.v (.int .u32 1)]]],.lst 3 []]]]
def ap7 : AV := .agg [.lst 3 [.agg [.v (.bool false),.lst 1 [.v (.int .u32 1)],.lst 1 [.v (.int .u32 1)]]],.v (.slice none 0 0),.v (.slice none 0 0),.v (.slice none 0 0)]
def ba0 : AV := .agg [.lst 3 [.agg [.v (.bool true),.lst 1 [.v (.int .u32 1)],.lst 1 [.v (.int .u32 1)]]],.v (.slice none 0 0),.lst 3 [.agg [.v (.bool false),.lst 1 [.v (.int .u32 3)],.lst 1 [.v (.int .u32 1)]]],.lst 3 []]
def bbs : AV := .agg [.lst 3 [.agg [.v (.bool true),.lst 1 [.v (.int .u32 1)],.lst 1 [.v (.int .u32 1)]]],.v (.slice none 0 0),.lst 3 [.agg [.v (.bool false),.lst 1 [.v (.int .u32 4)],.lst 1 [.v (.int .u32 1)]]],.lst 3 []]
def bba : AV := .agg [.lst 3 [.agg [.v (.bool true),.lst 1 [.v (.int .u32 1)],.lst 1 [.v (.int .u32 1)]]],.v (.slice none 0 0),.lst 3 [.agg [.v (.bool false),.lst 1 [.v (.int .u32 3)],.lst 1 [.v (.int .u32 1)]]],.v (.slice none 0 0)]
def bbb : AV := .agg [.lst 3 [.agg [.v (.bool true),.lst 1 [.v (.int .u32 1)],.lst 1 [.v (.int .u32 1)]]],.v (.slice none 0 0),.lst 3 [.agg [.v (.bool false),.lst 1 [.v (.int .u32 4)],.lst 1 [.v (.int .u32 1)]]],.v (.slice none 0 0)]
def ba7 : AV := .lst 7 [.agg [.v (.string ⟨⟨[97]⟩⟩),.v (.bool false),.lst 1 [],.lst 1 [],.v (.bool false),.lst 1 [],.lst 1 []],bfx]
def a9n : AV := .lst 7 [.agg [.v (.string ⟨⟨[97]⟩⟩),.v (.bool false),.lst 1 [],.lst 1 [],.v (.bool false),.lst 1 [],.lst 1 []],bd9]
def bbj : AV := .lst 7 [.agg [.v (.string ⟨⟨[97]⟩⟩),.v (.bool false),.lst 1 [],.lst 1 [],.v (.bool false),.lst 1 [],.lst 1 []],bdr]
def a9t : AV := .lst 7 [.agg [.v (.string ⟨⟨[97]⟩⟩),.v (.bool false),.lst 1 [],.lst 1 [],.v (.bool false),.lst 1 [],.lst 1 []],be4]
def a9l : AV := .agg [.v (.string ⟨⟨[99,114,97,110,107]⟩⟩),a9n]
def bcg : AV := .agg [.v (.string ⟨⟨[102,114,97,109,101]⟩⟩),ba7]
def bbw : AV := .agg [.v (.string ⟨⟨[114,111,99,107,101,114]⟩⟩),a9t]
def bcr : AV := .agg [.v (.string ⟨⟨[99,111,117,112,108,101,114]⟩⟩),bbj]
def bb9 : AV := .lst 4 [ba0,bbs]
def a3z : AV := .agg [.v (.slice none 0 0),bb9,.v (.int .i64 0)]
def a9u : AV := .lst 7 [bdp,ber,bej,bei]
def bbz : AV := .lst 4 [ap7,ap7,bba,bbb]
def amt : AV := .agg [.v (.slice none 0 0),bbz,.lst 1 [.v (.int .i64 1),.v (.int .i64 0)]]
def bab : AV := .lst 2 [bcg,a9l,bcr,bbw]
def ah5 : AV := .agg [.v (.string ⟨⟨[102,111,117,114,98,97,114]⟩⟩),bab,a9u,.lst 2 [.agg [.v (.string ⟨⟨[100]⟩⟩),.v (.int .i64 1)]]]
theorem bie : Con prog 50 [] [] (ah5) [] := ahr ⟨orF [] (orF [⟨28,[fb.av,fb.av],bl true,[],aai fb adg⟩] (ats (ar4 fb adg ahm))),feG prog,ar0⟩ 6000 (base := 2000) (av := []) (by kernel_rfl)
def a7z : List (Ent prog) := ⟨_,_,_,_,bie⟩ :: []
theorem bhl : Con prog 52 [ah5,.v (.int .i64 0),.agg [.v (.bool false),.v (.slice none 0 0),.v (.slice none 0 0),.v (.bool false)],.agg [.v (.slice none 0 0),.lst 4 [ap7,.agg [.v (.slice none 0 0),.v (.slice none 0 0),.v (.slice none 0 0),.v (.slice none 0 0)],.agg [.v (.slice none 0 0),.v (.slice none 0 0),.v (.slice none 0 0),.v (.slice none 0 0)],.agg [.v (.slice none 0 0),.v (.slice none 0 0),.v (.slice none 0 0),.v (.slice none 0 0)]],.v (.slice none 0 0)]] [] (.tup [.lst 3 [.agg [.v (.slice none 0 0),.lst 4 [a9c],.v (.int .i64 1)]],.v .nilIface]) [] := ahr ⟨orF a7z (orF [⟨28,[fb.av,fb.av],bl true,[],aai fb adg⟩] (ats (ar4 fb adg ahm))),feG prog,ar0⟩ 6000 (base := 2000) (av := []) (by kernel_rfl)
def a75 : List (Ent prog) := ⟨_,_,_,_,bhl⟩ :: a7z
theorem bhr : Con prog 252 [.agg [.v (.slice none 0 0)],.agg [.lst 3 [.agg [.v (.bool false),.lst 1 [.v (.int .u32 3)],.lst 1 [.v (.int .u32 1)]]],.lst 3 [],.lst 3 [.agg [.v (.bool false),.lst 1 [.v (.int .u32 25)],.lst 1 [.v (.int .u32 1)]]]],.agg [.lst 3 [.agg [.v (.bool false),.lst 1 [.v (.int .u32 4)],.lst 1 [.v (.int .u32 1)]]],.lst 3 [],.lst 3 [.agg [.v (.bool false),.lst 1 [.v (.int .u32 36)],.lst 1 [.v (.int .u32 1)]]]]] [] (.tup [a8i,.v .nilIface]) [] := ahr ⟨orF a75 (orF [⟨28,[fb.av,fb.av],bl true,[],aai fb adg⟩] (ats (ar4 fb adg ahm))),feG prog,ar0⟩ 6000 (base := 2000) (av := []) (by kernel_rfl)
def a9a : List (Ent prog) := ⟨_,_,_,_,bhr⟩ :: a75
theorem bia : Con prog 253 [a8i,.lst 14 [.agg [.v (.bool false),.lst 1 [],.lst 1 [],.v (.bool false),.lst 1 [],.lst 1 [],.lst 3 [.agg [.v (.bool false),.lst 1 [.v (.int .u32 3)],.lst 1 [.v (.int .u32 1)]]],.lst 3 [],.v (.bool false),.lst 1 [.v (.int .u32 5)],.lst 1 [.v (.int .u32 1)],.v (.bool false),.lst 1 [],.lst 1 []],.agg [.v (.bool false),.lst 1 [],.lst 1 [],.v (.bool false),.lst 1 [],.lst 1 [],.lst 3 [.agg [.v (.bool false),.lst 1 [.v (.int .u32 4)],.lst 1 [.v (.int .u32 1)]]],.lst 3 [],.v (.bool false),.lst 1 [.v (.int .u32 6)],.lst 1 [.v (.int .u32 1)],.v (.bool false),.lst 1 [],.lst 1 []]]] [] (.tup [.ms 300 3 0 1,.v .nilIface]) [(300,some (.row 3 [a3z]))] := ahr ⟨orF a9a (orF [⟨28,[fb.av,fb.av],bl true,[],aai fb adg⟩] (ats (ar4 fb adg ahm))),feG prog,ar0⟩ 6000 (base := 2000) (av := []) (by kernel_rfl)
def a9i : List (Ent prog) := ⟨_,_,_,_,bia⟩ :: a9a
theorem bh3 : Con prog 52 [ah5,.v (.int .i64 1),.agg [.v (.bool false),.v (.slice none 0 0),.v (.slice none 0 0),.v (.bool false)],.agg [.v (.slice none 0 0),.lst 4 [ap7,a9c,.agg [.v (.slice none 0 0),.v (.slice none 0 0),.v (.slice none 0 0),.v (.slice none 0 0)],.agg [.v (.slice none 0 0),.v (.slice none 0 0),.v (.slice none 0 0),.v (.slice none 0 0)]],.lst 1 [.v (.int .i64 1)]]] [] (.tup [.ms 300 3 0 1,.v .nilIface]) [(300,some (.row 3 [a3z]))] := ahr ⟨orF a9i (orF [⟨28,[fb.av,fb.av],bl true,[],aai fb adg⟩] (ats (ar4 fb adg ahm))),feG prog,ar0⟩ 6000 (base := 2000) (av := []) (by kernel_rfl)
def a9d : List (Ent prog) := ⟨_,_,_,_,bh3⟩ :: a9i
theorem bhq : Con prog 370 [.lst 3 [.agg [.v (.bool false),.lst 1 [.v (.int .u32 1)],.lst 1 [.v (.int .u32 1)]]]] [] (.ms 300 3 0 1) [(300,some (.row 3 [.agg [.v (.bool false),.lst 1 [.v (.int .u32 1)],.lst 1 [.v (.int .u32 1)]]]))] := ahr ⟨orF a9d (orF [⟨28,[fb.av,fb.av],bl true,[],aai fb adg⟩] (ats (ar4 fb adg ahm))),feG prog,ar0⟩ 6000 (base := 2000) (av := []) (by kernel_rfl)
def a8y : List (Ent prog) := ⟨_,_,_,_,bhq⟩ :: a9d
theorem bhc : Con prog 370 [.v (.slice none 0 0)] [] (.v (.slice none 0 0)) [] := ahr ⟨orF a8y (orF [⟨28,[fb.av,fb.av],bl true,[],aai fb adg⟩] (ats (ar4 fb adg ahm))),feG prog,ar0⟩ 6000 (base := 2000) (av := []) (by kernel_rfl)
def a8o : List (Ent prog) := ⟨_,_,_,_,bhc⟩ :: a8y
theorem bir : Con prog 370 [.lst 3 []] [] (.v (.slice none 0 0)) [] := ahr ⟨orF a8o (orF [⟨28,[fb.av,fb.av],bl true,[],aai fb adg⟩] (ats (ar4 fb adg ahm))),feG prog,ar0⟩ 6000 (base := 2000) (av := []) (by kernel_rfl)
def a73 : List (Ent prog) := ⟨_,_,_,_,bir⟩ :: a8o
theorem bio : Con prog 370 [.lst 3 [.agg [.v (.bool true),.lst 1 [.v (.int .u32 1)],.lst 1 [.v (.int .u32 1)]]]] [] (.ms 300 3 0 1) [(300,some (.row 3 [.agg [.v (.bool true),.lst 1 [.v (.int .u32 1)],.lst 1 [.v (.int .u32 1)]]]))] := ahr ⟨orF a73 (orF [⟨28,[fb.av,fb.av],bl true,[],aai fb adg⟩] (ats (ar4 fb adg ahm))),feG prog,ar0⟩ 6000 (base := 2000) (av := []) (by kernel_rfl)
def a8j : List (Ent prog) := ⟨_,_,_,_,bio⟩ :: a73
theorem bip : Con prog 370 [.lst 3 [.agg [.v (.bool false),.lst 1 [.v (.int .u32 3)],.lst 1 [.v (.int .u32 1)]]]] [] (.ms 300 3 0 1) [(300,some (.row 3 [.agg [.v (.bool false),.lst 1 [.v (.int .u32 3)],.lst 1 [.v (.int .u32 1)]]]))] := ahr ⟨orF a8j (orF [⟨28,[fb.av,fb.av],bl true,[],aai fb adg⟩] (ats (ar4 fb adg ahm))),feG prog,ar0⟩ 6000 (base := 2000) (av := []) (by kernel_rfl)
def a9h : List (Ent prog) := ⟨_,_,_,_,bip⟩ :: a8j
theorem be6 : Con prog 370 [.lst 3 [.agg [.v (.bool false),.lst 1 [.v (.int .u32 4)],.lst 1 [.v (.int .u32 1)]]]] [] (.ms 300 3 0 1) [(300,some (.row 3 [.agg [.v (.bool false),.lst 1 [.v (.int .u32 4)],.lst 1 [.v (.int .u32 1)]]]))] := ahr ⟨orF a9h (orF [⟨28,[fb.av,fb.av],bl true,[],aai fb adg⟩] (ats (ar4 fb adg ahm))),feG prog,ar0⟩ 6000 (base := 2000) (av := []) (by kernel_rfl)
def a3n : List (Ent prog) := ⟨_,_,_,_,be6⟩ :: a9h
theorem bf3 : Con prog 104 [ah5,.lst 4 [.agg [.v (.bool false),.v (.slice none 0 0),.v (.slice none 0 0),.v (.bool false)]],.lst 1 [.v (.int .i64 1),.v (.int .i64 0)]] [] (.tup [amt,.v .nilIface]) [] := ahr ⟨orF a3n (orF [⟨28,[fb.av,fb.av],bl true,[],aai fb adg⟩] (ats (ar4 fb adg ahm))),feG prog,ar0⟩ 6000 (base := 2000) (av := []) (by kernel_rfl)
def a3d : List (Ent prog) := ⟨_,_,_,_,bf3⟩ :: a3n
theorem bf5 : Con prog 375 [ah5,.lst 4 [.agg [.v (.bool false),.v (.slice none 0 0),.v (.slice none 0 0),.v (.bool false)]],amt] [] (.agg [.v (.int .i64 0),.v (.int .i64 0)]) [] := ahr ⟨orF a3d (orF [⟨28,[fb.av,fb.av],bl true,[],aai fb adg⟩] (ats (ar4 fb adg ahm))),feG prog,ar0⟩ 6000 (base := 2000) (av := []) (by kernel_rfl)
def a40 : List (Ent prog) := ⟨_,_,_,_,bf5⟩ :: a3d
theorem bfi : Con prog 13 [ah5,.v (.int .i64 0),amt] [] (.tup [.lst 3 [.agg [.v (.bool false),.lst 1 [.v (.int .u32 1)],.lst 1 [.v (.int .u32 1)]]],.v .nilIface]) [] := ahr ⟨orF a40 (orF [⟨28,[fb.av,fb.av],bl true,[],aai fb adg⟩] (ats (ar4 fb adg ahm))),feG prog,ar0⟩ 6000 (base := 2000) (av := []) (by kernel_rfl)
def a27 : List (Ent prog) := ⟨_,_,_,_,bfi⟩ :: a40
theorem bfh : Con prog 13 [ah5,.v (.int .i64 1),amt] [] (.tup [.lst 3 [],.v .nilIface]) [] := ahr ⟨orF a27 (orF [⟨28,[fb.av,fb.av],bl true,[],aai fb adg⟩] (ats (ar4 fb adg ahm))),feG prog,ar0⟩ 6000 (base := 2000) (av := []) (by kernel_rfl)
def a04 : List (Ent prog) := ⟨_,_,_,_,bfh⟩ :: a27
theorem be5 : Con prog 105 [ah5,.lst 4 [.agg [.v (.bool false),.v (.slice none 0 0),.v (.slice none 0 0),.v (.bool false)]],amt] [] (.tup [.ms 300 1 0 2,.v .nilIface]) [(300,some (.row 1 [.v (.int .i64 1),.v (.int .i64 0)]))] := ahr ⟨orF a04 (orF [⟨28,[fb.av,fb.av],bl true,[],aai fb adg⟩] (ats (ar4 fb adg ahm))),feG prog,ar0⟩ 6000 (base := 2000) (av := []) (by kernel_rfl)
def bca : List (Ent prog) := ⟨_,_,_,_,be5⟩ :: a04
theorem agv : FnC prog 32 [] (bl true) := ahr ⟨orF bca (orF [⟨28,[fb.av,fb.av],bl true,[],aai fb adg⟩] (ats (ar4 fb adg ahm))),feG prog,ar0⟩ 6000 (base := 2000) (av := []) (by kernel_rfl)
end Go.Lw
namespace Go.Lw
open Go.Proofs
theorem aqb (l : Li) (hw : l.okw) (xs : List Tn) (hxw : ∀ x ∈ xs, x.t.wok) (hxl : xs.length <= 281474976710656) : FnC prog 5 [l.av, .lst 4 (xs.map Tn.av)] (bl true) := by
 refine gF0 func5 ?_
 refine gc agv ?_
 refine gcG (fun _ => (aog l hw xs hxl)) ?_
 refine gC (fun ht20 => ?_) (fun ht20 => ?_)
 ·refine gc agv ?_
  refine gE1 ?_
  first | rfl | (simp; done)
 ·have h1 := bdn ht20
  obtain ⟨h3,h4,h5⟩ := ani h1
  rw [all_eq_true] at h5
  have hl := a37 h3 hw
  have hxs : ∀ x ∈ xs,x.t.ok := fun x hx => (awm (h5 x hx) (hxw x hx)).1
  have hys : ∀ y ∈ ao1 xs, y.t.ok := fun y hy => by
   unfold ao1 at hy
   split at hy
   ·obtain ⟨x, hx, rfl⟩ := List.mem_map.1 hy
    exact a09 (awm (h5 x hx) (hxw x hx)).2 (by omega)
   ·cases hy
  have hyl : (ao1 xs).length <= 20:=by unfold ao1; split; rw [length_map]; exact h4; exact zero_le _
  have hml := a55 hl
  refine gc (afx l hl) ?_
  refine gc (ag4 xs hxs (by omega)) ?_
  refine gc (auj xs hxs (by omega)) ?_
  refine gc (apk (awf xs)) ?_
  refine glG ?_
  refine glG ?_
  refine gC (fun ht47 => ?_) (fun ht47 => ?_) (st1 := (7,0))
  ·exact absurd ht47 (by simp [aaa])
  ·refine gl ?_
   refine gL1 [2,5,6,7,9,48,49] [2,5] (fun (i : Nat) => [(50,some (i64 i))]) (fun _ => []) (fun i => i <= (ao1 xs).length) (fun i => (ao1 xs).length - i) 0 (zero_le _) ?_
   rintro i hi K1 hK1
   refine gC (fun ht51 => ?_) (fun ht51 => ?_)
   ·have hin := abb ht51
    obtain ⟨y,hy⟩ := ab6 hin
    refine gi (aae hy) ?_
    refine gi (aae hy) ?_
    refine gc (an6 y (hys y (mem_of_getElem? hy))) ?_
    refine gD ?_
    refine gC (fun ht62 => ?_) (fun ht62 => ?_) (st1 := (12,0))
    ·cases ht62
    ·refine ga aas ?_
     exact gK1 hK1 (i + 1) hin
   ·refine gc (agx l hl) ?_
    refine gC (fun ht67 => ?_) (fun ht67 => ?_)
    ·have h6 := anb ht67
     rw [a3f h6]
     refine gc (apk (liE l)) ?_
     refine gcG (fun _ => (Con.subA (.cons (.refl _) (.cons (Sub.agg (.cons (.refl _) (.cons (.nil _ _ _) (.cons (.nil _ _ _) (.cons (.nil _ _ _) .nil)))) rfl) .nil)) (aai li0 a8d))) ?_
     refine gE1 ?_
     simp [aaa]; rfl
    ·have h6 := alz ht67
     rw [arb h6]
     refine gcG (fun _ => (at1 l hl h6)) ?_
     refine gcG (fun _ => (aai (aop l) (avy hl))) ?_
     refine gD ?_
     refine gE1 ?_
     rw [h6]; rfl
theorem avd (l : Li) (hw : l.okw) (xs : List Tn) (hxw : ∀ x ∈ xs, x.t.wok) (hxl : xs.length <= 281474976710656) : FnC prog 6 [l.av, .lst 4 (xs.map Tn.av)] (bl true) := by
 refine gF0 func6 ?_
 refine gc agv ?_
 refine gcG (fun _ => (aog l hw xs hxl)) ?_
 refine gcG (fun h => (agx l (a37 (ani (bdn h)).1 hw))) ?_
 refine gC (fun ht30 => ?_) (fun ht30 => ?_)
 ·refine gc agv ?_
  refine gE1 ?_
  first | rfl | (simp; done)
 ·obtain ⟨h1, h6⟩ := bg6 ht30
  obtain ⟨h3,h4,h5⟩ := ani h1
  rw [all_eq_true] at h5
  have hl := a37 h3 hw
  have hxs : ∀ x ∈ xs,x.t.ok := fun x hx => (awm (h5 x hx) (hxw x hx)).1
  have hys : ∀ y ∈ xs.map aoq, y.t.ok := fun y hy => by
   obtain ⟨x,hx,rfl⟩ := List.mem_map.1 hy
   exact a09 (awm (h5 x hx) (hxw x hx)).2 (by omega)
  have hml := avy hl
  have h7 := bc8 h6
  have hM := afx l hl
  rw [h6,arb h6] at hM
  have hM2 := afx (aop l) hml
  rw [h7,arb h7,bd0 hl h6] at hM2
  have hC := agx (aop l) hml
  rw [h7] at hC
  have hS := aji (aop l) hml h7
  rw [(awp l).splitG,(awp l).splitE] at hS
  obtain ⟨hgs,hgl⟩ := bh4 h6
  refine gc hM ?_
  refine gcG (fun _ => hC) ?_
  refine gC (fun ht43 => ?_) (fun ht43 => ?_) (st1 := (5,0))
  ·cases ht43
  ·refine gc hM2 ?_
   refine gcG (fun _ => (aai l hl)) ?_
   refine gC (fun ht56 => ?_) (fun ht56 => ?_) (st1 := (8,0))
   ·cases ht56
   ·refine gc (aji l hl h6) ?_
    refine gc hS ?_
    refine gcG (fun _ => (avz (splitG l) hgs hgl)) ?_
    refine gC (fun ht75 => ?_) (fun ht75 => ?_) (st1 := (12,0))
    ·exact absurd ht75 (by simp [aaa])
    ·refine gc (ag4 xs hxs (by omega)) ?_
     refine gC (fun ht82 => ?_) (fun ht82 => ?_)
     ·have h8 := aec ht82
      refine gl ?_
      refine gE1 ?_
      rw [au8 h8]; rfl
     ·have h8 := aee ht82
      have hT2 := ag4 (xs.map aoq) hys (by rw [length_map]; omega)
      rw [art h8,aq8 (art h8),be3 hxs h8] at hT2
      rw [aq8 h8]
      refine gc hT2 ?_
      refine glG ?_
      refine glG ?_
      refine gC (fun ht99 => ?_) (fun ht99 => ?_) (st1 := (18,0))
      ·exact absurd ht99 (by simp [aaa,az2,ag8])
      ·refine gl ?_
       refine gL1 [1,15,100,101] [] (fun (i : Nat) => [(102,some (i64 i))]) (fun _ => []) (fun i => i <= xs.length) (fun i => xs.length - i) 0 (zero_le _) ?_
       rintro i hi K1 hK1
       refine gC (fun ht103 => ?_) (fun ht103 => ?_)
       ·have hin := abb ht103
        obtain ⟨y,hy⟩ := ab6 hin
        refine gi (aae hy) ?_
        refine gi (aae hy) ?_
        refine gc (an6 y (hxs y (mem_of_getElem? hy))) ?_
        refine gD ?_
        refine gC (fun ht114 => ?_) (fun ht114 => ?_) (st1 := (23,0))
        ·cases ht114
        ·refine ga aas ?_
         exact gK1 hK1 (i + 1) hin
       ·refine gE1 ?_
        rfl
end Go.Lw
namespace Go.Lw
open Go.Proofs Go.Proofs.YtjidoooidfcjgaaGreat
open Go.ChangeShapes Go.WideShapes Go.ChangeAt Go.RowKit
set_option maxRecDepth 100000 in
theorem ajd (os : Os) (started : os.Started) (H : Type) (enc : TypeId × Value -> H) :
  ReturnsInHanded {} Tryz.checked os 5 .any (Rows.modesMirrorsSpec.pre6 enc prog Tryz.f5 Rows.modesMirrorsRow.domain false) (Rows.modesMirrorsSpec.post enc prog Tryz.f5 false true false false) := by
 refine returnsInHanded_of_change_sized (C := Tryz.checked) own started (by kernel_rfl) func5
  (ChangeSpec.witness6 (enc := enc) (C := Tryz.checked) false ⟨#[],#[.agg #[.string ⟨#[]⟩,.slice none 0 0,.slice none 0 0,.slice none 0 0],.slice none 0 0],[]⟩ 8 (by kernel_rfl) (by kernel_rfl) (by kernel_rfl) (by kernel_rfl)) ?_
 intro W base args ds gs before hval0 hW hcnd hwt0 _
 have hval : ∀ (j : Nat) t v,Tryz.f5.params[j]? = some t -> args[j]? = some v -> Value.okWide prog W .any base t v := hval0
 have hwt : (DataW.weightsEach prog (Tryz.f5.params.toList ++ Rows.modesMirrorsSpec.plain.varTypes prog) (ds ++ gs)).all (· <= reachBytes) = true := hwt0
 have hW' := hW
 obtain ⟨p,q,hA0,hV,rfl,hfz,hnd⟩ := hW
 have hA : DataW.TrodAll enc prog W 0 (fun _ => true) true Tryz.f5.params.toList args.toList ds p := hA0
 rw [Tryz.params5] at hA hval hwt
 obtain ⟨v0,v1,d0,d1,p0,p1,rfl,rfl,rfl,h0,h1⟩ := trodAll_two hA
 obtain ⟨rfl,rfl⟩ := trodVars_none hV
 clear hA0 hval0 hwt0
 have hlt : ∀ x ∈ p0 ++ p1,x.block < W.heap.size := fun x hx => hW'.lt x (by simpa using hx)
 have hw0 : ∀ n ∈ d0.weights prog 26, n <= reachBytes := fun n hn => by
  have := List.all_eq_true.1 hwt n (DataW.weights_mem_each (j := 0) rfl rfl n hn)
  simpa using this
 have hw1 : ∀ n ∈ d1.weights prog 55, n <= reachBytes := fun n hn => by
  have := List.all_eq_true.1 hwt n (DataW.weights_mem_each (j := 1) rfl rfl n hn)
  simpa using this
 obtain ⟨x0,q0,r0⟩ := a08 Tryz.underlying26 a17 (hval 0 26 v0 rfl rfl) h0 hw0
 obtain ⟨x1,q1,r1⟩ := az9 awg (fun _ => rfl) (ali Tryz.underlying55 (hval 1 55 v1 rfl rfl)) h1 hw1
 have hc := FnC.calls (W := W) (vs := #[v0, v1]) (aqb x0 q0 x1 q1.1 q1.2) rfl (fun j v x hv hx => by
  match j,hv,hx with
  | 0,hv,hx => cases hv; cases hx; exact r0
  | 1,hv,hx => cases hv; cases hx; exact r1)
 refine hc.mono fun e W' ⟨he,hb⟩ => ?_
 subst he
 refine ⟨_,rfl,akm hW' rfl rfl (fun _ _ _ => trodAll_mk1 (shut_bool Tryz.underlying4 _)) (fun sp hsp => ?_) rfl hb (ok_one (by kernel_rfl) rfl (okWide_bool_mk Tryz.underlying4 _))⟩
 rw [Tryz.params5]
 have hs : ∀ x ∈ p0 ++ p1,sp x.block = true := fun x hx => hsp x (by simpa using hx)
 have g0 := amg (sp' := sp) (by kernel_rfl) (of_decide_eq_true (by kernel_rfl)) h0 hb (fun x hx => hlt x (by simp [hx])) (fun x hx => hs x (by simp [hx]))
 have g1 := amg (sp' := sp) (by kernel_rfl) (of_decide_eq_true (by kernel_rfl)) h1 hb (fun x hx => hlt x (by simp [hx])) (fun x hx => hs x (by simp [hx]))
 have g := trodAll_mk2 g0 g1
 rw [show p0 ++ p1 ++ [] = p0 ++ p1 from by simp]
 exact g
set_option maxRecDepth 100000 in
theorem al0 : prog.closure 5 = [5,32,50,136,246,120,221,241,333,222,133,236,239,332,240,215,237,330,393,334,395,243,394,242,238,331,396,244,104,194,144,260,102,198,300,372,373,410,199,229,326,308,312,380,377,381,422,423,362,424,425,421,426,427,310,271,270,327,307,311,200,301,302,374,207,306,379,201,348,401,432,444,434,447,448,446,402,433,445,436,435,403,261,349,210,313,295,203,196,150,208,209,309,376,378,149,206,305,268,350,345,364,195,296,192,370,297,52,56,145,262,263,351,286,367,288,368,366,285,269,111,146,264,352,147,266,363,265,353,359,409,354,404,355,405,406,356,407,408,437,357,358,360,361,148,267,138,247,335,281,397,431,443,248,151,157,73,71,167,169,168,284,164,365,282,163,287,231,159,170,158,249,155,280,68,161,283,165,59,258,347,400,65,162,63,66,250,139,58,152,156,251,336,398,337,61,252,153,272,225,273,205,154,275,160,274,277,276,279,278,338,339,340,399,341,342,343,256,344,346,253,259,140,62,72,254,141,69,166,64,70,67,255,257,298,371,105,204,304,375,412,413,438,439,449,414,411,416,417,440,441,442,450,415,419,420,418,13,57,34,108,109,110,106,28,103,202,303,33,10,14,74,171,290,289,291,75,172,212,314,315,382,134,76,173,174,115,214,116,132,49,135,245,213,77,39,117,216,118,217,316,218,317,383,219,107,92,35,112,211,36,113,114,16,37,38]:=by kernel_rfl
theorem ajn : joinedFacts prog 5 Tryz.f5 Rows.modesMirrorsSpec Rows.modesMirrorsRow = true := by
 unfold joinedFacts Program.recurses Program.inPlace Program.unfollowed Program.varsNamed
 rw [al0,at8,aw5,awh,a05,awj,ax7]
 kernel_rfl
theorem modesMirrors_holds : Rows.ModesMirrorsSaid :=
 OpenClaim.holds_of_wide 5 Tryz.f5 rfl rfl rfl rfl rfl rfl rfl ⟨rfl, rfl, rfl, rfl, rfl⟩ rfl rfl rfl rfl rfl (by kernel_rfl) func5 ajn
  (of_decide_eq_true (by kernel_rfl)) (by unfold Func.isWrapper; first | (rw [if_pos (by decide +kernel)]; kernel_rfl) | (rw [if_neg (by decide +kernel)]; exact ⟨rfl,rfl⟩))
  (fun os started H enc _ => ajd os started H enc)
end Go.Lw
namespace Go.Lw
open Go.Proofs Go.Proofs.YtjidoooidfcjgaaGreat
open Go.ChangeShapes Go.WideShapes Go.ChangeAt Go.RowKit
set_option maxRecDepth 100000 in
theorem ak7 (os : Os) (started : os.Started) (H : Type) (enc : TypeId × Value -> H) :
  ReturnsInHanded {} Tryz.checked os 6 .any (Rows.modesTwiceSpec.pre6 enc prog Tryz.f6 Rows.modesTwiceRow.domain false) (Rows.modesTwiceSpec.post enc prog Tryz.f6 false true false false) := by
 refine returnsInHanded_of_change_sized (C := Tryz.checked) own started (by kernel_rfl) func6
  (ChangeSpec.witness6 (enc := enc) (C := Tryz.checked) false ⟨#[],#[.agg #[.string ⟨#[]⟩,.slice none 0 0,.slice none 0 0,.slice none 0 0],.slice none 0 0],[]⟩ 8 (by kernel_rfl) (by kernel_rfl) (by kernel_rfl) (by kernel_rfl)) ?_
 intro W base args ds gs before hval0 hW hcnd hwt0 _
 have hval : ∀ (j : Nat) t v,Tryz.f6.params[j]? = some t -> args[j]? = some v -> Value.okWide prog W .any base t v := hval0
 have hwt : (DataW.weightsEach prog (Tryz.f6.params.toList ++ Rows.modesTwiceSpec.plain.varTypes prog) (ds ++ gs)).all (· <= reachBytes) = true := hwt0
 have hW' := hW
 obtain ⟨p,q,hA0,hV,rfl,hfz,hnd⟩ := hW
 have hA : DataW.TrodAll enc prog W 0 (fun _ => true) true Tryz.f6.params.toList args.toList ds p := hA0
 rw [Tryz.params6] at hA hval hwt
 obtain ⟨v0,v1,d0,d1,p0,p1,rfl,rfl,rfl,h0,h1⟩ := trodAll_two hA
 obtain ⟨rfl,rfl⟩ := trodVars_none hV
 clear hA0 hval0 hwt0
 have hlt : ∀ x ∈ p0 ++ p1,x.block < W.heap.size := fun x hx => hW'.lt x (by simpa using hx)
 have hw0 : ∀ n ∈ d0.weights prog 26, n <= reachBytes := fun n hn => by
  have := List.all_eq_true.1 hwt n (DataW.weights_mem_each (j := 0) rfl rfl n hn)
  simpa using this
 have hw1 : ∀ n ∈ d1.weights prog 55, n <= reachBytes := fun n hn => by
  have := List.all_eq_true.1 hwt n (DataW.weights_mem_each (j := 1) rfl rfl n hn)
  simpa using this
 obtain ⟨x0,q0,r0⟩ := a08 Tryz.underlying26 a17 (hval 0 26 v0 rfl rfl) h0 hw0
 obtain ⟨x1,q1,r1⟩ := az9 awg (fun _ => rfl) (ali Tryz.underlying55 (hval 1 55 v1 rfl rfl)) h1 hw1
 have hc := FnC.calls (W := W) (vs := #[v0, v1]) (avd x0 q0 x1 q1.1 q1.2) rfl (fun j v x hv hx => by
  match j,hv,hx with
  | 0,hv,hx => cases hv; cases hx; exact r0
  | 1,hv,hx => cases hv; cases hx; exact r1)
 refine hc.mono fun e W' ⟨he,hb⟩ => ?_
 subst he
 refine ⟨_,rfl,akm hW' rfl rfl (fun _ _ _ => trodAll_mk1 (shut_bool Tryz.underlying4 _)) (fun sp hsp => ?_) rfl hb (ok_one (by kernel_rfl) rfl (okWide_bool_mk Tryz.underlying4 _))⟩
 rw [Tryz.params6]
 have hs : ∀ x ∈ p0 ++ p1,sp x.block = true := fun x hx => hsp x (by simpa using hx)
 have g0 := amg (sp' := sp) (by kernel_rfl) (of_decide_eq_true (by kernel_rfl)) h0 hb (fun x hx => hlt x (by simp [hx])) (fun x hx => hs x (by simp [hx]))
 have g1 := amg (sp' := sp) (by kernel_rfl) (of_decide_eq_true (by kernel_rfl)) h1 hb (fun x hx => hlt x (by simp [hx])) (fun x hx => hs x (by simp [hx]))
 have g := trodAll_mk2 g0 g1
 rw [show p0 ++ p1 ++ [] = p0 ++ p1 from by simp]
 exact g
set_option maxRecDepth 100000 in
theorem ao4 : prog.closure 6 = [6,32,50,136,246,120,221,241,333,222,133,236,239,332,240,215,237,330,393,334,395,243,394,242,238,331,396,244,104,194,144,260,102,198,300,372,373,410,199,229,326,308,312,380,377,381,422,423,362,424,425,421,426,427,310,271,270,327,307,311,200,301,302,374,207,306,379,201,348,401,432,444,434,447,448,446,402,433,445,436,435,403,261,349,210,313,295,203,196,150,208,209,309,376,378,149,206,305,268,350,345,364,195,296,192,370,297,52,56,145,262,263,351,286,367,288,368,366,285,269,111,146,264,352,147,266,363,265,353,359,409,354,404,355,405,406,356,407,408,437,357,358,360,361,148,267,138,247,335,281,397,431,443,248,151,157,73,71,167,169,168,284,164,365,282,163,287,231,159,170,158,249,155,280,68,161,283,165,59,258,347,400,65,162,63,66,250,139,58,152,156,251,336,398,337,61,252,153,272,225,273,205,154,275,160,274,277,276,279,278,338,339,340,399,341,342,343,256,344,346,253,259,140,62,72,254,141,69,166,64,70,67,255,257,298,371,105,204,304,375,412,413,438,439,449,414,411,416,417,440,441,442,450,415,419,420,418,13,57,34,108,109,110,106,28,103,202,303,33,10,14,74,171,290,289,291,75,172,212,314,315,382,134,76,173,174,115,214,116,132,49,135,245,213,77,39,117,216,118,217,316,218,317,383,219,107,92,40,35,112,211,37]:=by kernel_rfl
theorem ak5 : joinedFacts prog 6 Tryz.f6 Rows.modesTwiceSpec Rows.modesTwiceRow = true := by
 unfold joinedFacts Program.recurses Program.inPlace Program.unfollowed Program.varsNamed
 rw [ao4,at8,aw5,awh,a05,awj,ax7]
 kernel_rfl
theorem modesTwice_holds : Rows.ModesTwiceSaid :=
 OpenClaim.holds_of_wide 6 Tryz.f6 rfl rfl rfl rfl rfl rfl rfl ⟨rfl, rfl, rfl, rfl, rfl⟩ rfl rfl rfl rfl rfl (by kernel_rfl) func6 ak5
  (of_decide_eq_true (by kernel_rfl)) (by unfold Func.isWrapper; first | (rw [if_pos (by decide +kernel)]; kernel_rfl) | (rw [if_neg (by decide +kernel)]; exact ⟨rfl,rfl⟩))
  (fun os started H enc _ => ak7 os started H enc)
end Go.Lw
namespace Go.Lw
end Go.Lw
namespace Go.Proofs.YtjidoooidfcjgaaGreat
theorem modesMirrors_proved : Rows.ModesMirrorsSaid := Go.Lw.modesMirrors_holds
end Go.Proofs.YtjidoooidfcjgaaGreat
namespace Go.Proofs.YtjidoooidfcjgaaGreat
theorem modesTwice_proved : Rows.ModesTwiceSaid := Go.Lw.modesTwice_holds
end Go.Proofs.YtjidoooidfcjgaaGreat
