/- DyadNumbers: for any linkage, any group and any assembly the law returns true and leaves its arguments as they were. No other condition. Part 6 of 7: what the later parts need -/
import Derived.Test.YtjidoooidfcjgaaGreatXe
import Derived.Laws.Cover3
set_option linter.unusedVariables false
open List (mem_of_getElem? mem_append map_cons mem_cons length_cons length_append length_nil getD_eq_getElem?_getD getElem?_eq_none all_eq_true getElem?_take getElem?_drop getElem?_map getElem?_eq_getElem nil_append map_append length_take take_of_length_le drop_zero take_length not_mem_nil length_map map_map length_replicate map_replicate map_set length_set)
open Nat (eq_of_beq_eq_true le_refl lt_of_lt_of_le lt_or_ge le_trans zero_le)
open Option (map_eq_some_iff)
open Bool (and_eq_true)
open Array (getD_eq_getD_getElem?)
open Int (toNat_natCast)
open Go.Proofs.Tryz
namespace Go.Lw
open Go.Proofs
theorem bkh {l : Li} {known : List Bool} (hl : l.ok) (hli : liE l = 0) (kind body : Int) (hk : known.length = l.bodies.length) :
  Con prog 316 [l.av,i64 kind,i64 body,.ms 1000 1 0 known.length] [(1000,some (.row 1 (known.map bl)))] (i64 (abg l kind body known)) [(1000,some (.row 1 (known.map bl)))] := by
 refine Con.borrow (args := [l.av,i64 kind,i64 body,.lst 1 (known.map bl)]) 1000 1 (known.map bl) rfl rfl rfl ?_ rfl (fun k' x h => by cases h) (apt l hl hli kind body known hk)
 intro j x' hj
 match j,hj with
 | 0,hj => cases hj; exact .inl rfl
 | 1,hj => cases hj; exact .inl rfl
 | 2,hj => cases hj; exact .inl rfl
 | 3,hj => cases hj; exact .inr ⟨0,known.length,rfl,by simp,by rw [drop_zero,take_of_length_le (by simp)]; rfl⟩
theorem bm0 {l : Li} {known : List Bool} (hl : l.ok) (b : Nat) (hb : b < known.length) :
  Con prog 317 [l.av,.ms 1000 1 0 known.length,i64 b] [(1000,some (.row 1 (known.map bl)))] (bl (ahh l known b)) [(1000,some (.row 1 (known.map bl)))] := by
 refine Con.borrow (args := [l.av,.lst 1 (known.map bl),i64 b]) 1000 1 (known.map bl) rfl rfl rfl ?_ rfl (fun k' x h => by cases h) (a2h l hl known b hb)
 intro j x' hj
 match j,hj with
 | 0,hj => cases hj; exact .inl rfl
 | 1,hj => cases hj; exact .inr ⟨0,known.length,rfl,by simp,by rw [drop_zero,take_of_length_le (by simp)]; rfl⟩
 | 2,hj => cases hj; exact .inl rfl
theorem auz (l : Li) (hl : l.ok) (hli : liE l = 0) (known : List Bool) (hk : known.length = l.bodies.length) : Con prog 217 [l.av, .ms 1000 1 0 known.length] [(1000, some (.row 1 (known.map bl)))] (.tup [((ab2 l known).getD default).av, bl (ab2 l known).isSome]) [(1000, some (.row 1 (known.map bl)))] := by
 have hld := hl.ld
 refine gF func217 (fun k z h => abz h) ?_
 refine gl ?_
 refine gL1 [2,4,10,11] [2,4,1000] (fun (i : Nat) => [(1,some (.ms 1000 1 0 known.length)),(12,some (i64 i))]) (fun _ => []) (fun i => i <= l.drivers.length /\ ∀ j,j < i -> (!aix l known j) = true) (fun i => l.drivers.length - i) 0 ⟨zero_le _,fun j h => by omega⟩ ?_
 rintro i ⟨hi,hj⟩ K1 hK1
 refine gC (fun ht13 => ?_) (fun ht13 => ?_)
 ·have hin := abo ht13
  obtain ⟨d,hd⟩ := ab9 hin
  have hdd : l.drivers.getD i default = d := aag hd
  have hb := ahn (a2o hli hd)
  obtain ⟨v,hv⟩ : ∃ v,known[d.body.toNat]? = some v := ab9 (by omega)
  have ev : kn known d.body = v := aag hv
  refine gi (aaf hd) ?_
  refine gs (af3 (.tmp rfl) (.tmp rfl) T162 rfl T4 rfl (by omega) (by omega) rfl) ?_
  refine gs (aar (.tmp rfl) rfl (by rw [Nat.zero_add,getElem?_map,hv]; rfl) T4 rfl rfl rfl) ?_
  refine gC (fun ht21 => ?_) (fun ht21 => ?_)
  ·have h2 : aix l known i = false := by unfold aix; rw [hdd, ev, ht21]; rfl
   refine ga aau ?_
   exact gK1 hK1 (i + 1) ⟨hin,fun k h9 => by rcases lt_or_ge k i with g | g; exact hj k g; (have : k = i:=by omega); subst this; rw [h2]; rfl⟩
  ·have hv0 : v = false := ht21
   refine gt (ajg (bkh hl hli 0 d.body hk) (.cons (.tmp rfl) (.cons (.const _) (.cons (.tmp rfl) (.cons (.tmp rfl) .nil)))) rfl rfl rfl) ?_
   refine gC (fun ht28 => ?_) (fun ht28 => ?_)
   ·have h2 : aix l known i = true := by unfold aix; rw [hdd, ev, hv0, decide_eq_true (blj ht28)]; rfl
    have hg : ab2 l known = some ⟨0,[d.body],[abg l 0 d.body known],i⟩:=by unfold ab2; rw [ada hin hj (by rw [h2]; rfl),<- hdd]; rfl
    refine gR ?_
    rw [hg]
    exact Fin.keep (ade rfl)
   ·have h2 : aix l known i = false := by unfold aix; rw [hdd, decide_eq_false (bk3 ht28), Bool.and_false]
    refine ga aau ?_
    exact gK1 hK1 (i + 1) ⟨hin,fun k h9 => by rcases lt_or_ge k i with g | g; exact hj k g; (have : k = i:=by omega); subst this; rw [h2]; rfl⟩
 ·have hin := aan hi ht13
  subst hin
  have hg : ab2 l known = none:=by unfold ab2; rw [aci hj]; rfl
  refine gR ?_
  exact Fin.sub (Fin.keep (ade rfl)) (by rw [hg]; exact Sub.tup (.cons amt (.cons (.refl _) .nil)))
theorem a2b (l : Li) (hl : l.ok) (hli : liE l = 0) (known : List Bool) (hk : known.length = l.bodies.length) : Con prog 218 [l.av, .ms 1000 1 0 known.length] [(1000, some (.row 1 (known.map bl)))] (.tup [((aev l known).getD default).av, bl (aev l known).isSome]) [(1000, some (.row 1 (known.map bl)))] := by
 have h8 := (abw hli).2.2.2.1
 refine gF func218 (fun k z h => abz h) ?_
 refine gl ?_
 refine gL1 [2,4,12,13] [2,4,1000] (fun (i : Nat) => [(1,some (.ms 1000 1 0 known.length)),(14,some (i64 i))]) (fun _ => []) (fun i => i <= l.bodies.length /\ ∀ j,j < i -> (aza l known j).isNone = true) (fun i => l.bodies.length - i) 0 ⟨zero_le _,fun j h => by omega⟩ ?_
 rintro i ⟨hi,hj⟩ K1 hK1
 refine gC (fun ht15 => ?_) (fun ht15 => ?_)
 ·have hin := abo ht15
  refine ga aau ?_
  refine gL1 [2,4,6,12,13,14] [2,4,1000] (fun (k : Nat) => [(1,some (.ms 1000 1 0 known.length)),(7,some (i64 (i + 1 + k : Nat)))]) (fun _ => []) (fun k => i + 1 + k <= l.bodies.length /\ ∀ j,j < k -> (!ae5 l known i (i + 1 + j)) = true) (fun k => l.bodies.length - k) 0 ⟨by omega,fun j h => by omega⟩ ?_
  rintro k ⟨hkl,hkj⟩ K2 hK2
  refine gl ?_
  refine gC (fun ht23 => ?_) (fun ht23 => ?_)
  ·have hkn : i + 1 + k < l.bodies.length := abo ht23
   refine gt (ajg (bm0 hl i (by omega)) (.cons (.tmp rfl) (.cons (.tmp rfl) (.cons (.tmp rfl) .nil))) rfl rfl rfl) ?_
   refine gu (acb rfl rfl rfl (fun h => ajg (bm0 hl (i + 1 + k) (by omega)) (.cons (.opt rfl (o1 h)) (.cons (.opt rfl (o1 h)) (.cons (.opt rfl (o1 h)) .nil))) rfl rfl rfl)) ?_
   refine gC (fun ht37 => ?_) (fun ht37 => ?_)
   ·have h2 : ae5 l known i (i + 1 + k) = false := by unfold ae5; rw [show (ahh l known i && ahh l known ((i + 1 + k : Nat) : Int)) = false from by rcases bg8 ht37 with g | g; (rw [g]; rfl); (rw [g, Bool.and_false])]; rfl
    refine ga aau ?_
    exact gK1 hK2 (k + 1) ⟨by omega,fun j h9 => by rcases lt_or_ge j k with g | g; exact hkj j g; (have : j = k:=by omega); subst this; rw [h2]; rfl⟩
   ·have hff := bey ht37
    refine gt (ajg (bkh hl hli 0 i hk) (.cons (.tmp rfl) (.cons (.const _) (.cons (.tmp rfl) (.cons (.tmp rfl) .nil)))) rfl rfl rfl) ?_
    refine gt (ajg (bkh hl hli 0 (i + 1 + k : Nat) hk) (.cons (.tmp rfl) (.cons (.const _) (.cons (.tmp rfl) (.cons (.tmp rfl) .nil)))) rfl rfl rfl) ?_
    refine gc (a11 l (by omega) (i + 1 + k) hkn) ?_
    refine gc (apt l hl hli 0 i (aeg l.bodies.length ((i + 1 + k : Nat) : Int)) (ad5 _ _)) ?_
    refine gD ?_
    refine gC (fun ht61 => ?_) (fun ht61 => ?_)
    ·have h2 : ae5 l known i (i + 1 + k) = true := by unfold ae5; rw [hff.1, hff.2]; exact (at8.symm.trans ht61)
     have hat : aza l known i = some (i + 1 + k):=by unfold aza; rw [ada (by omega) hkj (by rw [h2]; rfl),Option.map_some]; congr 1; omega
     have hg : aev l known = some (prG l known i (i + 1 + k)):=by unfold aev; rw [ada hin hj (by rw [hat]; rfl),Option.map_some,hat]
     refine gR ?_
     rw [hg]
     exact Fin.keep (ade rfl)
    ·have h2 : ae5 l known i (i + 1 + k) = false := by unfold ae5; rw [show (decide (0 <= abg l 0 i known) && decide (0 <= abg l 0 ((i + 1 + k : Nat) : Int) known) && decide (0 <= abg l 0 i (aeg l.bodies.length ((i + 1 + k : Nat) : Int)))) = false from at8.symm.trans ht61, Bool.and_false]
     refine ga aau ?_
     exact gK1 hK2 (k + 1) ⟨by omega,fun j h9 => by rcases lt_or_ge j k with g | g; exact hkj j g; (have : j = k:=by omega); subst this; rw [h2]; rfl⟩
  ·have hkn : ¬ i + 1 + k < l.bodies.length := fun h => by have h1 := a8j ht23; omega
   have hat : aza l known i = none:=by unfold aza; rw [show l.bodies.length - (i + 1) = k by omega,aci hkj]; rfl
   refine ga aau ?_
   exact gK1 hK1 (i + 1) ⟨hin,fun j h9 => by rcases lt_or_ge j i with g | g; exact hj j g; (have : j = i:=by omega); subst this; rw [hat]; rfl⟩
 ·have hin := aan hi ht15
  have hg : aev l known = none:=by unfold aev; rw [<- hin,aci hj]; rfl
  refine gR ?_
  exact Fin.sub (Fin.keep (ade rfl)) (by rw [hg]; exact Sub.tup (.cons amt (.cons (.refl _) .nil)))
theorem avd (l : Li) (hl : l.ok) (hli : liE l = 0) (known : List Bool) (hk : known.length = l.bodies.length) : Con prog 219 [l.av, .ms 1000 1 0 known.length] [(1000, some (.row 1 (known.map bl)))] (.tup [((acq l known).getD default).av, bl (acq l known).isSome]) [(1000, some (.row 1 (known.map bl)))] := by
 have h8 := (abw hli).2.2.2.1
 refine gF func219 (fun k z h => abz h) ?_
 refine gl ?_
 refine gL1 [2,4,11,12] [2,4,1000] (fun (i : Nat) => [(1,some (.ms 1000 1 0 known.length)),(13,some (i64 i))]) (fun _ => []) (fun i => i <= l.bodies.length /\ ∀ j,j < i -> (!aiy l known j) = true) (fun i => l.bodies.length - i) 0 ⟨zero_le _,fun j h => by omega⟩ ?_
 rintro i ⟨hi,hj⟩ K1 hK1
 refine gC (fun ht14 => ?_) (fun ht14 => ?_)
 ·have hin := abo ht14
  refine gt (ajg (bm0 hl i (by omega)) (.cons (.tmp rfl) (.cons (.tmp rfl) (.cons (.tmp rfl) .nil))) rfl rfl rfl) ?_
  refine gC (fun ht20 => ?_) (fun ht20 => ?_)
  ·have h2 : aiy l known i = false := by unfold aiy; rw [af0 ht20]; rfl
   refine ga aau ?_
   exact gK1 hK1 (i + 1) ⟨hin,fun k h9 => by rcases lt_or_ge k i with g | g; exact hj k g; (have : k = i:=by omega); subst this; rw [h2]; rfl⟩
  ·have hf := afu ht20
   refine gt (ajg (bkh hl hli 0 i hk) (.cons (.tmp rfl) (.cons (.const _) (.cons (.tmp rfl) (.cons (.tmp rfl) .nil)))) rfl rfl rfl) ?_
   refine gt (ajg (bkh hl hli 1 i hk) (.cons (.tmp rfl) (.cons (.const _) (.cons (.tmp rfl) (.cons (.tmp rfl) .nil)))) rfl rfl rfl) ?_
   refine gD ?_
   refine gC (fun ht34 => ?_) (fun ht34 => ?_)
   ·have h2 : aiy l known i = false := by unfold aiy; rw [bhw ht34, Bool.and_false]
    refine ga aau ?_
    exact gK1 hK1 (i + 1) ⟨hin,fun k h9 => by rcases lt_or_ge k i with g | g; exact hj k g; (have : k = i:=by omega); subst this; rw [h2]; rfl⟩
   ·obtain ⟨p0, s0⟩ := blb ht34
    have s1 := (afv (l := l) (kind := 1) (body := i) (oth := known)).2
    have h2 : aiy l known i = true:=by unfold aiy; rw [hf,decide_eq_true p0,decide_eq_true s0]; rfl
    obtain ⟨j,hjt⟩ : ∃ j,l.joints[(abg l 1 i known).toNat]? = some j := ab9 (by omega)
    have hjd : l.joints.getD (abg l 1 i known).toNat default = j := aag hjt
    have hg : acq l known = some (sgG l known i):=by unfold acq; rw [ada hin hj (by rw [h2]; rfl),Option.map_some]
    refine gi (adt (n := (abg l 1 i known).toNat) (by omega) hjt) ?_
    refine gC (fun ht42 => ?_) (fun ht42 => ?_)
    ·have hji : j.a = i := ae9 ht42
     refine gR ?_
     rw [hg]; unfold sgG; rw [hjd]; simp only [Option.getD_some,if_pos hji]
     exact Fin.keep (ade rfl)
    ·have hji : j.a ≠ i := afy ht42
     refine gR ?_
     rw [hg]; unfold sgG; rw [hjd]; simp only [Option.getD_some,if_neg hji]
     exact Fin.keep (ade rfl)
 ·have hin := aan hi ht14
  have hg : acq l known = none:=by unfold acq; rw [<- hin,aci hj]; rfl
  refine gR ?_
  exact Fin.sub (Fin.keep (ade rfl)) (by rw [hg]; exact Sub.tup (.cons amt (.cons (.refl _) .nil)))
end Go.Lw
namespace Go.Lw
open Go.Proofs
theorem apf {k : List Bool} {bs : List Int} {q : Nat} {x : Int} (h : bs[q]? = some x) : aas k (bs.drop q) = aas (k.set x.toNat true) (bs.drop (q + 1)) := by
 have hi := (List.getElem?_eq_some_iff.1 h).1
 rw [List.drop_eq_getElem_cons hi,(List.getElem?_eq_some_iff.1 h).2]; rfl
theorem a73 {l : Li} {n : Nat} {known : List Bool} {out : List Gr} {g : Gr} (h : adm l known = some g) : aa0 l (n + 1) known out = aa0 l n (aas known g.bodies) (out ++ [g]) := by
 show (match adm l known with | none => _ | some g => _) = _
 rw [h]
theorem a9c {l : Li} {n : Nat} {known : List Bool} {out : List Gr} (h : adm l known = none) : aa0 l n known out = (known, out) := by
 cases n with
 | zero => rfl
 | succ n => show (match adm l known with | none => _ | some g => _) = _; rw [h]
theorem ap6 {α : Type} {o : Option α} (h : o.isSome = false) : o = none:=by cases o <;> simp_all
theorem a9a {α : Type} {a b : Option α} (h : a.isSome = true) : a = a.or b:=by cases a <;> simp_all
theorem awz {l : Li} {known : List Bool} (h : (ab2 l known).or (aev l known) = none) : adm l known = acq l known := by
 unfold adm
 rw [<- Option.or_assoc,h]; rfl
theorem ayc {l : Li} {known : List Bool} (h : ((ab2 l known).or (aev l known)).isSome = true) : adm l known = (ab2 l known).or (aev l known) := by
 unfold adm
 rw [<- Option.or_assoc]; exact (a9a h).symm
theorem ar3 (l : Li) (hl : l.ok) (hli : liE l = 0) : FnC prog 118 [l.av] (.lst 4 ((adl l).map Gr.av)) := by
 have h8 := (abw hli).2.2.2.1
 have h0 := (abw hli).2.2.2.2
 refine gF0 func118 ?_
 refine gt (aad (akm 900 rfl l (by omega) 0 (by omega)) (.cons (.tmp rfl) (.cons (.const _) .nil)) (by first | exact hH0 | exact hH1 rfl | exact hH2 rfl rfl) rfl rfl) ?_
 refine gl ?_
 refine gW (Wk.virt 901 4 rfl) ?_
 refine gL3 [1,13] [1] (fun (i : Nat) (known : List Bool) (out : List Gr) => [(3,some (.ms 900 1 0 known.length)),(4,some (.ms 901 4 0 out.length)),(14,some (i64 i))]) (fun _ known out => [(900,some (.row 1 (known.map bl))),(901,some (.row 4 (out.map Gr.av)))]) (fun i known out => i <= l.bodies.length /\ known.length = l.bodies.length /\ out.length <= i /\ aa0 l (l.bodies.length - i) known out = aa0 l l.bodies.length (aeg l.bodies.length 0) []) (fun i _ _ => l.bodies.length - i) 0 (aeg l.bodies.length 0) ([]) ⟨zero_le _,ad5 _ _,le_refl _,rfl⟩ ?_ (h1 := (.cons rfl (Sub.of (by rw [ad5])) (.k (.k .nil))))
 rintro i known out ⟨hi,hk,hol,hff⟩ K1 hK1
 refine gC (fun ht15 => ?_) (fun ht15 => ?_) (st2 := (18,0))
 ·have hin := abo ht15
  have hd1 := Con.rekey1 900 rfl rfl rfl (auz l hl hli known hk)
  have hp1 := Con.rekey1 900 rfl rfl rfl (a2b l hl hli known hk)
  have hs1 := Con.rekey1 900 rfl rfl rfl (avd l hl hli known hk)
  refine gt (aad hd1 (.cons (.tmp rfl) (.cons (.tmp rfl) .nil)) (by first | exact hH0 | exact hH1 rfl | exact hH2 rfl rfl) rfl rfl) ?_
  refine gJ1 [1,5,13,14] [1,900,901] (fun (o : Option Gr) => [(3,some (.ms 900 1 0 known.length)),(4,some (.ms 901 4 0 out.length)),(6,some (bl o.isSome))]) (fun o => [(5,some (.box (o.getD default).av.cells))]) (fun o => o = (ab2 l known).or (aev l known)) ?_ ?_
  ·intro K2 hK2
   refine gC (fun ht23 => ?_) (fun ht23 => ?_)
   ·refine gt (aad hp1 (.cons (.tmp rfl) (.cons (.tmp rfl) .nil)) (by first | exact hH0 | exact hH1 rfl | exact hH2 rfl rfl) rfl rfl) ?_
    exact jK1 hK2 (aev l known) (by rw [ap6 (af0 ht23)]; rfl)
   ·exact jK1 hK2 (ab2 l known) (a9a (afu ht23))
  ·rintro o ho
   refine gJ1 [1,5,13,14] [1,900,901] (fun (og : Option Gr) => [(3,some (.ms 900 1 0 known.length)),(4,some (.ms 901 4 0 out.length)),(6,some (bl og.isSome))]) (fun og => [(5,some (.box (og.getD default).av.cells))]) (fun og => og = adm l known) ?_ ?_
   ·intro K3 hK3
    refine gC (fun ht31 => ?_) (fun ht31 => ?_)
    ·refine gt (aad hs1 (.cons (.tmp rfl) (.cons (.tmp rfl) .nil)) (by first | exact hH0 | exact hH1 rfl | exact hH2 rfl rfl) rfl rfl) ?_
     exact jK1 hK3 (acq l known) (by have := ap6 (af0 ht31); rw [ho] at this; exact (awz this).symm)
    ·exact jK1 hK3 o (by rw [ho]; exact (ayc (by rw [<- ho]; exact afu ht31)).symm)
   ·rintro og hog
    refine gC (fun ht39 => ?_) (fun ht39 => ?_) (st1 := (18,0))
    ·have hn : adm l known = none := by rw [<- hog]; exact ap6 (af0 ht39)
     have hfin : adl l = out:=by unfold adl; rw [<- hff,a9c hn]
     refine gW ((Wk.freeze (k := 901) rfl).trans <| Wk.of (sl := [(4,some (.lst 4 ((adl l).map Gr.av)))]) (hp := []) (.cons rfl (Sub.of (by rw [hfin,ab3 (by rw [length_map])])) .nil) .nil) ?_
     refine gE1 ?_
     rfl
    ·obtain ⟨g, hg⟩ : ∃ g, og = some g := Option.isSome_iff_exists.1 (afu ht39)
     have hng : adm l known = some g:=by rw [<- hog,hg]
     have hgo := as5 hli hng
     subst hg
     refine gs (abt (.tmp rfl) rfl (by rw [length_map]) (.tmp rfl) T86 rfl T129 rfl rfl (by dsimp only; simp only [length_cons,length_nil]; omega) rfl rfl) ?_ (12,0)
     refine gW (Wk.of (sl := [(1,some (.ptr 1 0)),(3,some (.ms 900 1 0 known.length)),(4,some (.ms 43 4 0 (out ++ [g]).length)),(5,some (.ptr 5 0)),(13,some (i64 l.bodies.length)),(14,some (i64 i))]) (hp := [(1,some (.box l.av.cells)),(5,some (.box g.av.cells)),(900,some (.row 1 (known.map bl))),(43,some (.row 4 ((out ++ [g]).map Gr.av)))]) (.k (.k (.cons rfl (Sub.of (by rw [length_append]; rfl)) (.k (.k (.k .nil)))))) (.cons rfl (.refl _) (.cons rfl (.refl _) (.cons rfl (.refl _) (.cons rfl (BlkSub.of (by rw [map_append]; rfl)) .nil))))) ?_ (12,0)
     refine gW (Wk.rekey (k := 43) (d := 901) rfl rfl) ?_
     refine gl ?_
     refine gL2 [1,13,14,45,46] [1,901] (fun (q : Nat) (kk : List Bool) => [(3,some (.ms 900 1 0 kk.length)),(4,some (.ms 901 4 0 (out ++ [g]).length)),(47,some (i64 q))]) (fun _ kk => [(900,some (.row 1 (kk.map bl)))]) (fun q kk => q <= g.bodies.length /\ kk.length = l.bodies.length /\ aas kk (g.bodies.drop q) = aas known g.bodies) (fun q _ => g.bodies.length - q) 0 known ⟨zero_le _,hk,rfl⟩ ?_
     rintro q kk ⟨hq,hkk,hmk⟩ K4 hK4
     refine gC (fun ht48 => ?_) (fun ht48 => ?_)
     ·have hqn := abo ht48
      obtain ⟨x,hx⟩ := ab9 hqn
      have hxb := hgo.b x (mem_of_getElem? hx)
      obtain ⟨v,hv⟩ : ∃ v,kk[x.toNat]? = some v := ab9 (by omega)
      refine gi (aaf hx) ?_
      refine gs (af3 (.tmp rfl) (.tmp rfl) T162 rfl T4 rfl (by omega) (by omega) rfl) ?_
      refine gs (aba (.tmp rfl) rfl (by rw [Nat.zero_add,getElem?_map,hv]; rfl) rfl (.const _) rfl rfl T4 rfl rfl) ?_
      refine ga (azv (by have := hgo.lb; unfold acr; omega)) ?_
      exact gK2 hK4 (q + 1) (kk.set x.toNat true) ⟨hqn,by rw [length_set]; exact hkk,by rw [<- apf hx]; exact hmk⟩ (hw := Wk.of (.cons rfl (Sub.of (by rw [length_set])) (.k (.k (.k (.k (.k (.k (.k .nil)))))))) (.cons rfl (BlkSub.of (by rw [map_set,Nat.zero_add]; rfl)) (.cons rfl (.refl _) (.cons rfl (.refl _) .nil))))
     ·have hqn := aan hq ht48
      have hmk2 : kk = aas known g.bodies:=by rw [hqn,List.drop_length] at hmk; exact hmk
      refine ga aau ?_
      exact gK3 hK1 (i + 1) kk (out ++ [g]) ⟨hin,hkk,by rw [length_append]; simp only [length_cons,length_nil]; omega,by rw [hmk2,<- a73 hng,<- hff]; congr 1; omega⟩
 ·have hin := aan hi ht15
  have hfin : adl l = out:=by unfold adl; rw [<- hff,show l.bodies.length - i = 0 by omega]; rfl
  refine gW ((Wk.freeze (k := 901) rfl).trans <| Wk.of (sl := [(4,some (.lst 4 ((adl l).map Gr.av)))]) (hp := []) (.cons rfl (Sub.of (by rw [hfin,ab3 (by rw [length_map])])) .nil) .nil) ?_
  refine gE1 ?_
  rfl
end Go.Lw
namespace Go.Lw
open Go.Proofs
theorem awd {α : Type} {f : List Bool -> α -> List Bool} {k : List Bool} {l : List α} {i : Nat} {x : α} (h : l[i]? = some x) : (l.drop i).foldl f k = (l.drop (i + 1)).foldl f (f k x) := by
 have hi := (List.getElem?_eq_some_iff.1 h).1
 rw [List.drop_eq_getElem_cons hi,(List.getElem?_eq_some_iff.1 h).2]; rfl
def unm (k : List Bool) (i : Nat) : List Int := ((List.range i).filter (fun j => !k.getD j false)).map (fun j : Nat => ((j : Nat) : Int))
theorem a4x {k : List Bool} {i : Nat} (h : k.getD i false = false) : unm k (i + 1) = unm k i ++ [(i : Int)] := by
 unfold unm
 rw [List.range_succ,List.filter_append,map_append,List.filter_cons,h]; rfl
theorem a1c {k : List Bool} {i : Nat} (h : k.getD i false = true) : unm k (i + 1) = unm k i := by
 unfold unm
 rw [List.range_succ,List.filter_append,map_append,List.filter_cons,h]; simp
theorem aso (k : List Bool) (i : Nat) : (unm k i).length <= i := by
 unfold unm
 rw [length_map]
 exact le_trans (List.length_filter_le _ _) (by simp)
theorem ajt {α : Type} {f : α -> List Int} : ∀ (gs : List α) (k : List Bool), (gs.foldl (fun k g => aas k (f g)) k).length = k.length
 | [],k => rfl
 | g :: gs,k => by rw [List.foldl_cons,ajt gs,afk]
theorem bge (l : Li) : (acf (adz l)).length <= l.bodies.length := by
 have h := aso (adz l) (adz l).length
 have e : (adz l).length = l.bodies.length:=by unfold adz; rw [ajt,ad5]
 rw [e] at h
 unfold acf; rw [e]; exact h
theorem bgp (l : Li) : (acf (ag9 l)).length <= l.joints.length := by
 have h := aso (ag9 l) (ag9 l).length
 have e : (ag9 l).length = l.joints.length:=by unfold ag9; rw [ajt,length_replicate]
 rw [e] at h
 unfold acf; rw [e]; exact h
theorem a2n (l : Li) (hl : l.ok) (hli : liE l = 0) : FnC prog 117 [l.av] (.tup [.lst 1 ((acf (adz l)).map i64), .lst 1 ((acf (ag9 l)).map i64)]) := by
 have h8 := (abw hli).2.2.2.1
 have h0 := (abw hli).2.2.2.2
 have hj16 : l.joints.length <= 16:=by have := (abw hli).2.1; unfold ao3 at this; split at this; cases this; omega
 obtain ⟨hgo,hgl⟩ := ak3 hli
 refine gF0 func117 ?_
 refine gt (aad (akm 900 rfl l (by omega) 0 (by omega)) (.cons (.tmp rfl) (.cons (.const _) .nil)) (by first | exact hH0 | exact hH1 rfl | exact hH2 rfl rfl) rfl rfl) ?_
 refine gl ?_
 refine gs (af5 (.tmp rfl) T162 rfl T4 rfl rfl (by omega) (by dsimp only; omega) rfl) ?_
 refine gD ?_ (2,0)
 refine gW (Wk.of (sl := [(1,some (.ptr 1 0)),(2,some (.v (.slice none 0 0))),(3,some (.v (.slice none 0 0))),(4,some (.ms 900 1 0 (aeg l.bodies.length 0).length)),(5,some (.ms 21 1 0 (List.replicate l.joints.length false).length))]) (hp := [(1,some (.box l.av.cells)),(900,some (.row 1 ((aeg l.bodies.length 0).map bl))),(21,some (.row 1 ((List.replicate l.joints.length false).map bl)))]) (.k (.k (.k (.cons rfl (Sub.of (by rw [ad5])) (.cons rfl (Sub.of (by rw [length_replicate,toNat_natCast])) .nil))))) (.cons rfl (.refl _) (.cons rfl (.refl _) (.cons rfl (BlkSub.of (by rw [map_replicate,toNat_natCast]; rfl)) .nil)))) ?_ (2,0)
 refine gW (Wk.rekey (k := 21) (d := 901) rfl rfl) ?_
 refine gc (ar3 l hl hli) ?_
 refine gl ?_
 refine gL3 [1,2,3,23,24] [1] (fun (i : Nat) (k1 k2 : List Bool) => [(4,some (.ms 900 1 0 k1.length)),(5,some (.ms 901 1 0 k2.length)),(25,some (i64 i))]) (fun _ k1 k2 => [(900,some (.row 1 (k1.map bl))),(901,some (.row 1 (k2.map bl)))]) (fun i k1 k2 => i <= (adl l).length /\ k1.length = l.bodies.length /\ k2.length = l.joints.length /\ ((adl l).drop i).foldl (fun k g => aas k g.bodies) k1 = adz l /\ ((adl l).drop i).foldl (fun k g => aas k g.joints) k2 = ag9 l) (fun i _ _ => (adl l).length - i) 0 (aeg l.bodies.length 0) (List.replicate l.joints.length false) ⟨zero_le _,ad5 _ _,length_replicate,rfl,rfl⟩ ?_
 rintro i k1 k2 ⟨hi,hk1,hk2,hf1,hf2⟩ K1 hK1
 refine gC (fun ht26 => ?_) (fun ht26 => ?_)
 ·have hin := abo ht26
  obtain ⟨g,hg⟩ := ab9 hin
  have hgk := hgo g (mem_of_getElem? hg)
  have hlb := hgk.lb
  have hlj := hgk.lj
  refine gi (aaf hg) ?_
  refine gl ?_
  refine gL2 [1,2,3,7,23,24,25,30,31] [1,7,901] (fun (q : Nat) (kk : List Bool) => [(4,some (.ms 900 1 0 kk.length)),(5,some (.ms 901 1 0 k2.length)),(32,some (i64 q))]) (fun _ kk => [(900,some (.row 1 (kk.map bl)))]) (fun q kk => q <= g.bodies.length /\ kk.length = l.bodies.length /\ aas kk (g.bodies.drop q) = aas k1 g.bodies) (fun q _ => g.bodies.length - q) 0 k1 ⟨zero_le _,hk1,rfl⟩ ?_
  rintro q kk ⟨hq,hkk,hmk⟩ K2 hK2
  refine gC (fun ht33 => ?_) (fun ht33 => ?_)
  ·have hqn := abo ht33
   obtain ⟨x,hx⟩ := ab9 hqn
   have hxb := hgk.b x (mem_of_getElem? hx)
   obtain ⟨v,hv⟩ : ∃ v,kk[x.toNat]? = some v := ab9 (by omega)
   refine gi (aaf hx) ?_
   refine gs (af3 (.tmp rfl) (.tmp rfl) T162 rfl T4 rfl (by omega) (by omega) rfl) ?_
   refine gs (aba (.tmp rfl) rfl (by rw [Nat.zero_add,getElem?_map,hv]; rfl) rfl (.const _) rfl rfl T4 rfl rfl) ?_
   refine ga aau ?_
   exact gK2 hK2 (q + 1) (kk.set x.toNat true) ⟨hqn,by rw [length_set]; exact hkk,by rw [<- apf hx]; exact hmk⟩ (hw := Wk.of (.cons rfl (Sub.of (by rw [length_set])) (.k (.k (.k (.k (.k (.k (.k (.k (.k (.k (.k .nil)))))))))))) (.cons rfl (BlkSub.of (by rw [map_set,Nat.zero_add]; rfl)) (.cons rfl (.refl _) (.cons rfl (.refl _) (.cons rfl (.refl _) .nil)))))
  ·have hqn := aan hq ht33
   have hmk2 : kk = aas k1 g.bodies:=by rw [hqn,List.drop_length] at hmk; exact hmk
   refine gl ?_
   refine gL2 [1,2,3,23,24,25,41,42] [1,900] (fun (p : Nat) (jj : List Bool) => [(4,some (.ms 900 1 0 kk.length)),(5,some (.ms 901 1 0 jj.length)),(43,some (i64 p))]) (fun _ jj => [(901,some (.row 1 (jj.map bl)))]) (fun p jj => p <= g.joints.length /\ jj.length = l.joints.length /\ aas jj (g.joints.drop p) = aas k2 g.joints) (fun p _ => g.joints.length - p) 0 k2 ⟨zero_le _,hk2,rfl⟩ ?_
   rintro p jj ⟨hp,hjj,hmj⟩ K3 hK3
   refine gC (fun ht44 => ?_) (fun ht44 => ?_)
   ·have hpn := abo ht44
    obtain ⟨x,hx⟩ := ab9 hpn
    have hxb := hgk.j x (mem_of_getElem? hx)
    obtain ⟨v,hv⟩ : ∃ v,jj[x.toNat]? = some v := ab9 (by omega)
    refine gi (aaf hx) ?_
    refine gs (af3 (.tmp rfl) (.tmp rfl) T162 rfl T4 rfl (by omega) (by omega) rfl) ?_
    refine gs (aba (.tmp rfl) rfl (by rw [Nat.zero_add,getElem?_map,hv]; rfl) rfl (.const _) rfl rfl T4 rfl rfl) ?_
    refine ga aau ?_
    exact gK2 hK3 (p + 1) (jj.set x.toNat true) ⟨hpn,by rw [length_set]; exact hjj,by rw [<- apf hx]; exact hmj⟩ (hw := Wk.of (.k (.cons rfl (Sub.of (by rw [length_set])) (.k (.k (.k (.k (.k (.k (.k (.k (.k .nil))))))))))) (.cons rfl (BlkSub.of (by rw [map_set,Nat.zero_add]; rfl)) (.cons rfl (.refl _) (.cons rfl (.refl _) .nil))))
   ·have hpn := aan hp ht44
    have hmj2 : jj = aas k2 g.joints:=by rw [hpn,List.drop_length] at hmj; exact hmj
    refine ga aau ?_
    exact gK3 hK1 (i + 1) kk jj ⟨hin,hkk,hjj,by rw [hmk2,<- hf1,awd hg],by rw [hmj2,<- hf2,awd hg]⟩
 ·have hin := aan hi ht26
  have e1 : k1 = adz l:=by rw [hin,List.drop_length] at hf1; exact hf1
  have e2 : k2 = ag9 l:=by rw [hin,List.drop_length] at hf2; exact hf2
  refine gW (Wk.virt 902 1 rfl) ?_
  refine gL1 [3,53] [900,901] (fun (i : Nat) => [(2,some (.ms 902 1 0 (unm k1 i).length)),(5,some (.ms 901 1 0 k2.length)),(52,some (.ms 900 1 0 k1.length)),(54,some (i64 i))]) (fun i => [(902,some (.row 1 ((unm k1 i).map i64)))]) (fun i => i <= k1.length) (fun i => k1.length - i) 0 (zero_le _) ?_
  rintro i ha K4 hK4
  refine gC (fun ht55 => ?_) (fun ht55 => ?_) (st2 := (22,0))
  ·have hin6 := abo ht55
   obtain ⟨v,hv⟩ := ab9 hin6
   have hvd : k1.getD i false = v := aag hv
   have hul := aso k1 i
   refine gs (af3 (.tmp rfl) (.tmp rfl) T162 rfl T4 rfl (by omega) (by omega) rfl) ?_
   refine gs (aar (.tmp rfl) rfl (by rw [Nat.zero_add,toNat_natCast,getElem?_map,hv]; rfl) T4 rfl rfl rfl) ?_
   refine gC (fun ht60 => ?_) (fun ht60 => ?_)
   ·have hu := a4x (k := k1) (i := i) (by rw [hvd]; exact af0 ht60)
    refine gs (abt (.tmp rfl) rfl (by rw [length_map]) (.tmp rfl) T31 rfl T3 rfl rfl (by dsimp only; simp only [length_cons,length_nil]; omega) rfl rfl) ?_ (21,0)
    refine gW (Wk.of (sl := [(2,some (.ms 64 1 0 (unm k1 (i + 1)).length)),(3,some (.v (.slice none 0 0))),(5,some (.ms 901 1 0 k2.length)),(52,some (.ms 900 1 0 k1.length)),(53,some (i64 k1.length)),(54,some (i64 i))]) (hp := [(900,some (.row 1 (k1.map bl))),(901,some (.row 1 (k2.map bl))),(64,some (.row 1 ((unm k1 (i + 1)).map i64)))]) (.cons rfl (Sub.of (by rw [hu,length_append]; rfl)) (.k (.k (.k (.k (.k .nil)))))) (.cons rfl (.refl _) (.cons rfl (.refl _) (.cons rfl (BlkSub.of (by rw [hu,map_append]; rfl)) .nil)))) ?_ (21,0)
    refine gW (Wk.rekey (k := 64) (d := 902) rfl rfl) ?_
    refine ga aau ?_
    exact gK1 hK4 (i + 1) hin6 (hw := Wk.of (.cons rfl (Sub.of (by first | rw [hu]; done | rfl)) (.k (.k (.k (.k (.k .nil)))))) (.cons rfl (BlkSub.of (by first | rw [hu]; done | rfl)) (.cons rfl (.refl _) (.cons rfl (.refl _) .nil))))
   ·have hu := a1c (k := k1) (i := i) (by rw [hvd]; exact afu ht60)
    refine ga aau ?_
    exact gK1 hK4 (i + 1) hin6 (hw := Wk.of (.cons rfl (Sub.of (by first | rw [hu]; done | rfl)) (.k (.k (.k (.k (.k .nil)))))) (.cons rfl (BlkSub.of (by first | rw [hu]; done | rfl)) (.cons rfl (.refl _) (.cons rfl (.refl _) .nil))))
  ·have hin6 := aan ha ht55
   refine gW ((Wk.freeze (k := 902) rfl).trans <| Wk.of (sl := [(2,some (.lst 1 ((acf (adz l)).map i64))),(3,some (.v (.slice none 0 0))),(5,some (.ms 901 1 0 k2.length))]) (hp := [(901,some (.row 1 (k2.map bl)))]) (.cons rfl (Sub.of (by rw [ab3 (by rw [length_map]),hin6,e1]; rfl)) (.k (.k .nil))) (.cons rfl (.refl _) .nil)) ?_
   refine gW (Wk.virt 902 1 rfl) ?_
   refine gL1 [2,67] [901] (fun (i : Nat) => [(3,some (.ms 902 1 0 (unm k2 i).length)),(66,some (.ms 901 1 0 k2.length)),(68,some (i64 i))]) (fun i => [(902,some (.row 1 ((unm k2 i).map i64)))]) (fun i => i <= k2.length) (fun i => k2.length - i) 0 (zero_le _) ?_
   rintro i hb K5 hK5
   refine gC (fun ht69 => ?_) (fun ht69 => ?_) (st2 := (28,0))
   ·have hin8 := abo ht69
    obtain ⟨v,hv⟩ := ab9 hin8
    have hvd : k2.getD i false = v := aag hv
    have hul := aso k2 i
    refine gs (af3 (.tmp rfl) (.tmp rfl) T162 rfl T4 rfl (by omega) (by omega) rfl) ?_
    refine gs (aar (.tmp rfl) rfl (by rw [Nat.zero_add,toNat_natCast,getElem?_map,hv]; rfl) T4 rfl rfl rfl) ?_
    refine gC (fun ht74 => ?_) (fun ht74 => ?_)
    ·have hu := a4x (k := k2) (i := i) (by rw [hvd]; exact af0 ht74)
     refine gs (abt (.tmp rfl) rfl (by rw [length_map]) (.tmp rfl) T31 rfl T3 rfl rfl (by dsimp only; simp only [length_cons,length_nil]; omega) rfl rfl) ?_ (27,0)
     refine gW (Wk.of (sl := [(2,some (.lst 1 ((acf (adz l)).map i64))),(3,some (.ms 78 1 0 (unm k2 (i + 1)).length)),(66,some (.ms 901 1 0 k2.length)),(67,some (i64 k2.length)),(68,some (i64 i))]) (hp := [(901,some (.row 1 (k2.map bl))),(78,some (.row 1 ((unm k2 (i + 1)).map i64)))]) (.k (.cons rfl (Sub.of (by rw [hu,length_append]; rfl)) (.k (.k (.k .nil))))) (.cons rfl (.refl _) (.cons rfl (BlkSub.of (by rw [hu,map_append]; rfl)) .nil))) ?_ (27,0)
     refine gW (Wk.rekey (k := 78) (d := 902) rfl rfl) ?_
     refine ga aau ?_
     exact gK1 hK5 (i + 1) hin8 (hw := Wk.of (.cons rfl (Sub.of (by first | rw [hu]; done | rfl)) (.k (.k (.k (.k .nil))))) (.cons rfl (BlkSub.of (by first | rw [hu]; done | rfl)) (.cons rfl (.refl _) .nil)))
    ·have hu := a1c (k := k2) (i := i) (by rw [hvd]; exact afu ht74)
     refine ga aau ?_
     exact gK1 hK5 (i + 1) hin8 (hw := Wk.of (.cons rfl (Sub.of (by first | rw [hu]; done | rfl)) (.k (.k (.k (.k .nil))))) (.cons rfl (BlkSub.of (by first | rw [hu]; done | rfl)) (.cons rfl (.refl _) .nil)))
   ·have hin8 := aan hb ht69
    refine gW ((Wk.freeze (k := 902) rfl).trans <| Wk.of (sl := [(2,some (.lst 1 ((acf (adz l)).map i64))),(3,some (.lst 1 ((acf (ag9 l)).map i64)))]) (hp := []) (.k (.cons rfl (Sub.of (by rw [ab3 (by rw [length_map]),hin8,e2]; rfl)) .nil)) .nil) ?_
    refine gE2 ?_
    rfl
theorem agv (l : Li) (hl : l.ok) (hli : liE l = 0) : FnC prog 39 [l.av] (.tup [.lst 4 ((ab7 l).map Gr.av), i64 (ac8 l)]) := by
 have h8 := (abw hli).2.2.2.1
 have hj16 : l.joints.length <= 16:=by have := (abw hli).2.1; unfold ao3 at this; split at this; cases this; omega
 have u1 := bge l
 have u2 := bgp l
 refine gF0 func39 ?_
 refine gc (a2n l hl hli) ?_
 refine gl ?_
 refine gl ?_
 refine ga (aaz (by omega)) ?_
 refine gC (fun ht16 => ?_) (fun ht16 => ?_)
 ·have h1 : 0 < (acf (adz l)).length + (acf (ag9 l)).length := amn ht16
  have hE : ac8 l = 7:=by unfold ac8; rw [if_neg (by omega)]
  refine gR ?_
  exact ad7 (by unfold ab7; rw [if_neg (by rw [hE]; decide),hE]; exact Sub.tup (.cons (.nil _ _ _) (.cons (.refl _) .nil)))
 ·have h1 : (acf (adz l)).length + (acf (ag9 l)).length <= 0 := an4 ht16
  have hE : ac8 l = 0:=by unfold ac8; rw [if_pos (by omega)]
  refine gc (ar3 l hl hli) ?_
  refine gE2 ?_
  unfold ab7; rw [if_pos hE,hE]; rfl
end Go.Lw
namespace Go.Lw
variable {P : Program} {N : Nat} {R : Array Oper} {s : AS}
theorem ayr {d : Nat} {x : Operand} {n : Nat} {z : Value} {T E t : TypeId} {ti te : TI} {pos : String} {after : Array Edge} (hx : Ev s x (.v (.int .i64 n)))
    (hT : aah P T = some ti) (hk : ti.k = .slice E) (hE : aah P E = some te) (hz : te.zero = [z]) (hz1 : z.oneCell' = true) (hs : Nat.beq te.size 1 = true) (hbb : Nat.blt 0 te.bytes = true)
    (hb : (n : Int) * te.bytes <= 281474976710656) (hN : Nat.blt d N = true) :
    Step P N R s ⟨some d, .makeSlice T x x, t, pos, after, none⟩
      ⟨some (.ms d 1 0 n),[(d,some (.vec (List.replicate n z)))],aal x,[]⟩ :=
  ale rfl rfl hN (by simp) fun s' hag hfr C m a w hr => by
    have hxv := anx hr (hx.agree hag (fun _ h => h))
    have hs := eq_of_beq_eq_true hs
    rw [Nat.blt_eq] at hbb
    obtain ⟨d2,h3,h4,-,-⟩ := abp hT w
    obtain rfl := acm (h4.trans hk)
    obtain ⟨zv,h5,h6⟩ := alp hE w
    obtain ⟨ie,h7,h8,-⟩ := anq hE w
    have h6' : zv.cells.toList = [z] := h6.trans hz
    have hzc : zv.cells = #[z]:=by rw [<- Array.toArray_toList (xs := zv.cells),h6']
    have hnb : (n : Int) <= 281474976710656 := by
      have : (n : Int) * 1 <= n * te.bytes := Int.mul_le_mul_of_nonneg_left (by omega) (by omega)
      omega
    have hw1 : IntKind.i64.wrap (n : Int) = n := IntWalk.i64_in n (by omega)
    obtain ⟨zero,hzero⟩ : ∃ zero : Array Value,zero = (if n * te.size = 0 then #[] else zv.cells) := ⟨_,rfl⟩
    refine ⟨.slice (some ⟨w.heap.size,0,none⟩) n n,(Array.range (n * te.size)).map (zero[· % zero.size]!),E,w.drawn,?_,?_,?_,?_⟩
    · have hmk : (Instr.makeSlice T (.int .i64 n) (.int .i64 n)).run P w =
          .ok (.slice (some ⟨w.heap.size,0,none⟩) n n) { w with heap := w.heap.push (.cells ((Array.range (n * te.size)).map (zero[· % zero.size]!)) E) } := by
        have hc : ¬ (((n : Int) < 0 \/ 281474976710656 < (ie.bytes : Int) * n) \/ (n : Int) < 0) := by
          rw [h8,Int.mul_comm]; omega
        simp only [Instr.makeSlice,Sem.run_bind,h3,Result.andThen_ok,asInt,asIntOf,Sem.run_pure,h7,hw1]
        rw [if_neg (by simpa using hc)]
        simp only [Sem.run_bind,run_askRoom,Result.andThen_ok,abc hE,toNat_natCast]
        by_cases h0 : n * te.size = 0
        · rw [if_pos h0] at hzero ⊢
          subst hzero
          simp only [Sem.run_bind,Sem.run_pure,Result.andThen_ok,newRow,run_newObj]
        · rw [if_neg h0] at hzero ⊢
          subst hzero
          simp only [Sem.run_bind,Sem.run_pure,Result.andThen_ok,h5,newRow,run_newObj]
      simp only [execOp,hxv,Sem.run_bind,hmk,Result.andThen_ok,Sem.run_pure]
    · exact fun h => h
    · intro g S m' w' hg hS hm hw
      refine .vec hw ?_ (fun v hv => by rw [List.eq_of_mem_replicate hv]; exact hz1)
      apply List.ext_getElem?
      intro j
      rw [Array.getElem?_toList,List.getElem?_replicate]
      by_cases hj : j < n
      · have hpos : ¬ n * te.size = 0 := by rw [hs]; omega
        rw [if_neg hpos,hzc] at hzero
        subst hzero
        rw [if_pos hj]
        simp only [Array.getElem?_map,Array.getElem?_range,show j < n * te.size by rw [hs]; omega,if_true,Option.map_some,Option.some.injEq]
        simp [Nat.mod_one]
      · rw [if_neg hj,Array.getElem?_eq_none (by simp [hs]; omega)]
    · intro g S m' hm hS
      have := Rep.ms (g := g) (S := S) (m := m') (k := d) (sz := 1) (off := 0) (len := n) (cap := n) hm (le_refl _) (by simpa [hs] using hS)
      simpa using this
theorem atl {x y : Operand} {k i : Nat} {vs : List Value} {v : Value} {T t : TypeId} {ti : TI} {pos : String} {after : Array Edge}
  (hx : Ev s x (.eptr k 1 i 0)) (hk : s.blk k = some (.vec vs)) (hi : i < vs.length) (hy : Ev s y (.v v)) (hv : v.oneCell' = true) (hT : aah P T = some ti) (hsz : Nat.beq ti.size 1 = true) :
  Step P N R s ⟨none,.store T x y,t,pos,after,none⟩ ⟨none,[(k,some (.vec (vs.set i v)))],aal x ++ aal y,[k]⟩ :=
 ame rfl rfl (by simp) hk fun s' hag C m a w hr => by
  have hsz := eq_of_beq_eq_true hsz
  obtain ⟨b,hm,hxv⟩ := ak8 hr (hx.agree hag (fun _ h => List.mem_append.2 (.inl h)))
  have hyv := anx hr (hy.agree hag (fun _ h => List.mem_append.2 (.inr h)))
  have hb := hr.heap.blk k _ ((hag.2 k (by simp)).trans hk)
  rw [hm] at hb
  cases hb with
  | @vec _ _ c t2 hw hc h1 =>
   have hcs : c.size = vs.length:=by rw [<- hc]; simp
   have hvc : v.cells = #[v]:=by cases v <;> simp_all [Value.cells,Value.oneCell']
   refine ⟨b,c,(over c.toList i v.cells.toList).toArray,t2,hm,hw,?_,?_,?_⟩
   ·simp [over,hvc]; omega
   ·have hrun := ajh (P := P) (off := i) (v := v) hT hw (by rw [hvc, hsz]; rfl) (by omega) (by rw [hvc]; simpa using hv)
    simp [execOp,Instr.storeAt,hxv,Instr.sureAddr,hyv,hrun]
   ·intro g S w' hg hS hw'
    refine .vec hw' ?_ (fun u hu => ?_)
    ·rw [hc, hvc]
     unfold over
     rw [List.set_eq_take_append_cons_drop,if_pos hi]
     simp
    ·rcases List.mem_or_eq_of_mem_set hu with h9 | h9
     ·exact h1 u h9
     ·rw [h9]; exact hv
inductive Lent (H : Hp) (hid : List Nat) : AV -> AV -> Prop
  | same {x : AV} (h : x.nm = []) : Lent H hid x x
  | ms {k off len : Nat} {vs : List Value} (hk : lk H k = some (.vec vs)) (hh : k ∉ hid) (hl : off + len <= vs.length) (hm : vs.length <= acr) : Lent H hid (.ms k 1 off len) (.lst 1 (((vs.drop off).take len).map .v))
theorem blp {g : Nat -> Array Value -> Prop} {S : Nat -> Nat -> Prop} {m : Nat -> Option Nat} {u y : Value} (h : Rep g S m u (.v y)) : u = y:=by cases h; rfl
theorem ast {m : Nat -> Option Nat} {b : Nat} : ¬ Own [] m b:=by rintro ⟨k,x,h,_⟩; cases h
def bhi (ext : Nat -> Prop) (H : Hp) (hid : List Nat) (m : Nat -> Option Nat) (b : Nat) : Prop := ext b \/ ∃ k z,k ∈ hid /\ lk H k = some z /\ m k = some b
theorem bf5 {ext : Nat -> Prop} {H : Hp} {hid : List Nat} {m m2 : Nat -> Option Nat} {w : World} {b : Nat} {cs : Array Value} (h : Im ext H m w b cs) : Im (bhi ext H hid m) [] m2 w b cs :=
 ⟨fun h' => h'.elim h.1 (fun ⟨k,z,_,hz,hb⟩ => h.2.1 ⟨k,z,hz,hb⟩),ast,h.2.2⟩
theorem a5d {ext : Nat -> Prop} {H : Hp} {hid : List Nat} {m : Nat -> Option Nat} {w : World} (hh : HeapRel ext H m w) {k b : Nat} {z : Blk} (hk : lk H k = some z) (hb : m k = some b) (hn : k ∉ hid) : ¬ bhi ext H hid m b := by
 rintro (h | ⟨k',z',h1,h2,h3⟩)
 ·exact (hh.sep k z b hk hb).1 h
 ·have := hh.inj k k' z z' b hk h2 hb h3
  subst this; exact hn h1
theorem Lent.rep {ext : Nat -> Prop} {H : Hp} {hid : List Nat} {m : Nat -> Option Nat} {w : World} (hh : HeapRel ext H m w) {x x' : AV} (h : Lent H hid x x') :
  ∀ {v : Value},Rep (Im ext H m w) (Sz w) m v x -> ∀ m2 : Nat -> Option Nat,Rep (Im (bhi ext H hid m) [] m w) (Sz w) m2 v x' := by
 cases h with
 | same hn => intro v hv m2; exact (acj hn hv).mono (fun _ _ h => bf5 h) (fun _ _ h => h) (fun _ _ _ h => h)
 | @ms k off len vs hk hnh hl hm =>
  intro v hr m2
  have hb := hh.blk k _ hk
  cases hr with
  | ms0 a => simp only [List.take_zero]; exact .lst0 _ _ _
  | @ms _ _ _ _ _ cap b hmk hc hS =>
   rw [hmk] at hb
   cases hb with
   | @vec _ _ c t hw hcv h1 =>
    have hcs : c.size = vs.length:=by rw [<- hcv]; simp
    have hlen : (((vs.drop off).take len).map AV.v).length = len:=by rw [length_map,length_take,List.length_drop]; omega
    have he' : ∀ (i : Nat) (e : AV), (((vs.drop off).take len).map AV.v)[i]? = some e -> ∃ u, e = .v u /\ c[off + i]? = some u /\ u ∈ vs := by
     intro i e he
     rw [getElem?_map,map_eq_some_iff] at he
     obtain ⟨u,he,rfl⟩ := he
     rw [getElem?_take] at he
     split at he
     ·rw [getElem?_drop] at he
      exact ⟨u,rfl,by rw [<- Array.getElem?_toList,hcv]; exact he,mem_of_getElem? he⟩
     ·cases he
    have := Rep.lst (g := Im (bhi ext H hid m) [] m w) (S := Sz w) (m := m2) (b := b) (off := off) (cap := cap) (sz := 1) (es := ((vs.drop off).take len).map AV.v) (cs := c) (fun i j => c.getD (off + i) undef)
     ⟨a5d hh hk hmk hnh,ast,t,(0,0),hw⟩ (by omega) (by omega) ?_ ?_ ?_ ?_
    ·rw [hlen] at this; simpa using this
    ·intro i e he
     obtain ⟨u,rfl,_⟩ := he' i e he; rfl
    ·intro i j e x he hx
     obtain ⟨u,rfl,_,hm⟩ := he' i e he
     cases j with
     | zero => cases hx; exact h1 u hm
     | succ j => cases hx
    ·intro i j e x he hx
     obtain ⟨u,rfl,hu,_⟩ := he' i e he
     cases j with
     | zero => rw [Nat.mul_one,Nat.add_zero,getD_eq_getD_getElem?,hu]; rfl
     | succ j => cases hx
    ·intro i j e x he hx
     obtain ⟨u,rfl,hu,_⟩ := he' i e he
     cases j with
     | zero => cases hx; rw [getD_eq_getD_getElem?,hu]; exact .v _
     | succ j => cases hx
def bjm : AV -> Bool
  | .v (.int _ _) => true
  | _ => false
def bht : AV -> Bool
  | .v (.int _ _) => false
  | .v _ => true
  | .lst _ _ => true
  | .ms _ _ _ _ => true
  | _ => false
mutual
def AV.li : AV -> Bool
  | .v _ => true
  | .agg cs => AV.lis cs
  | .tup cs => AV.lis cs
  | .lst sz es => Nat.beq sz 1 && es.all bjm
  | _ => false
def AV.lis : List AV -> Bool
  | [] => true
  | x :: l => x.li && AV.lis l
end
theorem AV.lis_mem : ∀ {l : List AV} {c : AV}, AV.lis l = true -> c ∈ l -> c.li = true
 | x :: l, c, h, hc => by
  simp only [AV.lis,and_eq_true] at h
  rcases List.mem_cons.1 hc with rfl | hc
  ·exact h.1
  ·exact AV.lis_mem h.2 hc
theorem a5n {g : Nat -> Array Value -> Prop} {S : Nat -> Nat -> Prop} {m : Nat -> Option Nat} {u : Value} {x : AV} (hx : bht x = true) (h : Rep g S m u x) (kk : IntKind) (z : Int) : u ≠ .int kk z := by
 rintro rfl
 cases h <;> cases hx
theorem bii {g g' : Nat -> Array Value -> Prop} {S S' : Nat -> Nat -> Prop} {m m' : Nat -> Option Nat} {v : Value} {x : AV} (hx : x.li = true)
  (hg : ∀ b cs (o : Nat) (kk : IntKind) (z : Int),cs[o]? = some (.int kk z) -> g b cs -> g' b cs) (h : Rep g S m v x) : Rep g' S' m' v x := by
 induction h with
 | v => exact .v _
 | agg hn h1 hr ih => exact .agg hn h1 (fun j u c hu hc => ih j u c hu hc (AV.lis_mem hx (mem_of_getElem? hc)))
 | tup hn hr ih => exact .tup hn (fun j u c hu hc => ih j u c hu hc (AV.lis_mem hx (mem_of_getElem? hc)))
 | lst0 a cap sz => exact .lst0 _ _ _
 | @lst _ b off cap sz es cs u hb hc hl hs h1 hu hr _ =>
  simp only [AV.li,and_eq_true] at hx
  have hsz := eq_of_beq_eq_true hx.1
  subst hsz
  match es,hx,hc,hl,hs,h1,hu,hr with
  | [],_,_,_,_,_,_,_ => exact .lst0 _ _ _
  | e :: es, hx, hc, hl, hs, h1, hu, hr =>
   have hcell : ∀ (i j : Nat) (e' c : AV), (e :: es)[i]? = some e' -> e'.cells[j]? = some c -> ∃ kk z, c = .v (.int kk z) := by
    intro i j e' c he hc'
    have h9 := List.all_eq_true.1 hx.2 e' (mem_of_getElem? he)
    cases e' with
    | v y => cases y with
     | int kk z =>
      cases j with
      | zero => cases hc'; exact ⟨_,_,rfl⟩
      | succ j => cases hc'
     | _ => cases h9
    | _ => cases h9
   have he0 : ∃ kk z, e = .v (.int kk z) := by
    have h9 := List.all_eq_true.1 hx.2 e (by simp)
    cases e with
    | v y => cases y with
     | int kk z => exact ⟨_,_,rfl⟩
     | _ => cases h9
    | _ => cases h9
   obtain ⟨kk,z,rfl⟩ := he0
   have h8 := hu 0 0 _ _ rfl rfl
   have h7 := hr 0 0 _ _ rfl rfl
   have h6 : u 0 0 = .int kk z := blp h7
   rw [h6] at h8
   refine .lst u (hg b cs _ kk z h8 hb) hc hl hs h1 hu (fun i j e' c he hc' => ?_)
   obtain ⟨k2,z2,rfl⟩ := hcell i j e' c he hc'
   rw [blp (hr i j _ _ he hc')]; exact .v _
 | _ => cases hx
theorem Con.lend {f : FuncId} {k : Nat} {cs : List AV} {cs' : Value -> List AV} {H : Hp} {r : AV} (hid : List Nat) (j0 : Nat) (hk : lk H k = some (.box cs)) (hkh : k ∉ hid)
  (hc : ∀ v : Value, v.oneCell' = true -> (cs' v).length = cs.length /\ (∀ (j : Nat) (x : AV), (cs' v)[j]? = some x -> x.one = true) /\
   ∀ (j : Nat) (x x' : AV),cs[j]? = some x -> (cs' v)[j]? = some x' -> (j = j0 /\ x' = .v v) \/ Lent H hid x x')
  (hj : j0 < cs.length)
  (hH : ∀ k z,lk H k = some z -> k ∈ hid \/ (∃ cs,z = .box cs /\ cs.all bht = true) \/ ∃ vs,z = .vec vs /\ ∀ v ∈ vs,∀ kk z,v ≠ .int kk z) (hr : r.li = true) (h : ∀ v : Value,FnC P f [.iptr (cs' v)] r) : Con P f [.ptr k 0] H r H := by
 refine ⟨(h undef).ok,?_⟩
 intro ext m w vs hext hheap hvs hrep
 have hsz : 0 < vs.size:=by rw [hvs]; exact Nat.one_pos
 have hr0 := hrep 0 vs[0] _ (Array.getElem?_eq_getElem hsz) rfl
 have hb := hheap.blk k _ hk
 generalize hv0 : vs[0] = v0 at hr0
 cases hr0 with
 | @ptr _ _ _ b hmk =>
  rw [hmk] at hb
  cases hb with
  | @box _ _ c t hw hn h1 hrr =>
   have hj0 : j0 < c.size:=by omega
   have hx0 := getElem?_eq_getElem (l := cs) (i := j0) (by omega)
   have hone : (c[j0]).oneCell' = true := (hrr j0 _ _ (Array.getElem?_eq_getElem hj0) hx0).one (h1 j0 _ hx0)
   obtain ⟨g1,g2,g3⟩ := hc c[j0] hone
   have hext' : ∀ b, bhi ext H hid m b -> b < w.heap.size := by
    rintro b (h9 | ⟨k',z',_,h2,h3⟩)
    ·exact hext b h9
    ·exact (hheap.sep k' z' b h2 h3).2
   have hcall := (h c[j0]).ret (bhi ext H hid m) m w vs hext' ⟨fun k z hz => by (cases hz), fun k k' x x' b hx => by (cases hx), fun k x b hx => by (cases hx)⟩ (by rw [hvs]; rfl) (by
    intro j v x hv hx
    match j,hx with
    | 0, hx =>
     cases hx
     rw [Array.getElem?_eq_getElem hsz,hv0] at hv
     cases hv
     refine .iptr (cs := c) (fun j => c.getD j undef) ⟨a5d hheap hk hmk hkh,ast,t,(0,0),hw⟩ g2 ?_ ?_
     ·intro j x hx
      have hlt : j < c.size:=by rw [hn,<- g1]; exact (List.getElem?_eq_some_iff.1 hx).1
      rw [Nat.zero_add,getD_eq_getD_getElem?,Array.getElem?_eq_getElem hlt]; rfl
     ·intro j x hx
      have hlt : j < c.size:=by rw [hn,<- g1]; exact (List.getElem?_eq_some_iff.1 hx).1
      obtain ⟨y,hy⟩ := aa9 g1 hx
      have hcv : c[j]? = some (c.getD j undef):=by rw [getD_eq_getD_getElem?,Array.getElem?_eq_getElem hlt]; rfl
      rcases g3 j y x hy hx with ⟨rfl,rfl⟩ | hl
      ·have : c.getD j undef = c[j] := by rw [Array.getElem?_eq_getElem hlt] at hcv; exact (Option.some.inj hcv).symm
       rw [this]; exact .v _
      ·exact hl.rep hheap (hrr j _ y hcv hy) ace)
   refine Calls.mono hcall ?_
   rintro e w' ⟨v,m',rfl,hf,hh,hnew,hkeep,hres⟩
   have hkeepB : ∀ b,b < w.heap.size -> w'.heap[b]? = w.heap[b]? := fun b hb => hf.keep b hb ast
   have hframe : Frame (Own H m) w w' := ⟨hf.os,hf.tape,hf.output,hf.size,hf.sz,fun b hb _ => hkeepB b hb⟩
   have him := acd (ext := ext) hframe (hp' := H) (m' := m) (fun k x b hk hb => .inl ⟨k,x,hk,hb⟩)
   refine ⟨v,m,rfl,hframe,⟨?_,hheap.inj,?_⟩,fun k x b hk hb => .inl ⟨k,x,hk,hb⟩,fun _ _ _ _ _ => rfl,?_⟩
   ·intro k z hz
    exact BlkRep.mono (w := w) him hf.sz (fun _ _ _ h => h) rfl (fun b hb => hkeepB b (hheap.sep k z b hz hb).2) (hheap.blk k z hz)
   ·intro k z b hz hb
    have := hheap.sep k z b hz hb
    exact ⟨this.1,lt_of_lt_of_le this.2 hf.size⟩
   ·refine bii hr ?_ hres
    rintro b2 cs2 o kk z ho ⟨g1,g2,t2,fl,g3⟩
    refine ⟨fun h9 => g1 (.inl h9),?_,t2,fl,g3⟩
    rintro ⟨k2,y,hk2,hb2⟩
    have hlt := fun b hb => (hheap.sep k2 _ b hk2 hb).2
    have h3 := hheap.blk k2 _ hk2
    rw [hb2] at h3
    rcases hH k2 y hk2 with h9 | ⟨cl,rfl,hcl⟩ | ⟨vs2,rfl,hvl⟩
    ·exact g1 (.inr ⟨k2,y,h9,hk2,hb2⟩)
    ·cases h3 with
     | @box _ _ c2 t' hw2 hn2 h12 hrr2 =>
      have hcc : c2 = cs2 := by
       rw [hkeepB b2 (hlt b2 hb2),hw2] at g3
       injection g3 with g3
       injection g3
      subst hcc
      have ho' : o < c2.size := (Array.getElem?_eq_some_iff.1 ho).1
      have hx := getElem?_eq_getElem (l := cl) (i := o) (by omega)
      exact a5n (List.all_eq_true.1 hcl _ (mem_of_getElem? hx)) (hrr2 o _ _ ho hx) kk z rfl
    ·cases h3 with
     | @vec _ _ c2 t' hw2 hc2 h12 =>
      have hcc : c2 = cs2 := by
       rw [hkeepB b2 (hlt b2 hb2),hw2] at g3
       injection g3 with g3
       injection g3
      subst hcc
      have : Value.int kk z ∈ vs2:=by rw [<- hc2]; exact Array.mem_toList_iff.2 (Array.mem_of_getElem? ho)
      exact hvl _ this kk z rfl
end Go.Lw
namespace Go.Lw
open Go.Proofs
def bv (xs : List Bool) : List Value := xs.map .bool
theorem afq (xs : List Bool) : (bv xs).length = xs.length := length_map _
theorem a1k (xs : List Bool) (n : Nat) : (bv xs).set n (.bool true) = bv (xs.set n true):=by unfold bv; rw [map_set]
theorem bg2 (xs : List Bool) : ∀ v ∈ bv xs, ∀ kk z, v ≠ .int kk z := by
 intro v hv kk z
 obtain ⟨b,_,rfl⟩ := List.mem_map.1 hv
 exact fun h => by cases h
theorem bb3 (xs : List Bool) : (bv xs).map AV.v = xs.map bl:=by unfold bv; rw [map_map]; rfl
theorem a7c (n : Nat) : List.replicate n (Value.bool false) = bv (List.replicate n false):=by unfold bv; rw [map_replicate]
theorem bgg (xs : List Int) : (xs.map i64).all bjm = true := by
 rw [all_eq_true]
 intro x hx
 obtain ⟨b,_,rfl⟩ := List.mem_map.1 hx
 rfl
theorem bn4 (g : Gr) (b : Bool) : (AV.tup [g.av, bl b]).li = true := by
 simp only [AV.li,AV.lis,Gr.av,bgg]
 rfl
def fdB (l : Li) (n : Nat) : Blk := .box (l.av.cells ++ [.ms 23 1 0 l.bodies.length,.ms 27 1 0 l.bodies.length,.ms 31 1 0 l.joints.length,.ms 900 4 0 n])
def fdH (l : Li) (known used : List Bool) (out : List Gr) : Hp :=
  [(33,some (fdB l out.length)),(23,some (.vec (bv known))),(27,some (.vec (bv (aaw l)))),(31,some (.vec (bv used))),(900,some (.row 4 (out.map Gr.av)))]
theorem a85 {xs : List Bool} {n : Nat} (h : xs.length = n) : AV.lst 1 ((((bv xs).drop 0).take n).map .v) = .lst 1 (xs.map bl) := by
 rw [drop_zero,take_of_length_le (by rw [afq]; omega),bb3]
theorem ap7 (l : Li) (hl : l.ok) (hli : liE l = 0) (known used : List Bool) (hk : known.length = l.bodies.length) (hu : used.length = l.joints.length) (hm : l.bodies.length <= acr /\ l.joints.length <= acr) (out : List Gr) :
  Con prog 348 [.ptr 33 0] (fdH l known used out) (.tup [((adm l known).getD default).av,bl (adm l known).isSome]) (fdH l known used out) := by
 refine Con.lend (cs := l.av.cells ++ [.ms 23 1 0 l.bodies.length, .ms 27 1 0 l.bodies.length, .ms 31 1 0 l.joints.length, .ms 900 4 0 out.length])
  (cs' := fun v => fdC l known (aaw l) [.lst 1 (used.map bl),.v v]) [900] 7 rfl (by decide) ?_ (by simp [Li.av,AV.cells]) ?_ (bn4 _ _) (fun v => a99 l hl hli known hk _)
 ·intro v hv
  refine ⟨rfl,?_,?_⟩
  ·intro j x hx
   match j,hx with
   | 0,hx => cases hx; rfl
   | 1,hx => cases hx; rfl
   | 2,hx => cases hx; rfl
   | 3,hx => cases hx; rfl
   | 4,hx => cases hx; rfl
   | 5,hx => cases hx; rfl
   | 6,hx => cases hx; rfl
   | 7,hx => cases hx; exact hv
   | j + 8,hx => cases hx
  ·intro j x x' hx hx'
   match j,hx,hx' with
   | 0,hx,hx' => cases hx; cases hx'; exact .inr (.same rfl)
   | 1,hx,hx' => cases hx; cases hx'; exact .inr (.same rfl)
   | 2,hx,hx' => cases hx; cases hx'; exact .inr (.same rfl)
   | 3,hx,hx' => cases hx; cases hx'; exact .inr (.same rfl)
   | 4, hx, hx' =>
    cases hx; cases hx'
    have h := Lent.ms (H := fdH l known used out) (hid := [900]) (k := 23) (off := 0) (len := l.bodies.length) (vs := bv known) rfl (by decide) (by rw [afq]; omega) (by rw [afq]; omega)
    rw [a85 hk] at h
    exact .inr h
   | 5, hx, hx' =>
    cases hx; cases hx'
    have h := Lent.ms (H := fdH l known used out) (hid := [900]) (k := 27) (off := 0) (len := l.bodies.length) (vs := bv (aaw l)) rfl (by decide) (by rw [afq,ahy]; omega) (by rw [afq,ahy]; omega)
    rw [a85 (ahy l)] at h
    exact .inr h
   | 6, hx, hx' =>
    cases hx; cases hx'
    have h := Lent.ms (H := fdH l known used out) (hid := [900]) (k := 31) (off := 0) (len := l.joints.length) (vs := bv used) rfl (by decide) (by rw [afq]; omega) (by rw [afq]; omega)
    rw [a85 hu] at h
    exact .inr h
   | 7,hx,hx' => cases hx; cases hx'; exact .inl ⟨rfl,rfl⟩
   | j + 8,hx,hx' => cases hx
 ·intro k z hz
  simp only [fdH,aab] at hz
  split at hz
  ·cases hz; exact .inr (.inl ⟨_,rfl,rfl⟩)
  split at hz
  ·cases hz; exact .inr (.inr ⟨_,rfl,bg2 _⟩)
  split at hz
  ·cases hz; exact .inr (.inr ⟨_,rfl,bg2 _⟩)
  split at hz
  ·cases hz; exact .inr (.inr ⟨_,rfl,bg2 _⟩)
  split at hz
  ·subst_vars; exact .inl (by decide)
  ·cases hz
def fdR (l : Li) : AV := if liE l = 0 then .iptr (fdC l (adz l) (aaw l) [.lst 1 ((ag9 l).map bl),.lst 4 ((adl l).map Gr.av)]) else .v (.pointer none)
def amc (l : Li) (out : List Gr) : List Bool := out.foldl (fun k g => aas k g.joints) (List.replicate l.joints.length false)
theorem atg (l : Li) (out : List Gr) : (amc l out).length = l.joints.length:=by unfold amc; rw [ajt,length_replicate]
theorem bbe (l : Li) (out : List Gr) (g : Gr) : amc l (out ++ [g]) = aas (amc l out) g.joints:=by unfold amc; rw [List.foldl_append]; rfl
theorem aos {k : List Bool} {bs : List Int} {i : Nat} {b : Int} (h : bs[i]? = some b) : aas k (bs.take (i + 1)) = (aas k (bs.take i)).set b.toNat true := by
 unfold aas
 rw [aak h,List.foldl_append]; rfl
theorem a7y {l : Li} (hli : liE l = 0) {known : List Bool} {out : List Gr} {g : Gr} (hk : known.length = l.bodies.length) (h : aa0 l (unk known) known out = (adz l, adl l)) (hg : adm l known = some g) :
  aa0 l (unk (aas known g.bodies)) (aas known g.bodies) (out ++ [g]) = (adz l,adl l) := by
 have hlt := aho hli hk hg
 obtain ⟨n,hn⟩ : ∃ n,unk known = n + 1 := ⟨unk known - 1,by omega⟩
 rw [hn] at h
 unfold aa0 at h
 rw [hg] at h
 rw [<- h]
 exact ain hli _ _ _ _ (by rw [afk]; exact hk) (le_refl _) (by omega)
theorem bcg {l : Li} {known : List Bool} {out : List Gr} (h : aa0 l (unk known) known out = (adz l, adl l)) (hg : adm l known = none) : known = adz l /\ out = adl l := by
 cases hn : unk known with
 | zero => rw [hn] at h; exact ⟨(Prod.mk.inj h).1,(Prod.mk.inj h).2⟩
 | succ n => rw [hn] at h; unfold aa0 at h; rw [hg] at h; exact ⟨(Prod.mk.inj h).1,(Prod.mk.inj h).2⟩
theorem a90 {n : Nat} : unk (aeg n 0) <= n := by
 unfold unk
 exact le_trans List.countP_le_length (Nat.le_of_eq (ad5 _ _))
theorem a2e {l : Li} (hli : liE l = 0) : aa0 l (unk (aeg l.bodies.length 0)) (aeg l.bodies.length 0) [] = (adz l, adl l) := by
 rw [<- a2x]
 exact ain hli _ _ _ _ (ad5 _ _) (le_refl _) a90
theorem bhu {l : Li} (hli : liE l = 0) {known : List Bool} {out : List Gr} (hk : known.length = l.bodies.length) (h : aa0 l (unk known) known out = (adz l, adl l)) : out.length <= 8 := by
 obtain ⟨gs,e⟩ := ag5 (l := l) (unk known) known out
 rw [e] at h
 have h1 := (ak3 hli).2
 have h2 : out ++ gs = adl l := (Prod.mk.inj h).2
 rw [<- h2,length_append] at h1; omega
theorem a8f (l : Li) (known used : List Bool) (out : List Gr) (hk : known.length = l.bodies.length) (hu : used.length = l.joints.length) (hm : l.bodies.length <= acr /\ l.joints.length <= acr) :
  Wk ⟨[(5,some (.ptr 33 0))],fdH l known used out⟩ ⟨[(5,some (.iptr (fdC l known (aaw l) [.lst 1 (used.map bl),.lst 4 (out.map Gr.av)])))],[]⟩ := by
 have hd := ahy l
 have q1 : .ms 23 1 0 l.bodies.length = AV.ms 23 1 0 ((bv known).map AV.v).length:=by rw [length_map,afq,hk]
 refine (Wk.of (sl := [(5, some (.ptr 33 0))]) (hp := [(33, some (fdB l out.length)), (23, some (.row 1 ((bv known).map .v))), (27, some (.row 1 ((bv (aaw l)).map .v))), (31, some (.row 1 ((bv used).map .v))), (900, some (.row 4 (out.map Gr.av)))])
  (.k .nil) (.cons rfl (.refl _) (.cons rfl (.vecRow (by rw [afq]; omega)) (.cons rfl (.vecRow (by rw [afq]; omega)) (.cons rfl (.vecRow (by rw [afq]; omega)) (.cons rfl (.refl _) .nil)))))).trans ?_
 refine (Wk.freeze (k := 23) rfl).trans ?_
 refine (Wk.of (sl := [(5, some (.ptr 33 0))]) (hp := [(33, some (.box (l.av.cells ++ [.lst 1 (known.map bl), .ms 27 1 0 l.bodies.length, .ms 31 1 0 l.joints.length, .ms 900 4 0 out.length]))), (27, some (.row 1 ((bv (aaw l)).map .v))), (31, some (.row 1 ((bv used).map .v))), (900, some (.row 4 (out.map Gr.av)))])
  (.k .nil) (.cons rfl (BlkSub.boxL (.cons (.refl _) (.cons (.refl _) (.cons (.refl _) (.cons (.refl _) (.cons (.of ((ab3 (by rw [length_map,afq,hk])).trans (by rw [bb3]))) (.cons (.refl _) (.cons (.refl _) (.cons (.refl _) .nil)))))))) rfl) (.cons rfl (.refl _) (.cons rfl (.refl _) (.cons rfl (.refl _) .nil))))).trans ?_
 refine (Wk.freeze (k := 27) rfl).trans ?_
 refine (Wk.of (sl := [(5, some (.ptr 33 0))]) (hp := [(33, some (.box (l.av.cells ++ [.lst 1 (known.map bl), .lst 1 ((aaw l).map bl), .ms 31 1 0 l.joints.length, .ms 900 4 0 out.length]))), (31, some (.row 1 ((bv used).map .v))), (900, some (.row 4 (out.map Gr.av)))])
  (.k .nil) (.cons rfl (BlkSub.boxL (.cons (.refl _) (.cons (.refl _) (.cons (.refl _) (.cons (.refl _) (.cons (.refl _) (.cons (.of ((ab3 (by rw [length_map,afq,hd])).trans (by rw [bb3]))) (.cons (.refl _) (.cons (.refl _) .nil)))))))) rfl) (.cons rfl (.refl _) (.cons rfl (.refl _) .nil)))).trans ?_
 refine (Wk.freeze (k := 31) rfl).trans ?_
 refine (Wk.of (sl := [(5, some (.ptr 33 0))]) (hp := [(33, some (.box (l.av.cells ++ [.lst 1 (known.map bl), .lst 1 ((aaw l).map bl), .lst 1 (used.map bl), .ms 900 4 0 out.length]))), (900, some (.row 4 (out.map Gr.av)))])
  (.k .nil) (.cons rfl (BlkSub.boxL (.cons (.refl _) (.cons (.refl _) (.cons (.refl _) (.cons (.refl _) (.cons (.refl _) (.cons (.refl _) (.cons (.of ((ab3 (by rw [length_map,afq,hu])).trans (by rw [bb3]))) (.cons (.refl _) .nil)))))))) rfl) (.cons rfl (.refl _) .nil))).trans ?_
 refine (Wk.freeze (k := 900) rfl).trans ?_
 refine (Wk.of (sl := [(5, some (.ptr 33 0))]) (hp := [(33, some (.box (fdC l known (aaw l) [.lst 1 (used.map bl), .lst 4 (out.map Gr.av)])))])
  (.k .nil) (.cons rfl (BlkSub.boxL (.cons (.refl _) (.cons (.refl _) (.cons (.refl _) (.cons (.refl _) (.cons (.refl _) (.cons (.refl _) (.cons (.refl _) (.cons (.of (ab3 (by rw [length_map]))) .nil)))))))) rfl) .nil)).trans ?_
 refine (Wk.freezeB (k := 33) rfl rfl).trans ?_
 exact Wk.of (.k .nil) .nil
theorem bbt (l : Li) (hl : l.ok) : FnC prog 260 [l.av] (.tup [fdR l, ajw (liE l)]) := by
 refine gF0 func260 ?_
 refine gc (ak2 l hl) ?_
 refine gC (fun ht17 => ?_) (fun ht17 => ?_)
 ·have h1 := af6 ht17
  refine gE2 ?_
  unfold fdR; rw [if_neg h1]
 ·have hli := ae0 ht17
  have h8 := (abw hli).2.2.2.1
  have h0 := (abw hli).2.2.2.2
  have hj16 : l.joints.length <= 16:=by have := (abw hli).2.1; unfold ao3 at this; split at this; cases this; omega
  have hld := hl.ld
  have hm : l.bodies.length <= acr /\ l.joints.length <= acr:=by unfold acr; omega
  refine gl ?_
  refine gs (ayr (.tmp rfl) T162 rfl T4 rfl rfl rfl rfl (by dsimp only; omega) rfl) ?_
  refine gl ?_
  refine gs (ayr (.tmp rfl) T162 rfl T4 rfl rfl rfl rfl (by dsimp only; omega) rfl) ?_
  refine gl ?_
  refine gs (ayr (.tmp rfl) T162 rfl T4 rfl rfl rfl rfl (by dsimp only; omega) rfl) ?_
  refine gD ?_
  refine gs (aao (n := 0) (.tmp rfl) (.const _) T162 rfl T4 rfl rfl (by omega) rfl) ?_
  refine gs (atl (.tmp rfl) rfl (by rw [length_replicate]; omega) (.const _) rfl T4 rfl) ?_ (6,0)
  refine gW (Wk.of (sl := [(1,some (.ptr 1 0)),(5,some (.ptr 33 0))]) (hp := [(1,some (.box l.av.cells)),(33,some (.box (l.av.cells ++ [.ms 23 1 0 l.bodies.length,.ms 27 1 0 l.bodies.length,.ms 31 1 0 l.joints.length,.v (.slice none 0 0)]))),(23,some (.vec (bv (aeg l.bodies.length 0)))),(27,some (.vec (bv (List.replicate l.bodies.length false)))),(31,some (.vec (bv (List.replicate l.joints.length false))))]) abu (.cons rfl (.refl _) (.cons rfl (.refl _) (.cons rfl (BlkSub.of (by rw [a7c,a1k]; rfl)) (.cons rfl (BlkSub.of (by rw [a7c])) (.cons rfl (BlkSub.of (by rw [a7c])) .nil)))))) ?_
  refine gl ?_
  refine gL1 [1,5,40,41] [1,23,31] (fun (i : Nat) => [(42,some (i64 i))]) (fun i => [(33,some (.box (l.av.cells ++ [.ms 23 1 0 l.bodies.length,.ms 27 1 0 l.bodies.length,.ms 31 1 0 l.joints.length,.v (.slice none 0 0)]))),(27,some (.vec (bv (aas (List.replicate l.bodies.length false) ((l.drivers.map Dr.body).take i)))))]) (fun i => i <= l.drivers.length) (fun i => l.drivers.length - i) 0 (zero_le _) ?_
  rintro i hi K1 hK1
  refine gC (fun ht43 => ?_) (fun ht43 => ?_) (st2 := (11,0))
  ·have hin := abo ht43
   obtain ⟨d,hd⟩ := ab9 hin
   have hb := ahn (a2o hli hd)
   have hmt := aos (k := List.replicate l.bodies.length false) (bs := l.drivers.map Dr.body) (i := i) (b := d.body) (by rw [getElem?_map,hd]; rfl)
   refine gi (aaf hd) ?_
   refine gs (aao (n := d.body.toNat) (.tmp rfl) (.tmp rfl) T162 rfl T4 rfl (by omega) (by omega) rfl) ?_
   refine gs (atl (.tmp rfl) rfl (by rw [afq,afk,length_replicate]; omega) (.const _) rfl T4 rfl) ?_
   refine gD ?_
   refine ga aau ?_
   exact gK1 hK1 (i + 1) hin (hw := Wk.of abu (.cons rfl (.refl _) (.cons rfl (BlkSub.of (by rw [a1k,hmt])) (.cons rfl (.refl _) (.cons rfl (.refl _) (.cons rfl (.refl _) .nil))))))
  ·have hin := aan hi ht43
   have hall : aas (List.replicate l.bodies.length false) ((l.drivers.map Dr.body).take i) = aaw l:=by rw [hin]; unfold aaw; rw [take_of_length_le (by rw [length_map]; omega)]
   refine gW ((Wk.virt 900 4 rfl).trans <| Wk.of (sl := [(1,some (.ptr 1 0)),(5,some (.ptr 33 0))]) (hp := [(33,some (fdB l 0)),(23,some (.vec (bv (aeg l.bodies.length 0)))),(27,some (.vec (bv (aaw l)))),(31,some (.vec (bv (List.replicate l.joints.length false)))),(900,some (.row 4 []))]) abu (.cons rfl (BlkSub.boxL (.cons (.refl _) (.cons (.refl _) (.cons (.refl _) (.cons (.refl _) (.cons (.refl _) (.cons (.refl _) (.cons (.refl _) (.cons (Sub.nilMs _ _ _) .nil)))))))) rfl) (.cons rfl (.refl _) (.cons rfl (BlkSub.of (by rw [hall])) (.cons rfl (.refl _) (.cons rfl (.refl _) .nil)))))) ?_
   refine gt (aad (ap7 l hl hli (aeg l.bodies.length 0) (List.replicate l.joints.length false) (ad5 _ _) length_replicate hm []) (.cons (.tmp rfl) .nil) (fun k z h => h) rfl rfl) ?_
   refine gL2 [5,8] [] (fun (known : List Bool) (out : List Gr) => [(9,some (bl (adm l known).isSome))]) (fun known out => [(8,some (.box ((adm l known).getD default).av.cells)),(33,some (fdB l out.length)),(23,some (.vec (bv known))),(27,some (.vec (bv (aaw l)))),(31,some (.vec (bv (amc l out)))),(900,some (.row 4 (out.map Gr.av)))]) (fun known out => known.length = l.bodies.length /\ aa0 l (unk known) known out = (adz l,adl l)) (fun known _ => unk known) (aeg l.bodies.length 0) ([]) ⟨ad5 _ _,a2e hli⟩ ?_
   rintro known out ⟨hk,hf⟩ K2 hK2
   refine gC (fun ht59 => ?_) (fun ht59 => ?_) (st1 := (77777,0)) (st2 := (27,0))
   ·obtain ⟨g, hg⟩ := axc ht59
    have hgo := as5 hli hg
    have hout := bhu hli hk hf
    refine gW (Wk.of (sl := [(5,some (.ptr 33 0)),(8,some (.ptr 8 0))]) (hp := [(8,some (.box g.av.cells)),(33,some (fdB l out.length)),(23,some (.vec (bv known))),(27,some (.vec (bv (aaw l)))),(31,some (.vec (bv (amc l out)))),(900,some (.row 4 (out.map Gr.av)))]) abu (.cons rfl (BlkSub.of (by rw [hg]; rfl)) (.cons rfl (.refl _) (.cons rfl (.refl _) (.cons rfl (.refl _) (.cons rfl (.refl _) (.cons rfl (.refl _) .nil))))))) ?_
    refine gl ?_
    refine gL1 [5,8,66,67] [8,33,27,31,900] (fun (j : Nat) => [(68,some (i64 j))]) (fun j => [(23,some (.vec (bv (aas known (g.bodies.take j)))))]) (fun j => j <= g.bodies.length) (fun j => g.bodies.length - j) 0 (zero_le _) ?_
    rintro j hj K3 hK3
    refine gC (fun ht69 => ?_) (fun ht69 => ?_)
    ·have hin := abo ht69
     obtain ⟨b,hb⟩ := ab9 hin
     have hbb := hgo.b b (mem_of_getElem? hb)
     have hlb := hgo.lb
     refine gi (aaf hb) ?_
     refine gs (aao (n := b.toNat) (.tmp rfl) (.tmp rfl) T162 rfl T4 rfl (by omega) (by omega) rfl) ?_
     refine gs (atl (.tmp rfl) rfl (by rw [afq,afk]; omega) (.const _) rfl T4 rfl) ?_
     refine ga aau ?_
     exact gK1 hK3 (j + 1) hin (hw := Wk.of abu (.cons rfl (BlkSub.of (by rw [a1k,aos hb])) (.cons rfl (.refl _) (.cons rfl (.refl _) (.cons rfl (.refl _) (.cons rfl (.refl _) (.cons rfl (.refl _) .nil)))))))
    ·have hin := aan hj ht69
     subst hin
     refine gl ?_
     refine gL1 [5,8,80,81] [8,33,27,900] (fun (q : Nat) => [(82,some (i64 q))]) (fun q => [(23,some (.vec (bv (aas known g.bodies)))),(31,some (.vec (bv (aas (amc l out) (g.joints.take q)))))]) (fun q => q <= g.joints.length) (fun q => g.joints.length - q) 0 (zero_le _) ?_ (h2 := (.cons rfl (BlkSub.of (by rw [take_length])) (.cons rfl (.refl _) .nil)))
     rintro q hq K4 hK4
     refine gC (fun ht83 => ?_) (fun ht83 => ?_)
     ·have hin := abo ht83
      obtain ⟨b,hb⟩ := ab9 hin
      have hbb := hgo.j b (mem_of_getElem? hb)
      have hlj := hgo.lj
      refine gi (aaf hb) ?_
      refine gs (aao (n := b.toNat) (.tmp rfl) (.tmp rfl) T162 rfl T4 rfl (by omega) (by omega) rfl) ?_
      refine gs (atl (.tmp rfl) rfl (by rw [afq,afk,atg]; omega) (.const _) rfl T4 rfl) ?_
      refine ga aau ?_
      exact gK1 hK4 (q + 1) hin (hw := Wk.of abu (.cons rfl (.refl _) (.cons rfl (BlkSub.of (by rw [a1k,aos hb])) (.cons rfl (.refl _) (.cons rfl (.refl _) (.cons rfl (.refl _) (.cons rfl (.refl _) .nil)))))))
     ·have hin := aan hq ht83
      subst hin
      refine gs (abt (.tmp rfl) rfl (by rw [length_map]) (.tmp rfl) T86 rfl T129 rfl rfl (by simp only [length_cons,length_nil]; omega) rfl rfl) ?_
      refine gD ?_ (25,0)
      refine gW (Wk.of (sl := [(5,some (.ptr 33 0)),(8,some (.ptr 8 0))]) (hp := [(8,some (.box g.av.cells)),(33,some (.box (l.av.cells ++ [.ms 23 1 0 l.bodies.length,.ms 27 1 0 l.bodies.length,.ms 31 1 0 l.joints.length,.ms 100 4 0 (out ++ [g]).length]))),(100,some (.row 4 ((out ++ [g]).map Gr.av))),(23,some (.vec (bv (aas known g.bodies)))),(27,some (.vec (bv (aaw l)))),(31,some (.vec (bv (amc l (out ++ [g])))))]) abu (.cons rfl (.refl _) (.cons rfl (BlkSub.of (by rw [length_append]; rfl)) (.cons rfl (BlkSub.of (by rw [map_append]; rfl)) (.cons rfl (.refl _) (.cons rfl (.refl _) (.cons rfl (BlkSub.of (by rw [bbe,take_length])) .nil))))))) ?_ (25,0)
      refine gW (Wk.rekey (k := 100) (d := 900) rfl rfl) ?_ (26,0)
      refine gW (Wk.o (sl := [(5,some (.ptr 33 0)),(103,some (g.av))]) (hp := [(33,some (fdB l (out ++ [g]).length)),(23,some (.vec (bv (aas known g.bodies)))),(27,some (.vec (bv (aaw l)))),(31,some (.vec (bv (amc l (out ++ [g]))))),(900,some (.row 4 ((out ++ [g]).map Gr.av)))])) ?_
      refine gt (aad (ap7 l hl hli (aas known g.bodies) (amc l (out ++ [g])) (by rw [afk]; exact hk) (atg _ _) hm (out ++ [g])) (.cons (.tmp rfl) .nil) (by intro k z h; simp only [fdH,aab] at h; split at h; (subst_vars; exact h); split at h; (subst_vars; exact h); split at h; (subst_vars; exact h); split at h; (subst_vars; exact h); split at h; (subst_vars; exact h); cases h) rfl rfl) ?_
      exact gK2 hK2 (aas known g.bodies) (out ++ [g]) ⟨by rw [afk]; exact hk,a7y hli hk hf hg⟩ (aho hli hk hg)
   ·have hg := ayw ht59
    obtain ⟨e1,e2⟩ := bcg hf hg
    subst e1 e2
    refine gW (Wk.o (sl := [(5,some (.ptr 33 0))]) (hp := [(33,some (fdB l (adl l).length)),(23,some (.vec (bv (adz l)))),(27,some (.vec (bv (aaw l)))),(31,some (.vec (bv (amc l (adl l))))),(900,some (.row 4 ((adl l).map Gr.av)))])) ?_ (27,0)
    refine gW (a8f l (adz l) (amc l (adl l)) (adl l) hk (atg _ _) hm) ?_
    refine gE2 ?_
    unfold fdR; rw [if_pos hli,hli]; rfl
end Go.Lw
namespace Go.Lw
open Go.Proofs
theorem bdy {α : Type} [BEq α] [LawfulBEq α] {xs : List α} {b : α} {ok : Nat -> Bool} (h : ∀ i x, xs[i]? = some x -> ok i = !(b == x)) : decide (0 <= ixI (acw xs.length ok)) = xs.contains b := by
 cases hf : acw xs.length ok with
 | some i =>
  obtain ⟨h1,h2⟩ := abn hf
  obtain ⟨x,hx⟩ := ab9 h1
  rw [h i x hx] at h2
  have : b = x:=by simpa using h2
  subst this
  rw [List.contains_iff_mem.2 (mem_of_getElem? hx)]
  exact decide_eq_true (by show (0 : Int) <= (i : Int); omega)
 | none =>
  rw [decide_eq_false (by show ¬ (0 : Int) <= -1; decide)]
  symm
  rw [<- Bool.not_eq_true,List.contains_iff_mem]
  intro hm
  obtain ⟨i,hi⟩ := List.mem_iff_getElem?.1 hm
  have hlt := (List.getElem?_eq_some_iff.1 hi).1
  unfold acw at hf
  rw [List.find?_eq_none] at hf
  have := hf i (List.mem_range.2 hlt)
  rw [h i b hi] at this
  simp at this
theorem awb (xs : List Bool) (b : Bool) (hl : xs.length <= 281474976710656) : FnC prog 349 [.lst 1 (xs.map bl), bl b] (i64 (ixI (acw xs.length (fun i => !(b == xs.getD i false))))) := by
 refine gF0 func349 ?_
 refine gl ?_
 refine gL1 [0,1,7] [] (fun (i : Nat) => [(8,some (i64 i))]) (fun _ => []) (fun i => i <= xs.length /\ ∀ j,j < i -> (!(b == xs.getD j false)) = true) (fun i => xs.length - i) 0 ⟨zero_le _,fun j h => by omega⟩ ?_
 rintro i ⟨hi,hj⟩ K1 hK1
 refine gC (fun ht9 => ?_) (fun ht9 => ?_)
 ·have hin := abo ht9
  obtain ⟨x,hx⟩ := ab9 hin
  have hg : xs.getD i false = x := aag hx
  refine gi (aaf hx) ?_
  refine gC (fun ht16 => ?_) (fun ht16 => ?_)
  ·have h2 : (b == x) = true := ht16
   refine gE1 ?_
   rw [ada hin hj (by rw [hg,h2]; rfl)]; rfl
  ·have h2 : (b == x) = false := ht16
   refine ga aau ?_
   exact gK1 hK1 (i + 1) ⟨hin,fun j h9 => by rcases lt_or_ge j i with g | g; exact hj j g; (have : j = i:=by omega); subst this; rw [hg,h2]; rfl⟩
 ·have hin := aan hi ht9
  subst hin
  refine gE1 ?_
  rw [aci hj]; rfl
theorem aje (xs : List Bool) (b : Bool) (hl : xs.length <= 281474976710656) : FnC prog 261 [.lst 1 (xs.map bl), bl b] (bl (xs.contains b)) := by
 refine gF0 func261 ?_
 refine gc (awb xs b hl) ?_
 refine gE1 ?_
 rw [<- bdy (xs := xs) (b := b) (ok := fun i => !(b == xs.getD i false)) (fun i x hx => by rw [aag hx])]; rfl
theorem ayb (xs : List Int) (b : Int) (hl : xs.length <= 281474976710656) : FnC prog 352 [.lst 1 (xs.map i64), i64 b] (i64 (ixI (acw xs.length (fun i => !(b == xs.getD i 0))))) := by
 refine gF0 func352 ?_
 refine gl ?_
 refine gL1 [0,1,7] [] (fun (i : Nat) => [(8,some (i64 i))]) (fun _ => []) (fun i => i <= xs.length /\ ∀ j,j < i -> (!(b == xs.getD j 0)) = true) (fun i => xs.length - i) 0 ⟨zero_le _,fun j h => by omega⟩ ?_
 rintro i ⟨hi,hj⟩ K1 hK1
 refine gC (fun ht9 => ?_) (fun ht9 => ?_)
 ·have hin := abo ht9
  obtain ⟨x,hx⟩ := ab9 hin
  have hg : xs.getD i 0 = x := aag hx
  refine gi (aaf hx) ?_
  refine gC (fun ht16 => ?_) (fun ht16 => ?_)
  ·have h2 : (b == x) = true := ht16
   refine gE1 ?_
   rw [ada hin hj (by rw [hg,h2]; rfl)]; rfl
  ·have h2 : (b == x) = false := ht16
   refine ga aau ?_
   exact gK1 hK1 (i + 1) ⟨hin,fun j h9 => by rcases lt_or_ge j i with g | g; exact hj j g; (have : j = i:=by omega); subst this; rw [hg,h2]; rfl⟩
 ·have hin := aan hi ht9
  subst hin
  refine gE1 ?_
  rw [aci hj]; rfl
theorem akf (xs : List Int) (b : Int) (hl : xs.length <= 281474976710656) : FnC prog 264 [.lst 1 (xs.map i64), i64 b] (bl (xs.contains b)) := by
 refine gF0 func264 ?_
 refine gc (ayb xs b hl) ?_
 refine gE1 ?_
 rw [<- bdy (xs := xs) (b := b) (ok := fun i => !(b == xs.getD i 0)) (fun i x hx => by rw [aag hx])]; rfl
theorem aur (l : Li) (hl : l.ok) : FnC prog 144 [l.av] (.tup [.lst 4 (((if liE l = 0 then ab7 l else [])).map Gr.av), ajw (if liE l = 0 then ac8 l else liE l)]) := by
 refine gF0 func144 ?_
 refine gc (bbt l hl) (hnm := (by unfold fdR; split <;> rfl)) ?_
 refine gC (fun ht12 => ?_) (fun ht12 => ?_) (st2 := (77777,0))
 ·have h1 := af6 ht12
  refine gR ?_
  exact ad7 (by rw [if_neg h1,if_neg h1]; exact Sub.tup (.cons (.nil _ _ _) (.cons (.refl _) .nil)))
 ·have hli := ae0 ht12
  have h8 := (abw hli).2.2.2.1
  have hj16 : l.joints.length <= 16:=by have := (abw hli).2.1; unfold ao3 at this; split at this; cases this; omega
  have lk1 : (adz l).length = l.bodies.length:=by unfold adz; rw [ajt,ad5]
  have lk2 : (ag9 l).length = l.joints.length:=by unfold ag9; rw [ajt,length_replicate]
  have e1 : fdR l = .iptr (fdC l (adz l) (aaw l) [.lst 1 ((ag9 l).map bl),.lst 4 ((adl l).map Gr.av)]):=by unfold fdR; rw [if_pos hli]
  have c1 := a1i (k := adz l)
  have c2 := a1i (k := ag9 l)
  refine gW (Wk.of (sl := [(4,some (.iptr (fdC l (adz l) (aaw l) [.lst 1 ((ag9 l).map bl),.lst 4 ((adl l).map Gr.av)]))),(5,some (ajw (liE l)))]) (hp := []) (.cons rfl (Sub.of e1) (.k .nil)) .nil) ?_
  refine gc (aje (adz l) false (by omega)) ?_
  refine gcG (fun _ => (aje (ag9 l) false (by omega))) ?_
  refine gC (fun ht25 => ?_) (fun ht25 => ?_)
  ·have h2 : ac8 l = 7 := by
    unfold ac8
    rw [if_neg]
    intro h
    have h3 : (adz l).contains false = false := c1.1 (by omega)
    have h4 : (ag9 l).contains false = false := c2.1 (by omega)
    rw [h3,h4] at ht25; cases ht25
   refine gR ?_
   exact ad7 (by rw [if_pos hli,if_pos hli]; unfold ab7; rw [if_neg (by rw [h2]; simp),h2]; exact Sub.tup (.cons (.nil _ _ _) (.cons (.refl _) .nil)))
  ·have h2 : ac8 l = 0 := by
    unfold ac8
    rw [if_pos]
    cases h3 : (adz l).contains false <;> cases h4 : (ag9 l).contains false <;> rw [h3,h4] at ht25 <;> first | (cases ht25; done) | (have g1 := c1.2 h3; have g2 := c2.2 h4; omega)
   refine gE2 ?_
   rw [if_pos hli,if_pos hli,h2]; unfold ab7; rw [if_pos h2]; rfl
end Go.Lw
namespace Go.Lw
open Go.Proofs
def SO (ys : List Int) (i : Nat) : Prop := ∀ p q,p < q -> q < i -> ys.getD p 0 <= ys.getD q 0
def SI (ys : List Int) (i j : Nat) : Prop := ∀ p q,p < q -> q <= i -> q ≠ j -> ys.getD p 0 <= ys.getD q 0
theorem bi5 {xs ys : List Int} {i : Nat} (hp : ys.Perm xs) (hi : ys.length <= i) (h : SO ys i) : ys = anp xs := by
 refine bcj hp (List.pairwise_iff_getElem.2 fun p q hp hq hpq => ?_)
 have h1 := h p q hpq (by omega)
 rw [aag (getElem?_eq_getElem hp),aag (getElem?_eq_getElem hq)] at h1
 exact h1
theorem bmh {ys : List Int} {i : Nat} (h : SO ys i) : SI ys i i := fun p q h1 h2 h3 => h p q h1 (by omega)
theorem bml {ys : List Int} {i j : Nat} (h : SI ys i j) (hj : j = 0 \/ ys.getD (j - 1) 0 <= ys.getD j 0) : SO ys (i + 1) := by
 intro p q h1 h2
 by_cases hq : q = j
 ·subst hq
  rcases hj with hj | hj
  ·omega
  ·by_cases hp : p = q - 1
   ·subst hp; exact hj
   ·exact Int.le_trans (h p (q - 1) (by omega) (by omega) (by omega)) hj
 ·exact h p q h1 (by omega) hq
theorem aui (ys : List Int) (i : Nat) (x : Int) (p : Nat) (hi : i < ys.length) : (ys.set i x).getD p 0 = if p = i then x else ys.getD p 0 := by
 rw [getD_eq_getElem?_getD,getD_eq_getElem?_getD,List.getElem?_set]
 by_cases h : i = p
 ·subst h; simp [hi]
 ·rw [if_neg h,if_neg (fun e => h e.symm)]
theorem bfg {ys : List Int} {i j : Nat} (h : SI ys i j) (hj : 0 < j) (hi : j <= i) (hl : i < ys.length) (hlt : ys.getD j 0 < ys.getD (j - 1) 0) : SI ((ys.set j (ys.getD (j - 1) 0)).set (j - 1) (ys.getD j 0)) i (j - 1) := by
 intro p q h1 h2 h3
 have e : ∀ r, ((ys.set j (ys.getD (j - 1) 0)).set (j - 1) (ys.getD j 0)).getD r 0 = if r = j - 1 then ys.getD j 0 else if r = j then ys.getD (j - 1) 0 else ys.getD r 0 := fun r => by
  rw [aui _ _ _ _ (by rw [length_set]; omega),aui _ _ _ _ (by omega)]
 rw [e,e,if_neg h3]
 by_cases hq : q = j
 ·rw [if_pos hq]
  by_cases hp : p = j - 1
  ·rw [if_pos hp]; omega
  ·rw [if_neg hp,if_neg (by omega)]; exact h p (j - 1) (by omega) (by omega) (by omega)
 ·rw [if_neg hq]
  by_cases hp : p = j - 1
  ·rw [if_pos hp]
   exact h j q (by omega) h2 hq
  ·rw [if_neg hp]
   by_cases hp2 : p = j
   ·rw [if_pos hp2]; exact h (j - 1) q (by omega) h2 hq
   ·rw [if_neg hp2]; exact h p q h1 h2 hq
theorem a5q {ys : List Int} {j : Nat} {a b : Int} (ha : ys[j]? = some a) (hb : ys[j - 1]? = some b) : ((ys.set j b).set (j - 1) a).Perm ys := by
 obtain ⟨h1,rfl⟩ := List.getElem?_eq_some_iff.1 ha
 obtain ⟨h2,rfl⟩ := List.getElem?_eq_some_iff.1 hb
 exact List.set_set_perm h1 h2
theorem bmq {j : Nat} {a b : Int} (h : cond (aaa .gtr (j : Int) 0) (decide (a < b)) false = true) : 0 < j /\ a < b := by
 cases h1 : aaa .gtr (j : Int) 0 <;> rw [h1] at h
 ·cases h
 ·exact ⟨amn (b := 0) h1,of_decide_eq_true h⟩
theorem bnt {j : Nat} {a b : Int} (h : cond (aaa .gtr (j : Int) 0) (decide (a < b)) false = false) : j = 0 \/ b <= a := by
 cases h1 : aaa .gtr (j : Int) 0 <;> rw [h1] at h
 ·have := an4 (b := 0) h1; omega
 ·have h2 : decide (a < b) = false := h
  have := of_decide_eq_false h2; omega
theorem bbv (ys : List Int) (j : Nat) (a b : Int) : ((ys.map i64).set j (i64 b)).set (j - 1) (i64 a) = ((ys.set j b).set (j - 1) a).map i64:=by rw [map_set,map_set]
theorem ape (a : Int) : FnC prog 409 [i64 a] (bl false) := by
 refine gF0 func409 ?_
 refine gE1 ?_
 simp [aaa]; rfl
theorem a3f (a b : Int) : FnC prog 359 [i64 a, i64 b] (bl (decide (a < b))) := by
 refine gF0 func359 ?_
 refine gc (ape a) ?_
 refine gcG (fun _ => (ape b)) ?_
 refine gE1 ?_
 first | rfl | (simp; done)
theorem aoy (xs : List Int) (hl : xs.length <= 12) : Con prog 353 [.ms 1000 1 0 xs.length, i64 0, i64 xs.length] [(1000, some (.row 1 (xs.map i64)))] (.tup []) [(1000, some (.row 1 ((anp xs).map i64)))] := by
 refine gF func353 (fun k z h => abz h) ?_
 refine ga (show _ = ((1 : Nat) : Int) from rfl) ?_
 refine gL2 [1,2] [] (fun (ys : List Int) (i : Nat) => [(0,some (.ms 1000 1 0 xs.length)),(6,some (i64 i))]) (fun ys _ => [(1000,some (.row 1 (ys.map i64)))]) (fun ys i => ys.length = xs.length /\ ys.Perm xs /\ 1 <= i /\ SO ys i) (fun _ i => xs.length + 1 - i) xs 1 ⟨rfl,.refl _,le_refl _,fun p q h1 h2 => by omega⟩ ?_
 rintro ys i ⟨hyl,hyp,hi1,hso⟩ K1 hK1
 refine gC (fun ht12 => ?_) (fun ht12 => ?_)
 ·have hin := abo ht12
  refine gL2 [1,2,6] [] (fun (zs : List Int) (j : Nat) => [(0,some (.ms 1000 1 0 xs.length)),(7,some (i64 j))]) (fun zs _ => [(1000,some (.row 1 (zs.map i64)))]) (fun zs j => zs.length = xs.length /\ zs.Perm xs /\ j <= i /\ SI zs i j) (fun _ j => j) ys i ⟨hyl,hyp,le_refl _,bmh hso⟩ ?_
  rintro zs j ⟨hzl,hzp,hji,hsi⟩ K2 hK2
  obtain ⟨a,ha⟩ := ab9 (show j < zs.length by omega)
  obtain ⟨b,hb⟩ := ab9 (show j - 1 < zs.length by omega)
  refine gs (acb rfl rfl rfl (fun h => aao (n := j) (.opt rfl (o1 h)) (.opt rfl (o1 h)) T31 rfl T3 rfl (by omega) (by omega) rfl)) ?_
  refine gs (acb rfl rfl rfl (fun h => aar (.opt rfl (o1 h)) rfl (aaf ha) T3 rfl rfl rfl)) ?_
  refine gaG (fun h => (ad2 (amn (b := 0) h) (by unfold acr; omega))) ?_
  refine gs (acb rfl rfl rfl (fun h => aao (n := (j - 1)) (.opt rfl (o1 h)) (.opt rfl (o1 h)) T31 rfl T3 rfl (by omega) (by omega) rfl)) ?_
  refine gs (acb rfl rfl rfl (fun h => aar (.opt rfl (o1 h)) rfl (aaf hb) T3 rfl rfl rfl)) ?_
  refine gcG (fun _ => (a3f a b)) ?_
  refine gD ?_
  refine gC (fun ht30 => ?_) (fun ht30 => ?_)
  ·obtain ⟨hj0, hab⟩ := bmq ht30
   refine ga (ad2 hj0 (by unfold acr; omega)) ?_
   refine ga (ad2 hj0 (by unfold acr; omega)) ?_
   refine gs (aao (n := (j - 1)) (.tmp rfl) (.tmp rfl) T31 rfl T3 rfl (by omega) (by omega) rfl) ?_
   refine gs (aar (.tmp rfl) rfl (aaf hb) T3 rfl rfl rfl) ?_
   refine gs (aao (n := j) (.tmp rfl) (.tmp rfl) T31 rfl T3 rfl (by omega) (by omega) rfl) ?_
   refine gs (aar (.tmp rfl) rfl (aaf ha) T3 rfl rfl rfl) ?_
   refine gs (aao (n := j) (.tmp rfl) (.tmp rfl) T31 rfl T3 rfl (by omega) (by omega) rfl) ?_
   refine gs (aba (.tmp rfl) rfl (aaf ha) rfl (.tmp rfl) rfl rfl T3 rfl rfl) ?_
   refine gs (aao (n := (j - 1)) (.tmp rfl) (.tmp rfl) T31 rfl T3 rfl (by omega) (by omega) rfl) ?_
   refine gs (aba (.tmp rfl) rfl ((List.getElem?_set_ne (by omega)).trans (aaf hb)) rfl (.tmp rfl) rfl rfl T3 rfl rfl) ?_
   refine gD ?_
   refine ga (ad2 hj0 (by unfold acr; omega)) ?_
   exact gK2 hK2 ((zs.set j b).set (j - 1) a) (j - 1) ⟨by rw [length_set,length_set]; exact hzl,(a5q ha hb).trans hzp,by omega,by have h9 := bfg hsi hj0 hji (by omega) (by rw [aag ha,aag hb]; exact hab); rw [aag ha,aag hb] at h9; exact h9⟩ (hw := Wk.of abu (.cons rfl (BlkSub.of (congrArg (Blk.row 1) (bbv zs j a b))) .nil))
  ·have hs := bnt ht30
   refine ga aau ?_
   exact gK2 hK1 zs (i + 1) ⟨hzl,hzp,by omega,bml hsi (by rw [aag ha,aag hb]; exact hs)⟩
 ·have hin := a8j ht12
  refine gR ?_
  exact Fin.own2 rfl (by rw [<- bi5 hyp (by omega) hso]) rfl
theorem a8y (xs : List Int) (hl : xs.length <= 12) (m : Int) : Con prog 265 [.ms 1000 1 0 xs.length, i64 0, i64 xs.length, i64 m] [(1000, some (.row 1 (xs.map i64)))] (.tup []) [(1000, some (.row 1 ((anp xs).map i64)))] := by
 refine gF func265 (fun k z h => abz h) ?_
 refine gL0 [1,2,3,8,9] [1000] [(0,some (.ms 1000 1 0 xs.length))] [] (True) (0) trivial ?_
 rintro - K1 hK1
 refine ga (abe (by omega)) ?_
 refine gC (fun ht23 => ?_) (fun ht23 => ?_) (st2 := (77777,0))
 ·refine gt (aad (aoy xs hl) (.cons (.tmp rfl) (.cons (.tmp rfl) (.cons (.tmp rfl) .nil))) (by first | exact hH0 | exact hH1 rfl | exact hH2 rfl rfl) rfl rfl) ?_
  refine gR ?_
  exact Fin.own2 rfl rfl rfl
 ·(rw [show aaa .leq ((xs.length : Int) - 0) 12 = true from decide_eq_true (by omega)] at ht23; cases ht23)
theorem a93 (x : Nat) (hx : x < 256) : FnC prog 363 [u64 x] (i64 (ac0 x)) := by
 refine gF0 func363 ?_
 refine gC (fun ht4 => ?_) (fun ht4 => ?_) (st1 := (2,0))
 ·(have := ht4; simp [aaa] at this; omega)
 ·refine gC (fun ht8 => ?_) (fun ht8 => ?_) (st1 := (5, 0))
  ·(have := ht8; simp [aaa] at this; omega)
  ·refine gC (fun ht14 => ?_) (fun ht14 => ?_) (st1 := (8, 0))
   ·(have := ht14; simp [aaa] at this; omega)
   ·refine gv (amj hx) ?_
    refine gs (alx (y := x) (.const _) (.tmp rfl) T9 rfl (by kernel_rfl) (by first | rfl | omega) (by omega) rfl) ?_
    refine gv (i64_in (by have := adk hx; omega)) ?_
    refine ga (aaz (by have := adk hx; omega)) ?_
    refine gE1 ?_
    simp only [i64]; congr 2; omega
theorem a3k (x : Nat) (hx : x < 256) : FnC prog 266 [u64 x] (i64 (ac0 x)) := by
 refine gF0 func266 ?_
 refine gC (fun hcfalse => ?_) (fun hcfalse => ?_) (st1 := (1,0))
 ·cases hcfalse
 ·refine gc (a93 x hx) ?_
  refine gE1 ?_
  first | rfl | (simp; done)
theorem asc (xs : List Int) (hl : xs.length <= 12) : Con prog 147 [.ms 1000 1 0 xs.length] [(1000, some (.row 1 (xs.map i64)))] (.tup []) [(1000, some (.row 1 ((anp xs).map i64)))] := by
 refine gF func147 (fun k z h => abz h) ?_
 refine gv (show IntKind.u64.wrap _ = ((xs.length : Nat) : Int) from u64_in (by omega)) ?_
 refine gc (a3k xs.length (by omega)) ?_
 refine gt (aad (a8y xs hl _) (.cons (.tmp rfl) (.cons (.const _) (.cons (.tmp rfl) (.cons (.tmp rfl) .nil)))) (by first | exact hH0 | exact hH1 rfl | exact hH2 rfl rfl) rfl rfl) ?_
 refine gR ?_
 exact Fin.own2 rfl rfl rfl
end Go.Lw
namespace Go.Lw
open Go.Proofs
theorem bh9 {l : Li} {g : Gr} {i : Nat} {z : Int} {j : Jt} (hz : g.joints[i]? = some z) (hj : l.joints[z.toNat]? = some j) : (aiu l g)[i]? = some (anc g j) := by
 unfold aiu; rw [getElem?_map,hz,Option.map_some,aag hj]
theorem an7 {l : Li} {g : Gr} {i : Nat} {z : Int} {j : Jt} {a : Int} (hz : g.joints[i]? = some z) (hj : l.joints[z.toNat]? = some j) (ha : anc g j = a) : ((aiu l g).take i).map i64 ++ [i64 a] = ((aiu l g).take (i + 1)).map i64 := by
 rw [aak (bh9 hz hj),ha,map_append]; rfl
theorem bd6 {z : Int} {n : Nat} (h0 : 0 <= z) (h1 : z < n) : cond (aaa .lss z 0) true (aaa .geq z (n : Int)) = false := by
 rw [show aaa .lss z 0 = false from decide_eq_false (by omega)]
 exact decide_eq_false (by omega)
theorem aow (l : Li) (hl : l.ok) (hli : liE l = 0) (g : Gr) (hg : GrOk l g) : Con prog 146 [l.av, g.av] [] (.tup [.ms 900 1 0 g.joints.length, .v .nilIface]) [(900, some (.row 1 ((aiu l g).map i64)))] := by
 have hlb := hg.lb
 have hlj := hg.lj
 refine gF func146 (fun k z h => by cases h) ?_
 refine gc (ak2 l hl) ?_
 refine gC (fun ht16 => ?_) (fun ht16 => ?_) (st1 := (3,0))
 ·(rw [hli] at ht16; cases ht16)
 ·refine gl ?_
  refine gW ((Wk.virt 900 1 rfl).trans <| Wk.of (sl := [(2,some (.ptr 2 0)),(3,some (.ptr 3 0)),(7,some (.ms 900 1 0 0)),(19,some (.lst 1 (g.joints.map i64))),(20,some (i64 g.joints.length)),(21,some (i64 0))]) (hp := [(2,some (.box l.av.cells)),(3,some (.box g.av.cells)),(900,some (.row 1 []))]) (.k (.k (.cons rfl (Sub.nilMs _ _ _) (.k (.k (.k .nil)))))) (.cons rfl (.refl _) (.cons rfl (.refl _) (.cons rfl (.refl _) .nil)))) ?_
  refine gL1 [2,3,19,20] [2,3] (fun (i : Nat) => [(7,some (.ms 900 1 0 i)),(21,some (i64 i))]) (fun i => [(900,some (.row 1 (((aiu l g).take i).map i64)))]) (fun i => i <= g.joints.length) (fun i => g.joints.length - i) 0 (zero_le _) ?_
  rintro i hi K1 hK1
  refine gC (fun ht22 => ?_) (fun ht22 => ?_) (st2 := (18,0))
  ·have hin := abo ht22
   obtain ⟨z,hz⟩ := ab9 hin
   obtain ⟨z0,z1⟩ := hg.j z (mem_of_getElem? hz)
   obtain ⟨j,hj⟩ : ∃ j,l.joints[z.toNat]? = some j := ab9 (by omega)
   have hlt : (((aiu l g).take i).map i64).length = i:=by rw [length_map,length_take,ahc]; omega
   refine gi (aaf hz) ?_
   refine glG ?_
   refine gC (fun ht33 => ?_) (fun ht33 => ?_) (st1 := (9,0))
   ·(rw [bd6 z0 z1] at ht33; cases ht33)
   ·refine gi (adt (n := z.toNat) (by omega) hj) ?_
    refine gc (akf g.bodies j.a (by omega)) ?_
    refine gc (akf g.bodies j.b (by omega)) ?_
    refine gD ?_
    refine gC (fun ht55 => ?_) (fun ht55 => ?_)
    ·have ha : anc g j = -1 := by unfold anc; cases h1 : g.bodies.contains j.a <;> cases h2 : g.bodies.contains j.b <;> rw [h1, h2] at ht55 <;> first | (cases ht55; done) | rfl
     refine gs (abt (.tmp rfl) rfl hlt.symm (.tmp rfl) T31 rfl T3 rfl rfl (by simp only [length_cons,length_nil]; omega) rfl rfl) ?_ (17,0)
     refine gW (Wk.of (sl := [(2,some (.ptr 2 0)),(3,some (.ptr 3 0)),(7,some (.ms 62 1 0 (i + 1))),(19,some (.lst 1 (g.joints.map i64))),(20,some (i64 g.joints.length)),(21,some (i64 i))]) (hp := [(2,some (.box l.av.cells)),(3,some (.box g.av.cells)),(62,some (.row 1 (((aiu l g).take (i + 1)).map i64)))]) abu (.cons rfl (.refl _) (.cons rfl (.refl _) (.cons rfl (BlkSub.of (congrArg (Blk.row 1) (an7 hz hj ha))) .nil)))) ?_ (17,0)
     refine gW (Wk.rekey (k := 62) (d := 900) rfl rfl) ?_
     refine ga aau ?_
     exact gK1 hK1 (i + 1) hin
    ·refine gC (fun ht63 => ?_) (fun ht63 => ?_)
     ·have ha : anc g j = j.b := by unfold anc; cases h1 : g.bodies.contains j.a <;> cases h2 : g.bodies.contains j.b <;> rw [h1] at ht63 <;> rw [h1, h2] at ht55 <;> first | (cases ht55; done) | (cases ht63; done) | rfl
      refine gs (abt (.tmp rfl) rfl hlt.symm (.tmp rfl) T31 rfl T3 rfl rfl (by simp only [length_cons,length_nil]; omega) rfl rfl) ?_ (17,0)
      refine gW (Wk.of (sl := [(2,some (.ptr 2 0)),(3,some (.ptr 3 0)),(7,some (.ms 69 1 0 (i + 1))),(19,some (.lst 1 (g.joints.map i64))),(20,some (i64 g.joints.length)),(21,some (i64 i))]) (hp := [(2,some (.box l.av.cells)),(3,some (.box g.av.cells)),(69,some (.row 1 (((aiu l g).take (i + 1)).map i64)))]) abu (.cons rfl (.refl _) (.cons rfl (.refl _) (.cons rfl (BlkSub.of (congrArg (Blk.row 1) (an7 hz hj ha))) .nil)))) ?_ (17,0)
      refine gW (Wk.rekey (k := 69) (d := 900) rfl rfl) ?_
      refine ga aau ?_
      exact gK1 hK1 (i + 1) hin
     ·have ha : anc g j = j.a := by unfold anc; rw [if_neg (by rw [show g.bodies.contains j.a = false from ht63]; simp)]
      refine gs (abt (.tmp rfl) rfl hlt.symm (.tmp rfl) T31 rfl T3 rfl rfl (by simp only [length_cons,length_nil]; omega) rfl rfl) ?_ (17,0)
      refine gW (Wk.of (sl := [(2,some (.ptr 2 0)),(3,some (.ptr 3 0)),(7,some (.ms 54 1 0 (i + 1))),(19,some (.lst 1 (g.joints.map i64))),(20,some (i64 g.joints.length)),(21,some (i64 i))]) (hp := [(2,some (.box l.av.cells)),(3,some (.box g.av.cells)),(54,some (.row 1 (((aiu l g).take (i + 1)).map i64)))]) abu (.cons rfl (.refl _) (.cons rfl (.refl _) (.cons rfl (BlkSub.of (congrArg (Blk.row 1) (an7 hz hj ha))) .nil)))) ?_ (17,0)
      refine gW (Wk.rekey (k := 54) (d := 900) rfl rfl) ?_
      refine ga aau ?_
      exact gK1 hK1 (i + 1) hin
  ·have hin := aan hi ht22
   subst hin
   refine gW (Wk.of (sl := [(7,some (.ms 900 1 0 g.joints.length))]) (hp := [(900,some (.row 1 ((aiu l g).map i64)))]) abu (.cons rfl (BlkSub.of (by rw [take_of_length_le (by rw [ahc]; exact le_refl _)])) .nil)) ?_
   refine gR ?_
   exact Fin.keep (ade rfl)
end Go.Lw
namespace Go.Lw
open Go.Proofs
abbrev svC (l : Li) (g : Gr) (a : As) : List AV := [.v (.string l.name), .lst 2 (l.bodies.map Bd.av), .lst 7 (l.joints.map Jt.av), .lst 2 (l.drivers.map Dr.av), i64 g.kind, .lst 1 (g.bodies.map i64), .lst 1 (g.joints.map i64), i64 g.driver,
  .lst 1 (a.rs.map nR),.lst 4 (a.bs.map Pl.av),.lst 1 (a.ms.map i64),.v .nilIface]
abbrev svB (l : Li) (g : Gr) (a : As) : Blk := .box (svC l g a)
def dyR (e : Nat) : AV := if e = 0 then .ptr 900 0 else .v (.pointer none)
def dyH (e : Nat) (l : Li) (g : Gr) (a : As) : Hp := if e = 0 then [(900,some (svB l g a))] else []
theorem axf {e : Nat} (h : e ≠ 0) : dyR e = .v (.pointer none) := if_neg h
theorem azc {e : Nat} {l : Li} {g : Gr} {a : As} (h : e ≠ 0) : dyH e l g a = [] := if_neg h
theorem bdg (l : Li) (g : Gr) : ndL l g true = aiu l g ++ g.bodies := rfl
theorem a6c (l : Li) (g : Gr) : ndL l g false = aiu l g:=by unfold ndL; simp
theorem bfm {rs : List (List Rt)} {b : Pl} {i : Nat} {x : List Rt} (h : aey rs = 0) (hx : b.l[i]? = some x) (hb : ∀ y ∈ b.l.take i,ahb rs.length y = 0) (hn : ahb rs.length x ≠ 0) : abf rs b.l = ahb rs.length x := atp h hx hb hn
theorem bkk {l : Li} {g : Gr} {a : As} {own : Bool} {j : Nat} {b : Int} (hb : (anp (ndL l g own))[j]? = some b) (hj : ∀ c ∈ (anp (ndL l g own)).take j, ndE a c = 0) (hn : ndE a b ≠ 0) : ac2 ((anp (ndL l g own)).map (ndE a)) = ndE a b := by
 have h1 : anp (ndL l g own) = (anp (ndL l g own)).take j ++ b :: (anp (ndL l g own)).drop (j + 1) := by
  obtain ⟨hi,e⟩ := List.getElem?_eq_some_iff.1 hb
  rw [<- e,<- List.drop_eq_getElem_cons hi,List.take_append_drop]
 generalize anp (ndL l g own) = xs at *
 rw [h1,map_append,ahm _ _ (agm hj),map_cons,aky,if_pos hn]
theorem auf (l : Li) (hl : l.ok) (k : Int) (a : As) (al : AL a) (own : Bool) :
  Con prog 56 [l.av,i64 k,a.av,bl own] [] (.tup [dyR (dyE l k a own),ajw (dyE l k a own)]) (dyH (dyE l k a own) l (gAt l k) a) := by
 have hbl := al.bl
 refine gF func56 (fun k z h => by cases h) ?_
 refine gc (aur l hl) ?_
 refine gC (fun ht27 => ?_) (fun ht27 => ?_)
 ·have h1 := af6 ht27
  refine gR ?_
  rw [bo5 rfl h1,axf h1,azc h1]
  exact agn rfl
 ·have h1 := ae0 ht27
  obtain ⟨hli,hsp⟩ := bmv h1
  rw [show (if liE l = 0 then ab7 l else []) = ab7 l from if_pos hli]
  have hbs := (abw hli).2.2.2.1
  have hgl := (ak3 hli).2
  have hsg : ab7 l = adl l:=by unfold ab7; rw [if_pos hsp]
  refine glG ?_
  refine gC (fun ht36 => ?_) (fun ht36 => ?_)
  ·have h2 := bim ht36
   have he : dyE l k a own = 9 := (bgk hli).trans (boe hsp h2)
   refine gR ?_
   rw [he,axf (by decide),azc (by decide)]
   exact agn rfl
  ·have h2 := bjg ht36
   refine gl ?_
   refine gl ?_
   refine gC (fun ht44 => ?_) (fun ht44 => ?_)
   ·have h3 := bd4 ht44
    have he : dyE l k a own = 10 := (bgk hli).trans (boa hsp h2 h3)
    refine gR ?_
    rw [he,axf (by decide),azc (by decide)]
    exact agn rfl
   ·have h3 := bdm ht44
    refine gc (af7 a.rs 40000 al.tr) ?_
    refine gC (fun ht50 => ?_) (fun ht50 => ?_)
    ·have h4 := af6 ht50
     refine gR ?_
     rw [(bgk hli).trans (boi hsp h2 h3 h4),axf h4,azc h4]
     exact agn rfl
    ·have h4 := ae0 ht50
     obtain ⟨i,rfl,hi⟩ := bde h2
     obtain ⟨g,hg⟩ := ab9 hi
     obtain ⟨hgd,hgo⟩ := apb hli (mem_of_getElem? hg)
     have hgA : gAt l (i : Nat) = g := aag hg
     rw [hgA]
     have he5 : dyE l (i : Nat) a own = ac2 ((anp (ndL l g own)).map (ndE a)):=by rw [<- hgA]; exact (bgk hli).trans (boc hsp h2 h3 h4)
     have hnl : (ndL l g own).length <= 5 := bh6 hgo
     have hgb := hgo.lb
     have hgj := hgo.lj
     refine gi (aaf hg) ?_
     refine gt (aad (aow l hl hli g hgo) (.cons (.tmp rfl) (.cons (.tmp rfl) .nil)) (by first | exact hH0 | exact hH1 rfl | exact hH2 rfl rfl) rfl rfl) ?_
     refine gD ?_
     refine gC (fun ht62 => ?_) (fun ht62 => ?_) (st1 := (13,0))
     ·cases ht62
     ·refine gJ0 [1, 4, 6, 10] [4, 6] [(13, some (.ms 900 1 0 (ndL l g own).length))] [(900, some (.row 1 ((ndL l g own).map i64)))] (True) ?_ ?_
      ·intro K1 hK1
       refine gC (fun ht64 => ?_) (fun ht64 => ?_)
       ·have ho : own = true := ht64
        subst ho
        refine gi (aaf hg) ?_
        refine gs (abt (.tmp rfl) rfl (by rw [length_map,ahc]) (.tmp rfl) T31 rfl T3 rfl rfl (by simp only [length_map]; omega) rfl rfl) ?_
        exact jK0 hK1 trivial (hw := (Wk.of (sl := [(1,some (i64 i)),(4,some (.ptr 4 0)),(6,some (.ptr 6 0)),(10,some (.lst 4 ((ab7 l).map Gr.av))),(13,some (.ms 71 1 0 (ndL l g true).length))]) (hp := [(4,some (.box l.av.cells)),(6,some (.box a.av.cells)),(71,some (.row 1 ((ndL l g true).map i64)))]) (.k (.k (.k (.k (.cons rfl (Sub.of (by rw [bdg,length_append,ahc,length_map])) .nil))))) (.cons rfl (.refl _) (.cons rfl (.refl _) (.cons rfl (BlkSub.of (by rw [bdg,map_append])) .nil)))).trans <| (Wk.rekey (k := 71) (d := 900) rfl rfl).trans <| Wk.o)
       ·have ho : own = false := ht64
        subst ho
        exact jK0 hK1 trivial (hw := Wk.of (.cons rfl (Sub.of (by rw [a6c,ahc])) (.k (.k (.k (.k .nil))))) (.cons rfl (BlkSub.of (by rw [a6c])) (.cons rfl (.refl _) (.cons rfl (.refl _) .nil))))
      ·rintro -
       refine gt (aad (Con.rekey 900 rfl rfl (asc (ndL l g own) (by omega))) (.cons (.tmp rfl) .nil) (by first | exact hH0 | exact hH1 rfl | exact hH2 rfl rfl) rfl rfl) ?_ (17,0)
       refine gW ((Wk.freeze (k := 900) rfl).trans <| Wk.of (sl := [(1,some (i64 i)),(4,some (.ptr 4 0)),(6,some (.ptr 6 0)),(10,some (.lst 4 ((ab7 l).map Gr.av))),(13,some (.lst 1 ((anp (ndL l g own)).map i64)))]) (hp := [(4,some (.box l.av.cells)),(6,some (.box a.av.cells))]) (.k (.k (.k (.k (.cons rfl (Sub.of (ab3 (by rw [length_map,a4r]))) .nil))))) (.cons rfl (.refl _) (.cons rfl (.refl _) .nil))) ?_
       refine gl ?_
       refine gL1 [1,4,6,10,74,75] [4,6] (fun (j : Nat) => [(76,some (i64 j))]) (fun _ => []) (fun j => j <= (anp (ndL l g own)).length /\ ∀ b ∈ (anp (ndL l g own)).take j,ndE a b = 0) (fun j => (anp (ndL l g own)).length - j) 0 ⟨zero_le _,fun b hb => by simp at hb⟩ ?_
       rintro j ⟨hj,hjz⟩ K2 hK2
       refine gC (fun ht77 => ?_) (fun ht77 => ?_)
       ·have hjn := abo ht77
        obtain ⟨b,hb⟩ := ab9 hjn
        have hbm := ao7.1 (mem_of_getElem? hb)
        have hbr := a42 hli hgo b hbm
        have hsl : (anp (ndL l g own)).length <= 5:=by rw [a4r]; exact hnl
        refine gi (aaf hb) ?_
        refine gC (fun ht81 => ?_) (fun ht81 => ?_)
        ·have hz : ndE a b = 0 := by unfold ndE; rw [if_pos (by simpa [aaa] using ht81)]
         refine ga aau ?_
         exact gK1 hK2 (j + 1) ⟨hjn,fun c hc => by rw [aak hb] at hc; rcases List.mem_append.1 hc with h9 | h9; exact hjz c h9; (rw [List.mem_singleton.1 h9]; exact hz)⟩
        ·have hb0 : 0 <= b := by have := of_decide_eq_false (p := b < 0) ht81; omega
         obtain ⟨p,hp⟩ := ab9 (l := a.bs) (i := b.toNat) (by omega)
         have hpn := al.nr p (mem_of_getElem? hp)
         have hnd : ndE a b = abf a.rs p.l:=by unfold ndE; rw [if_neg (by omega),aag hp]
         refine gi (adt (n := b.toNat) (by omega) hp) ?_
         refine ge rfl ?_
         refine gL1 [1,4,6,10,74,75,76,95,96] [4,6] (fun (q : Nat) => [(97,some (i64 q))]) (fun _ => []) (fun q => q <= 4 /\ ∀ x ∈ p.l.take q,ahb a.rs.length x = 0) (fun q => 4 - q) 0 ⟨zero_le _,fun x hx => by simp at hx⟩ ?_
         rintro q ⟨hq,hqz⟩ K3 hK3
         refine gC (fun ht98 => ?_) (fun ht98 => ?_)
         ·have hqn : q < 4 := abo (b := 4) ht98
          obtain ⟨x,hx⟩ : ∃ x,p.l[q]? = some x := ab9 (show q < p.l.length from hqn)
          have hxn := hpn x (mem_of_getElem? hx)
          have hone : abf a.rs [x] = ahb a.rs.length x := a1p h4
          refine gi (aaf hx) ?_
          refine gc (apn a.rs 40000 al.tr x 4000 hxn (bky _)) ?_
          refine gC (fun ht109 => ?_) (fun ht109 => ?_)
          ·have h5 := af6 ht109
           rw [hone] at h5 ⊢
           have h6 : ndE a b = ahb a.rs.length x := hnd.trans (bfm h4 hx hqz h5)
           have h7 : dyE l (i : Nat) a own = ahb a.rs.length x:=by rw [he5,bkk hb hjz (by rw [h6]; exact h5),h6]
           refine gR ?_
           rw [h7,axf h5,azc h5]
           exact agn rfl
          ·have h5 := ae0 ht109
           rw [hone] at h5
           refine ga aau ?_
           exact gK1 hK3 (q + 1) ⟨hqn,fun z hz => by rw [aak hx] at hz; rcases List.mem_append.1 hz with h9 | h9; exact hqz z h9; (rw [List.mem_singleton.1 h9]; exact h5)⟩
         ·have hqn : q = 4 := aan (b := 4) hq ht98
          subst hqn
          have hqz : ∀ x ∈ p.l,ahb a.rs.length x = 0 := hqz
          refine ga aau ?_
          exact gK1 hK2 (j + 1) ⟨hjn,fun c hc => by rw [aak hb] at hc; rcases List.mem_append.1 hc with h9 | h9; exact hjz c h9; (rw [List.mem_singleton.1 h9,hnd]; exact amm h4 hqz)⟩
       ·have hjn := aan hj ht77
        have h8 : dyE l (i : Nat) a own = 0 := by
         rw [he5]
         exact agm (fun b hb => hjz b (by rw [hjn,take_length]; exact hb))
        refine gi (aaf hg) ?_
        refine gD ?_ (77777,0)
        refine gW (Wk.o (sl := [(8,some (.ptr 120 0)),(9,some (.v .nilIface))]) (hp := [(120,some (svB l g a))])) ?_ (77777,0)
        refine gW (Wk.rekey (k := 120) (d := 900) rfl rfl) ?_
        refine gR ?_
        rw [h8]
        exact Fin.keep (ade rfl)
end Go.Lw
namespace Go.Lw
open Go.Proofs
theorem axd {ts : List (List Rat)} {r e : Nat} (tw : Tw ts r) {a b c d : List Rat} (ha : Nm ts.length e a) (hb : Nm ts.length e b) (hc : Nm ts.length e c) (hd : Nm ts.length e d) (he : 2 * e <= lm ts.length) :
  FnC prog 64 [adv ts,ptA a b,ptA c d] (.tup [ptA (sh ts.length (subT ts (dec ts.length a) (dec ts.length c))) (sh ts.length (subT ts (dec ts.length b) (dec ts.length d))),.v .nilIface]) := by
 refine gF0 func64 ?_
 refine gc (ac9 (e := e) tw [(a,b),(c,d)] (by simp only [mem_cons,not_mem_nil,or_false]; rintro p (rfl | rfl); exact ⟨ha,hb⟩; exact ⟨hc,hd⟩) (by omega) (by simp)) ?_
 refine gC (fun ht16 => ?_) (fun ht16 => ?_) (st1 := (3,0))
 ·cases ht16
 ·refine gt (aad (Con.rekeyB 21 rfl rfl rfl rfl (arl tw ha hb hc hd he)) (.cons (.tmp rfl) (.cons (.tmp rfl) (.cons (.tmp rfl) .nil))) (by first | exact hH0 | exact hH1 rfl | exact hH2 rfl rfl) rfl rfl) ?_
  refine gt (aad (Con.rekeyB 21 rfl rfl rfl rfl (akh _ _ _)) (.cons (.tmp rfl) (.cons (.tmp rfl) .nil)) (by first | exact hH0 | exact hH1 rfl | exact hH2 rfl rfl) rfl rfl) ?_
  refine gE2 ?_
  rfl
theorem as0 {ts : List (List Rat)} {r e : Nat} (tw : Tw ts r) {a b c d : List Rat} (ha : Nm ts.length e a) (hb : Nm ts.length e b) (hc : Nm ts.length e c) (hd : Nm ts.length e d) (he : 2 * (e + e + kB r ts.length) <= lm ts.length) :
  FnC prog 65 [adv ts,ptA a b,ptA c d] (.tup [nA (sh ts.length (ary ts (dec ts.length a) (dec ts.length b) (dec ts.length c) (dec ts.length d))),.v .nilIface]) := by
 refine gF0 func65 ?_
 refine gc (Con.subA (.cons (.refl _) (.cons (.refl _) (.cons (.refl _) (.cons (Sub.fn0 _) .nil)))) (ai6 tw ha hb hc hd (by omega) _ _ (axw tw ha hb hc hd he))) ?_
 refine gE2 ?_
 first | rfl | (simp; done)
section
variable {ts : List (List Rat)} {u k : Nat} {a b a2 b2 : List Rat} {x y x2 y2 : Et ts} {w v w' v' w2 v2 w3 v3 : Nat}
theorem anh [c : Ct ts u k] [ha : Zl ts u k a x w v] [hb : Zl ts u k b y w' v'] [ha2 : Zl ts u k a2 x2 w2 v2] [hb2 : Zl ts u k b2 y2 w3 v3] (h : w + v + (w' + v') + (w2 + v2 + (w3 + v3)) <= 2500 := by decide) :
  FnC prog 64 [adv ts,ptA a b,ptA a2 b2] (.tup [ptA (sX (x - x2)) (sX (y - y2)),.v .nilIface]) := by
 obtain ⟨R,tw,hk⟩ := c.ex
 have h0 := a3o c hk
 have h1 := axd (e := 2500 * 1000000) tw (ha.up c (by omega)) (hb.up c (by omega)) (ha2.up c (by omega)) (hb2.up c (by omega)) (by omega)
 rw [ha.eq,hb.eq,ha2.eq,hb2.eq] at h1
 exact h1
theorem a0m [c : Ct ts u k] [ha : Zl ts u k a x w v] [hb : Zl ts u k b y w' v'] [ha2 : Zl ts u k a2 x2 w2 v2] [hb2 : Zl ts u k b2 y2 w3 v3] (h : w + v + (w' + v') + (w2 + v2 + (w3 + v3)) <= 2500 := by decide) :
  FnC prog 65 [adv ts,ptA a b,ptA a2 b2] (.tup [nA (sX (crsE x y x2 y2)),.v .nilIface]) := by
 obtain ⟨R,tw,hk⟩ := c.ex
 have h0 := a3o c hk
 have h1 := as0 (e := 2500 * 1000000) tw (ha.up c (by omega)) (hb.up c (by omega)) (ha2.up c (by omega)) (hb2.up c (by omega)) (by omega)
 rw [ha.eq,hb.eq,ha2.eq,hb2.eq] at h1
 exact h1
end
end Go.Lw
namespace Go.Lw
variable {P : Program} {N : Nat} {R : Array Oper} {s : AS}
theorem abq {d f k : Nat} {bx : Blk} {args : Array Operand} {ts : Array TypeId} {xs : List AV} {r : AV} {t : TypeId} {pos : String} {after : Array Edge}
  (hcon : Con P f xs [(k,some bx)] r [(k,some bx)]) (ha : EvL s args.toList xs) (hk : s.blk k = some bx) (hok : acx s [(k,some bx)] [(k,some bx)] r = true) (hN : Nat.blt d N = true) :
  Step P N R s ⟨some d,.call ⟨.value (.func f),args,ts⟩,t,pos,after,none⟩ ⟨some r,[],rtL args.toList,[k]⟩ := by
 refine Step.weaken (aad (d := d) hcon ha (fun k' z h => by
  obtain ⟨rfl,h9⟩ := aeh h
  cases h9; exact hk) hok hN) (fun s' h => h) (fun s' h k' hk' => ?_) (fun s' h => ?_)
 ·left
  simp only [map_append,ajc,map_cons,List.map_nil,mem_append,mem_cons,not_mem_nil,or_false] at hk' ⊢
  rcases hk' with h9 | h9 <;> exact h9
 ·intro C m a w hr
  refine ⟨m,hr.weak (fun t x hx => ⟨x,hx,.refl _⟩) (fun k' x hx => ⟨x,?_,.refl _⟩)⟩
  have hb : lk s'.hp k = some bx := (h.2 k (List.mem_singleton.2 rfl)).trans hk
  show lk ([(k,some bx)] ++ ajc [(k,some bx)] ++ s'.hp) k' = some x
  have hx' : lk s'.hp k' = some x := hx
  simp only [ajc,map_cons,List.map_nil,List.cons_append,nil_append,aab]
  by_cases e : k' = k
  ·rw [if_pos e]; rw [e,hb] at hx'; exact hx'
  ·rw [if_neg e,if_neg e]; exact hx'
theorem ao6 {k1 k2 k' : Nat} {x y : Option Blk} {z : Blk} (h : lk [(k1, x), (k2, y)] k' = some z) : (k' = k1 /\ x = some z) \/ (k' ≠ k1 /\ k' = k2 /\ y = some z) := by
 rw [aab] at h
 by_cases e : k' = k1
 ·rw [if_pos e] at h; exact .inl ⟨e,h⟩
 ·rw [if_neg e] at h
  obtain ⟨h1,h2⟩ := aeh h
  exact .inr ⟨e,h1,h2⟩
theorem awf {k1 k2 : Nat} {x y : Option Blk} : lk [(k1,x),(k2,y)] k1 = x:=by rw [aab,if_pos rfl]
theorem awo {k1 k2 : Nat} {x y : Option Blk} (h : k1 ≠ k2) : lk [(k1,x),(k2,y)] k2 = y:=by rw [aab,if_neg (fun e => h e.symm),aab,if_pos rfl]
theorem a49 {k1 k2 : Nat} (hne : k1 ≠ k2) {x y : Blk} {m : Nat -> Option Nat} {b : Nat} : Own [(k1, some x), (k2, some y)] m b ↔ m k1 = some b \/ m k2 = some b := by
 constructor
 ·rintro ⟨k', z, hz, hb⟩
  rcases ao6 hz with ⟨e,_⟩ | ⟨_,e,_⟩
  ·exact .inl (e ▸ hb)
  ·exact .inr (e ▸ hb)
 ·rintro (h | h)
  ·exact ⟨k1,x,awf,h⟩
  ·exact ⟨k2,y,awo hne,h⟩
theorem azp {k1 k2 d1 d2 : Nat} (hk : k1 ≠ k2) (hd : d1 ≠ d2) {x y x' y' : Blk} {m m2 : Nat -> Option Nat} (h1 : m2 d1 = m k1) (h2 : m2 d2 = m k2) : Own [(d1, some x'), (d2, some y')] m2 = Own [(k1, some x), (k2, some y)] m := by
 funext b; apply propext; rw [a49 hk,a49 hd,h1,h2]
theorem a36 {ext : Nat -> Prop} {k1 k2 d1 d2 : Nat} (hk : k1 ≠ k2) (hd : d1 ≠ d2) {x y x' y' : Blk} {m m2 : Nat -> Option Nat} {w : World} (h1 : m2 d1 = m k1) (h2 : m2 d2 = m k2) : Im ext [(d1, some x'), (d2, some y')] m2 w = Im ext [(k1, some x), (k2, some y)] m w := by
 funext b cs
 simp only [Im,azp hk hd (x := x) (y := y) (x' := x') (y' := y') h1 h2]
theorem awe {ext : Nat -> Prop} {k1 k2 d1 d2 : Nat} (hk : k1 ≠ k2) (hd : d1 ≠ d2) {x y : Blk} {m m2 : Nat -> Option Nat} {w : World} (hx : x.nm = []) (hy : y.nm = []) (h1 : m2 d1 = m k1) (h2 : m2 d2 = m k2)
  (hr : HeapRel ext [(k1,some x),(k2,some y)] m w) : HeapRel ext [(d1,some x),(d2,some y)] m2 w := by
 refine ⟨?_,?_,?_⟩
 ·intro k' z hz
  rw [a36 hk hd (x := x) (y := y) h1 h2]
  rcases ao6 hz with ⟨rfl,h9⟩ | ⟨_,rfl,h9⟩
  ·cases h9
   exact BlkRep.mono (w := w) (fun _ _ h => h) (fun _ _ h => h) (fun _ _ hn => (akz hx hn).elim) h1 (fun _ _ => rfl) (hr.blk k1 _ awf)
  ·cases h9
   exact BlkRep.mono (w := w) (fun _ _ h => h) (fun _ _ h => h) (fun _ _ hn => (akz hy hn).elim) h2 (fun _ _ => rfl) (hr.blk k2 _ (awo hk))
 ·intro k k' z z' b hz hz' hb hb'
  rcases ao6 hz with ⟨rfl,_⟩ | ⟨_,rfl,_⟩ <;> rcases ao6 hz' with ⟨rfl,_⟩ | ⟨_,rfl,_⟩
  ·rfl
  ·exact absurd (hr.inj k1 k2 _ _ b awf (awo hk) (h1 ▸ hb) (h2 ▸ hb')) hk
  ·exact absurd (hr.inj k1 k2 _ _ b awf (awo hk) (h1 ▸ hb') (h2 ▸ hb)) hk
  ·rfl
 ·intro k' z b hz hb
  rcases ao6 hz with ⟨rfl,h9⟩ | ⟨_,rfl,h9⟩
  ·exact hr.sep k1 _ b awf (h1 ▸ hb)
  ·exact hr.sep k2 _ b (awo hk) (h2 ▸ hb)
theorem Con.rekeyBB {P : Program} {f : FuncId} {k1 k2 o1 o2 : Nat} {x y x' y' : Blk} {xs : List AV} {r : AV} (d1 d2 : Nat) (hk : k1 ≠ k2) (hd : d1 ≠ d2) (hx : x.nm = []) (hy : y.nm = []) (hx' : x'.nm = []) (hy' : y'.nm = []) (hxs : (xs.all fun x => x.nm.isEmpty) = true) (hr : r.nm = [])
  (h : Con P f (.ptr k1 o1 :: .ptr k2 o2 :: xs) [(k1,some x),(k2,some y)] r [(k1,some x'),(k2,some y')]) : Con P f (.ptr d1 o1 :: .ptr d2 o2 :: xs) [(d1,some x),(d2,some y)] r [(d1,some x'),(d2,some y')] := by
 refine ⟨h.ok,?_⟩
 intro ext m w vs hext hheap hvs hrep
 obtain ⟨m2,e1,e2⟩ : ∃ m2 : Nat -> Option Nat,m2 k1 = m d1 /\ m2 k2 = m d2 := ⟨fun k => if k = k1 then m d1 else m d2,if_pos rfl,if_neg (fun e => hk e.symm)⟩
 have h1 := h.ret ext m2 w vs hext (awe hd hk hx hy e1 e2 hheap) (by simpa using hvs) (by
  intro j v z hv hz
  rw [a36 hd hk (x := x) (y := y) e1 e2]
  match j,hz with
  | 0, hz =>
   cases hz
   have h2 := hrep 0 v _ hv rfl
   cases h2 with
   | ptr hm => exact .ptr (e1.trans hm)
  | 1, hz =>
   cases hz
   have h2 := hrep 1 v _ hv rfl
   cases h2 with
   | ptr hm => exact .ptr (e2.trans hm)
  | j + 2, hz =>
   have h2 := hrep (j + 2) v z hv hz
   refine acj ?_ h2
   have := List.all_eq_true.1 hxs z (mem_of_getElem? hz)
   simpa using this)
 refine Calls.mono h1 ?_
 rintro e w' ⟨v,m',rfl,hf,hh,hn,hkp,hrr⟩
 have ho := azp hd hk (x := x) (y := y) (x' := x) (y' := y) e1 e2
 obtain ⟨m3,f1,f2⟩ : ∃ m3 : Nat -> Option Nat,m3 d1 = m' k1 /\ m3 d2 = m' k2 := ⟨fun k => if k = d1 then m' k1 else m' k2,if_pos rfl,if_neg (fun e => hd e.symm)⟩
 refine ⟨v,m3,rfl,ho ▸ hf,awe hk hd hx' hy' f1 f2 hh,?_,?_,?_⟩
 ·intro k' z b hz hb
  rw [<- ho]
  rcases ao6 hz with ⟨rfl,_⟩ | ⟨_,rfl,_⟩
  ·exact hn k1 _ b awf (f1 ▸ hb)
  ·exact hn k2 _ b (awo hk) (f2 ▸ hb)
 ·intro k' z z' hz hz'
  rcases ao6 hz with ⟨rfl,_⟩ | ⟨_,rfl,_⟩
  ·rw [f1,<- e1]; exact hkp k1 _ _ awf awf
  ·rw [f2,<- e2]; exact hkp k2 _ _ (awo hk) (awo hk)
 ·rw [a36 hk hd (x := x') (y := y') f1 f2]
  exact acj hr hrr
end Go.Lw
namespace Go.Lw
open Go.Proofs
theorem blo {l : Li} {body pt : Int} {n k : Nat} {bd : Bd} {m : Mk} (h : MkP l body pt n k bd m) : qP (mkQ l body pt) = .agg [bl m.x.neg, ws m.x.num, ws m.x.den, bl m.y.neg, ws m.y.num, ws m.y.den] := by
 rw [h.ex,h.ey]
theorem aqn {p q : Rat × Rat} {e f : Nat} (hp : Sm e p) (hq : Sm f q) (he : e <= 1000000) (hf : f <= 1000000) : FnC prog 156 [qP p, qP q] (qP (awi p q)) := by
 refine gF0 func156 ?_
 refine gc (bci (hp.x.qs (by omega)) (hq.x.qs (by omega))) ?_
 refine gc (bci (hp.y.qs (by omega)) (hq.y.qs (by omega))) ?_
 refine gD ?_
 refine gE1 ?_
 first | rfl | (simp; done)
theorem bag {p q : Rat × Rat} {e f : Nat} (hp : Sm e p) (hq : Sm f q) (he : e <= 1000000) (hf : f <= 1000000) : FnC prog 280 [qP p, qP q] (qA (a9n p q)) := by
 refine gF0 func280 ?_
 refine gc (a7o (hp.x.qs (by omega)) (hq.x.qs (by omega))) ?_
 refine gc (a7o (hp.y.qs (by omega)) (hq.y.qs (by omega))) ?_
 refine gc (bkw ((hp.x.mul hq.x).qs (by omega)) ((hp.y.mul hq.y).qs (by omega))) ?_
 refine gD ?_
 refine gE1 ?_
 first | rfl | (simp; done)
theorem a27 {p q : Rat × Rat} {e f : Nat} (hp : Sm e p) (hq : Sm f q) (he : e <= 1000000) (hf : f <= 1000000) : FnC prog 166 [qP p, qP q] (qA (ap2 p q)) := by
 refine gF0 func166 ?_
 refine gc (a7o (hp.x.qs (by omega)) (hq.y.qs (by omega))) ?_
 refine gc (a7o (hp.y.qs (by omega)) (hq.x.qs (by omega))) ?_
 refine gc (bci ((hp.x.mul hq.y).qs (by omega)) ((hp.y.mul hq.x).qs (by omega))) ?_
 refine gD ?_
 refine gE1 ?_
 first | rfl | (simp; done)
theorem aqc {p : Rat × Rat} {e : Nat} (hp : Sm e p) (he : e <= 1000000) : FnC prog 155 [qP p] (nA (sh 0 (a9n p p : Rat))) := by
 refine gF0 func155 ?_
 refine gc (bag hp hp he he) ?_
 refine gc (ayk ((hp.dot hp).qs (by omega))) ?_
 refine gE1 ?_
 first | rfl | (simp; done)
theorem a0j : FnC prog 57 [] (nA (sh 0 ((1 : Int) : Rat))) := by
 refine gF0 func57 ?_
 refine gc (aip 1 (by omega)) ?_
 refine gc (ayk (av1 (by omega))) ?_
 refine gE1 ?_
 first | rfl | (simp; done)
theorem afo {l : Li} (hl : l.ok) (hli : liE l = 0) (g : Gr) (a : As) {body pt : Int} (h1 : inB body l.bodies.length = true) (h2 : inB pt (aez l body).length = true) :
  Con prog 157 [.ptr 1000 0,i64 body,i64 pt] [(1000,some (svB l g a))] (qP (mkQ l body pt)) [(1000,some (svB l g a))] := by
 obtain ⟨n,k,bd,m,mp⟩ := ba0 hl hli h1 h2
 rw [blo mp]
 have hn := mp.hn
 have hk := mp.hk
 have hlb := hl.lb
 subst hn
 subst hk
 refine gF func157 (fun k z h => abz h) ?_
 refine gi (aaf mp.gbd) ?_
 refine gi (aaf mp.gm) ?_
 refine gR ?_
 exact Fin.keep (ade rfl)
theorem ae4 {l : Li} (hl : l.ok) (hli : liE l = 0) (g : Gr) {a : As} (al : AL a) (hc : aey a.rs = 0) {body pt : Int} (h1 : inB body l.bodies.length = true) (h2 : inB pt (aez l body).length = true) (hb : Pd a body) :
  Con prog 73 [.ptr 1000 0,i64 body,i64 pt] [(1000,some (svB l g a))] (ptA (sX (plE l a body pt).1) (sX (plE l a body pt).2)) [(1000,some (svB l g a))] := by
 obtain ⟨n,k,bd,m,b,hp⟩ := bf2 hl hli al hc h1 h2 hb
 obtain ⟨tw,hta⟩ := ab0 al.tr hc
 have kb := kb4 tw.three
 have hlm := an3 (llq a.rs).length
 have hlb := hl.lb
 have hbl := al.bl
 have hmk := afo hl hli g a h1 h2
 show Con prog _ _ _ (ptA (sh (llq a.rs).length (bel l a body pt).1) (sh (llq a.rs).length (bel l a body pt).2)) _
 rw [hp.eq]
 have hn := hp.mp.hn
 rw [blo hp.mp] at hmk
 have hat : FnC prog 71 [agh a.rs, b.av, m.x.av, m.y.av] (.tup [ptA (sh (llq a.rs).length (atP (llq a.rs) b m).1) (sh (llq a.rs).length (atP (llq a.rs) b m).2), .v .nilIface]) := by
  rw [hta,hp.av,hp.mp.ex,hp.mp.ey]
  have h9 := arw tw hp.ok.c hp.ok.s hp.ok.x hp.ok.y (hp.mp.sm.x.mono (f := 4000) (by omega)) (hp.mp.sm.y.mono (f := 4000) (by omega)) (by omega)
  unfold atP
  rw [hp.mp.ex,hp.mp.ey,ah0,ah0]
  exact h9
 refine gF func73 (fun k z h => abz h) ?_
 refine gt (aad hmk (.cons (.tmp rfl) (.cons (.tmp rfl) (.cons (.tmp rfl) .nil))) (by first | exact hH0 | exact hH1 rfl | exact hH2 rfl rfl) rfl rfl) ?_
 refine gi (adt (n := n) hn hp.gb) ?_
 refine gc hat ?_
 refine gD ?_
 refine gC (fun ht39 => ?_) (fun ht39 => ?_) (st2 := (77777,0))
 ·refine gR ?_
  exact Fin.keep (ade rfl)
 ·cases ht39
theorem aoa {l : Li} (hl : l.ok) (hli : liE l = 0) (g : Gr) (hg : GrOk l g) {a : As} (al : AL a) (hc : aey a.rs = 0) {k : Nat} {z b : Int} {j : Jt} (hz : g.joints[k]? = some z) (hj : l.joints[z.toNat]? = some j) (h : PinP l a j b) :
  Con prog 151 [.ptr 1000 0,i64 k,i64 b] [(1000,some (svB l g a))] (.tup [qP (adg l j b),ptA (sX (ab8 l a j b).1) (sX (ab8 l a j b).2)]) [(1000,some (svB l g a))] := by
 obtain ⟨z0,z1⟩ := hg.j z (mem_of_getElem? hz)
 obtain ⟨i1,i2,i3,i4,_⟩ := aem hli hj
 have hgj := hg.lj
 have hlj := hl.lj
 refine gF func151 (fun k z h => abz h) ?_
 refine gi (aaf hz) ?_
 refine gi (adt (n := z.toNat) (by omega) hj) ?_
 refine gD ?_
 refine gC (fun ht27 => ?_) (fun ht27 => ?_)
 ·have e : j.a = b := ae9 ht27
  have hb : Pd a j.b:=by rcases h.tie with h9 | h9; exact h9.2; exact absurd e h9.1
  have eq1 : adg l j b = mkQ l b j.point := if_pos e
  have eq2 : ab8 l a j b = plE l a j.b j.on := if_pos e
  rw [eq1,eq2]
  subst e
  refine gt (aad (afo hl hli g a i1 i3) (.cons (.tmp rfl) (.cons (.tmp rfl) (.cons (.tmp rfl) .nil))) (by first | exact hH0 | exact hH1 rfl | exact hH2 rfl rfl) rfl rfl) ?_
  refine gt (aad (ae4 hl hli g al hc i2 i4 hb) (.cons (.tmp rfl) (.cons (.tmp rfl) (.cons (.tmp rfl) .nil))) (by first | exact hH0 | exact hH1 rfl | exact hH2 rfl rfl) rfl rfl) ?_
  refine gD ?_
  refine gR ?_
  exact Fin.keep (ade rfl)
 ·have e : j.a ≠ b := afy ht27
  have e2 : j.b = b /\ Pd a j.a:=by rcases h.tie with h9 | h9; exact absurd h9.1 e; exact h9.2
  have eq1 : adg l j b = mkQ l b j.on := if_neg e
  have eq2 : ab8 l a j b = plE l a j.a j.point := if_neg e
  rw [eq1,eq2]
  obtain ⟨e2,hb⟩ := e2
  subst e2
  refine gt (aad (afo hl hli g a i2 i4) (.cons (.tmp rfl) (.cons (.tmp rfl) (.cons (.tmp rfl) .nil))) (by first | exact hH0 | exact hH1 rfl | exact hH2 rfl rfl) rfl rfl) ?_
  refine gt (aad (ae4 hl hli g al hc i1 i3 hb) (.cons (.tmp rfl) (.cons (.tmp rfl) (.cons (.tmp rfl) .nil))) (by first | exact hH0 | exact hH1 rfl | exact hH2 rfl rfl) rfl rfl) ?_
  refine gD ?_
  refine gR ?_
  exact Fin.keep (ade rfl)
theorem azz {l : Li} (hl : l.ok) (hli : liE l = 0) (g : Gr) (hg : GrOk l g) (a : As) {z b : Int} {j : Jt} (hz : g.joints[2]? = some z) (hj : l.joints[z.toNat]? = some j) (h : j.a = b \/ j.b = b) :
  Con prog 152 [.ptr 1000 0,i64 b] [(1000,some (svB l g a))] (qP (adg l j b)) [(1000,some (svB l g a))] := by
 obtain ⟨z0,z1⟩ := hg.j z (mem_of_getElem? hz)
 obtain ⟨i1,i2,i3,i4,_⟩ := aem hli hj
 have hgj := hg.lj
 have hlj := hl.lj
 have h2 := (List.getElem?_eq_some_iff.1 hz).1
 refine gF func152 (fun k z h => abz h) ?_
 refine gi (aaf hz) ?_
 refine gi (adt (n := z.toNat) (by omega) hj) ?_
 refine gD ?_
 refine gC (fun ht23 => ?_) (fun ht23 => ?_)
 ·have e : j.a = b := ae9 ht23
  have eq1 : adg l j b = mkQ l b j.point := if_pos e
  rw [eq1]
  subst e
  refine gt (aad (afo hl hli g a i1 i3) (.cons (.tmp rfl) (.cons (.tmp rfl) (.cons (.tmp rfl) .nil))) (by first | exact hH0 | exact hH1 rfl | exact hH2 rfl rfl) rfl rfl) ?_
  refine gR ?_
  exact Fin.keep (ade rfl)
 ·have e : j.a ≠ b := afy ht23
  have e2 : j.b = b:=by rcases h with h9 | h9; exact absurd h9 e; exact h9
  have eq1 : adg l j b = mkQ l b j.on := if_neg e
  rw [eq1]
  subst e2
  refine gt (aad (afo hl hli g a i2 i4) (.cons (.tmp rfl) (.cons (.tmp rfl) (.cons (.tmp rfl) .nil))) (by first | exact hH0 | exact hH1 rfl | exact hH2 rfl rfl) rfl rfl) ?_
  refine gR ?_
  exact Fin.keep (ade rfl)
theorem aml {l : Li} (hl : l.ok) (g : Gr) (hg : GrOk l g) (a : As) {z : Int} {j : Jt} (hz : g.joints[1]? = some z) (hj : l.joints[z.toNat]? = some j) :
  Con prog 72 [.ptr 1000 0] [(1000,some (svB l g a))] j.av [(1000,some (svB l g a))] := by
 obtain ⟨z0,z1⟩ := hg.j z (mem_of_getElem? hz)
 have hgj := hg.lj
 have hlj := hl.lj
 have h2 := (List.getElem?_eq_some_iff.1 hz).1
 refine gF func72 (fun k z h => abz h) ?_
 refine gi (aaf hz) ?_
 refine gi (adt (n := z.toNat) (by omega) hj) ?_
 refine gD ?_
 refine gR ?_
 exact Fin.keep (ade rfl)
abbrev hdC {ts : List (List Rat)} (p : Rat × Rat) (at_ : Et ts × Et ts) (c : Rat × Rat) : List AV :=
  [bl (rt p.1).neg,ws (rt p.1).num,ws (rt p.1).den,bl (rt p.2).neg,ws (rt p.2).num,ws (rt p.2).den,nA (sX at_.1),nA (sX at_.2),bl (rt c.1).neg,ws (rt c.1).num,ws (rt c.1).den,bl (rt c.2).neg,ws (rt c.2).num,ws (rt c.2).den]
abbrev hdA {ts : List (List Rat)} (p : Rat × Rat) (at_ : Et ts × Et ts) (c : Rat × Rat) : AV := .agg (hdC p at_ c)
abbrev crA {ts : List (List Rat)} (p : Rat × Rat) (at_ : Et ts × Et ts) (c : Rat × Rat) : AV := .agg [nA (sX at_.1),nA (sX at_.2),nA (sh 0 (sqQ c p : Rat))]
theorem aki {ts : List (List Rat)} {p c : Rat × Rat} (hp : Sm 1000 p) (hc : Sm 1000 c) (at_ : Et ts × Et ts) : FnC prog 61 [hdA p at_ c] (crA p at_ c) := by
 refine gF0 func61 ?_
 refine gc (aqn hc hp (by omega) (by omega)) ?_
 refine gc (aqc (hc.sub hp) (by omega)) ?_
 refine gD ?_
 refine gE1 ?_
 first | rfl | (simp; done)
theorem a0n {l : Li} (hl : l.ok) (hli : liE l = 0) {a : As} (al : AL a) (hc : aey a.rs = 0) {i k z0 z1 z2 : Int} {j0 j1 j2 : Jt} (hg : GrOk l ⟨1, [i, k], [z0, z1, z2], 0⟩)
  (h0 : l.joints[z0.toNat]? = some j0) (h1 : l.joints[z1.toNat]? = some j1) (h2 : l.joints[z2.toNat]? = some j2) (p0 : PinP l a j0 i) (p1 : PinP l a j1 k) (t1 : j2.a = i \/ j2.b = i) (t2 : j2.a = k \/ j2.b = k) :
  Con prog 58 [.ptr 1000 0] [(1000,some (svB l ⟨1,[i,k],[z0,z1,z2],0⟩ a))] (.tup [hdA (adg l j0 i) (ab8 l a j0 i) (adg l j2 i),hdA (adg l j1 k) (ab8 l a j1 k) (adg l j2 k)]) [(1000,some (svB l ⟨1,[i,k],[z0,z1,z2],0⟩ a))] := by
 refine gF func58 (fun k z h => abz h) ?_
 refine gi (rfl) ?_
 refine gi (rfl) ?_
 refine gD ?_
 refine gt (aad (aoa hl hli _ hg al hc (k := 0) rfl h0 p0) (.cons (.tmp rfl) (.cons (.const _) (.cons (.tmp rfl) .nil))) (by first | exact hH0 | exact hH1 rfl | exact hH2 rfl rfl) rfl rfl) ?_
 refine gt (aad (aoa hl hli _ hg al hc (k := 1) rfl h1 p1) (.cons (.tmp rfl) (.cons (.const _) (.cons (.tmp rfl) .nil))) (by first | exact hH0 | exact hH1 rfl | exact hH2 rfl rfl) rfl rfl) ?_
 refine gt (aad (azz hl hli _ hg a rfl h2 t1) (.cons (.tmp rfl) (.cons (.tmp rfl) .nil)) (by first | exact hH0 | exact hH1 rfl | exact hH2 rfl rfl) rfl rfl) ?_
 refine gt (aad (azz hl hli _ hg a rfl h2 t2) (.cons (.tmp rfl) (.cons (.tmp rfl) .nil)) (by first | exact hH0 | exact hH1 rfl | exact hH2 rfl rfl) rfl rfl) ?_
 refine gD ?_
 refine gR ?_
 exact Fin.keep (ade rfl)
theorem a4i {l : Li} (hl : l.ok) (hli : liE l = 0) {a : As} (al : AL a) (hc : aey a.rs = 0) {i z0 z1 : Int} {j0 j1 : Jt} (hg : GrOk l ⟨2, [i], [z0, z1], 0⟩)
  (h0 : l.joints[z0.toNat]? = some j0) (h1 : l.joints[z1.toNat]? = some j1) (p0 : PinP l a j0 i) (ha : j1.a = i) (hk : j1.kind ≠ 0) (hb : Pd a j1.b) :
  Con prog 62 [.ptr 1000 0] [(1000,some (svB l ⟨2,[i],[z0,z1],0⟩ a))] (.tup [hdA (adg l j0 i) (ab8 l a j0 i) (mkQ l i j1.point),ptA (sX (plE l a j1.b j1.on).1) (sX (plE l a j1.b j1.on).2),ptA (sX (plE l a j1.b j1.to).1) (sX (plE l a j1.b j1.to).2)]) [(1000,some (svB l ⟨2,[i],[z0,z1],0⟩ a))] := by
 obtain ⟨i1,i2,i3,i4,i5⟩ := aem hli h1
 rw [ha] at i1 i3
 refine gF func62 (fun k z h => abz h) ?_
 refine gi (rfl) ?_
 refine gt (abq (aml hl _ hg a rfl h1) (.cons (.tmp rfl) .nil) rfl rfl rfl) ?_
 refine gD ?_
 refine gt (aad (aoa hl hli _ hg al hc (k := 0) rfl h0 p0) (.cons (.tmp rfl) (.cons (.const _) (.cons (.tmp rfl) .nil))) (by first | exact hH0 | exact hH1 rfl | exact hH2 rfl rfl) rfl rfl) ?_
 refine gt (aad (afo hl hli _ a i1 i3) (.cons (.tmp rfl) (.cons (.tmp rfl) (.cons (.tmp rfl) .nil))) (by first | exact hH0 | exact hH1 rfl | exact hH2 rfl rfl) rfl rfl) ?_
 refine gt (aad (ae4 hl hli _ al hc i2 i4 hb) (.cons (.tmp rfl) (.cons (.tmp rfl) (.cons (.tmp rfl) .nil))) (by first | exact hH0 | exact hH1 rfl | exact hH2 rfl rfl) rfl rfl) ?_
 refine gt (aad (ae4 hl hli _ al hc i2 (i5 hk) hb) (.cons (.tmp rfl) (.cons (.tmp rfl) (.cons (.tmp rfl) .nil))) (by first | exact hH0 | exact hH1 rfl | exact hH2 rfl rfl) rfl rfl) ?_
 refine gD ?_
 refine gR ?_
 exact Fin.keep (ade rfl)
end Go.Lw
namespace Go.Lw
open Go.Proofs
abbrev mdB (rs : List (List Rt)) : Blk := .box [.lst 1 (rs.map nR),.v .nilIface]
theorem aeu (rs : List (List Rt)) (a : List Rat) : Con prog 59 [.ptr 1000 0, nA a, .v .nilIface] [(1000, some (mdB rs))] (nA a) [(1000, some (mdB rs))] := by
 refine gF func59 (fun k z h => abz h) ?_
 refine gC (fun ht11 => ?_) (fun ht11 => ?_) (st2 := (77777,0))
 ·refine gR ?_
  exact Fin.keep (ade rfl)
 ·cases ht11
theorem adh (rs : List (List Rt)) (a b : List Rat) : Con prog 63 [.ptr 1000 0, ptA a b, .v .nilIface] [(1000, some (mdB rs))] (ptA a b) [(1000, some (mdB rs))] := by
 refine gF func63 (fun k z h => abz h) ?_
 refine gC (fun ht11 => ?_) (fun ht11 => ?_) (st2 := (77777,0))
 ·refine gR ?_
  exact Fin.keep (ade rfl)
 ·cases ht11
section
variable {rs : List (List Rt)} {r u k : Nat} {a b : List Rat} {x y : Et (llq rs)} {w v w' v' : Nat}
theorem aof (h : TR rs r) (hc : aey rs = 0) [c0 : Ct (llq rs) u k] [ha : Zl (llq rs) u k a x w v] [hb : Zl (llq rs) u k b y w' v'] (hs : w + v + (w' + v') <= 10000 := by decide) :
  Con prog 67 [.ptr 1000 0,nA a,nA b] [(1000,some (mdB rs))] (nA (sX (x * y))) [(1000,some (mdB rs))] := by
 have hx := bkg (ha := ha) (hb := hb) hs
 rw [ai2 h hc] at hx
 refine gF func67 (fun k z h => abz h) ?_
 refine gc hx ?_
 refine gt (aad (aeu _ _) (.cons (.tmp rfl) (.cons (.tmp rfl) (.cons (.tmp rfl) .nil))) (by first | exact hH0 | exact hH1 rfl | exact hH2 rfl rfl) rfl rfl) ?_
 refine gR ?_
 exact Fin.keep (ade rfl)
theorem azy (h : TR rs r) (hc : aey rs = 0) [c0 : Ct (llq rs) u k] [ha : Zl (llq rs) u k a x w v] [hb : Zl (llq rs) u k b y w' v'] (hs : w + v + (w' + v') <= 10000 := by decide) :
  Con prog 66 [.ptr 1000 0,nA a,nA b] [(1000,some (mdB rs))] (nA (sX (x - y))) [(1000,some (mdB rs))] := by
 have hx := bks (ha := ha) (hb := hb) hs
 rw [ai2 h hc] at hx
 refine gF func66 (fun k z h => abz h) ?_
 refine gc hx ?_
 refine gt (aad (aeu _ _) (.cons (.tmp rfl) (.cons (.tmp rfl) (.cons (.tmp rfl) .nil))) (by first | exact hH0 | exact hH1 rfl | exact hH2 rfl rfl) rfl rfl) ?_
 refine gR ?_
 exact Fin.keep (ade rfl)
end
structure DyR (l : Li) (a : As) : Prop where
  hl : l.ok
  li : liE l = 0
  al : AL a
  hc : aey a.rs = 0
abbrev rpC (l : Li) (a : As) (i : Int) (j0 j : Jt) : List AV :=
  qC (adg l j0 i) ++ ([nA (sX (ab8 l a j0 i).1),nA (sX (ab8 l a j0 i).2)] ++ (qC (rpV l i j) ++ [nA (sh 0 (rpH l i j0 j : Rat)),nA (sh 0 (rpN l i j : Rat)),nA (sX (rpD l a i j0 j)),nA (sX (rpW l a i j0 j).1),nA (sX (rpW l a i j0 j).2)]))
theorem a9i {l : Li} {a : As} (D : DyR l a) {n : Nat} {i : Int} {j0 j : Jt} (h0 : l.joints[n]? = some j0) (p0 : PinP l a j0 i) {m : Nat} (h1 : l.joints[m]? = some j) (hb : Pd a j.a) :
  Zu 4000 300000 (rpW l a i j0 j).1 80 81 /\ Zu 4000 300000 (rpW l a i j0 j).2 80 81 := by
 obtain ⟨i1,i2,i3,i4,_⟩ := aem D.li h1
 obtain ⟨z1,z2⟩ := acv D.hl D.li D.al D.hc h0 p0
 obtain ⟨y1,y2⟩ := adb D.hl D.li D.al D.hc i1 i3 hb
 haveI c := D.al.ct D.hc
 haveI := z1; haveI := z2; haveI := y1; haveI := y2
 exact ⟨(inferInstance : Zu 4000 300000 ((plE l a j.a j.point).1 - (ab8 l a j0 i).1) _ _),(inferInstance : Zu 4000 300000 ((plE l a j.a j.point).2 - (ab8 l a j0 i).2) _ _)⟩
theorem a7v {l : Li} {a : As} (D : DyR l a) {i z0 z1 : Int} {j0 j : Jt} (hg : GrOk l ⟨3, [i], [z0, z1], 0⟩)
  (h0 : l.joints[z0.toNat]? = some j0) (h1 : l.joints[z1.toNat]? = some j) (p0 : PinP l a j0 i) (hi : j.b = i) (hk : j.kind ≠ 0) (hb : Pd a j.a) :
  Con prog 69 [.ptr 1000 0,.ptr 1001 0] [(1000,some (svB l ⟨3,[i],[z0,z1],0⟩ a)),(1001,some (mdB a.rs))] (.agg (rpC l a i j0 j)) [(1000,some (svB l ⟨3,[i],[z0,z1],0⟩ a)),(1001,some (mdB a.rs))] := by
 obtain ⟨i1,i2,i3,i4,i5⟩ := aem D.li h1
 have hs0 : Sm 1000 (adg l j0 i) := acs D.hl D.li h0 (by rcases p0.tie with h9 | h9; exact .inl h9.1; exact .inr h9.2.1)
 subst hi
 have hs1 := agi D.hl D.li i2 i4
 have hs2 := agi D.hl D.li i2 (i5 hk)
 have hv := hs2.sub hs1
 obtain ⟨z1',z2'⟩ := acv D.hl D.li D.al D.hc h0 p0
 obtain ⟨y1,y2⟩ := adb D.hl D.li D.al D.hc i1 i3 hb
 obtain ⟨w1,w2⟩ := a9i D h0 p0 h1 hb
 haveI c := D.al.ct D.hc
 haveI := z1'; haveI := z2'; haveI := y1; haveI := y2; haveI := w1; haveI := w2
 have hsub := anh (ts := llq a.rs) (u := 4000) (k := 300000) (a := sX (plE l a j.a j.point).1) (b := sX (plE l a j.a j.point).2) (a2 := sX (ab8 l a j0 j.b).1) (b2 := sX (ab8 l a j0 j.b).2)
 have hdot := a1a (ts := llq a.rs) (u := 4000) (k := 300000) (a := sX (rpW l a j.b j0 j).1) (b := sX (rpW l a j.b j0 j).2) (a2 := sX (rpW l a j.b j0 j).1) (b2 := sX (rpW l a j.b j0 j).2)
 rw [ai2 D.al.tr D.hc] at hsub hdot
 refine gF func69 (fun k z h => bij h) ?_
 refine gi (rfl) ?_
 refine gt (abq (aml D.hl _ hg a rfl h1) (.cons (.tmp rfl) .nil) rfl rfl rfl) ?_
 refine gD ?_
 refine gt (aad (aoa D.hl D.li _ hg D.al D.hc (k := 0) rfl h0 p0) (.cons (.tmp rfl) (.cons (.const _) (.cons (.tmp rfl) .nil))) (by first | exact hH0 | exact hH1 rfl | exact hH2 rfl rfl) rfl rfl) ?_
 refine gt (abq (afo D.hl D.li _ a i2 i4) (.cons (.tmp rfl) (.cons (.tmp rfl) (.cons (.tmp rfl) .nil))) rfl rfl rfl) ?_
 refine gt (abq (afo D.hl D.li _ a i2 (i5 hk)) (.cons (.tmp rfl) (.cons (.tmp rfl) (.cons (.tmp rfl) .nil))) rfl rfl rfl) ?_
 refine gc (aqn hs2 hs1 (by omega) (by omega)) ?_
 refine gD ?_
 refine gc (aqn hs1 hs0 (by omega) (by omega)) ?_
 refine gc (a27 hv (hs1.sub hs0) (by omega) (by omega)) ?_
 refine gc (ayk ((hv.cross (hs1.sub hs0)).qs (by omega))) ?_
 refine gc (aqc hv (by omega)) ?_
 refine gD ?_
 refine gt (aad (ae4 D.hl D.li _ D.al D.hc i1 i3 hb) (.cons (.tmp rfl) (.cons (.tmp rfl) (.cons (.tmp rfl) .nil))) (by first | exact hH0 | exact hH1 rfl | exact hH2 rfl rfl) rfl rfl) ?_
 refine gC (fun ht63 => ?_) (fun ht63 => ?_) (st2 := (77777,0))
 ·refine gc hsub ?_
  refine gt (aad (Con.rekeyB 1001 rfl rfl rfl rfl (adh _ _ _)) (.cons (.tmp rfl) (.cons (.tmp rfl) (.cons (.tmp rfl) .nil))) (by first | exact hH0 | exact hH1 rfl | exact hH2 rfl rfl) rfl rfl) ?_
  refine gD ?_
  refine gc hdot ?_
  refine gt (aad (Con.rekeyB 1001 rfl rfl rfl rfl (aeu _ _)) (.cons (.tmp rfl) (.cons (.tmp rfl) (.cons (.tmp rfl) .nil))) (by first | exact hH0 | exact hH1 rfl | exact hH2 rfl rfl) rfl rfl) ?_
  refine gD ?_
  refine gR ?_
  exact Fin.keep (bmm rfl rfl)
 ·cases ht63
theorem asl {l : Li} {a : As} (D : DyR l a) {i : Int} {j0 j : Jt} {w v : Nat} [z1 : Zl (llq a.rs) 4000 300000 (sh 0 (rpH l i j0 j : Rat)) (qE (rpH l i j0 j)) 3 0] [z2 : Zl (llq a.rs) 4000 300000 (sh 0 (rpN l i j : Rat)) (qE (rpN l i j)) 3 0] [z3 : Zu 4000 300000 (rpD l a i j0 j) w v] (hw : w + v <= 2000) :
  Con prog 70 [.agg (rpC l a i j0 j),.ptr 1001 0] [(1001,some (mdB a.rs))] (nA (sX (qE (rpN l i j) * rpD l a i j0 j - qE (rpH l i j0 j) * qE (rpH l i j0 j)))) [(1001,some (mdB a.rs))] := by
 haveI c := D.al.ct D.hc
 haveI := z1.zu; haveI := z2.zu
 have m1 := aof (a := sh 0 (rpN l i j : Rat)) (b := sX (rpD l a i j0 j)) D.al.tr D.hc (by omega)
 have m2 := aof (a := sh 0 (rpH l i j0 j : Rat)) (b := sh 0 (rpH l i j0 j : Rat)) D.al.tr D.hc (by omega)
 have m3 := azy (a := sX (qE (rpN l i j) * rpD l a i j0 j)) (b := sX (qE (rpH l i j0 j) * qE (rpH l i j0 j) : Et (llq a.rs))) D.al.tr D.hc (by omega)
 refine gF func70 (fun k z h => by have := (aeh h).1; omega) ?_
 refine gt (aad (Con.rekeyB 1001 rfl rfl rfl rfl m1) (.cons (.tmp rfl) (.cons (.tmp rfl) (.cons (.tmp rfl) .nil))) (by first | exact hH0 | exact hH1 rfl | exact hH2 rfl rfl) rfl rfl) ?_
 refine gt (aad (Con.rekeyB 1001 rfl rfl rfl rfl m2) (.cons (.tmp rfl) (.cons (.tmp rfl) (.cons (.tmp rfl) .nil))) (by first | exact hH0 | exact hH1 rfl | exact hH2 rfl rfl) rfl rfl) ?_
 refine gt (aad (Con.rekeyB 1001 rfl rfl rfl rfl m3) (.cons (.tmp rfl) (.cons (.tmp rfl) (.cons (.tmp rfl) .nil))) (by first | exact hH0 | exact hH1 rfl | exact hH2 rfl rfl) rfl rfl) ?_
 refine gD ?_
 refine gR ?_
 exact Fin.keep (ade rfl)
end Go.Lw
namespace Go.Lw
open Go.Proofs
def aw9 (l : Li) (a : As) (g : Gr) : List Rat := if g.kind = 0 then sh 0 ((1 : Int) : Rat) else sX (ar5 l a g)
theorem bi1 {l : Li} {a : As} (D : DyR l a) {b : Int} {p : Pl} (hp : a.bs[b.toNat]? = some p) (hn : abf a.rs p.l = 0) {q : Rat × Rat} (hq : Sm 1000 q) :
  FnC prog 71 [.agg [.lst 1 (a.rs.map nR)],p.av,qA q.1,qA q.2] (.tup [ptA (sX (aoE a b q).1) (sX (aoE a b q).2),.v .nilIface]) := by
 obtain ⟨tw,hta⟩ := ab0 D.al.tr D.hc
 have h5 : a.rs.length <= 5:=by have := tw.five; rwa [ai4] at this
 have h9 := aoe hn (D.al.nr p (mem_of_getElem? hp)) h5
 have kb := kb4 tw.three
 have hlm := an3 (llq a.rs).length
 obtain ⟨e1,ok⟩ := h9
 rw [<- ai4 a.rs] at ok
 have h := arw tw ok.c ok.s ok.x ok.y (hq.x.mono (f := 4000) (by omega)) (hq.y.mono (f := 4000) (by omega)) (by omega)
 rw [e1,<- ai2 D.al.tr D.hc]
 unfold aoE
 rw [aag hp]
 exact h
theorem a1x {l : Li} {k : Int} {a : As} {E : Nat} (hop : FnC prog 56 [l.av, i64 k, a.av, bl true] (.tup [.v (.pointer none), ajw E])) (h0 : E ≠ 0) (L : List Rat) :
  FnC prog 13 [l.av,i64 k,a.av] (.tup [nA (if E = 0 then L else []),ajw E]) := by
 refine gF0 func13 ?_
 refine gc (hop) ?_
 refine gC (fun ht30 => ?_) (fun ht30 => ?_) (st2 := (77777,0))
 ·refine gR ?_
  exact ad7 (by rw [if_neg h0]; exact Sub.tup (.cons (.nil _ _ _) (.cons (.refl _) .nil)))
 ·exact absurd (ae0 ht30) h0
theorem a6l {l : Li} {k : Int} {a : As} {n : Nat} {g : Gr} (hop : Con prog 56 [l.av, i64 k, a.av, bl true] [] (.tup [.ptr 900 0, .v .nilIface]) [(900, some (svB l g a))]) (D : DyR l a) (ok : DyOk l k a true n g) :
  FnC prog 13 [l.av,i64 k,a.av] (.tup [nA (aw9 l a g),.v .nilIface]) := by
 haveI c := D.al.ct D.hc
 have hgo := ok.ok
 have hbl := D.al.bl
 refine gF0 func13 ?_
 refine gt (aad hop (.cons (.tmp rfl) (.cons (.tmp rfl) (.cons (.tmp rfl) (.cons (.const _) .nil)))) (by first | exact hH0 | exact hH1 rfl | exact hH2 rfl rfl) rfl rfl) ?_ (2,0)
 refine gW (Wk.o (sl := [(5,some (.ptr 5 0)),(8,some (.ptr 900 0)),(9,some (.v .nilIface))]) (hp := [(5,some (.box a.av.cells)),(900,some (svB l g a))])) ?_
 refine gC (fun ht30 => ?_) (fun ht30 => ?_) (st1 := (3,0)) (st2 := (5,0))
 ·cases ht30
 ·refine gW (Wk.o (sl := [(5, some (.ptr 5 0)), (8, some (.ptr 900 0)), (10, some (.ptr 35 0))]) (hp := [(5, some (.box a.av.cells)), (900, some (svB l g a)), (35, some (mdB a.rs))])) ?_ (10, 0)
  refine gJ0 [8,10] [900,35] [(11,some (nA (sX (ar5 l a g))))] [] (g.kind ≠ 0) ?_ ?_ 2
  ·intro K1 hK1
   refine gC (fun ht79 => ?_) (fun ht79 => ?_)
   ·have hk : g.kind = 0 := ae9 ht79
    have hd : aw9 l a g = sh 0 ((1 : Int) : Rat) := if_pos hk
    rw [hd]
    refine gc (a0j) ?_
    refine gR ?_
    exact agn rfl
   ·have hk0 : g.kind ≠ 0 := afy ht79
    refine gC (fun ht82 => ?_) (fun ht82 => ?_)
    ·have hk : g.kind = 1 := ae9 ht82
     obtain ⟨i,k2,z0,z1,z2,j0,j1,j2,P⟩ := ok.rrr hk
     obtain ⟨e0,e1,e2,b0,b1,_⟩ := P.at
     have hE : ar5 l a g = ang (sbE (ab8 l a j1 k2) (ab8 l a j0 i)) (sbE (aoE a i (adg l j2 i)) (ab8 l a j0 i)):=by unfold ar5; rw [if_neg hk0,if_pos hk,e0,e1,e2,b0,b1]
     obtain rfl := P.eq
     have hi0 := (hgo.b i (by simp)).1
     obtain ⟨p,hp,hn⟩ := ok.own (b := i) (by simp)
     have hil := (List.getElem?_eq_some_iff.1 hp).1
     have hq := acs D.hl D.li P.h2 P.t1
     obtain ⟨y1,y2⟩ := acv D.hl D.li D.al D.hc P.h0 P.p0
     obtain ⟨y3,y4⟩ := acv D.hl D.li D.al D.hc P.h1 P.p1
     obtain ⟨y5,y6⟩ := aq4 D.al D.hc (ok.own (b := i) (by simp)) hq
     haveI := y1; haveI := y2; haveI := y3; haveI := y4; haveI := y5; haveI := y6
     have s1 := anh (ts := llq a.rs) (u := 4000) (k := 300000) (a := sX (ab8 l a j1 k2).1) (b := sX (ab8 l a j1 k2).2) (a2 := sX (ab8 l a j0 i).1) (b2 := sX (ab8 l a j0 i).2)
     have s2 := anh (ts := llq a.rs) (u := 4000) (k := 300000) (a := sX (aoE a i (adg l j2 i)).1) (b := sX (aoE a i (adg l j2 i)).2) (a2 := sX (ab8 l a j0 i).1) (b2 := sX (ab8 l a j0 i).2)
     have s3 := a0m (ts := llq a.rs) (u := 4000) (k := 300000) (a := sX ((ab8 l a j1 k2).1 - (ab8 l a j0 i).1)) (b := sX ((ab8 l a j1 k2).2 - (ab8 l a j0 i).2)) (a2 := sX ((aoE a i (adg l j2 i)).1 - (ab8 l a j0 i).1)) (b2 := sX ((aoE a i (adg l j2 i)).2 - (ab8 l a j0 i).2))
     rw [ai2 D.al.tr D.hc] at s1 s2 s3
     refine gt (aad (Con.rekeyB 900 rfl rfl rfl rfl (a0n D.hl D.li D.al D.hc hgo P.h0 P.h1 P.h2 P.p0 P.p1 P.t1 P.t2)) (.cons (.tmp rfl) .nil) (by first | exact hH0 | exact hH1 rfl | exact hH2 rfl rfl) rfl rfl) ?_
     refine gi (rfl) ?_
     refine gi (adt (n := i.toNat) (by omega) hp) ?_
     refine gc (bi1 D (b := i) hp hn hq) ?_
     refine gt (abq (Con.rekeyB 35 rfl rfl rfl rfl (adh _ _ _)) (.cons (.tmp rfl) (.cons (.tmp rfl) (.cons (.tmp rfl) .nil))) rfl rfl rfl) ?_
     refine gD ?_
     refine gc s1 ?_
     refine gt (abq (Con.rekeyB 35 rfl rfl rfl rfl (adh _ _ _)) (.cons (.tmp rfl) (.cons (.tmp rfl) (.cons (.tmp rfl) .nil))) rfl rfl rfl) ?_
     refine gc s2 ?_
     refine gt (abq (Con.rekeyB 35 rfl rfl rfl rfl (adh _ _ _)) (.cons (.tmp rfl) (.cons (.tmp rfl) (.cons (.tmp rfl) .nil))) rfl rfl rfl) ?_
     refine gc s3 ?_
     refine gt (abq (Con.rekeyB 35 rfl rfl rfl rfl (aeu _ _)) (.cons (.tmp rfl) (.cons (.tmp rfl) (.cons (.tmp rfl) .nil))) rfl rfl rfl) ?_
     refine gD ?_
     exact jK0 hK1 hk0 (hw := Wk.of (.cons rfl (Sub.of (congrArg (fun z => nA (sX z)) hE.symm)) (.k (.k .nil))) (.cons rfl (.refl _) (.cons rfl (.refl _) .nil)))
    ·have hk1 : g.kind ≠ 1 := afy ht82
     refine gC (fun ht149 => ?_) (fun ht149 => ?_)
     ·have hk : g.kind = 2 := ae9 ht149
      obtain ⟨i,z0,z1,j0,j,P,ha,hb⟩ := ok.pr hk
      obtain ⟨e0,e1,b0,_⟩ := P.at
      have hE : ar5 l a g = am3 (sbE (plE l a j.b j.to) (plE l a j.b j.on)) (sbE (aoE a i (mkQ l i j.point)) (ab8 l a j0 i)):=by unfold ar5; rw [if_neg hk0,if_neg hk1,if_pos hk,e0,e1,b0]
      obtain rfl := P.eq
      obtain ⟨i1,i2,i3,i4,i5⟩ := aem D.li P.h1
      have hi0 := (hgo.b i (by simp)).1
      obtain ⟨p,hp,hn⟩ := ok.own (b := i) (by simp)
      have hil := (List.getElem?_eq_some_iff.1 hp).1
      have hq : Sm 1000 (mkQ l i j.point):=by rw [<- ha]; exact agi D.hl D.li i1 i3
      obtain ⟨y1,y2⟩ := acv D.hl D.li D.al D.hc P.h0 P.p0
      obtain ⟨y3,y4⟩ := adb D.hl D.li D.al D.hc i2 (i5 P.hk) hb
      obtain ⟨y7,y8⟩ := adb D.hl D.li D.al D.hc i2 i4 hb
      obtain ⟨y5,y6⟩ := aq4 D.al D.hc (ok.own (b := i) (by simp)) hq
      haveI := y1; haveI := y2; haveI := y3; haveI := y4; haveI := y5; haveI := y6; haveI := y7; haveI := y8
      have s1 := anh (ts := llq a.rs) (u := 4000) (k := 300000) (a := sX (plE l a j.b j.to).1) (b := sX (plE l a j.b j.to).2) (a2 := sX (plE l a j.b j.on).1) (b2 := sX (plE l a j.b j.on).2)
      have s2 := anh (ts := llq a.rs) (u := 4000) (k := 300000) (a := sX (aoE a i (mkQ l i j.point)).1) (b := sX (aoE a i (mkQ l i j.point)).2) (a2 := sX (ab8 l a j0 i).1) (b2 := sX (ab8 l a j0 i).2)
      have s3 := a1a (ts := llq a.rs) (u := 4000) (k := 300000) (a := sX ((plE l a j.b j.to).1 - (plE l a j.b j.on).1)) (b := sX ((plE l a j.b j.to).2 - (plE l a j.b j.on).2)) (a2 := sX ((aoE a i (mkQ l i j.point)).1 - (ab8 l a j0 i).1)) (b2 := sX ((aoE a i (mkQ l i j.point)).2 - (ab8 l a j0 i).2))
      rw [ai2 D.al.tr D.hc] at s1 s2 s3
      refine gt (aad (Con.rekeyB 900 rfl rfl rfl rfl (a4i D.hl D.li D.al D.hc hgo P.h0 P.h1 P.p0 ha P.hk hb)) (.cons (.tmp rfl) .nil) (by first | exact hH0 | exact hH1 rfl | exact hH2 rfl rfl) rfl rfl) ?_
      refine gi (rfl) ?_
      refine gi (adt (n := i.toNat) (by omega) hp) ?_
      refine gc (bi1 D (b := i) hp hn hq) ?_
      refine gt (abq (Con.rekeyB 35 rfl rfl rfl rfl (adh _ _ _)) (.cons (.tmp rfl) (.cons (.tmp rfl) (.cons (.tmp rfl) .nil))) rfl rfl rfl) ?_
      refine gD ?_
      refine gc s1 ?_
      refine gt (abq (Con.rekeyB 35 rfl rfl rfl rfl (adh _ _ _)) (.cons (.tmp rfl) (.cons (.tmp rfl) (.cons (.tmp rfl) .nil))) rfl rfl rfl) ?_
      refine gc s2 ?_
      refine gt (abq (Con.rekeyB 35 rfl rfl rfl rfl (adh _ _ _)) (.cons (.tmp rfl) (.cons (.tmp rfl) (.cons (.tmp rfl) .nil))) rfl rfl rfl) ?_
      refine gc s3 ?_
      refine gt (abq (Con.rekeyB 35 rfl rfl rfl rfl (aeu _ _)) (.cons (.tmp rfl) (.cons (.tmp rfl) (.cons (.tmp rfl) .nil))) rfl rfl rfl) ?_
      refine gD ?_
      exact jK0 hK1 hk0 (hw := Wk.of (.cons rfl (Sub.of (congrArg (fun z => nA (sX z)) hE.symm)) (.k (.k .nil))) (.cons rfl (.refl _) (.cons rfl (.refl _) .nil)))
     ·have hk2 : g.kind ≠ 2 := afy ht149
      obtain ⟨i,z0,z1,j0,j,P,ha,hj,hb⟩ := ok.rp hk0 hk1 hk2
      obtain ⟨e0,e1,b0,_⟩ := P.at
      have hE : ar5 l a g = am3 (sbE (plE l a j.b j.to) (plE l a j.b j.on)) (rpW l a i j0 j):=by unfold ar5; rw [if_neg hk0,if_neg hk1,if_neg hk2,e0,e1,b0]
      obtain rfl := P.eq
      obtain ⟨i1,i2,i3,i4,i5⟩ := aem D.li P.h1
      have hpi : Pd a j.b:=by rw [hj]; exact ok.own (b := i) (by simp)
      obtain ⟨w1,w2⟩ := a9i D P.h0 P.p0 P.h1 hb
      obtain ⟨y3,y4⟩ := adb D.hl D.li D.al D.hc i2 (i5 P.hk) hpi
      obtain ⟨y7,y8⟩ := adb D.hl D.li D.al D.hc i2 i4 hpi
      haveI := y3; haveI := y4; haveI := y7; haveI := y8; haveI := w1; haveI := w2
      have s1 := anh (ts := llq a.rs) (u := 4000) (k := 300000) (a := sX (plE l a j.b j.to).1) (b := sX (plE l a j.b j.to).2) (a2 := sX (plE l a j.b j.on).1) (b2 := sX (plE l a j.b j.on).2)
      have s3 := a1a (ts := llq a.rs) (u := 4000) (k := 300000) (a := sX ((plE l a j.b j.to).1 - (plE l a j.b j.on).1)) (b := sX ((plE l a j.b j.to).2 - (plE l a j.b j.on).2)) (a2 := sX (rpW l a i j0 j).1) (b2 := sX (rpW l a i j0 j).2)
      rw [ai2 D.al.tr D.hc] at s1 s3
      refine gt (abq (Con.rekeyB 900 rfl rfl rfl rfl (aml D.hl _ hgo a rfl P.h1)) (.cons (.tmp rfl) .nil) rfl rfl rfl) ?_
      refine gt (aad (Con.rekeyBB 900 35 (by decide) (by decide) rfl rfl rfl rfl rfl rfl (a7v D hgo P.h0 P.h1 P.p0 hj P.hk hb)) (.cons (.tmp rfl) (.cons (.tmp rfl) .nil)) (by first | exact hH0 | exact hH1 rfl | exact hH2 rfl rfl) rfl rfl) ?_
      refine gt (aad (Con.rekeyB 900 rfl rfl rfl rfl (ae4 D.hl D.li _ D.al D.hc i2 (i5 P.hk) hpi)) (.cons (.tmp rfl) (.cons (.tmp rfl) (.cons (.tmp rfl) .nil))) (by first | exact hH0 | exact hH1 rfl | exact hH2 rfl rfl) rfl rfl) ?_
      refine gt (aad (Con.rekeyB 900 rfl rfl rfl rfl (ae4 D.hl D.li _ D.al D.hc i2 i4 hpi)) (.cons (.tmp rfl) (.cons (.tmp rfl) (.cons (.tmp rfl) .nil))) (by first | exact hH0 | exact hH1 rfl | exact hH2 rfl rfl) rfl rfl) ?_
      refine gc s1 ?_
      refine gt (abq (Con.rekeyB 35 rfl rfl rfl rfl (adh _ _ _)) (.cons (.tmp rfl) (.cons (.tmp rfl) (.cons (.tmp rfl) .nil))) rfl rfl rfl) ?_
      refine gD ?_
      refine gc s3 ?_
      refine gt (abq (Con.rekeyB 35 rfl rfl rfl rfl (aeu _ _)) (.cons (.tmp rfl) (.cons (.tmp rfl) (.cons (.tmp rfl) .nil))) rfl rfl rfl) ?_
      refine gD ?_
      exact jK0 hK1 hk0 (hw := Wk.of (.cons rfl (Sub.of (congrArg (fun z => nA (sX z)) hE.symm)) (.k (.k .nil))) (.cons rfl (.refl _) (.cons rfl (.refl _) .nil)))
  ·rintro hk9
   rw [show aw9 l a g = sX (ar5 l a g) from if_neg hk9]
   refine gC (fun ht219 => ?_) (fun ht219 => ?_) (st2 := (77777,0))
   ·refine gC (fun ht231 => ?_) (fun ht231 => ?_) (st1 := (23, 0))
    ·cases ht231
    ·refine gR ?_
     exact agn rfl
   ·cases ht219
theorem bak (l : Li) (hl : l.ok) (k : Int) (a : As) (al : AL a) :
  FnC prog 13 [l.av,i64 k,a.av] (.tup [nA (if dyE l k a true = 0 then aw9 l a (gAt l k) else []),ajw (dyE l k a true)]) := by
 have hop := auf l hl k a al true
 by_cases h0 : dyE l k a true = 0
 ·obtain ⟨n, g, ok⟩ := bax h0
  have hgA : gAt l k = g:=by unfold gAt; rw [ok.hk,toNat_natCast]; exact aag ok.hg
  rw [h0,hgA] at hop ⊢
  exact a6l hop ⟨hl,ok.li,al,ok.chk⟩ ok
 ·rw [axf h0, azc h0] at hop
  exact a1x hop h0 _
end Go.Lw
namespace Go.Lw
open Go.Proofs
abbrev Ci : Type := List Rat × List Rat × List Rat
abbrev ciA (c : Ci) : AV := .agg [nA c.1,nA c.2.1,nA c.2.2]
structure CiZ (rs : List (List Rt)) (c : Ci) : Prop where
  x : Nm (llq rs).length 2500000000 c.1
  y : Nm (llq rs).length 2500000000 c.2.1
  r : Nm (llq rs).length 2500000000 c.2.2
  sg : 0 <= sgE (dE (llq rs) c.2.2)
theorem bnj {ts : List (List Rat)} (p q : Et ts × Et ts) : dotE (q.1 - p.1) (q.2 - p.2) (q.1 - p.1) (q.2 - p.2) = d2E p q := by
 unfold d2E am3 sbE dotE
 dsimp only
 grind
theorem a6d {ts : List (List Rat)} (c : Ct ts 4000 300000) {x y x2 y2 : Et ts} (h1 : Zu 4000 300000 x 40 40) (h2 : Zu 4000 300000 y 40 40) (h3 : Zu 4000 300000 x2 40 40) (h4 : Zu 4000 300000 y2 40 40) : Zu 4000 300000 (d2E (x, y) (x2, y2)) 320 327 := by
 haveI := c; haveI := h1; haveI := h2; haveI := h3; haveI := h4
 exact (inferInstance : Zu 4000 300000 (dotE (x - x2) (y - y2) (x - x2) (y - y2)) _ _)
section
variable {rs : List (List Rt)} {r : Nat} {a b c a2 b2 c2 : List Rat}
theorem aqy (h : TR rs r) (hc : aey rs = 0) {e : Nat} (ha : Nm (llq rs).length e a) (hb : Nm (llq rs).length e b) (he : e <= lm (llq rs).length) : FnC prog 225 [agh rs, ptA a b] (.v .nilIface) := by
 obtain ⟨tw,etw⟩ := ab0 h hc
 have hca := ac9 tw [(a,b)] (fun p hp => by rw [List.mem_singleton.1 hp]; exact ⟨ha,hb⟩) he (by show 1 <= 500; omega)
 rw [<- etw] at hca
 refine gF0 func225 ?_
 refine gc hca ?_
 refine gE1 ?_
 rfl
theorem ayv (h : TR rs r) (hc : aey rs = 0) {e : Nat} (ha : Nm (llq rs).length e a) (hb : Nm (llq rs).length e b) (hn : Nm (llq rs).length e c) (he : e + 1 <= lm (llq rs).length) : FnC prog 272 [agh rs, .agg [nA a, nA b, nA c]] (.v .nilIface) := by
 obtain ⟨tw,etw⟩ := ab0 h hc
 have hneg := a5e tw hn (by omega)
 rw [<- etw] at hneg
 refine gF0 func272 ?_
 refine gc (aqy h hc ha hb (by omega)) ?_
 refine gC (fun ht13 => ?_) (fun ht13 => ?_) (st1 := (3,0))
 ·cases ht13
 ·refine gc hneg ?_
  refine gE1 ?_
  rfl
theorem ayz (h : TR rs r) (hc : aey rs = 0) (cs : List Ci) (hz : ∀ c ∈ cs, CiZ rs c) (hl : cs.length <= 100) : FnC prog 273 [agh rs, .lst 3 (cs.map ciA)] (.v .nilIface) := by
 obtain ⟨tw,etw⟩ := ab0 h hc
 have hlm := an3 (llq rs).length
 refine gF0 func273 ?_
 refine gl ?_
 refine gL1 [2,9,10] [2] (fun (i : Nat) => [(11,some (i64 i))]) (fun _ => []) (fun i => i <= cs.length) (fun i => cs.length - i) 0 (zero_le _) ?_
 rintro i hi K1 hK1
 refine gC (fun ht12 => ?_) (fun ht12 => ?_)
 ·have hin := abo ht12
  obtain ⟨z,hzi⟩ := ab9 hin
  have hz9 := hz z (mem_of_getElem? hzi)
  have hs := a72 tw hz9.r (by omega)
  rw [<- etw] at hs
  refine gi (aaf hzi) ?_
  refine gc hs ?_
  refine gC (fun ht23 => ?_) (fun ht23 => ?_) (st1 := (6,0))
  ·cases ht23
  ·refine gC (fun ht26 => ?_) (fun ht26 => ?_) (st1 := (8, 0))
   ·exact absurd ht26 (by have h9 := hz9.sg; unfold sgE dE at h9; simp only [aaa,decide_eq_true_eq]; omega)
   ·refine ga aau ?_
    exact gK1 hK1 (i + 1) hin
 ·refine gE1 ?_
  rfl
theorem a3c (h : TR rs r) (hc : aey rs = 0) (cs : List Ci) (hz : ∀ c ∈ cs, CiZ rs c) (hl : cs.length <= 100) : FnC prog 153 [agh rs, .lst 3 (cs.map ciA)] (.v .nilIface) := by
 have hlm := an3 (llq rs).length
 have hck := af7 rs r h
 rw [hc] at hck
 refine gF0 func153 ?_
 refine gc hck ?_
 refine gC (fun ht12 => ?_) (fun ht12 => ?_) (st1 := (3,0))
 ·cases ht12
 ·refine gl ?_
  refine gL1 [1,2,14,15] [2] (fun (i : Nat) => [(16,some (i64 i))]) (fun _ => []) (fun i => i <= cs.length) (fun i => cs.length - i) 0 (zero_le _) ?_
  rintro i hi K1 hK1
  refine gC (fun ht17 => ?_) (fun ht17 => ?_)
  ·have hin := abo ht17
   obtain ⟨z,hzi⟩ := ab9 hin
   have hz9 := hz z (mem_of_getElem? hzi)
   refine gi (aaf hzi) ?_
   refine gc (ayv h hc hz9.x hz9.y hz9.r (by omega)) ?_
   refine gC (fun ht24 => ?_) (fun ht24 => ?_) (st1 := (9,0))
   ·cases ht24
   ·refine ga aau ?_
    exact gK1 hK1 (i + 1) hin
  ·refine gc (ayz h hc cs hz hl) ?_
   refine gE1 ?_
   rfl
theorem ati (h : TR rs r) (hc : aey rs = 0) {x y x2 y2 : Et (llq rs)} [c0 : Ct (llq rs) 4000 300000] [i1 : Zl (llq rs) 4000 300000 a x 40 40] [i2 : Zl (llq rs) 4000 300000 b y 40 40] [i4 : Zl (llq rs) 4000 300000 a2 x2 40 40] [i5 : Zl (llq rs) 4000 300000 b2 y2 40 40] :
  FnC prog 275 [agh rs,ptA a b,ptA a2 b2] (.tup [nA (sX (d2E (x,y) (x2,y2))),.v .nilIface]) := by
 obtain ⟨_,etw⟩ := ab0 h hc
 obtain ⟨R,tw,hk⟩ := c0.ex
 have kk := c0.kk hk
 obtain ⟨K,hK⟩ : ∃ K,40 * 4000 + 40 * 300000 = K := ⟨_,rfl⟩
 have hlm := an3 (llq rs).length
 have n1 := i1.nm
 have n2 := i2.nm
 have n4 := i4.nm
 have n5 := i5.nm
 have hca := ac9 tw [(a, b), (a2, b2)] (e := 40 * 4000 + 40 * 300000) (fun p hp => by
  simp only [mem_cons,not_mem_nil,or_false] at hp
  rcases hp with rfl | rfl
  ·exact ⟨n1,n2⟩
  ·exact ⟨n4,n5⟩) (by omega) (by show 2 <= 500; omega)
 rw [<- etw] at hca
 have hle := arl tw n4 n5 n1 n2 (by omega)
 have m1 := n4.sub n1
 have m2 := n5.sub n2
 have hdo := avm tw m1 m2 m1 m2 (by omega)
 rw [i1.eq,i2.eq,i4.eq,i5.eq] at hle
 rw [i1.eq,i2.eq,i4.eq,i5.eq,aek,aek] at hdo
 have hd2 := bnj (x,y) (x2,y2)
 refine gF0 func275 ?_
 refine gc hca ?_
 refine gC (fun ht17 => ?_) (fun ht17 => ?_) (st1 := (3,0)) (st2 := (5,0))
 ·cases ht17
 ·refine gW (Wk.of (sl := [(4, some (.ptr 4 0)), (5, some (.ptr 5 0)), (9, some (.ptr 21 0))]) (hp := [(4, some (.box [nA a, nA b])), (5, some (.box [nA a2, nA b2])), (21, some (.box [.lst 1 ((llq rs).map nA), .v .nilIface]))]) abu (.cons rfl (.refl _) (.cons rfl (.refl _) (.cons rfl (BlkSub.boxL (.cons (.of (aqt etw)) (.cons (.refl _) .nil)) rfl) .nil)))) ?_
  refine gt (aad (Con.rekeyB 21 rfl rfl rfl rfl hle) (.cons (.tmp rfl) (.cons (.tmp rfl) (.cons (.tmp rfl) .nil))) (by first | exact hH0 | exact hH1 rfl | exact hH2 rfl rfl) rfl rfl) ?_
  refine gt (aad (Con.rekeyB 21 rfl rfl rfl rfl hdo) (.cons (.tmp rfl) (.cons (.tmp rfl) (.cons (.tmp rfl) .nil))) (by first | exact hH0 | exact hH1 rfl | exact hH2 rfl rfl) rfl rfl) ?_
  refine gt (aad (Con.rekeyB 21 rfl rfl rfl rfl (auj _ _)) (.cons (.tmp rfl) (.cons (.tmp rfl) .nil)) (by first | exact hH0 | exact hH1 rfl | exact hH2 rfl rfl) rfl rfl) ?_
  refine gE2 ?_
  rw [<- hd2]; rfl
theorem ali (rs : List (List Rt)) (a : List Rat) : Con prog 274 [.ptr 1000 0, nA a, .v .nilIface] [(1000, some (mdB rs))] (nA a) [(1000, some (mdB rs))] := by
 refine gF func274 (fun k z h => abz h) ?_
 refine gC (fun ht11 => ?_) (fun ht11 => ?_) (st2 := (77777,0))
 ·refine gR ?_
  exact Fin.keep (ade rfl)
 ·cases ht11
end
section
variable {rs : List (List Rt)} {r u k : Nat} {a b : List Rat} {x y : Et (llq rs)} {w v w' v' : Nat}
theorem bcd (h : TR rs r) (hc : aey rs = 0) [c0 : Ct (llq rs) u k] [ha : Zl (llq rs) u k a x w v] [hb : Zl (llq rs) u k b y w' v'] (hs : w + v + (w' + v') <= 10000 := by decide) :
  Con prog 277 [.ptr 1000 0,nA a,nA b] [(1000,some (mdB rs))] (nA (sX (x + y))) [(1000,some (mdB rs))] := by
 have hx := bn2 (ha := ha) (hb := hb) hs
 rw [ai2 h hc] at hx
 refine gF func277 (fun k z h => abz h) ?_
 refine gc hx ?_
 refine gt (aad (ali _ _) (.cons (.tmp rfl) (.cons (.tmp rfl) (.cons (.tmp rfl) .nil))) (by first | exact hH0 | exact hH1 rfl | exact hH2 rfl rfl) rfl rfl) ?_
 refine gR ?_
 exact Fin.keep (ade rfl)
theorem az2 (h : TR rs r) (hc : aey rs = 0) [c0 : Ct (llq rs) u k] [ha : Zl (llq rs) u k a x w v] [hb : Zl (llq rs) u k b y w' v'] (hs : w + v + (w' + v') <= 10000 := by decide) :
  Con prog 276 [.ptr 1000 0,nA a,nA b] [(1000,some (mdB rs))] (nA (sX (x - y))) [(1000,some (mdB rs))] := by
 have hx := bks (ha := ha) (hb := hb) hs
 rw [ai2 h hc] at hx
 refine gF func276 (fun k z h => abz h) ?_
 refine gc hx ?_
 refine gt (aad (ali _ _) (.cons (.tmp rfl) (.cons (.tmp rfl) (.cons (.tmp rfl) .nil))) (by first | exact hH0 | exact hH1 rfl | exact hH2 rfl rfl) rfl rfl) ?_
 refine gR ?_
 exact Fin.keep (ade rfl)
theorem ase (h : TR rs r) (hc : aey rs = 0) [c0 : Ct (llq rs) u k] [ha : Zl (llq rs) u k a x w v] [hb : Zl (llq rs) u k b y w' v'] (hs : w + v + (w' + v') <= 10000 := by decide) :
  Con prog 279 [.ptr 1000 0,nA a,nA b] [(1000,some (mdB rs))] (nA (sX (x * y))) [(1000,some (mdB rs))] := by
 have hx := bkg (ha := ha) (hb := hb) hs
 rw [ai2 h hc] at hx
 refine gF func279 (fun k z h => abz h) ?_
 refine gc hx ?_
 refine gt (aad (ali _ _) (.cons (.tmp rfl) (.cons (.tmp rfl) (.cons (.tmp rfl) .nil))) (by first | exact hH0 | exact hH1 rfl | exact hH2 rfl rfl) rfl rfl) ?_
 refine gR ?_
 exact Fin.keep (ade rfl)
theorem a2y (h : TR rs r) (hc : aey rs = 0) [c0 : Ct (llq rs) u k] (n : Int) (hn : -9223372036854775808 <= n /\ n <= 9223372036854775807) [hq : Qz u (n : Rat) w'] [ha : Zl (llq rs) u k a x w v] (hs : w' + 0 + (w + v) <= 10000 := by decide) :
  Con prog 278 [.ptr 1000 0,i64 n,nA a] [(1000,some (mdB rs))] (nA (sX (qE (n : Rat) * x))) [(1000,some (mdB rs))] := by
 have hm := ase (a := sh 0 ((n : Rat) : Rat)) (b := a) h hc hs
 refine gF func278 (fun k z h => abz h) ?_
 refine gc (aip n hn) ?_
 refine gc (ayk (av1 hn)) ?_
 refine gt (aad hm (.cons (.tmp rfl) (.cons (.tmp rfl) (.cons (.tmp rfl) .nil))) (by first | exact hH0 | exact hH1 rfl | exact hH2 rfl rfl) rfl rfl) ?_
 refine gR ?_
 exact Fin.keep (ade rfl)
end
section
variable {rs : List (List Rt)} {r : Nat} {a b c a2 b2 c2 : List Rat} {x y z x2 y2 z2 : Et (llq rs)}
theorem atf (h : TR rs r) (hc : aey rs = 0) [c0 : Ct (llq rs) 4000 300000] [i1 : Zl (llq rs) 4000 300000 a x 40 40] [i2 : Zl (llq rs) 4000 300000 b y 40 40] [i3 : Zl (llq rs) 4000 300000 c z 3 0] [i4 : Zl (llq rs) 4000 300000 a2 x2 40 40] [i5 : Zl (llq rs) 4000 300000 b2 y2 40 40] [i6 : Zl (llq rs) 4000 300000 c2 z2 3 0] :
  Con prog 154 [.ptr 1000 0,.agg [nA a,nA b,nA c],.agg [nA a2,nA b2,nA c2]] [(1000,some (mdB rs))] (.tup [nA (sX (bhk (x,y) z (x2,y2) z2)),nA (sX (d2E (x,y) (x2,y2)))]) [(1000,some (mdB rs))] := by
 have hd := ati (a := a) (b := b) (a2 := a2) (b2 := b2) h hc
 haveI := i3.zu
 haveI := i6.zu
 haveI zd := a6d c0 i1.zu i2.zu i4.zu i5.zu
 haveI q4 : Qz 4000 ((4 : Int) : Rat) 1 := Qz.int (c := Ct.cx (c := c0)) (by decide)
 have m1 := bcd (a := c) (b := sX (d2E (x,y) (x2,y2))) h hc (by decide)
 have m2 := az2 (a := sX (z + d2E (x,y) (x2,y2))) (b := c2) h hc (by decide)
 have m3 := ase (a := c) (b := sX (d2E (x,y) (x2,y2))) h hc (by decide)
 have m4 := a2y (a := sX (z * d2E (x,y) (x2,y2))) h hc 4 (by omega) (by decide)
 have m5 := ase (a := sX (z + d2E (x,y) (x2,y2) - z2)) (b := sX (z + d2E (x,y) (x2,y2) - z2)) h hc (by decide)
 have m6 := az2 (a := sX (qE ((4 : Int) : Rat) * (z * d2E (x,y) (x2,y2)))) (b := sX ((z + d2E (x,y) (x2,y2) - z2) * (z + d2E (x,y) (x2,y2) - z2))) h hc (by decide)
 refine gF func154 (fun k z h => abz h) ?_
 refine gc hd ?_
 refine gt (abq (ali _ _) (.cons (.tmp rfl) (.cons (.tmp rfl) (.cons (.tmp rfl) .nil))) rfl rfl rfl) ?_
 refine gD ?_
 refine gt (abq m1 (.cons (.tmp rfl) (.cons (.tmp rfl) (.cons (.tmp rfl) .nil))) rfl rfl rfl) ?_
 refine gt (abq m2 (.cons (.tmp rfl) (.cons (.tmp rfl) (.cons (.tmp rfl) .nil))) rfl rfl rfl) ?_
 refine gD ?_
 refine gt (abq m3 (.cons (.tmp rfl) (.cons (.tmp rfl) (.cons (.tmp rfl) .nil))) rfl rfl rfl) ?_
 refine gt (abq m4 (.cons (.tmp rfl) (.cons (.const _) (.cons (.tmp rfl) .nil))) rfl rfl rfl) ?_
 refine gt (abq m5 (.cons (.tmp rfl) (.cons (.tmp rfl) (.cons (.tmp rfl) .nil))) rfl rfl rfl) ?_
 refine gt (abq m6 (.cons (.tmp rfl) (.cons (.tmp rfl) (.cons (.tmp rfl) .nil))) rfl rfl rfl) ?_
 refine gR ?_
 exact Fin.keep (ade rfl)
theorem asa (h : TR rs r) (hc : aey rs = 0) [c0 : Ct (llq rs) 4000 300000] [i1 : Zl (llq rs) 4000 300000 a x 40 40] [i2 : Zl (llq rs) 4000 300000 b y 40 40] [i3 : Zl (llq rs) 4000 300000 c z 3 0] [i4 : Zl (llq rs) 4000 300000 a2 x2 40 40] [i5 : Zl (llq rs) 4000 300000 b2 y2 40 40] [i6 : Zl (llq rs) 4000 300000 c2 z2 3 0]
  (s1 : 0 <= sgE z) (s2 : 0 <= sgE z2) : FnC prog 60 [agh rs,.agg [nA a,nA b,nA c],.agg [nA a2,nA b2,nA c2]] (.tup [nA (sX (bhk (x,y) z (x2,y2) z2)),.v .nilIface]) := by
 have hz : ∀ q ∈ [(a, b, c), (a2, b2, c2)], CiZ rs q := fun q hq => by
  simp only [mem_cons,not_mem_nil,or_false] at hq
  rcases hq with rfl | rfl
  ·exact ⟨i1.nm.mono (by omega),i2.nm.mono (by omega),i3.nm.mono (by omega),by show 0 <= sgE (dE (llq rs) c); rw [show dE (llq rs) c = z from i3.eq]; exact s1⟩
  ·exact ⟨i4.nm.mono (by omega),i5.nm.mono (by omega),i6.nm.mono (by omega),by show 0 <= sgE (dE (llq rs) c2); rw [show dE (llq rs) c2 = z2 from i6.eq]; exact s2⟩
 have hck := a3c h hc [(a,b,c),(a2,b2,c2)] hz (by show 2 <= 100; omega)
 refine gF0 func60 ?_
 refine gc hck ?_
 refine gC (fun ht18 => ?_) (fun ht18 => ?_) (st1 := (3,0)) (st2 := (5,0))
 ·cases ht18
 ·refine gW (Wk.o (sl := [(4, some (.ptr 4 0)), (5, some (.ptr 5 0)), (9, some (.ptr 22 0))]) (hp := [(4, some (.box [nA a, nA b, nA c])), (5, some (.box [nA a2, nA b2, nA c2])), (22, some (mdB rs))])) ?_
  refine gt (aad (Con.rekeyB 22 rfl rfl rfl rfl (atf h hc)) (.cons (.tmp rfl) (.cons (.tmp rfl) (.cons (.tmp rfl) .nil))) (by first | exact hH0 | exact hH1 rfl | exact hH2 rfl rfl) rfl rfl) ?_
  refine gC (fun ht34 => ?_) (fun ht34 => ?_) (st1 := (7,0))
  ·cases ht34
  ·refine gR ?_
   exact agn rfl
end
end Go.Lw
namespace Go.Lw
variable {P : Program} {N : Nat} {R : Array Oper} {s : AS}
def bog (P : Program) (T : TypeId) (f o : Nat) : Bool := match P.underlying T with
  | some (.struct fs) => (match fs[f]? with
    | some fl => Nat.beq fl.offset o && (match P.underlying fl.type with
      | some (.struct _) => false
      | some (.array _ _) => false
      | some _ => true
      | none => false)
    | none => false)
  | _ => false
theorem a9v {d f o : Nat} {x : Operand} {cs : List AV} {c : AV} {T t : TypeId} {pos : String} {after : Array Edge} (hx : Ev s x (.agg cs)) (hc : cs[o]? = some c) (hF : bog P T f o = true) (hN : Nat.blt d N = true) :
  Step P N R s ⟨some d,.field T x f,t,pos,after,none⟩ ⟨some c,[],aal x,[]⟩ :=
 aa2 rfl rfl hN fun s' hag C m a w hr => by
  have h := (hx.agree hag (fun _ h => h)).rep hr
  generalize hu : a.eval x = y at h
  cases h with
  | @agg _ vs _ hn h1 hrr =>
   have ho := (List.getElem?_eq_some_iff.1 hc).1
   have hv : vs[o]? = some vs[o]:=by simp [hn,ho]
   refine ⟨vs[o],?_,hrr o _ c hv hc⟩
   unfold bog at hF
   split at hF
   ·rename_i fs hu2
    split at hF
    ·rename_i fl hfl
     rw [and_eq_true] at hF
     obtain ⟨h2,h3⟩ := hF
     have h2 := eq_of_beq_eq_true h2
     have h4 : ∃ u, P.underlying fl.type = some u /\ (∀ g, u ≠ .struct g) /\ (∀ n e, u ≠ .array n e) := by
      split at h3
      ·cases h3
      ·cases h3
      ·rename_i u n1 n2 e; exact ⟨_,e,fun g h => n1 g h,fun n e2 h => n2 n e2 h⟩
      ·cases h3
     obtain ⟨u,e1,e2,e3⟩ := h4
     subst h2
     simp [execOp,hu,Instr.field,run_underlying hu2,hfl,part,isAgg,run_underlying e1,asAgg,hv]
    ·cases hF
   ·cases hF
end Go.Lw
namespace Go.Lw
theorem Con.rekeyB1 {P : Program} {f : FuncId} {k off : Nat} {x x' : Blk} {y0 : AV} {xs : List AV} {r : AV} (d : Nat) (hx : x.nm = []) (hx' : x'.nm = []) (hy0 : y0.nm = []) (hxs : (xs.all fun x => x.nm.isEmpty) = true) (hr : r.nm = [])
  (h : Con P f (y0 :: .ptr k off :: xs) [(k,some x)] r [(k,some x')]) : Con P f (y0 :: .ptr d off :: xs) [(d,some x)] r [(d,some x')] := by
 refine ⟨h.ok,?_⟩
 intro ext m w vs hext hheap hvs hrep
 have h1 := h.ret ext (fun _ => m d) w vs hext (ama (k := d) hx rfl hheap) (by simpa using hvs) (by
  intro j v y hv hy
  rw [ais (d := k) (k := d) (y := x) (x := x) (m2 := fun _ => m d) (m := m) rfl]
  match j,hy with
  | 0, hy =>
   cases hy
   exact acj hy0 (hrep 0 v _ hv rfl)
  | 1, hy =>
   cases hy
   have h2 := hrep 1 v _ hv rfl
   cases h2 with
   | ptr hm => exact .ptr hm
  | j + 2, hy =>
   have h2 := hrep (j + 2) v y hv hy
   refine acj ?_ h2
   have := List.all_eq_true.1 hxs y (mem_of_getElem? hy)
   simpa using this)
 refine Calls.mono h1 ?_
 rintro e w' ⟨v,m',rfl,hf,hh,hn,hk,hrr⟩
 have ho : Own [(k, some x)] (fun _ => m d) = Own [(d, some x)] m := by
  funext b; apply propext; rw [af4,af4]
 refine ⟨v,fun _ => m' k,rfl,ho ▸ hf,ama (k := k) hx' rfl hh,?_,?_,?_⟩
 ·intro k' x b hx hb
  rw [<- ho]
  exact hn k _ b (by rw [aab,if_pos rfl]) hb
 ·intro k' x y hx hy
  obtain ⟨rfl,_⟩ := aeh hx
  exact hk k _ _ (by rw [aab,if_pos rfl]) (by rw [aab,if_pos rfl])
 ·rw [ais (d := d) (k := k) (y := x') (x := x') (m2 := fun _ => m' k) (m := m') rfl]
  exact acj hr hrr
end Go.Lw
namespace Go.Lw
open Go.Proofs
def ayl (l : Li) (a : As) (g : Gr) : List Rat := if g.kind = 0 then sh 0 ((1 : Int) : Rat) else sX (aw8 l a g)
theorem bl2 {p q : Rat × Rat} (hp : Sm 1000 p) (hq : Sm 1000 q) : Qz 4000 (sqQ p q) 3 := asu (bon hp hq) (by omega)
theorem a3h {l : Li} {k : Int} {a : As} {E : Nat} (hop : FnC prog 56 [l.av, i64 k, a.av, bl false] (.tup [.v (.pointer none), ajw E])) (h0 : E ≠ 0) (L : List Rat) :
  FnC prog 12 [l.av,i64 k,a.av] (.tup [nA (if E = 0 then L else []),ajw E]) := by
 refine gF0 func12 ?_
 refine gc (hop) ?_
 refine gC (fun ht27 => ?_) (fun ht27 => ?_) (st2 := (77777,0))
 ·refine gR ?_
  exact ad7 (by rw [if_neg h0]; exact Sub.tup (.cons (.nil _ _ _) (.cons (.refl _) .nil)))
 ·exact absurd (ae0 ht27) h0
theorem a6s {l : Li} {k : Int} {a : As} {n : Nat} {g : Gr} (hop : Con prog 56 [l.av, i64 k, a.av, bl false] [] (.tup [.ptr 900 0, .v .nilIface]) [(900, some (svB l g a))]) (D : DyR l a) (ok : DyOk l k a false n g) :
  FnC prog 12 [l.av,i64 k,a.av] (.tup [nA (ayl l a g),.v .nilIface]) := by
 haveI c := D.al.ct D.hc
 have hgo := ok.ok
 have hbl := D.al.bl
 refine gF0 func12 ?_
 refine gt (aad hop (.cons (.tmp rfl) (.cons (.tmp rfl) (.cons (.tmp rfl) (.cons (.const _) .nil)))) (by first | exact hH0 | exact hH1 rfl | exact hH2 rfl rfl) rfl rfl) ?_ (2,0)
 refine gW (Wk.o (sl := [(5,some (.ptr 5 0)),(8,some (.ptr 900 0)),(9,some (.v .nilIface))]) (hp := [(5,some (.box a.av.cells)),(900,some (svB l g a))])) ?_
 refine gC (fun ht27 => ?_) (fun ht27 => ?_) (st1 := (3,0)) (st2 := (5,0))
 ·cases ht27
 ·refine gW (Wk.o (sl := [(5, some (.ptr 5 0)), (8, some (.ptr 900 0)), (10, some (.ptr 32 0))]) (hp := [(5, some (.box a.av.cells)), (900, some (svB l g a)), (32, some (mdB a.rs))])) ?_ (8, 0)
  refine gJ0 [10] [32] [(11,some (nA (sX (aw8 l a g))))] [] (g.kind ≠ 0) ?_ ?_ 2
  ·intro K1 hK1
   refine gC (fun ht43 => ?_) (fun ht43 => ?_)
   ·have hk : g.kind = 0 := ae9 ht43
    have hd : ayl l a g = sh 0 ((1 : Int) : Rat) := if_pos hk
    rw [hd]
    refine gc (a0j) ?_
    refine gR ?_
    exact agn rfl
   ·have hk0 : g.kind ≠ 0 := afy ht43
    refine gC (fun ht46 => ?_) (fun ht46 => ?_)
    ·have hk : g.kind = 1 := ae9 ht46
     obtain ⟨i,k2,z0,z1,z2,j0,j1,j2,P⟩ := ok.rrr hk
     have hE := a8l P
     obtain rfl := P.eq
     have hq0 := acs D.hl D.li P.h0 (by rcases P.p0.tie with h9 | h9; exact .inl h9.1; exact .inr h9.2.1)
     have hq1 := acs D.hl D.li P.h1 (by rcases P.p1.tie with h9 | h9; exact .inl h9.1; exact .inr h9.2.1)
     have hq2 := acs D.hl D.li P.h2 P.t1
     have hq3 := acs D.hl D.li P.h2 P.t2
     rw [axi,axi] at hE
     obtain ⟨y1,y2⟩ := acv D.hl D.li D.al D.hc P.h0 P.p0
     obtain ⟨y3,y4⟩ := acv D.hl D.li D.al D.hc P.h1 P.p1
     haveI := y1; haveI := y2; haveI := y3; haveI := y4
     haveI := bl2 hq2 hq0
     haveI := bl2 hq3 hq1
     have hr := asa (a := sX (ab8 l a j0 i).1) (b := sX (ab8 l a j0 i).2) (c := sh 0 (sqQ (adg l j2 i) (adg l j0 i) : Rat)) (a2 := sX (ab8 l a j1 k2).1) (b2 := sX (ab8 l a j1 k2).2) (c2 := sh 0 (sqQ (adg l j2 k2) (adg l j1 k2) : Rat)) D.al.tr D.hc (bla _ _) (bla _ _)
     refine gt (aad (Con.rekeyB 900 rfl rfl rfl rfl (a0n D.hl D.li D.al D.hc hgo P.h0 P.h1 P.h2 P.p0 P.p1 P.t1 P.t2)) (.cons (.tmp rfl) .nil) (by first | exact hH0 | exact hH1 rfl | exact hH2 rfl rfl) rfl rfl) ?_
     refine gc (aki hq0 hq2 _) ?_
     refine gc (aki hq1 hq3 _) ?_
     refine gc hr ?_
     refine gt (abq (Con.rekeyB 32 rfl rfl rfl rfl (aeu _ _)) (.cons (.tmp rfl) (.cons (.tmp rfl) (.cons (.tmp rfl) .nil))) rfl rfl rfl) ?_
     refine gD ?_
     exact jK0 hK1 hk0 (hw := Wk.of (.cons rfl (Sub.of (congrArg (fun z => nA (sX z)) hE.symm)) (.k .nil)) (.cons rfl (.refl _) .nil))
    ·have hk1 : g.kind ≠ 1 := afy ht46
     refine gC (fun ht73 => ?_) (fun ht73 => ?_)
     ·have hk : g.kind = 2 := ae9 ht73
      obtain ⟨i,z0,z1,j0,j,P,ha,hb⟩ := ok.pr hk
      have hE := a5h P
      obtain rfl := P.eq
      obtain ⟨i1,i2,i3,i4,i5⟩ := aem D.li P.h1
      have hq : Sm 1000 (mkQ l i j.point):=by rw [<- ha]; exact agi D.hl D.li i1 i3
      have hq0 := acs D.hl D.li P.h0 (by rcases P.p0.tie with h9 | h9; exact .inl h9.1; exact .inr h9.2.1)
      rw [axi] at hE
      obtain ⟨y1,y2⟩ := acv D.hl D.li D.al D.hc P.h0 P.p0
      obtain ⟨y3,y4⟩ := adb D.hl D.li D.al D.hc i2 (i5 P.hk) hb
      obtain ⟨y7,y8⟩ := adb D.hl D.li D.al D.hc i2 i4 hb
      haveI := y1; haveI := y2; haveI := y3; haveI := y4; haveI := y7; haveI := y8
      haveI := bl2 hq hq0
      have s1 := anh (ts := llq a.rs) (u := 4000) (k := 300000) (a := sX (plE l a j.b j.to).1) (b := sX (plE l a j.b j.to).2) (a2 := sX (plE l a j.b j.on).1) (b2 := sX (plE l a j.b j.on).2)
      have s2 := anh (ts := llq a.rs) (u := 4000) (k := 300000) (a := sX (ab8 l a j0 i).1) (b := sX (ab8 l a j0 i).2) (a2 := sX (plE l a j.b j.on).1) (b2 := sX (plE l a j.b j.on).2)
      have s3 := a0m (ts := llq a.rs) (u := 4000) (k := 300000) (a := sX ((plE l a j.b j.to).1 - (plE l a j.b j.on).1)) (b := sX ((plE l a j.b j.to).2 - (plE l a j.b j.on).2)) (a2 := sX ((ab8 l a j0 i).1 - (plE l a j.b j.on).1)) (b2 := sX ((ab8 l a j0 i).2 - (plE l a j.b j.on).2))
      have s4 := a1a (ts := llq a.rs) (u := 4000) (k := 300000) (a := sX ((plE l a j.b j.to).1 - (plE l a j.b j.on).1)) (b := sX ((plE l a j.b j.to).2 - (plE l a j.b j.on).2)) (a2 := sX ((plE l a j.b j.to).1 - (plE l a j.b j.on).1)) (b2 := sX ((plE l a j.b j.to).2 - (plE l a j.b j.on).2))
      have m1 := aof (rs := a.rs) (u := 4000) (k := 300000) (a := sX (dotE ((plE l a j.b j.to).1 - (plE l a j.b j.on).1) ((plE l a j.b j.to).2 - (plE l a j.b j.on).2) ((plE l a j.b j.to).1 - (plE l a j.b j.on).1) ((plE l a j.b j.to).2 - (plE l a j.b j.on).2))) (b := sh 0 (sqQ (mkQ l i j.point) (adg l j0 i) : Rat)) D.al.tr D.hc
      have m2 := aof (rs := a.rs) (u := 4000) (k := 300000) (a := sX (crsE ((plE l a j.b j.to).1 - (plE l a j.b j.on).1) ((plE l a j.b j.to).2 - (plE l a j.b j.on).2) ((ab8 l a j0 i).1 - (plE l a j.b j.on).1) ((ab8 l a j0 i).2 - (plE l a j.b j.on).2))) (b := sX (crsE ((plE l a j.b j.to).1 - (plE l a j.b j.on).1) ((plE l a j.b j.to).2 - (plE l a j.b j.on).2) ((ab8 l a j0 i).1 - (plE l a j.b j.on).1) ((ab8 l a j0 i).2 - (plE l a j.b j.on).2))) D.al.tr D.hc
      have m3 := azy (rs := a.rs) (u := 4000) (k := 300000)
       (a := sX (dotE ((plE l a j.b j.to).1 - (plE l a j.b j.on).1) ((plE l a j.b j.to).2 - (plE l a j.b j.on).2) ((plE l a j.b j.to).1 - (plE l a j.b j.on).1) ((plE l a j.b j.to).2 - (plE l a j.b j.on).2) * qE (sqQ (mkQ l i j.point) (adg l j0 i))))
       (b := sX (crsE ((plE l a j.b j.to).1 - (plE l a j.b j.on).1) ((plE l a j.b j.to).2 - (plE l a j.b j.on).2) ((ab8 l a j0 i).1 - (plE l a j.b j.on).1) ((ab8 l a j0 i).2 - (plE l a j.b j.on).2) * crsE ((plE l a j.b j.to).1 - (plE l a j.b j.on).1) ((plE l a j.b j.to).2 - (plE l a j.b j.on).2) ((ab8 l a j0 i).1 - (plE l a j.b j.on).1) ((ab8 l a j0 i).2 - (plE l a j.b j.on).2))) D.al.tr D.hc
      rw [ai2 D.al.tr D.hc] at s1 s2 s3 s4
      refine gt (aad (Con.rekeyB 900 rfl rfl rfl rfl (a4i D.hl D.li D.al D.hc hgo P.h0 P.h1 P.p0 ha P.hk hb)) (.cons (.tmp rfl) .nil) (by first | exact hH0 | exact hH1 rfl | exact hH2 rfl rfl) rfl rfl) ?_
      refine gc s1 ?_
      refine gt (abq (Con.rekeyB 32 rfl rfl rfl rfl (adh _ _ _)) (.cons (.tmp rfl) (.cons (.tmp rfl) (.cons (.tmp rfl) .nil))) rfl rfl rfl) ?_
      refine gD ?_
      refine gc s2 ?_
      refine gt (abq (Con.rekeyB 32 rfl rfl rfl rfl (adh _ _ _)) (.cons (.tmp rfl) (.cons (.tmp rfl) (.cons (.tmp rfl) .nil))) rfl rfl rfl) ?_
      refine gc s3 ?_
      refine gt (abq (Con.rekeyB 32 rfl rfl rfl rfl (aeu _ _)) (.cons (.tmp rfl) (.cons (.tmp rfl) (.cons (.tmp rfl) .nil))) rfl rfl rfl) ?_
      refine gD ?_
      refine gc s4 ?_
      refine gt (abq (Con.rekeyB 32 rfl rfl rfl rfl (aeu _ _)) (.cons (.tmp rfl) (.cons (.tmp rfl) (.cons (.tmp rfl) .nil))) rfl rfl rfl) ?_
      refine gc (aki hq0 hq _) ?_
      refine gs (a9v (o := 2) (.tmp rfl) rfl (by kernel_rfl) rfl) ?_
      refine gt (abq (Con.rekeyB 32 rfl rfl rfl rfl m1) (.cons (.tmp rfl) (.cons (.tmp rfl) (.cons (.tmp rfl) .nil))) rfl rfl rfl) ?_
      refine gt (abq (Con.rekeyB 32 rfl rfl rfl rfl m2) (.cons (.tmp rfl) (.cons (.tmp rfl) (.cons (.tmp rfl) .nil))) rfl rfl rfl) ?_
      refine gt (abq (Con.rekeyB 32 rfl rfl rfl rfl m3) (.cons (.tmp rfl) (.cons (.tmp rfl) (.cons (.tmp rfl) .nil))) rfl rfl rfl) ?_
      refine gD ?_
      exact jK0 hK1 hk0 (hw := Wk.of (.cons rfl (Sub.of (congrArg (fun z => nA (sX z)) hE.symm)) (.k .nil)) (.cons rfl (.refl _) .nil))
     ·have hk2 : g.kind ≠ 2 := afy ht73
      obtain ⟨i,z0,z1,j0,j,P,ha,hj,hb⟩ := ok.rp hk0 hk1 hk2
      obtain ⟨e0,e1,b0,_⟩ := P.at
      have hE : aw8 l a g = qE (rpN l i j) * rpD l a i j0 j - qE (rpH l i j0 j) * qE (rpH l i j0 j):=by unfold aw8; rw [if_neg hk0,if_neg hk1,if_neg hk2,e0,e1,b0]
      obtain rfl := P.eq
      obtain ⟨i1,i2,i3,i4,i5⟩ := aem D.li P.h1
      have hs0 : Sm 1000 (adg l j0 i) := acs D.hl D.li P.h0 (by rcases P.p0.tie with h9 | h9; exact .inl h9.1; exact .inr h9.2.1)
      have hs1 : Sm 1000 (mkQ l i j.on):=by rw [<- hj]; exact agi D.hl D.li i2 i4
      have hs2 : Sm 1000 (mkQ l i j.to):=by rw [<- hj]; exact agi D.hl D.li i2 (i5 P.hk)
      have hv : Sm _ (rpV l i j) := hs2.sub hs1
      haveI : Qz 4000 (rpN l i j) 3 := asu (hv.dot hv) (by omega)
      haveI : Qz 4000 (rpH l i j0 j) 3 := asu (hv.cross (hs1.sub hs0)) (by omega)
      obtain ⟨w1,w2⟩ := a9i D P.h0 P.p0 P.h1 hb
      haveI := w1; haveI := w2
      haveI z3 : Zu 4000 300000 (rpD l a i j0 j) _ _ := (inferInstance : Zu 4000 300000 (dotE (rpW l a i j0 j).1 (rpW l a i j0 j).2 (rpW l a i j0 j).1 (rpW l a i j0 j).2) _ _)
      have hrr := asl D (i := i) (j0 := j0) (j := j) (by decide)
      refine gt (aad (Con.rekeyBB 900 32 (by decide) (by decide) rfl rfl rfl rfl rfl rfl (a7v D hgo P.h0 P.h1 P.p0 hj P.hk hb)) (.cons (.tmp rfl) (.cons (.tmp rfl) .nil)) (by first | exact hH0 | exact hH1 rfl | exact hH2 rfl rfl) rfl rfl) ?_
      refine gt (aad (Con.rekeyB1 32 rfl rfl rfl rfl rfl hrr) (.cons (.tmp rfl) (.cons (.tmp rfl) .nil)) (by first | exact hH0 | exact hH1 rfl | exact hH2 rfl rfl) rfl rfl) ?_
      exact jK0 hK1 hk0 (hw := Wk.of (.cons rfl (Sub.of (congrArg (fun z => nA (sX z)) hE.symm)) (.k .nil)) (.cons rfl (.refl _) .nil))
  ·rintro hk9
   rw [show ayl l a g = sX (aw8 l a g) from if_neg hk9]
   refine gC (fun ht147 => ?_) (fun ht147 => ?_) (st1 := (21,0))
   ·cases ht147
   ·refine gR ?_
    exact agn rfl
theorem asj (l : Li) (hl : l.ok) (k : Int) (a : As) (al : AL a) :
  FnC prog 12 [l.av,i64 k,a.av] (.tup [nA (if dyE l k a false = 0 then ayl l a (gAt l k) else []),ajw (dyE l k a false)]) := by
 have hop := auf l hl k a al false
 by_cases h0 : dyE l k a false = 0
 ·obtain ⟨n, g, ok⟩ := bax h0
  have hgA : gAt l k = g:=by unfold gAt; rw [ok.hk,toNat_natCast]; exact aag ok.hg
  rw [h0,hgA] at hop ⊢
  exact a6s hop ⟨hl,ok.li,al,ok.chk⟩ ok
 ·rw [axf h0, azc h0] at hop
  exact a3h hop h0 _
end Go.Lw
namespace Go.Lw
open Go.Proofs
def at2 (g : Gr) (j : Jt) (q : Nat) : Int := if q = 0 then -1 else if q = 1 then (if g.bodies.contains j.b = true then -1 else j.b) else anc g j
theorem azr {g : Gr} {j : Jt} {q : Nat} {b : Int} (hb : [j.b, j.a][q]? = some b) : (if g.bodies.contains b = true then at2 g j q else b) = at2 g j (q + 1) := by
 match q,hb with
 | 0,hb => cases hb; rfl
 | 1, hb =>
  cases hb
  show (if g.bodies.contains j.a = true then (if g.bodies.contains j.b = true then -1 else j.b) else j.a) = anc g j
  rfl
theorem asy {xs : List Int} {p : Nat} {x b : Int} (h : xs[p]? = some x) : cond ((xs.take p).contains b) true (aaa .eql x b) = (xs.take (p + 1)).contains b := by
 rw [aak h,am5,am7,List.contains_eq_any_beq,List.contains_eq_any_beq,List.any_append,List.any_cons,List.any_nil,Bool.or_false]
 congr 1
 by_cases h1 : x = b
 ·subst h1; simp
 ·rw [decide_eq_false h1]
  symm
  exact beq_false_of_ne (fun e => h1 e.symm)
theorem asb (l : Li) (hl : l.ok) (g : Gr) (hg : GrOk l g) : FnC prog 78 [l.av, g.av] (.tup [.lst 1 ((aiu l g).map i64), i64 0]) := by
 have hlb := hg.lb
 have hlj := hg.lj
 have hjl := hl.lj
 refine gF0 func78 ?_
 refine gl ?_
 refine gL1 [2,3,18,19] [2,3] (fun (i : Nat) => [(20,some (i64 i))]) (fun _ => []) (fun i => i <= g.joints.length) (fun i => g.joints.length - i) 0 (zero_le _) ?_
 rintro i hi K1 hK1
 refine gC (fun ht21 => ?_) (fun ht21 => ?_)
 ·have hin := abo ht21
  obtain ⟨z,hz⟩ := ab9 hin
  obtain ⟨z0,z1⟩ := hg.j z (mem_of_getElem? hz)
  refine gi (aaf hz) ?_
  refine glG ?_
  refine gC (fun ht32 => ?_) (fun ht32 => ?_) (st1 := (5,0))
  ·(rw [bd6 z0 z1] at ht32; cases ht32)
  ·refine ga aau ?_
   exact gK1 hK1 (i + 1) hin
 ·have hin := aan hi ht21
  refine gl ?_
  refine gW ((Wk.virt 900 1 rfl).trans <| Wk.of (sl := [(2,some (.ptr 2 0)),(3,some (.ptr 3 0)),(8,some (.ms 900 1 0 0)),(35,some (.lst 1 (g.joints.map i64))),(36,some (i64 g.joints.length)),(37,some (i64 0))]) (hp := [(2,some (.box l.av.cells)),(3,some (.box g.av.cells)),(900,some (.row 1 []))]) (.k (.k (.cons rfl (Sub.nilMs _ _ _) (.k (.k (.k .nil)))))) (.cons rfl (.refl _) (.cons rfl (.refl _) (.cons rfl (.refl _) .nil)))) ?_
  refine gL1 [2,3,35,36] [2,3] (fun (k : Nat) => [(8,some (.ms 900 1 0 k)),(37,some (i64 k))]) (fun k => [(900,some (.row 1 (((aiu l g).take k).map i64)))]) (fun k => k <= g.joints.length) (fun k => g.joints.length - k) 0 (zero_le _) ?_
  rintro k hk K2 hK2
  refine gC (fun ht38 => ?_) (fun ht38 => ?_) (st2 := (26,0))
  ·have hkn := abo ht38
   obtain ⟨z,hz⟩ := ab9 hkn
   obtain ⟨z0,z1⟩ := hg.j z (mem_of_getElem? hz)
   obtain ⟨j,hj⟩ : ∃ j,l.joints[z.toNat]? = some j := ab9 (by omega)
   have hlt : (((aiu l g).take k).map i64).length = k:=by rw [length_map,length_take,ahc]; omega
   refine gi (aaf hz) ?_
   refine gi (adt (n := z.toNat) (by omega) hj) ?_
   refine gi (adt (n := z.toNat) (by omega) hj) ?_
   refine ge rfl ?_
   refine gD ?_
   refine gL1 [2,3,35,36,37,53,54] [2,3] (fun (q : Nat) => [(8,some (.ms 900 1 0 k)),(11,some (i64 (at2 g j q))),(55,some (i64 q))]) (fun _ => [(900,some (.row 1 (((aiu l g).take k).map i64)))]) (fun q => q <= 2) (fun q => 2 - q) 0 (zero_le _) ?_
   rintro q hq K3 hK3
   refine gC (fun ht56 => ?_) (fun ht56 => ?_)
   ·have hqn : q < 2 := abo (b := 2) ht56
    obtain ⟨b,hb⟩ : ∃ b,[j.b,j.a][q]? = some b := ab9 hqn
    refine gi (show [i64 j.b,i64 j.a][(q : Int).toNat]? = some (i64 b) by have := aaf (f := i64) hb; exact this) ?_
    refine gl ?_
    refine gL1 [2,3,35,36,37,53,54,11,55,13,60,61] [2,3,900] (fun (p : Nat) => [(8,some (.ms 900 1 0 k)),(14,some (bl ((g.bodies.take p).contains b))),(62,some (i64 p))]) (fun _ => []) (fun p => p <= g.bodies.length) (fun p => g.bodies.length - p) 0 (zero_le _) ?_
    rintro p hp K4 hK4
    refine gC (fun ht63 => ?_) (fun ht63 => ?_)
    ·have hpn := abo ht63
     obtain ⟨x,hx⟩ := ab9 hpn
     refine gi (aaf hx) ?_
     refine ga aau ?_
     exact gK1 hK4 (p + 1) hpn (hw := Wk.of (.k (.cons rfl (Sub.of (congrArg bl (asy hx))) (.k (.k (.k (.k (.k (.k (.k (.k (.k (.k (.k (.k (.k .nil))))))))))))))) (.cons rfl (.refl _) (.cons rfl (.refl _) (.cons rfl (.refl _) .nil))))
    ·have hpn := aan hp ht63
     subst hpn
     have hall : g.bodies.take g.bodies.length = g.bodies := take_length
     refine gC (fun ht74 => ?_) (fun ht74 => ?_)
     ·have h2 : g.bodies.contains b = false := by rw [hall] at ht74; exact af0 ht74
      have h3 := azr (g := g) hb
      rw [if_neg (by rw [h2]; simp)] at h3
      refine ga aau ?_
      exact gK1 hK3 (q + 1) hqn (hw := Wk.of (.k (.cons rfl (Sub.of (congrArg i64 h3)) (.k (.k (.k (.k (.k (.k (.k (.k .nil)))))))))) (.cons rfl (.refl _) (.cons rfl (.refl _) (.cons rfl (.refl _) .nil))))
     ·have h2 : g.bodies.contains b = true := by rw [hall] at ht74; exact afu ht74
      have h3 := azr (g := g) hb
      rw [if_pos h2] at h3
      refine ga aau ?_
      exact gK1 hK3 (q + 1) hqn (hw := Wk.of (.k (.cons rfl (Sub.of (congrArg i64 h3)) (.k (.k (.k (.k (.k (.k (.k (.k .nil)))))))))) (.cons rfl (.refl _) (.cons rfl (.refl _) (.cons rfl (.refl _) .nil))))
   ·have hqn : q = 2 := aan (b := 2) hq ht56
    subst hqn
    refine gs (abt (.tmp rfl) rfl hlt.symm (.tmp rfl) T31 rfl T3 rfl rfl (by simp only [length_cons,length_nil]; omega) rfl rfl) ?_ (25,0)
    refine gW (Wk.of (sl := [(2,some (.ptr 2 0)),(3,some (.ptr 3 0)),(8,some (.ms 80 1 0 (k + 1))),(35,some (.lst 1 (g.joints.map i64))),(36,some (i64 g.joints.length)),(37,some (i64 k))]) (hp := [(2,some (.box l.av.cells)),(3,some (.box g.av.cells)),(80,some (.row 1 (((aiu l g).take (k + 1)).map i64)))]) abu (.cons rfl (.refl _) (.cons rfl (.refl _) (.cons rfl (BlkSub.of (congrArg (Blk.row 1) (an7 hz hj rfl))) .nil)))) ?_ (25,0)
    refine gW (Wk.rekey (k := 80) (d := 900) rfl rfl) ?_
    refine ga aau ?_
    exact gK1 hK2 (k + 1) hkn
  ·have hkn := aan hk ht38
   subst hkn
   refine gW (Wk.of (sl := [(8,some (.ms 900 1 0 g.joints.length))]) (hp := [(900,some (.row 1 ((aiu l g).map i64)))]) abu (.cons rfl (BlkSub.of (by rw [take_of_length_le (by rw [ahc]; exact le_refl _)])) .nil)) ?_ (26,0)
   refine gW ((Wk.freeze (k := 900) rfl).trans (Wk.of (sl := [(8,some (.lst 1 ((aiu l g).map i64)))]) (hp := []) (.cons rfl (Sub.of (ab3 (by rw [length_map,ahc]))) .nil) .nil)) ?_
   refine gE2 ?_
   first | rfl | (simp; done)
end Go.Lw
namespace Go.Lw
def mkN (n : Nat) (xs : List Int) : List Bool := (List.range n).map (fun i : Nat => decide ((i : Int) ∈ xs))
theorem anb (n : Nat) (xs : List Int) : (mkN n xs).length = n:=by unfold mkN; rw [length_map,List.length_range]
theorem amg {n i : Nat} (h : i < n) (xs : List Int) : (mkN n xs)[i]? = some (decide ((i : Int) ∈ xs)) := by
 unfold mkN; rw [getElem?_map,List.getElem?_range h]; rfl
theorem bgz (n : Nat) : mkN n [] = List.replicate n false := by
 apply List.ext_getElem?
 intro i
 by_cases h : i < n
 ·rw [amg h,List.getElem?_replicate,if_pos h]; simp
 ·rw [getElem?_eq_none (by rw [anb]; omega),getElem?_eq_none (by rw [length_replicate]; omega)]
theorem a7l {n : Nat} {xs ys : List Int} {b : Int} {v : Bool} (h0 : 0 <= b) (hn : b < n) (h : ∀ i : Nat, i < n -> decide ((i : Int) ∈ ys) = if (i : Int) = b then v else decide ((i : Int) ∈ xs)) : mkN n ys = (mkN n xs).set b.toNat v := by
 apply List.ext_getElem?
 intro i
 by_cases hi : i < n
 ·rw [amg hi, h i hi, List.getElem?_set, anb]
  by_cases e : (i : Int) = b
  ·rw [if_pos e,if_pos (by omega),if_pos (by omega)]
  ·rw [if_neg e,if_neg (by omega),amg hi]
 ·rw [getElem?_eq_none (by rw [anb]; omega),getElem?_eq_none (by rw [length_set,anb]; omega)]
theorem bfq {n : Nat} {xs : List Int} {b : Int} (h : b < 0) : mkN n (xs ++ [b]) = mkN n xs := by
 unfold mkN
 refine List.map_congr_left (fun i _ => decide_eq_decide.2 ?_)
 simp only [mem_append,List.mem_singleton]
 constructor
 ·rintro (h1 | h1)
  ·exact h1
  ·omega
 ·exact .inl
theorem bco {n : Nat} {xs : List Int} {b : Int} (h0 : 0 <= b) (hn : b < n) : mkN n (xs ++ [b]) = (mkN n xs).set b.toNat true :=
 a7l h0 hn fun i _ => by
  by_cases e : (i : Int) = b
  ·rw [if_pos e]; simp [e]
  ·rw [if_neg e]; simp [e]
theorem bfo {n : Nat} {xs ys : List Int} {q : Nat} {b : Int} {own : Bool} (hb : ys[q]? = some b) (h0 : 0 <= b) (hn : b < n) :
  mkN n (xs ++ (if own = true then ys.take (q + 1) else [])) = (mkN n (xs ++ (if own = true then ys.take q else []))).set b.toNat (cond (decide (b ∈ xs ++ (if own = true then ys.take q else []))) true own) :=
 a7l h0 hn fun i _ => by
  cases own
  ·simp only [Bool.false_eq_true, if_false, List.append_nil]
   by_cases e : (i : Int) = b
   ·rw [if_pos e,e]; cases decide (b ∈ xs) <;> rfl
   ·rw [if_neg e]
  ·simp only [if_true]
   rw [aak hb]
   by_cases e : (i : Int) = b
   ·rw [if_pos e]; simp [e]
   ·rw [if_neg e]; simp [e]
def ndM (l : Li) (g : Gr) (a : As) (own : Bool) (i : Nat) : Nat := if (i : Int) ∈ ndL l g own then ndE a i else 0
theorem bjz (a : As) (b : Int) (h : b < 0) : ndE a b = 0:=by unfold ndE; rw [if_pos h]
theorem bbw {l : Li} (hl : liE l = 0) {g : Gr} (hg : GrOk l g) {a : As} {own : Bool} : ac2 ((anp (ndL l g own)).map (ndE a)) = ac2 ((List.range l.bodies.length).map (ndM l g a own)) :=
 avg (a42 hl hg) (bjz a)
def sdP (j : Jt) (b : Int) : Int := if j.a = b then j.point else j.on
def sdB (j : Jt) (b : Int) : Int := if j.a = b then j.b else j.a
def sdQ (j : Jt) (b : Int) : Int := if j.a = b then j.on else j.point
theorem DyOk.ne {l : Li} {k : Int} {a : As} {own : Bool} {n : Nat} {i k2 z0 z1 z2 : Int} (h : DyOk l k a own n ⟨1, [i, k2], [z0, z1, z2], 0⟩) : i ≠ k2 := by
 have hd := h.dy
 generalize hg : (⟨1,[i,k2],[z0,z1,z2],0⟩ : Gr) = g at hd
 cases hd with
 | drv _ _ _ _ => simp at hg
 | pr _ _ _ => simp at hg
 | rp _ _ _ => simp at hg
 | rrr ne _ _ _ _ _ _ => simp at hg; obtain ⟨⟨rfl,rfl⟩,_⟩ := hg; exact ne
def bhm (a : As) : Bool := a.bs.all (fun b => aht a.rs b.l) && (decide (a.bs.length <= 20) && aht a.rs [] && decide (a.rs.length <= 1 \/ 5 < a.rs.length))
theorem bh1 {a : As} (h : bhm a = true) (ha : a.ok) : AL a := by
 unfold bhm at h
 simp only [and_eq_true,decide_eq_true_eq,all_eq_true] at h
 obtain ⟨h1,⟨h2,h3⟩,_⟩ := h
 have hlt := a1u h3 ha.rs bdx
 exact ⟨hlt.tr,fun b hb => (a1u (h1 b hb) ha.rs (ha.bs b hb)).nr,hlt.ll,h2⟩
theorem bfh {a : As} (h : a.bs.all (fun b => aht a.rs b.l) = true) :
  cond (cond (aaa .leq (a.bs.length : Int) 20) (aht a.rs []) false) (cond (aaa .leq (a.rs.length : Int) 1) true (aaa .gtr (a.rs.length : Int) 5)) false = bhm a := by
 have e1 := a7p (n := a.bs.length) (k := 20)
 have e2 := a7p (n := a.rs.length) (k := 1)
 have e3 := a56 (n := a.rs.length) (k := 5)
 unfold bhm
 rw [h,Bool.true_and]
 rw [show aaa .leq (a.bs.length : Int) 20 = decide (a.bs.length <= 20) from e1,show aaa .leq (a.rs.length : Int) 1 = decide (a.rs.length <= 1) from e2,show aaa .gtr (a.rs.length : Int) 5 = decide (5 < a.rs.length) from e3]
 cases aht a.rs [] <;> by_cases c1 : a.bs.length <= 20 <;> by_cases c2 : a.rs.length <= 1 <;> by_cases c3 : 5 < a.rs.length <;> simp [c1,c2,c3]
end Go.Lw
namespace Go.Lw
open Go.Proofs
theorem ajm {l : Li} (hl : liE l = 0) : (ab7 l).length <= 8 := by
 unfold ab7; split
 ·exact (ak3 hl).2
 ·exact zero_le _
end Go.Lw
namespace Go.Lw
open Go.Proofs
abbrev qN (p : Rat × Rat) : AV := ptA (sh 0 (p.1 : Rat)) (sh 0 (p.2 : Rat))
abbrev eN {ts : List (List Rat)} (p : Et ts × Et ts) : AV := ptA (sX p.1) (sX p.2)
theorem agp {l : Li} (hl : l.ok) (hli : liE l = 0) {body pt : Int} (h1 : inB body l.bodies.length = true) (h2 : inB pt (aez l body).length = true) : FnC prog 88 [l.av, i64 body, i64 pt] (qN (mkQ l body pt)) := by
 obtain ⟨n,k,bd,m,mp⟩ := ba0 hl hli h1 h2
 have hn := mp.hn
 have hk := mp.hk
 have hlb := hl.lb
 have ho := a1j (mp.sm.x.qs (by omega)) (mp.sm.y.qs (by omega))
 have ho : FnC prog 182 [m.x.av,m.y.av] (qN (mkQ l body pt)):=by rw [mp.ex,mp.ey]; exact ho
 refine gF0 func88 ?_
 refine gi (adt (n := n) hn mp.gbd) ?_
 refine gi (adt (n := k) hk mp.gm) ?_
 refine gc ho ?_
 refine gE1 ?_
 rfl
theorem al4 {l : Li} {a : As} (D : DyR l a) {body pt : Int} (h1 : inB body l.bodies.length = true) (h2 : inB pt (aez l body).length = true) (hb : Pd a body) :
  FnC prog 87 [l.av,a.av,i64 body,i64 pt] (eN (plE l a body pt)) := by
 obtain ⟨n,k,bd,m,b,hp⟩ := bf2 D.hl D.li D.al D.hc h1 h2 hb
 obtain ⟨tw,hta⟩ := ab0 D.al.tr D.hc
 have kb := kb4 tw.three
 have hlm := an3 (llq a.rs).length
 have hlb := D.hl.lb
 have hbl := D.al.bl
 show FnC prog _ _ (ptA (sh (llq a.rs).length (bel l a body pt).1) (sh (llq a.rs).length (bel l a body pt).2))
 rw [hp.eq]
 have hn := hp.mp.hn
 have hk := hp.mp.hk
 have hat : FnC prog 181 [agh a.rs, b.av, m.x.av, m.y.av] (ptA (sh (llq a.rs).length (atP (llq a.rs) b m).1) (sh (llq a.rs).length (atP (llq a.rs) b m).2)) := by
  rw [hta,hp.av,hp.mp.ex,hp.mp.ey]
  have h9 := bbn tw hp.ok.c hp.ok.s hp.ok.x hp.ok.y (hp.mp.sm.x.mono (f := 4000) (by omega)) (hp.mp.sm.y.mono (f := 4000) (by omega)) (by omega)
  unfold atP
  rw [hp.mp.ex,hp.mp.ey,ah0,ah0]
  exact h9
 refine gF0 func87 ?_
 refine gi (adt (n := n) hn hp.mp.gbd) ?_
 refine gi (adt (n := k) hk hp.mp.gm) ?_
 refine gi (adt (n := n) hn hp.gb) ?_
 refine gc hat ?_
 refine gD ?_
 refine gE1 ?_
 rfl
theorem aga (j : Jt) (b : Int) : FnC prog 86 [j.av, i64 b] (.tup [i64 (sdP j b), i64 (sdB j b), i64 (sdQ j b)]) := by
 refine gF0 func86 ?_
 refine gC (fun ht10 => ?_) (fun ht10 => ?_)
 ·have e : j.a = b := ae9 ht10
  refine gD ?_
  refine gE3 ?_
  unfold sdP sdB sdQ; rw [if_pos e,if_pos e,if_pos e]
 ·have e : j.a ≠ b := afy ht10
  refine gD ?_
  refine gE3 ?_
  unfold sdP sdB sdQ; rw [if_neg e,if_neg e,if_neg e]
theorem agj {l : Li} {a : As} (D : DyR l a) {n : Nat} {j : Jt} (hj : l.joints[n]? = some j) {b : Int} (h : PinP l a j b) : FnC prog 87 [l.av, a.av, i64 (sdB j b), i64 (sdQ j b)] (eN (ab8 l a j b)) := by
 obtain ⟨i1,i2,i3,i4,_⟩ := aem D.li hj
 unfold ab8 sdB sdQ
 rcases h.tie with ⟨e,hb⟩ | ⟨e,e2,hb⟩
 ·rw [if_pos e,if_pos e,if_pos e]; exact al4 D i2 i4 hb
 ·rw [if_neg e,if_neg e,if_neg e]; exact al4 D i1 i3 hb
theorem aei {l : Li} (hl : l.ok) (hli : liE l = 0) {n : Nat} {j : Jt} (hj : l.joints[n]? = some j) {b : Int} (h : j.a = b \/ j.b = b) : FnC prog 88 [l.av, i64 b, i64 (sdP j b)] (qN (adg l j b)) := by
 obtain ⟨i1,i2,i3,i4,_⟩ := aem hli hj
 unfold adg sdP
 by_cases e : j.a = b
 ·rw [if_pos e,if_pos e]; subst e; exact agp hl hli i1 i3
 ·rw [if_neg e, if_neg e]
  rcases h with h | h
  ·exact absurd h e
  ·subst h; exact agp hl hli i2 i4
theorem ay2 {l : Li} (hl : l.ok) (hli : liE l = 0) {n : Nat} {j : Jt} (hj : l.joints[n]? = some j) {i k : Int} (ne : i ≠ k) (t1 : j.a = i \/ j.b = i) (t2 : j.a = k \/ j.b = k) : FnC prog 88 [l.av, i64 k, i64 (sdQ j i)] (qN (adg l j k)) := by
 obtain ⟨i1,i2,i3,i4,_⟩ := aem hli hj
 unfold adg sdQ
 by_cases e : j.a = i
 ·rw [if_pos e, if_neg (by omega)]
  obtain rfl : j.b = k:=by omega
  exact agp hl hli i2 i4
 ·rw [if_neg e, if_pos (by omega)]
  obtain rfl : j.a = k:=by omega
  exact agp hl hli i1 i3
abbrev nl : AV := .v (.slice none 0 0)
abbrev z2C : List AV := [nl,nl]
abbrev qNC (p : Rat × Rat) : List AV := [nA (sh 0 (p.1 : Rat)),nA (sh 0 (p.2 : Rat))]
abbrev eNC {ts : List (List Rat)} (p : Et ts × Et ts) : List AV := [nA (sX p.1),nA (sX p.2)]
abbrev v1C (l : Li) (a : As) (i k : Int) (j0 j1 j2 : Jt) : List AV :=
  [i64 1, i64 i, i64 k] ++ (eNC (ab8 l a j0 i) ++ (eNC (ab8 l a j1 k) ++ (qNC (adg l j0 i) ++ (qNC (adg l j1 k) ++ (qNC (adg l j2 i) ++ (qNC (adg l j2 k) ++ (z2C ++ (z2C ++
    ([nA (sX (d2E (qv (adg l j2 i)) (qv (adg l j0 i)) : Et (llq a.rs))),nA (sX (d2E (qv (adg l j2 k)) (qv (adg l j1 k)) : Et (llq a.rs)))] ++ (z2C ++ [nl,nl,nA (sX (d2E (ab8 l a j1 k) (ab8 l a j0 i)))]))))))))))
abbrev v2C (l : Li) (a : As) (i : Int) (j0 j : Jt) : List AV :=
  [i64 2, i64 i, i64 0] ++ (eNC (ab8 l a j0 i) ++ (z2C ++ (qNC (adg l j0 i) ++ (z2C ++ (qNC (mkQ l i j.point) ++ (z2C ++ (eNC (plE l a j.b j.on) ++ (eNC (plE l a j.b j.to) ++
    ([nA (sX (d2E (qv (mkQ l i j.point)) (qv (adg l j0 i)) : Et (llq a.rs))),nl] ++ (eNC (sbE (plE l a j.b j.to) (plE l a j.b j.on)) ++ [nl,nl,nl]))))))))))
abbrev v3C (l : Li) (a : As) (i : Int) (j0 j : Jt) : List AV :=
  [i64 3, i64 i, i64 0] ++ (eNC (ab8 l a j0 i) ++ (eNC (plE l a j.a j.point) ++ (qNC (adg l j0 i) ++ (z2C ++ (z2C ++ (z2C ++ (qNC (mkQ l i j.on) ++ (qNC (mkQ l i j.to) ++
    ([nl, nl] ++ (eNC (sbE (qv (mkQ l i j.to)) (qv (mkQ l i j.on)) : Et (llq a.rs) × Et (llq a.rs)) ++
      [nA (sX (ang (sbE (qv (mkQ l i j.to)) (qv (mkQ l i j.on))) (sbE (qv (mkQ l i j.on)) (qv (adg l j0 i))) : Et (llq a.rs))),nA (sX (am3 (sbE (qv (mkQ l i j.to)) (qv (mkQ l i j.on))) (sbE (qv (mkQ l i j.to)) (qv (mkQ l i j.on))) : Et (llq a.rs))),nA (sX (d2E (plE l a j.a j.point) (ab8 l a j0 i)))]))))))))))
abbrev v0C (l : Li) (a : As) (i : Int) (j0 : Jt) : List AV :=
  [i64 0,i64 i,i64 0] ++ (eNC (ab8 l a j0 i) ++ (z2C ++ (qNC (adg l j0 i) ++ (z2C ++ (z2C ++ (z2C ++ (z2C ++ (z2C ++ ([nl,nl] ++ (z2C ++ [nl,nl,nl]))))))))))
section
variable {ts : List (List Rat)} {a b a2 b2 : List Rat} {x y x2 y2 : Et ts}
theorem asx {u k w v w' v' w2 v2 w3 v3 : Nat} [c : Ct ts u k] [ha : Zl ts u k a x w v] [hb : Zl ts u k b y w' v'] [ha2 : Zl ts u k a2 x2 w2 v2] [hb2 : Zl ts u k b2 y2 w3 v3] (h : 2 * (w + v + (w' + v') + (w2 + v2 + (w3 + v3))) + 4 <= 2500 := by decide) :
  FnC prog 89 [adv ts,ptA a b,ptA a2 b2] (nA (sX (d2E (x,y) (x2,y2)))) := by
 haveI := ha.zu
 haveI := hb.zu
 haveI := ha2.zu
 haveI := hb2.zu
 have h1 := ap0 (ts := ts) (a := a) (b := b) (a2 := a2) (b2 := b2) (by omega)
 have h2 := a04 (ts := ts) (a := sX (x - x2)) (b := sX (y - y2)) (a2 := sX (x - x2)) (b2 := sX (y - y2)) (by omega)
 refine gF0 func89 ?_
 refine gc h1 ?_
 refine gc h2 ?_
 refine gE1 ?_
 rfl
end
theorem awj {ts : List (List Rat)} (c : Ct ts 4000 300000) {p : Rat × Rat} (hp : Sm 1000 p) : Zl ts 4000 300000 (sh 0 (p.1 : Rat)) (qE p.1) 1 0 /\ Zl ts 4000 300000 (sh 0 (p.2 : Rat)) (qE p.2) 1 0 := by
 haveI := c
 haveI := asu (w := 1) (hp.x) (by omega)
 haveI := asu (w := 1) (hp.y) (by omega)
 exact ⟨inferInstance,inferInstance⟩
theorem beg {a : As} {l : Li} (D : DyR l a) {p q : Rat × Rat} (hp : Sm 1000 p) (hq : Sm 1000 q) : FnC prog 89 [agh a.rs, qN p, qN q] (nA (sX (d2E (qv p) (qv q) : Et (llq a.rs)))) := by
 haveI c := D.al.ct D.hc
 obtain ⟨z1,z2⟩ := awj c hp
 obtain ⟨z3,z4⟩ := awj c hq
 have h := asx (ts := llq a.rs) (u := 4000) (k := 300000) (a := sh 0 (p.1 : Rat)) (b := sh 0 (p.2 : Rat)) (a2 := sh 0 (q.1 : Rat)) (b2 := sh 0 (q.2 : Rat)) (by decide)
 rw [<- (ab0 D.al.tr D.hc).2] at h
 exact h
theorem bi0 {a : As} {l : Li} (D : DyR l a) {p q : Et (llq a.rs) × Et (llq a.rs)} (h1 : Zu 4000 300000 p.1 40 40) (h2 : Zu 4000 300000 p.2 40 40) (h3 : Zu 4000 300000 q.1 40 40) (h4 : Zu 4000 300000 q.2 40 40) :
  FnC prog 89 [agh a.rs,eN p,eN q] (nA (sX (d2E p q))) := by
 haveI c := D.al.ct D.hc
 haveI := h1; haveI := h2; haveI := h3; haveI := h4
 have h := asx (ts := llq a.rs) (u := 4000) (k := 300000) (a := sX p.1) (b := sX p.2) (a2 := sX q.1) (b2 := sX q.2) (by decide)
 rw [<- (ab0 D.al.tr D.hc).2] at h
 exact h
theorem aft {l : Li} {a : As} {j : Jt} {b : Int} (p0 : PinP l a j b) : j.a = b \/ j.b = b:=by rcases p0.tie with h9 | h9; exact .inl h9.1; exact .inr h9.2.1
theorem arz {l : Li} {a : As} (D : DyR l a) {n : Nat} {i k z0 z1 z2 : Int} {j0 j1 j2 : Jt} (hG : (ab7 l)[n]? = some ⟨1, [i, k], [z0, z1, z2], 0⟩) (hgo : GrOk l ⟨1, [i, k], [z0, z1, z2], 0⟩) (P : RrrP l a ⟨1, [i, k], [z0, z1, z2], 0⟩ i k z0 z1 z2 j0 j1 j2) (ne : i ≠ k) :
  FnC prog 19 [l.av,i64 n,a.av] (.agg (v1C l a i k j0 j1 j2)) := by
 have hsl := ajm D.li
 have hlj := D.hl.lj
 have hj0 := (hgo.j z0 (by simp)).1
 have hj1 := (hgo.j z1 (by simp)).1
 have hj2 := (hgo.j z2 (by simp)).1
 have q0 := acs D.hl D.li P.h0 (aft P.p0)
 have q1 := acs D.hl D.li P.h1 (aft P.p1)
 have q2 := acs D.hl D.li P.h2 P.t1
 have q3 := acs D.hl D.li P.h2 P.t2
 obtain ⟨y1,y2⟩ := acv D.hl D.li D.al D.hc P.h0 P.p0
 obtain ⟨y3,y4⟩ := acv D.hl D.li D.al D.hc P.h1 P.p1
 refine gF0 func19 ?_
 refine gc (agv l D.hl D.li) ?_
 refine gi (aaf hG) ?_
 refine gi (rfl) ?_
 refine gD ?_
 refine gi (rfl) ?_
 refine gi (adt (n := z0.toNat) (by omega) P.h0) ?_
 refine gc (aga j0 i) ?_
 refine gD ?_
 refine gc (agj D P.h0 P.p0) ?_
 refine gc (aei D.hl D.li P.h0 (aft P.p0)) ?_
 refine gD ?_
 refine gC (fun ht64 => ?_) (fun ht64 => ?_) (st2 := (16,0))
 ·refine gi (rfl) ?_
  refine gi (rfl) ?_
  refine gi (adt (n := z1.toNat) (by omega) P.h1) ?_
  refine gc (aga j1 k) ?_
  refine gD ?_
  refine gc (agj D P.h1 P.p1) ?_
  refine gc (aei D.hl D.li P.h1 (aft P.p1)) ?_
  refine gD ?_
  refine gi (rfl) ?_
  refine gi (adt (n := z2.toNat) (by omega) P.h2) ?_
  refine gc (aga j2 i) ?_
  refine gD ?_
  refine gc (aei D.hl D.li P.h2 P.t1) ?_
  refine gc (ay2 D.hl D.li P.h2 ne P.t1 P.t2) ?_
  refine gD ?_
  refine gc (beg D q2 q0) ?_
  refine gc (beg D q3 q1) ?_
  refine gD ?_
  refine gc (bi0 D y3 y4 y1 y2) ?_
  refine gE1 ?_
  rfl
 ·cases ht64
theorem ar1 {l : Li} {a : As} (D : DyR l a) {n : Nat} {i z0 z1 : Int} {j0 j : Jt} (hG : (ab7 l)[n]? = some ⟨2, [i], [z0, z1], 0⟩) (hgo : GrOk l ⟨2, [i], [z0, z1], 0⟩) (P : SlP l a ⟨2, [i], [z0, z1], 0⟩ 2 i z0 z1 j0 j) (ha : j.a = i) (hb : Pd a j.b) :
  FnC prog 19 [l.av,i64 n,a.av] (.agg (v2C l a i j0 j)) := by
 have hsl := ajm D.li
 have hlj := D.hl.lj
 have hj0 := (hgo.j z0 (by simp)).1
 have hj1 := (hgo.j z1 (by simp)).1
 have q0 := acs D.hl D.li P.h0 (aft P.p0)
 obtain ⟨i1,i2,i3,i4,i5⟩ := aem D.li P.h1
 have hown : FnC prog 88 [l.av,i64 i,i64 j.point] (qN (mkQ l i j.point)):=by rw [<- ha]; exact agp D.hl D.li i1 i3
 have q2 : Sm 1000 (mkQ l i j.point):=by rw [<- ha]; exact agi D.hl D.li i1 i3
 obtain ⟨y3,y4⟩ := adb D.hl D.li D.al D.hc i2 (i5 P.hk) hb
 obtain ⟨y7,y8⟩ := adb D.hl D.li D.al D.hc i2 i4 hb
 haveI c := D.al.ct D.hc
 haveI := y3; haveI := y4; haveI := y7; haveI := y8
 have hs := ap0 (ts := llq a.rs) (u := 4000) (k := 300000) (a := sX (plE l a j.b j.to).1) (b := sX (plE l a j.b j.to).2) (a2 := sX (plE l a j.b j.on).1) (b2 := sX (plE l a j.b j.on).2)
 rw [<- (ab0 D.al.tr D.hc).2] at hs
 refine gF0 func19 ?_
 refine gc (agv l D.hl D.li) ?_
 refine gi (aaf hG) ?_
 refine gi (rfl) ?_
 refine gD ?_
 refine gi (rfl) ?_
 refine gi (adt (n := z0.toNat) (by omega) P.h0) ?_
 refine gc (aga j0 i) ?_
 refine gD ?_
 refine gc (agj D P.h0 P.p0) ?_
 refine gc (aei D.hl D.li P.h0 (aft P.p0)) ?_
 refine gD ?_
 refine gC (fun ht64 => ?_) (fun ht64 => ?_) (st1 := (9,0))
 ·cases ht64
 ·refine gC (fun ht146 => ?_) (fun ht146 => ?_) (st2 := (21, 0))
  ·refine gi (rfl) ?_
   refine gi (adt (n := z1.toNat) (by omega) P.h1) ?_
   refine gD ?_
   refine gc (al4 D i2 i4 hb) ?_
   refine gc (al4 D i2 (i5 P.hk) hb) ?_
   refine gc hown ?_
   refine gD ?_
   refine gc (beg D q2 q0) ?_
   refine gc hs ?_
   refine gE1 ?_
   rfl
  ·cases ht146
theorem aru {l : Li} {a : As} (D : DyR l a) {n : Nat} {i z0 z1 : Int} {j0 j : Jt} (hG : (ab7 l)[n]? = some ⟨3, [i], [z0, z1], 0⟩) (hgo : GrOk l ⟨3, [i], [z0, z1], 0⟩) (P : SlP l a ⟨3, [i], [z0, z1], 0⟩ 3 i z0 z1 j0 j) (hj : j.b = i) (hb : Pd a j.a) :
  FnC prog 19 [l.av,i64 n,a.av] (.agg (v3C l a i j0 j)) := by
 have hsl := ajm D.li
 have hlj := D.hl.lj
 have hj0 := (hgo.j z0 (by simp)).1
 have hj1 := (hgo.j z1 (by simp)).1
 have q0 := acs D.hl D.li P.h0 (aft P.p0)
 obtain ⟨i1,i2,i3,i4,i5⟩ := aem D.li P.h1
 have ho1 : FnC prog 88 [l.av,i64 i,i64 j.on] (qN (mkQ l i j.on)):=by rw [<- hj]; exact agp D.hl D.li i2 i4
 have ho2 : FnC prog 88 [l.av,i64 i,i64 j.to] (qN (mkQ l i j.to)):=by rw [<- hj]; exact agp D.hl D.li i2 (i5 P.hk)
 have q1 : Sm 1000 (mkQ l i j.on):=by rw [<- hj]; exact agi D.hl D.li i2 i4
 have q2 : Sm 1000 (mkQ l i j.to):=by rw [<- hj]; exact agi D.hl D.li i2 (i5 P.hk)
 obtain ⟨y1,y2⟩ := acv D.hl D.li D.al D.hc P.h0 P.p0
 obtain ⟨y3,y4⟩ := adb D.hl D.li D.al D.hc i1 i3 hb
 haveI c := D.al.ct D.hc
 obtain ⟨x1,x2⟩ := awj c q0
 obtain ⟨x3,x4⟩ := awj c q1
 obtain ⟨x5,x6⟩ := awj c q2
 haveI := x1.zu; haveI := x2.zu; haveI := x3.zu; haveI := x4.zu; haveI := x5.zu; haveI := x6.zu
 have s1 := ap0 (ts := llq a.rs) (u := 4000) (k := 300000) (a := sh 0 ((mkQ l i j.to).1 : Rat)) (b := sh 0 ((mkQ l i j.to).2 : Rat)) (a2 := sh 0 ((mkQ l i j.on).1 : Rat)) (b2 := sh 0 ((mkQ l i j.on).2 : Rat))
 have s2 := a04 (ts := llq a.rs) (u := 4000) (k := 300000) (a := sX (qE (mkQ l i j.to).1 - qE (mkQ l i j.on).1 : Et (llq a.rs))) (b := sX (qE (mkQ l i j.to).2 - qE (mkQ l i j.on).2 : Et (llq a.rs))) (a2 := sX (qE (mkQ l i j.to).1 - qE (mkQ l i j.on).1 : Et (llq a.rs))) (b2 := sX (qE (mkQ l i j.to).2 - qE (mkQ l i j.on).2 : Et (llq a.rs)))
 have s3 := ap0 (ts := llq a.rs) (u := 4000) (k := 300000) (a := sh 0 ((mkQ l i j.on).1 : Rat)) (b := sh 0 ((mkQ l i j.on).2 : Rat)) (a2 := sh 0 ((adg l j0 i).1 : Rat)) (b2 := sh 0 ((adg l j0 i).2 : Rat))
 have s4 := aty (ts := llq a.rs) (u := 4000) (k := 300000) (a := sX (qE (mkQ l i j.to).1 - qE (mkQ l i j.on).1 : Et (llq a.rs))) (b := sX (qE (mkQ l i j.to).2 - qE (mkQ l i j.on).2 : Et (llq a.rs))) (a2 := sX (qE (mkQ l i j.on).1 - qE (adg l j0 i).1 : Et (llq a.rs))) (b2 := sX (qE (mkQ l i j.on).2 - qE (adg l j0 i).2 : Et (llq a.rs)))
 rw [<- (ab0 D.al.tr D.hc).2] at s1 s2 s3 s4
 refine gF0 func19 ?_
 refine gc (agv l D.hl D.li) ?_
 refine gi (aaf hG) ?_
 refine gi (rfl) ?_
 refine gD ?_
 refine gi (rfl) ?_
 refine gi (adt (n := z0.toNat) (by omega) P.h0) ?_
 refine gc (aga j0 i) ?_
 refine gD ?_
 refine gc (agj D P.h0 P.p0) ?_
 refine gc (aei D.hl D.li P.h0 (aft P.p0)) ?_
 refine gD ?_
 refine gC (fun ht64 => ?_) (fun ht64 => ?_) (st1 := (9,0))
 ·cases ht64
 ·refine gC (fun ht146 => ?_) (fun ht146 => ?_) (st1 := (17, 0))
  ·cases ht146
  ·refine gC (fun ht193 => ?_) (fun ht193 => ?_) (st2 := (77777, 0))
   ·refine gi (rfl) ?_
    refine gi (adt (n := z1.toNat) (by omega) P.h1) ?_
    refine gD ?_
    refine gc (al4 D i1 i3 hb) ?_
    refine gc ho1 ?_
    refine gc ho2 ?_
    refine gD ?_
    refine gc s1 ?_
    refine gc s2 ?_
    refine gc s3 ?_
    refine gc s4 ?_
    refine gD ?_
    refine gc (bi0 D y3 y4 y1 y2) ?_
    refine gE1 ?_
    rfl
   ·cases ht193
theorem arv {l : Li} {a : As} (D : DyR l a) {n : Nat} {i z0 d : Int} {j0 : Jt} (hG : (ab7 l)[n]? = some ⟨0, [i], [z0], d⟩) (hgo : GrOk l ⟨0, [i], [z0], d⟩) (h0 : l.joints[z0.toNat]? = some j0) (p0 : PinP l a j0 i) :
  FnC prog 19 [l.av,i64 n,a.av] (.agg (v0C l a i j0)) := by
 have hsl := ajm D.li
 have hlj := D.hl.lj
 have hj0 := (hgo.j z0 (by simp)).1
 refine gF0 func19 ?_
 refine gc (agv l D.hl D.li) ?_
 refine gi (aaf hG) ?_
 refine gi (rfl) ?_
 refine gD ?_
 refine gi (rfl) ?_
 refine gi (adt (n := z0.toNat) (by omega) h0) ?_
 refine gc (aga j0 i) ?_
 refine gD ?_
 refine gc (agj D h0 p0) ?_
 refine gc (aei D.hl D.li h0 (aft p0)) ?_
 refine gD ?_
 refine gC (fun ht64 => ?_) (fun ht64 => ?_) (st1 := (9,0))
 ·cases ht64
 ·refine gC (fun ht146 => ?_) (fun ht146 => ?_) (st1 := (17, 0))
  ·cases ht146
  ·refine gC (fun ht193 => ?_) (fun ht193 => ?_) (st1 := (22, 0))
   ·cases ht193
   ·refine gE1 ?_
    rfl
end Go.Lw
namespace Go.Lw
open Go.Proofs
section
variable {ts : List (List Rat)} {a b c a2 b2 c2 : List Rat} {x y z x2 y2 z2 : Et ts}
theorem bkq [c0 : Ct ts 4000 300000] [i1 : Zl ts 4000 300000 a x 40 40] [i2 : Zl ts 4000 300000 b y 40 40] [i3 : Zl ts 4000 300000 c z 3 0] [i4 : Zl ts 4000 300000 a2 x2 40 40] [i5 : Zl ts 4000 300000 b2 y2 40 40] [i6 : Zl ts 4000 300000 c2 z2 3 0] :
  FnC prog 80 [adv ts,.agg [nA a,nA b,nA c],.agg [nA a2,nA b2,nA c2]] (nA (sX (bhk (x,y) z (x2,y2) z2))) := by
 have hd := asx (ts := ts) (u := 4000) (k := 300000) (a := a) (b := b) (a2 := a2) (b2 := b2) (by decide)
 haveI := i3.zu
 haveI := i6.zu
 haveI zd := a6d c0 i1.zu i2.zu i4.zu i5.zu
 haveI q4 : Qz 4000 ((4 : Int) : Rat) 1 := Qz.int (c := Ct.cx (c := c0)) (by decide)
 have m1 := bfx (ts := ts) (u := 4000) (k := 300000) (a := c) (b := sX (d2E (x,y) (x2,y2)))
 have m2 := aob (ts := ts) (u := 4000) (k := 300000) (a := sX (z + d2E (x,y) (x2,y2))) (b := c2)
 have m3 := ail (ts := ts) (u := 4000) (k := 300000) (a := c) (b := sX (d2E (x,y) (x2,y2)))
 have m4 := ail (ts := ts) (u := 4000) (k := 300000) (a := sh 0 (((4 : Int) : Rat) : Rat)) (b := sX (z * d2E (x,y) (x2,y2)))
 have m5 := ail (ts := ts) (u := 4000) (k := 300000) (a := sX (z + d2E (x,y) (x2,y2) - z2)) (b := sX (z + d2E (x,y) (x2,y2) - z2))
 have m6 := aob (ts := ts) (u := 4000) (k := 300000) (a := sX (qE ((4 : Int) : Rat) * (z * d2E (x,y) (x2,y2)))) (b := sX ((z + d2E (x,y) (x2,y2) - z2) * (z + d2E (x,y) (x2,y2) - z2)))
 refine gF0 func80 ?_
 refine gc hd ?_
 refine gc m1 ?_
 refine gc m2 ?_
 refine gD ?_
 refine gc (aon 4 (by omega)) ?_
 refine gc m3 ?_
 refine gc m4 ?_
 refine gc m5 ?_
 refine gc m6 ?_
 refine gD ?_
 refine gE1 ?_
 rfl
end
theorem aqs {ts : List (List Rat)} (c : Ct ts 4000 300000) {p q : Rat × Rat} (hp : Sm 1000 p) (hq : Sm 1000 q) : Zu 4000 300000 (d2E (qv p) (qv q) : Et ts) 3 0 := by
 haveI := c
 haveI := bl2 hp hq
 rw [axi]
 exact inferInstance
theorem bkc {ts : List (List Rat)} (c : Ct ts 4000 300000) {p m n : Et ts × Et ts} {w : Et ts} (y1 : Zu 4000 300000 p.1 40 40) (y2 : Zu 4000 300000 p.2 40 40) (y3 : Zu 4000 300000 m.1 40 40) (y4 : Zu 4000 300000 m.2 40 40) (y5 : Zu 4000 300000 n.1 40 40) (y6 : Zu 4000 300000 n.2 40 40) (y7 : Zu 4000 300000 w 3 0) :
  FnC prog 82 [adv ts,eN p,eN n] (eN (sbE p n)) /\ FnC prog 81 [adv ts,eN (sbE m n),eN (sbE p n)] (nA (sX (ang (sbE m n) (sbE p n)))) /\
  FnC prog 85 [adv ts,eN (sbE m n),eN (sbE m n)] (nA (sX (am3 (sbE m n) (sbE m n)))) /\ FnC prog 84 [adv ts,nA (sX (am3 (sbE m n) (sbE m n))),nA (sX w)] (nA (sX (am3 (sbE m n) (sbE m n) * w))) /\
  FnC prog 84 [adv ts,nA (sX (ang (sbE m n) (sbE p n))),nA (sX (ang (sbE m n) (sbE p n)))] (nA (sX (ang (sbE m n) (sbE p n) * ang (sbE m n) (sbE p n)))) /\
  FnC prog 83 [adv ts,nA (sX (am3 (sbE m n) (sbE m n) * w)),nA (sX (ang (sbE m n) (sbE p n) * ang (sbE m n) (sbE p n)))] (nA (sX (am3 (sbE m n) (sbE m n) * w - ang (sbE m n) (sbE p n) * ang (sbE m n) (sbE p n)))) := by
 haveI := c; haveI := y1; haveI := y2; haveI := y3; haveI := y4; haveI := y5; haveI := y6; haveI := y7
 have s2 := ap0 (ts := ts) (u := 4000) (k := 300000) (a := sX p.1) (b := sX p.2) (a2 := sX n.1) (b2 := sX n.2)
 have s3 := aty (ts := ts) (u := 4000) (k := 300000) (a := sX (m.1 - n.1)) (b := sX (m.2 - n.2)) (a2 := sX (p.1 - n.1)) (b2 := sX (p.2 - n.2))
 have s4 := a04 (ts := ts) (u := 4000) (k := 300000) (a := sX (m.1 - n.1)) (b := sX (m.2 - n.2)) (a2 := sX (m.1 - n.1)) (b2 := sX (m.2 - n.2))
 have m1 := ail (ts := ts) (u := 4000) (k := 300000) (a := sX (dotE (m.1 - n.1) (m.2 - n.2) (m.1 - n.1) (m.2 - n.2))) (b := sX w)
 have m2 := ail (ts := ts) (u := 4000) (k := 300000) (a := sX (crsE (m.1 - n.1) (m.2 - n.2) (p.1 - n.1) (p.2 - n.2))) (b := sX (crsE (m.1 - n.1) (m.2 - n.2) (p.1 - n.1) (p.2 - n.2)))
 have m3 := aob (ts := ts) (u := 4000) (k := 300000) (a := sX (dotE (m.1 - n.1) (m.2 - n.2) (m.1 - n.1) (m.2 - n.2) * w)) (b := sX (crsE (m.1 - n.1) (m.2 - n.2) (p.1 - n.1) (p.2 - n.2) * crsE (m.1 - n.1) (m.2 - n.2) (p.1 - n.1) (p.2 - n.2)))
 exact ⟨s2,s3,s4,m1,m2,m3⟩
theorem bh4 {ts : List (List Rat)} (c : Ct ts 4000 300000) {n d g : Et ts} (y1 : Zu 4000 300000 n 3 0) (y2 : Zu 4000 300000 d 320 327) (y3 : Zu 4000 300000 g 3 0) :
  FnC prog 84 [adv ts,nA (sX n),nA (sX d)] (nA (sX (n * d))) /\ FnC prog 84 [adv ts,nA (sX g),nA (sX g)] (nA (sX (g * g))) /\ FnC prog 83 [adv ts,nA (sX (n * d)),nA (sX (g * g))] (nA (sX (n * d - g * g))) := by
 haveI := c; haveI := y1; haveI := y2; haveI := y3
 have m1 := ail (ts := ts) (u := 4000) (k := 300000) (a := sX n) (b := sX d)
 have m2 := ail (ts := ts) (u := 4000) (k := 300000) (a := sX g) (b := sX g)
 have m3 := aob (ts := ts) (u := 4000) (k := 300000) (a := sX (n * d)) (b := sX (g * g))
 exact ⟨m1,m2,m3⟩
theorem a1z {l : Li} {a : As} (D : DyR l a) {i k z0 z1 z2 : Int} {j0 j1 j2 : Jt} (P : RrrP l a ⟨1, [i, k], [z0, z1, z2], 0⟩ i k z0 z1 z2 j0 j1 j2) :
  FnC prog 18 [agh a.rs,.agg (v1C l a i k j0 j1 j2)] (nA (sX (aw8 l a ⟨1,[i,k],[z0,z1,z2],0⟩))) := by
 have q0 := acs D.hl D.li P.h0 (aft P.p0)
 have q1 := acs D.hl D.li P.h1 (aft P.p1)
 have q2 := acs D.hl D.li P.h2 P.t1
 have q3 := acs D.hl D.li P.h2 P.t2
 obtain ⟨y1,y2⟩ := acv D.hl D.li D.al D.hc P.h0 P.p0
 obtain ⟨y3,y4⟩ := acv D.hl D.li D.al D.hc P.h1 P.p1
 haveI c := D.al.ct D.hc
 haveI := y1; haveI := y2; haveI := y3; haveI := y4
 haveI := aqs c q2 q0
 haveI := aqs c q3 q1
 have h := bkq (ts := llq a.rs) (a := sX (ab8 l a j0 i).1) (b := sX (ab8 l a j0 i).2) (c := sX (d2E (qv (adg l j2 i)) (qv (adg l j0 i)) : Et (llq a.rs))) (a2 := sX (ab8 l a j1 k).1) (b2 := sX (ab8 l a j1 k).2) (c2 := sX (d2E (qv (adg l j2 k)) (qv (adg l j1 k)) : Et (llq a.rs)))
 rw [<- (ab0 D.al.tr D.hc).2] at h
 rw [a8l P]
 refine gF0 func18 ?_
 refine gC (fun ht8 => ?_) (fun ht8 => ?_) (st2 := (4,0))
 ·refine gc h ?_
  refine gE1 ?_
  rfl
 ·cases ht8
theorem a3u {l : Li} {a : As} (D : DyR l a) {i z0 z1 : Int} {j0 j : Jt} (P : SlP l a ⟨2, [i], [z0, z1], 0⟩ 2 i z0 z1 j0 j) (ha : j.a = i) (hb : Pd a j.b) :
  FnC prog 18 [agh a.rs,.agg (v2C l a i j0 j)] (nA (sX (aw8 l a ⟨2,[i],[z0,z1],0⟩))) := by
 have q0 := acs D.hl D.li P.h0 (aft P.p0)
 obtain ⟨i1,i2,i3,i4,i5⟩ := aem D.li P.h1
 have q2 : Sm 1000 (mkQ l i j.point):=by rw [<- ha]; exact agi D.hl D.li i1 i3
 obtain ⟨y1,y2⟩ := acv D.hl D.li D.al D.hc P.h0 P.p0
 obtain ⟨y3,y4⟩ := adb D.hl D.li D.al D.hc i2 (i5 P.hk) hb
 obtain ⟨y7,y8⟩ := adb D.hl D.li D.al D.hc i2 i4 hb
 haveI c := D.al.ct D.hc
 haveI := y1; haveI := y2; haveI := y3; haveI := y4; haveI := y7; haveI := y8
 haveI := aqs c q2 q0
 rw [a5h P]
 obtain ⟨s2,s3,s4,m1,m2,m3⟩ := bkc c y1 y2 y3 y4 y7 y8 (aqs c q2 q0)
 rw [<- (ab0 D.al.tr D.hc).2] at s2 s3 s4 m1 m2 m3
 refine gF0 func18 ?_
 refine gC (fun ht8 => ?_) (fun ht8 => ?_) (st1 := (3,0))
 ·cases ht8
 ·refine gC (fun ht22 => ?_) (fun ht22 => ?_) (st2 := (7, 0))
  ·refine gc s2 ?_
   refine gc s3 ?_
   refine gD ?_
   refine gc s4 ?_
   refine gc m1 ?_
   refine gc m2 ?_
   refine gc m3 ?_
   refine gD ?_
   refine gE1 ?_
   rfl
  ·cases ht22
theorem a3q {l : Li} {a : As} (D : DyR l a) {i z0 z1 : Int} {j0 j : Jt} (P : SlP l a ⟨3, [i], [z0, z1], 0⟩ 3 i z0 z1 j0 j) (hj : j.b = i) (hb : Pd a j.a) :
  FnC prog 18 [agh a.rs,.agg (v3C l a i j0 j)] (nA (sX (aw8 l a ⟨3,[i],[z0,z1],0⟩))) := by
 have q0 := acs D.hl D.li P.h0 (aft P.p0)
 obtain ⟨i1,i2,i3,i4,i5⟩ := aem D.li P.h1
 have q1 : Sm 1000 (mkQ l i j.on):=by rw [<- hj]; exact agi D.hl D.li i2 i4
 have q2 : Sm 1000 (mkQ l i j.to):=by rw [<- hj]; exact agi D.hl D.li i2 (i5 P.hk)
 obtain ⟨y1,y2⟩ := acv D.hl D.li D.al D.hc P.h0 P.p0
 obtain ⟨y3,y4⟩ := adb D.hl D.li D.al D.hc i1 i3 hb
 haveI c := D.al.ct D.hc
 haveI zd : Zu 4000 300000 (d2E (plE l a j.a j.point) (ab8 l a j0 i)) 320 327 := a6d c y3 y4 y1 y2
 have hv := q2.sub q1
 haveI : Qz 4000 (a9n (awi (mkQ l i j.to) (mkQ l i j.on)) (awi (mkQ l i j.to) (mkQ l i j.on))) 3 := asu (hv.dot hv) (by omega)
 haveI : Qz 4000 (ap2 (awi (mkQ l i j.to) (mkQ l i j.on)) (awi (mkQ l i j.on) (adg l j0 i))) 3 := asu (hv.cross (q1.sub q0)) (by omega)
 haveI zn : Zu 4000 300000 (am3 (sbE (qv (mkQ l i j.to)) (qv (mkQ l i j.on))) (sbE (qv (mkQ l i j.to)) (qv (mkQ l i j.on))) : Et (llq a.rs)) 3 0:=by rw [alj,a1h]; exact inferInstance
 haveI zh : Zu 4000 300000 (ang (sbE (qv (mkQ l i j.to)) (qv (mkQ l i j.on))) (sbE (qv (mkQ l i j.on)) (qv (adg l j0 i))) : Et (llq a.rs)) 3 0:=by rw [alj,alj,a5f]; exact inferInstance
 rw [bdv P]
 obtain ⟨m1,m2,m3⟩ := bh4 c zn zd zh
 rw [<- (ab0 D.al.tr D.hc).2] at m1 m2 m3
 refine gF0 func18 ?_
 refine gC (fun ht8 => ?_) (fun ht8 => ?_) (st1 := (3,0))
 ·cases ht8
 ·refine gC (fun ht22 => ?_) (fun ht22 => ?_) (st1 := (5, 0))
  ·cases ht22
  ·refine gC (fun ht50 => ?_) (fun ht50 => ?_) (st2 := (77777, 0))
   ·refine gc m1 ?_
    refine gc m2 ?_
    refine gc m3 ?_
    refine gD ?_
    refine gE1 ?_
    rfl
   ·cases ht50
theorem a13 (l : Li) (a : As) (i : Int) (j0 : Jt) : FnC prog 18 [agh a.rs, .agg (v0C l a i j0)] (nA (sh 0 ((1 : Int) : Rat))) := by
 refine gF0 func18 ?_
 refine gC (fun ht8 => ?_) (fun ht8 => ?_) (st1 := (3,0))
 ·cases ht8
 ·refine gC (fun ht22 => ?_) (fun ht22 => ?_) (st1 := (5, 0))
  ·cases ht22
  ·refine gC (fun ht50 => ?_) (fun ht50 => ?_) (st1 := (8, 0))
   ·cases ht50
   ·refine gc (aon 1 (by omega)) ?_
    refine gE1 ?_
    rfl
theorem DyOk.drv {l : Li} {k : Int} {a : As} {own : Bool} {n : Nat} {g : Gr} (h : DyOk l k a own n g) (hk : g.kind = 0) : ∃ i z0 d j0, g = ⟨0, [i], [z0], d⟩ /\ l.joints[z0.toNat]? = some j0 /\ PinP l a j0 i := by
 have hd := h.dy
 cases hd with
 | rrr _ _ _ _ _ _ _ => exact absurd hk (by simp)
 | pr _ _ _ => exact absurd hk (by simp)
 | rp _ _ _ => exact absurd hk (by simp)
 | @drv b z d j x t d0 hd hb => exact ⟨b,z,d,j,rfl,t.hj,h.pin rfl t (by simp) (by simp)⟩
theorem aq6 {l : Li} {a : As} (D : DyR l a) {k : Int} {own : Bool} {n : Nat} {g : Gr} (ok : DyOk l k a own n g) :
  ∃ V,(AV.agg V).nm = [] /\ FnC prog 19 [l.av,i64 n,a.av] (.agg V) /\ FnC prog 18 [agh a.rs,.agg V] (nA (ayl l a g)) := by
 have hG := ok.hg
 have hgo := ok.ok
 unfold ayl
 by_cases h0 : g.kind = 0
 ·obtain ⟨i, z0, d, j0, rfl, hj, hp⟩ := ok.drv h0
  rw [if_pos rfl]
  exact ⟨_,rfl,arv D hG hgo hj hp,a13 l a i j0⟩
 ·rw [if_neg h0]
  by_cases h1 : g.kind = 1
  ·obtain ⟨i, k2, z0, z1, z2, j0, j1, j2, P⟩ := ok.rrr h1
   obtain rfl := P.eq
   exact ⟨_,rfl,arz D hG hgo P ok.ne,a1z D P⟩
  ·by_cases h2 : g.kind = 2
   ·obtain ⟨i, z0, z1, j0, j, P, ha, hb⟩ := ok.pr h2
    obtain rfl := P.eq
    exact ⟨_,rfl,ar1 D hG hgo P ha hb,a3u D P ha hb⟩
   ·obtain ⟨i, z0, z1, j0, j, P, _, hj, hb⟩ := ok.rp h0 h1 h2
    obtain rfl := P.eq
    exact ⟨_,rfl,aru D hG hgo P hj hb,a3q D P hj hb⟩
theorem aig {l : Li} {a : As} (D : DyR l a) {b : Int} {p : Pl} (hp : a.bs[b.toNat]? = some p) (hn : abf a.rs p.l = 0) {q : Rat × Rat} (hq : Sm 1000 q) :
  FnC prog 90 [agh a.rs,p.av,qN q] (eN (aoE a b q)) := by
 obtain ⟨tw,hta⟩ := ab0 D.al.tr D.hc
 have h5 : a.rs.length <= 5:=by have := tw.five; rwa [ai4] at this
 have h9 := aoe hn (D.al.nr p (mem_of_getElem? hp)) h5
 have kb := kb4 tw.three
 have hlm := an3 (llq a.rs).length
 obtain ⟨e1,ok⟩ := h9
 rw [<- ai4 a.rs] at ok
 have nx := Nm.ofQ ok.c.five (Cb.one (hq.x.mono (f := 4000) (by omega)))
 have ny := Nm.ofQ ok.c.five (Cb.one (hq.y.mono (f := 4000) (by omega)))
 have nX := aln tw ok.c ok.s nx ny
 have nY := ak4 tw ok.c ok.s nx ny
 obtain ⟨K,hK⟩ : ∃ K,kB 40000 (llq a.rs).length = K := ⟨_,rfl⟩
 rw [hK] at nX nY kb
 have hadd := aun (e := 2 * (4000 + 4000 + K) + 1) tw nX nY (ok.x.mono (by omega)) (ok.y.mono (by omega)) (by omega)
 have htn := art tw ok.c ok.s nx ny (by rw [hK]; omega)
 rw [awn,awm] at hadd
 rw [<- hta] at hadd htn
 unfold aoE
 rw [aag hp,e1]
 refine gF0 func90 ?_
 refine gc htn ?_
 refine gc hadd ?_
 refine gD ?_
 refine gE1 ?_
 rfl
end Go.Lw
namespace Go.Lw
open Go.Proofs
theorem bef {ts : List (List Rat)} (c : Ct ts 4000 300000) {p q m n : Et ts × Et ts} (y1 : Zu 4000 300000 p.1 40 40) (y2 : Zu 4000 300000 p.2 40 40) (y3 : Zu 4000 300000 q.1 40 40) (y4 : Zu 4000 300000 q.2 40 40)
  (y5 : Zu 4000 300000 m.1 40 40) (y6 : Zu 4000 300000 m.2 40 40) (y7 : Zu 4000 300000 n.1 40 40) (y8 : Zu 4000 300000 n.2 40 40) :
  FnC prog 82 [adv ts,eN p,eN q] (eN (sbE p q)) /\ FnC prog 82 [adv ts,eN m,eN n] (eN (sbE m n)) /\
  FnC prog 81 [adv ts,eN (sbE p q),eN (sbE m n)] (nA (sX (ang (sbE p q) (sbE m n)))) /\ FnC prog 85 [adv ts,eN (sbE p q),eN (sbE m n)] (nA (sX (am3 (sbE p q) (sbE m n)))) := by
 haveI := c; haveI := y1; haveI := y2; haveI := y3; haveI := y4; haveI := y5; haveI := y6; haveI := y7; haveI := y8
 have s1 := ap0 (ts := ts) (u := 4000) (k := 300000) (a := sX p.1) (b := sX p.2) (a2 := sX q.1) (b2 := sX q.2)
 have s2 := ap0 (ts := ts) (u := 4000) (k := 300000) (a := sX m.1) (b := sX m.2) (a2 := sX n.1) (b2 := sX n.2)
 have s3 := aty (ts := ts) (u := 4000) (k := 300000) (a := sX (p.1 - q.1)) (b := sX (p.2 - q.2)) (a2 := sX (m.1 - n.1)) (b2 := sX (m.2 - n.2))
 have s4 := a04 (ts := ts) (u := 4000) (k := 300000) (a := sX (p.1 - q.1)) (b := sX (p.2 - q.2)) (a2 := sX (m.1 - n.1)) (b2 := sX (m.2 - n.2))
 exact ⟨s1,s2,s3,s4⟩
theorem a3v {l : Li} {a : As} (D : DyR l a) {kk : Int} {n : Nat} {i k z0 z1 z2 : Int} {j0 j1 j2 : Jt} (ok : DyOk l kk a true n ⟨1, [i, k], [z0, z1, z2], 0⟩) (P : RrrP l a ⟨1, [i, k], [z0, z1, z2], 0⟩ i k z0 z1 z2 j0 j1 j2) :
  FnC prog 20 [l.av,i64 n,a.av] (nA (sX (ar5 l a ⟨1,[i,k],[z0,z1,z2],0⟩))) := by
 have hbl := D.al.bl
 have hi0 := (ok.ok.b i (by simp)).1
 obtain ⟨p,hp,hn⟩ := ok.own (b := i) (by simp)
 have hil := (List.getElem?_eq_some_iff.1 hp).1
 have q2 := acs D.hl D.li P.h2 P.t1
 obtain ⟨y1,y2⟩ := acv D.hl D.li D.al D.hc P.h0 P.p0
 obtain ⟨y3,y4⟩ := acv D.hl D.li D.al D.hc P.h1 P.p1
 obtain ⟨y5,y6⟩ := aq4 D.al D.hc (ok.own (b := i) (by simp)) q2
 have c := D.al.ct D.hc
 obtain ⟨s1,s2,s3,_⟩ := bef c y3 y4 y1 y2 y5 y6 y1 y2
 rw [<- (ab0 D.al.tr D.hc).2] at s1 s2 s3
 rw [bc0 P]
 refine gF0 func20 ?_
 refine gc (arz D ok.hg ok.ok P ok.ne) ?_
 refine gD ?_
 refine gi (adt (n := i.toNat) (by omega) hp) ?_
 refine gC (fun ht24 => ?_) (fun ht24 => ?_) (st2 := (6,0))
 ·refine gc s1 ?_
  refine gc (aig D hp hn q2) ?_
  refine gc s2 ?_
  refine gc s3 ?_
  refine gD ?_
  refine gE1 ?_
  rfl
 ·cases ht24
theorem a15 {l : Li} {a : As} (D : DyR l a) {kk : Int} {n : Nat} {i z0 z1 : Int} {j0 j : Jt} (ok : DyOk l kk a true n ⟨2, [i], [z0, z1], 0⟩) (P : SlP l a ⟨2, [i], [z0, z1], 0⟩ 2 i z0 z1 j0 j) (ha : j.a = i) (hb : Pd a j.b) :
  FnC prog 20 [l.av,i64 n,a.av] (nA (sX (ar5 l a ⟨2,[i],[z0,z1],0⟩))) := by
 have hbl := D.al.bl
 have hi0 := (ok.ok.b i (by simp)).1
 obtain ⟨p,hp,hn⟩ := ok.own (b := i) (by simp)
 have hil := (List.getElem?_eq_some_iff.1 hp).1
 obtain ⟨i1,i2,i3,i4,i5⟩ := aem D.li P.h1
 have q2 : Sm 1000 (mkQ l i j.point):=by rw [<- ha]; exact agi D.hl D.li i1 i3
 obtain ⟨y1,y2⟩ := acv D.hl D.li D.al D.hc P.h0 P.p0
 obtain ⟨y3,y4⟩ := adb D.hl D.li D.al D.hc i2 (i5 P.hk) hb
 obtain ⟨y7,y8⟩ := adb D.hl D.li D.al D.hc i2 i4 hb
 obtain ⟨y5,y6⟩ := aq4 D.al D.hc (ok.own (b := i) (by simp)) q2
 have c := D.al.ct D.hc
 obtain ⟨s1,s2,_,s4⟩ := bef c y3 y4 y7 y8 y5 y6 y1 y2
 rw [<- (ab0 D.al.tr D.hc).2] at s1 s2 s4
 rw [bcy P]
 refine gF0 func20 ?_
 refine gc (ar1 D ok.hg ok.ok P ha hb) ?_
 refine gD ?_
 refine gi (adt (n := i.toNat) (by omega) hp) ?_
 refine gC (fun ht24 => ?_) (fun ht24 => ?_) (st1 := (5,0))
 ·cases ht24
 ·refine gC (fun ht43 => ?_) (fun ht43 => ?_) (st2 := (8, 0))
  ·refine gc (aig D hp hn q2) ?_
   refine gc s2 ?_
   refine gc s4 ?_
   refine gD ?_
   refine gE1 ?_
   rfl
  ·cases ht43
theorem a2z {l : Li} {a : As} (D : DyR l a) {kk : Int} {n : Nat} {i z0 z1 : Int} {j0 j : Jt} (ok : DyOk l kk a true n ⟨3, [i], [z0, z1], 0⟩) (P : SlP l a ⟨3, [i], [z0, z1], 0⟩ 3 i z0 z1 j0 j) (hj : j.b = i) (hb : Pd a j.a) :
  FnC prog 20 [l.av,i64 n,a.av] (nA (sX (ar5 l a ⟨3,[i],[z0,z1],0⟩))) := by
 have hbl := D.al.bl
 have hi0 := (ok.ok.b i (by simp)).1
 obtain ⟨p,hp,hn⟩ := ok.own (b := i) (by simp)
 have hil := (List.getElem?_eq_some_iff.1 hp).1
 obtain ⟨i1,i2,i3,i4,i5⟩ := aem D.li P.h1
 have q1 : Sm 1000 (mkQ l i j.on):=by rw [<- hj]; exact agi D.hl D.li i2 i4
 have q2 : Sm 1000 (mkQ l i j.to):=by rw [<- hj]; exact agi D.hl D.li i2 (i5 P.hk)
 obtain ⟨y1,y2⟩ := acv D.hl D.li D.al D.hc P.h0 P.p0
 obtain ⟨y3,y4⟩ := adb D.hl D.li D.al D.hc i1 i3 hb
 obtain ⟨y5,y6⟩ := aq4 D.al D.hc (ok.own (b := i) (by simp)) q1
 obtain ⟨y7,y8⟩ := aq4 D.al D.hc (ok.own (b := i) (by simp)) q2
 have c := D.al.ct D.hc
 obtain ⟨s1,s2,_,s4⟩ := bef c y7 y8 y5 y6 y3 y4 y1 y2
 rw [<- (ab0 D.al.tr D.hc).2] at s1 s2 s4
 rw [bd3 P hj]
 refine gF0 func20 ?_
 refine gc (aru D ok.hg ok.ok P hj hb) ?_
 refine gD ?_
 refine gi (adt (n := i.toNat) (by omega) hp) ?_
 refine gC (fun ht24 => ?_) (fun ht24 => ?_) (st1 := (5,0))
 ·cases ht24
 ·refine gC (fun ht43 => ?_) (fun ht43 => ?_) (st1 := (7, 0))
  ·cases ht43
  ·refine gC (fun ht58 => ?_) (fun ht58 => ?_) (st2 := (77777, 0))
   ·refine gc (aig D hp hn q2) ?_
    refine gc (aig D hp hn q1) ?_
    refine gc s1 ?_
    refine gc s2 ?_
    refine gc s4 ?_
    refine gD ?_
    refine gE1 ?_
    rfl
   ·cases ht58
theorem a17 {l : Li} {a : As} (D : DyR l a) {kk : Int} {n : Nat} {i z0 d : Int} {j0 : Jt} (ok : DyOk l kk a true n ⟨0, [i], [z0], d⟩) (h0 : l.joints[z0.toNat]? = some j0) (p0 : PinP l a j0 i) :
  FnC prog 20 [l.av,i64 n,a.av] (nA (sh 0 ((1 : Int) : Rat))) := by
 have hbl := D.al.bl
 have hi0 := (ok.ok.b i (by simp)).1
 obtain ⟨p,hp,hn⟩ := ok.own (b := i) (by simp)
 have hil := (List.getElem?_eq_some_iff.1 hp).1
 refine gF0 func20 ?_
 refine gc (arv D ok.hg ok.ok h0 p0) ?_
 refine gD ?_
 refine gi (adt (n := i.toNat) (by omega) hp) ?_
 refine gC (fun ht24 => ?_) (fun ht24 => ?_) (st1 := (5,0))
 ·cases ht24
 ·refine gC (fun ht43 => ?_) (fun ht43 => ?_) (st1 := (7, 0))
  ·cases ht43
  ·refine gC (fun ht58 => ?_) (fun ht58 => ?_) (st1 := (9, 0))
   ·cases ht58
   ·refine gc (aon 1 (by omega)) ?_
    refine gE1 ?_
    rfl
theorem a5u {l : Li} {a : As} (D : DyR l a) {k : Int} {n : Nat} {g : Gr} (ok : DyOk l k a true n g) : FnC prog 20 [l.av, i64 n, a.av] (nA (aw9 l a g)) := by
 unfold aw9
 by_cases h0 : g.kind = 0
 ·obtain ⟨i, z0, d, j0, rfl, hj, hp⟩ := ok.drv h0
  rw [if_pos rfl]
  exact a17 D ok hj hp
 ·rw [if_neg h0]
  by_cases h1 : g.kind = 1
  ·obtain ⟨i, k2, z0, z1, z2, j0, j1, j2, P⟩ := ok.rrr h1
   obtain rfl := P.eq
   exact a3v D ok P
  ·by_cases h2 : g.kind = 2
   ·obtain ⟨i, z0, z1, j0, j, P, ha, hb⟩ := ok.pr h2
    obtain rfl := P.eq
    exact a15 D ok P ha hb
   ·obtain ⟨i, z0, z1, j0, j, P, _, hj, hb⟩ := ok.rp h0 h1 h2
    obtain rfl := P.eq
    exact a2z D ok P hj hb
theorem bnp {l : Li} {k : Int} {a : As} {own : Bool} (hli : liE l = 0) (hs : ac8 l = 0) (hk : ¬ (k < 0 \/ ((ab7 l).length : Int) <= k)) (hb : a.bs.length = l.bodies.length) (hc : aey a.rs = 0) {g : Gr} (hg : gAt l k = g) (hgo : GrOk l g) :
  aub l k a own = ac2 ((List.range l.bodies.length).map (ndM l g a own)) := by
 rw [boc hs hk hb hc,hg,bbw hli hgo]
theorem aqq {n i : Nat} (h : i < n) : (List.range n)[i]? = some i := List.getElem?_range h
theorem bm7 {l : Li} {g : Gr} {a : As} {own : Bool} {i : Nat} {p : Pl} (h : decide ((i : Int) ∈ ndL l g own) = true) (hp : a.bs[i]? = some p) : ndM l g a own i = abf a.rs p.l := by
 unfold ndM ndE
 rw [if_pos (of_decide_eq_true h),if_neg (by omega),toNat_natCast,aag hp]
theorem bm6 {l : Li} {g : Gr} {a : As} {own : Bool} {i : Nat} (h : decide ((i : Int) ∈ ndL l g own) = false) : ndM l g a own i = 0 := if_neg (of_decide_eq_false h)
theorem av7 (l : Li) (hl : l.ok) (hli : liE l = 0) (k : Int) (a : As) (al : AL a) (own : Bool) : FnC prog 15 [l.av, i64 k, a.av, bl own] (i64 (aub l k a own)) := by
 have hbl := al.bl
 have hlb := (abw hli).2.2.2.1
 refine gF0 func15 ?_
 refine gc (agv l hl hli) ?_
 refine gC (fun ht28 => ?_) (fun ht28 => ?_)
 ·have h1 := aif ht28
  refine gE1 ?_
  rw [bol h1]
 ·have h1 := aie ht28
  refine glG ?_
  refine gC (fun ht32 => ?_) (fun ht32 => ?_)
  ·have h2 := bim ht32
   refine gE1 ?_
   rw [boe h1 h2]; rfl
  ·have h2 := bjg ht32
   refine gl ?_
   refine gl ?_
   refine gC (fun ht41 => ?_) (fun ht41 => ?_)
   ·have h3 := bd4 ht41
    refine gE1 ?_
    rw [boa h1 h2 h3]; rfl
   ·have h3 := bdm ht41
    refine gc (Con.subA (.cons (.refl _) (.cons (Sub.nil 1 none 0) .nil)) (av2 a.rs 40000 0 al.tr [] (fun x hx => by cases hx) (zero_le _) (by show 0 <= 1000; omega))) ?_
    refine gC (fun ht53 => ?_) (fun ht53 => ?_)
    ·have h4 := aif ht53
     rw [bf8] at h4
     refine gE1 ?_
     rw [boi h1 h2 h3 h4,bf8]
    ·have h4 := aie ht53
     rw [bf8] at h4
     obtain ⟨i,rfl,hi⟩ := bde h2
     obtain ⟨g,hg⟩ := ab9 hi
     obtain ⟨hgd,hgo⟩ := apb hli (mem_of_getElem? hg)
     have hgA : gAt l (i : Nat) = g := aag hg
     have hE := bnp (own := own) hli h1 h2 h3 h4 hgA hgo
     have hgb := hgo.lb
     have hgj := hgo.lj
     have hal := ahc l g
     refine gl ?_
     refine gs (af5 (.tmp rfl) T162 rfl T4 rfl rfl (by omega) (by dsimp only; omega) rfl) ?_ (12,0)
     refine gW (Wk.of (sl := [(1,some (i64 i)),(3,some (bl own)),(4,some (.ptr 4 0)),(6,some (.ptr 6 0)),(9,some (.lst 4 ((ab7 l).map Gr.av))),(12,some (.ms 58 1 0 l.bodies.length))]) (hp := [(4,some (.box l.av.cells)),(6,some (.box a.av.cells)),(58,some (.row 1 ((mkN l.bodies.length []).map bl)))]) (.k (.k (.k (.k (.k (.cons rfl (Sub.of (by rw [toNat_natCast])) .nil)))))) (.cons rfl (.refl _) (.cons rfl (.refl _) (.cons rfl (BlkSub.of (by rw [bgz,map_replicate]; simp only [toNat_natCast]; rfl)) .nil)))) ?_ (12,0)
     refine gW (Wk.rekey (k := 58) (d := 900) rfl rfl) ?_
     refine gi (aaf hg) ?_
     refine gc (asb l hl g hgo) ?_
     refine gD ?_
     refine gl ?_
     refine gL1 [1,3,6,9,68,69] [6] (fun (j : Nat) => [(12,some (.ms 900 1 0 l.bodies.length)),(70,some (i64 j))]) (fun j => [(900,some (.row 1 ((mkN l.bodies.length ((aiu l g).take j)).map bl)))]) (fun j => j <= (aiu l g).length) (fun j => (aiu l g).length - j) 0 (zero_le _) ?_
     rintro j hj K1 hK1
     refine gC (fun ht71 => ?_) (fun ht71 => ?_) (st2 := (19,0))
     ·have hjn := abo ht71
      obtain ⟨b,hb⟩ := ab9 hjn
      have hbr := a5z hli hgo b (mem_of_getElem? hb)
      refine gi (aaf hb) ?_
      refine gC (fun ht75 => ?_) (fun ht75 => ?_)
      ·have hb0 : 0 <= b := by have := of_decide_eq_true (p := b >= 0) ht75; omega
       have hst : mkN l.bodies.length ((aiu l g).take (j + 1)) = (mkN l.bodies.length ((aiu l g).take j)).set b.toNat true:=by rw [aak hb]; exact bco hb0 hbr
       have hv := amg (n := l.bodies.length) (i := b.toNat) (by omega) ((aiu l g).take j)
       refine gs (af3 (.tmp rfl) (.tmp rfl) T162 rfl T4 rfl (by omega) (by omega) rfl) ?_
       refine gs (aba (.tmp rfl) rfl (by rw [Nat.zero_add,getElem?_map,hv]; rfl) rfl (.const _) rfl rfl T4 rfl rfl) ?_
       refine ga aau ?_
       exact gK1 hK1 (j + 1) hjn (hw := Wk.of abu (.cons rfl (BlkSub.of (by rw [hst]; first | done | (rw [map_set,Nat.zero_add]; rfl))) (.cons rfl (.refl _) .nil)))
      ·have hb0 : b < 0 := by have := of_decide_eq_false (p := b >= 0) ht75; omega
       have hst : mkN l.bodies.length ((aiu l g).take (j + 1)) = mkN l.bodies.length ((aiu l g).take j):=by rw [aak hb]; exact bfq hb0
       refine ga aau ?_
       exact gK1 hK1 (j + 1) hjn (hw := Wk.of abu (.cons rfl (BlkSub.of (by rw [hst]; first | done | (rw [map_set,Nat.zero_add]; rfl))) (.cons rfl (.refl _) .nil)))
     ·have hjn := aan hj ht71
      subst hjn
      refine gW (Wk.of (sl := [(1,some (i64 i)),(3,some (bl own)),(6,some (.ptr 6 0)),(9,some (.lst 4 ((ab7 l).map Gr.av))),(12,some (.ms 900 1 0 l.bodies.length))]) (hp := [(6,some (.box a.av.cells)),(900,some (.row 1 ((mkN l.bodies.length (aiu l g ++ (if own = true then g.bodies.take 0 else []))).map bl)))]) abu (.cons rfl (.refl _) (.cons rfl (BlkSub.of (by rw [take_length]; cases own <;> simp)) .nil))) ?_
      refine gi (aaf hg) ?_
      refine gl ?_
      refine gL1 [3,6,84,85] [6] (fun (q : Nat) => [(12,some (.ms 900 1 0 l.bodies.length)),(86,some (i64 q))]) (fun q => [(900,some (.row 1 ((mkN l.bodies.length (aiu l g ++ (if own = true then g.bodies.take q else []))).map bl)))]) (fun q => q <= g.bodies.length) (fun q => g.bodies.length - q) 0 (zero_le _) ?_
      rintro q hq K2 hK2
      refine gC (fun ht87 => ?_) (fun ht87 => ?_) (st2 := (24,0))
      ·have hqn := abo ht87
       obtain ⟨b,hb⟩ := ab9 hqn
       obtain ⟨hb0,hbr⟩ := hgo.b b (mem_of_getElem? hb)
       have hst := bfo (n := l.bodies.length) (xs := aiu l g) (own := own) hb hb0 hbr
       have hv := amg (n := l.bodies.length) (i := b.toNat) (by omega) (aiu l g ++ (if own = true then g.bodies.take q else []))
       rw [show ((b.toNat : Nat) : Int) = b by omega] at hv
       refine gi (aaf hb) ?_
       refine gs (af3 (.tmp rfl) (.tmp rfl) T162 rfl T4 rfl (by omega) (by omega) rfl) ?_
       refine gs (aar (.tmp rfl) rfl (by rw [Nat.zero_add,getElem?_map,hv]; rfl) T4 rfl rfl rfl) ?_
       refine gs (af3 (.tmp rfl) (.tmp rfl) T162 rfl T4 rfl (by omega) (by omega) rfl) ?_
       refine gs (aba (.tmp rfl) rfl (by rw [Nat.zero_add,getElem?_map,hv]; rfl) rfl (.tmp rfl) rfl rfl T4 rfl rfl) ?_
       refine ga aau ?_
       exact gK1 hK2 (q + 1) hqn (hw := Wk.of abu (.cons rfl (BlkSub.of (by rw [hst,map_set,Nat.zero_add]; rfl)) (.cons rfl (.refl _) .nil)))
      ·have hqn := aan hq ht87
       subst hqn
       refine gW ((Wk.freeze (k := 900) rfl).trans <| Wk.of (sl := [(6,some (.ptr 6 0)),(12,some (.lst 1 ((mkN l.bodies.length (ndL l g own)).map bl)))]) (hp := [(6,some (.box a.av.cells))]) (.k (.cons rfl (Sub.of (by rw [ab3 (by rw [length_map,anb]),take_length]; rfl)) .nil)) (.cons rfl (.refl _) .nil)) ?_
       refine gl ?_
       have hml : (mkN l.bodies.length (ndL l g own)).length = l.bodies.length := anb _ _
       refine gL1 [6,101,102] [6] (fun (m : Nat) => [(103,some (i64 m))]) (fun _ => []) (fun m => m <= (mkN l.bodies.length (ndL l g own)).length /\ ∀ c ∈ (List.range l.bodies.length).take m,ndM l g a own c = 0) (fun m => (mkN l.bodies.length (ndL l g own)).length - m) 0 ⟨zero_le _,fun c hc => by simp at hc⟩ ?_
       rintro m ⟨hm,hmz⟩ K3 hK3
       refine gC (fun ht104 => ?_) (fun ht104 => ?_)
       ·have hmn := abo ht104
        have hmn2 : m < l.bodies.length:=by omega
        have hv := amg hmn2 (ndL l g own)
        obtain ⟨p,hp⟩ := ab9 (l := a.bs) (i := m) (by omega)
        refine gi (aaf hv) ?_
        refine gi (aaf hp) ?_
        refine gC (fun ht113 => ?_) (fun ht113 => ?_)
        ·have hM := bm7 ht113 hp
         refine gc (av2 a.rs 40000 4000 al.tr p.l (al.nr p (mem_of_getElem? hp)) (bky _) (by show 4 <= 1000; omega)) ?_
         refine gC (fun ht127 => ?_) (fun ht127 => ?_)
         ·have h5 := aif ht127
          refine gE1 ?_
          rw [hE,a5s (aqq hmn2) hmz (by rw [hM]; exact h5),hM]
         ·have h5 := aie ht127
          have hz : ndM l g a own m = 0 := hM.trans h5
          refine ga aau ?_
          exact gK1 hK3 (m + 1) ⟨hmn,fun c hc => by rw [aak (aqq hmn2)] at hc; rcases List.mem_append.1 hc with h9 | h9; exact hmz c h9; (rw [List.mem_singleton.1 h9]; exact hz)⟩
        ·have hz : ndM l g a own m = 0 := bm6 ht113
         refine ga aau ?_
         exact gK1 hK3 (m + 1) ⟨hmn,fun c hc => by rw [aak (aqq hmn2)] at hc; rcases List.mem_append.1 hc with h9 | h9; exact hmz c h9; (rw [List.mem_singleton.1 h9]; exact hz)⟩
       ·have hmn := aan hm ht104
        refine gE1 ?_
        rw [hE,agm (fun c hc => hmz c (by rw [hmn,hml,take_of_length_le (by rw [List.length_range]; exact le_refl _)]; exact hc))]; rfl
theorem avu (a : As) (ha : a.ok) : FnC prog 11 [a.av] (bl (bhm a)) := by
 have hbl := ha.bl
 refine gF0 func11 ?_
 refine gl ?_
 refine gL1 [1,6,7] [1] (fun (i : Nat) => [(8,some (i64 i))]) (fun _ => []) (fun i => i <= a.bs.length /\ (a.bs.take i).all (fun b => aht a.rs b.l) = true) (fun i => a.bs.length - i) 0 ⟨zero_le _,rfl⟩ ?_
 rintro i ⟨hi,hj⟩ K1 hK1
 refine gC (fun ht9 => ?_) (fun ht9 => ?_)
 ·have hin := abo ht9
  obtain ⟨b,hb⟩ := ab9 hin
  have hbo := ha.bs b (mem_of_getElem? hb)
  refine gi (aaf hb) ?_
  refine gc (aqf a.rs b.l ha.rs hbo ha.rl (by show 4 <= 100; omega)) ?_
  refine gC (fun ht24 => ?_) (fun ht24 => ?_)
  ·have h1 := af0 ht24
   refine gE1 ?_
   unfold bhm; rw [air hb h1]; rfl
  ·have h1 := afu ht24
   refine ga aau ?_
   exact gK1 hK1 (i + 1) ⟨hin,alz hj hb h1⟩
 ·have hin := aan hi ht9
  refine gl ?_
  refine gcG (fun _ => (Con.subA (.cons (.refl _) (.cons (Sub.nil 1 none 0) .nil)) (aqf a.rs [] ha.rs bdx ha.rl (by show 0 <= 100; omega)))) ?_
  refine glG ?_
  refine glG ?_
  refine gE1 ?_
  exact congrArg bl (bfh (aok hin hj))
end Go.Lw
