/- RecomputeNil: for any linkage and any turns the law returns true and leaves its arguments as they were. No other condition. Part 6 of 6: the statement -/
import Derived.Test.YtjidoooidfcjgaaGreatWe
set_option linter.unusedVariables false
open List (mem_of_getElem? mem_cons length_cons length_append length_nil all_eq_true getElem?_map map_append length_take take_of_length_le length_map drop_zero take_length map_map map_replicate map_set not_mem_nil)
open Nat (le_refl lt_or_ge le_trans zero_le)
open Bool (and_eq_true)
open Go.Proofs.Tryz
namespace Go.Lw
open Go.Proofs
def bv (xs : List Bool) : List Value := xs.map .bool
theorem aea (xs : List Bool) : (bv xs).length = xs.length := length_map _
theorem aug (xs : List Bool) (n : Nat) : (bv xs).set n (.bool true) = bv (xs.set n true):=by unfold bv; rw [map_set]
theorem a6z (xs : List Bool) : ∀ v ∈ bv xs, ∀ kk z, v ≠ .int kk z := by
 intro v hv kk z
 obtain ⟨b,_,rfl⟩ := List.mem_map.1 hv
 exact fun h => by cases h
theorem a3c (xs : List Bool) : (bv xs).map AV.v = xs.map bl:=by unfold bv; rw [map_map]; rfl
theorem ay3 (n : Nat) : List.replicate n (Value.bool false) = bv (List.replicate n false):=by unfold bv; rw [map_replicate]
theorem a66 (xs : List Int) : (xs.map i64).all bag = true := by
 rw [all_eq_true]
 intro x hx
 obtain ⟨b,_,rfl⟩ := List.mem_map.1 hx
 rfl
theorem bcl (g : Gr) (b : Bool) : (AV.tup [g.av, bl b]).li = true := by
 simp only [AV.li,AV.lis,Gr.av,a66]
 rfl
def fdB (l : Li) (n : Nat) : Blk := .box (l.av.cells ++ [.ms 23 1 0 l.bodies.length,.ms 27 1 0 l.bodies.length,.ms 31 1 0 l.joints.length,.ms 900 4 0 n])
def fdH (l : Li) (known used : List Bool) (out : List Gr) : Hp :=
  [(33,some (fdB l out.length)),(23,some (.vec (bv known))),(27,some (.vec (bv (aao l)))),(31,some (.vec (bv used))),(900,some (.row 4 (out.map Gr.av)))]
theorem azo {xs : List Bool} {n : Nat} (h : xs.length = n) : AV.lst 1 ((((bv xs).drop 0).take n).map .v) = .lst 1 (xs.map bl) := by
 rw [drop_zero,take_of_length_le (by rw [aea]; omega),a3c]
theorem amn (l : Li) (hl : l.ok) (hli : liE l = 0) (known used : List Bool) (hk : known.length = l.bodies.length) (hu : used.length = l.joints.length) (hm : l.bodies.length <= ab9 /\ l.joints.length <= ab9) (out : List Gr) :
  Con prog 348 [.ptr 33 0] (fdH l known used out) (.tup [((nextG l known).getD default).av,bl (nextG l known).isSome]) (fdH l known used out) := by
 refine Con.lend (cs := l.av.cells ++ [.ms 23 1 0 l.bodies.length, .ms 27 1 0 l.bodies.length, .ms 31 1 0 l.joints.length, .ms 900 4 0 out.length])
  (cs' := fun v => fdC l known (aao l) [.lst 1 (used.map bl),.v v]) [900] 7 rfl (by decide) ?_ (by simp [Li.av,AV.cells]) ?_ (bcl _ _) (fun v => a2a l hl hli known hk _)
 ·intro v hv
  refine ⟨rfl,?_,?_⟩
  ·intro j x hx
   match j,hx with
   | 0,hx => cases hx; rfl
   | 1,hx => cases hx; rfl
   | 2,hx => cases hx; rfl
   | 3,hx => cases hx; rfl
   | 4,hx => cases hx; rfl
   | 5,hx => cases hx; rfl
   | 6,hx => cases hx; rfl
   | 7,hx => cases hx; exact hv
   | j + 8,hx => cases hx
  ·intro j x x' hx hx'
   match j,hx,hx' with
   | 0,hx,hx' => cases hx; cases hx'; exact .inr (.same rfl)
   | 1,hx,hx' => cases hx; cases hx'; exact .inr (.same rfl)
   | 2,hx,hx' => cases hx; cases hx'; exact .inr (.same rfl)
   | 3,hx,hx' => cases hx; cases hx'; exact .inr (.same rfl)
   | 4, hx, hx' =>
    cases hx; cases hx'
    have h := Lent.ms (H := fdH l known used out) (hid := [900]) (k := 23) (off := 0) (len := l.bodies.length) (vs := bv known) rfl (by decide) (by rw [aea]; omega) (by rw [aea]; omega)
    rw [azo hk] at h
    exact .inr h
   | 5, hx, hx' =>
    cases hx; cases hx'
    have h := Lent.ms (H := fdH l known used out) (hid := [900]) (k := 27) (off := 0) (len := l.bodies.length) (vs := bv (aao l)) rfl (by decide) (by rw [aea,afh]; omega) (by rw [aea,afh]; omega)
    rw [azo (afh l)] at h
    exact .inr h
   | 6, hx, hx' =>
    cases hx; cases hx'
    have h := Lent.ms (H := fdH l known used out) (hid := [900]) (k := 31) (off := 0) (len := l.joints.length) (vs := bv used) rfl (by decide) (by rw [aea]; omega) (by rw [aea]; omega)
    rw [azo hu] at h
    exact .inr h
   | 7,hx,hx' => cases hx; cases hx'; exact .inl ⟨rfl,rfl⟩
   | j + 8,hx,hx' => cases hx
 ·intro k z hz
  simp only [fdH,aac] at hz
  split at hz
  ·cases hz; exact .inr (.inl ⟨_,rfl,rfl⟩)
  split at hz
  ·cases hz; exact .inr (.inr ⟨_,rfl,a6z _⟩)
  split at hz
  ·cases hz; exact .inr (.inr ⟨_,rfl,a6z _⟩)
  split at hz
  ·cases hz; exact .inr (.inr ⟨_,rfl,a6z _⟩)
  split at hz
  ·subst_vars; exact .inl (by decide)
  ·cases hz
def fdR (l : Li) : AV := if liE l = 0 then .iptr (fdC l (aew l) (aao l) [.lst 1 ((al8 l).map bl),.lst 4 ((findG l).map Gr.av)]) else .v (.pointer none)
def ajp (l : Li) (out : List Gr) : List Bool := out.foldl (fun k g => aa5 k g.joints) (List.replicate l.joints.length false)
theorem aod (l : Li) (out : List Gr) : (ajp l out).length = l.joints.length:=by unfold ajp; rw [ak0,List.length_replicate]
theorem a3l (l : Li) (out : List Gr) (g : Gr) : ajp l (out ++ [g]) = aa5 (ajp l out) g.joints:=by unfold ajp; rw [List.foldl_append]; rfl
theorem amh {k : List Bool} {bs : List Int} {i : Nat} {b : Int} (h : bs[i]? = some b) : aa5 k (bs.take (i + 1)) = (aa5 k (bs.take i)).set b.toNat true := by
 unfold aa5
 rw [aa4 h,List.foldl_append]; rfl
theorem ax1 {l : Li} (hli : liE l = 0) {known : List Bool} {out : List Gr} {g : Gr} (hk : known.length = l.bodies.length) (h : findFrom l (unk known) known out = (aew l, findG l)) (hg : nextG l known = some g) :
  findFrom l (unk (aa5 known g.bodies)) (aa5 known g.bodies) (out ++ [g]) = (aew l,findG l) := by
 have hlt := afd hli hk hg
 obtain ⟨n,hn⟩ : ∃ n,unk known = n + 1 := ⟨unk known - 1,by omega⟩
 rw [hn] at h
 unfold findFrom at h
 rw [hg] at h
 rw [<- h]
 exact afz hli _ _ _ _ (by rw [ad3]; exact hk) (le_refl _) (by omega)
theorem a2x {l : Li} {known : List Bool} {out : List Gr} (h : findFrom l (unk known) known out = (aew l, findG l)) (hg : nextG l known = none) : known = aew l /\ out = findG l := by
 cases hn : unk known with
 | zero => rw [hn] at h; exact ⟨(Prod.mk.inj h).1,(Prod.mk.inj h).2⟩
 | succ n => rw [hn] at h; unfold findFrom at h; rw [hg] at h; exact ⟨(Prod.mk.inj h).1,(Prod.mk.inj h).2⟩
theorem a3r {n : Nat} : unk (afn n 0) <= n := by
 unfold unk
 exact le_trans List.countP_le_length (Nat.le_of_eq (aiy _ _))
theorem avz {l : Li} (hli : liE l = 0) : findFrom l (unk (afn l.bodies.length 0)) (afn l.bodies.length 0) [] = (aew l, findG l) := by
 rw [<- awy]
 exact afz hli _ _ _ _ (aiy _ _) (le_refl _) a3r
theorem bay {l : Li} (hli : liE l = 0) {known : List Bool} {out : List Gr} (hk : known.length = l.bodies.length) (h : findFrom l (unk known) known out = (aew l, findG l)) : out.length <= 8 := by
 obtain ⟨gs,e⟩ := ae5 (l := l) (unk known) known out
 rw [e] at h
 have h1 := (a2o hli).2
 have h2 : out ++ gs = findG l := (Prod.mk.inj h).2
 rw [<- h2,length_append] at h1; omega
theorem aye (l : Li) (known used : List Bool) (out : List Gr) (hk : known.length = l.bodies.length) (hu : used.length = l.joints.length) (hm : l.bodies.length <= ab9 /\ l.joints.length <= ab9) :
  Wk ⟨[(5,some (.ptr 33 0))],fdH l known used out⟩ ⟨[(5,some (.iptr (fdC l known (aao l) [.lst 1 (used.map bl),.lst 4 (out.map Gr.av)])))],[]⟩ := by
 have hd := afh l
 have q1 : .ms 23 1 0 l.bodies.length = AV.ms 23 1 0 ((bv known).map AV.v).length:=by rw [length_map,aea,hk]
 refine (Wk.of (sl := [(5, some (.ptr 33 0))]) (hp := [(33, some (fdB l out.length)), (23, some (.row 1 ((bv known).map .v))), (27, some (.row 1 ((bv (aao l)).map .v))), (31, some (.row 1 ((bv used).map .v))), (900, some (.row 4 (out.map Gr.av)))])
  (.k .nil) (.cons rfl (.refl _) (.cons rfl (.vecRow (by rw [aea]; omega)) (.cons rfl (.vecRow (by rw [aea]; omega)) (.cons rfl (.vecRow (by rw [aea]; omega)) (.cons rfl (.refl _) .nil)))))).trans ?_
 refine (Wk.freeze (k := 23) rfl).trans ?_
 refine (Wk.of (sl := [(5, some (.ptr 33 0))]) (hp := [(33, some (.box (l.av.cells ++ [.lst 1 (known.map bl), .ms 27 1 0 l.bodies.length, .ms 31 1 0 l.joints.length, .ms 900 4 0 out.length]))), (27, some (.row 1 ((bv (aao l)).map .v))), (31, some (.row 1 ((bv used).map .v))), (900, some (.row 4 (out.map Gr.av)))])
  (.k .nil) (.cons rfl (BlkSub.boxL (.cons (.refl _) (.cons (.refl _) (.cons (.refl _) (.cons (.refl _) (.cons (.of ((ace (by rw [length_map,aea,hk])).trans (by rw [a3c]))) (.cons (.refl _) (.cons (.refl _) (.cons (.refl _) .nil)))))))) rfl) (.cons rfl (.refl _) (.cons rfl (.refl _) (.cons rfl (.refl _) .nil))))).trans ?_
 refine (Wk.freeze (k := 27) rfl).trans ?_
 refine (Wk.of (sl := [(5, some (.ptr 33 0))]) (hp := [(33, some (.box (l.av.cells ++ [.lst 1 (known.map bl), .lst 1 ((aao l).map bl), .ms 31 1 0 l.joints.length, .ms 900 4 0 out.length]))), (31, some (.row 1 ((bv used).map .v))), (900, some (.row 4 (out.map Gr.av)))])
  (.k .nil) (.cons rfl (BlkSub.boxL (.cons (.refl _) (.cons (.refl _) (.cons (.refl _) (.cons (.refl _) (.cons (.refl _) (.cons (.of ((ace (by rw [length_map,aea,hd])).trans (by rw [a3c]))) (.cons (.refl _) (.cons (.refl _) .nil)))))))) rfl) (.cons rfl (.refl _) (.cons rfl (.refl _) .nil)))).trans ?_
 refine (Wk.freeze (k := 31) rfl).trans ?_
 refine (Wk.of (sl := [(5, some (.ptr 33 0))]) (hp := [(33, some (.box (l.av.cells ++ [.lst 1 (known.map bl), .lst 1 ((aao l).map bl), .lst 1 (used.map bl), .ms 900 4 0 out.length]))), (900, some (.row 4 (out.map Gr.av)))])
  (.k .nil) (.cons rfl (BlkSub.boxL (.cons (.refl _) (.cons (.refl _) (.cons (.refl _) (.cons (.refl _) (.cons (.refl _) (.cons (.refl _) (.cons (.of ((ace (by rw [length_map,aea,hu])).trans (by rw [a3c]))) (.cons (.refl _) .nil)))))))) rfl) (.cons rfl (.refl _) .nil))).trans ?_
 refine (Wk.freeze (k := 900) rfl).trans ?_
 refine (Wk.of (sl := [(5, some (.ptr 33 0))]) (hp := [(33, some (.box (fdC l known (aao l) [.lst 1 (used.map bl), .lst 4 (out.map Gr.av)])))])
  (.k .nil) (.cons rfl (BlkSub.boxL (.cons (.refl _) (.cons (.refl _) (.cons (.refl _) (.cons (.refl _) (.cons (.refl _) (.cons (.refl _) (.cons (.refl _) (.cons (.of (ace (by rw [length_map]))) .nil)))))))) rfl) .nil)).trans ?_
 refine (Wk.freezeB (k := 33) rfl rfl).trans ?_
 exact Wk.of (.k .nil) .nil
theorem a3q (l : Li) (hl : l.ok) : FnC prog 260 [l.av] (.tup [fdR l, ahg (liE l)]) := by
 refine gF0 func260 ?_
 refine gc (ais l hl) ?_
 refine gC (fun ht17 => ?_) (fun ht17 => ?_)
 ·have h1 := ae2 ht17
  refine gE2 ?_
  unfold fdR; rw [if_neg h1]
 ·have hli := ae0 ht17
  have h8 := (ad6 hli).2.2.2.1
  have h0 := (ad6 hli).2.2.2.2
  have hj16 : l.joints.length <= 16:=by have := (ad6 hli).2.1; unfold aui at this; split at this; cases this; omega
  have hld := hl.ld
  have hm : l.bodies.length <= ab9 /\ l.joints.length <= ab9:=by unfold ab9; omega
  refine gl ?_
  refine gs (atc (.tmp rfl) T162 rfl T4 rfl rfl rfl rfl (by dsimp only; omega) rfl) ?_
  refine gl ?_
  refine gs (atc (.tmp rfl) T162 rfl T4 rfl rfl rfl rfl (by dsimp only; omega) rfl) ?_
  refine gl ?_
  refine gs (atc (.tmp rfl) T162 rfl T4 rfl rfl rfl rfl (by dsimp only; omega) rfl) ?_
  refine gD ?_
  refine gs (aam (n := 0) (.tmp rfl) (.const _) T162 rfl T4 rfl rfl (by omega) rfl) ?_
  refine gs (aoe (.tmp rfl) rfl (by rw [List.length_replicate]; omega) (.const _) rfl T4 rfl) ?_ (6,0)
  refine gW (Wk.of (sl := [(1,some (.ptr 1 0)),(5,some (.ptr 33 0))]) (hp := [(1,some (.box l.av.cells)),(33,some (.box (l.av.cells ++ [.ms 23 1 0 l.bodies.length,.ms 27 1 0 l.bodies.length,.ms 31 1 0 l.joints.length,.v (.slice none 0 0)]))),(23,some (.vec (bv (afn l.bodies.length 0)))),(27,some (.vec (bv (List.replicate l.bodies.length false)))),(31,some (.vec (bv (List.replicate l.joints.length false))))]) abv (.cons rfl (.refl _) (.cons rfl (.refl _) (.cons rfl (BlkSub.of (by rw [ay3,aug]; rfl)) (.cons rfl (BlkSub.of (by rw [ay3])) (.cons rfl (BlkSub.of (by rw [ay3])) .nil)))))) ?_
  refine gl ?_
  refine gL1 [1,5,40,41] [1,23,31] (fun (i : Nat) => [(42,some (i64 i))]) (fun i => [(33,some (.box (l.av.cells ++ [.ms 23 1 0 l.bodies.length,.ms 27 1 0 l.bodies.length,.ms 31 1 0 l.joints.length,.v (.slice none 0 0)]))),(27,some (.vec (bv (aa5 (List.replicate l.bodies.length false) ((l.drivers.map Dr.body).take i)))))]) (fun i => i <= l.drivers.length) (fun i => l.drivers.length - i) 0 (zero_le _) ?_
  rintro i hi K1 hK1
  refine gC (fun ht43 => ?_) (fun ht43 => ?_) (st2 := (11,0))
  ·have hin := ac3 ht43
   obtain ⟨d,hd⟩ := aeg hin
   have hb := amm (ax0 hli hd)
   have hmt := amh (k := List.replicate l.bodies.length false) (bs := l.drivers.map Dr.body) (i := i) (b := d.body) (by rw [getElem?_map,hd]; rfl)
   refine gi (aaq hd) ?_
   refine gs (aam (n := d.body.toNat) (.tmp rfl) (.tmp rfl) T162 rfl T4 rfl (by omega) (by omega) rfl) ?_
   refine gs (aoe (.tmp rfl) rfl (by rw [aea,ad3,List.length_replicate]; omega) (.const _) rfl T4 rfl) ?_
   refine gD ?_
   refine ga abn ?_
   exact gK1 hK1 (i + 1) hin (hw := Wk.of abv (.cons rfl (.refl _) (.cons rfl (BlkSub.of (by rw [aug,hmt])) (.cons rfl (.refl _) (.cons rfl (.refl _) (.cons rfl (.refl _) .nil))))))
  ·have hin := abo hi ht43
   have hall : aa5 (List.replicate l.bodies.length false) ((l.drivers.map Dr.body).take i) = aao l:=by rw [hin]; unfold aao; rw [take_of_length_le (by rw [length_map]; omega)]
   refine gW ((Wk.virt 900 4 rfl).trans <| Wk.of (sl := [(1,some (.ptr 1 0)),(5,some (.ptr 33 0))]) (hp := [(33,some (fdB l 0)),(23,some (.vec (bv (afn l.bodies.length 0)))),(27,some (.vec (bv (aao l)))),(31,some (.vec (bv (List.replicate l.joints.length false)))),(900,some (.row 4 []))]) abv (.cons rfl (BlkSub.boxL (.cons (.refl _) (.cons (.refl _) (.cons (.refl _) (.cons (.refl _) (.cons (.refl _) (.cons (.refl _) (.cons (.refl _) (.cons (Sub.nilMs _ _ _) .nil)))))))) rfl) (.cons rfl (.refl _) (.cons rfl (BlkSub.of (by rw [hall])) (.cons rfl (.refl _) (.cons rfl (.refl _) .nil)))))) ?_
   refine gt (abe (amn l hl hli (afn l.bodies.length 0) (List.replicate l.joints.length false) (aiy _ _) List.length_replicate hm []) (.cons (.tmp rfl) .nil) (fun k z h => h) rfl rfl) ?_
   refine gL2 [5,8] [] (fun (known : List Bool) (out : List Gr) => [(9,some (bl (nextG l known).isSome))]) (fun known out => [(8,some (.box ((nextG l known).getD default).av.cells)),(33,some (fdB l out.length)),(23,some (.vec (bv known))),(27,some (.vec (bv (aao l)))),(31,some (.vec (bv (ajp l out)))),(900,some (.row 4 (out.map Gr.av)))]) (fun known out => known.length = l.bodies.length /\ findFrom l (unk known) known out = (aew l,findG l)) (fun known _ => unk known) (afn l.bodies.length 0) ([]) ⟨aiy _ _,avz hli⟩ ?_
   rintro known out ⟨hk,hf⟩ K2 hK2
   refine gC (fun ht59 => ?_) (fun ht59 => ?_) (st1 := (77777,0)) (st2 := (27,0))
   ·obtain ⟨g, hg⟩ := asb ht59
    have hgo := au3 hli hg
    have hout := bay hli hk hf
    refine gW (Wk.of (sl := [(5,some (.ptr 33 0)),(8,some (.ptr 8 0))]) (hp := [(8,some (.box g.av.cells)),(33,some (fdB l out.length)),(23,some (.vec (bv known))),(27,some (.vec (bv (aao l)))),(31,some (.vec (bv (ajp l out)))),(900,some (.row 4 (out.map Gr.av)))]) abv (.cons rfl (BlkSub.of (by rw [hg]; rfl)) (.cons rfl (.refl _) (.cons rfl (.refl _) (.cons rfl (.refl _) (.cons rfl (.refl _) (.cons rfl (.refl _) .nil))))))) ?_
    refine gl ?_
    refine gL1 [5,8,66,67] [8,33,27,31,900] (fun (j : Nat) => [(68,some (i64 j))]) (fun j => [(23,some (.vec (bv (aa5 known (g.bodies.take j)))))]) (fun j => j <= g.bodies.length) (fun j => g.bodies.length - j) 0 (zero_le _) ?_
    rintro j hj K3 hK3
    refine gC (fun ht69 => ?_) (fun ht69 => ?_)
    ·have hin := ac3 ht69
     obtain ⟨b,hb⟩ := aeg hin
     have hbb := hgo.b b (mem_of_getElem? hb)
     have hlb := hgo.lb
     refine gi (aaq hb) ?_
     refine gs (aam (n := b.toNat) (.tmp rfl) (.tmp rfl) T162 rfl T4 rfl (by omega) (by omega) rfl) ?_
     refine gs (aoe (.tmp rfl) rfl (by rw [aea,ad3]; omega) (.const _) rfl T4 rfl) ?_
     refine ga abn ?_
     exact gK1 hK3 (j + 1) hin (hw := Wk.of abv (.cons rfl (BlkSub.of (by rw [aug,amh hb])) (.cons rfl (.refl _) (.cons rfl (.refl _) (.cons rfl (.refl _) (.cons rfl (.refl _) (.cons rfl (.refl _) .nil)))))))
    ·have hin := abo hj ht69
     subst hin
     refine gl ?_
     refine gL1 [5,8,80,81] [8,33,27,900] (fun (q : Nat) => [(82,some (i64 q))]) (fun q => [(23,some (.vec (bv (aa5 known g.bodies)))),(31,some (.vec (bv (aa5 (ajp l out) (g.joints.take q)))))]) (fun q => q <= g.joints.length) (fun q => g.joints.length - q) 0 (zero_le _) ?_ (h2 := (.cons rfl (BlkSub.of (by rw [take_length])) (.cons rfl (.refl _) .nil)))
     rintro q hq K4 hK4
     refine gC (fun ht83 => ?_) (fun ht83 => ?_)
     ·have hin := ac3 ht83
      obtain ⟨b,hb⟩ := aeg hin
      have hbb := hgo.j b (mem_of_getElem? hb)
      have hlj := hgo.lj
      refine gi (aaq hb) ?_
      refine gs (aam (n := b.toNat) (.tmp rfl) (.tmp rfl) T162 rfl T4 rfl (by omega) (by omega) rfl) ?_
      refine gs (aoe (.tmp rfl) rfl (by rw [aea,ad3,aod]; omega) (.const _) rfl T4 rfl) ?_
      refine ga abn ?_
      exact gK1 hK4 (q + 1) hin (hw := Wk.of abv (.cons rfl (.refl _) (.cons rfl (BlkSub.of (by rw [aug,amh hb])) (.cons rfl (.refl _) (.cons rfl (.refl _) (.cons rfl (.refl _) (.cons rfl (.refl _) .nil)))))))
     ·have hin := abo hq ht83
      subst hin
      refine gs (ab5 (.tmp rfl) rfl (by rw [length_map]) (.tmp rfl) T86 rfl T129 rfl rfl (by simp only [length_cons,length_nil]; omega) rfl rfl) ?_
      refine gD ?_ (25,0)
      refine gW (Wk.of (sl := [(5,some (.ptr 33 0)),(8,some (.ptr 8 0))]) (hp := [(8,some (.box g.av.cells)),(33,some (.box (l.av.cells ++ [.ms 23 1 0 l.bodies.length,.ms 27 1 0 l.bodies.length,.ms 31 1 0 l.joints.length,.ms 100 4 0 (out ++ [g]).length]))),(100,some (.row 4 ((out ++ [g]).map Gr.av))),(23,some (.vec (bv (aa5 known g.bodies)))),(27,some (.vec (bv (aao l)))),(31,some (.vec (bv (ajp l (out ++ [g])))))]) abv (.cons rfl (.refl _) (.cons rfl (BlkSub.of (by rw [length_append]; rfl)) (.cons rfl (BlkSub.of (by rw [map_append]; rfl)) (.cons rfl (.refl _) (.cons rfl (.refl _) (.cons rfl (BlkSub.of (by rw [a3l,take_length])) .nil))))))) ?_ (25,0)
      refine gW (Wk.rekey (k := 100) (d := 900) rfl rfl) ?_ (26,0)
      refine gW (Wk.o (sl := [(5,some (.ptr 33 0)),(103,some (g.av))]) (hp := [(33,some (fdB l (out ++ [g]).length)),(23,some (.vec (bv (aa5 known g.bodies)))),(27,some (.vec (bv (aao l)))),(31,some (.vec (bv (ajp l (out ++ [g]))))),(900,some (.row 4 ((out ++ [g]).map Gr.av)))])) ?_
      refine gt (abe (amn l hl hli (aa5 known g.bodies) (ajp l (out ++ [g])) (by rw [ad3]; exact hk) (aod _ _) hm (out ++ [g])) (.cons (.tmp rfl) .nil) (by intro k z h; simp only [fdH,aac] at h; split at h; (subst_vars; exact h); split at h; (subst_vars; exact h); split at h; (subst_vars; exact h); split at h; (subst_vars; exact h); split at h; (subst_vars; exact h); cases h) rfl rfl) ?_
      exact gK2 hK2 (aa5 known g.bodies) (out ++ [g]) ⟨by rw [ad3]; exact hk,ax1 hli hk hf hg⟩ (afd hli hk hg)
   ·have hg := asv ht59
    obtain ⟨e1,e2⟩ := a2x hf hg
    subst e1 e2
    refine gW (Wk.o (sl := [(5,some (.ptr 33 0))]) (hp := [(33,some (fdB l (findG l).length)),(23,some (.vec (bv (aew l)))),(27,some (.vec (bv (aao l)))),(31,some (.vec (bv (ajp l (findG l))))),(900,some (.row 4 ((findG l).map Gr.av)))])) ?_ (27,0)
    refine gW (aye l (aew l) (ajp l (findG l)) (findG l) hk (aod _ _) hm) ?_
    refine gE2 ?_
    unfold fdR; rw [if_pos hli,hli]; rfl
end Go.Lw
namespace Go.Lw
open Go.Proofs
theorem a4x {α : Type} [BEq α] [LawfulBEq α] {xs : List α} {b : α} {ok : Nat -> Bool} (h : ∀ i x, xs[i]? = some x -> ok i = !(b == x)) : decide (0 <= ixI (ac1 xs.length ok)) = xs.contains b := by
 cases hf : ac1 xs.length ok with
 | some i =>
  obtain ⟨h1,h2⟩ := ab4 hf
  obtain ⟨x,hx⟩ := aeg h1
  rw [h i x hx] at h2
  have : b = x:=by simpa using h2
  subst this
  rw [List.contains_iff_mem.2 (mem_of_getElem? hx)]
  exact decide_eq_true (by show (0 : Int) <= (i : Int); omega)
 | none =>
  rw [decide_eq_false (by show ¬ (0 : Int) <= -1; decide)]
  symm
  rw [<- Bool.not_eq_true,List.contains_iff_mem]
  intro hm
  obtain ⟨i,hi⟩ := List.mem_iff_getElem?.1 hm
  have hlt := (List.getElem?_eq_some_iff.1 hi).1
  unfold ac1 at hf
  rw [List.find?_eq_none] at hf
  have := hf i (List.mem_range.2 hlt)
  rw [h i b hi] at this
  simp at this
theorem aqy (xs : List Bool) (b : Bool) (hl : xs.length <= 281474976710656) : FnC prog 349 [.lst 1 (xs.map bl), bl b] (i64 (ixI (ac1 xs.length (fun i => !(b == xs.getD i false))))) := by
 refine gF0 func349 ?_
 refine gl ?_
 refine gL1 [0,1,7] [] (fun (i : Nat) => [(8,some (i64 i))]) (fun _ => []) (fun i => i <= xs.length /\ ∀ j,j < i -> (!(b == xs.getD j false)) = true) (fun i => xs.length - i) 0 ⟨zero_le _,fun j h => by omega⟩ ?_
 rintro i ⟨hi,hj⟩ K1 hK1
 refine gC (fun ht9 => ?_) (fun ht9 => ?_)
 ·have hin := ac3 ht9
  obtain ⟨x,hx⟩ := aeg hin
  have hg : xs.getD i false = x := abp hx
  refine gi (aaq hx) ?_
  refine gC (fun ht16 => ?_) (fun ht16 => ?_)
  ·have h2 : (b == x) = true := ht16
   refine gE1 ?_
   rw [aer hin hj (by rw [hg,h2]; rfl)]; rfl
  ·have h2 : (b == x) = false := ht16
   refine ga abn ?_
   exact gK1 hK1 (i + 1) ⟨hin,fun j h9 => by rcases lt_or_ge j i with g | g; exact hj j g; (have : j = i:=by omega); subst this; rw [hg,h2]; rfl⟩
 ·have hin := abo hi ht9
  subst hin
  refine gE1 ?_
  rw [adx hj]; rfl
theorem agw (xs : List Bool) (b : Bool) (hl : xs.length <= 281474976710656) : FnC prog 261 [.lst 1 (xs.map bl), bl b] (bl (xs.contains b)) := by
 refine gF0 func261 ?_
 refine gc (aqy xs b hl) ?_
 refine gE1 ?_
 rw [<- a4x (xs := xs) (b := b) (ok := fun i => !(b == xs.getD i false)) (fun i x hx => by rw [abp hx])]; rfl
theorem asj (xs : List Int) (b : Int) (hl : xs.length <= 281474976710656) : FnC prog 352 [.lst 1 (xs.map i64), i64 b] (i64 (ixI (ac1 xs.length (fun i => !(b == xs.getD i 0))))) := by
 refine gF0 func352 ?_
 refine gl ?_
 refine gL1 [0,1,7] [] (fun (i : Nat) => [(8,some (i64 i))]) (fun _ => []) (fun i => i <= xs.length /\ ∀ j,j < i -> (!(b == xs.getD j 0)) = true) (fun i => xs.length - i) 0 ⟨zero_le _,fun j h => by omega⟩ ?_
 rintro i ⟨hi,hj⟩ K1 hK1
 refine gC (fun ht9 => ?_) (fun ht9 => ?_)
 ·have hin := ac3 ht9
  obtain ⟨x,hx⟩ := aeg hin
  have hg : xs.getD i 0 = x := abp hx
  refine gi (aaq hx) ?_
  refine gC (fun ht16 => ?_) (fun ht16 => ?_)
  ·have h2 : (b == x) = true := ht16
   refine gE1 ?_
   rw [aer hin hj (by rw [hg,h2]; rfl)]; rfl
  ·have h2 : (b == x) = false := ht16
   refine ga abn ?_
   exact gK1 hK1 (i + 1) ⟨hin,fun j h9 => by rcases lt_or_ge j i with g | g; exact hj j g; (have : j = i:=by omega); subst this; rw [hg,h2]; rfl⟩
 ·have hin := abo hi ht9
  subst hin
  refine gE1 ?_
  rw [adx hj]; rfl
theorem ahn (xs : List Int) (b : Int) (hl : xs.length <= 281474976710656) : FnC prog 264 [.lst 1 (xs.map i64), i64 b] (bl (xs.contains b)) := by
 refine gF0 func264 ?_
 refine gc (asj xs b hl) ?_
 refine gE1 ?_
 rw [<- a4x (xs := xs) (b := b) (ok := fun i => !(b == xs.getD i 0)) (fun i x hx => by rw [abp hx])]; rfl
theorem a08 (l : Li) (hl : l.ok) : FnC prog 144 [l.av] (.tup [.lst 4 (((if liE l = 0 then splitG l else [])).map Gr.av), ahg (if liE l = 0 then splitE l else liE l)]) := by
 refine gF0 func144 ?_
 refine gc (a3q l hl) (hnm := (by unfold fdR; split <;> rfl)) ?_
 refine gC (fun ht12 => ?_) (fun ht12 => ?_) (st2 := (77777,0))
 ·have h1 := ae2 ht12
  refine gR ?_
  exact af1 (by rw [if_neg h1,if_neg h1]; exact Sub.tup (.cons (.nil _ _ _) (.cons (.refl _) .nil)))
 ·have hli := ae0 ht12
  have h8 := (ad6 hli).2.2.2.1
  have hj16 : l.joints.length <= 16:=by have := (ad6 hli).2.1; unfold aui at this; split at this; cases this; omega
  have lk1 : (aew l).length = l.bodies.length:=by unfold aew; rw [ak0,aiy]
  have lk2 : (al8 l).length = l.joints.length:=by unfold al8; rw [ak0,List.length_replicate]
  have e1 : fdR l = .iptr (fdC l (aew l) (aao l) [.lst 1 ((al8 l).map bl),.lst 4 ((findG l).map Gr.av)]):=by unfold fdR; rw [if_pos hli]
  have c1 := au6 (k := aew l)
  have c2 := au6 (k := al8 l)
  refine gW (Wk.of (sl := [(4,some (.iptr (fdC l (aew l) (aao l) [.lst 1 ((al8 l).map bl),.lst 4 ((findG l).map Gr.av)]))),(5,some (ahg (liE l)))]) (hp := []) (.cons rfl (Sub.of e1) (.k .nil)) .nil) ?_
  refine gc (agw (aew l) false (by omega)) ?_
  refine gcG (fun _ => (agw (al8 l) false (by omega))) ?_
  refine gC (fun ht25 => ?_) (fun ht25 => ?_)
  ·have h2 : splitE l = 7 := by
    unfold splitE
    rw [if_neg]
    intro h
    have h3 : (aew l).contains false = false := c1.1 (by omega)
    have h4 : (al8 l).contains false = false := c2.1 (by omega)
    rw [h3,h4] at ht25; cases ht25
   refine gR ?_
   exact af1 (by rw [if_pos hli,if_pos hli]; unfold splitG; rw [if_neg (by rw [h2]; simp),h2]; exact Sub.tup (.cons (.nil _ _ _) (.cons (.refl _) .nil)))
  ·have h2 : splitE l = 0 := by
    unfold splitE
    rw [if_pos]
    cases h3 : (aew l).contains false <;> cases h4 : (al8 l).contains false <;> rw [h3,h4] at ht25 <;> first | (cases ht25; done) | (have g1 := c1.2 h3; have g2 := c2.2 h4; omega)
   refine gE2 ?_
   rw [if_pos hli,if_pos hli,h2]; unfold splitG; rw [if_pos h2]; rfl
end Go.Lw
namespace Go.Lw
open Go.Proofs
theorem bah {l : Li} {g : Gr} {i : Nat} {z : Int} {j : Jt} (hz : g.joints[i]? = some z) (hj : l.joints[z.toNat]? = some j) : (av8 l g)[i]? = some (anc g j) := by
 unfold av8; rw [getElem?_map,hz,Option.map_some,abp hj]
theorem ao5 {l : Li} {g : Gr} {i : Nat} {z : Int} {j : Jt} {a : Int} (hz : g.joints[i]? = some z) (hj : l.joints[z.toNat]? = some j) (ha : anc g j = a) : ((av8 l g).take i).map i64 ++ [i64 a] = ((av8 l g).take (i + 1)).map i64 := by
 rw [aa4 (bah hz hj),ha,map_append]; rfl
theorem a89 {z : Int} {n : Nat} (h0 : 0 <= z) (h1 : z < n) : cond (aab .lss z 0) true (aab .geq z (n : Int)) = false := by
 rw [show aab .lss z 0 = false from decide_eq_false (by omega)]
 exact decide_eq_false (by omega)
theorem asd (l : Li) (hl : l.ok) (hli : liE l = 0) (g : Gr) (hg : GrOk l g) : Con prog 146 [l.av, g.av] [] (.tup [.ms 900 1 0 g.joints.length, .v .nilIface]) [(900, some (.row 1 ((av8 l g).map i64)))] := by
 have hlb := hg.lb
 have hlj := hg.lj
 refine gF func146 (fun k z h => by cases h) ?_
 refine gc (ais l hl) ?_
 refine gC (fun ht16 => ?_) (fun ht16 => ?_) (st1 := (3,0))
 ·(rw [hli] at ht16; cases ht16)
 ·refine gl ?_
  refine gW ((Wk.virt 900 1 rfl).trans <| Wk.of (sl := [(2,some (.ptr 2 0)),(3,some (.ptr 3 0)),(7,some (.ms 900 1 0 0)),(19,some (.lst 1 (g.joints.map i64))),(20,some (i64 g.joints.length)),(21,some (i64 0))]) (hp := [(2,some (.box l.av.cells)),(3,some (.box g.av.cells)),(900,some (.row 1 []))]) (.k (.k (.cons rfl (Sub.nilMs _ _ _) (.k (.k (.k .nil)))))) (.cons rfl (.refl _) (.cons rfl (.refl _) (.cons rfl (.refl _) .nil)))) ?_
  refine gL1 [2,3,19,20] [2,3] (fun (i : Nat) => [(7,some (.ms 900 1 0 i)),(21,some (i64 i))]) (fun i => [(900,some (.row 1 (((av8 l g).take i).map i64)))]) (fun i => i <= g.joints.length) (fun i => g.joints.length - i) 0 (zero_le _) ?_
  rintro i hi K1 hK1
  refine gC (fun ht22 => ?_) (fun ht22 => ?_) (st2 := (18,0))
  ·have hin := ac3 ht22
   obtain ⟨z,hz⟩ := aeg hin
   obtain ⟨z0,z1⟩ := hg.j z (mem_of_getElem? hz)
   obtain ⟨j,hj⟩ : ∃ j,l.joints[z.toNat]? = some j := aeg (by omega)
   have hlt : (((av8 l g).take i).map i64).length = i:=by rw [length_map,length_take,ax2]; omega
   refine gi (aaq hz) ?_
   refine glG ?_
   refine gC (fun ht33 => ?_) (fun ht33 => ?_) (st1 := (9,0))
   ·(rw [a89 z0 z1] at ht33; cases ht33)
   ·refine gi (av6 (n := z.toNat) (by omega) hj) ?_
    refine gc (ahn g.bodies j.a (by omega)) ?_
    refine gc (ahn g.bodies j.b (by omega)) ?_
    refine gD ?_
    refine gC (fun ht55 => ?_) (fun ht55 => ?_)
    ·have ha : anc g j = -1 := by unfold anc; cases h1 : g.bodies.contains j.a <;> cases h2 : g.bodies.contains j.b <;> rw [h1, h2] at ht55 <;> first | (cases ht55; done) | rfl
     refine gs (ab5 (.tmp rfl) rfl hlt.symm (.tmp rfl) T31 rfl T3 rfl rfl (by simp only [length_cons,length_nil]; omega) rfl rfl) ?_ (17,0)
     refine gW (Wk.of (sl := [(2,some (.ptr 2 0)),(3,some (.ptr 3 0)),(7,some (.ms 62 1 0 (i + 1))),(19,some (.lst 1 (g.joints.map i64))),(20,some (i64 g.joints.length)),(21,some (i64 i))]) (hp := [(2,some (.box l.av.cells)),(3,some (.box g.av.cells)),(62,some (.row 1 (((av8 l g).take (i + 1)).map i64)))]) abv (.cons rfl (.refl _) (.cons rfl (.refl _) (.cons rfl (BlkSub.of (congrArg (Blk.row 1) (ao5 hz hj ha))) .nil)))) ?_ (17,0)
     refine gW (Wk.rekey (k := 62) (d := 900) rfl rfl) ?_
     refine ga abn ?_
     exact gK1 hK1 (i + 1) hin
    ·refine gC (fun ht63 => ?_) (fun ht63 => ?_)
     ·have ha : anc g j = j.b := by unfold anc; cases h1 : g.bodies.contains j.a <;> cases h2 : g.bodies.contains j.b <;> rw [h1] at ht63 <;> rw [h1, h2] at ht55 <;> first | (cases ht55; done) | (cases ht63; done) | rfl
      refine gs (ab5 (.tmp rfl) rfl hlt.symm (.tmp rfl) T31 rfl T3 rfl rfl (by simp only [length_cons,length_nil]; omega) rfl rfl) ?_ (17,0)
      refine gW (Wk.of (sl := [(2,some (.ptr 2 0)),(3,some (.ptr 3 0)),(7,some (.ms 69 1 0 (i + 1))),(19,some (.lst 1 (g.joints.map i64))),(20,some (i64 g.joints.length)),(21,some (i64 i))]) (hp := [(2,some (.box l.av.cells)),(3,some (.box g.av.cells)),(69,some (.row 1 (((av8 l g).take (i + 1)).map i64)))]) abv (.cons rfl (.refl _) (.cons rfl (.refl _) (.cons rfl (BlkSub.of (congrArg (Blk.row 1) (ao5 hz hj ha))) .nil)))) ?_ (17,0)
      refine gW (Wk.rekey (k := 69) (d := 900) rfl rfl) ?_
      refine ga abn ?_
      exact gK1 hK1 (i + 1) hin
     ·have ha : anc g j = j.a := by unfold anc; rw [if_neg (by rw [show g.bodies.contains j.a = false from ht63]; simp)]
      refine gs (ab5 (.tmp rfl) rfl hlt.symm (.tmp rfl) T31 rfl T3 rfl rfl (by simp only [length_cons,length_nil]; omega) rfl rfl) ?_ (17,0)
      refine gW (Wk.of (sl := [(2,some (.ptr 2 0)),(3,some (.ptr 3 0)),(7,some (.ms 54 1 0 (i + 1))),(19,some (.lst 1 (g.joints.map i64))),(20,some (i64 g.joints.length)),(21,some (i64 i))]) (hp := [(2,some (.box l.av.cells)),(3,some (.box g.av.cells)),(54,some (.row 1 (((av8 l g).take (i + 1)).map i64)))]) abv (.cons rfl (.refl _) (.cons rfl (.refl _) (.cons rfl (BlkSub.of (congrArg (Blk.row 1) (ao5 hz hj ha))) .nil)))) ?_ (17,0)
      refine gW (Wk.rekey (k := 54) (d := 900) rfl rfl) ?_
      refine ga abn ?_
      exact gK1 hK1 (i + 1) hin
  ·have hin := abo hi ht22
   subst hin
   refine gW (Wk.of (sl := [(7,some (.ms 900 1 0 g.joints.length))]) (hp := [(900,some (.row 1 ((av8 l g).map i64)))]) abv (.cons rfl (BlkSub.of (by rw [take_of_length_le (by rw [ax2]; exact le_refl _)])) .nil)) ?_
   refine gR ?_
   exact Fin.keep (bb5 rfl)
end Go.Lw
namespace Go.Lw
def bbo (s : ByteArray) (n : Int) : Bd := ⟨s,[⟨⟨#[97]⟩,rt ((0 : Int) : Rat),rt ((0 : Int) : Rat)⟩,⟨⟨#[98]⟩,rt (n : Rat),rt ((0 : Int) : Rat)⟩]⟩
def fb : Li := ⟨⟨#[102, 111, 117, 114, 98, 97, 114]⟩, [bbo ⟨#[102, 114, 97, 109, 101]⟩ 4, bbo ⟨#[99, 114, 97, 110, 107]⟩ 3, bbo ⟨#[99, 111, 117, 112, 108, 101, 114]⟩ 5, bbo ⟨#[114, 111, 99, 107, 101, 114]⟩ 6],
  [⟨⟨#[111]⟩,0,1,0,0,0,0⟩,⟨⟨#[112]⟩,0,2,0,1,1,0⟩,⟨⟨#[113]⟩,0,3,0,0,1,0⟩,⟨⟨#[114]⟩,0,2,1,3,1,0⟩],[⟨⟨#[100]⟩,1⟩]⟩
def t0 : Tn := ⟨⟨false,[],[]⟩,false⟩
theorem apl (a b : ByteArray) : eqS a b = (a.data.toList == b.data.toList) := by
 unfold eqS; rw [Go.ByteArray.toList_eq,Go.ByteArray.toList_eq]
end Go.Lw
namespace Go.Lw
open Go.Proofs
def feG (P : Program) (n : Nat) : Option (FE P) := match h : P.funcs[n]? with
  | none => none
  | some fn => match hb : fn.body with
    | none => none
    | some c => match hn : (fn.name == "runtime.NumGoroutine") with
      | true => none
      | false => some ⟨n,fn,c,fn.results.toList,h,hb,hn,by simp⟩
def smQ (q : Rat) : Bool := Nat.blt q.num.natAbs 18446744073709551616 && Nat.blt q.den 18446744073709551616
theorem a4r {q : Rat} (h : smQ q = true) : Qb 64 q := by
 simp only [smQ,and_eq_true,Nat.blt_eq] at h
 exact ⟨h.1,h.2⟩
theorem aff {q : Rat} (h : smQ q = true) : Qs q := (a4r h).qs (by omega)
def n0 (q : Rat) : AV := nA (sh 0 (q : Rat))
def z0 : AV := am3 []
theorem agb {q : Rat} (h : smQ q = true) : Nm ([] : List (List Rat)).length 64 (sh 0 (q : Rat)) := Nm.ofQ (by decide) (Cb.one (a4r h))
theorem aw3 (q : Rat) : dec ([] : List (List Rat)).length (sh 0 (q : Rat)) = q := a1p 0 q
theorem a43 : Tw [] 1 where
 three:=by decide
 len := fun j hj => absurd hj (Nat.not_lt_zero j)
 pos := fun j hj => absurd hj (Nat.not_lt_zero j)
 rb := ⟨1,1,by omega,fun d hd => absurd hd not_mem_nil,by decide,by decide⟩
 le:=by decide
theorem lm0 : lm ([] : List (List Rat)).length = 200000000000 := rfl
def dW : List AV -> Nat
  | [] => 0
  | x :: l => match x with
    | .v (.int _ (.ofNat n)) => n + 4294967296 * dW l
    | _ => 0
def dWs : AV -> Nat
  | .lst _ l => dW l
  | _ => 0
def dQ (x : AV) : Rat := match x with
  | .agg (.v (.bool s) :: n :: d :: _) => match s with
    | true => mkRat (-(dWs n : Int)) (dWs d)
    | false => mkRat (dWs n : Int) (dWs d)
  | _ => 0
def dN (x : AV) : Rat := match x with
  | .lst _ (x :: _) => dQ x
  | _ => 0
abbrev En := Option (Ent prog)
def w2 (f : FuncId) (g : Rat -> Rat -> AV) (h : ∀ p q, smQ p = true -> smQ q = true -> FnC prog f [qA p, qA q] (g p q)) (p q : Rat) : En := match hh : smQ p && smQ q with
  | true => some ⟨f,[qA p,qA q],g p q,[],h p q (by rw [and_eq_true] at hh; exact hh.1) (by rw [and_eq_true] at hh; exact hh.2)⟩
  | false => none
def oQ2 (f : FuncId) (g : Rat -> Rat -> AV) (h : ∀ p q, smQ p = true -> smQ q = true -> FnC prog f [qA p, qA q] (g p q)) (xs : List AV) : En := match xs with
  | [a,b] => w2 f g h (dQ a) (dQ b)
  | _ => none
def w1 (f : FuncId) (a : Rat -> AV) (g : Rat -> AV) (h : ∀ p, smQ p = true -> FnC prog f [a p] (g p)) (p : Rat) : En := match hh : smQ p with
  | true => some ⟨f,[a p],g p,[],h p hh⟩
  | false => none
def oQ1 (f : FuncId) (g : Rat -> AV) (h : ∀ p, smQ p = true -> FnC prog f [qA p] (g p)) (xs : List AV) : En := match xs with
  | [a] => w1 f qA g h (dQ a)
  | _ => none
def w3 (f : FuncId) (g : Rat -> Rat -> AV) (h : ∀ p q, smQ p = true -> smQ q = true -> FnC prog f [z0, n0 p, n0 q] (g p q)) (p q : Rat) : En := match hh : smQ p && smQ q with
  | true => some ⟨f,[z0,n0 p,n0 q],g p q,[],h p q (by rw [and_eq_true] at hh; exact hh.1) (by rw [and_eq_true] at hh; exact hh.2)⟩
  | false => none
def oT2 (f : FuncId) (g : Rat -> Rat -> AV) (h : ∀ p q, smQ p = true -> smQ q = true -> FnC prog f [z0, n0 p, n0 q] (g p q)) (xs : List AV) : En := match xs with
  | [_,a,b] => w3 f g h (dN a) (dN b)
  | _ => none
def w4 (f : FuncId) (g : Rat -> AV) (h : ∀ p, smQ p = true -> FnC prog f [z0, n0 p] (g p)) (p : Rat) : En := match hh : smQ p with
  | true => some ⟨f,[z0,n0 p],g p,[],h p hh⟩
  | false => none
def oT1 (f : FuncId) (g : Rat -> AV) (h : ∀ p, smQ p = true -> FnC prog f [z0, n0 p] (g p)) (xs : List AV) : En := match xs with
  | [_,a] => w4 f g h (dN a)
  | _ => none
def oC (f : FuncId) (ys : List AV) (r : AV) (h : FnC prog f ys r) (xs : List AV) : En := some ⟨f,ys,r,[],h⟩
def dI (x : AV) : Int := match x with
  | .v (.int _ z) => z
  | _ => 0
def oI (f : FuncId) (g : Int -> AV) (h : ∀ z, (-9223372036854775808 <= z /\ z <= 9223372036854775807) -> FnC prog f [i64 z] (g z)) (xs : List AV) : En := match xs with
  | [a] => match (inferInstance : Decidable (-9223372036854775808 <= dI a /\ dI a <= 9223372036854775807)) with
    | .isTrue hh => some ⟨f,[i64 (dI a)],g (dI a),[],h (dI a) hh⟩
    | .isFalse _ => none
  | _ => none
theorem bdm (p q : Rat) (hp : smQ p = true) (hq : smQ q = true) : FnC prog 231 [z0, n0 p, n0 q] (.tup [n0 (p + q), .v .nilIface]) := by
 have h := bbm a43 (agb hp) (agb hq) (by rw [lm0]; omega)
 rw [aw3,aw3] at h; exact h
theorem bcp (p q : Rat) (hp : smQ p = true) (hq : smQ q = true) : FnC prog 163 [z0, n0 p, n0 q] (.tup [n0 (p + -q), .v .nilIface]) := by
 have h := a9h a43 (agb hp) (agb hq) (by rw [lm0]; omega)
 rw [aw3,aw3] at h; exact h
theorem bce (p q : Rat) (hp : smQ p = true) (hq : smQ q = true) : FnC prog 164 [z0, n0 p, n0 q] (.tup [n0 (p * q), .v .nilIface]) := by
 have h := a9f a43 (agb hp) (agb hq) (by rw [lm0]; omega)
 rw [aw3,aw3] at h; exact h
theorem a9d (p : Rat) (hp : smQ p = true) : FnC prog 205 [z0, n0 p] (.tup [i64 (ajn p), .v .nilIface]) := by
 have h := a5y a43 (agb hp) (by rw [lm0]; omega)
 rw [aw3] at h; exact h
theorem bdl (p : Rat) (hp : smQ p = true) : FnC prog 148 [z0, n0 p] (.tup [n0 (-p), .v .nilIface]) := by
 have h := a8p a43 (agb hp) (by rw [lm0]; omega)
 rw [aw3] at h; exact h
theorem a7i (p q : Rat) (hp : smQ p = true) (hq : smQ q = true) : FnC prog 17 [z0, n0 p, n0 q] (bl (decide (ajn (p + -q) = 0))) := by
 have h := asr a43 (agb hp) (agb hq) (by rw [lm0]; omega)
 rw [aw3,aw3] at h; exact h
def beg : FuncId -> Option (List AV -> En)
  | 231 => some (oT2 231 _ bdm)
  | 163 => some (oT2 163 _ bcp)
  | 164 => some (oT2 164 _ bce)
  | 205 => some (oT1 205 _ a9d)
  | 148 => some (oT1 148 _ bdl)
  | 145 => some (oC 145 [z0] (.v .nilIface) (a12 a43))
  | 149 => some (oQ1 149 n0 fun _ h => bdp (aff h))
  | 17 => some (oT2 17 _ a7i)
  | 150 => some (oI 150 (fun z => qA z) aow)
  | 120 => some (oI 120 (fun z => qA z) a2v)
  | 137 => some (oQ1 137 n0 fun _ h => bc4 (aff h))
  | 206 => some (oQ2 206 (fun p q => qA (p + q)) fun _ _ h h' => bdb (aff h) (aff h'))
  | 281 => some (oQ2 281 (fun p q => qA (p - q)) fun _ _ h h' => bcd (aff h) (aff h'))
  | 288 => some (oQ2 288 (fun p q => qA (p * q)) fun _ _ h h' => bb9 (aff h) (aff h'))
  | 431 => some (oQ2 431 (fun p q => .tup [qA (p / q),ahg (if q = 0 then 8 else 0)]) fun _ _ h h' => bcb (aff h) (aff h'))
  | 111 => some (oQ1 111 (fun p => qA (-p)) fun _ h => bcc (aff h))
  | 313 => some (oQ1 313 (fun p => i64 (ajn p)) fun _ h => a9o (aff h))
  | _ => none
def dIs (x : AV) : List Int := match x with
  | .lst _ es => es.map dI
  | _ => []
def dG (x : AV) : Gr := match x with
  | .agg [k,b,j,d] => ⟨dI k,dIs b,dIs j,dI d⟩
  | _ => default
def bcg (n : Nat) (l : List Int) : Bool := l.all fun z => aab .leq 0 z && aab .lss z n
theorem ax7 {n : Nat} {l : List Int} (h : bcg n l = true) : ∀ x ∈ l, 0 <= x /\ x < n := by
 intro x hx
 have := List.all_eq_true.1 h x hx
 simp only [and_eq_true,aab,decide_eq_true_eq] at this
 exact this
def grB (l : Li) (g : Gr) : Bool := bcg l.bodies.length g.bodies && bcg l.joints.length g.joints && Nat.ble g.bodies.length 2 && Nat.ble g.joints.length 3
theorem a82 {l : Li} {g : Gr} (h : grB l g = true) : GrOk l g := by
 simp only [grB,and_eq_true,Nat.ble_eq] at h
 exact ⟨ax7 h.1.1.1,ax7 h.1.1.2,h.1.2,h.2⟩
def bd4 (l : Li) (hl : l.ok) (hli : liE l = 0) (g : Gr) : En := match hh : grB l g with
  | true => some ⟨146,[l.av,g.av],_,_,asd l hl hli g (a82 hh)⟩
  | false => none
def bd3 (l : Li) (hl : l.ok) (hli : liE l = 0) (xs : List AV) : En := match xs with
  | [_,g] => bd4 l hl hli (dG g)
  | _ => none
theorem a7j (l : Li) (hl : l.ok) (hli : liE l = 0) : FnC prog 144 [l.av] (.tup [.lst 4 ((splitG l).map Gr.av), ahg (splitE l)]) := by
 have h := a08 l hl
 rw [if_pos hli,if_pos hli] at h; exact h
def bbe (l : Li) (hl : l.ok) (hli : liE l = 0) : FuncId -> Option (List AV -> En)
  | 144 => some (oC 144 [l.av] _ (a7j l hl hli))
  | 146 => some (bd3 l hl hli)
  | 229 => some (oQ1 229 (fun p => bl (rt p).valid) fun _ h => ach _ (aff h).ok)
  | f => beg f
def orP : List (Ent prog) -> FuncId -> Bool
  | [],_ => false
  | e :: l, f => match Nat.beq e.f f with
    | true => true
    | false => orP l f
def orS (xs : List AV) (f : FuncId) : List (Ent prog) -> En
  | [] => none
  | e :: l => match Nat.beq e.f f && ar3 xs e.xs with
    | true => some e
    | false => orS xs f l
def orF (L : List (Ent prog)) (o : FuncId -> Option (List AV -> En)) (f : FuncId) : Option (List AV -> En) := match orP L f with
  | true => some fun xs => match orS xs f L with
    | some e => some e
    | none => match o f with
      | some g => g xs
      | none => none
  | false => o f
def a80 (n : FuncId) : Bool := Nat.beq n 147 || (Nat.beq n 265 || Nat.beq n 353)
end Go.Lw
namespace Go.Lw
open Go.Proofs
theorem bdh (p q : Rat) (hp : smQ p = true) (hq : smQ q = true) : FnC prog 449 [z0, n0 p, n0 q] (.tup [i64 (ajn (p + -q)), .v .nilIface]) := by
 have h := a95 a43 (agb hp) (agb hq) (by rw [lm0]; omega)
 rw [aw3,aw3] at h; exact h
def bac (o : FuncId -> Option (List AV -> En)) : FuncId -> Option (List AV -> En)
  | 449 => some (oT2 449 _ bdh)
  | f => o f
end Go.Lw
namespace Go.Lw
def a8j (s : ByteArray) : Bd := ⟨s,[⟨⟨#[79]⟩,rt ((0 : Int) : Rat),rt ((0 : Int) : Rat)⟩,⟨⟨#[65]⟩,rt ((1 : Int) : Rat),rt ((0 : Int) : Rat)⟩]⟩
def cr1 : Li := ⟨⟨#[109]⟩,[a8j ⟨#[102,114,97,109,101]⟩,a8j ⟨#[99,114,97,110,107]⟩],[⟨⟨#[106]⟩,0,1,0,0,0,0⟩],[⟨⟨#[100]⟩,1⟩]⟩
theorem a6a {s : ByteArray} (hs : s.size <= 281474976710656) :
  (a8j s).name.size <= 281474976710656 /\ (a8j s).pts.length <= 281474976710656 /\ ∀ m ∈ (a8j s).pts,m.name.size <= 281474976710656 /\ m.x.wok /\ m.y.wok := by
 have h0 : (rt ((0 : Int) : Rat)).ok := (a5c (by omega)).ok
 have h1 : (rt ((1 : Int) : Rat)).ok := (a5c (by omega)).ok
 refine ⟨hs,by show 2 <= _; omega,fun m hm => ?_⟩
 simp only [a8j,mem_cons,not_mem_nil,or_false] at hm
 rcases hm with rfl | rfl
 ·exact ⟨by show 1 <= _; omega,h0.wok,h0.wok⟩
 ·exact ⟨by show 1 <= _; omega,h1.wok,h0.wok⟩
theorem ap1 : liE cr1 = 0 := by
 have h1 : a30 cr1 = 0 := by
  unfold a30 aen bdE avt mkE
  simp only [apl]
  decide +kernel
 have h2 : aui cr1 = 0 := by
  unfold aui aen jtE avt
  simp only [apl]
  decide +kernel
 have h3 : a1r cr1 = 0 := by
  unfold a1r aen drE avt
  simp only [apl]
  decide +kernel
 unfold liE
 rw [h1,h2,h3]
 decide +kernel
theorem a5q : cr1.okw := by
 refine ⟨by decide,fun b hb => ?_,fun j hj => ?_,fun d hd => ?_,by decide,by decide,by decide⟩
 ·simp only [cr1, mem_cons, not_mem_nil, or_false] at hb
  rcases hb with rfl | rfl <;> exact a6a (by decide)
 ·simp only [cr1, mem_cons, not_mem_nil, or_false] at hj
  rcases hj with rfl; decide
 ·simp only [cr1, mem_cons, not_mem_nil, or_false] at hd
  rcases hd with rfl; decide
theorem aq6 : cr1.ok := bdo (by decide +kernel) a5q
end Go.Lw
namespace Go.Lw
open Go.Proofs
set_option maxRecDepth 20000
def bao : AV := .agg [.v (.string ⟨⟨[106]⟩⟩),.v (.int .i64 0),.v (.int .i64 1),.v (.int .i64 0),.v (.int .i64 0),.v (.int .i64 0),.v (.int .i64 0)]
def bau : AV := .lst 7 [bao]
def a9j : AV := .agg [.v (.string ⟨⟨[79]⟩⟩),.v (.bool false),.v (.slice none 0 0),.v (.slice none 0 0),.v (.bool false),.v (.slice none 0 0),.v (.slice none 0 0)]
def a5a : AV := .agg [.lst 3 [.agg [.v (.bool false),.lst 1 [.v (.int .u32 1)],.lst 1 [.v (.int .u32 1)]]],.v (.slice none 0 0),.v (.slice none 0 0),.v (.slice none 0 0)]
def a9e : AV := .agg [.v (.string ⟨⟨[65]⟩⟩),.v (.bool false),.lst 1 [.v (.int .u32 1)],.lst 1 [.v (.int .u32 1)],.v (.bool false),.v (.slice none 0 0),.v (.slice none 0 0)]
def a5b : AV := .lst 7 [a9j,a9e]
def ba4 : AV := .agg [.v (.string ⟨⟨[99,114,97,110,107]⟩⟩),a5b]
def bab : AV := .agg [.v (.string ⟨⟨[102,114,97,109,101]⟩⟩),a5b]
def ba3 : AV := .lst 2 [bab,ba4]
def ars : AV := .agg [.v (.string ⟨⟨[109]⟩⟩),ba3,bau,.lst 2 [.agg [.v (.string ⟨⟨[100]⟩⟩),.v (.int .i64 1)]]]
theorem bb2 : Con prog 91 [] [] (ars) [] := ayb ⟨orF [] (bac (bbe cr1 aq6 ap1)),feG prog,a80⟩ 6000 (base := 2000) (av := []) (by kernel_rfl)
def a4m : List (Ent prog) := ⟨_,_,_,_,bb2⟩ :: []
theorem bdj : Con prog 52 [ars,.v (.int .i64 0),.agg [.v (.bool false),.v (.slice none 0 0),.v (.slice none 0 0),.v (.bool true)],.agg [.v (.slice none 0 0),.lst 4 [a5a,.agg [.v (.slice none 0 0),.v (.slice none 0 0),.v (.slice none 0 0),.v (.slice none 0 0)]],.v (.slice none 0 0)]] [] (.tup [.lst 3 [.agg [.v (.slice none 0 0),.lst 4 [.agg [.lst 3 [.agg [.v (.bool true),.lst 1 [.v (.int .u32 1)],.lst 1 [.v (.int .u32 1)]]],.v (.slice none 0 0),.lst 3 [],.lst 3 []]],.v (.int .i64 1)]],.v .nilIface]) [] := ayb ⟨orF a4m (bac (bbe cr1 aq6 ap1)),feG prog,a80⟩ 6000 (base := 2000) (av := []) (by kernel_rfl)
def a4z : List (Ent prog) := ⟨_,_,_,_,bdj⟩ :: a4m
theorem bc6 : Con prog 98 [ars,.lst 4 [.agg [.v (.bool false),.v (.slice none 0 0),.v (.slice none 0 0),.v (.bool true)]]] [] (.tup [.ms 300 3 0 1,.v .nilIface]) [(300,some (.row 3 [.agg [.v (.slice none 0 0),.lst 4 [a5a,.agg [.lst 3 [.agg [.v (.bool true),.lst 1 [.v (.int .u32 1)],.lst 1 [.v (.int .u32 1)]]],.v (.slice none 0 0),.v (.slice none 0 0),.v (.slice none 0 0)]],.lst 1 [.v (.int .i64 1)]]]))] := ayb ⟨orF a4z (bac (bbe cr1 aq6 ap1)),feG prog,a80⟩ 6000 (base := 2000) (av := []) (by kernel_rfl)
def a4s : List (Ent prog) := ⟨_,_,_,_,bc6⟩ :: a4z
theorem bct : Con prog 93 [ars,ars] [] (.v (.bool true)) [] := ayb ⟨orF a4s (bac (bbe cr1 aq6 ap1)),feG prog,a80⟩ 6000 (base := 2000) (av := []) (by kernel_rfl)
def a99 : List (Ent prog) := ⟨_,_,_,_,bct⟩ :: a4s
theorem amy : FnC prog 21 [] (bl true) := ayb ⟨orF a99 (bac (bbe cr1 aq6 ap1)),feG prog,a80⟩ 6000 (base := 2000) (av := []) (by kernel_rfl)
end Go.Lw
namespace Go.Lw
open Go.Proofs
theorem azr : Sub (.agg [.v (.string ⟨#[]⟩), .v (.slice none 0 0), .v (.slice none 0 0), .v (.slice none 0 0)]) li0.av :=
 Sub.agg (.cons (.refl _) (.cons (.nil _ _ _) (.cons (.nil _ _ _) (.cons (.nil _ _ _) .nil)))) rfl
theorem ayg (l : Li) (hw : l.okw) (xs : List Tn) (hxw : ∀ x ∈ xs, x.t.wok) (hxl : xs.length <= 281474976710656) : FnC prog 4 [l.av, .lst 4 (xs.map Tn.av)] (bl true) := by
 refine gF0 func4 ?_
 refine gc amy ?_ (1,4)
 first | (refine gs (ab6 rfl rfl rfl (fun h => aar (.tmp rfl) rfl rfl T26 rfl rfl rfl)) ?_; trace "@@linkwork/linkworklaw58.RecomputeNil 1.3 aar") | (refine go ?_; trace "@@linkwork/linkworklaw58.RecomputeNil 1.3 s_auto")
 refine gcG (fun _ => (ati l hw xs hxl)) ?_
 refine gC (fun ht17 => ?_) (fun ht17 => ?_)
 ·refine gc amy ?_
  refine gE1 ?_
  first | rfl | (simp; done)
 ·refine gc (atk (xs.map Tn.av)) ?_ (5, 2)
  first | (refine go ?_; refine gl ?_; trace "@@linkwork/linkworklaw58.RecomputeNil 5.1 a21") | (refine go ?_; refine ge rfl ?_; trace "@@linkwork/linkworklaw58.RecomputeNil 5.1 akz") | (refine go ?_; trace "@@linkwork/linkworklaw58.RecomputeNil 5.1 s_auto")
  refine gcG (fun _ => (alb 1 1)) ?_ (5,11)
  first | (refine gs (ab6 rfl rfl rfl (fun h => aar (.tmp rfl) rfl rfl T26 rfl rfl rfl)) ?_; trace "@@linkwork/linkworklaw58.RecomputeNil 5.10 aar") | (refine go ?_; trace "@@linkwork/linkworklaw58.RecomputeNil 5.10 s_auto")
  refine gcG (fun _ => (asu l)) ?_
  refine gcG (fun _ => (alb 1 1)) ?_
  refine gcG (fun _ => ap5) ?_
  refine gcG (fun _ => aqb) ?_
  refine gcG (fun _ => ar5) ?_
  refine gcG (fun _ => (Con.subA (.cons azr (.cons azr .nil)) (amz li0 ba6))) ?_
  refine gC (fun ht56 => ?_) (fun ht56 => ?_) (st1 := (6,0))
  ·exact absurd ht56 (by simp [aab])
  ·refine gc an9 ?_
   refine gc av5 ?_
   refine gc (asq (xs.map Tn.av)) ?_
   refine gc (alb 11 11) ?_
   refine gE1 ?_
   rfl
end Go.Lw
namespace Go.Lw
open Go.Proofs Go.Proofs.YtjidoooidfcjgaaGreat
open Go.ChangeShapes Go.WideShapes Go.ChangeAt Go.RowKit
set_option maxRecDepth 100000 in
theorem ah4 (os : Os) (started : os.Started) (H : Type) (enc : TypeId × Value -> H) :
  ReturnsInHanded {} Tryz.checked os 4 .any (Rows.recomputeNilSpec.pre6 enc prog Tryz.f4 Rows.recomputeNilRow.domain false) (Rows.recomputeNilSpec.post enc prog Tryz.f4 false true false false) := by
 refine returnsInHanded_of_change_sized (C := Tryz.checked) own started (by kernel_rfl) func4
  (ChangeSpec.witness6 (enc := enc) (C := Tryz.checked) false ⟨#[],#[.agg #[.string ⟨#[]⟩,.slice none 0 0,.slice none 0 0,.slice none 0 0],.slice none 0 0],[]⟩ 8 (by kernel_rfl) (by kernel_rfl) (by kernel_rfl) (by kernel_rfl)) ?_
 intro W base args ds gs before hval0 hW hcnd hwt0 _
 have hval : ∀ (j : Nat) t v,Tryz.f4.params[j]? = some t -> args[j]? = some v -> Value.okWide prog W .any base t v := hval0
 have hwt : (DataW.weightsEach prog (Tryz.f4.params.toList ++ Rows.recomputeNilSpec.plain.varTypes prog) (ds ++ gs)).all (· <= reachBytes) = true := hwt0
 have hW' := hW
 obtain ⟨p,q,hA0,hV,rfl,hfz,hnd⟩ := hW
 have hA : DataW.TrodAll enc prog W 0 (fun _ => true) true Tryz.f4.params.toList args.toList ds p := hA0
 rw [Tryz.params4] at hA hval hwt
 obtain ⟨v0,v1,d0,d1,p0,p1,rfl,rfl,rfl,h0,h1⟩ := trodAll_two hA
 obtain ⟨rfl,rfl⟩ := trodVars_none hV
 clear hA0 hval0 hwt0
 have hlt : ∀ x ∈ p0 ++ p1,x.block < W.heap.size := fun x hx => hW'.lt x (by simpa using hx)
 have hw0 : ∀ n ∈ d0.weights prog 26, n <= reachBytes := fun n hn => by
  have := List.all_eq_true.1 hwt n (DataW.weights_mem_each (j := 0) rfl rfl n hn)
  simpa using this
 have hw1 : ∀ n ∈ d1.weights prog 55, n <= reachBytes := fun n hn => by
  have := List.all_eq_true.1 hwt n (DataW.weights_mem_each (j := 1) rfl rfl n hn)
  simpa using this
 obtain ⟨x0,q0,r0⟩ := a5t Tryz.underlying26 a61 (hval 0 26 v0 rfl rfl) h0 hw0
 obtain ⟨x1,q1,r1⟩ := a7h a1x (fun _ => rfl) (apz Tryz.underlying55 (hval 1 55 v1 rfl rfl)) h1 hw1
 have hc := FnC.calls (W := W) (vs := #[v0, v1]) (ayg x0 q0 x1 q1.1 q1.2) rfl (fun j v x hv hx => by
  match j,hv,hx with
  | 0,hv,hx => cases hv; cases hx; exact r0
  | 1,hv,hx => cases hv; cases hx; exact r1)
 refine hc.mono fun e W' ⟨he,hb⟩ => ?_
 subst he
 refine ⟨_,rfl,aog hW' rfl rfl (fun _ _ _ => trodAll_mk1 (shut_bool Tryz.underlying4 _)) (fun sp hsp => ?_) rfl hb (ok_one (by kernel_rfl) rfl (okWide_bool_mk Tryz.underlying4 _))⟩
 rw [Tryz.params4]
 have hs : ∀ x ∈ p0 ++ p1,sp x.block = true := fun x hx => hsp x (by simpa using hx)
 have g0 := at4 (sp' := sp) (by kernel_rfl) (of_decide_eq_true (by kernel_rfl)) h0 hb (fun x hx => hlt x (by simp [hx])) (fun x hx => hs x (by simp [hx]))
 have g1 := at4 (sp' := sp) (by kernel_rfl) (of_decide_eq_true (by kernel_rfl)) h1 hb (fun x hx => hlt x (by simp [hx])) (fun x hx => hs x (by simp [hx]))
 have g := trodAll_mk2 g0 g1
 rw [show p0 ++ p1 ++ [] = p0 ++ p1 from by simp]
 exact g
set_option maxRecDepth 100000 in
theorem akh : prog.closure 4 = [4,21,31,91,120,221,241,333,222,133,236,239,332,240,215,237,330,393,334,395,243,394,242,238,331,396,244,25,102,198,300,372,373,410,199,229,326,308,312,380,377,381,422,423,362,424,425,421,426,427,310,271,270,327,307,311,200,301,302,374,207,306,379,201,100,108,109,197,299,23,93,185,186,187,188,189,190,96,191,94,95,97,192,193,98,194,144,260,348,401,432,444,434,447,448,446,402,433,445,436,435,403,261,349,210,313,295,196,150,208,209,309,376,378,149,206,305,268,350,345,364,195,296,370,297,52,56,145,262,263,351,286,367,288,368,366,285,269,111,146,264,352,147,266,363,265,353,359,409,354,404,355,405,406,356,407,408,437,357,358,360,361,148,267,138,247,335,281,397,431,443,248,151,157,73,71,167,169,168,284,164,365,282,163,287,231,159,170,158,249,155,280,68,161,283,165,59,258,347,400,65,162,63,66,250,139,58,152,156,251,336,398,337,61,252,153,272,225,273,205,154,275,160,274,277,276,279,278,338,339,340,399,341,342,343,256,344,346,253,259,140,62,72,254,141,69,166,64,70,67,255,257,298,371,99,101,26,27,22,92,24,16,29,28,103,202,303,30]:=by kernel_rfl
theorem aia : joinedFacts prog 4 Tryz.f4 Rows.recomputeNilSpec Rows.recomputeNilRow = true := by
 unfold joinedFacts Program.recurses Program.inPlace Program.unfollowed Program.varsNamed
 rw [akh,azy,a1s,a2p,a7g,a1u,a2b]
 kernel_rfl
theorem recomputeNil_holds : Rows.RecomputeNilSaid :=
 OpenClaim.holds_of_wide 4 Tryz.f4 rfl rfl rfl rfl rfl rfl rfl ⟨rfl, rfl, rfl, rfl, rfl⟩ rfl rfl rfl rfl rfl (by kernel_rfl) func4 aia
  (of_decide_eq_true (by kernel_rfl)) (by unfold Func.isWrapper; first | (rw [if_pos (by decide +kernel)]; kernel_rfl) | (rw [if_neg (by decide +kernel)]; exact ⟨rfl,rfl⟩))
  (fun os started H enc _ => ah4 os started H enc)
end Go.Lw
namespace Go.Proofs.YtjidoooidfcjgaaGreat
theorem recomputeNil_proved : Rows.RecomputeNilSaid := Go.Lw.recomputeNil_holds
end Go.Proofs.YtjidoooidfcjgaaGreat
