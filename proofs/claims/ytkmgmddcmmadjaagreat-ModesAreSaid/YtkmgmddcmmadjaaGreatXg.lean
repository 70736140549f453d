/- ModesAre: for any linkage, any turns and any assembly the law returns true and leaves its arguments as they were. No other condition. Part 7 of 7: the statement -/
import Derived.Test.YtkmgmddcmmadjaaGreatXf
import Derived.Laws.Pointers
set_option linter.unusedVariables false
open List (mem_of_getElem? mem_cons_of_mem mem_append map_cons mem_cons length_cons mem_cons_self length_nil getD_eq_getElem?_getD all_eq_true getElem?_take getElem?_map getElem?_eq_getElem nil_append map_append length_take drop_zero take_length not_mem_nil length_map mem_of_mem_take map_take map_map map_id range_succ map_singleton)
open Nat (eq_of_beq_eq_true le_refl le_trans zero_le)
open Bool (and_eq_true)
open Int (toNat_natCast)
open Go.Proofs.Tryz
namespace Go.Lw
open Go.Proofs
theorem bl6 {l:Li} {k:Int} {a:As} {n:Nat} {g:Gr} (D:DyR l a) (ok:DyOk l k a true n g):∃ e, Nm (llq a.rs).length e (ayq l a g) /\ e <= 1520000000:=by
 haveI c:=D.al.ct D.hc
 have hz:∃ x w v, Zl (llq a.rs) 4000 300000 (ayq l a g) x w v /\ w + v <= 5000:=by
  unfold ayq
  by_cases h0:g.kind = 0
  ·rw [if_pos h0]
   haveI:Qz 4000 (((1:Int)):Rat) 1:=Qz.int (c:=Ct.cx (c:=c)) (by decide)
   exact ⟨_,_,_,(inferInstance:Zl (llq a.rs) 4000 300000 (sh 0 (((1:Int):Rat):Rat)) _ _ _),by decide⟩
  ·rw [if_neg h0]
   obtain ⟨w,v,hw,hs⟩:=bll D ok h0
   exact ⟨_,w,v,(inferInstance:Zl (llq a.rs) 4000 300000 (sX (ass l a g)) _ _ _),hs⟩
 obtain ⟨x,w,v,z,hs⟩:=hz
 exact ⟨_,z.nm,by omega⟩
def a2v (l:Li) (a:As) (k:Nat):Int:=T.sgn (aat (llq a.rs)) (llq a.rs).length (dec (llq a.rs).length (ayq l a (gAt l k)))
theorem a63 {l:Li} {a:As} (hg:Good l a) (hs:splitE l = 0) {k:Nat} (hk:k < (splitG l).length) :
  ∃ e,Nm (llq a.rs).length e (ayq l a (gAt l k)) /\ e <= 1520000000:=by
 obtain ⟨n,g,ok⟩:=bhr (a9f hg hs hk true)
 have hn:(k:Int) = n:=ok.hk
 have e:gAt l k = g:=aaf (by have:=ok.hg; rw [show (k:Int).toNat = n by omega]; exact this)
 rw [e]
 exact bl6 (be4 hg.lo hg.al ok) ok
theorem a60 {l:Li} {a:As} (hg:Good l a) (hs:splitE l = 0) {k:Nat} (hk:k < (splitG l).length) :
  FnC prog 39 [l.av,i64 k,a.av] (.tup [nA (ayq l a (gAt l k)),.v .nilIface]):=by
 have h:=bdb l hg.lo k a hg.al
 rw [a9f hg hs hk true,if_pos rfl] at h
 exact h
theorem a3u {l:Li} {a:As} (hg:Good l a) (hs:splitE l = 0) {k:Nat} (hk:k < (splitG l).length) :
  FnC prog 40 [ae6 a.rs,nA (ayq l a (gAt l k))] (.tup [i64 (a2v l a k),.v .nilIface]):=by
 obtain ⟨tw,hta,h5,hll⟩:=hg.tw
 obtain ⟨e,hn,he⟩:=a63 hg hs hk
 have hlm:=aec (llq a.rs).length
 rw [hta]
 exact ay5 tw hn (by omega)
theorem alv (l:Li) (hl:l.ok) (xs:List Tn) (hx:∀ x ∈ xs, x.t.ok /\ Qb 1000 x.t.q) (hxl:xs.length <= 281474976710656) (a:As) (ha:AL a) :
  FnC prog 38 [l.av,.lst 4 (xs.map Tn.av),a.av] (.tup [.lst 4 ((if acE l xs a = 0 then splitG l else []).map Gr.av),ahr (acE l xs a)]):=by
 refine gF0 func38 ?_
 refine gc (are l hl) ?_
 refine gC (fun ht18=>?_) (fun ht18=>?_)
 ·have h1:=ac3 ht18
  refine gR ?_
  exact ah7 (by rw [brq rfl h1,if_neg h1]; exact Sub.nil _ _ _) (Sub.of (by rw [brq rfl h1]))
 ·have h1:=ac0 ht18
  obtain ⟨h1, h2⟩:liE l = 0 /\ splitE l = 0:=by
   by_cases h2:liE l = 0
   ·rw [if_pos h2] at h1; exact ⟨h2,h1⟩
   ·rw [if_neg h2] at h1; exact absurd h1 h2
  refine gc (aor hl xs hx hxl ha) ?_
  refine gC (fun ht28=>?_) (fun ht28=>?_)
  ·have h3:=ac3 ht28
   refine gR ?_
   exact ah7 (by rw [bo2 h1 h2 h3,if_neg h3]; exact Sub.nil _ _ _) (Sub.of (by rw [bo2 h1 h2 h3]))
  ·have h3:=ac0 ht28
   refine gC (fun ht32=>?_) (fun ht32=>?_)
   ·have h4:(flt l xs a).1 ≠ 0:=by
     intro h5
     rw [h3,h5] at ht32
     cases ht32
    refine gR ?_
    exact ah7 (by rw [bou h1 h2 h3 h4,if_neg (by decide)]; exact Sub.nil _ _ _) (Sub.of (by rw [bou h1 h2 h3 h4]; rfl))
   ·have h4:(flt l xs a).1 = 0:=by
     refine Decidable.byContradiction fun h5=>?_
     rw [decide_eq_false h5,Bool.and_false] at ht32
     cases ht32
    refine gE2 ?_
    rw [brn h1 h2 h3 h4,if_pos rfl,if_pos h1]; rfl
theorem amw (l:Li) (hl:l.ok) (xs:List Tn) (hx:∀ x ∈ xs, x.t.ok /\ Qb 1000 x.t.q) (hxl:xs.length <= 281474976710656) (a:As) (ha:AL a) :
  FnC prog 9 [l.av,.lst 4 (xs.map Tn.av),a.av] (.tup [.lst 1 ((if acE l xs a = 0 then (List.range (splitG l).length).map (a2v l a) else []).map i64),ahr (acE l xs a)]):=by
 refine gF0 func9 ?_
 refine gc (alv l hl xs hx hxl a ha) ?_
 refine gC (fun ht23=>?_) (fun ht23=>?_)
 ·have h1:=ac3 ht23
  refine gR ?_
  exact ah7 (by rw [if_neg h1]; exact Sub.nil _ _ _) (.refl _)
 ·have h1:=ac0 ht23
  obtain ⟨h2,h3,h4,h5⟩:=bot h1
  have hg:=ata hl h2 ha h5
  have hgl:=a49 h2
  rw [if_pos h1,if_pos h1]
  refine gl ?_
  refine gW (Wk.virt 900 1 rfl) ?_
  refine gL1 [3,5,26] [3,5] (fun (i:Nat)=>[(10,some (.ms 900 1 0 i)),(27,some (i64 i))]) (fun i=>[(900,some (.row 1 (((List.range i).map (a2v l a)).map i64)))]) (fun i=>i <= (splitG l).length) (fun i=>(splitG l).length - i) 0 (zero_le _) ?_
  rintro i hi K1 hK1
  refine gC (fun ht28=>?_) (fun ht28=>?_) (st2:=(16,0))
  ·have hin:=aa0 ht28
   refine gc (a60 hg h3 hin) ?_
   refine gC (fun ht38=>?_) (fun ht38=>?_) (st1:=(10,0))
   ·cases ht38
   ·refine gc (a3u hg h3 hin) ?_
    refine gC (fun ht48=>?_) (fun ht48=>?_) (st1:=(13,0))
    ·cases ht48
    ·refine gs (aa3 (.tmp rfl) rfl (by simp) (.tmp rfl) T32 rfl T3 rfl rfl (by simp only [length_cons, length_nil]; omega) rfl rfl) ?_ (15, 0)
     refine gW (Wk.of (sl:=[(3,some (.ptr 3 0)),(5,some (.ptr 5 0)),(10,some (.ms 53 1 0 (i + 1))),(26,some (i64 (splitG l).length)),(27,some (i64 i))]) (hp:=[(3,some (.box l.av.cells)),(5,some (.box a.av.cells)),(53,some (.row 1 (((List.range (i + 1)).map (a2v l a)).map i64)))]) abl (.cons rfl (.refl _) (.cons rfl (.refl _) (.cons rfl (BlkSub.of (by rw [range_succ]; simp)) .nil)))) ?_ (15,0)
     refine gW (Wk.rekey (k:=53) (d:=900) rfl rfl) ?_
     refine ga aan ?_
     exact gK1 hK1 (i + 1) hin
  ·have hin:=aai hi ht28
   subst hin
   refine gW ((Wk.freeze (k:=900) rfl).trans <| Wk.of (sl:=[(10,some (.lst 1 (((List.range (splitG l).length).map (a2v l a)).map i64)))]) (hp:=[]) (.cons rfl (Sub.of (by rw [abw (by simp)])) .nil) .nil) ?_
   refine gE2 ?_
   rw [h1]; rfl
end Go.Lw
namespace Go.Lw
open Go.Proofs
end Go.Lw
namespace Go.Lw
open Go.Proofs
def sgQ (f:Int) (q:Rat):Rat:=if f < 0 then -q else q
theorem bl1 {q:Rat} (h:Qs q):FnC prog 68 [qA q] (qA q):=by
 have h1:=azl (rt q) h.ok
 rw [agb] at h1
 exact h1
theorem bn5 {q:Rat} (h:Qs q):Qs (-q):=by
 obtain ⟨k,hk,h1,h2⟩:=h
 exact ⟨k,hk,h1.neg,h2⟩
theorem aqh (x:List Rat) (hx:∀ q ∈ x, Qs q) (hl:x.length <= 1000) (f:Int):FnC prog 41 [nA x, i64 f] (nA (x.map (sgQ f))):=by
 refine gF0 func41 ?_
 refine gl ?_
 refine gW (Wk.virt 900 3 rfl) ?_
 refine gL1 [1,8,9] [] (fun (i:Nat)=>[(5,some (.ms 900 3 0 i)),(10,some (i64 i))]) (fun i=>[(900,some (.row 3 (((x.take i).map (sgQ f)).map qA)))]) (fun i=>i <= x.length) (fun i=>x.length - i) 0 (zero_le _) ?_
 rintro i hi K1 hK1
 refine gC (fun ht11=>?_) (fun ht11=>?_) (st2:=(9,0))
 ·have hin:=aa0 ht11
  obtain ⟨q,hq⟩:=abu hin
  have hqs:=hx q (mem_of_getElem? hq)
  refine gi (aad hq) ?_
  refine gC (fun ht15=>?_) (fun ht15=>?_)
  ·have hs:sgQ f q = -q:=if_pos (of_decide_eq_true ht15)
   have hw:=bl1 (bn5 hqs)
   refine gc (bny hqs) ?_
   refine gc hw ?_
   refine gs (aa3 (.tmp rfl) rfl (av7 (by omega)).symm (.tmp rfl) T65 rfl T70 rfl rfl (by simp only [length_cons,length_nil]; omega) rfl rfl) ?_ (8,0)
   refine gW (Wk.of (sl:=[(1,some (i64 f)),(5,some (.ms 22 3 0 (i + 1))),(8,some (.lst 3 (x.map qA))),(9,some (i64 x.length)),(10,some (i64 i))]) (hp:=[(22,some (.row 3 (((x.take (i + 1)).map (sgQ f)).map qA)))]) abl (.cons rfl (BlkSub.of (by rw [aih hq,hs])) .nil)) ?_ (8,0)
   refine gW (Wk.rekey (k:=22) (d:=900) rfl rfl) ?_
   refine ga aan ?_
   exact gK1 hK1 (i + 1) hin
  ·have hs:sgQ f q = q:=if_neg (of_decide_eq_false ht15)
   have hw:=bl1 hqs
   refine gc hw ?_
   refine gs (aa3 (.tmp rfl) rfl (av7 (by omega)).symm (.tmp rfl) T65 rfl T70 rfl rfl (by simp only [length_cons,length_nil]; omega) rfl rfl) ?_ (8,0)
   refine gW (Wk.of (sl:=[(1,some (i64 f)),(5,some (.ms 22 3 0 (i + 1))),(8,some (.lst 3 (x.map qA))),(9,some (i64 x.length)),(10,some (i64 i))]) (hp:=[(22,some (.row 3 (((x.take (i + 1)).map (sgQ f)).map qA)))]) abl (.cons rfl (BlkSub.of (by rw [aih hq,hs])) .nil)) ?_ (8,0)
   refine gW (Wk.rekey (k:=22) (d:=900) rfl rfl) ?_
   refine ga aan ?_
   exact gK1 hK1 (i + 1) hin
 ·have hin:=aai hi ht11
  subst hin
  refine gW ((Wk.freeze (k:=900) rfl).trans <| Wk.of (sl:=[(5,some (.lst 3 ((x.map (sgQ f)).map qA)))]) (hp:=[]) (.cons rfl (Sub.of (by rw [abw (av7 (le_refl _)).symm,take_length])) .nil) .nil) ?_
  refine gE1 ?_
  rfl
theorem aqc (l:Li) (hl:l.ok) (xs:List Tn) (hx:∀ x ∈ xs, x.t.ok /\ Qb 1000 x.t.q) (hxl:xs.length <= 281474976710656) (a:As) (ha:AL a) :
  FnC prog 11 [l.av,.lst 4 (xs.map Tn.av),a.av,a.av] (.tup [.v (.slice none 0 0),ahr (acE l xs a)]):=by
 refine gF0 func11 ?_
 refine gc (amw l hl xs hx hxl a ha) ?_
 refine gC (fun ht23=>?_) (fun ht23=>?_)
 ·refine gE2 ?_
  rfl
 ·have h1:=ac0 ht23
  obtain ⟨h2,h3,h4,h5⟩:=bot h1
  have hgl:=a49 h2
  have hO:=amw l hl xs hx hxl a ha
  rw [h1,if_pos rfl] at hO
  rw [h1,if_pos rfl]
  refine gc hO ?_
  refine gC (fun ht33=>?_) (fun ht33=>?_) (st1:=(6,0))
  ·cases ht33
  ·refine gl ?_
   refine gL1 [10,12,13] [] (fun (i:Nat)=>[(36,some (i64 (splitG l).length)),(37,some (i64 i))]) (fun _=>[]) (fun i=>i <= (splitG l).length) (fun i=>(splitG l).length - i) 0 (zero_le _) ?_ (h1:=(.cons rfl (Sub.int (congrArg Int.ofNat (show ((List.range (splitG l).length).map (a2v l a)).length = (splitG l).length by rw [length_map,List.length_range]))) (.k .nil)))
   rintro i hi K1 hK1
   refine gC (fun ht38=>?_) (fun ht38=>?_)
   ·have hin:=aa0 ht38
    have hm:((List.range (splitG l).length).map (a2v l a))[i]? = some (a2v l a i):=by simp [hin]
    refine gi (aad hm) ?_
    refine gi (aad hm) ?_
    refine gD ?_
    refine gC (fun ht48=>?_) (fun ht48=>?_) (st1:=(12,0))
    ·exact absurd ht48 (by simp [aaa])
    ·refine ga aan ?_
     exact gK1 hK1 (i + 1) hin
   ·refine gE2 ?_
    rfl
end Go.Lw
namespace Go.Lw
open Go.Proofs
def bjl (x:List Rt):List Rt:=((lq x).map fun q=>-q).map rt
def a7e (b:Pl):Pl:=⟨b.c,bjl b.s,b.x,bjl b.y⟩
def ngI (m:Int):Int:=IntKind.i64.wrap (0 - m)
def ayw (l:Li) (a:As) (k:Nat):Int:=if ((splitG l).getD k default).kind = 1 then ngI (a.ms.getD k 0) else a.ms.getD k 0
def atj (l:Li) (a:As):List Int:=if a.ms.length = (splitG l).length then (List.range a.ms.length).map (ayw l a) else []
def a28 (l:Li) (a:As):As:=⟨a.rs,a.bs.map a7e,atj l a⟩
theorem ap4 {l:Li} {a:As} (hg:Good l a) {b:Pl} (hb:b ∈ a.bs) {x:List Rt} (hx:x ∈ b.l):nR x = nA (lq x) /\ (∀ q ∈ lq x, Qs q) /\ (lq x).length <= 32:=by
 have hn:=(acu (hg.cb b hb)).2 x hx
 have hr:=hg.al.nr b hb x hx
 obtain ⟨e1,e2⟩:=hr.num hn
 exact ⟨e1,fun q hq=>hr.cb.qs (by omega) hq,e2.len5 hg.tw.2.2.1⟩
theorem a0q {l:Li} {a:As} (hg:Good l a) {r:List Rt} (hr:r ∈ a.rs):nR r = nA (lq r) /\ (∀ q ∈ lq r, Qs q) /\ (lq r).length <= 32:=by
 obtain ⟨tw,hta,h5,hll⟩:=hg.tw
 have h1:a.rs.map nR = a.rs.map (fun x=>nA (lq x)):=by
  have h2:(AV.lst 1 (a.rs.map nR)) = AV.lst 1 ((llq a.rs).map nA):=by
   have:=AV.agg.inj hta
   exact (List.cons.inj this).1
  have h3:=(AV.lst.inj h2).2
  rw [h3]; unfold llq; rw [map_map]; rfl
 have h2:=List.map_inj_left.1 h1 r hr
 have hm:lq r ∈ llq a.rs:=List.mem_map.2 ⟨r,hr,rfl⟩
 refine ⟨h2,tw.rb.qs tw.le _ hm,?_⟩
 obtain ⟨j,hj,e⟩:=List.mem_iff_getElem.1 hm
 have h6:=tw.len j hj
 rw [aaf (getElem?_eq_getElem hj),e] at h6
 have h7:=tw.three
 rw [h6]
 exact le_trans (Nat.pow_le_pow_right (by omega) (show j <= 5 by omega)) (by decide)
theorem a7t {x:List Rt} (e:nR x = nA (lq x)) (hq:∀ q ∈ lq x, Qs q) (hl:(lq x).length <= 32):FnC prog 41 [nR x, i64 1] (nR x):=by
 have h:=aqh (lq x) hq (by omega) 1
 rw [show (lq x).map (sgQ 1) = lq x from by rw [show sgQ 1 = id from funext fun q=>if_neg (by decide)]; exact map_id _,<- e] at h
 exact h
theorem bgl {x:List Rt} (e:nR x = nA (lq x)) (hq:∀ q ∈ lq x, Qs q) (hl:(lq x).length <= 32):FnC prog 41 [nR x, i64 (-1)] (nR (bjl x)):=by
 have h:=aqh (lq x) hq (by omega) (-1)
 rw [<- e,show sgQ (-1) = (fun q=>-q) from funext fun q=>if_pos (by decide)] at h
 unfold bjl
 rw [ae5]
 exact h
theorem arm (l:Li) (hl:l.ok) (xs:List Tn) (hx:∀ x ∈ xs, x.t.ok /\ Qb 1000 x.t.q) (hxl:xs.length <= 281474976710656) (a:As) (ha:AL a) (hml:a.ms.length <= 20) (hrl:a.rs.length <= 20) :
  FnC prog 10 [l.av,.lst 4 (xs.map Tn.av),a.av] (.tup [(if acE l xs a = 0 then a28 l a else ⟨[],[],[]⟩:As).av,ahr (acE l xs a)]):=by
 have hbl:=ha.bl
 refine gF0 func10 ?_
 refine gc (alv l hl xs hx hxl a ha) ?_
 refine gC (fun ht25=>?_) (fun ht25=>?_)
 ·have h1:=ac3 ht25
  refine gR ?_
  exact ah7 (by rw [if_neg h1]; exact Sub.agg (.cons (.nil _ _ _) (.cons (.nil _ _ _) (.cons (.nil _ _ _) .nil))) rfl) (.refl _)
 ·have h1:=ac0 ht25
  obtain ⟨h2,h3,h4,h5⟩:=bot h1
  have hg:=ata hl h2 ha h5
  have hgl:=a49 h2
  rw [if_pos h1,if_pos h1,h1]
  refine gl ?_
  refine gW (Wk.virt 900 1 rfl) ?_
  refine gL1 [5,6,8,10,30,31] [5,6] (fun (i:Nat)=>[(32,some (i64 i))]) (fun i=>[(10,some (.box [.ms 900 1 0 i,.v (.slice none 0 0),.v (.slice none 0 0)])),(900,some (.row 1 ((a.rs.take i).map nR)))]) (fun i=>i <= a.rs.length) (fun i=>a.rs.length - i) 0 (zero_le _) ?_ (h2:=(.cons rfl (BlkSub.boxL (.cons (.nilMs _ _ _) (.cons (.refl _) (.cons (.refl _) .nil))) rfl) (.cons rfl (.refl _) .nil)))
  rintro i hi K1 hK1
  refine gC (fun ht33=>?_) (fun ht33=>?_) (st2:=(10,0))
  ·have hin:=aa0 ht33
   obtain ⟨r,hr⟩:=abu hin
   obtain ⟨k1,k2,k3⟩:=a0q hg (mem_of_getElem? hr)
   refine gi (aad hr) ?_
   refine gc (a7t k1 k2 k3) ?_
   refine gs (aa3 (.tmp rfl) rfl (a10 (by omega)).symm (.tmp rfl) T28 rfl T65 rfl rfl (by simp only [length_cons,length_nil]; omega) rfl rfl) ?_
   refine gD ?_ (9,0)
   refine gW (Wk.of (sl:=[(5,some (.ptr 5 0)),(6,some (.ptr 6 0)),(8,some (.lst 4 ((splitG l).map Gr.av))),(10,some (.ptr 10 0)),(30,some (.lst 1 (a.rs.map nR))),(31,some (i64 a.rs.length)),(32,some (i64 i))]) (hp:=[(5,some (.box a.av.cells)),(6,some (.box [.v (.slice none 0 0),.v (.slice none 0 0),.v (.slice none 0 0)])),(10,some (.box [.ms 42 1 0 (i + 1),.v (.slice none 0 0),.v (.slice none 0 0)])),(42,some (.row 1 ((a.rs.take (i + 1)).map nR)))]) abl (.cons rfl (.refl _) (.cons rfl (.refl _) (.cons rfl (.refl _) (.cons rfl (BlkSub.of (by rw [aam hr,map_append]; rfl)) .nil))))) ?_ (9,0)
   refine gW (Wk.rekey (k:=42) (d:=900) rfl rfl) ?_
   refine ga aan ?_
   exact gK1 hK1 (i + 1) hin
  ·have hin:=aai hi ht33
   subst hin
   refine gW ((Wk.freeze (k:=900) rfl).trans <| Wk.of (sl:=[(5,some (.ptr 5 0)),(6,some (.ptr 6 0)),(8,some (.lst 4 ((splitG l).map Gr.av))),(10,some (.ptr 10 0))]) (hp:=[(5,some (.box a.av.cells)),(6,some (.box [.v (.slice none 0 0),.v (.slice none 0 0),.v (.slice none 0 0)])),(10,some (.box [.lst 1 (a.rs.map nR),.v (.slice none 0 0),.v (.slice none 0 0)]))]) abl (.cons rfl (.refl _) (.cons rfl (.refl _) (.cons rfl (BlkSub.boxL (.cons (.of (by rw [abw (a10 (le_refl _)).symm,take_length])) (.cons (.refl _) (.cons (.refl _) .nil))) rfl) .nil)))) ?_
   refine gl ?_
   refine gW (Wk.virt 900 4 rfl) ?_
   refine gL1 [5,6,8,10,47,48] [5,6] (fun (i:Nat)=>[(49,some (i64 i))]) (fun i=>[(10,some (.box [.lst 1 (a.rs.map nR),.ms 900 4 0 i,.v (.slice none 0 0)])),(900,some (.row 4 (((a.bs.take i).map a7e).map Pl.av)))]) (fun i=>i <= a.bs.length) (fun i=>a.bs.length - i) 0 (zero_le _) ?_ (h2:=(.cons rfl (BlkSub.boxL (.cons (.refl _) (.cons (.nilMs _ _ _) (.cons (.refl _) .nil))) rfl) (.cons rfl (.refl _) .nil)))
   rintro i hi2 K2 hK2
   refine gC (fun ht50=>?_) (fun ht50=>?_) (st2:=(15,0))
   ·have hin:=aa0 ht50
    obtain ⟨b,hb⟩:=abu hin
    have hbm:=mem_of_getElem? hb
    obtain ⟨k1,k2,k3⟩:=ap4 hg hbm (x:=b.c) (by simp [Pl.l])
    obtain ⟨k4,k5,k6⟩:=ap4 hg hbm (x:=b.s) (by simp [Pl.l])
    obtain ⟨k7,k8,k9⟩:=ap4 hg hbm (x:=b.x) (by simp [Pl.l])
    obtain ⟨m1,m2,m3⟩:=ap4 hg hbm (x:=b.y) (by simp [Pl.l])
    refine gi (aad hb) ?_
    refine gc (a7t k1 k2 k3) ?_
    refine gc (bgl k4 k5 k6) ?_
    refine gc (a7t k7 k8 k9) ?_
    refine gc (bgl m1 m2 m3) ?_
    refine gs (aa3 (.tmp rfl) rfl (av7 (by omega)).symm (.tmp rfl) T31 rfl T88 rfl rfl (by simp only [length_cons,length_nil]; omega) rfl rfl) ?_
    refine gD ?_ (14,0)
    refine gW (Wk.of (sl:=[(5,some (.ptr 5 0)),(6,some (.ptr 6 0)),(8,some (.lst 4 ((splitG l).map Gr.av))),(10,some (.ptr 10 0)),(47,some (.lst 4 (a.bs.map Pl.av))),(48,some (i64 a.bs.length)),(49,some (i64 i))]) (hp:=[(5,some (.box a.av.cells)),(6,some (.box [.v (.slice none 0 0),.v (.slice none 0 0),.v (.slice none 0 0)])),(10,some (.box [.lst 1 (a.rs.map nR),.ms 69 4 0 (i + 1),.v (.slice none 0 0)])),(69,some (.row 4 (((a.bs.take (i + 1)).map a7e).map Pl.av)))]) abl (.cons rfl (.refl _) (.cons rfl (.refl _) (.cons rfl (.refl _) (.cons rfl (BlkSub.of (by rw [aih hb]; rfl)) .nil))))) ?_ (14,0)
    refine gW (Wk.rekey (k:=69) (d:=900) rfl rfl) ?_
    refine ga aan ?_
    exact gK1 hK2 (i + 1) hin
   ·have hin:=aai hi2 ht50
    subst hin
    refine gW ((Wk.freeze (k:=900) rfl).trans <| Wk.of (sl:=[(5,some (.ptr 5 0)),(6,some (.ptr 6 0)),(8,some (.lst 4 ((splitG l).map Gr.av))),(10,some (.ptr 10 0))]) (hp:=[(5,some (.box a.av.cells)),(6,some (.box [.v (.slice none 0 0),.v (.slice none 0 0),.v (.slice none 0 0)])),(10,some (.box [.lst 1 (a.rs.map nR),.lst 4 ((a.bs.map a7e).map Pl.av),.v (.slice none 0 0)]))]) abl (.cons rfl (.refl _) (.cons rfl (.refl _) (.cons rfl (BlkSub.boxL (.cons (.refl _) (.cons (.of (by rw [abw (av7 (le_refl _)).symm,take_length])) (.cons (.refl _) .nil))) rfl) .nil)))) ?_
    refine gl ?_
    refine gl ?_
    refine gC (fun ht77=>?_) (fun ht77=>?_)
    ·have h6:a.ms.length ≠ (splitG l).length:=bbb ht77
     refine gR ?_
     exact ah7 (by unfold a28 atj; rw [if_neg h6]; exact Sub.agg (.cons (.refl _) (.cons (.refl _) (.cons (.nil _ _ _) .nil))) rfl) (.refl _)
    ·have h6 : a.ms.length = (splitG l).length := by have := arn ht77; omega
     refine gl ?_
     refine gW (Wk.virt 900 1 rfl) ?_
     refine gL1 [6,8,10,80,81] [6] (fun (i:Nat)=>[(82,some (i64 i))]) (fun i=>[(10,some (.box [.lst 1 (a.rs.map nR),.lst 4 ((a.bs.map a7e).map Pl.av),.ms 900 1 0 i])),(900,some (.row 1 (((List.range i).map (ayw l a)).map i64)))]) (fun i=>i <= a.ms.length) (fun i=>a.ms.length - i) 0 (zero_le _) ?_ (h2:=(.cons rfl (BlkSub.boxL (.cons (.refl _) (.cons (.refl _) (.cons (.nilMs _ _ _) .nil))) rfl) (.cons rfl (.refl _) .nil)))
     rintro i hi4 K3 hK3
     refine gC (fun ht83=>?_) (fun ht83=>?_) (st2:=(24,0))
     ·have hin:=aa0 ht83
      obtain ⟨m,hm⟩:=abu hin
      obtain ⟨g,hgi⟩:=abu (l:=splitG l) (i:=i) (by omega)
      refine gi (aad hm) ?_
      refine gi (aad hgi) ?_
      refine gC (fun ht92=>?_) (fun ht92=>?_)
      ·have hk : ayw l a i = ngI m := by unfold ayw; rw [aaf hgi, aaf hm, if_pos (aek ht92)]
       refine gs (a4g (.tmp rfl) rfl) ?_
       refine gs (aa3 (.tmp rfl) rfl (by simp) (.tmp rfl) T32 rfl T3 rfl rfl (by simp only [length_cons,length_nil]; omega) rfl rfl) ?_ (23,0)
       refine gW (Wk.of (sl:=[(6,some (.ptr 6 0)),(8,some (.lst 4 ((splitG l).map Gr.av))),(10,some (.ptr 10 0)),(80,some (.lst 1 (a.ms.map i64))),(81,some (i64 a.ms.length)),(82,some (i64 i))]) (hp:=[(6,some (.box [.v (.slice none 0 0),.v (.slice none 0 0),.v (.slice none 0 0)])),(10,some (.box [.lst 1 (a.rs.map nR),.lst 4 ((a.bs.map a7e).map Pl.av),.ms 99 1 0 (i + 1)])),(99,some (.row 1 (((List.range (i + 1)).map (ayw l a)).map i64)))]) abl (.cons rfl (.refl _) (.cons rfl (.refl _) (.cons rfl (BlkSub.of (by first | (rw [range_succ,map_append,map_append,map_singleton,map_singleton,hk]; done) | (rw [range_succ,map_append,map_append,map_singleton,map_singleton,hk]; rfl))) .nil)))) ?_ (23,0)
       refine gW (Wk.rekey (k:=99) (d:=900) rfl rfl) ?_
       refine ga aan ?_
       exact gK1 hK3 (i + 1) hin
      ·have hk : ayw l a i = m := by unfold ayw; rw [aaf hgi, aaf hm, if_neg (afa ht92)]
       refine gs (aa3 (.tmp rfl) rfl (by simp) (.tmp rfl) T32 rfl T3 rfl rfl (by simp only [length_cons,length_nil]; omega) rfl rfl) ?_ (23,0)
       refine gW (Wk.of (sl:=[(6,some (.ptr 6 0)),(8,some (.lst 4 ((splitG l).map Gr.av))),(10,some (.ptr 10 0)),(80,some (.lst 1 (a.ms.map i64))),(81,some (i64 a.ms.length)),(82,some (i64 i))]) (hp:=[(6,some (.box [.v (.slice none 0 0),.v (.slice none 0 0),.v (.slice none 0 0)])),(10,some (.box [.lst 1 (a.rs.map nR),.lst 4 ((a.bs.map a7e).map Pl.av),.ms 99 1 0 (i + 1)])),(99,some (.row 1 (((List.range (i + 1)).map (ayw l a)).map i64)))]) abl (.cons rfl (.refl _) (.cons rfl (.refl _) (.cons rfl (BlkSub.of (by first | (rw [range_succ,map_append,map_append,map_singleton,map_singleton,hk]; done) | (rw [range_succ,map_append,map_append,map_singleton,map_singleton,hk]; rfl))) .nil)))) ?_ (23,0)
       refine gW (Wk.rekey (k:=99) (d:=900) rfl rfl) ?_
       refine ga aan ?_
       exact gK1 hK3 (i + 1) hin
     ·have hin:=aai hi4 ht83
      subst hin
      refine gW ((Wk.freeze (k:=900) rfl).trans <| Wk.of (sl:=[(6,some (.ptr 6 0)),(10,some (.ptr 10 0))]) (hp:=[(6,some (.box [.v (.slice none 0 0),.v (.slice none 0 0),.v (.slice none 0 0)])),(10,some (.box (a28 l a).av.cells))]) abl (.cons rfl (.refl _) (.cons rfl (BlkSub.boxL (.cons (.refl _) (.cons (.refl _) (.cons (.of (by rw [abw (by simp)]; unfold a28 atj; rw [if_pos h6])) .nil))) rfl) .nil))) ?_
      refine gE2 ?_
      rfl
end Go.Lw
namespace Go.Lw
open Go.Proofs
theorem bsa {α:Type} {x:α} {i:Nat} (h:i = 0):[x][i]? = some x:=by subst h; rfl
theorem a4q {l:Li} {a:As} (hg:Good l a) (hs:splitE l = 0) {k:Nat} (hk:k < (splitG l).length) :
  FnC prog 45 [l.av,i64 k,a.av] (nA (ayq l a (gAt l k))):=by
 obtain ⟨n,g,ok⟩:=bhr (a9f hg hs hk true)
 have hn:(k:Int) = n:=ok.hk
 have e:gAt l k = g:=aaf (by have:=ok.hg; rw [show (k:Int).toNat = n by omega]; exact this)
 have h:=a8l (be4 hg.lo hg.al ok) ok
 rw [<- hn] at h
 rw [e]; exact h
theorem azd {l:Li} {a:As} (hg:Good l a) (hs:splitE l = 0) {k:Nat} (hk:k < (splitG l).length) :
  FnC prog 44 [ae6 a.rs,nA (ayq l a (gAt l k))] (i64 (a2v l a k)):=by
 obtain ⟨tw,hta,h5,hll⟩:=hg.tw
 obtain ⟨e,hn,he⟩:=a63 hg hs hk
 have hlm:=aec (llq a.rs).length
 rw [hta]
 exact ash tw hn (by omega)
theorem a3d (l:Li) (hl:l.ok) (xs:List Tn) (hx:∀ x ∈ xs, x.t.ok /\ Qb 1000 x.t.q) (hxl:xs.length <= 281474976710656) (a:As) (ha:AL a) :
  FnC prog 12 [l.av,.lst 4 (xs.map Tn.av),.lst 3 [a.av]] (i64 (acE l xs a)):=by
 refine gF0 func12 ?_
 refine gc (ak6 l hl) ?_
 refine gC (fun ht16=>?_) (fun ht16=>?_)
 ·have h1:=af2 ht16
  refine gE1 ?_
  rw [bqy h1]
 ·have h1:=af4 ht16
  refine gc (adv l hl h1) ?_
  refine gC (fun ht24=>?_) (fun ht24=>?_)
  ·have h2:=af2 ht24
   refine gE1 ?_
   rw [bqe h1 h2]
  ·have h2:=af4 ht24
   refine gc (baz l hl xs (fun x h9=>(hx x h9).1) hxl) ?_
   refine gC (fun ht30=>?_) (fun ht30=>?_)
   ·have h3:=af2 ht30
    refine gE1 ?_
    rw [bo2 h1 h2 h3]
   ·have h3:=af4 ht30
    refine ge rfl ?_
    refine gL1 [1,3,32,33] [3] (fun (i:Nat)=>[(34,some (i64 i))]) (fun _=>[]) (fun i=>i <= 1 /\ (0 < i -> (flt l xs a).1 = 0)) (fun i=>1 - i) 0 ⟨zero_le _,fun h=>absurd h (by omega)⟩ ?_
    rintro i ⟨hi,hj⟩ K1 hK1
    refine gC (fun ht35=>?_) (fun ht35=>?_)
    ·have hin:i < 1:=aa0 (b:=1) ht35
     have hi0:i = 0:=by omega
     obtain ⟨_,hb1,hb2⟩:=bgn h3
     refine gi (bsa hi0) ?_
     refine gc (ay9 hl h1 xs (fun x h9=>⟨(hx x h9).1,hb2 x h9,(hx x h9).2⟩) hb1 ha) ?_
     refine gs (bc6 (o:=0) (.tmp rfl) rfl (by kernel_rfl) rfl) ?_
     refine gC (fun ht43=>?_) (fun ht43=>?_)
     ·have h4:(flt l xs a).1 ≠ 0:=af2 ht43
      refine gE1 ?_
      rw [bou h1 h2 h3 h4]; rfl
     ·have h4:(flt l xs a).1 = 0:=af4 ht43
      refine ga aan ?_
      exact gK1 hK1 (i + 1) ⟨hin,fun _=>h4⟩
    ·have h4 : (flt l xs a).1 = 0 := hj (by have := aai (b := 1) hi ht35; omega)
     refine gE1 ?_
     rw [brn h1 h2 h3 h4]; rfl
theorem bcx {l:Li} {a:As} (hg:Good l a) (hs:splitE l = 0):FnC prog 15 [l.av, a.av] (.lst 1 (((List.range (splitG l).length).map (a2v l a)).map i64)):=by
 have hgl:=a49 hg.li
 refine gF0 func15 ?_
 refine gc (adv l hg.lo hg.li) ?_
 refine gl ?_
 refine gW (Wk.virt 900 1 rfl) ?_
 refine gL1 [2,3,15] [2,3] (fun (i:Nat)=>[(7,some (.ms 900 1 0 i)),(16,some (i64 i))]) (fun i=>[(900,some (.row 1 (((List.range i).map (a2v l a)).map i64)))]) (fun i=>i <= (splitG l).length) (fun i=>(splitG l).length - i) 0 (zero_le _) ?_
 rintro i hi K1 hK1
 refine gC (fun ht17=>?_) (fun ht17=>?_) (st2:=(8,0))
 ·have hin:=aa0 ht17
  refine gc (a4q hg hs hin) ?_
  refine gc (azd hg hs hin) ?_
  refine gs (aa3 (.tmp rfl) rfl (by simp) (.tmp rfl) T32 rfl T3 rfl rfl (by simp only [length_cons,length_nil]; omega) rfl rfl) ?_
  refine gD ?_ (7,0)
  refine gW (Wk.of (sl:=[(2,some (.ptr 2 0)),(3,some (.ptr 3 0)),(7,some (.ms 28 1 0 (i + 1))),(15,some (i64 (splitG l).length)),(16,some (i64 i))]) (hp:=[(2,some (.box l.av.cells)),(3,some (.box a.av.cells)),(28,some (.row 1 (((List.range (i + 1)).map (a2v l a)).map i64)))]) abl (.cons rfl (.refl _) (.cons rfl (.refl _) (.cons rfl (BlkSub.of (by rw [range_succ]; simp)) .nil)))) ?_ (7,0)
  refine gW (Wk.rekey (k:=28) (d:=900) rfl rfl) ?_
  refine ga aan ?_
  exact gK1 hK1 (i + 1) hin
 ·have hin:=aai hi ht17
  subst hin
  refine gW ((Wk.freeze (k:=900) rfl).trans <| Wk.of (sl:=[(7,some (.lst 1 (((List.range (splitG l).length).map (a2v l a)).map i64)))]) (hp:=[]) (.cons rfl (Sub.of (by rw [abw (by simp)])) .nil) .nil) ?_
  refine gE1 ?_
  rfl
end Go.Lw
namespace Go.Lw
open Go.Proofs
def mR (ts:List (List Rat)) (x:List Rt):List Rat:=sh ts.length (T.add ts.length (dec ts.length []) (T.neg ts.length (dec ts.length (lq x))))
def bbg (ts:List (List Rat)) (b:Pl):AV:=.agg [nR b.c,nA (mR ts b.s),nR b.x,nA (mR ts b.y)]
def bo6 (l:Li) (a:As):AV:=.agg [.lst 1 (a.rs.map nR),.lst 4 (a.bs.map (bbg (llq a.rs))),.lst 1 ((atj l a).map i64)]
theorem aq9 {l:Li} {a:As} (hg:Good l a) {b:Pl} (hb:b ∈ a.bs) {x:List Rt} (hx:x ∈ b.l) :
  FnC prog 48 [ae6 a.rs,.v (.slice none 0 0),nR x] (nA (mR (llq a.rs) x)):=by
 obtain ⟨tw,hta,h5,hll⟩:=hg.tw
 obtain ⟨e1,e2,e3⟩:=ap4 hg hb hx
 have hn:=(acu (hg.cb b hb)).2 x hx
 have hr:=hg.al.nr b hb x hx
 have hm:Nm (llq a.rs).length 4000 (lq x):=⟨tw.five,by rw [hll]; exact (hr.num hn).2,hr.cb⟩
 have h0:Nm (llq a.rs).length 0 []:=⟨tw.five,.inl rfl,Cb.nil⟩
 have hlm:=aec (llq a.rs).length
 have h:=agu tw h0 hm (by omega)
 rw [hta,e1]
 exact Con.subA (.cons (.refl _) (.cons (Sub.nil 3 none 0) (.cons (.refl _) .nil))) h
theorem ats {l:Li} {a:As} (hg:Good l a) (hs:splitE l = 0) (hml:a.ms.length <= 20):FnC prog 17 [l.av, a.av] (bo6 l a):=by
 have hbl:=hg.al.bl
 have hgl:=a49 hg.li
 refine gF0 func17 ?_
 refine gl ?_
 refine gW (Wk.virt 900 4 rfl) ?_
 refine gL1 [2,3,4,5,17,18] [2,3,4] (fun (i:Nat)=>[(19,some (i64 i))]) (fun i=>[(5,some (.box [.lst 1 (a.rs.map nR),.ms 900 4 0 i,.v (.slice none 0 0)])),(900,some (.row 4 ((a.bs.take i).map (bbg (llq a.rs)))))]) (fun i=>i <= a.bs.length) (fun i=>a.bs.length - i) 0 (zero_le _) ?_ (h2:=(.cons rfl (BlkSub.boxL (.cons (.refl _) (.cons (.nilMs _ _ _) (.cons (.refl _) .nil))) rfl) (.cons rfl (.refl _) .nil)))
 rintro i hi K1 hK1
 refine gC (fun ht20=>?_) (fun ht20=>?_) (st2:=(7,0))
 ·have hin:=aa0 ht20
  obtain ⟨b,hb⟩:=abu hin
  have hbm:=mem_of_getElem? hb
  refine gi (aad hb) ?_
  refine gc (aq9 hg hbm (x:=b.s) (by simp [Pl.l])) ?_
  refine gc (aq9 hg hbm (x:=b.y) (by simp [Pl.l])) ?_
  refine gs (aa3 (.tmp rfl) rfl (a10 (by omega)).symm (.tmp rfl) T31 rfl T88 rfl rfl (by simp only [length_cons,length_nil]; omega) rfl rfl) ?_
  refine gD ?_ (6,0)
  refine gW (Wk.of (sl:=[(2,some (.ptr 2 0)),(3,some (.ptr 3 0)),(4,some (.ptr 4 0)),(5,some (.ptr 5 0)),(17,some (.lst 4 (a.bs.map Pl.av))),(18,some (i64 a.bs.length)),(19,some (i64 i))]) (hp:=[(2,some (.box l.av.cells)),(3,some (.box a.av.cells)),(4,some (.box [.v (.slice none 0 0),.v (.slice none 0 0),.v (.slice none 0 0)])),(5,some (.box [.lst 1 (a.rs.map nR),.ms 41 4 0 (i + 1),.v (.slice none 0 0)])),(41,some (.row 4 ((a.bs.take (i + 1)).map (bbg (llq a.rs)))))]) abl (.cons rfl (.refl _) (.cons rfl (.refl _) (.cons rfl (.refl _) (.cons rfl (.refl _) (.cons rfl (BlkSub.of (by rw [aam hb,map_append]; rfl)) .nil)))))) ?_ (6,0)
  refine gW (Wk.rekey (k:=41) (d:=900) rfl rfl) ?_
  refine ga aan ?_
  exact gK1 hK1 (i + 1) hin
 ·have hin:=aai hi ht20
  subst hin
  refine gW ((Wk.freeze (k:=900) rfl).trans <| Wk.of (sl:=[(2,some (.ptr 2 0)),(3,some (.ptr 3 0)),(4,some (.ptr 4 0)),(5,some (.ptr 5 0))]) (hp:=[(2,some (.box l.av.cells)),(3,some (.box a.av.cells)),(4,some (.box [.v (.slice none 0 0),.v (.slice none 0 0),.v (.slice none 0 0)])),(5,some (.box [.lst 1 (a.rs.map nR),.lst 4 (a.bs.map (bbg (llq a.rs))),.v (.slice none 0 0)]))]) abl (.cons rfl (.refl _) (.cons rfl (.refl _) (.cons rfl (.refl _) (.cons rfl (BlkSub.boxL (.cons (.refl _) (.cons (.of (by rw [abw (a10 (le_refl _)).symm,take_length])) (.cons (.refl _) .nil))) rfl) .nil))))) ?_
  refine gc (adv l hg.lo hg.li) ?_
  refine gl ?_
  refine gl ?_
  refine gC (fun ht54=>?_) (fun ht54=>?_)
  ·have h6:a.ms.length ≠ (splitG l).length:=bbb ht54
   refine gR ?_
   exact ac7 (by unfold bo6 atj; rw [if_neg h6]; exact Sub.agg (.cons (.refl _) (.cons (.refl _) (.cons (.nil _ _ _) .nil))) rfl)
  ·have h6:a.ms.length = (splitG l).length:=bf0 ht54
   refine gl ?_
   refine gW (Wk.virt 900 1 rfl) ?_
   refine gL1 [3,4,5,56,57] [3,4] (fun (i:Nat)=>[(58,some (i64 i))]) (fun i=>[(5,some (.box [.lst 1 (a.rs.map nR),.lst 4 (a.bs.map (bbg (llq a.rs))),.ms 900 1 0 i])),(900,some (.row 1 (((List.range i).map (ayw l a)).map i64)))]) (fun i=>i <= (splitG l).length) (fun i=>(splitG l).length - i) 0 (zero_le _) ?_ (h2:=(.cons rfl (BlkSub.boxL (.cons (.refl _) (.cons (.refl _) (.cons (.nilMs _ _ _) .nil))) rfl) (.cons rfl (.refl _) .nil)))
   rintro i hi4 K2 hK2
   refine gC (fun ht59=>?_) (fun ht59=>?_) (st2:=(18,0))
   ·have hin:=aa0 ht59
    obtain ⟨g,hgi⟩:=abu hin
    obtain ⟨m,hm⟩:=abu (l:=a.ms) (i:=i) (by omega)
    refine gi (aad hgi) ?_
    refine gi (aad hm) ?_
    refine gC (fun ht70=>?_) (fun ht70=>?_)
    ·have hk : ayw l a i = ngI m := by unfold ayw; rw [aaf hgi, aaf hm, if_pos (aek ht70)]
     refine gs (a4g (.tmp rfl) rfl) ?_
     refine gs (aa3 (.tmp rfl) rfl (by simp) (.tmp rfl) T32 rfl T3 rfl rfl (by simp only [length_cons,length_nil]; omega) rfl rfl) ?_ (17,0)
     refine gW (Wk.of (sl:=[(3,some (.ptr 3 0)),(4,some (.ptr 4 0)),(5,some (.ptr 5 0)),(56,some (.lst 4 ((splitG l).map Gr.av))),(57,some (i64 (splitG l).length)),(58,some (i64 i))]) (hp:=[(3,some (.box a.av.cells)),(4,some (.box [.v (.slice none 0 0),.v (.slice none 0 0),.v (.slice none 0 0)])),(5,some (.box [.lst 1 (a.rs.map nR),.lst 4 (a.bs.map (bbg (llq a.rs))),.ms 77 1 0 (i + 1)])),(77,some (.row 1 (((List.range (i + 1)).map (ayw l a)).map i64)))]) abl (.cons rfl (.refl _) (.cons rfl (.refl _) (.cons rfl (.refl _) (.cons rfl (BlkSub.of (by first | (rw [range_succ,map_append,map_append,map_singleton,map_singleton,hk]; done) | (rw [range_succ,map_append,map_append,map_singleton,map_singleton,hk]; rfl))) .nil))))) ?_ (17,0)
     refine gW (Wk.rekey (k:=77) (d:=900) rfl rfl) ?_
     refine ga aan ?_
     exact gK1 hK2 (i + 1) hin
    ·have hk : ayw l a i = m := by unfold ayw; rw [aaf hgi, aaf hm, if_neg (afa ht70)]
     refine gs (aa3 (.tmp rfl) rfl (by simp) (.tmp rfl) T32 rfl T3 rfl rfl (by simp only [length_cons,length_nil]; omega) rfl rfl) ?_ (17,0)
     refine gW (Wk.of (sl:=[(3,some (.ptr 3 0)),(4,some (.ptr 4 0)),(5,some (.ptr 5 0)),(56,some (.lst 4 ((splitG l).map Gr.av))),(57,some (i64 (splitG l).length)),(58,some (i64 i))]) (hp:=[(3,some (.box a.av.cells)),(4,some (.box [.v (.slice none 0 0),.v (.slice none 0 0),.v (.slice none 0 0)])),(5,some (.box [.lst 1 (a.rs.map nR),.lst 4 (a.bs.map (bbg (llq a.rs))),.ms 77 1 0 (i + 1)])),(77,some (.row 1 (((List.range (i + 1)).map (ayw l a)).map i64)))]) abl (.cons rfl (.refl _) (.cons rfl (.refl _) (.cons rfl (.refl _) (.cons rfl (BlkSub.of (by first | (rw [range_succ,map_append,map_append,map_singleton,map_singleton,hk]; done) | (rw [range_succ,map_append,map_append,map_singleton,map_singleton,hk]; rfl))) .nil))))) ?_ (17,0)
     refine gW (Wk.rekey (k:=77) (d:=900) rfl rfl) ?_
     refine ga aan ?_
     exact gK1 hK2 (i + 1) hin
   ·have hin:=aai hi4 ht59
    subst hin
    refine gW ((Wk.freeze (k:=900) rfl).trans <| Wk.of (sl:=[(4,some (.ptr 4 0)),(5,some (.ptr 5 0))]) (hp:=[(4,some (.box [.v (.slice none 0 0),.v (.slice none 0 0),.v (.slice none 0 0)])),(5,some (.box (bo6 l a).cells))]) abl (.cons rfl (.refl _) (.cons rfl (BlkSub.boxL (.cons (.refl _) (.cons (.refl _) (.cons (.of (by rw [abw (by simp)]; unfold atj; rw [if_pos h6,h6])) .nil))) rfl) .nil))) ?_
    refine gE1 ?_
    rfl
end Go.Lw
namespace Go.Lw
open Go.Proofs
theorem alx (a:List Nat) (ha:a.length <= 281474976710656):FnC prog 233 [ws a, ws a] (bl true):=by
 refine gF0 func233 ?_
 refine gl ?_
 refine gl ?_
 refine gC (fun ht10=>?_) (fun ht10=>?_) (st1:=(2,0))
 ·exact absurd ht10 (by simp [aaa])
 ·refine gL1 [0, 1] [] (fun (i:Nat)=>[(5, some (i64 i))]) (fun _=>[]) (fun i=>i <= a.length) (fun i=>a.length - i) 0 (zero_le _) ?_
  rintro i hi K1 hK1
  refine gl ?_
  refine gC (fun ht14=>?_) (fun ht14=>?_)
  ·have hin:=aa0 ht14
   obtain ⟨x,hx⟩:=abu hin
   refine gi (aad hx) ?_
   refine gi (aad hx) ?_
   refine gD ?_
   refine gC (fun ht25=>?_) (fun ht25=>?_) (st1:=(7,0))
   ·exact absurd ht25 (by simp [aaa])
   ·refine ga aan ?_
    exact gK1 hK1 (i + 1) hin
  ·refine gE1 ?_
   rfl
theorem an6 (a:List Int) (ha:a.length <= 281474976710656):FnC prog 14 [.lst 1 (a.map i64), .lst 1 (a.map i64)] (bl true):=by
 refine gF0 func14 ?_
 refine gl ?_
 refine gl ?_
 refine gC (fun ht10=>?_) (fun ht10=>?_) (st1:=(2,0))
 ·exact absurd ht10 (by simp [aaa])
 ·refine gL1 [0, 1] [] (fun (i:Nat)=>[(5, some (i64 i))]) (fun _=>[]) (fun i=>i <= a.length) (fun i=>a.length - i) 0 (zero_le _) ?_
  rintro i hi K1 hK1
  refine gl ?_
  refine gC (fun ht14=>?_) (fun ht14=>?_)
  ·have hin:=aa0 ht14
   obtain ⟨x,hx⟩:=abu hin
   refine gi (aad hx) ?_
   refine gi (aad hx) ?_
   refine gD ?_
   refine gC (fun ht25=>?_) (fun ht25=>?_) (st1:=(7,0))
   ·exact absurd ht25 (by simp [aaa])
   ·refine ga aan ?_
    exact gK1 hK1 (i + 1) hin
  ·refine gE1 ?_
   rfl
theorem aqr (x:Rt) (hx:x.ok):FnC prog 146 [x.av, x.av] (bl true):=by
 have h1:x.num.length <= 281474976710656:=by have:=hx.2.2.1; unfold lim at this; omega
 have h2:x.den.length <= 281474976710656:=by have:=hx.2.2.2; unfold lim at this; omega
 refine gF0 func146 ?_
 refine gcG (fun _=>(alx x.num h1)) ?_
 refine gcG (fun h=>(alx x.den h2)) ?_
 refine gE1 ?_
 simp; rfl
theorem avq (b:Bd) (hb:b.ok):FnC prog 70 [b.av, b.av] (bl true):=by
 have hbl:=hb.ll
 refine gF0 func70 ?_
 refine glG ?_
 refine glG ?_
 refine gC (fun ht21=>?_) (fun ht21=>?_) (st1:=(2,0))
 ·exact absurd ht21 (by simp [aaa])
 ·refine gL1 [2, 3] [2, 3] (fun (i:Nat)=>[(5, some (i64 i))]) (fun _=>[]) (fun i=>i <= b.pts.length) (fun i=>b.pts.length - i) 0 (zero_le _) ?_
  rintro i hi K1 hK1
  refine gl ?_
  refine gC (fun ht26=>?_) (fun ht26=>?_)
  ·have hin:=aa0 ht26
   obtain ⟨m,hm⟩:=abu hin
   have hmo:=hb.pts m (mem_of_getElem? hm)
   refine gi (aad hm) ?_
   refine gi (aad hm) ?_
   refine gD ?_
   refine gcG (fun _=>(aqr m.x hmo.x)) ?_
   refine gcG (fun _=>(aqr m.y hmo.y)) ?_
   refine gC (fun ht59=>?_) (fun ht59=>?_) (st1:=(8,0))
   ·exact absurd ht59 (by simp)
   ·refine ga aan ?_
    exact gK1 hK1 (i + 1) hin
  ·refine gE1 ?_
   rfl
theorem aqu (l l2:Li) (hl:l.ok) (e:l = l2):FnC prog 32 [l.av, l2.av] (bl true):=by
 have hlb:=hl.lb
 have hlj:=hl.lj
 have hld:=hl.ld
 refine gF0 func32 ?_
 refine glG ?_
 refine glG ?_
 refine glG ?_
 refine glG ?_
 refine glG ?_
 refine glG ?_
 refine gC (fun ht39=>?_) (fun ht39=>?_) (st1:=(2,0))
 ·exact absurd ht39 (by subst e; simp [aaa])
 ·subst e
  refine gL1 [2,3] [2,3] (fun (i:Nat)=>[(5,some (i64 i))]) (fun _=>[]) (fun i=>i <= l.bodies.length) (fun i=>l.bodies.length - i) 0 (zero_le _) ?_
  rintro i hi K1 hK1
  refine gl ?_
  refine gC (fun ht44=>?_) (fun ht44=>?_)
  ·have hin:=aa0 ht44
   obtain ⟨b,hb⟩:=abu hin
   refine gi (aad hb) ?_
   refine gi (aad hb) ?_
   refine gc (avq b (hl.bodies b (mem_of_getElem? hb))) ?_
   refine gD ?_
   refine gC (fun ht58=>?_) (fun ht58=>?_) (st1:=(7,0))
   ·cases ht58
   ·refine ga aan ?_
    exact gK1 hK1 (i + 1) hin
  ·refine gL1 [2, 3] [2, 3] (fun (i:Nat)=>[(6, some (i64 i))]) (fun _=>[]) (fun i=>i <= l.joints.length) (fun i=>l.joints.length - i) 0 (zero_le _) ?_
   rintro i hk K2 hK2
   refine gl ?_
   refine gC (fun ht63=>?_) (fun ht63=>?_)
   ·have hkn:=aa0 ht63
    obtain ⟨j,hj⟩:=abu hkn
    refine gi (aad hj) ?_
    refine gi (aad hj) ?_
    refine gs (ba6 (cs:=j.vs) (ks:=[2,1,1,1,1,1,1]) (.tmp rfl) (.tmp rfl) rfl (by kernel_rfl) rfl) ?_
    refine gD ?_
    refine gC (fun ht76=>?_) (fun ht76=>?_) (st1:=(12,0))
    ·cases ht76
    ·refine ga aan ?_
     exact gK1 hK2 (i + 1) hkn
   ·refine gL1 [2, 3] [2, 3] (fun (i:Nat)=>[(7, some (i64 i))]) (fun _=>[]) (fun i=>i <= l.drivers.length) (fun i=>l.drivers.length - i) 0 (zero_le _) ?_
    rintro i hq K3 hK3
    refine gl ?_
    refine gC (fun ht81=>?_) (fun ht81=>?_)
    ·have hqn:=aa0 ht81
     obtain ⟨d,hd⟩:=abu hqn
     refine gi (aad hd) ?_
     refine gi (aad hd) ?_
     refine gs (ba6 (cs:=d.vs) (ks:=[2,1]) (.tmp rfl) (.tmp rfl) rfl (by kernel_rfl) rfl) ?_
     refine gD ?_
     refine gC (fun ht94=>?_) (fun ht94=>?_) (st1:=(17,0))
     ·cases ht94
     ·refine ga aan ?_
      exact gK1 hK3 (i + 1) hqn
    ·refine gE1 ?_
     rfl
theorem aar (l:Li) (hl:l.ok):FnC prog 32 [l.av,l.av] (bl true):=aqu l l hl rfl
end Go.Lw
namespace Go.Lw
open Go.Proofs
theorem Tw.take {ts:List (List Rat)} {r:Nat} (h:Tw ts r) (k:Nat):Tw (ts.take k) r:=by
 have hl:(ts.take k).length <= ts.length:=by rw [length_take]; omega
 have hg:∀ j,j < (ts.take k).length -> j < k /\ j < ts.length:=fun j hj=>by rw [length_take] at hj; omega
 refine ⟨le_trans hl h.three,fun j hj=>?_,fun j hj=>?_,?_,h.le⟩
 ·obtain ⟨h1, h2⟩:=hg j hj
  have h3:=h.len j h2
  rw [getD_eq_getElem?_getD,getElem?_take,if_pos h1,<- getD_eq_getElem?_getD]
  exact h3
 ·obtain ⟨h1, h2⟩:=hg j hj
  have h3:=h.pos j h2
  rw [T.sgn_congr j (fun i hi=>agl (by omega:i < k)),agl h1]
  exact h3
 ·obtain ⟨D, N, h1, h2, h3⟩:=h.rb
  exact ⟨D,N,h1,fun d hd=>h2 d (mem_of_mem_take hd),h3⟩
theorem bph {l:Li} {a:As} (hg:Good l a):a.rs.map nR = (llq a.rs).map nA:=by
 obtain ⟨tw,hta,h5,hll⟩:=hg.tw
 have:=(List.cons.inj (AV.agg.inj hta)).1
 exact (AV.lst.inj this).2
theorem a7n {l:Li} {a:As} (hg:Good l a) {k:Nat} {d:List Rt} (hd:a.rs[k]? = some d) :
  FnC prog 27 [.agg [.lst 1 (((a.rs.map nR).drop 0).take (k - 0))],nR d,nR d] (bl true):=by
 obtain ⟨tw,hta,h5,hll⟩:=hg.tw
 have hk:=(List.getElem?_eq_some_iff.1 hd).1
 have e1:=(a0q hg (mem_of_getElem? hd)).1
 have hd2:(llq a.rs).getD k [] = lq d:=by rw [aj7,aaf hd]
 have hlen:=tw.len k (by omega)
 rw [hd2] at hlen
 have hl:((llq a.rs).take k).length = k:=by rw [length_take]; omega
 have hcb:=tw.rb.cb k
 rw [hd2] at hcb
 have hlm:=aec k
 have hm:Nm ((llq a.rs).take k).length 40000 (lq d):=⟨by omega,.inr ⟨k,by omega,hlen⟩,hcb⟩
 have h:=aca (tw.take k) hm hm (by rw [hl]; omega)
 rw [alh] at h
 rw [Nat.sub_zero,drop_zero,bph hg,<- map_take,e1]
 exact h
theorem au3 {l:Li} {a:As} (hg:Good l a):FnC prog 46 [ae6 a.rs, ae6 a.rs] (bl true):=by
 obtain ⟨tw,hta,h5,hll⟩:=hg.tw
 have hC:=ak7 a.rs 40000 hg.al.tr
 rw [hg.ck] at hC
 refine gF0 func46 ?_
 refine gc hC ?_
 refine gcG (fun _=>hC) ?_
 refine glG ?_
 refine glG ?_
 refine gC (fun ht22=>?_) (fun ht22=>?_) (st1:=(2,0))
 ·exact absurd ht22 (by simp [aaa])
 ·refine gl ?_
  refine gL1 [2,3,25] [2,3] (fun (k:Nat)=>[(26,some (i64 k))]) (fun _=>[]) (fun k=>k <= a.rs.length) (fun k=>a.rs.length - k) 0 (zero_le _) ?_
  rintro k hk K1 hK1
  refine gC (fun ht27=>?_) (fun ht27=>?_)
  ·have hin:=aa0 ht27
   obtain ⟨d,hd⟩:=abu hin
   refine gs (aap (.tmp rfl) (.none _) (.some _ (.tmp rfl) (by omega)) T28 rfl T65 rfl (by omega) (by simp only [length_map]; omega) rfl) ?_
   refine gi (aad hd) ?_
   refine gi (aad hd) ?_
   refine gc (a7n hg hd) ?_
   refine gD ?_
   refine gC (fun ht45=>?_) (fun ht45=>?_) (st1:=(7,0))
   ·cases ht45
   ·refine ga aan ?_
    exact gK1 hK1 (k + 1) hin
  ·refine gE1 ?_
   rfl
theorem a6i (l:Li) (a:As):(atj l a).length <= a.ms.length:=by
 unfold atj; split
 ·rw [length_map,List.length_range]; exact le_refl _
 ·exact zero_le _
theorem bj0 {l:Li} {a:As} (hg:Good l a) {b:Pl} (hb:b ∈ a.bs):FnC prog 47 [ae6 a.rs, (a7e b).av, bbg (llq a.rs) b] (bl true):=by
 obtain ⟨tw,hta,h5,hll⟩:=hg.tw
 have hm:∀ x ∈ b.l, nR x = nA (lq x) /\ Nm (llq a.rs).length 4001 (lq x) /\ Nm (llq a.rs).length 4001 (ab3 (lq x)) /\ Nm (llq a.rs).length 4001 (mR (llq a.rs) x):=fun x hx=>by
  have hn:=(acu (hg.cb b hb)).2 x hx
  have hr:=hg.al.nr b hb x hx
  obtain ⟨e1,e2⟩:=hr.num hn
  rw [<- hll] at e2
  have h1:Nm (llq a.rs).length 4000 (lq x):=⟨tw.five,e2,hr.cb⟩
  have h0:Nm (llq a.rs).length 0 []:=⟨tw.five,.inl rfl,Cb.nil⟩
  exact ⟨e1,h1.mono (by omega),(⟨tw.five,agc e2,hr.cb.minus⟩:Nm _ 4000 _).mono (by omega),(Nm.sub h0 h1).mono (by omega)⟩
 obtain ⟨c1,c2,_,_⟩:=hm b.c (by simp [Pl.l])
 obtain ⟨s1,_,s3,s4⟩:=hm b.s (by simp [Pl.l])
 obtain ⟨x1,x2,_,_⟩:=hm b.x (by simp [Pl.l])
 obtain ⟨y1,_,y3,y4⟩:=hm b.y (by simp [Pl.l])
 have hlm:=aec (llq a.rs).length
 have h:=aiz tw c2 s3 x2 y3 c2 s4 x2 y4 (by omega)
 have hd:∀ x:List Rt, dec (llq a.rs).length (mR (llq a.rs) x) = dec (llq a.rs).length (ab3 (lq x)):=fun x=>by
  unfold mR
  rw [acf,af3,T.zero_add,aee]
 rw [hd,hd,alh,alh,alh,alh] at h
 have hA:(a7e b).av = .agg [nA (lq b.c), nA (ab3 (lq b.s)), nA (lq b.x), nA (ab3 (lq b.y))]:=by
  show AV.agg [nR b.c,nR (bjl b.s),nR b.x,nR (bjl b.y)] = _
  unfold bjl
  rw [ae5,ae5,c1,x1]; rfl
 have hB:bbg (llq a.rs) b = .agg [nA (lq b.c), nA (mR (llq a.rs) b.s), nA (lq b.x), nA (mR (llq a.rs) b.y)]:=by
  unfold bbg; rw [c1,x1]
 rw [hta,hA,hB]
 exact h
theorem a0k {l:Li} {a:As} (hg:Good l a) (hml:a.ms.length <= 20):FnC prog 16 [(a28 l a).av, bo6 l a] (bl true):=by
 have hmm:=a6i l a
 have hbb:(a28 l a).bs.length = a.bs.length:=length_map _
 have hbl:=hg.al.bl
 refine gF0 func16 ?_
 refine gc (au3 (a:=a) hg) ?_
 refine glG ?_
 refine glG ?_
 refine gcG (fun _=>(an6 (atj l a) (by omega))) ?_
 refine gC (fun ht28=>?_) (fun ht28=>?_) (st1:=(2,0))
 ·exact absurd ht28 (by rw [hbb]; simp [aaa])
 ·refine gl ?_
  refine gL1 [2,3] [2,3] (fun (i:Nat)=>[(31,some (i64 a.bs.length)),(32,some (i64 i))]) (fun _=>[]) (fun i=>i <= a.bs.length) (fun i=>a.bs.length - i) 0 (zero_le _) ?_ (h1:=(.cons rfl (Sub.int (congrArg Int.ofNat hbb)) (.k .nil)))
  rintro i hi K1 hK1
  refine gC (fun ht33=>?_) (fun ht33=>?_)
  ·have hin:=aa0 ht33
   obtain ⟨b,hb⟩:=abu hin
   have hb2:(a.bs.map a7e)[i]? = some (a7e b):=by rw [getElem?_map,hb]; rfl
   refine gi (aad hb2) ?_
   refine gi (aad hb) ?_
   refine gc (bj0 hg (mem_of_getElem? hb)) ?_
   refine gD ?_
   refine gC (fun ht48=>?_) (fun ht48=>?_) (st1:=(7,0))
   ·cases ht48
   ·refine ga aan ?_
    exact gK1 hK1 (i + 1) hin
  ·refine gE1 ?_
   rfl
end Go.Lw
namespace Go.Lw
open Go.Proofs
def bo7 (a:As):Bool:=a.bs.all (fun b=>ai1 a.rs b.l) && (decide (a.bs.length <= 20) && (ai1 a.rs [] && decide (a.rs.length <= 2)))
def be7 (a:As):Bool:=a.bs.all (fun b=>ai1 a.rs b.l) && ((decide (a.bs.length <= 20) && decide (a.ms.length <= 20)) && (ai1 a.rs [] && decide (a.rs.length <= 2)))
theorem bmw {a:As} (h:bo7 a = true) (ha:a.ok):AL a:=by
 refine (bpg (r:=[]) ?_ ha (fun x hx=>by cases hx)).al
 unfold bo7 at h
 unfold vlB
 simp only [and_eq_true,decide_eq_true_eq] at h
 obtain ⟨h1,h2,h3,h4⟩:=h
 rw [h1,h3,decide_eq_true (show a.bs.length <= 20 /\ ([]:List Vr).length <= 20 from ⟨h2,by show 0 <= 20; omega⟩),decide_eq_true (Or.inl h4)]
 rfl
theorem bmb {a:As} (h:be7 a = true):bo7 a = true:=by
 unfold be7 at h
 unfold bo7
 simp only [and_eq_true,decide_eq_true_eq] at h ⊢
 exact ⟨h.1,h.2.1.1,h.2.2⟩
theorem bj2 {a:As} (h:a.bs.all (fun b=>ai1 a.rs b.l) = true) :
  cond (cond (cond (aaa .leq (a.bs.length:Int) 20) (aaa .leq (a.ms.length:Int) 20) false) (ai1 a.rs []) false) (aaa .leq (a.rs.length:Int) 2) false = be7 a:=by
 have e1:=a4a (n:=a.bs.length) (k:=20)
 have e4:=a4a (n:=a.ms.length) (k:=20)
 have e2:=a4a (n:=a.rs.length) (k:=2)
 unfold be7
 rw [h,Bool.true_and]
 rw [show aaa .leq (a.bs.length:Int) 20 = decide (a.bs.length <= 20) from e1,show aaa .leq (a.ms.length:Int) 20 = decide (a.ms.length <= 20) from e4,show aaa .leq (a.rs.length:Int) 2 = decide (a.rs.length <= 2) from e2]
 cases ai1 a.rs [] <;> by_cases c1:a.bs.length <= 20 <;> by_cases c2:a.ms.length <= 20 <;> by_cases c3:a.rs.length <= 2 <;> simp [c1,c2,c3]
theorem a0a (a:As) (ha:a.ok):FnC prog 8 [a.av] (bl (be7 a)):=by
 have hbl:=ha.bl
 refine gF0 func8 ?_
 refine gl ?_
 refine gL1 [1,6,7] [1] (fun (i:Nat)=>[(8,some (i64 i))]) (fun _=>[]) (fun i=>i <= a.bs.length /\ (a.bs.take i).all (fun b=>ai1 a.rs b.l) = true) (fun i=>a.bs.length - i) 0 ⟨zero_le _,rfl⟩ ?_
 rintro i ⟨hi,hj⟩ K1 hK1
 refine gC (fun ht9=>?_) (fun ht9=>?_)
 ·have hin:=aa0 ht9
  obtain ⟨b,hb⟩:=abu hin
  have hbo:=ha.bs b (mem_of_getElem? hb)
  refine gi (aad hb) ?_
  refine gc (asl a.rs b.l ha.rs hbo ha.rl (by show 4 <= 100; omega)) ?_
  refine gC (fun ht24=>?_) (fun ht24=>?_)
  ·have h1:=adj ht24
   refine gE1 ?_
   unfold be7; rw [adg hb h1]; rfl
  ·have h1:=adk ht24
   refine ga aan ?_
   exact gK1 hK1 (i + 1) ⟨hin,aeh hj hb h1⟩
 ·have hin:=aai hi ht9
  refine gl ?_
  refine glG ?_
  refine gcG (fun _=>(Con.subA (.cons (.refl _) (.cons (Sub.nil 1 none 0) .nil)) (asl a.rs [] ha.rs bf6 ha.rl (by show 0 <= 100; omega)))) ?_
  refine glG ?_
  refine gE1 ?_
  exact congrArg bl (bj2 (af6 hin hj))
end Go.Lw
namespace Go.Lw
theorem a97 {l:Li} {xs:List Tn} (h:bf1 l xs = true):liB l = true /\ xs.length <= 20 /\ xs.all tnB = true:=by
 unfold bf1 at h
 simp only [and_eq_true,decide_eq_true_eq] at h
 exact ⟨h.1.1,h.1.2,h.2.1⟩
theorem bms {x:Tn} (h:tnB x = true) (ho:x.t.wok):x.t.ok /\ Qb 1000 x.t.q:=by
 unfold tnB at h
 rw [decide_eq_true_eq] at h
 have hx:=ho.ok h.1 h.2 (by omega)
 exact ⟨hx,(Rt.qb hx (k:=1) (by omega) h.1 h.2).mono (by omega)⟩
end Go.Lw
namespace Go.Lw
variable {P:Program} {N:Nat}
def rdC (s:AS):Operand -> Option AV
  | .tmp t=>match s.get t with
    | some x=>match x with
      | .opt _ _=>none
      | x=>some x
    | none=>none
  | .const c=>some (.v c)
  | .func f=>some (.v (.func (.func f) #[] #[]))
  | .global _=>none
theorem abe {s:AS} {o:Operand} {x:AV} (h:rdC s o = some x):Ev s o x:=by
 cases o with
 | tmp t =>
  simp only [rdC] at h
  split at h
  ·rename_i y hy
   split at h
   ·cases h
   ·cases h; exact .tmp hy
  ·cases h
 | const c=>cases h; exact .const c
 | func f=>cases h; exact .func f
 | global n=>cases h
def bkh (s:AS):List Operand -> Option (List AV)
  | []=>some []
  | o :: os=>match rdC s o with
    | some x=>match bkh s os with
      | some xs=>some (x :: xs)
      | none=>none
    | none=>none
theorem ani {s:AS}:∀ {os:List Operand} {xs:List AV}, bkh s os = some xs -> EvL s os xs
 | [],xs,h=>by cases h; exact .nil
 | o :: os, xs, h=>by
  unfold bkh at h
  split at h
  ·rename_i x h1
   split at h
   ·rename_i ys h2; cases h; exact .cons (abe h1) (ani h2)
   ·cases h
  ·cases h
def wN {α:Type} (n:Nat) (f:Nat -> α):α:=match n with
  | 0=>f 0
  | m + 1=>f (m + 1)
theorem awu {α:Type} (n:Nat) (f:Nat -> α):wN n f = f n:=by cases n <;> rfl
def wI {α:Type} (z:Int) (f:Int -> α):α:=match z with
  | .ofNat n=>match n with
    | 0=>f 0
    | m + 1=>f (Int.ofNat (m + 1))
  | .negSucc n=>f (.negSucc n)
theorem aue {α:Type} (z:Int) (f:Int -> α):wI z f = f z:=by
 cases z with
 | ofNat n=>cases n <;> rfl
 | negSucc n=>rfl
structure V1 where
  x:AV
  rt:List Nat
  rd:List Nat
def be3:Value -> Bool
  | .nilIface=>true
  | .iface _ _=>true
  | _=>false
theorem axg {v:Value} (h:be3 v = true):bhq v:=by
 cases v <;> first | exact .inl rfl | exact .inr ⟨_,_,rfl⟩ | cases h
def bhn:BinOp -> Bool
  | .and | .or | .xor | .andNot=>true
  | _=>false
theorem bdd:∀ {op:BinOp},bhn op = true -> (match op with | .and | .or | .xor | .andNot=>true | _=>false) = true:=by intro op; cases op <;> intro h <;> first | rfl | cases h
def bkj (op:BinOp) (x y:Operand) (k k':IntKind) (a b:Int):Option V1:=match op with
  | .add | .sub | .mul=>match Nat.beq (ikn k) (ikn k') with
    | true=>wI (k.wrap (ad9 op a b)) fun z=>some ⟨.v (.int k z),aal x ++ aal y,[]⟩
    | false=>none
  | .quo=>match Nat.beq (ikn k) (ikn k') with
    | true=>match b with
      | .ofNat 0=>none
      | b=>wI (k.wrap (a.tdiv b)) fun z=>some ⟨.v (.int k z),aal x ++ aal y,[]⟩
    | false=>none
  | .rem=>match Nat.beq (ikn k) (ikn k') with
    | true=>match b with
      | .ofNat 0=>none
      | b=>wI (a.tmod b) fun z=>some ⟨.v (.int k z),aal x ++ aal y,[]⟩
    | false=>none
  | .shl=>match b with
    | .ofNat n=>wI (k.wrap (a * 2 ^ (min n k.bits))) fun z=>some ⟨.v (.int k z),aal x ++ aal y,[]⟩
    | .negSucc _=>none
  | .shr=>match b with
    | .ofNat n=>wI (a.fdiv (2 ^ (min n k.bits))) fun z=>some ⟨.v (.int k z),aal x ++ aal y,[]⟩
    | .negSucc _=>none
  | .eql | .neq | .lss | .leq | .gtr | .geq=>match Nat.beq (ikn k) (ikn k') with
    | true=>match aaa op a b with
      | true=>some ⟨.v (.bool true),aal x ++ aal y,[]⟩
      | false=>some ⟨.v (.bool false),aal x ++ aal y,[]⟩
    | false=>none
  | op=>match bhn op && Nat.beq (ikn k) (ikn k') with
    | true=>wI (atu op k a b) fun z=>some ⟨.v (.int k z),aal x ++ aal y,[]⟩
    | false=>none
section
variable {s:AS} {R:Array Oper} {d:Nat} {t T:TypeId} {pos:String} {after:Array Edge}
theorem bgv {op:BinOp} {x y:Operand} {k k':IntKind} {a b:Int} {S:TypeId} {r:V1} (hx:Ev s x (.v (.int k a))) (hy:Ev s y (.v (.int k' b))) (h:bkj op x y k k' a b = some r) (hN:Nat.blt d N = true) :
  Step P N R s ⟨some d,.binOp op S x y T,t,pos,after,none⟩ ⟨some r.x,[],r.rt,r.rd⟩:=by
 have hc:∀ (op:BinOp), bdz op = true -> (match Nat.beq (ikn k) (ikn k') with
  | true=>match aaa op a b with
   | true=>some (⟨.v (.bool true),aal x ++ aal y,[]⟩:V1)
   | false=>some ⟨.v (.bool false),aal x ++ aal y,[]⟩
  | false=>none) = some r -> Step P N R s ⟨some d,.binOp op S x y T,t,pos,after,none⟩ ⟨some r.x,[],r.rt,r.rd⟩:=by
  intro op hop h'
  split at h'
  ·rename_i hk
   cases aio hk
   have:=bl9 (P:=P) (R:=R) (op:=op) (S:=S) (T:=T) (t:=t) (pos:=pos) (after:=after) hx hy (by cases op <;> simp_all [bdz]) hN
   split at h'
   ·rename_i hb; cases h'; rw [hb] at this; exact this
   ·rename_i hb; cases h'; rw [hb] at this; exact this
  ·cases h'
 have ha:∀ (op:BinOp), bqb op = true -> (match Nat.beq (ikn k) (ikn k') with
  | true=>wI (k.wrap (ad9 op a b)) fun z=>some (⟨.v (.int k z),aal x ++ aal y,[]⟩:V1)
  | false=>none) = some r -> Step P N R s ⟨some d,.binOp op S x y T,t,pos,after,none⟩ ⟨some r.x,[],r.rt,r.rd⟩:=by
  intro op hop h'
  split at h'
  ·rename_i hk
   cases aio hk
   rw [aue] at h'
   cases h'
   exact bab hx hy (a8x hop) hN
  ·cases h'
 have hb:∀ (op:BinOp), (match bhn op && Nat.beq (ikn k) (ikn k') with
  | true=>wI (atu op k a b) fun z=>some (⟨.v (.int k z),aal x ++ aal y,[]⟩:V1)
  | false=>none) = some r -> Step P N R s ⟨some d,.binOp op S x y T,t,pos,after,none⟩ ⟨some r.x,[],r.rt,r.rd⟩:=by
  intro op h'
  split at h'
  ·rename_i hk
   simp only [and_eq_true] at hk
   cases aio hk.2
   rw [aue] at h'
   cases h'
   exact bez hx hy (bdd hk.1) hN
  ·cases h'
 cases op with
 | add=>exact ha _ rfl h
 | sub=>exact ha _ rfl h
 | mul=>exact ha _ rfl h
 | quo =>
  simp only [bkj] at h
  split at h
  ·rename_i hk
   cases aio hk
   split at h
   ·cases h
   ·rename_i hb0
    rw [aue] at h; cases h
    exact bk0 hx hy (fun e=>hb0 (by rw [e]; rfl)) hN
  ·cases h
 | rem =>
  simp only [bkj] at h
  split at h
  ·rename_i hk
   cases aio hk
   split at h
   ·cases h
   ·rename_i hb0
    rw [aue] at h; cases h
    exact bmt hx hy (fun e=>hb0 (by rw [e]; rfl)) hN
  ·cases h
 | shl =>
  simp only [bkj] at h
  split at h
  ·rename_i n
   rw [aue] at h
   obtain rfl:=Option.some.inj h
   have:=bm9 (P:=P) (R:=R) (S:=S) (T:=T) (t:=t) (pos:=pos) (after:=after) hx hy (Int.natCast_nonneg n) hN
   simp only [Int.ofNat_eq_natCast,toNat_natCast] at this
   exact this
  ·cases h
 | shr =>
  simp only [bkj] at h
  split at h
  ·rename_i n
   rw [aue] at h
   obtain rfl:=Option.some.inj h
   have:=bnw (P:=P) (R:=R) (S:=S) (T:=T) (t:=t) (pos:=pos) (after:=after) hx hy (Int.natCast_nonneg n) hN
   simp only [Int.ofNat_eq_natCast,toNat_natCast] at this
   exact this
  ·cases h
 | eql=>exact hc _ rfl h
 | neq=>exact hc _ rfl h
 | lss=>exact hc _ rfl h
 | leq=>exact hc _ rfl h
 | gtr=>exact hc _ rfl h
 | geq=>exact hc _ rfl h
 | _=>exact hb _ h
end
def neB (op:BinOp) (b:Bool):Bool:=match op with
  | .eql=>b
  | _=>!b
def bp6:AV -> Option Bool
  | .v (.slice none 0 0)=>some true
  | .lst _ (_ :: _)=>some false
  | .ms _ _ _ (_ + 1)=>some false
  | _=>none
theorem a7q {S:TypeId} {w:World} {E:TypeId} (h3:(underlying S).run P w = .ok (.slice E) w) {a:Option Addr} {n c:Nat} :
  (Op.equal S (.slice a n c) (.slice none 0 0)).run P w = .ok a.isNone w:=by
 show (Op.equalIn (9999 + 1) S _ _).run P w = _
 rw [Op.equalIn]
 cases a <;> simp [h3]
theorem biu {s:AS} {R:Array Oper} {d:Nat} {x:Operand} {xv:AV} {b:Bool} {op:BinOp} {S T t E:TypeId} {ti:TI} {pos:String} {after:Array Edge} (hop:op = .eql \/ op = .neq)
  (hx:Ev s x xv) (hv:bp6 xv = some b) (hS:aah P S = some ti) (hk:ti.k = .slice E) (hN:Nat.blt d N = true) :
  Step P N R s ⟨some d,.binOp op S x (.const (.slice none 0 0)) T,t,pos,after,none⟩ ⟨some (.v (.bool (neB op b))),[],aal x,[]⟩ :=
 aa1 rfl rfl hN fun s' hag C m a w hr=>⟨.bool (neB op b), by
  have h:=(hx.agree hag (fun _ h=>h)).rep hr
  obtain ⟨d2,h3,h4,-,-⟩:=abr hS w
  obtain rfl:=ack (h4.trans hk)
  have h2:a.eval (.const (.slice none 0 0)) = .slice none 0 0:=rfl
  obtain ⟨ad, n, c, he, hb⟩:∃ ad n c, a.eval x = .slice ad n c /\ ad.isNone = b:=by
   generalize a.eval x = u at h
   unfold bp6 at hv
   split at hv
   ·cases hv; cases h; exact ⟨_,_,_,rfl,rfl⟩
   ·cases hv
    cases h with
    | lst u hb hc hl hs h1 hu hr=>exact ⟨_,_,_,rfl,rfl⟩
   ·cases hv
    cases h with
    | ms hm hc hS=>exact ⟨_,_,_,rfl,rfl⟩
   ·cases hv
  have h5:=a7q (P:=P) (a:=ad) (n:=n) (c:=c) h3
  rcases hop with rfl | rfl <;> simp [execOp,he,h2,eqGuard,binOp,h5,hb,neB],.v _⟩
theorem a47 {s:AS} {R:Array Oper} {d:Nat} {x:Operand} {lo hi:Option Operand} {T E t:TypeId} {ti te:TI} {pos:String} {after:Array Edge}
  (hx:Ev s x (.v (.slice none 0 0))) (hl:EvI s lo 0 0) (hh:EvI s hi 0 0) (hT:aah P T = some ti) (hk:ti.k = .slice E) (hE:aah P E = some te) (hN:Nat.blt d N = true) :
  Step P N R s ⟨some d,.slice T x lo hi none,t,pos,after,none⟩ ⟨some (.v (.slice none 0 0)),[],aal x ++ (rtO lo ++ rtO hi),[]⟩ :=
 aa1 rfl rfl hN fun s' hag C m a w hr=>by
  have hxv:=amq hr (hx.agree hag (fun _ h=>List.mem_append.2 (.inl h)))
  have hl':=hl.agree hag (fun _ h=>List.mem_append.2 (.inr (List.mem_append.2 (.inl h))))
  have hh':=hh.agree hag (fun _ h=>List.mem_append.2 (.inr (List.mem_append.2 (.inr h))))
  obtain ⟨d2,hu,h3,-,-⟩:=abr hT w
  obtain rfl:=ack (h3.trans hk)
  have:=adq (P:=P) hr (cap:=0) true hl' hh' (le_refl _) (le_refl _)
  exact ⟨.slice none 0 0,by simp [execOp,hxv,Instr.sliceAt,hu,Instr.slice,this,abd hE],.v _⟩
theorem a6a {s:AS} {R:Array Oper} {d:Nat} {x:Operand} {k1 k2:IntKind} {sz:Nat} {es:List AV} {T E t:TypeId} {ti te:TI} {pos:String} {after:Array Edge}
  (hx:Ev s x (.lst sz es)) (hT:aah P T = some ti) (hk:ti.k = .slice E) (hE:aah P E = some te) (hsz:te.size = sz) (hN:Nat.blt d N = true) :
  Step P N R s ⟨some d,.slice T x none (some (.const (.int k1 0))) (some (.const (.int k2 0))),t,pos,after,none⟩ ⟨some (.ms d sz 0 0),[(d,some (.row sz []))],aal x,[]⟩:=by
 refine auy rfl ?_
 intro s' hag hnew C m a w next hC hr hnext
 have hfr:s'.Fresh d:=by
  rcases hnew d (by simp) with h | h
  ·cases h
  ·exact h
 have hxr:=(hx.agree hag (fun _ h=>h)).rep hr
 obtain ⟨d2,hu,h3,-,-⟩:=abr hT w
 obtain rfl:=ack (h3.trans hk)
 obtain ⟨ad, n, c, he⟩:∃ ad n c, a.eval x = .slice ad n c:=by
  generalize a.eval x = u at hxr
  cases hxr with
  | lst0 a cap=>exact ⟨_,_,_,rfl⟩
  | lst u hb hc hl hs h1 hu hr=>exact ⟨_,_,_,rfl⟩
 have e1:a.eval (.const (.int k1 0)) = .int k1 0:=rfl
 have e2:a.eval (.const (.int k2 0)) = .int k2 0:=rfl
 have hex:(execOp a.eval ⟨some d, .slice T x none (some (.const (.int k1 0))) (some (.const (.int k2 0))), t, pos, after, none⟩).run P w = .ok (.value (.slice ad 0 0)) w:=by
  simp [execOp,he,e1,e2,Instr.sliceAt,hu,Instr.slice,Instr.sliceBounds,Instr.sliceBound,asIntOf,abd hE]
 rw [hex]
 rw [Nat.blt_eq] at hN
 simp only [Oper.upon,Act.put]
 obtain ⟨m2,h1⟩:∃ m2,RelM C ⟨s'.sl,(d,some (.row sz [])) :: s'.hp⟩ m2 a w:=⟨_,hr.virt sz hfr⟩
 refine hnext m2 _ _ ?_
 have:=h1.put d (.slice ad 0 0) (some (.ms d sz 0 0)) (fun z hz=>by
  cases hz
  exact ⟨by have:=hr.nt; omega,.ms0 _ _ _ _⟩)
 simpa [AS.app] using this
variable [Inhabited (Tys P)]
def brv:BinOp -> Bool
  | .eql | .neq=>true
  | _=>false
def bos:List UInt8 -> List UInt8 -> Bool
  | [], y=>match y with
    | []=>true
    | _=>false
  | x :: l, y=>match y with
    | x' :: l'=>match Nat.beq x.toNat x'.toNat with
      | true=>bos l l'
      | false=>false
    | []=>false
theorem ayd:∀ {a b:List UInt8}, bos a b = (a == b)
 | [],[]=>rfl
 | [],_ :: _=>rfl
 | _ :: _,[]=>rfl
 | x :: l, x' :: l'=>by
  show (match Nat.beq x.toNat x'.toNat with | true=>bos l l' | false=>false) = _
  cases h:Nat.beq x.toNat x'.toNat with
  | true =>
   have:x = x':=UInt8.toNat_inj.1 (eq_of_beq_eq_true h)
   subst this
   simp only [ayd (a:=l)]
   simp
  | false =>
   have:x ≠ x':=fun e=>Nat.ne_of_beq_eq_false h (by rw [e])
   simp [this]
def bee (a b:ByteArray):Bool:=bos a.data.toList b.data.toList
theorem aze (a b:ByteArray):(a.toList == b.toList) = bee a b:=by
 unfold bee; rw [ayd,ByteArray.toList_eq,ByteArray.toList_eq]
def bpd (P:Program) [Inhabited (Tys P)] (op:BinOp) (S:TypeId) (x y:Operand) (vx vy:Value):Option V1:=match vx with
  | .int k a=>match vy with
    | .int k' b=>bkj op x y k k' a b
    | _=>none
  | vx=>match vy with
    | .nilIface=>match y with
      | .const _=>match be3 vx with
        | true=>match ah9 P S with
          | some ti=>match ti.k with
            | .iface _=>match op with
              | .eql=>some ⟨.v (.bool (ag0 vx)),aal x ++ [],[]⟩
              | .neq=>some ⟨.v (.bool !(ag0 vx)),aal x ++ [],[]⟩
              | _=>none
            | _=>none
          | none=>none
        | false=>none
      | _=>none
    | .string b=>match vx with
      | .string a=>match op with
        | .eql=>match bee a b with
          | true=>some ⟨.v (.bool true),aal x ++ aal y,[]⟩
          | false=>some ⟨.v (.bool false),aal x ++ aal y,[]⟩
        | .neq=>match bee a b with
          | true=>some ⟨.v (.bool false),aal x ++ aal y,[]⟩
          | false=>some ⟨.v (.bool true),aal x ++ aal y,[]⟩
        | _=>none
      | _=>none
    | vy=>match bki P op S x y [] vx vy with
      | some r=>match r.ob with
        | []=>some ⟨r.x,r.rt,r.rd⟩
        | _=>none
      | none=>none
def bin (P:Program) [Inhabited (Tys P)] (T sz:Nat):Bool:=match ah9 P T with
  | some ti=>match ti.k with
    | .slice E=>match ah9 P E with
      | some te=>Nat.beq te.size sz
      | none=>false
    | _=>false
  | none=>false
theorem ark {T sz:Nat} (h:bin P T sz = true):∃ ti E te, aah P T = some ti /\ ti.k = .slice E /\ aah P E = some te /\ te.size = sz:=by
 unfold bin at h
 split at h
 ·rename_i ti hti
  split at h
  ·rename_i E hk
   split at h
   ·rename_i te hte
    exact ⟨ti,E,te,aay hti,hk,aay hte,eq_of_beq_eq_true h⟩
   ·cases h
  ·cases h
 ·cases h
def bdC (s:AS) (o:Option Operand) (d:Nat):Option Nat:=match o with
  | none=>some d
  | some x=>match rdC s x with
    | some (.v (.int _ (.ofNat n)))=>some n
    | _=>none
theorem ar8 {s:AS} {o:Option Operand} {d n:Nat} (h:bdC s o d = some n):EvI s o d n:=by
 cases o with
 | none=>cases h; exact .none d
 | some x =>
  simp only [bdC] at h
  split at h
  ·rename_i hx
   cases h
   exact .some (i:=Int.ofNat n) d (abe hx) (Int.natCast_nonneg _)
  ·cases h
def ldE (ti:TI) (l:List AV):Option AV:=match ti.ag with
  | true=>match frc (l.take ti.size) with
    | some r=>some (.agg r)
    | none=>none
  | false=>match Nat.beq ti.size 1 with
    | true=>match l with
      | x :: _=>some x
      | []=>none
    | false=>none
theorem bm0 {ti:TI} {l:List AV} {x:AV} (h:ldE ti l = some x):(ti.ag || Nat.beq ti.size 1) = true /\ x = mkT ti.ag (l.take ti.size):=by
 unfold ldE at h
 split at h
 ·rename_i ha
  split at h
  ·rename_i r hr; cases h; rw [ha,ag6 hr]; exact ⟨rfl,rfl⟩
  ·cases h
 ·rename_i ha
  split at h
  ·rename_i h1
   split at h
   ·cases h; rw [ha,eq_of_beq_eq_true h1]; exact ⟨rfl,rfl⟩
   ·cases h
  ·cases h
def bkl:List AV -> List AV -> Option (List Value × List Nat)
  | [],[]=>some ([],[])
  | .v (.int .i64 a) :: l, .v (.int .i64 b) :: l'=>match a == b with
    | true=>match bkl l l' with
      | some (vs,ks)=>some (.int .i64 a :: vs,1 :: ks)
      | none=>none
    | false=>none
  | .v (.string a) :: l, .v (.string b) :: l'=>match bee a b with
    | true=>match bkl l l' with
      | some (vs,ks)=>some (.string a :: vs,2 :: ks)
      | none=>none
    | false=>none
  | _,_=>none
theorem bh2 {a b:ByteArray} (h:bee a b = true):a = b:=by
 rw [<- aze,beq_iff_eq,ByteArray.toList_eq,ByteArray.toList_eq] at h
 cases a; cases b; congr 1
 exact Array.ext' h
theorem ay8:∀ {l l':List AV} {vs:List Value} {ks:List Nat}, bkl l l' = some (vs, ks) -> l = vs.map .v /\ l' = vs.map .v /\ vs.map vk = ks
 | [],[],_,_,h=>by cases h; exact ⟨rfl,rfl,rfl⟩
 | .v (.int .i64 a) :: l, .v (.int .i64 b) :: l', _, _, h=>by
  rw [bkl] at h
  split at h
  ·rename_i he
   split at h
   ·rename_i vs ks hs
    obtain ⟨h1,h2,h3⟩:=ay8 hs
    cases h
    cases eq_of_beq he
    exact ⟨by rw [h1]; rfl,by rw [h2]; rfl,by rw [<- h3]; rfl⟩
   ·cases h
  ·cases h
 | .v (.string a) :: l, .v (.string b) :: l', _, _, h=>by
  rw [bkl] at h
  split at h
  ·rename_i he
   split at h
   ·rename_i vs ks hs
    obtain ⟨h1,h2,h3⟩:=ay8 hs
    cases h
    cases bh2 he
    exact ⟨by rw [h1]; rfl,by rw [h2]; rfl,by rw [<- h3]; rfl⟩
   ·cases h
  ·cases h
def bq4 (P:Program) (op:BinOp) (S:TypeId) (x y:Operand) (cs cs':List AV):Option V1:=match op with
  | .neq=>match bkl cs cs' with
    | some (_, ks)=>match bon P S ks with
      | true=>some ⟨.v (.bool false),aal x ++ aal y,[]⟩
      | false=>none
    | none=>none
  | _=>none
omit [Inhabited (Tys P)] in
theorem bjd {s:AS} {R:Array Oper} {d:Nat} {x y:Operand} {cs cs':List AV} {op:BinOp} {S T t:TypeId} {pos:String} {after:Array Edge} {r:V1} (h:bq4 P op S x y cs cs' = some r)
  (hx:Ev s x (.agg cs)) (hy:Ev s y (.agg cs')) (hN:Nat.blt d N = true):Step P N R s ⟨some d,.binOp op S x y T,t,pos,after,none⟩ ⟨some r.x,[],r.rt,r.rd⟩:=by
 unfold bq4 at h
 split at h
 ·split at h
  ·rename_i vs ks hs
   obtain ⟨h1,h2,h3⟩:=ay8 hs
   subst h1; subst h2
   split at h
   ·rename_i hS; cases h; exact ba6 hx hy h3 hS hN
   ·cases h
  ·cases h
 ·cases h
def boz (P:Program) (t:TypeId):Bool:=match P.underlying t with | some (.pointer _)=>true | _=>false
omit [Inhabited (Tys P)] in
theorem boc {t:TypeId} (h:boz P t = true):P.underlying t = some (.pointer (P.pointee t)):=by
 unfold boz at h
 split at h
 ·rename_i e he
  rw [he]
  unfold Program.pointee
  rw [he]
 ·cases h
omit [Inhabited (Tys P)] in
theorem biy {s:AS} {R:Array Oper} {d:Nat} {x:Operand} {k off:Nat} {op:BinOp} {S T t:TypeId} {pos:String} {after:Array Edge} (hop:op = .eql \/ op = .neq)
  (hx:Ev s x (.ptr k off)) (hS:boz P S = true) (hN:Nat.blt d N = true) :
  Step P N R s ⟨some d,.binOp op S x (.const (.pointer none)) T,t,pos,after,none⟩ ⟨some (.v (.bool (neB op false))),[],aal x,[]⟩ :=
 aa1 rfl rfl hN fun s' hag C m a w hr=>⟨.bool (neB op false), by
  have h:=(hx.agree hag (fun _ h=>h)).rep hr
  have h2:a.eval (.const (.pointer none)) = .pointer none:=rfl
  have hu:=boc hS
  generalize ha:a.eval x = u at h
  cases h
  rcases hop with rfl | rfl
  ·simp [execOp,ha,h2,eqGuard,run_eql_pointer_nil w S _ hu,neB]
  ·simp [execOp,ha,h2,eqGuard,run_neq_pointer_nil w S _ hu,neB],.v _⟩
def ptV (P:Program) (op:BinOp) (S:TypeId) (x y:Operand):Option V1:=match y with
  | .const (.pointer none)=>match brv op with
    | true=>match boz P S with
      | true=>match op with
        | .eql=>some ⟨.v (.bool false),aal x,[]⟩
        | _=>some ⟨.v (.bool true),aal x,[]⟩
      | false=>none
    | false=>none
  | _=>none
omit [Inhabited (Tys P)] in
theorem bkp {s:AS} {R:Array Oper} {d:Nat} {x y:Operand} {k off:Nat} {op:BinOp} {S T t:TypeId} {pos:String} {after:Array Edge} {r:V1} (h:ptV P op S x y = some r)
  (hx:Ev s x (.ptr k off)) (hN:Nat.blt d N = true):Step P N R s ⟨some d,.binOp op S x y T,t,pos,after,none⟩ ⟨some r.x,[],r.rt,r.rd⟩:=by
 unfold ptV at h
 split at h
 ·split at h
  ·rename_i hop
   have hop:op = .eql \/ op = .neq:=by cases op <;> first | exact .inl rfl | exact .inr rfl | cases hop
   split at h
   ·rename_i hS
    have h9:=biy (P:=P) (R:=R) (T:=T) (t:=t) (pos:=pos) (after:=after) hop hx hS hN
    rcases hop with rfl | rfl <;> (cases h; exact h9)
   ·cases h
  ·cases h
 ·cases h
def brl (P:Program) (op:BinOp) (S:TypeId) (x y:Operand) (a b c e:Int):Option V1:=match op with
  | .eql=>match bo8 P S with
    | true=>match a == c && b == e with
      | true=>some ⟨.v (.bool true),aal x ++ aal y,[]⟩
      | false=>some ⟨.v (.bool false),aal x ++ aal y,[]⟩
    | false=>none
  | _=>none
def opV (P:Program) [Inhabited (Tys P)] (s:AS) (op:Op):Option V1:=match op with
  | .pick c x y=>match rdC s c with
    | some (.v (.bool b))=>match b with
      | true=>match rdC s x with
        | some (.v (.bool z))=>some ⟨.v (.bool z),aal c ++ (aal x ++ aal y),[]⟩
        | _=>none
      | false=>match rdC s y with
        | some (.v (.bool z))=>some ⟨.v (.bool z),aal c ++ (aal x ++ aal y),[]⟩
        | _=>none
    | _=>none
  | .binOp op S x (.const (.slice none 0 0)) _=>match brv op with
    | true=>match rdC s x with
      | some xv=>match bp6 xv with
        | some b=>match ah9 P S with
          | some ti=>match ti.k with
            | .slice _=>match op with
              | .eql=>some ⟨.v (.bool b),aal x,[]⟩
              | _=>match b with
                | true=>some ⟨.v (.bool false),aal x,[]⟩
                | false=>some ⟨.v (.bool true),aal x,[]⟩
            | _=>none
          | none=>none
        | none=>none
      | none=>none
    | false=>none
  | .binOp op S x y _=>match rdC s x with
    | some (.v vx)=>match rdC s y with
      | some (.v vy)=>bpd P op S x y vx vy
      | _=>none
    | some (.agg [.v (.int .i64 a), .v (.int .i64 b)])=>match rdC s y with
      | some (.agg [.v (.int .i64 c),.v (.int .i64 e)])=>brl P op S x y a b c e
      | _=>none
    | some (.ptr _ _)=>ptV P op S x y
    | some (.agg cs)=>match rdC s y with
      | some (.agg cs')=>bq4 P op S x y cs cs'
      | _=>none
    | _=>none
  | .unOp .neg _ x=>match rdC s x with
    | some (.v (.int k n))=>wI (k.wrap (0 - n)) fun z=>some ⟨.v (.int k z),aal x,[]⟩
    | _=>none
  | .convert S T x=>match rdC s x with
    | some (.v (.int _ n))=>match ah9 P S with
      | some _=>match ah9 P T with
        | some ti=>match ti.k with
          | .int k'=>wI (k'.wrap n) fun z=>some ⟨.v (.int k' z),aal x,[]⟩
          | _=>none
        | none=>none
      | none=>none
    | _=>none
  | .indexAddr T x ix=>match rdC s ix with
    | some (.v (.int _ (.ofNat i)))=>match rdC s x with
      | some (.lst sz es)=>match bin P T sz with
        | true=>match es[i]? with
          | some e=>some ⟨.iptr e.cells,aal x ++ aal ix,[]⟩
          | none=>none
        | false=>none
      | some (.ms k sz off len)=>match bin P T sz && Nat.blt i len with
        | true=>wN (off + i) fun n=>some ⟨.eptr k sz n 0,aal x ++ aal ix,[]⟩
        | false=>none
      | some (.ptr k off)=>match ah9 P T with
        | some ti=>match ti.k with
          | .array n E=>match ah9 P E with
            | some te=>match Nat.blt i n with
              | true=>wN (off + i * te.size) fun m=>some ⟨.ptr k m,aal x ++ aal ix,[]⟩
              | false=>none
            | none=>none
          | _=>none
        | none=>none
      | _=>none
    | _=>none
  | .load T x=>match rdC s x with
    | some (.eptr k sz i off)=>match s.blk k with
      | some (.row sz' es)=>match Nat.beq sz sz' with
        | true=>match es[i]? with
          | some e=>match ah9 P T with
            | some ti=>match Nat.ble (off + ti.size) e.cells.length with
              | true=>match ldE ti (e.cells.drop off) with
                | some v=>some ⟨v,aal x,[k]⟩
                | none=>none
              | false=>none
            | none=>none
          | none=>none
        | false=>none
      | _=>none
    | some y=>match ah9 P T with
      | some ti=>match a3h P s ti x [] y with
        | some r=>some ⟨r.x,r.rt,r.rd⟩
        | none=>none
      | none=>none
    | none=>none
  | .index T x ix=>match rdC s ix with
    | some (.v (.int _ (.ofNat i)))=>match rdC s x with
      | some (.v (.string b))=>match ah9 P T with
        | some ti=>match ti.k with
          | .string=>match Nat.blt i b.size with
            | true=>wN (b.data.getD i 0).toNat fun n=>some ⟨.v (.int .u8 (Int.ofNat n)),aal x ++ aal ix,[]⟩
            | false=>none
          | _=>none
        | none=>none
      | _=>none
    | _=>none
  | .slice T x lo hi none=>match rdC s x with
    | some (.lst sz es)=>match bdC s lo 0 with
      | some l=>match bdC s hi es.length with
        | some h=>match bin P T sz && Nat.ble l h && Nat.ble h es.length with
          | true=>match frc ((es.drop l).take (h - l)) with
            | some r=>some ⟨.lst sz r,aal x ++ (rtO lo ++ rtO hi),[]⟩
            | none=>none
          | false=>none
        | none=>none
      | none=>none
    | some (.v (.slice none 0 0))=>match bdC s lo 0 with
      | some 0=>match bdC s hi 0 with
        | some 0=>match ah9 P T with
          | some ti=>match ti.k with
            | .slice E=>match ah9 P E with
              | some _=>some ⟨.v (.slice none 0 0),aal x ++ (rtO lo ++ rtO hi),[]⟩
              | none=>none
            | _=>none
          | none=>none
        | _=>none
      | _=>none
    | some (.ms k sz off len)=>match bdC s lo 0 with
      | some l=>match bdC s hi len with
        | some h=>match bin P T sz && Nat.ble l h && Nat.ble h len with
          | true=>wN (off + l) fun a=>wN (h - l) fun b=>some ⟨.ms k sz a b,aal x ++ (rtO lo ++ rtO hi),[]⟩
          | false=>none
        | none=>none
      | none=>none
    | _=>none
  | .call ⟨.builtin .len, args, ts⟩=>match args.toList with
    | [x]=>match ts.toList with
      | [T]=>match rdC s x with
        | some (.lst _ es)=>match ah9 P T with
          | some ti=>match ti.k with
            | .slice _=>wN es.length fun n=>some ⟨.v (.int .i64 (Int.ofNat n)),aal x,[]⟩
            | _=>none
          | none=>none
        | some y=>match bkk P x T [] y with
          | some r=>some ⟨r.x,r.rt,r.rd⟩
          | none=>none
        | none=>none
      | _=>none
    | _=>none
  | .call ⟨.builtin .max, args, ts⟩=>match args.toList with
    | [x, y]=>match rdC s x with
      | some (.v (.int .i64 a))=>match rdC s y with
        | some (.v (.int .i64 b))=>wI (if b > a then b else a) fun z=>some ⟨.v (.int .i64 z),aal x ++ aal y,[]⟩
        | _=>none
      | _=>none
    | _=>none
  | op=>match a75 P false True s op with
    | some r=>match r.ob with
      | []=>some ⟨r.x,r.rt,r.rd⟩
      | _=>none
    | none=>none
omit [Inhabited (Tys P)] in
theorem bl7 {N d:Nat} {s:AS} {R:Array Oper} {x y:Operand} {a b:Int} {t:TypeId} {ts:Array TypeId} {pos:String} {after:Array Edge} (hx:Ev s x (.v (.int .i64 a))) (hy:Ev s y (.v (.int .i64 b))) (hN:Nat.blt d N = true) :
  Step P N R s ⟨some d,.call ⟨.builtin .max,#[x,y],ts⟩,t,pos,after,none⟩ ⟨some (.v (.int .i64 (if b > a then b else a))),[],aal x ++ aal y,[]⟩ :=
 aa1 rfl rfl hN fun s' hag C m ac w hr=>⟨.int .i64 (if b > a then b else a), by
  have h:=(hx.agree hag (fun _ h=>List.mem_append.2 (.inl h))).rep hr
  have h':=(hy.agree hag (fun _ h=>List.mem_append.2 (.inr h))).rep hr
  generalize hu:ac.eval x = u at h
  generalize hv:ac.eval y = v at h'
  cases h; cases h'
  simp [execOp,resolve,hu,hv,invoke,builtin,Builtin.max_,Builtin.max2],.v _⟩
section
variable {s:AS} {R:Array Oper} {d:Nat} {t T:TypeId} {pos:String} {after:Array Edge}
theorem bgz {op:BinOp} {x y:Operand} {vx vy:Value} {S:TypeId} {r:V1} (hx:Ev s x (.v vx)) (hy:Ev s y (.v vy)) (h:bpd P op S x y vx vy = some r) (hN:Nat.blt d N = true) :
  Step P N R s ⟨some d,.binOp op S x y T,t,pos,after,none⟩ ⟨some r.x,[],r.rt,r.rd⟩:=by
 unfold bpd at h
 split at h
 ·split at h
  ·exact bgv hx hy h hN
  ·cases h
 ·split at h
  ·split at h
   ·rename_i c
    have hc:c = .nilIface:=by cases hy; rfl
    subst hc
    split at h
    ·rename_i he
     split at h
     ·rename_i ti hti
      split at h
      ·rename_i hk
       split at h
       ·cases h; exact a62 hx (axg he) (aay hti) hk hN
       ·cases h; exact a88 hx (axg he) (aay hti) hk hN
       ·cases h
      ·cases h
     ·cases h
    ·cases h
   ·cases h
  ·split at h
   ·split at h
    ·have h9:=a17 (P:=P) (R:=R) (S:=S) (T:=T) (t:=t) (pos:=pos) (after:=after) hx hy hN
     rw [aze] at h9
     split at h
     ·rename_i hb; rw [hb] at h9; cases h; exact h9
     ·rename_i hb; rw [hb] at h9; cases h; exact h9
    ·have h9:=a73 (P:=P) (R:=R) (S:=S) (T:=T) (t:=t) (pos:=pos) (after:=after) hx hy hN
     rw [aze] at h9
     split at h
     ·rename_i hb; rw [hb] at h9; cases h; exact h9
     ·rename_i hb; rw [hb] at h9; cases h; exact h9
    ·cases h
   ·cases h
  ·split at h
   ·rename_i r' h1
    split at h
    ·rename_i ho; cases h; exact bay hx hy h1 (by rw [ho]; exact .nil) hN
    ·cases h
   ·cases h
theorem a8q {op:Op} {r:V1} (h:opV P s op = some r) (hN:Nat.blt d N = true):Step P N R s ⟨some d, op, t, pos, after, none⟩ ⟨some r.x, [], r.rt, r.rd⟩:=by
 unfold opV at h
 split at h
 ·split at h
  ·rename_i hc
   split at h
   ·split at h
    ·rename_i z hz; cases h
     exact ba0 (bz:=z) (abe hc) (fun _=>abe hz) (fun e=>by cases e) hN
    ·cases h
   ·split at h
    ·rename_i z hz; cases h
     exact ba0 (bx:=z) (abe hc) (fun e=>by cases e) (fun _=>abe hz) hN
    ·cases h
  ·cases h
 ·rename_i op S x T
  split at h
  ·rename_i hop
   have hop:op = .eql \/ op = .neq:=by cases op <;> first | exact .inl rfl | exact .inr rfl | cases hop
   split at h
   ·rename_i xv hx
    split at h
    ·rename_i b hv
     split at h
     ·rename_i ti hti
      split at h
      ·rename_i hk
       have h9:=biu (P:=P) (R:=R) (T:=T) (t:=t) (pos:=pos) (after:=after) hop (abe hx) hv (aay hti) hk hN
       rcases hop with rfl | rfl
       ·cases h; exact h9
       ·cases b <;> (cases h; exact h9)
      ·cases h
     ·cases h
    ·cases h
   ·cases h
  ·cases h
 ·rename_i T hne
  split at h
  ·rename_i hx
   split at h
   ·rename_i hy; exact bgz (abe hx) (abe hy) h hN
   ·cases h
  ·rename_i hx
   split at h
   ·rename_i hy
    unfold brl at h
    split at h
    ·split at h
     ·rename_i he
      have h9:=bnp (P:=P) (R:=R) (T:=T) (t:=t) (pos:=pos) (after:=after) (abe hx) (abe hy) he hN
      split at h
      ·rename_i hb; rw [hb] at h9; cases h; exact h9
      ·rename_i hb; rw [hb] at h9; cases h; exact h9
     ·cases h
    ·cases h
   ·cases h
  ·rename_i hx; exact bkp h (abe hx) hN
  ·rename_i hx
   split at h
   ·rename_i hy; exact bjd h (abe hx) (abe hy) hN
   ·cases h
  ·cases h
 ·split at h
  ·rename_i hx; rw [aue] at h; cases h; exact a4g (abe hx) hN
  ·cases h
 ·split at h
  ·rename_i hx
   split at h
   ·rename_i hS
    split at h
    ·rename_i hT
     split at h
     ·rename_i hk; rw [aue] at h; cases h; exact bno (abe hx) hN (aay hS) (aay hT) hk
     ·cases h
    ·cases h
   ·cases h
  ·cases h
 ·split at h
  ·rename_i i hi
   split at h
   ·rename_i hx
    split at h
    ·rename_i hs
     obtain ⟨ti,E,te,h1,h2,h3,h4⟩:=ark hs
     split at h
     ·rename_i e he; cases h
      exact a19 (i:=Int.ofNat i) (abe hx) (abe hi) h1 h2 h3 h4 (Int.natCast_nonneg _) he hN
     ·cases h
    ·cases h
   ·rename_i hx
    split at h
    ·rename_i hs
     simp only [and_eq_true,Nat.blt_eq] at hs
     obtain ⟨ti,E,te,h1,h2,h3,h4⟩:=ark hs.1
     rw [awu] at h; cases h
     exact aij (i:=Int.ofNat i) (abe hx) (abe hi) h1 h2 h3 h4 (Int.natCast_nonneg _) (Int.ofNat_lt.2 hs.2) hN
    ·cases h
   ·rename_i hx
    split at h
    ·rename_i hT
     split at h
     ·rename_i hk
      split at h
      ·rename_i hE
       split at h
       ·rename_i hlt
        rw [awu] at h; cases h
        exact biz (i:=Int.ofNat i) (abe hx) (abe hi) (aay hT) hk (aay hE) rfl (Int.natCast_nonneg _) (Int.ofNat_lt.2 (by rw [Nat.blt_eq] at hlt; exact hlt)) hN
       ·cases h
      ·cases h
     ·cases h
    ·cases h
   ·cases h
  ·cases h
 ·split at h
  ·rename_i hx
   split at h
   ·rename_i hk
    split at h
    ·rename_i hs
     split at h
     ·rename_i e he
      split at h
      ·rename_i ti hT
       split at h
       ·rename_i hle
        split at h
        ·rename_i v hv
         cases h
         cases eq_of_beq_eq_true hs
         obtain ⟨h1,rfl⟩:=bm0 hv
         exact aav (abe hx) hk he (aay hT) hle h1 hN
        ·cases h
       ·cases h
      ·cases h
     ·cases h
    ·cases h
   ·cases h
  ·rename_i hx
   split at h
   ·rename_i ti hT
    split at h
    ·rename_i h1; cases h; exact a03 (abe hx) (aay hT) h1 hN
    ·cases h
   ·cases h
  ·cases h
 ·split at h
  ·rename_i i hi
   split at h
   ·rename_i hx
    split at h
    ·rename_i ti hT
     split at h
     ·rename_i hk
      split at h
      ·rename_i hb
       rw [Nat.blt_eq] at hb
       rw [awu] at h; cases h
       exact amk (i:=Int.ofNat i) (abe hx) (abe hi) (aay hT) hk (Int.natCast_nonneg _) (Int.ofNat_lt.2 hb) hN
      ·cases h
     ·cases h
    ·cases h
   ·cases h
  ·cases h
 ·split at h
  ·rename_i hx
   split at h
   ·rename_i l hl
    split at h
    ·rename_i hh hhi
     split at h
     ·rename_i hs
      simp only [and_eq_true,Nat.ble_eq] at hs
      obtain ⟨ti,E,te,h1,h2,h3,h4⟩:=ark hs.1.1
      split at h
      ·rename_i hr; cases h; cases ag6 hr
       exact aap (abe hx) (ar8 hl) (ar8 hhi) h1 h2 h3 h4 hs.1.2 hs.2 hN
      ·cases h
     ·cases h
    ·cases h
   ·cases h
  ·rename_i hx
   split at h
   ·rename_i hl
    split at h
    ·rename_i hh
     split at h
     ·rename_i ti hT
      split at h
      ·rename_i E hk
       split at h
       ·rename_i te hE
        cases h
        exact a47 (abe hx) (ar8 hl) (ar8 hh) (aay hT) hk (aay hE) hN
       ·cases h
      ·cases h
     ·cases h
    ·cases h
   ·cases h
  ·rename_i hx
   split at h
   ·rename_i l hl
    split at h
    ·rename_i hh hhi
     split at h
     ·rename_i hs
      simp only [and_eq_true,Nat.ble_eq] at hs
      obtain ⟨ti,E,te,h1,h2,h3,h4⟩:=ark hs.1.1
      rw [awu,awu] at h; cases h
      exact ajp (abe hx) (ar8 hl) (ar8 hhi) h1 h2 h3 h4 hs.1.2 hs.2 hN
     ·cases h
    ·cases h
   ·cases h
  ·cases h
 ·rename_i args ts
  split at h
  ·rename_i x hx
   split at h
   ·rename_i T hT
    have e1:args = #[x]:=by apply Array.toList_inj.1; simpa using hx
    have e2:ts = #[T]:=by apply Array.toList_inj.1; simpa using hT
    subst e1; subst e2
    split at h
    ·rename_i h1
     split at h
     ·rename_i ti hti
      split at h
      ·rename_i hk; rw [awu] at h; cases h; exact a2k (abe h1) (aay hti) hk hN
      ·cases h
     ·cases h
    ·rename_i h1
     split at h
     ·rename_i h2; cases h; exact a7b (abe h1) h2 hN
     ·cases h
    ·cases h
   ·cases h
  ·cases h
 ·rename_i args ts
  split at h
  ·rename_i x y hx
   split at h
   ·rename_i h1
    split at h
    ·rename_i h2
     have e1:args = #[x,y]:=by apply Array.toList_inj.1; simpa using hx
     subst e1
     rw [aue] at h; cases h; exact bl7 (abe h1) (abe h2) hN
    ·cases h
   ·cases h
  ·cases h
 ·split at h
  ·rename_i h1
   split at h
   ·rename_i ho; cases h; exact aov h1 (by rw [ho]; exact .nil) trivial hN
   ·cases h
  ·cases h
end
end Go.Lw
namespace Go.Lw
variable {P:Program} {N:Nat}
def tr (a b k:Nat):Nat:=match Nat.beq k a with
  | true=>b
  | false=>match Nat.beq k b with
    | true=>a
    | false=>k
theorem bps (a b k:Nat):tr a b k = if k = a then b else if k = b then a else k:=by
 unfold tr
 split
 ·rename_i h; rw [if_pos (eq_of_beq_eq_true h)]
 ·rename_i h; rw [if_neg (Nat.ne_of_beq_eq_false h)]
  split
  ·rename_i h; rw [if_pos (eq_of_beq_eq_true h)]
  ·rename_i h; rw [if_neg (Nat.ne_of_beq_eq_false h)]
theorem bbz (a b k:Nat):tr a b (tr a b k) = k:=by
 simp only [bps]
 by_cases h1:k = a
 ·subst h1
  by_cases h2:b = k
  ·simp [h2]
  ·simp [h2]
 ·by_cases h2:k = b
  ·subst h2; simp [h1]
  ·simp [h1,h2]
theorem a9q {σ:Nat -> Nat} (hσ:∀ k, σ (σ k) = k):∀ H:Hp, pmH σ (pmH σ H) = H
 | []=>rfl
 | (k, x) :: l=>by
  simp only [pmH,hσ,a9q hσ l]
  cases x with
  | none=>rfl
  | some x=>simp only [Blk.pm_pm hσ]
def tA:List (Nat × Nat) -> List AV -> List AV
  | [],xs=>xs
  | p :: L,xs=>tA L (xs.map (AV.pm (tr p.1 p.2)))
def tH:List (Nat × Nat) -> Hp -> Hp
  | [],H=>H
  | p :: L,H=>tH L (pmH (tr p.1 p.2) H)
def rB:List (Nat × Nat) -> AV -> AV
  | [],r=>r
  | p :: L,r=>(rB L r).pm (tr p.1 p.2)
def hB:List (Nat × Nat) -> Hp -> Hp
  | [],H=>H
  | p :: L,H=>pmH (tr p.1 p.2) (hB L H)
theorem brs {f:FuncId}:∀ {L:List (Nat × Nat)} {xs:List AV} {H H':Hp} {r:AV}, Con P f (tA L xs) (tH L H) r H' -> Con P f xs H (rB L r) (hB L H')
 | [],xs,H,H',r,h=>h
 | p :: L, xs, H, H', r, h=>by
  have h1:=(brs (L:=L) h).pm (bbz p.1 p.2)
  rw [a9q (bbz p.1 p.2),map_map] at h1
  have e:(AV.pm (tr p.1 p.2) ∘ AV.pm (tr p.1 p.2)) = id:=by funext x; exact AV.pm_pm (bbz p.1 p.2) x
  rw [e,map_id] at h1
  exact h1
def brr:Nat -> List Nat -> List (Nat × Nat)
  | _,[]=>[]
  | b,k :: ks=>(k,b) :: brr (b + 1) ks
def a3m (k:Nat):List Nat -> Bool
  | []=>false
  | x :: l=>match Nat.beq k x with
    | true=>true
    | false=>a3m k l
def a4i (s:AS):Nat -> List Nat -> List Nat -> List Nat
  | 0,_,acc=>acc
  | n + 1, ks, acc=>match ks with
    | []=>acc
    | k :: ks=>match a3m k acc with
      | true=>a4i s n ks acc
      | false=>match s.blk k with
        | some z=>a4i s n (z.nm ++ ks) (acc ++ [k])
        | none=>a4i s n ks acc
def pkH (s:AS):List Nat -> Hp
  | []=>[]
  | k :: ks=>match s.blk k with
    | some z=>(k,some z) :: pkH s ks
    | none=>pkH s ks
theorem axw {s:AS}:∀ {ks:List Nat} {k:Nat} {z:Blk}, lk (pkH s ks) k = some z -> lk s.hp k = some z
 | [],k,z,h=>by cases h
 | k' :: ks, k, z, h=>by
  unfold pkH at h
  split at h
  ·rename_i y hy
   rw [aac] at h
   split at h
   ·rename_i e; cases h; rw [e]; exact hy
   ·exact axw h
  ·exact axw h
structure Ent (P:Program) where
  f:FuncId
  xs:List AV
  r:AV
  H':Hp
  con:Con P f xs [] r H'
structure FE (P:Program) where
  f:FuncId
  fn:Func
  c:Code
  rs:List ResultVar
  hf:P.funcs[f]? = some fn
  hb:fn.body = some c
  hn : (fn.name == "runtime.NumGoroutine") = false
  hrs:fn.results = rs.toArray
structure Env (P:Program) where
  orc:FuncId -> Option (List AV -> Option (Ent P))
  fe:FuncId -> Option (FE P)
  mt:FuncId -> Bool
def vEq:Value -> Value -> Bool
  | .int k a,.int k' b=>Nat.beq (ikn k) (ikn k') && aaa .eql a b
  | .bool a,.bool b=>a == b
  | .nilIface,.nilIface=>true
  | .string a,.string b=>bee a b
  | .slice none 0 0,.slice none 0 0=>true
  | .func (.func f) ⟨[]⟩ ⟨[]⟩,.func (.func g) ⟨[]⟩ ⟨[]⟩=>Nat.beq f g
  | .nilFunc,.nilFunc=>true
  | .pointer none,.pointer none=>true
  | .iface T v,.iface T' v'=>Nat.beq T T' && vEq v v'
  | _,_=>false
theorem bjk {a b:ByteArray} (h:bee a b = true):a = b:=by
 unfold bee at h
 rw [ayd] at h
 have h:=eq_of_beq h
 have e:∀ c:ByteArray,c = ⟨⟨c.data.toList⟩⟩:=fun c=>by cases c; rfl
 rw [e a,e b,h]
theorem a0t:∀ (a b:Value), vEq a b = true -> a = b
 | .iface T v, b, h=>by
  cases b with
  | iface T' v' =>
   simp only [vEq,and_eq_true] at h
   rw [eq_of_beq_eq_true h.1,a0t v v' h.2]
  | _=>simp [vEq] at h
 | .int k a, b, h=>by
  cases b with
  | int k' b =>
   simp only [vEq,and_eq_true] at h
   rw [aio h.1,eq_of_beq (show (a == b) = true from h.2)]
  | _=>simp [vEq] at h
 | .bool a, b, h=>by
  cases b with
  | bool b=>simp only [vEq,beq_iff_eq] at h; rw [h]
  | _=>simp [vEq] at h
 | .string a, b, h=>by
  cases b with
  | string b=>simp only [vEq] at h; rw [bjk h]
  | _=>simp [vEq] at h
 | .nilIface, b, h=>by
  cases b <;> simp [vEq] at h
  rfl
 | .slice x n c, b, h=>by
  unfold vEq at h
  split at h <;> simp_all
 | .float ..,b,h=>by simp [vEq] at h
 | .complex ..,b,h=>by simp [vEq] at h
 | .pointer p, b, h=>by
  unfold vEq at h
  split at h <;> simp_all
 | .map _,b,h=>by simp [vEq] at h
 | .chan _,b,h=>by simp [vEq] at h
 | .func f x y, b, h=>by
  unfold vEq at h
  split at h <;> first | (simp_all; done) | (simp_all; exact eq_of_beq_eq_true h)
 | .nilFunc, b, h=>by
  unfold vEq at h
  split at h <;> simp_all
 | .agg _,b,h=>by simp [vEq] at h
 | .tuple _,b,h=>by simp [vEq] at h
mutual
def aom:AV -> AV -> Bool
  | .v a, y=>match y with
    | .v b=>vEq a b
    | .lst _ es=>match es with
      | []=>match a with
        | .slice _ 0 _=>true
        | _=>false
      | _=>false
    | _=>false
  | .lst sz es, y=>match y with
    | .lst sz' es'=>Nat.beq sz sz' && az4 es es'
    | _=>false
  | .agg cs, y=>match y with
    | .agg cs'=>ay4 cs cs'
    | _=>false
  | .tup cs, y=>match y with
    | .tup cs'=>a31 cs cs'
    | _=>false
  | _,_=>false
def ay4:List AV -> List AV -> Bool
  | [], y=>match y with
    | []=>true
    | _=>false
  | x :: l, y=>match y with
    | x' :: l'=>x'.one && aom x x' && ay4 l l'
    | []=>false
def a31:List AV -> List AV -> Bool
  | [], y=>match y with
    | []=>true
    | _=>false
  | x :: l, y=>match y with
    | x' :: l'=>aom x x' && a31 l l'
    | []=>false
def az4:List AV -> List AV -> Bool
  | [], y=>match y with
    | []=>true
    | _=>false
  | x :: l, y=>match y with
    | x' :: l'=>auj x x' && az4 l l'
    | []=>false
def auj:AV -> AV -> Bool
  | .agg cs, y=>match y with
    | .agg cs'=>ay4 cs cs'
    | _=>false
  | .v a, y=>match y with
    | .v b=>vEq a b && b.oneCell'
    | .lst _ es=>match es with
      | []=>match a with
        | .slice _ 0 _=>true
        | _=>false
      | _=>false
    | _=>false
  | .lst sz es, y=>match y with
    | .lst sz' es'=>Nat.beq sz sz' && az4 es es'
    | _=>false
  | _,_=>false
end
theorem bmx {a:Value} {y:AV} (h:aom (.v a) y = true):Sub (.v a) y:=by
 cases y with
 | v b=>simp only [aom] at h; rw [a0t _ _ h]; exact .refl _
 | lst sz es =>
  cases es with
  | nil =>
   cases a with
   | slice x n c =>
    cases n with
    | zero=>exact .nil _ _ _
    | succ n=>simp [aom] at h
   | _=>simp [aom] at h
  | cons e es=>simp [aom] at h
 | _=>simp [aom] at h
mutual
theorem ayf:∀ (x y:AV), aom x y = true -> Sub x y
 | .v a,y,h=>bmx h
 | .lst sz es, y, h=>by
  cases y with
  | lst sz' es' =>
   simp only [aom,and_eq_true] at h
   cases eq_of_beq_eq_true h.1
   exact Sub.lst (amh es es' h.2).1 (amh es es' h.2).2
  | _=>simp [aom] at h
 | .agg cs, y, h=>by
  cases y with
  | agg cs' =>
   simp only [aom] at h
   exact Sub.agg (ao1 cs cs' h).1 (ao1 cs cs' h).2
  | _=>simp [aom] at h
 | .tup cs, y, h=>by
  cases y with
  | tup cs' =>
   simp only [aom] at h
   exact Sub.tup (a2c cs cs' h)
  | _=>simp [aom] at h
 | .iptr _,y,h=>by simp [aom] at h
 | .ms ..,y,h=>by simp [aom] at h
 | .ptr ..,y,h=>by simp [aom] at h
 | .eptr ..,y,h=>by simp [aom] at h
 | .fn ..,y,h=>by simp [aom] at h
 | .opt ..,y,h=>by simp [aom] at h
 | .yl ..,y,h=>by simp [aom] at h
 | .cl ..,y,h=>by simp [aom] at h
theorem ao1:∀ (l l':List AV), ay4 l l' = true -> SubL l l' /\ l'.all AV.one = true
 | [],[],h=>⟨.nil,rfl⟩
 | [],_ :: _,h=>by simp [ay4] at h
 | _ :: _,[],h=>by simp [ay4] at h
 | x :: l, x' :: l', h=>by
  simp only [ay4,and_eq_true] at h
  obtain ⟨h1,h2⟩:=ao1 l l' h.2
  exact ⟨.cons (ayf x x' h.1.2) h1,by simp only [List.all_cons,h.1.1,h2,Bool.and_self]⟩
theorem a2c:∀ (l l':List AV), a31 l l' = true -> SubL l l'
 | [],[],h=>.nil
 | [],_ :: _,h=>by simp [a31] at h
 | _ :: _,[],h=>by simp [a31] at h
 | x :: l, x' :: l', h=>by
  simp only [a31,and_eq_true] at h
  exact .cons (ayf x x' h.1) (a2c l l' h.2)
theorem amh:∀ (l l':List AV), az4 l l' = true -> l.length = l'.length /\ ∀ (i:Nat) (e e':AV), l[i]? = some e -> l'[i]? = some e' -> aew e e'
 | [],[],h=>⟨rfl,fun i e e' h=>by simp at h⟩
 | [],_ :: _,h=>by simp [az4] at h
 | _ :: _,[],h=>by simp [az4] at h
 | x :: l, x' :: l', h=>by
  simp only [az4,and_eq_true] at h
  obtain ⟨h1,h2⟩:=amh l l' h.2
  refine ⟨by simp [h1],?_⟩
  intro i e e' he he'
  cases i with
  | zero=>simp at he he'; subst he; subst he'; exact bjw x x' h.1
  | succ i=>exact h2 i e e' (by simpa using he) (by simpa using he')
theorem bjw:∀ (x y:AV), auj x y = true -> aew x y
 | .v a, y, h=>by
  have one:∀ {z:AV}, z.cells = [z] -> z.one = true -> Sub (.v a) z -> aew (.v a) z:=by
   intro z h1 h2 h3
   refine ⟨by rw [h1]; rfl,?_⟩
   intro j x y hx hy
   rw [h1] at hy
   cases j with
   | zero=>simp [AV.cells] at hx hy; subst hx; subst hy; exact ⟨h2,h3⟩
   | succ j=>simp at hy
  cases y with
  | v b =>
   simp only [auj,and_eq_true] at h
   exact one rfl h.2 (by rw [a0t _ _ h.1]; exact .refl _)
  | lst sz es =>
   refine one rfl rfl (bmx ?_)
   cases es with
   | nil=>unfold auj at h; unfold aom; exact h
   | cons=>simp [auj] at h
  | _=>simp [auj] at h
 | .lst sz es, y, h=>by
  cases y with
  | lst sz' es' =>
   simp only [auj,and_eq_true] at h
   cases eq_of_beq_eq_true h.1
   refine ⟨rfl,?_⟩
   intro j x y hx hy
   cases j with
   | zero =>
    simp [AV.cells] at hx hy; subst hx; subst hy
    exact ⟨rfl,Sub.lst (amh es es' h.2).1 (amh es es' h.2).2⟩
   | succ j=>simp [AV.cells] at hy
  | _=>simp [auj] at h
 | .agg cs, y, h=>by
  cases y with
  | agg cs' =>
   simp only [auj] at h
   obtain ⟨h1,h2⟩:=ao1 cs cs' h
   exact ⟨h1.len,fun j x y hx hy=>⟨List.all_eq_true.1 h2 y (mem_of_getElem? hy),h1.get j x y hx hy⟩⟩
  | _=>simp [auj] at h
 | .tup ..,y,h=>by simp [auj] at h
 | .iptr _,y,h=>by simp [auj] at h
 | .ms ..,y,h=>by simp [auj] at h
 | .ptr ..,y,h=>by simp [auj] at h
 | .eptr ..,y,h=>by simp [auj] at h
 | .fn ..,y,h=>by simp [auj] at h
 | .opt ..,y,h=>by simp [auj] at h
 | .yl ..,y,h=>by simp [auj] at h
 | .cl ..,y,h=>by simp [auj] at h
end
end Go.Lw
namespace Go.Lw
variable {P:Program} {N:Nat}
inductive OR where
  | ok (u:Out)
  | need (k:Nat)
  | no
inductive CR where
  | ok (H:Hp) (r:AV) (H':Hp)
  | need (k:Nat)
  | no
def az0:List AV -> List AV -> Bool
  | [], y=>match y with
    | []=>true
    | _=>false
  | x :: l, y=>match y with
    | x' :: l'=>aom x x' && az0 l l'
    | []=>false
theorem a0v:∀ {l l':List AV}, az0 l l' = true -> SubL l l'
 | [],[],h=>.nil
 | [],_ :: _,h=>by simp [az0] at h
 | _ :: _,[],h=>by simp [az0] at h
 | x :: l, x' :: l', h=>by
  simp only [az0,and_eq_true] at h
  exact .cons (ayf x x' h.1) (a0v h.2)
def mx:Nat -> List Nat -> Nat
  | m,[]=>m
  | m, k :: l=>match Nat.blt m k && Nat.blt k 1000 with
    | true=>mx k l
    | false=>mx m l
def bgp (s:AS):Nat -> Nat -> Nat
  | 0,k=>k
  | n + 1, k=>match s.freshB k with
    | true=>k
    | false=>bgp s n (k + 1)
def nxt (s:AS) (av:List Nat):Nat:=bgp s 100 (mx (mx 299 (s.hp.map (·.1))) av + 1)
mutual
theorem AV.pm_id (σ:Nat -> Nat):∀ x:AV, x.nm = [] -> x.pm σ = x
 | .ms k sz off len,h=>by simp [AV.nm] at h
 | .ptr k off,h=>by simp [AV.nm] at h
 | .eptr k sz i off,h=>by simp [AV.nm] at h
 | .yl k,h=>by simp [AV.nm] at h
 | .agg cs,h=>by simp only [AV.pm]; rw [AV.pms_id σ cs (by simpa only [AV.nm] using h)]
 | .tup cs,h=>by simp only [AV.pm]; rw [AV.pms_id σ cs (by simpa only [AV.nm] using h)]
 | .fn f cs,h=>by simp only [AV.pm]; rw [AV.pms_id σ cs (by simpa only [AV.nm] using h)]
 | .opt b x,h=>by simp only [AV.pm]; rw [AV.pm_id σ x (by simpa only [AV.nm] using h)]
 | .v x,h=>rfl
 | .lst sz l,h=>rfl
 | .iptr l,h=>rfl
 | .cl f cs ds,h=>rfl
theorem AV.pms_id (σ:Nat -> Nat):∀ l:List AV, AV.nms l = [] -> AV.pms σ l = l
 | [],h=>rfl
 | x :: l, h=>by
  simp only [AV.nms,List.append_eq_nil_iff] at h
  simp only [AV.pms]; rw [AV.pm_id σ x h.1,AV.pms_id σ l h.2]
end
theorem bja {f:FuncId} {xs:List AV} {r:AV} {H':Hp} (h:Con P f xs [] r H') (hx:AV.nms xs = []) (k d:Nat):Con P f xs [] (r.pm (tr k d)) (pmH (tr k d) H'):=by
 have h1:=h.pm (bbz k d)
 rw [<- AV.pms_eq,AV.pms_id _ xs hx] at h1
 exact h1
abbrev aic:=List Nat -> FuncId -> List AV -> Hp -> Option (AV × Hp)
def aic.Ok (P:Program) (F:aic):Prop:=∀ av f xs H r H',F av f xs H = some (r,H') -> Con P f xs H r H'
def bru (s:AS):List Nat -> Option Nat
  | []=>none
  | k :: ks=>match s.blk k with
    | some (.row _ _)=>some k
    | _=>bru s ks
def bcr (F:aic) (s:AS) (av:List Nat) (f:FuncId) (xs:List AV):CR :=
  match pkH s (a4i s 300 (AV.nms xs) []) with
  | H=>match F (s.hp.map (·.1) ++ av) f xs H with
    | some (r,H')=>.ok H r H'
    | none=>.no
def a9s (E:Env P) (F:aic) (s:AS) (av:List Nat) (f:FuncId) (xs:List AV):CR:=match E.mt f with
  | true=>bcr F s av f xs
  | false=>match bru s (AV.nms xs) with
    | some k=>.need k
    | none=>bcr F s av f xs
def azx (E:Env P) (F:aic) (s:AS) (av:List Nat) (f:FuncId) (xs:List AV):CR:=match E.orc f with
  | some g=>match AV.nms xs with
    | k :: _=>.need k
    | []=>match g xs with
      | some e=>match Nat.beq e.f f && az0 xs e.xs with
        | true=>match e.H' with
          | (k,some z) :: l=>.ok [] (e.r.pm (tr k (nxt s av))) (pmH (tr k (nxt s av)) e.H')
          | _=>.ok [] e.r e.H'
        | false=>a9s E F s av f xs
      | none=>a9s E F s av f xs
  | none=>a9s E F s av f xs
theorem a1z {F:aic} (hF:F.Ok P) {s:AS} {av:List Nat} {f:FuncId} {xs:List AV} {H H':Hp} {r:AV} (h:bcr F s av f xs = .ok H r H'):Con P f xs H r H' /\ ∀ k z, lk H k = some z -> s.blk k = some z:=by
 unfold bcr at h
 simp only at h
 split at h
 ·rename_i h1; cases h; exact ⟨hF _ _ _ _ _ _ h1,fun k z hz=>axw hz⟩
 ·cases h
theorem at9 {E:Env P} {F:aic} (hF:F.Ok P) {s:AS} {av:List Nat} {f:FuncId} {xs:List AV} {H H':Hp} {r:AV} (h:a9s E F s av f xs = .ok H r H'):Con P f xs H r H' /\ ∀ k z, lk H k = some z -> s.blk k = some z:=by
 unfold a9s at h
 split at h
 ·exact a1z hF h
 ·split at h
  ·cases h
  ·exact a1z hF h
theorem amm {E:Env P} {F:aic} (hF:F.Ok P) {s:AS} {av:List Nat} {f:FuncId} {xs:List AV} {H H':Hp} {r:AV} (h:azx E F s av f xs = .ok H r H'):Con P f xs H r H' /\ ∀ k z, lk H k = some z -> s.blk k = some z:=by
 unfold azx at h
 split at h
 ·split at h
  ·cases h
  ·rename_i hn
   split at h
   ·rename_i e he
    split at h
    ·rename_i hc
     simp only [and_eq_true] at hc
     have hf:=eq_of_beq_eq_true hc.1
     subst hf
     have h9:=Con.subA (a0v hc.2) e.con
     split at h
     ·rename_i k z l _
      obtain ⟨rfl,rfl,rfl⟩:=CR.ok.inj h
      exact ⟨bja h9 hn _ _,fun k z hz=>by cases hz⟩
     ·obtain ⟨rfl, rfl, rfl⟩:=CR.ok.inj h
      exact ⟨h9,fun k z hz=>by cases hz⟩
    ·exact at9 hF h
   ·exact at9 hF h
 ·exact at9 hF h
theorem baw {s:AS} {R:Array Oper} {d q sz cap0:Nat} {a0:Option Addr} {xs:List AV} {x y:Operand} {T E t:TypeId} {ti te:TI} {pos:String} {after:Array Edge}
  (hx:Ev s x (.v (.slice a0 0 0))) (hy:Ev s y (.lst sz xs)) (hT:aah P T = some ti) (hkd:ti.k = .slice E) (hE:aah P E = some te)
  (hsz:te.size = sz) (hz0:(Nat.beq te.zero.length te.size && Nat.blt 0 te.size && Nat.blt 0 te.bytes) = true) (hb:(0 + xs.length) * te.bytes <= 140737488355328) (hdk:Nat.beq d q = false)
  (hN:Nat.blt d N = true) :
  Step P N R s ⟨some d, .call ⟨.builtin .append, #[x, y], #[T, T]⟩, t, pos, after, none⟩
   ⟨some (.ms d sz 0 (0 + xs.length)),[(d,some (.row sz ([] ++ xs))),(q,none)],aal x ++ aal y,[]⟩:=by
 refine ⟨fun s' hag hnew C m a w Q next hC hr hnext=>?_⟩
 have hq:s'.Fresh q:=by
  rcases hnew q (by simp) with h | h
  ·cases h
  ·exact h
 have hd:s'.Fresh d:=by
  rcases hnew d (by simp) with h | h
  ·cases h
  ·exact h
 have hdq:=Nat.ne_of_beq_eq_false hdk
 have hx':=hx.agree hag (fun _ h=>List.mem_append.2 (.inl h))
 have hy':=hy.agree hag (fun _ h=>List.mem_append.2 (.inr h))
 let s2:AS:=⟨s'.sl,(q,some (.row sz [])) :: s'.hp⟩
 have evs:∀ {o:Operand} {z:AV}, Ev s' o z -> Ev s2 o z:=fun h=>by
  cases h with
  | tmp h=>exact .tmp h
  | opt h hb=>exact .opt h hb
  | const c=>exact .const c
  | func f=>exact .func f
 have st:=axn (P:=P) (N:=N) (R:=R) (s:=s2) (d:=d) (k:=q) (t:=t) (pos:=pos) (after:=after) (es:=[]) (evs hx') (fun g S m v h=>Sub.nilMs a0 q sz g S m v h) (by simp [s2,AS.blk,aac]) rfl (evs hy') hT hkd hE hsz hz0 hb hdk hN
 refine st.run s2 ⟨fun _ _=>rfl,fun _ _=>rfl⟩ ?_ C _ a w Q next hC (hr.virt sz hq) (fun m' a' w' hr'=>hnext m' a' w' ?_)
 ·intro k hk
  simp only [map_cons,List.map_nil,mem_cons,not_mem_nil,or_false] at hk
  rcases hk with rfl | rfl
  ·exact .inr (Fresh.row hd hdq (fun h=>h))
  ·exact .inl (by simp)
 ·refine RelM.congr ?_ ?_ hr'
  ·intro t; rfl
  ·intro k
   simp only [AS.app,AS.blk,s2,List.cons_append,nil_append,aac]
   split
   ·rfl
   ·split <;> rfl
mutual
def a1l:AV -> AV -> Bool
  | .v a, y=>match y with
    | .v b=>vEq a b
    | _=>false
  | .lst sz es, y=>match y with
    | .lst sz' es'=>Nat.beq sz sz' && aok es es'
    | _=>false
  | .agg cs, y=>match y with
    | .agg cs'=>aok cs cs'
    | _=>false
  | .tup cs, y=>match y with
    | .tup cs'=>aok cs cs'
    | _=>false
  | .iptr cs, y=>match y with
    | .iptr cs'=>aok cs cs'
    | _=>false
  | .ms k sz off len, y=>match y with
    | .ms k' sz' off' len'=>Nat.beq k k' && (Nat.beq sz sz' && (Nat.beq off off' && Nat.beq len len'))
    | _=>false
  | .ptr k off, y=>match y with
    | .ptr k' off'=>Nat.beq k k' && Nat.beq off off'
    | _=>false
  | .eptr k sz i off, y=>match y with
    | .eptr k' sz' i' off'=>Nat.beq k k' && (Nat.beq sz sz' && (Nat.beq i i' && Nat.beq off off'))
    | _=>false
  | .fn f cs, y=>match y with
    | .fn f' cs'=>Nat.beq f f' && aok cs cs'
    | _=>false
  | .opt _ _,_=>false
  | .yl _,_=>false
  | .cl _ _ _,_=>false
def aok:List AV -> List AV -> Bool
  | [], y=>match y with
    | []=>true
    | _=>false
  | x :: l, y=>match y with
    | x' :: l'=>a1l x x' && aok l l'
    | []=>false
end
mutual
theorem bgo:∀ (x y:AV), a1l x y = true -> x = y
 | .v a,y,h=>by cases y <;> simp [a1l] at h; rw [a0t _ _ h]
 | .lst sz es, y, h=>by
  cases y <;> simp only [a1l,and_eq_true,Bool.false_eq_true] at h
  rw [eq_of_beq_eq_true h.1,ag7 _ _ h.2]
 | .agg cs,y,h=>by cases y <;> simp only [a1l,Bool.false_eq_true] at h; rw [ag7 _ _ h]
 | .tup cs,y,h=>by cases y <;> simp only [a1l,Bool.false_eq_true] at h; rw [ag7 _ _ h]
 | .iptr cs,y,h=>by cases y <;> simp only [a1l,Bool.false_eq_true] at h; rw [ag7 _ _ h]
 | .ms k sz off len, y, h=>by
  cases y <;> simp only [a1l,and_eq_true,Bool.false_eq_true] at h
  rw [eq_of_beq_eq_true h.1,eq_of_beq_eq_true h.2.1,eq_of_beq_eq_true h.2.2.1,eq_of_beq_eq_true h.2.2.2]
 | .ptr k off, y, h=>by
  cases y <;> simp only [a1l,and_eq_true,Bool.false_eq_true] at h
  rw [eq_of_beq_eq_true h.1,eq_of_beq_eq_true h.2]
 | .eptr k sz i off, y, h=>by
  cases y <;> simp only [a1l,and_eq_true,Bool.false_eq_true] at h
  rw [eq_of_beq_eq_true h.1,eq_of_beq_eq_true h.2.1,eq_of_beq_eq_true h.2.2.1,eq_of_beq_eq_true h.2.2.2]
 | .fn f cs, y, h=>by
  cases y <;> simp only [a1l,and_eq_true,Bool.false_eq_true] at h
  rw [eq_of_beq_eq_true h.1,ag7 _ _ h.2]
 | .opt ..,y,h=>by simp [a1l] at h
 | .yl ..,y,h=>by simp [a1l] at h
 | .cl ..,y,h=>by simp [a1l] at h
theorem ag7:∀ (l l':List AV), aok l l' = true -> l = l'
 | [],[],h=>rfl
 | [],_ :: _,h=>by simp [aok] at h
 | _ :: _,[],h=>by simp [aok] at h
 | x :: l, x' :: l', h=>by
  simp only [aok,and_eq_true] at h
  rw [bgo x x' h.1,ag7 l l' h.2]
end
def bjr:Blk -> Blk -> Bool
  | .box cs,.box cs'=>aok cs cs'
  | .row sz es,.row sz' es'=>Nat.beq sz sz' && aok es es'
  | _,_=>false
theorem bb0 {x y:Blk} (h:bjr x y = true):x = y:=by
 cases x <;> cases y <;> simp only [bjr,Bool.false_eq_true] at h
 ·rw [ag7 _ _ h]
 ·simp only [and_eq_true] at h
  rw [eq_of_beq_eq_true h.1,ag7 _ _ h.2]
theorem aia {k:Nat}:∀ {l:List Nat}, a3m k l = true ↔ k ∈ l
 | []=>by simp [a3m]
 | x :: l=>by
  unfold a3m
  split
  ·rename_i h; simp [eq_of_beq_eq_true h]
  ·rename_i h; rw [aia (l:=l)]; simp [Nat.ne_of_beq_eq_false h]
def chg (H:Hp):List Nat -> Hp -> Hp
  | _,[]=>[]
  | seen, (k, x) :: l=>match a3m k seen with
    | true=>chg H seen l
    | false=>match x with
      | some z=>match lk H k with
        | some y=>match bjr y z with
          | true=>chg H (k :: seen) l
          | false=>(k,some z) :: chg H (k :: seen) l
        | none=>(k,some z) :: chg H (k :: seen) l
      | none=>(k,none) :: chg H (k :: seen) l
theorem ba5 {H R:Hp} (hR:∀ t y, lk H t = some y -> lk R t = some y):∀ {l:Hp} {seen:List Nat} {t:Nat}, t ∉ seen -> lk (chg H seen l ++ R) t = if t ∈ l.map (·.1) then lk l t else lk R t
 | [],seen,t,h=>by simp [chg]
 | (k, x) :: l, seen, t, h=>by
  have rest:t ≠ k -> lk (chg H (k :: seen) l ++ R) t = if t ∈ ((k, x) :: l).map (·.1) then lk ((k, x) :: l) t else lk R t:=by
   intro hne
   rw [ba5 hR (fun hh=>by rcases List.mem_cons.1 hh with e | e; exact hne e; exact h e)]
   simp only [map_cons,mem_cons,hne,false_or]
   rw [aac,if_neg hne]
  have head:lk ((k, x) :: (chg H (k :: seen) l ++ R)) t = if t ∈ ((k, x) :: l).map (·.1) then lk ((k, x) :: l) t else lk R t:=by
   rw [aac]
   by_cases e:t = k
   ·rw [if_pos e,aac,if_pos e]; simp [e]
   ·rw [if_neg e,rest e]
  unfold chg
  split
  ·rename_i hm
   have hne:t ≠ k:=fun e=>h (by rw [e]; exact aia.1 hm)
   rw [ba5 hR h]
   simp only [map_cons,mem_cons,hne,false_or]
   rw [aac,if_neg hne]
  ·split
   ·rename_i z
    split
    ·rename_i y hy
     split
     ·rename_i he
      by_cases e:t = k
      ·rw [chg_none (by rw [e]; exact mem_cons_self ..), e, hR k y hy, bb0 he]
       simp [aac]
      ·exact rest e
     ·exact head
    ·exact head
   ·exact head
where
 chg_none {H R:Hp}:∀ {l:Hp} {seen:List Nat} {t:Nat}, t ∈ seen -> lk (chg H seen l ++ R) t = lk R t
  | [],seen,t,h=>rfl
  | (k, x) :: l, seen, t, h=>by
   unfold chg
   split
   ·exact chg_none h
   ·rename_i hm
    have hne:t ≠ k:=fun e=>by rw [e] at h; rw [aia.2 h] at hm; cases hm
    have ih:=chg_none (H:=H) (R:=R) (l:=l) (mem_cons_of_mem k h)
    split
    ·split
     ·split
      ·exact ih
      ·show lk (_ :: (_ ++ R)) t = _
       rw [aac,if_neg hne]; exact ih
     ·show lk (_ :: (_ ++ R)) t = _
      rw [aac,if_neg hne]; exact ih
    ·show lk (_ :: (_ ++ R)) t = _
     rw [aac,if_neg hne]; exact ih
theorem aug {H:Hp}:∀ {l:Hp} {seen:List Nat} {k:Nat}, k ∈ l.map (·.1) -> k ∉ seen -> k ∈ (chg H seen l).map (·.1) \/ ∃ y, lk H k = some y
 | [],seen,k,h,_=>by simp at h
 | (k', x) :: l, seen, k, h, hs=>by
  unfold chg
  by_cases e:k = k'
  ·subst e
   have hm:a3m k seen = false:=by
    cases hq:a3m k seen with
    | true=>exact absurd (aia.1 hq) hs
    | false=>rfl
   simp only [hm]
   split
   ·split
    ·rename_i y hy
     split
     ·exact .inr ⟨y,hy⟩
     ·exact .inl (by simp)
    ·exact .inl (by simp)
   ·exact .inl (by simp)
  ·have h' : k ∈ l.map (·.1) := by simpa [e] using h
   have hs':k ∉ k' :: seen:=fun hh=>by rcases List.mem_cons.1 hh with e' | e'; exact e e'; exact hs e'
   have ih1:=aug (H:=H) h' hs
   have ih2:=aug (H:=H) h' hs'
   split
   ·exact ih1
   ·split
    ·split
     ·split
      ·exact ih2
      ·rcases ih2 with h | h
       ·exact .inl (mem_cons_of_mem _ h)
       ·exact .inr h
     ·rcases ih2 with h | h
      ·exact .inl (mem_cons_of_mem _ h)
      ·exact .inr h
    ·rcases ih2 with h | h
     ·exact .inl (mem_cons_of_mem _ h)
     ·exact .inr h
theorem ajb {R:Array Oper} {s:AS} {o:Oper} {x:Option AV} {H U:Hp} {rt:List Nat} (hH:∀ k z, lk H k = some z -> s.blk k = some z) (h:Step P N R s o ⟨x, U, rt, H.map (·.1)⟩) :
  Step P N R s o ⟨x,chg H [] U,rt,H.map (·.1)⟩:=by
 refine ⟨fun s' hag hnew C m a w Q next hC hr hnext=>?_⟩
 have hH':∀ k z,lk H k = some z -> lk s'.hp k = some z:=fun k z hz=>(hag.2 k (aa9 hz)).trans (hH k z hz)
 refine h.run s' hag (fun k hk=>?_) C m a w Q next hC hr (fun m' a' w' hr'=>hnext m' a' w' ?_)
 ·rcases aug (H := H) hk (seen := []) (by simp) with h1 | ⟨y, hy⟩
  ·exact hnew k h1
  ·exact .inl (aa9 hy)
 ·refine RelM.congr (s:=s'.app o.dst ⟨x, U, rt, H.map (·.1)⟩) (fun t=>rfl) (fun k=>?_) hr'
  simp only [AS.blk,AS.app]
  rw [ba5 hH' (by simp),ac9]
variable [Inhabited (Tys P)]
def bqc (P:Program) [Inhabited (Tys P)] (s:AS) (d:Nat) (x y:Operand) (T:TypeId):OR:=match rdC s y with
  | some (.lst sz xs)=>match ah9 P T with
    | some ti=>match ti.k with
      | .slice E=>match ah9 P E with
        | some te=>match Nat.beq te.size sz && (Nat.beq te.zero.length te.size && Nat.blt 0 te.size && Nat.blt 0 te.bytes) with
          | true=>match rdC s x with
            | some (.ms k sz' off len)=>match s.blk k with
              | some (.row sz2 es)=>match Nat.beq sz' sz && Nat.beq off 0 && Nat.beq sz2 sz && Nat.beq len es.length && Nat.ble ((len + xs.length) * te.bytes) 140737488355328 with
                | true=>match Nat.beq d k with
                  | true=>.no
                  | false=>match frc (es ++ xs) with
                    | some l=>wN (len + xs.length) fun n=>.ok ⟨some (.ms d sz 0 n),[(d,some (.row sz l)),(k,none)],aal x ++ aal y,[k]⟩
                    | none=>.no
                | false=>.no
              | _=>.no
            | some (.v (.slice a0 0 0))=>match Nat.ble ((0 + xs.length) * te.bytes) 140737488355328 with
              | true=>match Nat.beq d 299 with
                | true=>.no
                | false=>match frc ([] ++ xs) with
                  | some l=>wN (0 + xs.length) fun n=>.ok ⟨some (.ms d sz 0 n),[(d,some (.row sz l)),(299,none)],aal x ++ aal y,[]⟩
                  | none=>.no
              | false=>.no
            | _=>.no
          | false=>.no
        | none=>.no
      | _=>.no
    | none=>.no
  | some (.ms k _ _ _)=>.need k
  | _=>.no
theorem bgw {s:AS} {R:Array Oper} {d:Nat} {x y:Operand} {T t:TypeId} {u:Out} {pos:String} {after:Array Edge} (h:bqc P s d x y T = .ok u) (hN:Nat.blt d N = true) :
  Step P N R s ⟨some d,.call ⟨.builtin .append,#[x,y],#[T,T]⟩,t,pos,after,none⟩ u:=by
 unfold bqc at h
 split at h
 ·rename_i sz xs hy
  split at h
  ·rename_i ti hT
   split at h
   ·rename_i E hk
    split at h
    ·rename_i te hE
     split at h
     ·rename_i hc
      simp only [and_eq_true] at hc
      have hsz:=eq_of_beq_eq_true hc.1
      have hz0:(Nat.beq te.zero.length te.size && Nat.blt 0 te.size && Nat.blt 0 te.bytes) = true:=by simp only [and_eq_true]; exact hc.2
      split at h
      ·rename_i k sz' off len hx
       split at h
       ·rename_i sz2 es hb
        split at h
        ·rename_i hg
         simp only [and_eq_true,Nat.ble_eq] at hg
         obtain ⟨⟨⟨⟨g1,g2⟩,g3⟩,g4⟩,g5⟩:=hg
         cases eq_of_beq_eq_true g1
         cases eq_of_beq_eq_true g2
         cases eq_of_beq_eq_true g3
         split at h
         ·cases h
         ·rename_i hdk
          split at h
          ·rename_i l hl
           cases ag6 hl
           rw [awu] at h; cases h
           exact aa3 (abe hx) hb (eq_of_beq_eq_true g4) (abe hy) (aay hT) hk (aay hE) hsz hz0 g5 hdk hN
          ·cases h
        ·cases h
       ·cases h
      ·rename_i a0 hx
       split at h
       ·rename_i g5
        rw [Nat.ble_eq] at g5
        split at h
        ·cases h
        ·rename_i hdk
         split at h
         ·rename_i l hl
          cases ag6 hl
          rw [awu] at h; cases h
          exact baw (cap0:=0) (abe hx) (abe hy) (aay hT) hk (aay hE) hsz hz0 g5 hdk hN
         ·cases h
       ·cases h
      ·cases h
     ·cases h
    ·cases h
   ·cases h
  ·cases h
 ·cases h
 ·cases h
def bp2 (P:Program) [Inhabited (Tys P)] (s:AS) (T:TypeId) (x y:Operand):OR:=match rdC s x with
  | some (.eptr k sz i off)=>match rdC s y with
    | some v=>match v.nm with
      | k' :: _=>.need k'
      | []=>match s.blk k with
        | some (.row sz' es)=>match es[i]? with
          | some e=>match ah9 P T with
            | some ti=>match Nat.beq sz sz' && v.ok && Nat.beq v.cells.length ti.size && Nat.ble (off + ti.size) e.cells.length with
              | true=>match e with
                | .agg cs=>match frc (over cs off v.cells) with
                  | some l=>match frc (es.set i (.agg l)) with
                    | some es'=>.ok ⟨none,[(k,some (.row sz es'))],aal x ++ aal y,[k]⟩
                    | none=>.no
                  | none=>.no
                | e=>match Nat.beq off 0 && Nat.beq v.cells.length 1 with
                  | true=>match frc (es.set i v) with
                    | some es'=>.ok ⟨none,[(k,some (.row sz es'))],aal x ++ aal y,[k]⟩
                    | none=>.no
                  | false=>.no
              | false=>.no
            | none=>.no
          | none=>.no
        | _=>.no
    | none=>.no
  | _=>.no
theorem a4o {e:AV} (h:∀ cs, e ≠ .agg cs):e.cells = [e]:=by
 cases e <;> first | rfl | exact absurd rfl (h _)
theorem bhu {s:AS} {R:Array Oper} {x y:Operand} {T t:TypeId} {u:Out} {pos:String} {after:Array Edge} (h:bp2 P s T x y = .ok u) :
  Step P N R s ⟨none,.store T x y,t,pos,after,none⟩ u:=by
 unfold bp2 at h
 split at h
 ·rename_i k sz i off hx
  split at h
  ·rename_i v hy
   split at h
   ·cases h
   ·rename_i hnm
    split at h
    ·rename_i sz' es hb
     split at h
     ·rename_i e he
      split at h
      ·rename_i ti hT
       split at h
       ·rename_i hc
        simp only [and_eq_true] at hc
        obtain ⟨⟨⟨c1,c2⟩,c3⟩,c4⟩:=hc
        cases eq_of_beq_eq_true c1
        split at h
        ·rename_i cs
         split at h
         ·rename_i l hl
          split at h
          ·rename_i es' hes
           cases h
           cases ag6 hl
           cases ag6 hes
           exact atr (abe hx) hb he (abe hy) c2 hnm (aay hT) c3 c4 rfl
          ·cases h
         ·cases h
        ·rename_i hne
         split at h
         ·rename_i hg
          simp only [and_eq_true] at hg
          split at h
          ·rename_i es' hes
           cases h
           cases ag6 hes
           cases eq_of_beq_eq_true hg.1
           refine atr (abe hx) hb he (abe hy) c2 hnm (aay hT) c3 c4 ?_
           rw [a4o hne]
           have:=eq_of_beq_eq_true hg.2
           simp [over,this]
          ·cases h
         ·cases h
       ·cases h
      ·cases h
     ·cases h
    ·cases h
  ·cases h
 ·cases h
def mkS (P:Program) [Inhabited (Tys P)] (d:Nat) (T:TypeId) (n:Int) (rt:List Nat):OR:=match ah9 P T with
  | some ti=>match ti.k with
    | .slice E=>match ah9 P E with
      | some te=>match te.zero.all Value.oneCell' && (Nat.beq te.zero.length te.size && Nat.blt 0 te.size && Nat.blt 0 te.bytes && (te.ag || Nat.beq te.size 1)) with
        | true=>match n with
          | .ofNat n=>match Nat.ble (n * te.bytes) 281474976710656 with
            | true=>match frc (List.replicate n (mkT te.ag (te.zero.map .v))) with
              | some l=>.ok ⟨some (.ms d te.size 0 n),[(d,some (.row te.size l))],rt,[]⟩
              | none=>.no
            | false=>.no
          | .negSucc _=>.no
        | false=>.no
      | none=>.no
    | _=>.no
  | none=>.no
theorem blw {s:AS} {R:Array Oper} {d:Nat} {x:Operand} {T t:TypeId} {n:Int} {u:Out} {pos:String} {after:Array Edge} (hx:Ev s x (.v (.int .i64 n))) (h:mkS P d T n (aal x) = .ok u) (hN:Nat.blt d N = true) :
  Step P N R s ⟨some d,.makeSlice T x x,t,pos,after,none⟩ u:=by
 unfold mkS at h
 split at h
 ·rename_i ti hT
  split at h
  ·rename_i E hk
   split at h
   ·rename_i te hE
    split at h
    ·rename_i hc
     rw [and_eq_true] at hc
     split at h
     ·rename_i n
      split at h
      ·rename_i hb
       rw [Nat.ble_eq] at hb
       split at h
       ·rename_i l hl
        cases h
        cases ag6 hl
        exact agr (n:=Int.ofNat n) hx (aay hT) hk (aay hE) hc.1 hc.2 (Int.natCast_nonneg _) (by simp only [Int.ofNat_eq_natCast]; omega) hN
       ·cases h
      ·cases h
     ·cases h
    ·cases h
   ·cases h
  ·cases h
 ·cases h
theorem bha {P:Program} {N:Nat} {s:AS} {R:Array Oper} {d f:Nat} {g:Operand} {args:Array Operand} {ts:Array TypeId} {xs:List AV} {H H':Hp} {r:AV} {t:TypeId} {pos:String} {after:Array Edge}
  (hg:Ev s g (.v (.func (.func f) #[] #[]))) (hcon:Con P f xs H r H') (ha:EvL s args.toList xs) (hH:∀ k z,lk H k = some z -> s.blk k = some z) (hok:acy s H H' r = true) (hN:Nat.blt d N = true) :
  Step P N R s ⟨some d,.call ⟨.value g,args,ts⟩,t,pos,after,none⟩ ⟨some r,H' ++ ajt H,aal g ++ rtL args.toList,H.map (·.1)⟩ :=
 ai8 rfl (fun d' h => by cases h; exact ⟨hN, rfl⟩) hcon hH hok fun s' hag C m a w hr => by
  have hag':ac5 s s' ⟨none,[],aal g ++ rtL args.toList,[]⟩:=⟨hag,fun k hk=>by cases hk⟩
  have ha':=ha.agree hag' (fun _ h=>List.mem_append.2 (.inr h))
  have hgr:=(hg.agree hag' (fun _ h=>List.mem_append.2 (.inl h))).rep hr
  generalize hv:a.eval g = u at hgr
  cases hgr
  refine ⟨args.map a.eval,asy (caps:=#[]) rfl hv hcon.ok (by simp),?_,?_⟩
  ·have:=ha'.length; simpa using this
  ·intro j v x hv hx; exact ha'.rep hr j v x (by simpa using hv) hx
def bju:Operand -> Operand -> Bool
  | .tmp a,.tmp b=>Nat.beq a b
  | .const (.int k a),.const (.int k' b)=>Nat.beq (ikn k) (ikn k') && aaa .eql a b
  | _,_=>false
theorem bdt {x y:Operand} (h:bju x y = true):y = x:=by
 unfold bju at h
 split at h
 ·rw [eq_of_beq_eq_true h]
 ·rename_i k a k' b
  simp only [and_eq_true] at h
  rw [aio h.1,eq_of_beq (show (a == b) = true from h.2)]
 ·cases h
def opD (E:Env P) (F:aic) (av:List Nat) (s:AS) (d:Nat) (op:Op):OR:=match op with
  | .call c=>match c with
    | ⟨.value g, args, ts⟩=>match bkh s args.toList with
      | some xs=>match g with
        | .func f=>match azx E F s av f xs with
          | .ok H r H'=>match acy s H H' r with
            | true=>.ok ⟨some r,chg H [] (H' ++ ajt H),rtL args.toList,H.map (·.1)⟩
            | false=>.no
          | .need k=>.need k
          | .no=>.no
        | g=>match rdC s g with
          | some (.fn f caps)=>match azx E F s av f (xs ++ caps) with
            | .ok H r H'=>match acy s H H' r with
              | true=>.ok ⟨some r,chg H [] (H' ++ ajt H),aal g ++ rtL args.toList,H.map (·.1)⟩
              | false=>.no
            | .need k=>.need k
            | .no=>.no
          | some (.v (.func (.func f) ⟨[]⟩ ⟨[]⟩))=>match azx E F s av f xs with
            | .ok H r H'=>match acy s H H' r with
              | true=>.ok ⟨some r,chg H [] (H' ++ ajt H),aal g ++ rtL args.toList,H.map (·.1)⟩
              | false=>.no
            | .need k=>.need k
            | .no=>.no
          | some (.cl f pre caps)=>match azx E F s av f (pre ++ xs ++ caps) with
            | .ok H r H'=>match acy s H H' r with
              | true=>.ok ⟨some r,chg H [] (H' ++ ajt H),aal g ++ rtL args.toList,H.map (·.1)⟩
              | false=>.no
            | .need k=>.need k
            | .no=>.no
          | _=>.no
      | none=>.no
    | ⟨.builtin .append, args, ts⟩=>match args.toList with
      | [x, y]=>match ts.toList with
        | [T, T']=>match Nat.beq T T' with
          | true=>bqc P s d x y T
          | false=>.no
        | _=>.no
      | _=>.no
    | c=>match opV P s (.call c) with
      | some r=>.ok ⟨some r.x,[],r.rt,r.rd⟩
      | none=>.no
  | .makeSlice T x y=>match bju x y with
    | true=>match rdC s x with
      | some (.v (.int .i64 n))=>mkS P d T n (aal x)
      | _=>.no
    | false=>.no
  | .slice T x none (some (.const (.int k1 (.ofNat 0)))) (some (.const (.int k2 (.ofNat 0))))=>match rdC s x with
    | some (.lst sz es)=>match bin P T sz with
      | true=>.ok ⟨some (.ms d sz 0 0),[(d,some (.row sz []))],aal x,[]⟩
      | false=>.no
    | _=>.no
  | .buildSlice T n parts=>match n with
    | 0=>match parts.toList with
      | []=>match ah9 P T with
        | some ti=>match ti.k with
          | .slice E=>match ah9 P E with
            | some te=>match te.zero.all Value.oneCell' && Nat.beq te.zero.length te.size with
              | true=>.ok ⟨some (.ms d te.size 0 0),[(d,some (.row te.size []))],[],[]⟩
              | false=>.no
            | none=>.no
          | _=>.no
        | none=>.no
      | _=>.no
    | n + 1=>match opV P s (.buildSlice T (n + 1) parts) with
      | some r=>.ok ⟨some r.x,[],r.rt,r.rd⟩
      | none=>match bkh s (parts.toList.map (·.2)) with
        | some xs=>match AV.nms xs with
          | k :: _=>.need k
          | []=>.no
        | none=>.no
  | op=>match opV P s op with
    | some r=>.ok ⟨some r.x,[],r.rt,r.rd⟩
    | none=>match bo1 P s d op with
      | some r=>match r.2 with
        | []=>.ok r.1
        | _=>.no
      | none=>.no
theorem bfw {E:Env P} {F:aic} (hF:F.Ok P) {av:List Nat} {s:AS} {R:Array Oper} {d:Nat} {op:Op} {u:Out} {t:TypeId} {pos:String} {after:Array Edge} (h:opD E F av s d op = .ok u) (hN:Nat.blt d N = true) :
  Step P N R s ⟨some d,op,t,pos,after,none⟩ u:=by
 unfold opD at h
 split at h
 ·split at h
  ·rename_i g args ts
   split at h
   ·rename_i xs hxs
    split at h
    ·rename_i f
     split at h
     ·rename_i H r H' hc
      split at h
      ·rename_i hok
       cases h
       obtain ⟨h1,h2⟩:=amm hF hc
       exact ajb h2 (aae h1 (ani hxs) h2 hok hN)
      ·cases h
     ·cases h
     ·cases h
    ·split at h
     ·rename_i f caps hg
      split at h
      ·rename_i H r H' hc
       split at h
       ·rename_i hok
        cases h
        obtain ⟨h1,h2⟩:=amm hF hc
        exact ajb h2 (arf (abe hg) h1 (ani hxs) h2 hok hN)
       ·cases h
      ·cases h
      ·cases h
     ·rename_i f hg
      split at h
      ·rename_i H r H' hc
       split at h
       ·rename_i hok
        cases h
        obtain ⟨h1,h2⟩:=amm hF hc
        exact ajb h2 (bha (abe hg) h1 (ani hxs) h2 hok hN)
       ·cases h
      ·cases h
      ·cases h
     ·rename_i f pre caps hg
      split at h
      ·rename_i H r H' hc
       split at h
       ·rename_i hok
        cases h
        obtain ⟨h1,h2⟩:=amm hF hc
        exact ajb h2 (bar (abe hg) h1 (ani hxs) h2 hok hN)
       ·cases h
      ·cases h
      ·cases h
     ·cases h
   ·cases h
  ·rename_i args ts
   split at h
   ·rename_i x y hx
    split at h
    ·rename_i T T' hT
     split at h
     ·rename_i hTT
      cases eq_of_beq_eq_true hTT
      have e1:args = #[x,y]:=by apply Array.toList_inj.1; simpa using hx
      have e2:ts = #[T,T]:=by apply Array.toList_inj.1; simpa using hT
      subst e1; subst e2
      exact bgw h hN
     ·cases h
    ·cases h
   ·cases h
  ·split at h
   ·rename_i h1; cases h; exact a8q h1 hN
   ·cases h
 ·split at h
  ·rename_i he
   cases bdt he
   split at h
   ·rename_i hx; exact blw (abe hx) h hN
   ·cases h
  ·cases h
 ·split at h
  ·rename_i hx
   split at h
   ·rename_i hs
    obtain ⟨ti,E,te,h1,h2,h3,h4⟩:=ark hs
    cases h
    exact a6a (abe hx) h1 h2 h3 h4 hN
   ·cases h
  ·cases h
 ·rename_i T n parts
  split at h
  ·split at h
   ·rename_i hp
    have:parts = #[]:=by apply Array.toList_inj.1; simpa using hp
    subst this
    split at h
    ·rename_i ti hT
     split at h
     ·rename_i E hk
      split at h
      ·rename_i te hE
       split at h
       ·rename_i hc
        rw [and_eq_true] at hc
        cases h
        exact acx (aay hT) hk (aay hE) hc.1 hc.2 hN
       ·cases h
      ·cases h
     ·cases h
    ·cases h
   ·cases h
  ·split at h
   ·rename_i h1; cases h; exact a8q h1 hN
   ·split at h
    ·split at h <;> cases h
    ·cases h
 ·split at h
  ·rename_i h1; cases h; exact a8q h1 hN
  ·split at h
   ·rename_i h1
    split at h
    ·rename_i ho; cases h; exact a5r h1 (by rw [ho]; exact .nil) hN
    ·cases h
   ·cases h
def opN (E:Env P) (F:aic) (av:List Nat) (s:AS) (op:Op):OR:=match op with
  | .call c=>match c with
    | ⟨.value (.func f), args, ts⟩=>match bkh s args.toList with
      | some xs=>match azx E F s av f xs with
        | .ok H r H'=>match acy s H H' r with
          | true=>.ok ⟨none,chg H [] (H' ++ ajt H),rtL args.toList,H.map (·.1)⟩
          | false=>.no
        | .need k=>.need k
        | .no=>.no
      | none=>.no
    | _=>.no
  | .store T x y=>match bo0 P s (.store T x y) with
    | some r=>match r.2 with
      | []=>.ok r.1
      | _=>.no
    | none=>bp2 P s T x y
  | _=>.no
theorem blg {E:Env P} {F:aic} (hF:F.Ok P) {av:List Nat} {s:AS} {R:Array Oper} {op:Op} {u:Out} {t:TypeId} {pos:String} {after:Array Edge} (h:opN E F av s op = .ok u) :
  Step P N R s ⟨none,op,t,pos,after,none⟩ u:=by
 unfold opN at h
 split at h
 ·split at h
  ·rename_i f args ts
   split at h
   ·rename_i xs hxs
    split at h
    ·rename_i H r H' hc
     split at h
     ·rename_i hok
      cases h
      obtain ⟨h1,h2⟩:=amm hF hc
      exact ajb h2 (bct h1 (ani hxs) h2 hok)
     ·cases h
    ·cases h
    ·cases h
   ·cases h
  ·cases h
 ·split at h
  ·rename_i h1
   split at h
   ·rename_i ho; cases h; exact a9d h1 (by rw [ho]; exact .nil)
   ·cases h
  ·exact bhu h
 ·cases h
theorem Step.sub {P:Program} {N:Nat} {R:Array Oper} {s:AS} {o:Oper} {x y:AV} {upd:Hp} {rt rd:List Nat} (h:Step P N R s o ⟨some x, upd, rt, rd⟩) (hs:Sub x y):Step P N R s o ⟨some y, upd, rt, rd⟩:=by
 refine ⟨fun s' hag hnew C m a w Q next hC hr hnext=>h.run s' hag hnew C m a w Q next hC hr (fun m' a' w' hr'=>hnext m' a' w' ?_)⟩
 refine hr'.weak (fun t z hz=>?_) (fun k z hz=>⟨z,hz,.refl _⟩)
 rw [adb] at hz
 split at hz
 ·rename_i ht; cases hz; exact ⟨x,by rw [adb,if_pos ht],hs⟩
 ·rename_i ht; exact ⟨z,by rw [adb,if_neg ht]; exact hz,.refl _⟩
theorem Sub.opt_true (x:AV):Sub (.opt true x) x:=fun g S m v h=>by cases h with | opt h _=>exact h rfl
theorem am8 (f:AV -> AV) (k:Nat):∀ l:Hp, (agz f k l).map (·.1) = l.map (·.1)
 | []=>rfl
 | (k',x) :: l=>by simp only [agz,map_cons,am8 f k l]
theorem a7o {P:Program} {N:Nat} {R:Array Oper} {s:AS} {o:Oper} {d:Nat} {x:AV} {upd:Hp} {rt rd:List Nat} {k sz:Nat} {es:List AV} (hd:o.dst = some d) (hk:lk upd k = some (.row sz es)) (hrd:k ∉ rd)
  (h:Step P N R s o ⟨some x,upd,rt,rd⟩):Step P N R s o ⟨some (x.fz k sz es),agz (AV.fz k sz es) k upd,rt,rd⟩:=by
 refine ⟨fun s' hag hnew C m a w Q next hC hr hnext=>?_⟩
 have hnew':ali s' ⟨some x,upd,rt,rd⟩:=fun k' hk'=>hnew k' (by rw [am8]; exact hk')
 have hfr:s'.Fresh k:=by
  rcases hnew' k (aa9 hk) with h | h
  ·exact absurd h hrd
  ·exact h
 refine h.run s' hag hnew' C m a w Q next hC hr (fun m' a' w' hr'=>?_)
 rw [hd] at hr'
 have hkk:(s'.app (some d) ⟨some x, upd, rt, rd⟩).blk k = some (.row sz es):=by
  show lk (upd ++ s'.hp) k = _
  rw [ac9,if_pos (aa9 hk),hk]
 obtain ⟨m2,hr2⟩:=Wk.freeze hkk C m' a' w' hr'
 refine hnext m2 a' w' ?_
 rw [hd]
 refine hr2.congr ?_ ?_
 ·intro t
  simp only [AS.get,aim,AS.app,aac]
  split
  ·rfl
  ·cases hx:lk s'.sl t with
   | none=>rfl
   | some y=>simp only [Option.map_some]; rw [AV.fz_id _ _ _ _ (hfr.2.2.1 t y hx)]
 ·intro k'
  simp only [AS.blk,AS.app]
  rw [afn,ac9,ac9,am8,afn]
  by_cases h1:k' = k
  ·subst h1
   rw [if_pos rfl,if_pos (aa9 hk),if_pos rfl]
  ·rw [if_neg h1, if_neg h1]
   split
   ·rfl
   ·cases hx:lk s'.hp k' with
    | none=>rfl
    | some y=>simp only [Option.map_some]; rw [as0 (hfr.2.2.2 k' y hx)]
def bi1:List Nat -> Out -> Out
  | [],u=>u
  | k :: ks, u=>match u.val with
    | some x=>match lk u.upd k with
      | some (.row sz es)=>match a3m k u.rd with
        | false=>bi1 ks ⟨some (x.fz k sz es),agz (AV.fz k sz es) k u.upd,u.rt,u.rd⟩
        | true=>bi1 ks u
      | _=>bi1 ks u
    | none=>u
theorem apk {P:Program} {N:Nat} {R:Array Oper} {s:AS} {o:Oper} {d:Nat} (hd:o.dst = some d):∀ {ks:List Nat} {u:Out}, Step P N R s o u -> Step P N R s o (bi1 ks u)
 | [],u,h=>h
 | k :: ks, u, h=>by
  unfold bi1
  split
  ·rename_i x hx
   split
   ·rename_i sz es hk
    split
    ·rename_i hm
     refine apk hd ?_
     obtain ⟨val,upd,rt,rd⟩:=u
     simp only at hx hk hm
     subst hx
     exact a7o hd hk (fun hh=>by rw [aia.2 hh] at hm; cases hm) h
    ·exact apk hd h
   ·exact apk hd h
  ·exact h
def opE (E:Env P) (F:aic) (av fz:List Nat) (N:Nat) (R:List Oper) (s:AS) (o:Oper):OR:=match o.guard with
  | none=>match o.dst with
    | some d=>match Nat.blt d N with
      | true=>match opD E F av s d o.op with
        | .ok u=>.ok (bi1 fz u)
        | r=>r
      | false=>.no
    | none=>opN E F av s o.op
  | some (j, want)=>match R[j]? with
    | some og=>match og.dst with
      | some g=>match o.dst with
        | some d=>match Nat.blt d N with
          | true=>match s.get g with
            | some (.v (.bool b))=>match b == want with
              | true=>match opD E F av s d o.op with
                | .ok u=>match (bi1 fz u) with
                  | ⟨some x,upd,rt,rd⟩=>.ok ⟨some x,upd,g :: rt,rd⟩
                  | ⟨none,_,_,_⟩=>.no
                | r=>r
              | false=>.ok ⟨some (.opt false (.v (.bool false))),[],[g],[]⟩
            | some (.opt false (.v (.bool b)))=>.ok ⟨some (.opt false (.v (.bool false))),[],[g],[]⟩
            | _=>.no
          | false=>.no
        | none=>.no
      | none=>.no
    | none=>.no
theorem bl0 {E:Env P} {F:aic} (hF:F.Ok P) {av fz:List Nat} {R:List Oper} {s:AS} {o:Oper} {u:Out} (h:opE E F av fz N R s o = .ok u):Step P N R.toArray s o u:=by
 obtain ⟨dst,op,ty,pos,after,guard⟩:=o
 unfold opE at h
 simp only at h
 split at h
 ·split at h
  ·split at h
   ·rename_i hN
    split at h
    ·rename_i u' h1; cases h; exact apk rfl (bfw hF h1 hN)
    ·rename_i hno; exact absurd h (hno u)
   ·cases h
  ·exact blg hF h
 ·rename_i j want
  split at h
  ·rename_i og hog
   split at h
   ·rename_i g hg
    split at h
    ·rename_i d
     split at h
     ·rename_i hN
      have hj:(R.toArray[j]?).bind (·.dst) = some g:=by simp [hog,hg]
      split at h
      ·rename_i b hb
       split at h
       ·rename_i hw
        split at h
        ·rename_i u' h1
         have hs:=apk (ks:=fz) rfl (bfw (R:=R.toArray) (t:=ty) (pos:=pos) (after:=after) hF h1 hN)
         split at h
         ·rename_i x upd rt rd hx
          cases h
          rw [hx] at hs
          have h2:=a1w (want:=want) hj hb hN (fun hne=>absurd (eq_of_beq hw) hne) (fun _=>hs)
          rw [hw] at h2
          exact h2.sub (.opt_true x)
         ·cases h
        ·rename_i hno; exact absurd h (hno u)
       ·rename_i hw
        cases h
        have h2:=acd (P:=P) (op:=op) (t:=ty) (pos:=pos) (after:=after) (want:=want) (x:=.v (.bool false)) (rt:=[]) (rd:=[]) hj hb hN (fun e=>by rw [e] at hw; simp at hw)
        rw [hw] at h2
        exact h2
      ·rename_i b hb
       cases h
       exact aib (P:=P) (op:=op) (t:=ty) (pos:=pos) (after:=after) (want:=want) (x:=.v (.bool false)) (rt:=[]) (rd:=[]) hj hb hN (fun e=>by cases e)
      ·cases h
     ·cases h
    ·cases h
   ·cases h
  ·cases h
end Go.Lw
namespace Go.Lw
variable {P:Program} {N:Nat} [Inhabited (Tys P)]
theorem a8o {P:Program} {N:Nat} {c:Code} {Q Q':Exit -> AS -> Prop} {s:AS} (h:AWP P N c Q s) (hq:∀ e s, Q e s -> ∃ s', Wk s s' /\ Q' e s'):AWP P N c Q' s :=
 fun C m a w n hN hr=>wpIn_mono (h C m a w n hN hr) fun e _ _ ⟨s', m', hQ, hr'⟩=>by
  obtain ⟨s2,hw,hQ'⟩:=hq e s' hQ
  obtain ⟨m2,hr2⟩:=hw C m' _ _ hr'
  exact ⟨s2,m2,hQ',hr2⟩
def dd {α:Type}:List Nat -> List (Nat × Option α) -> List (Nat × Option α)
  | _,[]=>[]
  | seen, (t, x) :: l=>match a3m t seen with
    | true=>dd seen l
    | false=>match x with
      | some v=>(t,some v) :: dd (t :: seen) l
      | none=>dd (t :: seen) l
theorem a52 {α:Type}:∀ {l:List (Nat × Option α)} {seen:List Nat} {t:Nat} {x:α}, lk (dd seen l) t = some x -> t ∉ seen /\ lk l t = some x
 | [],seen,t,x,h=>by cases h
 | (t', y) :: l, seen, t, x, h=>by
  unfold dd at h
  rw [aac]
  split at h
  ·rename_i hm
   obtain ⟨h1,h2⟩:=a52 h
   refine ⟨h1,?_⟩
   rw [if_neg (fun (e:t = t')=>h1 (by rw [e]; exact aia.1 hm))]; exact h2
  ·rename_i hm
   have hm':t' ∉ seen:=fun hh=>by rw [aia.2 hh] at hm; cases hm
   split at h
   ·rw [aac] at h
    split at h
    ·rename_i e; cases h; subst e; exact ⟨hm',by rw [if_pos rfl]⟩
    ·rename_i e
     obtain ⟨h1,h2⟩:=a52 h
     rw [if_neg e]
     exact ⟨fun hh=>h1 (mem_cons_of_mem _ hh),h2⟩
   ·obtain ⟨h1, h2⟩:=a52 h
    have hne:t ≠ t':=fun e=>h1 (by rw [e]; exact mem_cons_self ..)
    rw [if_neg hne]
    exact ⟨fun hh=>h1 (mem_cons_of_mem _ hh),h2⟩
theorem ayh {s:AS} {sl:abv} {hp:Hp} (h1:∀ t x, lk sl t = some x -> lk s.sl t = some x) (h2:∀ k x, lk hp k = some x -> lk s.hp k = some x):Wk s ⟨sl, hp⟩ :=
 fun C m a w hr=>⟨m,hr.weak (fun t x hx=>⟨x,h1 t x hx,.refl _⟩) (fun k x hx=>⟨x,h2 k x hx,.refl _⟩)⟩
def ddS (s:AS):AS:=⟨dd [] s.sl,dd [] s.hp⟩
theorem bqk (s:AS):Wk s (ddS s):=ayh (fun t x h=>(a52 h).2) (fun t x h=>(a52 h).2)
def noK (k:Nat):List Nat -> abv -> abv
  | _,[]=>[]
  | seen, (t, x) :: l=>match a3m t seen with
    | true=>noK k seen l
    | false=>match x with
      | some v=>match a3m k v.nm with
        | true=>noK k (t :: seen) l
        | false=>(t,some v) :: noK k (t :: seen) l
      | none=>noK k (t :: seen) l
theorem a06 {k:Nat}:∀ {l:abv} {seen:List Nat} {t:Nat} {x:AV}, lk (noK k seen l) t = some x -> t ∉ seen /\ lk l t = some x
 | [],seen,t,x,h=>by cases h
 | (t', y) :: l, seen, t, x, h=>by
  unfold noK at h
  rw [aac]
  have rest:∀ {l':abv}, lk (noK k (t' :: seen) l) t = some x -> t ∉ seen /\ (if t = t' then y else lk l t) = some x:=by
   intro _ h
   obtain ⟨h1,h2⟩:=a06 h
   rw [if_neg (fun (e:t = t')=>h1 (by rw [e]; exact mem_cons_self ..))]
   exact ⟨fun hh=>h1 (mem_cons_of_mem _ hh),h2⟩
  split at h
  ·rename_i hm
   obtain ⟨h1,h2⟩:=a06 h
   refine ⟨h1,?_⟩
   rw [if_neg (fun (e:t = t')=>h1 (by rw [e]; exact aia.1 hm))]; exact h2
  ·rename_i hm
   have hm':t' ∉ seen:=fun hh=>by rw [aia.2 hh] at hm; cases hm
   split at h
   ·split at h
    ·exact rest (l':=l) h
    ·rw [aac] at h
     split at h
     ·rename_i e; cases h; subst e; exact ⟨hm',by rw [if_pos rfl]⟩
     ·rename_i e
      obtain ⟨h1,h2⟩:=a06 h
      rw [if_neg e]
      exact ⟨fun hh=>h1 (mem_cons_of_mem _ hh),h2⟩
   ·exact rest (l':=l) h
def bro (s:AS) (k d:Nat) (y:Blk):AS:=⟨ald (AV.rn k d) s.sl,auo k d y s.hp⟩
def bqx (s:AS) (av:List Nat) (d:Nat):Option AS:=match s.freshB d with
  | true=>some s
  | false=>match s.blk d with
    | some y=>match s.freshB (nxt s av) with
      | true=>some (bro s d (nxt s av) y)
      | false=>none
    | none=>some ⟨noK d [] s.sl,s.hp⟩
theorem bg0 {s s':AS} {av:List Nat} {d:Nat} (h:bqx s av d = some s'):Wk s s':=by
 unfold bqx at h
 split at h
 ·cases h; exact .refl _
 ·split at h
  ·rename_i y hy
   split at h
   ·rename_i hf; cases h; exact Wk.rekey hy hf
   ·cases h
  ·cases h; exact ayh (fun t x h=>(a06 h).2) (fun _ _ h=>h)
def br4 (o:Oper):Option Nat:=match o.dst with
  | some d=>match o.op with
    | .alloc _=>some d
    | .box _ _=>some d
    | .makeSlice _ _ _=>some d
    | .buildSlice _ 0 _=>some d
    | .slice _ _ _ _ (some _)=>some d
    | .call ⟨.builtin .append,_,_⟩=>some d
    | _=>none
  | none=>none
def bnf (av:List Nat):List Oper -> AS -> Option AS
  | [],s=>some s
  | o :: os, s=>match br4 o with
    | some d=>match bqx s av d with
      | some s'=>bnf av os s'
      | none=>none
    | none=>bnf av os s
theorem ay1 {av:List Nat}:∀ {os:List Oper} {s s':AS}, bnf av os s = some s' -> Wk s s'
 | [],s,s',h=>by cases h; exact .refl _
 | o :: os, s, s', h=>by
  unfold bnf at h
  split at h
  ·split at h
   ·rename_i h1; exact (bg0 h1).trans (ay1 h)
   ·cases h
  ·exact ay1 h
inductive RR where
  | ok (s:AS) (us:List Out)
  | need (k:Nat)
  | no
def nB {α:Type}:List α -> Bool
  | []=>true
  | _=>false
def boo (E:Env P) (F:aic) (av fz:List Nat) (N:Nat) (R:List Oper):List Oper -> AS -> List Out -> RR
  | [],s,us=>.ok s us
  | o :: os, s, us=>match opE E F av fz N R s o with
    | .ok u=>match nB u.upd || a5w s u with
      | true=>match s.app o.dst u with
        | ⟨sl,hp⟩=>boo E F av fz N R os ⟨sl,hp⟩ (us ++ [u])
      | false=>.no
    | .need k=>.need k
    | .no=>.no
theorem a5t {E:Env P} {F:aic} (hF:F.Ok P) {av fz:List Nat} {R:List Oper}:∀ {os:List Oper} {s:AS} {us:List Out} {s':AS} {us':List Out}, boo E F av fz N R os s us = .ok s' us' ->
  au1 P N R.toArray os s us (fun s2 us2=>s2 = s' /\ us2 = us')
 | [],s,us,s',us',h=>by cases h; exact ⟨rfl,rfl⟩
 | o :: os, s, us, s', us', h=>by
  unfold boo at h
  split at h
  ·rename_i u hu
   split at h
   ·rename_i hn
    refine ⟨u,bl0 hF hu,?_,a5t hF h⟩
    cases hu':nB u.upd with
    | true =>
     intro k hk
     have:u.upd = []:=by cases hq:u.upd with | nil=>rfl | cons a b=>rw [hq] at hu'; cases hu'
     rw [this] at hk; cases hk
    | false=>rw [hu'] at hn; exact al8 hn
   ·cases h
  ·cases h
  ·cases h
structure Sys where
  code:Nat -> Nat -> List Nat -> Code -> AS -> Option (Exit × AS)
  fn:Nat -> List Nat -> FuncId -> List AV -> Hp -> Option (AV × Hp)
def trF (S:Sys) (base:Nat):aic:=fun av f xs H=>match brr base (H.map (·.1)) with
  | L=>match S.fn (base + 100) av f (tA L xs) (tH L H) with
    | some (r,H')=>some (rB L r,hB L H')
    | none=>none
def isR (e:Exit):Bool:=match e with
  | .normal=>true
  | _=>false
def brd (s:AS) (k:Nat):Option AS:=match s.blk k with
  | some (.row sz es)=>some ⟨ald (AV.fz k sz es) s.sl,agz (AV.fz k sz es) k s.hp⟩
  | _=>none
theorem bir {s s':AS} {k:Nat} (h:brd s k = some s'):Wk s s':=by
 unfold brd at h
 split at h
 ·rename_i hk; cases h; exact Wk.freeze hk
 ·cases h
def bky (E:Env P) (F:aic) (av:List Nat) (N:Nat) (A:List Oper) (d:Bool):Nat -> List Nat -> AS -> Option AS
  | 0,_,_=>none
  | n + 1, fz, s0=>match boo E F av fz N A A s0 [] with
    | .ok s' us=>match d with
      | false=>some s'
      | true=>match chk A us s0 with
        | true=>some s'
        | false=>none
    | .need k=>match brd s0 k with
      | some ⟨sl,hp⟩=>bky E F av N A d n fz ⟨sl,hp⟩
      | none=>match a3m k fz with
        | true=>none
        | false=>bky E F av N A d n (k :: fz) s0
    | .no=>none
theorem ayl {E:Env P} {F:aic} (hF:F.Ok P) {av:List Nat} {id:Nat} {A:Array Oper} {d:Bool} (hnd:A.toList.all nd = true):∀ {n:Nat} {fz:List Nat} {s s1:AS}, bky E F av N A.toList d n fz s = some s1 ->
  AWP P N (.region id A d) (fun e' s'=>e' = .normal /\ s' = s1) s
 | 0,fz,s,s1,h=>by cases h
 | n + 1, fz, s, s1, h=>by
  unfold bky at h
  split at h
  ·rename_i s' us h1
   refine bav (Q:=fun e' s'=>e' = .normal /\ s' = s1) (k:=[]) hnd (fun _=>(default:Tys P).mix) (alk ?_ (a5t hF h1))
   rintro s2 us2 ⟨hs,hu⟩
   rw [hs,hu]
   split at h
   ·obtain rfl:=Option.some.inj h
    exact ⟨(fun e=>by cases e),rfl,rfl⟩
   ·split at h
    ·rename_i hc
     obtain rfl:=Option.some.inj h
     exact ⟨fun _=>hc,rfl,rfl⟩
    ·cases h
  ·split at h
   ·rename_i sl hp hf
    exact afb (bir hf) (ayl hF hnd h)
   ·split at h
    ·cases h
    ·exact ayl hF hnd h
  ·cases h
def axa (E:Env P) (S:Sys) (N base:Nat) (av:List Nat) (c:Code) (s:AS):Option (Exit × AS):=match c with
  | .skip=>some (.normal,s)
  | .ret=>some (.ret,s)
  | .exit id=>some (.exit id,s)
  | .seq x y=>match S.code N base av x s with
    | some (e, s1)=>match isR e with
      | true=>S.code N base av y s1
      | false=>some (e,s1)
    | none=>none
  | .block id c=>match S.code N base av c s with
    | some (e, s1)=>match e with
      | .exit id'=>match Nat.beq id' id with
        | true=>some (.normal,s1)
        | false=>some (.exit id',s1)
      | e=>some (e,s1)
    | none=>none
  | .cond c x y=>match rdC s c with
    | some (.v (.bool b))=>match b with
      | true=>S.code N base av x s
      | false=>S.code N base av y s
    | _=>none
  | .loop c=>match S.code N base av c s with
    | some (e, s1)=>match isR e with
      | true=>match ddS s1 with
        | ⟨sl,hp⟩=>S.code N base av (.loop c) ⟨sl,hp⟩
      | false=>some (e,s1)
    | none=>none
  | .region id A d=>match a6v A.toList with
    | true=>match bnf av A.toList s with
      | some s0=>match bky E (trF S base) av N A.toList d 20 [] s0 with
        | some s'=>some (.normal,s')
        | none=>none
      | none=>none
    | false=>none
  | _=>none
def blb (st:Nat):List Nat -> AS -> Option AS
  | [],s=>some s
  | k :: ks, s=>match s.blk k with
    | some y=>match bgp s 100 st with
      | d=>match s.freshB d with
        | true=>blb st ks (bro s k d y)
        | false=>none
    | none=>none
theorem aya {st:Nat}:∀ {ks:List Nat} {s s':AS}, blb st ks s = some s' -> Wk s s'
 | [],s,s',h=>by cases h; exact .refl _
 | k :: ks, s, s', h=>by
  unfold blb at h
  split at h
  ·rename_i y hy
   simp only at h
   split at h
   ·rename_i hf; exact (Wk.rekey (s:=s) hy hf).trans (aya h)
   ·cases h
  ·cases h
def cnt:Nat -> List Nat -> List Nat
  | _,[]=>[]
  | n,_ :: l=>n :: cnt (n + 1) l
def loc:List Nat -> List Nat
  | []=>[]
  | k :: ks=>match Nat.blt k 1000 with
    | true=>k :: loc ks
    | false=>loc ks
def bkf (sl:abv):List Nat -> abv
  | []=>[]
  | t :: ts=>match lk sl t with
    | some x=>(t,some x) :: bkf sl ts
    | none=>bkf sl ts
theorem azr {sl:abv}:∀ {ts:List Nat} {t:Nat} {x:AV}, lk (bkf sl ts) t = some x -> lk sl t = some x
 | [],t,x,h=>by cases h
 | t' :: ts, t, x, h=>by
  unfold bkf at h
  split at h
  ·rename_i y hy
   rw [aac] at h
   split at h
   ·rename_i e; cases h; rw [e]; exact hy
   ·exact azr h
  ·exact azr h
def rsT:List ResultVar -> List Nat
  | []=>[]
  | r :: rs=>(match r with
    | .tmp t=>t
    | .cell t _=>t) :: rsT rs
def bo9 (P:Program) [Inhabited (Tys P)] (rs:List ResultVar) (Hk:List Nat) (s:AS):Option (AV × Hp):=match bfe P s rs with
  | some ys=>some (akz ys,pkH s (a4i s 300 (AV.nms ys ++ Hk) []))
  | none=>none
theorem a8a {rs:List ResultVar} {Hk:List Nat} {s:AS} {r:AV} {H':Hp} (h:bo9 P rs Hk s = some (r, H')):∃ xs, ResL P s rs xs /\ Fin s (akz xs) r H':=by
 unfold bo9 at h
 split at h
 ·rename_i ys hy
  cases h
  exact ⟨ys,azs hy,.keep (fun k z hz=>axw hz)⟩
 ·cases h
def bq3 (P:Program) [Inhabited (Tys P)] (av:List Nat) (rs:List ResultVar) (Hk:List Nat) (s:AS):Option (AV × Hp):=match a4i s 300 (AV.nms ((bkf s.sl (rsT rs)).filterMap (·.2)) ++ Hk) [] with
  | K=>match loc K with
    | []=>bo9 P rs Hk s
    | k :: ks=>match blb 700 (k :: ks) ⟨bkf s.sl (rsT rs), pkH s K⟩ with
      | some s2=>match blb (mx 299 av + 1) (cnt 700 (k :: ks)) s2 with
        | some s3=>bo9 P rs Hk s3
        | none=>none
      | none=>none
theorem bj3 {av:List Nat} {rs:List ResultVar} {Hk:List Nat} {s:AS} {r:AV} {H':Hp} (h:bq3 P av rs Hk s = some (r, H')):∃ s2, Wk s s2 /\ ∃ xs, ResL P s2 rs xs /\ Fin s2 (akz xs) r H':=by
 unfold bq3 at h
 simp only at h
 split at h
 ·exact ⟨s,.refl _,a8a h⟩
 ·split at h
  ·rename_i s2 h2
   split at h
   ·rename_i s3 h3
    exact ⟨s3,((ayh (fun t x=>azr) (fun k x=>axw)).trans (aya h2)).trans (aya h3),a8a h⟩
   ·cases h
  ·cases h
def bb2:Hp -> Bool
  | []=>true
  | (k,_) :: l=>Nat.ble 1000 k && bb2 l
theorem a11:∀ {H:Hp} {k:Nat} {z:Blk}, bb2 H = true -> lk H k = some z -> 1000 <= k
 | [],k,z,_,h=>by cases h
 | (k', x) :: l, k, z, h0, h=>by
  simp only [bb2,and_eq_true,Nat.ble_eq] at h0
  rw [aac] at h
  split at h
  ·rename_i e; rw [e]; exact h0.1
  ·exact a11 h0.2 h
def fnS (E:Env P) (S:Sys) (base:Nat) (av:List Nat) (f:FuncId) (xs:List AV) (H:Hp):Option (AV × Hp):=match E.fe f with
  | some fe=>match Nat.beq fe.f f && bb2 H with
    | true=>match a4x 0 xs with
      | some sl=>match S.code fe.fn.ntmps base av fe.c ⟨sl, H⟩ with
        | some (e, s1)=>match a56 e with
          | true=>bq3 P av fe.rs (H.map (·.1)) s1
          | false=>none
        | none=>none
      | none=>none
    | false=>none
  | none=>none
def ev (E:Env P) (n:Nat):Sys:=Nat.rec ⟨fun _ _ _ _ _=>none,fun _ _ _ _ _=>none⟩ (fun _ S=>⟨axa E S,fnS E S⟩) n
structure SysOk (P:Program) (S:Sys):Prop where
  code:∀ N base av c s e s1,S.code N base av c s = some (e,s1) -> AWP P N c (fun e' s'=>e' = e /\ s' = s1) s
  fn:∀ base av f xs H r H',S.fn base av f xs H = some (r,H') -> Con P f xs H r H'
theorem bnc {P:Program} {S:Sys} (h:SysOk P S) (base:Nat):(trF S base).Ok P:=by
 intro av f xs H r H' h1
 unfold trF at h1
 simp only at h1
 split at h1
 ·rename_i h2; cases h1; exact brs (h.fn _ _ _ _ _ _ _ h2)
 ·cases h1
theorem bm6 {E:Env P} {S:Sys} (h:SysOk P S) {base:Nat} {av:List Nat} {f:FuncId} {xs:List AV} {H H':Hp} {r:AV} (h1:fnS E S base av f xs H = some (r, H')):Con P f xs H r H':=by
 unfold fnS at h1
 split at h1
 ·rename_i fe hfe
  split at h1
  ·rename_i hc
   simp only [and_eq_true] at hc
   have hf:=eq_of_beq_eq_true hc.1
   subst hf
   split at h1
   ·rename_i sl hsl
    cases aow hsl
    split at h1
    ·rename_i e s1 h2
     split at h1
     ·rename_i he
      refine a69 fe.hf fe.hb fe.hn fe.hrs rfl (fun k z hz=>a11 hc.2 hz) ?_
      refine a8o (h.code _ _ _ _ _ _ _ h2) ?_
      rintro e' s' ⟨he',hs'⟩
      rw [he',hs']
      obtain ⟨s2,hw,hx⟩:=bj3 h1
      refine ⟨s2,hw,?_⟩
      cases e <;> first | exact hx | exact (nomatch he)
     ·cases h1
    ·cases h1
   ·cases h1
  ·cases h1
 ·cases h1
theorem bbt (E:Env P):∀ n m, m <= n -> SysOk P (ev E m)
 | 0, m, hm=>by
  have:m = 0:=by omega
  subst this
  exact { code:=(fun _ _ _ _ _ _ _ h=>by cases h),fn:=(fun _ _ _ _ _ _ _ h=>by cases h) }
 | n + 1, m, hm=>by
  by_cases hmn:m <= n
  ·exact bbt E n m hmn
  ·have : m = n + 1 := by omega
   subst this
   have ih:=bbt E n n (le_refl _)
   refine ⟨?_,fun base av f xs H r H' h=>bm6 ih h⟩
   intro N base av c s e s1 h
   change axa E (ev E n) N base av c s = some (e,s1) at h
   cases c with
   | skip=>cases h; exact a0y ⟨rfl,rfl⟩
   | ret=>cases h; exact a82 ⟨rfl,rfl⟩
   | exit id=>cases h; exact a2r ⟨rfl,rfl⟩
   | seq x y =>
    simp only [axa] at h
    split at h
    ·rename_i e1 s2 h1
     refine bba fun K hK=>act (ih.code _ _ _ _ _ _ _ h1) ?_
     rintro e' s' ⟨he,hs⟩
     rw [he,hs]
     split at h
     ·rename_i hr
      cases e1 <;> first | exact hK _ (ih.code _ _ _ _ _ _ _ h) | exact (nomatch hr)
     ·rename_i hr
      obtain ⟨rfl,rfl⟩:=Prod.mk.inj (Option.some.inj h)
      cases e1 <;> first | exact ⟨rfl,rfl⟩ | exact (nomatch hr)
    ·cases h
   | block id c =>
    simp only [axa] at h
    split at h
    ·rename_i e1 s2 h1
     refine axx (act (ih.code _ _ _ _ _ _ _ h1) ?_)
     rintro e' s' ⟨he,hs⟩
     rw [he,hs]
     split at h
     ·rename_i id'
      show match Nat.beq id' id with | true=>_ | false=>_
      split at h
      ·rename_i hb
       obtain ⟨rfl,rfl⟩:=Prod.mk.inj (Option.some.inj h)
       simp only []; exact ⟨trivial,trivial⟩
      ·rename_i hb
       obtain ⟨rfl,rfl⟩:=Prod.mk.inj (Option.some.inj h)
       simp only []; exact ⟨trivial,trivial⟩
     ·rename_i hne
      obtain ⟨rfl,rfl⟩:=Prod.mk.inj (Option.some.inj h)
      cases e1 <;> first | exact ⟨rfl,rfl⟩ | exact absurd rfl (hne _)
    ·cases h
   | cond c x y =>
    simp only [axa] at h
    split at h
    ·rename_i b hb
     split at h
     ·exact atv (abe hb) (fun _=>ih.code _ _ _ _ _ _ _ h) (fun e=>by cases e)
     ·exact atv (abe hb) (fun e=>by cases e) (fun _=>ih.code _ _ _ _ _ _ _ h)
    ·cases h
   | loop c =>
    refine aie (fun m s=>m <= n + 1 /\ (ev E m).code N base av (.loop c) s = some (e,s1)) (n:=n + 1) (.refl _) ⟨le_refl _,h⟩ ?_
    rintro m s ⟨hm,hI⟩ K hK
    cases m with
    | zero=>cases hI
    | succ m =>
     change axa E (ev E m) N base av (.loop c) s = some (e,s1) at hI
     have ihm:=bbt E n m (by omega)
     simp only [axa] at hI
     split at hI
     ·rename_i e1 s2 h1
      refine act (ihm.code _ _ _ _ _ _ _ h1) ?_
      rintro e' s' ⟨he,hs⟩
      rw [he,hs]
      split at hI
      ·rename_i hr
       cases e1 <;> first | exact hK _ _ m (bqk s2) ⟨by omega,hI⟩ (by omega) | exact (nomatch hr)
      ·rename_i hr
       obtain ⟨rfl,rfl⟩:=Prod.mk.inj (Option.some.inj hI)
       cases e1 <;> first | exact ⟨rfl,rfl⟩ | exact (nomatch hr)
     ·cases hI
   | region id A d =>
    simp only [axa] at h
    split at h
    ·rename_i hnd
     split at h
     ·rename_i s0 h0
      refine afb (ay1 h0) ?_
      split at h
      ·rename_i s' h1
       obtain ⟨rfl,rfl⟩:=Prod.mk.inj (Option.some.inj h)
       exact ayl (bnc ih base) (ati hnd) h1
      ·cases h
     ·cases h
    ·cases h
   | _=>cases h
theorem ajk (E:Env P) (n:Nat) {base:Nat} {av:List Nat} {f:FuncId} {xs:List AV} {H H':Hp} {r:AV} (h:(ev E n).fn base av f xs H = some (r, H')):Con P f xs H r H' :=
 (bbt E n n (le_refl _)).fn _ _ _ _ _ _ _ h
end Go.Lw
namespace Go.Lw
def bfc (s:ByteArray) (n:Int):Bd:=⟨s,[⟨⟨#[97]⟩,rt ((0:Int):Rat),rt ((0:Int):Rat)⟩,⟨⟨#[98]⟩,rt (n:Rat),rt ((0:Int):Rat)⟩]⟩
def fb:Li:=⟨⟨#[102, 111, 117, 114, 98, 97, 114]⟩, [bfc ⟨#[102, 114, 97, 109, 101]⟩ 4, bfc ⟨#[99, 114, 97, 110, 107]⟩ 3, bfc ⟨#[99, 111, 117, 112, 108, 101, 114]⟩ 5, bfc ⟨#[114, 111, 99, 107, 101, 114]⟩ 6],
  [⟨⟨#[111]⟩,0,1,0,0,0,0⟩,⟨⟨#[112]⟩,0,2,0,1,1,0⟩,⟨⟨#[113]⟩,0,3,0,0,1,0⟩,⟨⟨#[114]⟩,0,2,1,3,1,0⟩],[⟨⟨#[100]⟩,1⟩]⟩
def t0:Tn:=⟨⟨false,[],[]⟩,false⟩
theorem att (a b:ByteArray):eqS a b = (a.data.toList == b.data.toList):=by
 unfold eqS; rw [Go.ByteArray.toList_eq,Go.ByteArray.toList_eq]
theorem ajd:liE fb = 0:=by
 have h1:a0i fb = 0:=by
  unfold a0i ad4 bdE axt mkE
  simp only [att]
  decide +kernel
 have h2:aqw fb = 0:=by
  unfold aqw ad4 jtE axt
  simp only [att]
  decide +kernel
 have h3:azi fb = 0:=by
  unfold azi ad4 drE axt
  simp only [att]
  decide +kernel
 unfold liE
 rw [h1,h2,h3]
 decide +kernel
theorem bi2 {s:ByteArray} (hs:s.size <= 281474976710656) {n:Int} (hn:-9223372036854775808 <= n /\ n <= 9223372036854775807) :
  (bfc s n).name.size <= 281474976710656 /\ (bfc s n).pts.length <= 281474976710656 /\ ∀ m ∈ (bfc s n).pts,m.name.size <= 281474976710656 /\ m.x.wok /\ m.y.wok:=by
 have h0:(rt ((0:Int):Rat)).ok:=(aw2 (by omega)).ok
 have h1:(rt (n:Rat)).ok:=(aw2 hn).ok
 refine ⟨hs,by show 2 <= _; omega,fun m hm=>?_⟩
 simp only [bfc,mem_cons,not_mem_nil,or_false] at hm
 rcases hm with rfl | rfl
 ·exact ⟨by show 1 <= _; omega,h0.wok,h0.wok⟩
 ·exact ⟨by show 1 <= _; omega,h1.wok,h0.wok⟩
theorem blo:fb.okw:=by
 refine ⟨by decide,fun b hb=>?_,fun j hj=>?_,fun d hd=>?_,by decide,by decide,by decide⟩
 ·simp only [fb, mem_cons, not_mem_nil, or_false] at hb
  rcases hb with rfl | rfl | rfl | rfl <;> exact bi2 (by decide) (by omega)
 ·simp only [fb, mem_cons, not_mem_nil, or_false] at hj
  rcases hj with rfl | rfl | rfl | rfl <;> decide
 ·simp only [fb, mem_cons, not_mem_nil, or_false] at hd
  rcases hd with rfl; decide
theorem ad2:fb.ok:=bh0 (by decide +kernel) blo
end Go.Lw
namespace Go.Lw
open Go.Proofs
def feG (P:Program) (n:Nat):Option (FE P):=match h:P.funcs[n]? with
  | none=>none
  | some fn=>match hb:fn.body with
    | none=>none
    | some c => match hn : (fn.name == "runtime.NumGoroutine") with
      | true=>none
      | false=>some ⟨n,fn,c,fn.results.toList,h,hb,hn,by simp⟩
def smQ (q:Rat):Bool:=Nat.blt q.num.natAbs 18446744073709551616 && Nat.blt q.den 18446744073709551616
theorem bge {q:Rat} (h:smQ q = true):Qb 64 q:=by
 simp only [smQ,and_eq_true,Nat.blt_eq] at h
 exact ⟨h.1,h.2⟩
theorem ahq {q:Rat} (h:smQ q = true):Qs q:=(bge h).qs (by omega)
def n0 (q:Rat):AV:=nA (sh 0 (q:Rat))
def z0:AV:=aeg []
theorem aiw {q:Rat} (h:smQ q = true):Nm ([]:List (List Rat)).length 64 (sh 0 (q:Rat)):=Nm.ofQ (by decide) (Cb.one (bge h))
theorem a5h (q:Rat):dec ([]:List (List Rat)).length (sh 0 (q:Rat)) = q:=am5 0 q
theorem bfj:Tw [] 1 where
 three:=by decide
 len:=fun j hj=>absurd hj (Nat.not_lt_zero j)
 pos:=fun j hj=>absurd hj (Nat.not_lt_zero j)
 rb:=⟨1,1,by omega,fun d hd=>absurd hd not_mem_nil,by decide,by decide⟩
 le:=by decide
theorem lm0:lm ([]:List (List Rat)).length = 200000000000:=rfl
def dW:List AV -> Nat
  | []=>0
  | x :: l=>match x with
    | .v (.int _ (.ofNat n))=>n + 4294967296 * dW l
    | _=>0
def dWs:AV -> Nat
  | .lst _ l=>dW l
  | _=>0
def dQ (x:AV):Rat:=match x with
  | .agg (.v (.bool s) :: n :: d :: _)=>match s with
    | true=>mkRat (-(dWs n:Int)) (dWs d)
    | false=>mkRat (dWs n:Int) (dWs d)
  | _=>0
def dN (x:AV):Rat:=match x with
  | .lst _ (x :: _)=>dQ x
  | _=>0
abbrev En:=Option (Ent prog)
def w2 (f:FuncId) (g:Rat -> Rat -> AV) (h:∀ p q, smQ p = true -> smQ q = true -> FnC prog f [qA p, qA q] (g p q)) (p q:Rat):En:=match hh:smQ p && smQ q with
  | true=>some ⟨f,[qA p,qA q],g p q,[],h p q (by rw [and_eq_true] at hh; exact hh.1) (by rw [and_eq_true] at hh; exact hh.2)⟩
  | false=>none
def oQ2 (f:FuncId) (g:Rat -> Rat -> AV) (h:∀ p q, smQ p = true -> smQ q = true -> FnC prog f [qA p, qA q] (g p q)) (xs:List AV):En:=match xs with
  | [a,b]=>w2 f g h (dQ a) (dQ b)
  | _=>none
def w1 (f:FuncId) (a:Rat -> AV) (g:Rat -> AV) (h:∀ p, smQ p = true -> FnC prog f [a p] (g p)) (p:Rat):En:=match hh:smQ p with
  | true=>some ⟨f,[a p],g p,[],h p hh⟩
  | false=>none
def oQ1 (f:FuncId) (g:Rat -> AV) (h:∀ p, smQ p = true -> FnC prog f [qA p] (g p)) (xs:List AV):En:=match xs with
  | [a]=>w1 f qA g h (dQ a)
  | _=>none
def w3 (f:FuncId) (g:Rat -> Rat -> AV) (h:∀ p q, smQ p = true -> smQ q = true -> FnC prog f [z0, n0 p, n0 q] (g p q)) (p q:Rat):En:=match hh:smQ p && smQ q with
  | true=>some ⟨f,[z0,n0 p,n0 q],g p q,[],h p q (by rw [and_eq_true] at hh; exact hh.1) (by rw [and_eq_true] at hh; exact hh.2)⟩
  | false=>none
def oT2 (f:FuncId) (g:Rat -> Rat -> AV) (h:∀ p q, smQ p = true -> smQ q = true -> FnC prog f [z0, n0 p, n0 q] (g p q)) (xs:List AV):En:=match xs with
  | [_,a,b]=>w3 f g h (dN a) (dN b)
  | _=>none
def w4 (f:FuncId) (g:Rat -> AV) (h:∀ p, smQ p = true -> FnC prog f [z0, n0 p] (g p)) (p:Rat):En:=match hh:smQ p with
  | true=>some ⟨f,[z0,n0 p],g p,[],h p hh⟩
  | false=>none
def oT1 (f:FuncId) (g:Rat -> AV) (h:∀ p, smQ p = true -> FnC prog f [z0, n0 p] (g p)) (xs:List AV):En:=match xs with
  | [_,a]=>w4 f g h (dN a)
  | _=>none
def oC (f:FuncId) (ys:List AV) (r:AV) (h:FnC prog f ys r) (xs:List AV):En:=some ⟨f,ys,r,[],h⟩
def dI (x:AV):Int:=match x with
  | .v (.int _ z)=>z
  | _=>0
def oI (f:FuncId) (g:Int -> AV) (h:∀ z, (-9223372036854775808 <= z /\ z <= 9223372036854775807) -> FnC prog f [i64 z] (g z)) (xs:List AV):En:=match xs with
  | [a]=>match (inferInstance:Decidable (-9223372036854775808 <= dI a /\ dI a <= 9223372036854775807)) with
    | .isTrue hh=>some ⟨f,[i64 (dI a)],g (dI a),[],h (dI a) hh⟩
    | .isFalse _=>none
  | _=>none
theorem bpc (p q:Rat) (hp:smQ p = true) (hq:smQ q = true):FnC prog 322 [z0, n0 p, n0 q] (.tup [n0 (p + q), .v .nilIface]):=by
 have h:=bfi bfj (aiw hp) (aiw hq) (by rw [lm0]; omega)
 rw [a5h,a5h] at h; exact h
theorem bpl (p q:Rat) (hp:smQ p = true) (hq:smQ q = true):FnC prog 321 [z0, n0 p, n0 q] (.tup [n0 (p + -q), .v .nilIface]):=by
 have h:=bgf bfj (aiw hp) (aiw hq) (by rw [lm0]; omega)
 rw [a5h,a5h] at h; exact h
theorem bqv (p q:Rat) (hp:smQ p = true) (hq:smQ q = true):FnC prog 56 [z0, n0 p, n0 q] (.tup [n0 (p * q), .v .nilIface]):=by
 have h:=bet bfj (aiw hp) (aiw hq) (by rw [lm0]; omega)
 rw [a5h,a5h] at h; exact h
theorem bnk (p:Rat) (hp:smQ p = true):FnC prog 40 [z0, n0 p] (.tup [i64 (ai2 p), .v .nilIface]):=by
 have h:=ay5 bfj (aiw hp) (by rw [lm0]; omega)
 rw [a5h] at h; exact h
theorem bqn (p:Rat) (hp:smQ p = true):FnC prog 161 [z0, n0 p] (.tup [n0 (-p), .v .nilIface]):=by
 have h:=bfu bfj (aiw hp) (by rw [lm0]; omega)
 rw [a5h] at h; exact h
theorem biw (p q:Rat) (hp:smQ p = true) (hq:smQ q = true):FnC prog 27 [z0, n0 p, n0 q] (bl (decide (ai2 (p + -q) = 0))):=by
 have h:=aca bfj (aiw hp) (aiw hq) (by rw [lm0]; omega)
 rw [a5h,a5h] at h; exact h
def br5:FuncId -> Option (List AV -> En)
  | 322=>some (oT2 322 _ bpc)
  | 321=>some (oT2 321 _ bpl)
  | 56=>some (oT2 56 _ bqv)
  | 40=>some (oT1 40 _ bnk)
  | 161=>some (oT1 161 _ bqn)
  | 158=>some (oC 158 [z0] (.v .nilIface) (a1y bfj))
  | 136=>some (oQ1 136 n0 fun _ h=>awi (ahq h))
  | 27=>some (oT2 27 _ biw)
  | 137=>some (oI 137 (fun z=>qA z) ad1)
  | 189=>some (oI 189 (fun z=>qA z) alw)
  | 101=>some (oQ1 101 n0 fun _ h=>azb (ahq h))
  | 142=>some (oQ2 142 (fun p q=>qA (p + q)) fun _ _ h h'=>bbr (ahq h) (ahq h'))
  | 258=>some (oQ2 258 (fun p q=>qA (p - q)) fun _ _ h h'=>a9j (ahq h) (ahq h'))
  | 204=>some (oQ2 204 (fun p q=>qA (p * q)) fun _ _ h h'=>a4j (ahq h) (ahq h'))
  | 396=>some (oQ2 396 (fun p q=>.tup [qA (p / q),ahr (if q = 0 then 8 else 0)]) fun _ _ h h'=>bm3 (ahq h) (ahq h'))
  | 69=>some (oQ1 69 (fun p=>qA (-p)) fun _ h=>bny (ahq h))
  | 179=>some (oQ1 179 (fun p=>i64 (ai2 p)) fun _ h=>bn2 (ahq h))
  | _=>none
def dIs (x:AV):List Int:=match x with
  | .lst _ es=>es.map dI
  | _=>[]
def dG (x:AV):Gr:=match x with
  | .agg [k,b,j,d]=>⟨dI k,dIs b,dIs j,dI d⟩
  | _=>default
def bpj (n:Nat) (l:List Int):Bool:=l.all fun z=>aaa .leq 0 z && aaa .lss z n
theorem a98 {n:Nat} {l:List Int} (h:bpj n l = true):∀ x ∈ l, 0 <= x /\ x < n:=by
 intro x hx
 have:=List.all_eq_true.1 h x hx
 simp only [and_eq_true,aaa,decide_eq_true_eq] at this
 exact this
def grB (l:Li) (g:Gr):Bool:=bpj l.bodies.length g.bodies && bpj l.joints.length g.joints && Nat.ble g.bodies.length 2 && Nat.ble g.joints.length 3
theorem bkt {l:Li} {g:Gr} (h:grB l g = true):GrOk l g:=by
 simp only [grB,and_eq_true,Nat.ble_eq] at h
 exact ⟨a98 h.1.1.1,a98 h.1.1.2,h.1.2,h.2⟩
def br8 (l:Li) (hl:l.ok) (hli:liE l = 0) (g:Gr):En:=match hh:grB l g with
  | true=>some ⟨159,[l.av,g.av],_,_,aq0 l hl hli g (bkt hh)⟩
  | false=>none
def brz (l:Li) (hl:l.ok) (hli:liE l = 0) (xs:List AV):En:=match xs with
  | [_,g]=>br8 l hl hli (dG g)
  | _=>none
theorem bh7 (l:Li) (hl:l.ok) (hli:liE l = 0):FnC prog 80 [l.av] (.tup [.lst 4 ((splitG l).map Gr.av), ahr (splitE l)]):=by
 have h:=are l hl
 rw [if_pos hli,if_pos hli] at h; exact h
def awt (l:Li) (hl:l.ok) (hli:liE l = 0):FuncId -> Option (List AV -> En)
  | 80=>some (oC 80 [l.av] _ (bh7 l hl hli))
  | 159=>some (brz l hl hli)
  | 212=>some (oQ1 212 (fun p=>bl (rt p).valid) fun _ h=>aci _ (ahq h).ok)
  | f=>br5 f
def orP:List (Ent prog) -> FuncId -> Bool
  | [],_=>false
  | e :: l, f=>match Nat.beq e.f f with
    | true=>true
    | false=>orP l f
def orS (xs:List AV) (f:FuncId):List (Ent prog) -> En
  | []=>none
  | e :: l=>match Nat.beq e.f f && az0 xs e.xs with
    | true=>some e
    | false=>orS xs f l
def orF (L:List (Ent prog)) (o:FuncId -> Option (List AV -> En)) (f:FuncId):Option (List AV -> En):=match orP L f with
  | true=>some fun xs=>match orS xs f L with
    | some e=>some e
    | none=>match o f with
      | some g=>g xs
      | none=>none
  | false=>o f
def axl (n:FuncId):Bool:=Nat.beq n 160 || (Nat.beq n 253 || Nat.beq n 309)
end Go.Lw
namespace Go.Lw
open Go.Proofs
theorem brf (p q:Rat) (hp:smQ p = true) (hq:smQ q = true):FnC prog 57 [z0, n0 p, n0 q] (.tup [i64 (ai2 (p + -q)), .v .nilIface]):=by
 have h:=a2b bfj (aiw hp) (aiw hq) (by rw [lm0]; omega)
 rw [a5h,a5h] at h; exact h
def au5 (o:FuncId -> Option (List AV -> En)):FuncId -> Option (List AV -> En)
  | 57=>some (oT2 57 _ brf)
  | f=>o f
end Go.Lw
namespace Go.Lw
open Go.Proofs
set_option maxRecDepth 20000
def bnn:AV:=.agg [.v (.string ⟨⟨[111]⟩⟩),.v (.int .i64 0),.v (.int .i64 1),.v (.int .i64 0),.v (.int .i64 0),.v (.int .i64 0),.v (.int .i64 0)]
def bma:AV:=.agg [.v (.string ⟨⟨[112]⟩⟩),.v (.int .i64 0),.v (.int .i64 2),.v (.int .i64 0),.v (.int .i64 1),.v (.int .i64 1),.v (.int .i64 0)]
def bml:AV:=.agg [.v (.string ⟨⟨[113]⟩⟩),.v (.int .i64 0),.v (.int .i64 3),.v (.int .i64 0),.v (.int .i64 0),.v (.int .i64 1),.v (.int .i64 0)]
def boj:AV:=.agg [.v (.string ⟨⟨[114]⟩⟩),.v (.int .i64 0),.v (.int .i64 2),.v (.int .i64 1),.v (.int .i64 3),.v (.int .i64 1),.v (.int .i64 0)]
def be5:AV:=.agg [.lst 3 [.agg [.v (.bool false),.lst 1 [.v (.int .u32 1)],.lst 1 [.v (.int .u32 1)]]],.v (.slice none 0 0),.lst 3 [],.lst 3 []]
def bk9:AV:=.agg [.v (.string ⟨⟨[98]⟩⟩),.v (.bool false),.lst 1 [.v (.int .u32 4)],.lst 1 [.v (.int .u32 1)],.v (.bool false),.lst 1 [],.lst 1 []]
def bm7:AV:=.agg [.v (.string ⟨⟨[98]⟩⟩),.v (.bool false),.lst 1 [.v (.int .u32 3)],.lst 1 [.v (.int .u32 1)],.v (.bool false),.lst 1 [],.lst 1 []]
def blc:AV:=.agg [.v (.string ⟨⟨[98]⟩⟩),.v (.bool false),.lst 1 [.v (.int .u32 5)],.lst 1 [.v (.int .u32 1)],.v (.bool false),.lst 1 [],.lst 1 []]
def bmv:AV:=.agg [.v (.string ⟨⟨[98]⟩⟩),.v (.bool false),.lst 1 [.v (.int .u32 6)],.lst 1 [.v (.int .u32 1)],.v (.bool false),.lst 1 [],.lst 1 []]
def bew:AV:=.agg [.v (.slice none 0 0),.lst 2 [.agg [.lst 3 [.agg [.v (.bool true),.lst 1 [.v (.int .u32 2)],.lst 1 [.v (.int .u32 1)]]],.lst 3 []]]]
def auk:AV:=.agg [.lst 3 [.agg [.v (.bool false),.lst 1 [.v (.int .u32 1)],.lst 1 [.v (.int .u32 1)]]],.v (.slice none 0 0),.v (.slice none 0 0),.v (.slice none 0 0)]
def biq:AV:=.agg [.lst 3 [.agg [.v (.bool true),.lst 1 [.v (.int .u32 1)],.lst 1 [.v (.int .u32 1)]]],.v (.slice none 0 0),.lst 3 [.agg [.v (.bool false),.lst 1 [.v (.int .u32 3)],.lst 1 [.v (.int .u32 1)]]],.lst 3 []]
def bhl:AV:=.agg [.lst 3 [.agg [.v (.bool true),.lst 1 [.v (.int .u32 1)],.lst 1 [.v (.int .u32 1)]]],.v (.slice none 0 0),.lst 3 [.agg [.v (.bool false),.lst 1 [.v (.int .u32 4)],.lst 1 [.v (.int .u32 1)]]],.lst 3 []]
def bhy:AV:=.agg [.lst 3 [.agg [.v (.bool true),.lst 1 [.v (.int .u32 1)],.lst 1 [.v (.int .u32 1)]]],.v (.slice none 0 0),.lst 3 [.agg [.v (.bool false),.lst 1 [.v (.int .u32 3)],.lst 1 [.v (.int .u32 1)]]],.v (.slice none 0 0)]
def bjx:AV:=.agg [.lst 3 [.agg [.v (.bool true),.lst 1 [.v (.int .u32 1)],.lst 1 [.v (.int .u32 1)]]],.v (.slice none 0 0),.lst 3 [.agg [.v (.bool false),.lst 1 [.v (.int .u32 4)],.lst 1 [.v (.int .u32 1)]]],.v (.slice none 0 0)]
def bi5:AV:=.lst 7 [.agg [.v (.string ⟨⟨[97]⟩⟩),.v (.bool false),.lst 1 [],.lst 1 [],.v (.bool false),.lst 1 [],.lst 1 []],bk9]
def bhx:AV:=.lst 7 [.agg [.v (.string ⟨⟨[97]⟩⟩),.v (.bool false),.lst 1 [],.lst 1 [],.v (.bool false),.lst 1 [],.lst 1 []],bm7]
def bhi:AV:=.lst 7 [.agg [.v (.string ⟨⟨[97]⟩⟩),.v (.bool false),.lst 1 [],.lst 1 [],.v (.bool false),.lst 1 [],.lst 1 []],blc]
def bhw:AV:=.lst 7 [.agg [.v (.string ⟨⟨[97]⟩⟩),.v (.bool false),.lst 1 [],.lst 1 [],.v (.bool false),.lst 1 [],.lst 1 []],bmv]
def bi4:AV:=.agg [.v (.string ⟨⟨[99,114,97,110,107]⟩⟩),bhx]
def bhm:AV:=.agg [.v (.string ⟨⟨[102,114,97,109,101]⟩⟩),bi5]
def bjg:AV:=.agg [.v (.string ⟨⟨[114,111,99,107,101,114]⟩⟩),bhw]
def bgu:AV:=.agg [.v (.string ⟨⟨[99,111,117,112,108,101,114]⟩⟩),bhi]
def bjy:AV:=.lst 4 [biq,bhl]
def a53:AV:=.agg [.v (.slice none 0 0),bjy,.v (.int .i64 0)]
def bhp:AV:=.lst 7 [bnn,bma,bml,boj]
def bhs:AV:=.lst 4 [auk,auk,bhy,bjx]
def ap1:AV:=.agg [.v (.slice none 0 0),bhs,.lst 1 [.v (.int .i64 1),.v (.int .i64 0)]]
def bjs:AV:=.lst 2 [bhm,bi4,bgu,bjg]
def ai6:AV:=.agg [.v (.string ⟨⟨[102,111,117,114,98,97,114]⟩⟩),bjs,bhp,.lst 2 [.agg [.v (.string ⟨⟨[100]⟩⟩),.v (.int .i64 1)]]]
theorem bp4:Con prog 29 [] [] (ai6) []:=ajk ⟨orF [] (orF [⟨32,[fb.av,fb.av],bl true,[],aar fb ad2⟩] (au5 (awt fb ad2 ajd))),feG prog,axl⟩ 6000 (base:=2000) (av:=[]) (by kernel_rfl)
def bfr:List (Ent prog):=⟨_,_,_,_,bp4⟩ :: []
theorem bpx:Con prog 133 [ai6,.v (.int .i64 0),.agg [.v (.bool false),.v (.slice none 0 0),.v (.slice none 0 0),.v (.bool false)],.agg [.v (.slice none 0 0),.lst 4 [auk,.agg [.v (.slice none 0 0),.v (.slice none 0 0),.v (.slice none 0 0),.v (.slice none 0 0)],.agg [.v (.slice none 0 0),.v (.slice none 0 0),.v (.slice none 0 0),.v (.slice none 0 0)],.agg [.v (.slice none 0 0),.v (.slice none 0 0),.v (.slice none 0 0),.v (.slice none 0 0)]],.v (.slice none 0 0)]] [] (.tup [.lst 3 [.agg [.v (.slice none 0 0),.lst 4 [be5],.v (.int .i64 1)]],.v .nilIface]) []:=ajk ⟨orF bfr (orF [⟨32,[fb.av,fb.av],bl true,[],aar fb ad2⟩] (au5 (awt fb ad2 ajd))),feG prog,axl⟩ 6000 (base:=2000) (av:=[]) (by kernel_rfl)
def bex:List (Ent prog):=⟨_,_,_,_,bpx⟩ :: bfr
theorem bri:Con prog 280 [.agg [.v (.slice none 0 0)],.agg [.lst 3 [.agg [.v (.bool false),.lst 1 [.v (.int .u32 3)],.lst 1 [.v (.int .u32 1)]]],.lst 3 [],.lst 3 [.agg [.v (.bool false),.lst 1 [.v (.int .u32 25)],.lst 1 [.v (.int .u32 1)]]]],.agg [.lst 3 [.agg [.v (.bool false),.lst 1 [.v (.int .u32 4)],.lst 1 [.v (.int .u32 1)]]],.lst 3 [],.lst 3 [.agg [.v (.bool false),.lst 1 [.v (.int .u32 36)],.lst 1 [.v (.int .u32 1)]]]]] [] (.tup [bew,.v .nilIface]) []:=ajk ⟨orF bex (orF [⟨32,[fb.av,fb.av],bl true,[],aar fb ad2⟩] (au5 (awt fb ad2 ajd))),feG prog,axl⟩ 6000 (base:=2000) (av:=[]) (by kernel_rfl)
def bf5:List (Ent prog):=⟨_,_,_,_,bri⟩ :: bex
theorem bq7:Con prog 282 [bew,.lst 14 [.agg [.v (.bool false),.lst 1 [],.lst 1 [],.v (.bool false),.lst 1 [],.lst 1 [],.lst 3 [.agg [.v (.bool false),.lst 1 [.v (.int .u32 3)],.lst 1 [.v (.int .u32 1)]]],.lst 3 [],.v (.bool false),.lst 1 [.v (.int .u32 5)],.lst 1 [.v (.int .u32 1)],.v (.bool false),.lst 1 [],.lst 1 []],.agg [.v (.bool false),.lst 1 [],.lst 1 [],.v (.bool false),.lst 1 [],.lst 1 [],.lst 3 [.agg [.v (.bool false),.lst 1 [.v (.int .u32 4)],.lst 1 [.v (.int .u32 1)]]],.lst 3 [],.v (.bool false),.lst 1 [.v (.int .u32 6)],.lst 1 [.v (.int .u32 1)],.v (.bool false),.lst 1 [],.lst 1 []]]] [] (.tup [.ms 300 3 0 1,.v .nilIface]) [(300,some (.row 3 [a53]))]:=ajk ⟨orF bf5 (orF [⟨32,[fb.av,fb.av],bl true,[],aar fb ad2⟩] (au5 (awt fb ad2 ajd))),feG prog,axl⟩ 6000 (base:=2000) (av:=[]) (by kernel_rfl)
def bgc:List (Ent prog):=⟨_,_,_,_,bq7⟩ :: bf5
theorem bpw:Con prog 133 [ai6,.v (.int .i64 1),.agg [.v (.bool false),.v (.slice none 0 0),.v (.slice none 0 0),.v (.bool false)],.agg [.v (.slice none 0 0),.lst 4 [auk,be5,.agg [.v (.slice none 0 0),.v (.slice none 0 0),.v (.slice none 0 0),.v (.slice none 0 0)],.agg [.v (.slice none 0 0),.v (.slice none 0 0),.v (.slice none 0 0),.v (.slice none 0 0)]],.lst 1 [.v (.int .i64 1)]]] [] (.tup [.ms 300 3 0 1,.v .nilIface]) [(300,some (.row 3 [a53]))]:=ajk ⟨orF bgc (orF [⟨32,[fb.av,fb.av],bl true,[],aar fb ad2⟩] (au5 (awt fb ad2 ajd))),feG prog,axl⟩ 6000 (base:=2000) (av:=[]) (by kernel_rfl)
def bf8:List (Ent prog):=⟨_,_,_,_,bpw⟩ :: bgc
theorem bqa:Con prog 214 [.lst 3 [.agg [.v (.bool false),.lst 1 [.v (.int .u32 1)],.lst 1 [.v (.int .u32 1)]]]] [] (.ms 300 3 0 1) [(300,some (.row 3 [.agg [.v (.bool false),.lst 1 [.v (.int .u32 1)],.lst 1 [.v (.int .u32 1)]]]))]:=ajk ⟨orF bf8 (orF [⟨32,[fb.av,fb.av],bl true,[],aar fb ad2⟩] (au5 (awt fb ad2 ajd))),feG prog,axl⟩ 6000 (base:=2000) (av:=[]) (by kernel_rfl)
def bff:List (Ent prog):=⟨_,_,_,_,bqa⟩ :: bf8
theorem bq1:Con prog 214 [.v (.slice none 0 0)] [] (.v (.slice none 0 0)) []:=ajk ⟨orF bff (orF [⟨32,[fb.av,fb.av],bl true,[],aar fb ad2⟩] (au5 (awt fb ad2 ajd))),feG prog,axl⟩ 6000 (base:=2000) (av:=[]) (by kernel_rfl)
def bgj:List (Ent prog):=⟨_,_,_,_,bq1⟩ :: bff
theorem bpr:Con prog 214 [.lst 3 []] [] (.v (.slice none 0 0)) []:=ajk ⟨orF bgj (orF [⟨32,[fb.av,fb.av],bl true,[],aar fb ad2⟩] (au5 (awt fb ad2 ajd))),feG prog,axl⟩ 6000 (base:=2000) (av:=[]) (by kernel_rfl)
def bga:List (Ent prog):=⟨_,_,_,_,bpr⟩ :: bgj
theorem bpe:Con prog 214 [.lst 3 [.agg [.v (.bool true),.lst 1 [.v (.int .u32 1)],.lst 1 [.v (.int .u32 1)]]]] [] (.ms 300 3 0 1) [(300,some (.row 3 [.agg [.v (.bool true),.lst 1 [.v (.int .u32 1)],.lst 1 [.v (.int .u32 1)]]]))]:=ajk ⟨orF bga (orF [⟨32,[fb.av,fb.av],bl true,[],aar fb ad2⟩] (au5 (awt fb ad2 ajd))),feG prog,axl⟩ 6000 (base:=2000) (av:=[]) (by kernel_rfl)
def bgh:List (Ent prog):=⟨_,_,_,_,bpe⟩ :: bga
theorem bpu:Con prog 214 [.lst 3 [.agg [.v (.bool false),.lst 1 [.v (.int .u32 3)],.lst 1 [.v (.int .u32 1)]]]] [] (.ms 300 3 0 1) [(300,some (.row 3 [.agg [.v (.bool false),.lst 1 [.v (.int .u32 3)],.lst 1 [.v (.int .u32 1)]]]))]:=ajk ⟨orF bgh (orF [⟨32,[fb.av,fb.av],bl true,[],aar fb ad2⟩] (au5 (awt fb ad2 ajd))),feG prog,axl⟩ 6000 (base:=2000) (av:=[]) (by kernel_rfl)
def bf3:List (Ent prog):=⟨_,_,_,_,bpu⟩ :: bgh
theorem bkr:Con prog 214 [.lst 3 [.agg [.v (.bool false),.lst 1 [.v (.int .u32 4)],.lst 1 [.v (.int .u32 1)]]]] [] (.ms 300 3 0 1) [(300,some (.row 3 [.agg [.v (.bool false),.lst 1 [.v (.int .u32 4)],.lst 1 [.v (.int .u32 1)]]]))]:=ajk ⟨orF bf3 (orF [⟨32,[fb.av,fb.av],bl true,[],aar fb ad2⟩] (au5 (awt fb ad2 ajd))),feG prog,axl⟩ 6000 (base:=2000) (av:=[]) (by kernel_rfl)
def a7c:List (Ent prog):=⟨_,_,_,_,bkr⟩ :: bf3
theorem bmg:Con prog 30 [ai6,.lst 4 [.agg [.v (.bool false),.v (.slice none 0 0),.v (.slice none 0 0),.v (.bool false)]],.lst 1 [.v (.int .i64 1),.v (.int .i64 0)]] [] (.tup [ap1,.v .nilIface]) []:=ajk ⟨orF a7c (orF [⟨32,[fb.av,fb.av],bl true,[],aar fb ad2⟩] (au5 (awt fb ad2 ajd))),feG prog,axl⟩ 6000 (base:=2000) (av:=[]) (by kernel_rfl)
def a8i:List (Ent prog):=⟨_,_,_,_,bmg⟩ :: a7c
theorem bob:Con prog 157 [ai6,.lst 4 [.agg [.v (.bool false),.v (.slice none 0 0),.v (.slice none 0 0),.v (.bool false)]],ap1] [] (.agg [.v (.int .i64 0),.v (.int .i64 0)]) []:=ajk ⟨orF a8i (orF [⟨32,[fb.av,fb.av],bl true,[],aar fb ad2⟩] (au5 (awt fb ad2 ajd))),feG prog,axl⟩ 6000 (base:=2000) (av:=[]) (by kernel_rfl)
def a6n:List (Ent prog):=⟨_,_,_,_,bob⟩ :: a8i
theorem bkz:Con prog 39 [ai6,.v (.int .i64 0),ap1] [] (.tup [.lst 3 [.agg [.v (.bool false),.lst 1 [.v (.int .u32 1)],.lst 1 [.v (.int .u32 1)]]],.v .nilIface]) []:=ajk ⟨orF a6n (orF [⟨32,[fb.av,fb.av],bl true,[],aar fb ad2⟩] (au5 (awt fb ad2 ajd))),feG prog,axl⟩ 6000 (base:=2000) (av:=[]) (by kernel_rfl)
def a93:List (Ent prog):=⟨_,_,_,_,bkz⟩ :: a6n
theorem bom:Con prog 39 [ai6,.v (.int .i64 1),ap1] [] (.tup [.lst 3 [],.v .nilIface]) []:=ajk ⟨orF a93 (orF [⟨32,[fb.av,fb.av],bl true,[],aar fb ad2⟩] (au5 (awt fb ad2 ajd))),feG prog,axl⟩ 6000 (base:=2000) (av:=[]) (by kernel_rfl)
def a5k:List (Ent prog):=⟨_,_,_,_,bom⟩ :: a93
theorem bn8:Con prog 9 [ai6,.lst 4 [.agg [.v (.bool false),.v (.slice none 0 0),.v (.slice none 0 0),.v (.bool false)]],ap1] [] (.tup [.ms 300 1 0 2,.v .nilIface]) [(300,some (.row 1 [.v (.int .i64 1),.v (.int .i64 0)]))]:=ajk ⟨orF a5k (orF [⟨32,[fb.av,fb.av],bl true,[],aar fb ad2⟩] (au5 (awt fb ad2 ajd))),feG prog,axl⟩ 6000 (base:=2000) (av:=[]) (by kernel_rfl)
def bil:List (Ent prog):=⟨_,_,_,_,bn8⟩ :: a5k
theorem aqj:FnC prog 6 [] (bl true):=ajk ⟨orF bil (orF [⟨32,[fb.av,fb.av],bl true,[],aar fb ad2⟩] (au5 (awt fb ad2 ajd))),feG prog,axl⟩ 6000 (base:=2000) (av:=[]) (by kernel_rfl)
end Go.Lw
namespace Go.Lw
open Go.Proofs
theorem bme {a:As} (h:be7 a = true):a.ms.length <= 20 /\ a.rs.length <= 2:=by
 unfold be7 at h
 simp only [and_eq_true,decide_eq_true_eq] at h
 exact ⟨h.2.1.2,h.2.2.2⟩
theorem a7x (l:Li) (hw:l.okw) (xs:List Tn) (hxw:∀ x ∈ xs, x.t.wok) (hxl:xs.length <= 281474976710656) (a:As) (ha:a.ok):FnC prog 3 [l.av, .lst 4 (xs.map Tn.av), a.av] (bl true):=by
 refine gF0 func3 ?_
 refine gc aqj ?_
 refine gcG (fun _=>(ays l hw xs hxl)) ?_
 refine gcG (fun _=>(a0a a ha)) ?_
 refine gC (fun ht26=>?_) (fun ht26=>?_)
 ·refine gc aqj ?_
  refine gE1 ?_
  first | rfl | (simp; done)
 ·obtain ⟨h1, h2⟩:=brh ht26
  obtain ⟨h3,h4,h5⟩:=a97 h1
  rw [all_eq_true] at h5
  have hl:=bh0 h3 hw
  have hxs:∀ x ∈ xs,x.t.ok /\ Qb 1000 x.t.q:=fun x hx=>bms (h5 x hx) (hxw x hx)
  have al:=bmw (bmb h2) ha
  obtain ⟨hml,hrl⟩:=bme h2
  refine gc (amw l hl xs hxs hxl a al) ?_
  refine gc (arm l hl xs hxs hxl a al hml (by omega)) ?_
  refine gc (aqc l hl xs hxs hxl a al) ?_
  refine gc (a3d l hl xs hxs hxl a al) ?_
  refine gC (fun ht56=>?_) (fun ht56=>?_)
  ·have h7:acE l xs a ≠ 0:=af2 ht56
   rw [if_neg h7,if_neg h7]
   refine gl ?_
   refine gl ?_
   refine ga (acs (by decide) (by decide)) ?_
   refine gl ?_
   refine ga (acs (by decide) (by decide)) ?_
   refine ga (acs (by decide) (by decide)) ?_
   refine gcG (fun _=>(amu (acE l xs a))) ?_
   refine gcG (fun _=>(amu (acE l xs a))) ?_
   refine gcG (fun _=>(amu (acE l xs a))) ?_
   refine gE1 ?_
   simp [aaa]; rfl
  ·have h7:acE l xs a = 0:=af4 ht56
   obtain ⟨g1,g2,g3,g4⟩:=bot h7
   have hg:=ata hl g1 al g4
   have hgl:=a49 g1
   rw [if_pos h7,if_pos h7,h7]
   refine gcG (fun _=>(bcx hg g2)) ?_
   refine gcG (fun _=>(an6 ((List.range (splitG l).length).map (a2v l a)) (by rw [length_map,List.length_range]; omega))) ?_
   refine gcG (fun _=>(ats hg g2 hml)) ?_
   refine gcG (fun _=>(a0k hg hml)) ?_
   refine gD ?_
   refine gE1 ?_
   rfl
end Go.Lw
namespace Go.Lw
open Go.Proofs Go.Proofs.YtkmgmddcmmadjaaGreat
open Go.ChangeShapes Go.WideShapes Go.ChangeAt Go.RowKit
set_option maxRecDepth 100000 in
theorem aqn (os:Os) (started:os.Started) (H:Type) (enc:TypeId × Value -> H) :
  ReturnsInHanded {} Tryz.checked os 3 .any (Rows.modesAreSpec.pre6 enc prog Tryz.f3 Rows.modesAreRow.domain false) (Rows.modesAreSpec.post enc prog Tryz.f3 false true false false):=by
 refine returnsInHanded_of_change_sized (C := Tryz.checked) own started (by kernel_rfl) func3
  (ChangeSpec.witness6 (enc:=enc) (C:=Tryz.checked) false ⟨#[],#[.agg #[.string ⟨#[]⟩,.slice none 0 0,.slice none 0 0,.slice none 0 0],.slice none 0 0,.agg #[.slice none 0 0,.slice none 0 0,.slice none 0 0]],[]⟩ 8 (by kernel_rfl) (by kernel_rfl) (by kernel_rfl) (by kernel_rfl)) ?_
 intro W base args ds gs before hval0 hW hcnd hwt0 _
 have hval:∀ (j:Nat) t v,Tryz.f3.params[j]? = some t -> args[j]? = some v -> Value.okWide prog W .any base t v:=hval0
 have hwt:(DataW.weightsEach prog (Tryz.f3.params.toList ++ Rows.modesAreSpec.plain.varTypes prog) (ds ++ gs)).all (· <= reachBytes) = true:=hwt0
 have hW':=hW
 obtain ⟨p,q,hA0,hV,rfl,hfz,hnd⟩:=hW
 have hA:DataW.TrodAll enc prog W 0 (fun _=>true) true Tryz.f3.params.toList args.toList ds p:=hA0
 rw [Tryz.params3] at hA hval hwt
 obtain ⟨v0,v1,v2,d0,d1,d2,p0,p1,p2,rfl,rfl,rfl,h0,h1,h2⟩:=trodAll_three hA
 obtain ⟨rfl,rfl⟩:=trodVars_none hV
 clear hA0 hval0 hwt0
 have hlt:∀ x ∈ p0 ++ p1 ++ p2,x.block < W.heap.size:=fun x hx=>hW'.lt x (by simpa using hx)
 have hw0:∀ n ∈ d0.weights prog 26, n <= reachBytes:=fun n hn=>by
  have:=List.all_eq_true.1 hwt n (DataW.weights_mem_each (j:=0) rfl rfl n hn)
  simpa using this
 have hw1:∀ n ∈ d1.weights prog 27, n <= reachBytes:=fun n hn=>by
  have:=List.all_eq_true.1 hwt n (DataW.weights_mem_each (j:=1) rfl rfl n hn)
  simpa using this
 have hw2:∀ n ∈ d2.weights prog 34, n <= reachBytes:=fun n hn=>by
  have:=List.all_eq_true.1 hwt n (DataW.weights_mem_each (j:=2) rfl rfl n hn)
  simpa using this
 obtain ⟨x0,q0,r0⟩:=a7d Tryz.underlying26 bg2 (hval 0 26 v0 rfl rfl) h0 hw0
 obtain ⟨x1,q1,r1⟩:=bh6 bbv (fun _=>rfl) (av6 Tryz.underlying27 (hval 1 27 v1 rfl rfl)) h1 hw1
 obtain ⟨x2,q2,r2⟩:=a7d Tryz.underlying34 bm4 (hval 2 34 v2 rfl rfl) h2 hw2
 have hc:=FnC.calls (W:=W) (vs:=#[v0, v1, v2]) (a7x x0 q0 x1 q1.1 q1.2 x2 q2) rfl (fun j v x hv hx=>by
  match j,hv,hx with
  | 0,hv,hx=>cases hv; cases hx; exact r0
  | 1,hv,hx=>cases hv; cases hx; exact r1
  | 2,hv,hx=>cases hv; cases hx; exact r2)
 refine hc.mono fun e W' ⟨he,hb⟩=>?_
 subst he
 refine ⟨_,rfl,auw hW' rfl rfl (fun _ _ _=>trodAll_mk1 (shut_bool Tryz.underlying4 _)) (fun sp hsp=>?_) rfl hb (ok_one (by kernel_rfl) rfl (okWide_bool_mk Tryz.underlying4 _))⟩
 rw [Tryz.params3]
 have hs:∀ x ∈ p0 ++ p1 ++ p2,sp x.block = true:=fun x hx=>hsp x (by simpa using hx)
 have g0:=at6 (sp':=sp) (by kernel_rfl) (of_decide_eq_true (by kernel_rfl)) h0 hb (fun x hx=>hlt x (by simp [hx])) (fun x hx=>hs x (by simp [hx]))
 have g1:=at6 (sp':=sp) (by kernel_rfl) (of_decide_eq_true (by kernel_rfl)) h1 hb (fun x hx=>hlt x (by simp [hx])) (fun x hx=>hs x (by simp [hx]))
 have g2:=at6 (sp':=sp) (by kernel_rfl) (of_decide_eq_true (by kernel_rfl)) h2 hb (fun x hx=>hlt x (by simp [hx])) (fun x hx=>hs x (by simp [hx]))
 have g:=trodAll_mk3 g0 g1 g2
 rw [show p0 ++ p1 ++ p2 ++ [] = p0 ++ (p1 ++ p2) from by simp]
 exact g
set_option maxRecDepth 100000 in
theorem axq:prog.closure 3 = [3,6,29,60,129,189,269,324,377,263,266,265,326,381,327,272,262,325,378,383,380,330,379,329,328,382,395,331,30,61,80,155,65,138,222,290,291,358,139,212,273,228,232,297,294,298,360,361,318,362,363,359,364,365,230,221,220,274,227,231,140,223,224,292,143,226,296,141,240,300,366,389,368,392,393,391,301,367,390,370,369,302,156,241,130,179,131,62,64,137,144,145,229,293,295,136,142,225,120,180,201,202,63,132,213,214,134,133,82,158,178,96,181,121,203,204,205,206,122,123,69,159,252,308,160,254,319,253,309,315,376,310,371,311,372,373,312,374,375,394,313,314,316,317,161,95,215,275,334,258,384,396,397,276,162,173,94,86,164,166,165,256,56,320,255,321,257,322,171,167,170,277,177,259,91,168,197,174,87,288,357,388,88,169,85,335,278,216,84,163,175,279,336,385,337,281,280,338,349,350,351,40,339,386,172,352,347,343,353,344,340,341,342,387,345,346,348,286,355,356,282,289,217,90,92,283,218,93,176,89,284,354,285,287,135,219,9,38,81,157,243,244,303,304,57,245,242,247,248,305,306,307,196,246,250,251,249,39,83,31,66,67,68,14,32,70,146,233,7,33,34,71,147,235,234,236,72,148,182,260,261,323,267,73,149,150,237,192,210,264,188,268,332,183,74,35,75,151,76,152,238,153,239,299,154,36,77,8,37,78,79,10,41,11,12,42,97,43,98,110,194,207,125,195,271,208,209,211,190,126,127,184,124,99,108,59,128,118,200,109,101,27,58,185,47,100,186,198,199,53,48,111,52,187,119,106,105,44,104,102,193,191,270,333,103,13,15,45,51,114,115,116,117,107,17,16,46]:=by kernel_rfl
theorem aro:joinedFacts prog 3 Tryz.f3 Rows.modesAreSpec Rows.modesAreRow = true:=by
 unfold joinedFacts Program.recurses Program.inPlace Program.unfollowed Program.varsNamed
 rw [axq,a7v,bd3,bco,biv,bcj,bbs]
 kernel_rfl
theorem modesAre_holds:Rows.ModesAreSaid :=
 OpenClaim.holds_of_wide 3 Tryz.f3 rfl rfl rfl rfl rfl rfl rfl ⟨rfl, rfl, rfl, rfl, rfl⟩ rfl rfl rfl rfl rfl (by kernel_rfl) func3 aro
  (of_decide_eq_true (by kernel_rfl)) (by unfold Func.isWrapper; first | (rw [if_pos (by decide +kernel)]; kernel_rfl) | (rw [if_neg (by decide +kernel)]; exact ⟨rfl,rfl⟩))
  (fun os started H enc _=>aqn os started H enc)
end Go.Lw
namespace Go.Proofs.YtkmgmddcmmadjaaGreat
theorem modesAre_proved:Rows.ModesAreSaid:=Go.Lw.modesAre_holds
end Go.Proofs.YtkmgmddcmmadjaaGreat
