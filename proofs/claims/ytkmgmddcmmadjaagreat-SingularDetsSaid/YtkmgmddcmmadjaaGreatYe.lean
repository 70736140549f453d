/- SingularDets: for any linkage, any turns and any assembly the law returns true and leaves its arguments as they were. No other condition. Part 5 of 7: what the later parts need -/
import Derived.Test.YtkmgmddcmmadjaaGreatYd
import Derived.Test.YtkmgmddcmmadjaaGreatRows
set_option linter.unusedVariables false
open List (mem_of_getElem? mem_cons_of_mem mem_append map_cons mem_cons length_cons mem_cons_self length_append length_nil getD_eq_getElem?_getD all_eq_true getElem?_eq_getElem nil_append map_append length_take take_of_length_le length_map drop_zero take_length not_mem_nil map_take all_append length_set)
open Nat (le_refl lt_or_ge le_trans zero_le)
open Option (map_eq_some_iff)
open Bool (and_eq_true or_eq_true)
open Int (toNat_natCast)
open Go.Proofs.Tryz
namespace Go.Lw
open Go.Proofs
theorem af8 (rs:List (List Rt)) (r:Nat) (h:TR rs r):FnC prog 158 [ae2 rs] (ahr (ad7 rs)):=by
 have hll:=h.ll
 have hr:=h.le
 refine gF0 func158 ?_
 refine gl ?_
 refine gC (fun ht10=>?_) (fun ht10=>?_)
 ·have h5 : 5 < rs.length := by have := ht10; simp only [aab, decide_eq_true_eq] at this; omega
  refine gE1 ?_
  rw [a06 h5]; rfl
 ·have h5 : rs.length <= 5 := by have := ht10; simp only [aab, decide_eq_false_iff_not] at this; omega
  refine gl ?_
  refine gL1 [1,13,14] [1] (fun (k:Nat)=>[(15,some (i64 k))]) (fun _=>[]) (fun k=>k <= rs.length /\ ∀ j,j < k -> azc rs j) (fun k=>rs.length - k) 0 ⟨zero_le _,fun j hj=>by omega⟩ ?_
  rintro k ⟨hk,hj⟩ K1 hK1
  refine gC (fun ht16=>?_) (fun ht16=>?_)
  ·have hin : k < rs.length := by simpa [aab] using ht16
   obtain ⟨d,hd⟩:=ab0 hin
   have hdm:=mem_of_getElem? hd
   have hdl:=h.len d hdm
   refine gi (aaf hd) ?_
   refine gl ?_
   refine gs (ag5 (.const _) (.tmp rfl) (by omega) (aj2 (by omega)) rfl) ?_
   refine gC (fun ht24=>?_) (fun ht24=>?_)
   ·have h1 : d.length ≠ 2 ^ k := by have := ht24; simp only [aab, bne_iff_ne, ne_eq] at this; omega
    refine gE1 ?_
    rw [a2j h5 hd hj h1]; rfl
   ·have h1 : d.length = 2 ^ k := by have := ht24; simp only [aab, bne_eq_false_iff_eq] at this; omega
    have htl:(rs.take k).length = k:=by simp; omega
    have hnu:=akr (rs.take k) d (h.ok d hdm) hdl (by omega)
    rw [htl] at hnu
    refine gs (aar (.tmp rfl) (.none _) (.some _ (.tmp rfl) (by omega)) T28 rfl T65 rfl (by omega) (by simp only [length_map]; omega) rfl) ?_ (9,0)
    refine gW (Wk.of (sl:=[(1,some (.ptr 1 0)),(3,some (i64 k)),(4,some (nR d)),(5,some (.ptr 5 0)),(13,some (.lst 1 (rs.map nR))),(14,some (i64 rs.length)),(15,some (i64 k))]) (hp:=[(1,some (.box [.lst 1 (rs.map nR)])),(5,some (.box [.lst 1 ((rs.take k).map nR)]))]) abz (.cons rfl (.refl _) (.cons rfl (BlkSub.boxL (.cons (.of (bem nR rs k)) .nil) rfl) .nil))) ?_
    refine gc hnu ?_
    refine gC (fun ht35=>?_) (fun ht35=>?_)
    ·have h2:=acu ht35
     refine gE1 ?_
     rw [a1f h5 hd hj h1 h2]
    ·have h2:=acs ht35
     have hts:=ax3 (ts:=llq rs) (fun j hjk=>(hj j hjk).nl) h.rb
     have hq:=at3 h2 (h.ok d hdm)
     have hcb:Cb r (lq d):=by have:=h.rb.cb k; rw [ami,getD_eq_getElem?_getD,hd] at this; exact this
     have hsg:FnC prog 96 [ae2 (rs.take k), nR d] (i64 (T.sgn (aas (llq rs)) k (dec k (lq d)))):=by
      have h9:=ajs ((llq rs).take k) k r hts (by omega) (by simp; omega) k (lq d) r (le_refl _) hq.2 hcb (a2v (le_refl k) (by have:=h.three; omega) hr (by have:=adm k; omega))
      rw [T.sgn_congr k (fun j hjk=>agi hjk)] at h9
      rw [a70 h.ok (by omega) hj,hq.1,af0]
      rw [<- hq.1]; exact h9
     refine gc hsg ?_
     refine gC (fun ht40=>?_) (fun ht40=>?_)
     ·have h3 : T.sgn (aas (llq rs)) k (dec k (lq d)) < 0 := by simpa [aab] using ht40
      refine gE1 ?_
      rw [a12 h5 hd hj h1 h2 h3]; rfl
     ·have h3 : ¬ T.sgn (aas (llq rs)) k (dec k (lq d)) < 0 := by simpa [aab] using ht40
      refine ga aao ?_
      exact gK1 hK1 (k + 1) ⟨hin,fun j hjk=>by rcases lt_or_ge j k with h9 | h9; exact hj j h9; (have:j = k:=by omega); subst this; exact a5w hd h1 h2 h3⟩
  ·have hin : k = rs.length := by have : rs.length <= k := (by simpa [aab] using ht16); omega
   subst hin
   refine gE1 ?_
   rw [a16 h5 hj]; rfl
theorem acp (rs:List (List Rt)) (r:Nat) (h:TR rs r) (xs:List (List Rt)) (hx:∀ a ∈ xs, (∀ x ∈ a, x.ok) /\ a.length <= 281474976710656) (hl:xs.length <= 281474976710656):FnC prog 95 [ae2 rs, .lst 1 (xs.map nR)] (ahr (aa0 rs xs)):=by
 refine gF0 func95 ?_
 refine gc (af8 rs r h) ?_
 refine gC (fun ht12=>?_) (fun ht12=>?_)
 ·have h1:=acu ht12
  refine gE1 ?_
  rw [aub h1]
 ·have h1:=acs ht12
  refine gl ?_
  refine gL1 [2,14,15] [2] (fun (i:Nat)=>[(16,some (i64 i))]) (fun _=>[]) (fun i=>i <= xs.length /\ ∀ x ∈ xs.take i,agh rs.length x = 0) (fun i=>xs.length - i) 0 ⟨zero_le _,fun x hx=>by simp at hx⟩ ?_
  rintro i ⟨hi,hj⟩ K1 hK1
  refine gC (fun ht17=>?_) (fun ht17=>?_)
  ·have hin : i < xs.length := by simpa [aab] using ht17
   obtain ⟨a,ha⟩:=ab0 hin
   have hok:=hx a (mem_of_getElem? ha)
   refine gi (aaf ha) ?_
   refine gc (akr rs a hok.1 hok.2 h.ll) ?_
   refine gC (fun ht24=>?_) (fun ht24=>?_)
   ·have h2:=acu ht24
    refine gE1 ?_
    rw [ap4 h1 ha hj h2]
   ·have h2:=acs ht24
    refine ga aao ?_
    exact gK1 hK1 (i + 1) ⟨hin,fun x hx=>by rw [aaq ha] at hx; rcases List.mem_append.1 hx with h9 | h9; exact hj x h9; (rw [List.mem_singleton.1 h9]; exact h2)⟩
  ·have hin : i = xs.length := by have : xs.length <= i := (by simpa [aab] using ht17); omega
   subst hin
   rw [take_length] at hj
   refine gE1 ?_
   rw [ai4 h1 hj]; rfl
theorem aus (rs:List (List Rt)) (r:Nat) (h:TR rs r) (a:List Rt) (e:Nat) (ha:NR a e):FnC prog 303 [ae2 rs, nR a] (bl (decide (aa0 rs [a] = 0))):=by
 refine gF0 func303 ?_
 refine gc (acp rs r h [a] (fun x hx=>by rw [List.mem_singleton.1 hx]; exact ⟨ha.ok,ha.len⟩) (by simp)) ?_
 refine gE1 ?_
 rw [ame]; rfl
theorem arc (rs:List (List Rt)) (r:Nat) (h:TR rs r) (a:List Rt) (e:Nat) (ha:NR a e) (he:e <= lm rs.length) :
  FnC prog 161 [ae2 rs,nR a] (.tup [nA (if aa0 rs [a] = 0 then sh rs.length (T.neg rs.length (dec rs.length (lq a))) else []),ahr (aa0 rs [a])]):=by
 have hlm:=alh rs.length
 refine gF0 func161 ?_
 refine gc (acp rs r h [a] (fun x hx=>by rw [List.mem_singleton.1 hx]; exact ⟨ha.ok,ha.len⟩) (by simp)) ?_
 refine gC (fun ht12=>?_) (fun ht12=>?_) (st2:=(77777,0))
 ·have h1:=acu ht12
  refine gR ?_
  exact ac3 (by rw [if_neg h1]; exact Sub.tup (.cons (.nil _ _ _) (.cons (.refl _) .nil)))
 ·have h1:=acs ht12
  obtain ⟨h2,h3⟩:=adp h1
  obtain ⟨tw,_⟩:=ab3 h h2
  obtain ⟨e1,na⟩:=ha.num (h3 a (by simp))
  have h5:rs.length <= 5:=by have:=tw.five; rwa [length_map] at this
  have hl:=na.len5 h5
  have qa:∀ q ∈ lq a,Qs q:=fun q hq=>ha.cb.qs (by omega) hq
  have qm:∀ q ∈ acd (lq a),Qs q:=fun q hq=>ha.cb.minus.qs (by omega) hq
  have nm:=ag8 na
  refine gW (Wk.of (sl:=[(1,some (nA (lq a))),(2,some (.ptr 2 0)),(6,some (ahr (aa0 rs [a])))]) (hp:=[(2,some (.box [.lst 1 (rs.map nR)]))]) (.cons rfl (Sub.of e1) (.k (.k .nil))) (.cons rfl (.refl _) .nil)) ?_
  refine gc (af7 _ qa (by omega)) ?_
  refine gc (ad0 _ h5 nm qm) ?_
  refine gE2 ?_
  rw [if_pos h1,h1,aey]; rfl
theorem az8 (rs:List (List Rt)) (r:Nat) (h:TR rs r) (a b:List Rt) (e f:Nat) (ha:NR a e) (hb:NR b f) (he:e + f <= lm rs.length) :
  FnC prog 322 [ae2 rs,nR a,nR b] (.tup [nA (if aa0 rs [a,b] = 0 then sh rs.length (T.add rs.length (dec rs.length (lq a)) (dec rs.length (lq b))) else []),ahr (aa0 rs [a,b])]):=by
 have hlm:=alh rs.length
 refine gF0 func322 ?_
 refine gc (acp rs r h [a,b] (aoe ha hb) (by simp)) ?_
 refine gC (fun ht15=>?_) (fun ht15=>?_) (st2:=(77777,0))
 ·have h1:=acu ht15
  refine gR ?_
  exact ac3 (by rw [if_neg h1]; exact Sub.tup (.cons (.nil _ _ _) (.cons (.refl _) .nil)))
 ·have h1:=acs ht15
  obtain ⟨h2,h3⟩:=adp h1
  obtain ⟨tw,e0⟩:=ab3 h h2
  obtain ⟨e1,na⟩:=ha.num (h3 a (by simp))
  obtain ⟨e2,nb⟩:=hb.num (h3 b (by simp))
  have h5:rs.length <= 5:=by have:=tw.five; rwa [length_map] at this
  have hla:=na.len5 h5
  have hlb:=nb.len5 h5
  have qa:∀ q ∈ lq a,Qs q:=fun q hq=>ha.cb.qs (by omega) hq
  have qb:∀ q ∈ lq b,Qs q:=fun q hq=>hb.cb.qs (by omega) hq
  have qp:∀ q ∈ acz (lq a) (lq b),Qs q:=fun q hq=>(ha.cb.plus hb.cb).qs (by omega) hq
  have np:=aih na nb
  refine gW (Wk.of (sl:=[(1,some (nA (lq a))),(2,some (nA (lq b))),(3,some (.ptr 3 0)),(8,some (ahr (aa0 rs [a,b])))]) (hp:=[(3,some (.box [.lst 1 (rs.map nR)]))]) (.cons rfl (Sub.of e1) (.cons rfl (Sub.of e2) (.k (.k .nil)))) (.cons rfl (.refl _) .nil)) ?_
  refine gc (aem _ _ qa qb (by omega) (by omega)) ?_
  refine gc (ad0 _ h5 np qp) ?_
  refine gE2 ?_
  rw [if_pos h1,h1,adc]; rfl
theorem azr (rs:List (List Rt)) (r:Nat) (h:TR rs r) (a b:List Rt) (e f:Nat) (ha:NR a e) (hb:NR b f) (he:e + f <= lm rs.length) :
  FnC prog 321 [ae2 rs,nR a,nR b] (.tup [nA (if aa0 rs [a,b] = 0 then sh rs.length (T.add rs.length (dec rs.length (lq a)) (T.neg rs.length (dec rs.length (lq b)))) else []),ahr (aa0 rs [a,b])]):=by
 have hlm:=alh rs.length
 refine gF0 func321 ?_
 refine gc (acp rs r h [a,b] (aoe ha hb) (by simp)) ?_
 refine gC (fun ht15=>?_) (fun ht15=>?_) (st2:=(77777,0))
 ·have h1:=acu ht15
  refine gR ?_
  exact ac3 (by rw [if_neg h1]; exact Sub.tup (.cons (.nil _ _ _) (.cons (.refl _) .nil)))
 ·have h1:=acs ht15
  obtain ⟨h2,h3⟩:=adp h1
  obtain ⟨tw,e0⟩:=ab3 h h2
  obtain ⟨e1,na⟩:=ha.num (h3 a (by simp))
  obtain ⟨e2,nb⟩:=hb.num (h3 b (by simp))
  have h5:rs.length <= 5:=by have:=tw.five; rwa [length_map] at this
  have hla:=na.len5 h5
  have hlb:=nb.len5 h5
  have qa:∀ q ∈ lq a,Qs q:=fun q hq=>ha.cb.qs (by omega) hq
  have qb:∀ q ∈ lq b,Qs q:=fun q hq=>hb.cb.qs (by omega) hq
  have qm:∀ q ∈ acd (lq b),Qs q:=fun q hq=>hb.cb.minus.qs (by omega) hq
  have qp:∀ q ∈ acz (lq a) (acd (lq b)),Qs q:=fun q hq=>(ha.cb.plus hb.cb.minus).qs (by omega) hq
  have np:=aih na (ag8 nb)
  refine gW (Wk.of (sl:=[(1,some (nA (lq a))),(2,some (nA (lq b))),(3,some (.ptr 3 0)),(8,some (ahr (aa0 rs [a,b])))]) (hp:=[(3,some (.box [.lst 1 (rs.map nR)]))]) (.cons rfl (Sub.of e1) (.cons rfl (Sub.of e2) (.k (.k .nil)))) (.cons rfl (.refl _) .nil)) ?_
  refine gc (af7 _ qb (by omega)) ?_
  refine gc (aem _ _ qa qm (by omega) (by rw [acy]; omega)) ?_
  refine gc (ad0 _ h5 np qp) ?_
  refine gE2 ?_
  rw [if_pos h1,h1,adc,aey]; rfl
theorem azw (rs:List (List Rt)) (r:Nat) (h:TR rs r) (a b:List Rt) (e f:Nat) (ha:NR a e) (hb:NR b f) (he:e + f <= lm rs.length) :
  FnC prog 56 [ae2 rs,nR a,nR b] (.tup [nA (if aa0 rs [a,b] = 0 then sh rs.length (T.mul (aas (llq rs)) rs.length (dec rs.length (lq a)) (dec rs.length (lq b))) else []),ahr (aa0 rs [a,b])]):=by
 have hr:=h.le
 have hlm:=alh rs.length
 refine gF0 func56 ?_
 refine gc (acp rs r h [a,b] (aoe ha hb) (by simp)) ?_
 refine gC (fun ht15=>?_) (fun ht15=>?_) (st2:=(77777,0))
 ·have h1:=acu ht15
  refine gR ?_
  exact ac3 (by rw [if_neg h1]; exact Sub.tup (.cons (.nil _ _ _) (.cons (.refl _) .nil)))
 ·have h1:=acs ht15
  obtain ⟨h2,h3⟩:=adp h1
  obtain ⟨tw,e0⟩:=ab3 h h2
  obtain ⟨e1,na⟩:=ha.num (h3 a (by simp))
  obtain ⟨e2,nb⟩:=hb.num (h3 b (by simp))
  have hlen:(llq rs).length = rs.length:=length_map _
  have h5:rs.length <= 5:=by have:=tw.five; omega
  have hla:=na.len5 h5
  have hlb:=nb.len5 h5
  have htw:=tw.ok
  rw [hlen] at htw
  have hE:=a99 r h5
  have np:=aeg (llq rs) rs.length htw.1 rs.length rs.length _ _ (le_refl _) (le_refl _) na nb
  have cp:=Cb.mul htw (k:=rs.length) (le_refl rs.length) (le_refl _) na nb ha.cb hb.cb
  have hti:=af9 (llq rs) rs.length r htw h5 (by omega) rs.length rs.length _ _ e f (le_refl _) (le_refl _) na nb ha.cb hb.cb (by omega)
  refine gW (Wk.of (sl:=[(1,some (nA (lq a))),(2,some (nA (lq b))),(3,some (.ptr 3 0)),(8,some (ahr (aa0 rs [a,b])))]) (hp:=[(3,some (.box [.lst 1 ((llq rs).map nA)]))]) (.cons rfl (Sub.of e1) (.cons rfl (Sub.of e2) (.k (.k .nil)))) (.cons rfl (BlkSub.boxL (.cons (.of (am2 e0)) .nil) rfl) .nil)) ?_
  refine gc hti ?_
  refine gc (ad0 _ h5 np.1 (fun q hq=>cp.qs (by omega) hq)) ?_
  refine gE2 ?_
  rw [if_pos h1,h1,np.2]; rfl
theorem apl (rs:List (List Rt)) (r:Nat) (h:TR rs r) (a b:List Rt) (e f:Nat) (ha:NR a e) (hb:NR b f) (he:e + f + 1 <= lm rs.length) :
  FnC prog 57 [ae2 rs,nR a,nR b] (.tup [i64 (if aa0 rs [a,b] = 0 then T.sgn (aas (llq rs)) rs.length (T.add rs.length (dec rs.length (lq a)) (T.neg rs.length (dec rs.length (lq b)))) else 0),ahr (aa0 rs [a,b])]):=by
 have hr:=h.le
 have hlm:=alh rs.length
 refine gF0 func57 ?_
 refine gc (acp rs r h [a,b] (aoe ha hb) (by simp)) ?_
 refine gC (fun ht15=>?_) (fun ht15=>?_) (st2:=(77777,0))
 ·have h1:=acu ht15
  refine gE2 ?_
  rw [if_neg h1]; rfl
 ·have h1:=acs ht15
  obtain ⟨h2,h3⟩:=adp h1
  obtain ⟨tw,e0⟩:=ab3 h h2
  obtain ⟨e1,na⟩:=ha.num (h3 a (by simp))
  obtain ⟨e2,nb⟩:=hb.num (h3 b (by simp))
  have hlen:(llq rs).length = rs.length:=length_map _
  have h5:rs.length <= 5:=by have:=tw.five; omega
  have hla:=na.len5 h5
  have hlb:=nb.len5 h5
  have htw:=tw.ok
  rw [hlen] at htw
  have qa:∀ q ∈ lq a,Qs q:=fun q hq=>ha.cb.qs (by omega) hq
  have qb:∀ q ∈ lq b,Qs q:=fun q hq=>hb.cb.qs (by omega) hq
  have qm:∀ q ∈ acd (lq b),Qs q:=fun q hq=>hb.cb.minus.qs (by omega) hq
  have np:=aih na (ag8 nb)
  have hsg:=ajs (llq rs) rs.length r htw h5 (by omega) rs.length _ _ (le_refl _) np (ha.cb.plus hb.cb.minus) (a2v (le_refl rs.length) (by have:=tw.three; omega) hr (by omega))
  refine gW (Wk.of (sl:=[(1,some (nA (lq a))),(2,some (nA (lq b))),(3,some (.ptr 3 0)),(8,some (ahr (aa0 rs [a,b])))]) (hp:=[(3,some (.box [.lst 1 ((llq rs).map nA)]))]) (.cons rfl (Sub.of e1) (.cons rfl (Sub.of e2) (.k (.k .nil)))) (.cons rfl (BlkSub.boxL (.cons (.of (am2 e0)) .nil) rfl) .nil)) ?_
  refine gc (af7 _ qb (by omega)) ?_
  refine gc (aem _ _ qa qm (by omega) (by rw [acy]; omega)) ?_
  refine gc hsg ?_
  refine gD ?_
  refine gE2 ?_
  rw [if_pos h1,h1,adc,aey]; rfl
theorem aw2 (rs:List (List Rt)) (r:Nat) (h:TR rs r) (a:List Rt) (e:Nat) (ha:NR a e) (he:e <= lm rs.length) :
  FnC prog 40 [ae2 rs,nR a] (.tup [i64 (if aa0 rs [a] = 0 then T.sgn (aas (llq rs)) rs.length (dec rs.length (lq a)) else 0),ahr (aa0 rs [a])]):=by
 have hr:=h.le
 have hlm:=alh rs.length
 refine gF0 func40 ?_
 refine gc (acp rs r h [a] (fun x hx=>by rw [List.mem_singleton.1 hx]; exact ⟨ha.ok,ha.len⟩) (by simp)) ?_
 refine gC (fun ht12=>?_) (fun ht12=>?_) (st2:=(77777,0))
 ·have h1:=acu ht12
  refine gE2 ?_
  rw [if_neg h1]; rfl
 ·have h1:=acs ht12
  obtain ⟨h2,h3⟩:=adp h1
  obtain ⟨tw,e0⟩:=ab3 h h2
  obtain ⟨e1,na⟩:=ha.num (h3 a (by simp))
  have hlen:(llq rs).length = rs.length:=length_map _
  have h5:rs.length <= 5:=by have:=tw.five; omega
  have htw:=tw.ok
  rw [hlen] at htw
  have hsg:=ajs (llq rs) rs.length r htw h5 (by omega) rs.length _ _ (le_refl _) na ha.cb (a2v (le_refl rs.length) (by have:=tw.three; omega) hr (by omega))
  refine gW (Wk.of (sl:=[(1,some (nA (lq a))),(2,some (.ptr 2 0)),(6,some (ahr (aa0 rs [a])))]) (hp:=[(2,some (.box [.lst 1 ((llq rs).map nA)]))]) (.cons rfl (Sub.of e1) (.k (.k .nil))) (.cons rfl (BlkSub.boxL (.cons (.of (am2 e0)) .nil) rfl) .nil)) ?_
  refine gc hsg ?_
  refine gE2 ?_
  rw [if_pos h1,h1]; rfl
theorem a4c (x:Rt) (hx:x.ok) (hs:Qs x.q):FnC prog 136 [x.av] (nA (sh 0 (x.q:Rat))):=by
 have hadd:=afk x (rt 0) hx Qs.zero.ok
 rw [boe] at hadd
 refine gF0 func136 ?_
 refine gc (Con.subA (.cons (.refl _) (.cons aiz .nil)) hadd) ?_
 refine gc (ad0 (n:=0) [x.q] (by omega) (.inr ⟨0,le_refl _,rfl⟩) (fun q hq=>by rw [List.mem_singleton.1 hq]; exact hs)) ?_
 refine gE1 ?_
 rfl
end Go.Lw
namespace Go.Lw
open Go.Proofs
theorem agt (n:Nat) (hn:n <= 281474976710656):FnC prog 207 [i64 n] (.tup [i64 (pwk n), bl (pwb n)]):=by
 refine gF0 func207 ?_
 refine gL1 [0] [] (fun (k:Nat)=>[(5,some (i64 k))]) (fun _=>[]) (fun k=>k <= 6 /\ ∀ j,j < k -> n ≠ 2 ^ j) (fun k=>6 - k) 0 ⟨by omega,fun j h=>by omega⟩ ?_
 rintro k ⟨hk,hj⟩ K1 hK1
 refine gC (fun ht6=>?_) (fun ht6=>?_)
 ·have h1 : k < 6 := by have := ht6; simp only [aab, decide_eq_true_eq] at this; omega
  refine gs (ag5 (.const _) (.tmp rfl) (by omega) (aj2 (by omega)) rfl) ?_
  refine gC (fun ht11=>?_) (fun ht11=>?_)
  ·have h2 : n = 2 ^ k := by have := ht11; simp only [aab, beq_iff_eq] at this; omega
   refine gE2 ?_
   rw [h2,(atk (by omega)).1,(atk (by omega)).2]; rfl
  ·have h2 : n ≠ 2 ^ k := by have := ht11; simp only [aab, beq_eq_false_iff_ne, ne_eq] at this; omega
   refine ga (aa1 (by omega)) ?_
   exact gK1 hK1 (k + 1) ⟨by omega,fun j h=>by rcases lt_or_ge j k with h3 | h3; exact hj j h3; (have:j = k:=by omega); subst this; exact h2⟩
 ·have h1 : k = 6 := by have := ht6; simp only [aab, decide_eq_false_iff_not] at this; omega
  subst h1
  refine gE2 ?_
  rw [(a7c hj).1,(a7c hj).2]; rfl
theorem an1 (m:Nat) (hm:m <= 5) (a:List Rt) (ha:∀ r ∈ a, r.ok) (hl:a.length <= 281474976710656):FnC prog 194 [i64 m, nR a] (i64 (agh m a)):=by
 refine gF0 func194 ?_
 refine gl ?_
 refine gc (agt a.length hl) ?_
 refine gl ?_
 refine gC (fun ht26=>?_) (fun ht26=>?_)
 ·have h1:a ≠ [] /\ (lvl a.length < 0 \/ (m:Int) < lvl a.length):=(a1a hm a).2 (bim ht26)
  refine gE1 ?_
  unfold agh; rw [if_pos h1]; rfl
 ·have hn:¬ (a ≠ [] /\ (lvl a.length < 0 \/ (m:Int) < lvl a.length)):=fun h=>blf ht26 ((a1a hm a).1 h)
  refine gl ?_
  refine gL1 [27,28] [] (fun (i:Nat)=>[(29,some (i64 i))]) (fun _=>[]) (fun i=>i <= a.length /\ (a.take i).all Rt.valid = true) (fun i=>a.length - i) 0 ⟨zero_le _,by simp⟩ ?_
  rintro i ⟨hi,hv⟩ K1 hK1
  refine gC (fun ht30=>?_) (fun ht30=>?_)
  ·have hin : i < a.length := by simpa [aab] using ht30
   obtain ⟨r,hr⟩:=ab0 hin
   have hrok:=ha r (mem_of_getElem? hr)
   refine gi (aaf hr) ?_
   refine gc (agr r hrok) ?_
   refine gC (fun ht35=>?_) (fun ht35=>?_)
   ·have hrv : r.valid = false := by simpa using ht35
    refine gE1 ?_
    unfold agh
    rw [if_neg hn,if_neg]
    ·rfl
    ·rw [all_eq_true]
     intro h
     rw [h r (mem_of_getElem? hr)] at hrv; cases hrv
   ·have hrv : r.valid = true := by simpa using ht35
    refine ga aao ?_
    exact gK1 hK1 (i + 1) ⟨by omega,by rw [aaq hr,all_append,hv]; simp [hrv]⟩
  ·have hin : i = a.length := by have : a.length <= i := (by simpa [aab] using ht30); omega
   subst hin
   rw [take_length] at hv
   refine gE1 ?_
   unfold agh; rw [if_neg hn,if_pos hv]; rfl
theorem aq2 (a:List Rat) (hl:a.length <= 281474976710656):FnC prog 271 [nA a] (bl (abq a)):=by
 refine gF0 func271 ?_
 refine gl ?_
 refine gL1 [5,6] [] (fun (i:Nat)=>[(7,some (i64 i))]) (fun _=>[]) (fun i=>i <= a.length /\ abq (a.take i) = true) (fun i=>a.length - i) 0 ⟨zero_le _,by simp [abq]⟩ ?_
 rintro i ⟨hi,hv⟩ K1 hK1
 refine gC (fun ht8=>?_) (fun ht8=>?_)
 ·have hin : i < a.length := by simpa [aab] using ht8
  obtain ⟨q,hq⟩:=ab0 hin
  refine gi (aaf hq) ?_
  refine glG ?_
  refine glG ?_
  refine gC (fun ht24=>?_) (fun ht24=>?_)
  ·have h0:q ≠ 0:=bd6 ht24
   refine gE1 ?_
   have:abq a = false:=by
    rw [Bool.eq_false_iff]
    intro h
    exact h0 (by simpa using List.all_eq_true.1 h q (mem_of_getElem? hq))
   rw [this]; rfl
  ·have h0:q = 0:=ba2 ht24
   refine ga aao ?_
   exact gK1 hK1 (i + 1) ⟨by omega,by rw [aaq hq]; simp only [abq,all_append,and_eq_true]; exact ⟨hv,by simp [h0]⟩⟩
 ·have hin : i = a.length := by have : a.length <= i := (by simpa [aab] using ht8); omega
  subst hin
  rw [take_length] at hv
  refine gE1 ?_
  rw [hv]; rfl
theorem afg {n:Nat} (a:List Rat) (hn:n <= 5) (ha:Nl n a):FnC prog 195 [nA a] (nA (sh n (dec n a))):=by
 have hl:=ha.len5 hn
 rw [<- ajd ha hn]
 refine gF0 func195 ?_
 refine gl ?_
 refine gc (agt a.length (by omega)) ?_
 refine gC (fun ht13=>?_) (fun ht13=>?_)
 ·have h0:a = []:=by
   rcases ha with h | ⟨j,hj,h⟩
   ·exact h
   ·have h9:=ht13
    rw [h,(atk (by omega)).2] at h9; cases h9
  refine gs (act T65 rfl T70 rfl rfl rfl) ?_
  refine gs (ags (.tmp rfl) rfl rfl (.tmp rfl) T65 rfl T70 rfl rfl (by simp [h0]) rfl rfl) ?_
  refine gE1 ?_
  subst h0; rfl
 ·refine gl ?_
  refine gL1 [0] [] (fun (m:Nat)=>[(5,some (i64 m))]) (fun _=>[]) (fun m=>bbm a m) (fun m=>m) a.length (a69 (ha.mono hn)) ?_
  rintro m hm K1 hK1
  refine gs (abx rfl rfl rfl (fun h=>ad8 (.opt rfl (o1 h)) (.const _) (by omega) (acm (by have:=hm.le; omega)) rfl)) ?_
  refine gs (abx rfl rfl rfl (fun h=>aar (.opt rfl (o1 h)) (.some _ (.opt rfl (o1 h)) (by omega)) (.some _ (.opt rfl (o1 h)) (by omega)) T65 rfl T70 rfl (by omega) (by have:=hm.le; simp; omega) rfl)) ?_
  refine gcG (fun _=>(by have h9:=aq2 ((a.drop (m / 2)).take (m - m / 2)) (by simp; omega); rw [<- axt] at h9; exact h9)) ?_
  refine gC (fun ht28=>?_) (fun ht28=>?_)
  ·have h1:1 < m /\ abq ((a.drop (m / 2)).take (m - m / 2)) = true:=by
    have h9:=ht28
    by_cases h:(m:Int) > 1
    ·simp only [aab,decide_eq_true h,cond_true] at h9; exact ⟨by omega,h9⟩
    ·simp only [aab,decide_eq_false h,cond_false] at h9; cases h9
   refine gs (ad8 (.tmp rfl) (.const _) (by omega) (acm (by have:=hm.le; omega)) rfl) ?_
   exact gK1 hK1 (m / 2) (a9t hm h1.1 h1.2)
  ·have h1:1 < m -> abq ((a.drop (m / 2)).take (m - m / 2)) = false:=by
    intro h
    have h9:=ht28
    simp only [aab,decide_eq_true (show (m:Int) > 1 by omega),cond_true] at h9
    exact h9
   refine gs (abx rfl rfl rfl (fun h=>aar (.opt rfl (o1 h)) (.none _) (.some _ (.const _) (by omega)) T65 rfl T70 rfl (by omega) (by have h8:(m:Int) = 1:=(by simpa [aab] using h); have:=hm.le; simp only [length_map]; omega) rfl)) ?_
   refine gcG (fun _=>(by have h9:=aq2 ((a.drop 0).take 1) (by simp; omega); rw [<- axt] at h9; exact h9)) ?_
   refine gC (fun ht37=>?_) (fun ht37=>?_)
   ·have h2:m = 1 /\ abq (a.take 1) = true:=by
     have h9:=ht37
     by_cases h:m = 1
     ·rw [h] at h9; exact ⟨h,h9⟩
     ·rw [show aab .eql (m:Int) 1 = false by simp [aab]; omega] at h9; cases h9
    obtain ⟨rfl,h3⟩:=h2
    refine gR ?_
    exact adb (by rw [bak hm h3]; exact Sub.nil _ _ _)
   ·have h2:m = 1 -> abq (a.take 1) = false:=by
     intro h
     have h9:=ht37
     rw [h] at h9; exact h9
    have h3:=a8u hm h1 h2
    refine gs (act T65 rfl T70 rfl rfl rfl) ?_
    refine gs (aar (.tmp rfl) (.none _) (.some _ (.tmp rfl) (by omega)) T65 rfl T70 rfl (by omega) (by have:=hm.le; simp; omega) rfl) ?_
    refine gs (ags (.tmp rfl) rfl rfl (.tmp rfl) T65 rfl T70 rfl rfl (by simp only [length_take,List.length_drop,length_map]; omega) rfl rfl) ?_
    refine gE1 ?_
    rw [h3]
    simp [nA,map_take]
theorem alc (d:Nat) (hd:Nat.blt d 1000 = true) (a:List Rat) (n:Nat) (hl:a.length <= n) (hn:n <= 1099511627776) :
  Con prog 209 [nA a,i64 n] [] (.ms d 3 0 n) [(d,some (.row 3 ((aax a n).map qA)))]:=by
 refine gF func209 (fun k z h=>by cases h) ?_
 refine gs (act T65 rfl T70 rfl rfl rfl) ?_
 refine gs (abj (.tmp rfl) rfl rfl (.tmp rfl) T65 rfl T70 rfl rfl (by simp only [length_map]; omega) rfl rfl) ?_
 refine gW (Wk.of (sl:=[(1,some (i64 n)),(5,some (.ms 8 3 0 a.length))]) (hp:=[(8,some (.row 3 ((aax a a.length).map qA)))]) (.k (.cons rfl (Sub.of (by simp)) .nil)) (.cons rfl (BlkSub.of (by simp [aax])) .nil)) ?_ (99999,0)
 refine gW (Wk.rekey (k:=8) (d:=900) rfl rfl) ?_
 refine gL1 [1] [] (fun (i:Nat)=>[(5,some (.ms 900 3 0 i))]) (fun i=>[(900,some (.row 3 ((aax a i).map qA)))]) (fun i=>a.length <= i /\ i <= n) (fun i=>n - i) a.length ⟨le_refl _,hl⟩ ?_
 rintro i ⟨hi,hin⟩ K1 hK1
 refine gC (fun ht12=>?_) (fun ht12=>?_)
 ·have h1 : i < n := by have := ht12; simp only [aab, decide_eq_true_eq] at this; omega
  refine gs (abj (.tmp rfl) rfl (by rw [length_map,abf hi]) (.tmp rfl) T65 rfl T70 rfl rfl (by simp; omega) rfl rfl) ?_
  exact gK1 hK1 (i + 1) ⟨by omega,h1⟩ (hw:=(Wk.of (sl:=[(1,some (i64 n)),(5,some (.ms 16 3 0 (i + 1)))]) (hp:=[(16,some (.row 3 ((aax a (i + 1)).map qA)))]) abz (.cons rfl (bdl a i hi) .nil)).trans <| (Wk.rekey (k:=16) (d:=900) rfl rfl).trans <| Wk.o)
 ·have h1 : i = n := by have := ht12; simp only [aab, decide_eq_false_iff_not] at this; omega
  subst h1
  refine gR ?_
  exact Fin.own1 rfl hd rfl
theorem agj (a:List Rat) (n:Nat) (hl:a.length <= n) (hn:n <= 1099511627776):FnC prog 209 [nA a, i64 n] (nA (aax a n)):=by
 have h:=Con.freeze (by rw [length_map,abf hl]; omega) (alc 0 rfl a n hl hn)
 rw [drop_zero,take_of_length_le (by rw [length_map,abf hl]; exact le_refl _)] at h
 exact h
theorem agf (a b:List Rat) (ha:∀ q ∈ a, Qs q) (hb:∀ q ∈ b, Qs q) (la:a.length <= 1099511627776) (lb:b.length <= 1099511627776):FnC prog 126 [nA a, nA b] (nA (acz a b)):=by
 obtain ⟨n,hn⟩:∃ n,n = max a.length b.length:=⟨_,rfl⟩
 have hwa:=abf (show a.length <= n by omega)
 have hwb:=abf (show b.length <= n by omega)
 have hp:=abm (a:=a) (b:=b)
 rw [<- hn] at hp
 have qa:∀ q ∈ aax a n,Qs q:=fun q hq=>by rcases List.mem_append.1 hq with h | h; exact ha q h; (rw [(List.mem_replicate.1 h).2]; exact Qs.zero)
 have qb:∀ q ∈ aax b n,Qs q:=fun q hq=>by rcases List.mem_append.1 hq with h | h; exact hb q h; (rw [(List.mem_replicate.1 h).2]; exact Qs.zero)
 refine gF0 func126 ?_
 refine gl ?_
 refine gl ?_
 refine gs (a4k (.tmp rfl) (.tmp rfl) rfl) ?_ (2,0)
 refine gW (Wk.of (sl:=[(0,some (nA a)),(1,some (nA b)),(5,some (i64 n))]) (hp:=[]) (.cons rfl (.refl _) (.cons rfl (.refl _) (.cons rfl (Sub.int (by omega)) .nil))) .nil) ?_
 refine go ?_
 refine gt (aae (alc 900 rfl a n (by omega) (by omega)) (.cons (.tmp rfl) (.cons (.tmp rfl) .nil)) (by first | exact hH0 | exact hH1 rfl | exact hH2 rfl rfl) rfl rfl) ?_
 refine gc (agj b n (by omega) (by omega)) ?_
 refine gL1 [1,19] [] (fun (i:Nat)=>[(0,some (.ms 900 3 0 n)),(20,some (i64 i))]) (fun i=>[(900,some (.row 3 (((acz a b).take i ++ (aax a n).drop i).map qA)))]) (fun i=>i <= n) (fun i=>n - i) 0 (zero_le _) ?_
 rintro i hi K1 hK1
 refine gC (fun ht21=>?_) (fun ht21=>?_) (st2:=(8,0))
 ·have hin : i < n := by simpa [aab] using ht21
  have hmx:=az0 (p:=acz a b) (w:=aax a n) (i:=i) (by omega) (by omega)
  have hqa:=(qa _ (alk (i:=i) (by omega))).ok
  have hqb:=(qb _ (alk (i:=i) (by omega))).ok
  refine gs (aap (n:=i) (.tmp rfl) (.tmp rfl) T65 rfl T70 rfl (by omega) (by omega) rfl) ?_
  refine gs (aaa (.tmp rfl) rfl (aaf hmx) T70 rfl rfl rfl) ?_
  refine gi (aaf (getD_some (i:=i) (l:=aax b n) (by omega))) ?_
  refine gc (amj (rt ((aax a n).getD i 0)) (rt ((aax b n).getD i 0)) hqa hqb) ?_
  refine gs (aap (n:=i) (.tmp rfl) (.tmp rfl) T65 rfl T70 rfl (by omega) (by omega) rfl) ?_
  refine gs (abh (.tmp rfl) rfl (aaf hmx) rfl (.tmp rfl) rfl rfl T70 rfl rfl) ?_
  refine gD ?_ (7,0)
  refine gW (Wk.of (sl:=[(0,some (.ms 900 3 0 n)),(1,some (nA (aax b n))),(19,some (i64 n)),(20,some (i64 i))]) (hp:=[(900,some (.row 3 (((acz a b).take (i + 1) ++ (aax a n).drop (i + 1)).map qA)))]) abz (.cons rfl (BlkSub.of (by rw [atv (by omega) (by omega) (by rw [a2n,<- hn,agk,agk])])) .nil)) ?_
  refine ga aao ?_
  exact gK1 hK1 (i + 1) hin
 ·have hin : i = n := by have : n <= i := (by simpa [aab] using ht21); omega
  refine gW ((Wk.freeze (k:=900) rfl).trans <| Wk.of (sl:=[(0,some (nA (acz a b)))]) (hp:=[]) (.cons rfl (Sub.of (by rw [ab2 (by simp; omega),hin,List.drop_of_length_le (by omega),take_of_length_le (by omega),List.append_nil]; rfl)) .nil) .nil) ?_
  refine gE1 ?_
  rfl
theorem ani (a:List Rat) (ha:∀ q ∈ a, Qs q) (hl:a.length <= 1099511627776):FnC prog 127 [nA a] (nA (acd a)):=by
 refine gF0 func127 ?_
 refine gl ?_
 refine gW (Wk.virt 900 3 rfl) ?_
 refine gL1 [6,7] [] (fun (i:Nat)=>[(3,some (.ms 900 3 0 i)),(8,some (i64 i))]) (fun i=>[(900,some (.row 3 ((acd (a.take i)).map qA)))]) (fun i=>i <= a.length) (fun i=>a.length - i) 0 (zero_le _) ?_
 rintro i hi K1 hK1
 refine gC (fun ht9=>?_) (fun ht9=>?_) (st2:=(7,0))
 ·have hin : i < a.length := by simpa [aab] using ht9
  obtain ⟨q,hq⟩:=ab0 hin
  have hqs:=(ha q (mem_of_getElem? hq)).ok
  refine gi (aaf hq) ?_
  refine gc (awx (rt q) hqs) ?_
  refine gs (abj (.tmp rfl) rfl (by simp [acd]; omega) (.tmp rfl) T65 rfl T70 rfl rfl (by simp; omega) rfl rfl) ?_ (6,0)
  refine gW (Wk.of (sl:=[(3,some (.ms 16 3 0 (i + 1))),(6,some (nA a)),(7,some (i64 a.length)),(8,some (i64 i))]) (hp:=[(16,some (.row 3 ((acd (a.take (i + 1))).map qA)))]) abz (.cons rfl (BlkSub.of (by rw [aaq hq]; simp only [acd,map_append,agk]; rfl)) .nil)) ?_ (6,0)
  refine gW (Wk.rekey (k:=16) (d:=900) rfl rfl) ?_
  refine ga aao ?_
  exact gK1 hK1 (i + 1) hin
 ·have hin : i = a.length := by have : a.length <= i := (by simpa [aab] using ht9); omega
  subst hin
  refine gW ((Wk.freeze (k:=900) rfl).trans <| Wk.of (sl:=[(3,some (nA (acd a)))]) (hp:=[]) (.cons rfl (Sub.of (by rw [ab2 (by simp [acd]),take_length]; rfl)) .nil) .nil) ?_
  refine gE1 ?_
  rfl
end Go.Lw
namespace Go.Lw
open Go.Proofs
theorem aii (ts:List (List Rat)) (m r:Nat) (ht:a45 ts m r) (hm:m <= 5) (R:List AV) (hR:∀ j, j < m -> R[j]? = some (nA (ts.getD j []))) (k:Nat):∀ (j:Nat) (a b:List Rat) (e f:Nat), j <= m -> j <= k -> Nl j a -> Nl j b -> Cb e a -> Cb f b -> e + f + eB r j < 4398046511104 ->
  FnC prog 211 [.agg [.lst 1 R],nA a,nA b] (nA (rT ts k a b)):=by
 induction k using Nat.strongRecOn
 rename_i k ih
 intro j a b e f hj hjk ha hb ca cb hs
 obtain ⟨nx,dx⟩:=ao2 ha (by omega)
 obtain ⟨ny,dy⟩:=ao2 hb (by omega)
 have cx:Cb e (aat 5 a):=ca.sub (fun q hq=>ah7 5 hq)
 have cy:Cb f (aat 5 b):=cb.sub (fun q hq=>ah7 5 hq)
 have k1:=afg a (by omega) ha
 have k2:=afg b (by omega) hb
 rw [<- ajd ha (by omega)] at k1
 rw [<- ajd hb (by omega)] at k2
 obtain ⟨x,hx⟩:∃ x,x = aat 5 a:=⟨_,rfl⟩
 obtain ⟨y,hy⟩:∃ y,y = aat 5 b:=⟨_,rfl⟩
 rw [<- hx] at k1 nx dx cx
 rw [<- hy] at k2 ny dy cy
 have hlx:=nx.len5 (by omega)
 have hly:=ny.len5 (by omega)
 obtain ⟨n,hn⟩:∃ n,n = max x.length y.length:=⟨_,rfl⟩
 refine gF0 func211 ?_
 refine gc k1 ?_
 refine gc k2 ?_
 refine gl ?_
 refine gl ?_
 refine gs (a4k (.tmp rfl) (.tmp rfl) rfl) ?_ (3,0)
 refine gW (Wk.of (sl:=[(1,some (nA x)),(2,some (nA y)),(3,some (.ptr 3 0)),(7,some (i64 n))]) (hp:=[(3,some (.box [.lst 1 R]))]) (.k (.k (.k (.cons rfl (Sub.int (by omega)) .nil)))) (.cons rfl (.refl _) .nil)) ?_
 refine gl ?_
 refine glG ?_
 refine gC (fun ht32=>?_) (fun ht32=>?_)
 ·have h0 : x.length = 0 \/ y.length = 0 := by have := azl ht32; omega
  refine gR ?_
  exact adb (by rw [baa (by rw [<- hx,<- hy]; exact h0)]; exact Sub.nil _ _ _)
 ·have h0 : ¬ (x.length = 0 \/ y.length = 0) := by have := auz ht32; omega
  refine gC (fun ht34=>?_) (fun ht34=>?_)
  ·have h1 : max x.length y.length = 1 := by have := ht34; simp only [aab, beq_iff_eq] at this; omega
   have e1:=bf3 (ts:=ts) (k:=k) (a:=a) (b:=b) (by rw [<- hx,<- hy]; exact h0) (by rw [<- hx,<- hy]; exact h1)
   rw [<- hx,<- hy] at e1
   clear hx hy
   have lx1:x.length = 1:=by omega
   have ly1:y.length = 1:=by omega
   clear hn
   obtain ⟨p,rfl⟩:∃ p,x = [p]:=List.length_eq_one_iff.1 lx1
   obtain ⟨q,rfl⟩:∃ q,y = [q]:=List.length_eq_one_iff.1 ly1
   refine gi rfl ?_
   refine gi rfl ?_
   refine gc (axb (rt p) (rt q) (cx.qs (by omega) (by simp:p ∈ [p])).ok (cy.qs (by omega) (by simp:q ∈ [q])).ok) ?_
   refine gD ?_
   refine gE1 ?_
   rw [e1,agk,agk]; rfl
  ·have h1 : n ≠ 1 := by have := ht34; simp only [aab, beq_eq_false_iff_ne, ne_eq] at this; omega
   obtain ⟨i,hij,hmax⟩:=(beo nx ny h0).resolve_left (by omega)
   obtain ⟨k',rfl⟩:∃ k',k = k' + 1:=⟨k - 1,by omega⟩
   have hp2:=Nat.two_pow_pos i
   have hpi:2 ^ i <= 32:=abg (b:=5) (by omega)
   have hps:2 ^ (i + 1) = 2 * 2 ^ i:=by rw [Nat.pow_succ]; omega
   have hnn:n = 2 ^ (i + 1):=by omega
   have hes:eB r (i + 1) <= eB r j:=bfz r hij
   have hee:eB r (i + 1) = 2 * eB r i + r + 2:=rfl
   have lx:(aax x (2 ^ (i + 1))).length = 2 ^ (i + 1):=abf (by omega)
   have ly:(aax y (2 ^ (i + 1))).length = 2 ^ (i + 1):=abf (by omega)
   obtain ⟨X,hX⟩:∃ X,X = aax x (2 ^ (i + 1)):=⟨_,rfl⟩
   obtain ⟨Y,hY⟩:∃ Y,Y = aax y (2 ^ (i + 1)):=⟨_,rfl⟩
   have cX:Cb e X:=by rw [hX]; exact cx.wide
   have cY:Cb f Y:=by rw [hY]; exact cy.wide
   rw [<- hX] at lx
   rw [<- hY] at ly
   have n1:Nl i (X.take (2 ^ i)):=.inr ⟨i,le_refl _,adk lx⟩
   have n2:Nl i (X.drop (2 ^ i)):=.inr ⟨i,le_refl _,ad5 lx⟩
   have n3:Nl i (Y.take (2 ^ i)):=.inr ⟨i,le_refl _,adk ly⟩
   have n4:Nl i (Y.drop (2 ^ i)):=.inr ⟨i,le_refl _,ad5 ly⟩
   have nd:=ht.1 i (by omega)
   have cd:=ht.2.cb i
   have s1:=af4 hm ht (k:=k') (show i <= m by omega) (by omega) n1 n3 cX.take cY.take
   have s2:=af4 hm ht (k:=k') (show i <= m by omega) (by omega) n2 n4 cX.drop cY.drop
   have s3:=af4 hm ht (k:=k') (show i <= m by omega) (by omega) s2.1 nd s2.2.2 cd
   have s4:=af4 hm ht (k:=k') (show i <= m by omega) (by omega) n1 n4 cX.take cY.drop
   have s5:=af4 hm ht (k:=k') (show i <= m by omega) (by omega) n2 n3 cX.drop cY.take
   have hrt:=a6t (ts:=ts) (k:=k') (a:=a) (b:=b) rfl (by rw [<- hx,<- hy]; exact h0) (by rw [<- hx,<- hy]; exact hmax)
   rw [<- hx,<- hy,<- hX,<- hY] at hrt
   have w1:=agj x n (by omega) (by omega)
   have w2:=agj y n (by omega) (by omega)
   rw [hnn,<- hX] at w1
   rw [hnn,<- hY] at w2
   rw [<- hnn] at w1 w2
   have pw:=agt n (by omega)
   rw [show pwk n = i + 1 by rw [hnn]; exact (atk (by omega)).1,show pwb n = true by rw [hnn]; exact (atk (by omega)).2] at pw
   refine gc w1 ?_
   refine gc w2 ?_
   refine gc pw ?_
   refine gs (ad8 (.tmp rfl) (.const _) (by omega) (show _ = ((2 ^ i:Nat):Int) by rw [acm (by omega),hnn,ab5]) rfl) ?_
   refine gs (aar (.tmp rfl) (.none _) (.some _ (.tmp rfl) (by omega)) T65 rfl T70 rfl (by omega) (by simp only [length_map]; omega) rfl) ?_
   refine gs (ad8 (.tmp rfl) (.const _) (by omega) (show _ = ((2 ^ i:Nat):Int) by rw [acm (by omega),hnn,ab5]) rfl) ?_
   refine gs (aar (.tmp rfl) (.some _ (.tmp rfl) (by omega)) (.none _) T65 rfl T70 rfl (by simp only [length_map]; omega) (by omega) rfl) ?_
   refine gs (ad8 (.tmp rfl) (.const _) (by omega) (show _ = ((2 ^ i:Nat):Int) by rw [acm (by omega),hnn,ab5]) rfl) ?_
   refine gs (aar (.tmp rfl) (.none _) (.some _ (.tmp rfl) (by omega)) T65 rfl T70 rfl (by omega) (by simp only [length_map]; omega) rfl) ?_
   refine gs (ad8 (.tmp rfl) (.const _) (by omega) (show _ = ((2 ^ i:Nat):Int) by rw [acm (by omega),hnn,ab5]) rfl) ?_
   refine gs (aar (.tmp rfl) (.some _ (.tmp rfl) (by omega)) (.none _) T65 rfl T70 rfl (by simp only [length_map]; omega) (by omega) rfl) ?_
   refine gD ?_ (10,0)
   refine gW (Wk.of (sl:=[(3,some (.ptr 3 0)),(7,some (i64 n)),(8,some (i64 ((i + 1:Nat):Int))),(10,some (nA (X.take (2 ^ i)))),(11,some (nA (X.drop (2 ^ i)))),(12,some (nA (Y.take (2 ^ i)))),(13,some (nA (Y.drop (2 ^ i))))]) (hp:=[(3,some (.box [.lst 1 R]))]) (.k (.k (.k (.cons rfl (Sub.of (ai8 X (2 ^ i))) (.cons rfl (Sub.of (aha X (2 ^ i))) (.cons rfl (Sub.of (ai8 Y (2 ^ i))) (.cons rfl (Sub.of (aha Y (2 ^ i))) .nil))))))) (.cons rfl (.refl _) .nil)) ?_
   refine gc (ih k' (by omega) i _ _ e f (by omega) (by omega) n1 n3 cX.take cY.take (by omega)) ?_
   refine gc (ih k' (by omega) i _ _ e f (by omega) (by omega) n2 n4 cX.drop cY.drop (by omega)) ?_
   refine ga (show _ = (i:Int) by rw [abd (by omega)]; omega) ?_
   refine gi (hR i (by omega)) ?_
   refine gc (ih k' (by omega) i _ _ _ _ (by omega) (by omega) s2.1 nd s2.2.2 cd (by omega)) ?_
   refine gc (agf _ _ (fun q hq=>s1.2.2.qs (by omega) hq) (fun q hq=>s3.2.2.qs (by omega) hq) (by have:=s1.1.le; omega) (by have:=s3.1.le; omega)) ?_
   refine gD ?_
   refine gc (ih k' (by omega) i _ _ e f (by omega) (by omega) n1 n4 cX.take cY.drop (by omega)) ?_
   refine gc (ih k' (by omega) i _ _ e f (by omega) (by omega) n2 n3 cX.drop cY.take (by omega)) ?_
   refine gc (agf _ _ (fun q hq=>s4.2.2.qs (by omega) hq) (fun q hq=>s5.2.2.qs (by omega) hq) (by have:=s4.1.le; omega) (by have:=s5.1.le; omega)) ?_
   refine gD ?_
   refine gs (ad8 (.tmp rfl) (.const _) (by omega) (show _ = ((2 ^ i:Nat):Int) by rw [acm (by omega),hnn,ab5]) rfl) ?_
   refine gt (aae (alc 900 rfl _ (2 ^ i) (by have:=s1.1.le; have:=s3.1.le; rw [abm]; omega) (by omega)) (.cons (.tmp rfl) (.cons (.tmp rfl) .nil)) (by first | exact hH0 | exact hH1 rfl | exact hH2 rfl rfl) rfl rfl) ?_
   refine gs (ad8 (.tmp rfl) (.const _) (by omega) (show _ = ((2 ^ i:Nat):Int) by rw [acm (by omega),hnn,ab5]) rfl) ?_
   refine gc (agj _ (2 ^ i) (by have:=s4.1.le; have:=s5.1.le; rw [abm]; omega) (by omega)) ?_
   refine gs (ags (.tmp rfl) rfl (by have:=s1.1.le; have:=s3.1.le; rw [length_map,abf (by rw [abm]; omega)]) (.tmp rfl) T65 rfl T70 rfl rfl (by have:=s4.1.le; have:=s5.1.le; rw [length_map,abf (by rw [abm]; omega)]; show (2 ^ i + 2 ^ i) * 56 <= 140737488355328; omega) rfl rfl) ?_
   refine gE1 ?_
   rw [hrt,<- map_append]; rfl
theorem a3o (ts:List (List Rat)) (m r:Nat) (ht:a45 ts m r) (hm:m <= 5) (R:List AV) (hR:∀ j, j < m -> R[j]? = some (nA (ts.getD j []))) (i n:Nat) (a:List Rat) (e:Nat) (hi:i + 1 <= m) (hnn:n = 2 ^ (i + 1)) (hal:a.length = 2 ^ (i + 1)) (ca:Cb e a) (hs:4 * e + 3 * eB r i + r + 1 < 4398046511104) :
  FnC prog 208 [.agg [.lst 1 R],nA a,i64 n] (nA (ara ts i a)):=by
 have hp2:=Nat.two_pow_pos i
 have hpi:2 ^ i <= 32:=abg (b:=5) (by omega)
 have hps:2 ^ (i + 1) = 2 * 2 ^ i:=by rw [Nat.pow_succ]; omega
 have n1:Nl i (a.take (2 ^ i)):=.inr ⟨i,le_refl _,adk hal⟩
 have n2:Nl i (a.drop (2 ^ i)):=.inr ⟨i,le_refl _,ad5 hal⟩
 have nd:=ht.1 i (by omega)
 have cd:=ht.2.cb i
 have s1:=af4 hm ht (k:=i) (show i <= m by omega) (by omega) n1 n1 ca.take ca.take
 have s2:=af4 hm ht (k:=i) (show i <= m by omega) (by omega) n2 n2 ca.drop ca.drop
 have s3:=af4 hm ht (k:=i) (show i <= m by omega) (by omega) s2.1 nd s2.2.2 cd
 have w1:=agj a n (by omega) (by omega)
 rw [show aax a n = a by unfold aax; rw [hnn,hal]; simp] at w1
 have pw:=agt n (by omega)
 rw [show pwk n = i + 1 by rw [hnn]; exact (atk (by omega)).1,show pwb n = true by rw [hnn]; exact (atk (by omega)).2] at pw
 refine gF0 func208 ?_
 refine gc w1 ?_
 refine gc pw ?_
 refine gs (ad8 (.tmp rfl) (.const _) (by omega) (show _ = ((2 ^ i:Nat):Int) by rw [acm (by omega),hnn,ab5]) rfl) ?_
 refine gs (aar (.tmp rfl) (.none _) (.some _ (.tmp rfl) (by omega)) T65 rfl T70 rfl (by omega) (by simp only [length_map]; omega) rfl) ?_
 refine gs (ad8 (.tmp rfl) (.const _) (by omega) (show _ = ((2 ^ i:Nat):Int) by rw [acm (by omega),hnn,ab5]) rfl) ?_
 refine gs (aar (.tmp rfl) (.some _ (.tmp rfl) (by omega)) (.none _) T65 rfl T70 rfl (by simp only [length_map]; omega) (by omega) rfl) ?_
 refine gD ?_ (4,0)
 refine gW (Wk.of (sl:=[(3,some (.ptr 3 0)),(7,some (i64 ((i + 1:Nat):Int))),(9,some (nA (a.take (2 ^ i)))),(10,some (nA (a.drop (2 ^ i))))]) (hp:=[(3,some (.box [.lst 1 R]))]) (.k (.k (.cons rfl (Sub.of (ai8 a (2 ^ i))) (.cons rfl (Sub.of (aha a (2 ^ i))) .nil)))) (.cons rfl (.refl _) .nil)) ?_
 refine gc (aii ts m r ht hm R hR i i _ _ e e (by omega) (by omega) n1 n1 ca.take ca.take (by omega)) ?_
 refine gc (aii ts m r ht hm R hR i i _ _ e e (by omega) (by omega) n2 n2 ca.drop ca.drop (by omega)) ?_
 refine ga (show _ = (i:Int) by rw [abd (by omega)]; omega) ?_
 refine gi (hR i (by omega)) ?_
 refine gc (aii ts m r ht hm R hR i i _ _ _ _ (by omega) (by omega) s2.1 nd s2.2.2 cd (by omega)) ?_
 refine gc (ani _ (fun q hq=>s3.2.2.qs (by omega) hq) (by have:=s3.1.le; omega)) ?_
 refine gc (agf _ _ (fun q hq=>s1.2.2.qs (by omega) hq) (fun q hq=>s3.2.2.minus.qs (by omega) hq) (by have:=s1.1.le; omega) (by have:=s3.1.le; rw [acy]; omega)) ?_
 refine gD ?_
 refine gE1 ?_
 rfl
theorem am4 (ts:List (List Rat)) (m r:Nat) (ht:a45 ts m r) (hm:m <= 5) (hpos:∀ j, j < m -> 0 <= T.sgn (aas ts) j (aas ts j)) (R:List AV) (hR:∀ j, j < m -> R[j]? = some (nA (ts.getD j []))) (j:Nat):∀ (a:List Rat) (e:Nat), j <= m -> Nl j a -> Cb e a -> sB r j e < 4398046511104 ->
  FnC prog 125 [.agg [.lst 1 R],nA a] (i64 (T.sgn (aas ts) j (dec j a))):=by
 induction j using Nat.strongRecOn
 rename_i j ih
 intro a e hj ha ca hs
 have hse:=a8e r j e
 obtain ⟨s,hsa⟩:∃ s,s = sh j (dec j a):=⟨_,rfl⟩
 have hsd:dec j s = dec j a:=by rw [hsa,ab9]
 have hsn:Nl j s:=by rw [hsa]; exact am6 j _
 have cs:Cb e s:=by rw [hsa]; exact ca.sh ha
 have hls:=hsn.len5 (by omega)
 rw [<- hsd]
 refine gF0 func125 ?_
 refine gc (hsa ▸ afg a (by omega) ha) ?_
 refine gl ?_
 refine gC (fun ht15=>?_) (fun ht15=>?_)
 ·have h1 : s = [] := List.length_eq_zero_iff.1 (by have := ht15; simp only [aab, beq_iff_eq] at this; omega)
  refine gE1 ?_
  rw [h1,agn,T.sgn_zero]; rfl
 ·have h1 : s.length ≠ 0 := by have := ht15; simp only [aab, beq_eq_false_iff_ne, ne_eq] at this; omega
  refine gl ?_
  refine gC (fun ht19=>?_) (fun ht19=>?_)
  ·have h2 : s.length = 1 := by have := ht19; simp only [aab, beq_iff_eq] at this; omega
   obtain ⟨q,rfl⟩:=List.length_eq_one_iff.1 h2
   refine gi rfl ?_
   refine gc (ajx (rt q) (cs.qs (by omega) (by simp:q ∈ [q])).ok) ?_
   refine gE1 ?_
   rw [ant,T.sgn_ofQ,agk]
  ·have h2 : s.length ≠ 1 := by have := ht19; simp only [aab, beq_eq_false_iff_ne, ne_eq] at this; omega
   obtain ⟨i, hij, hsl⟩:∃ i, i + 1 <= j /\ s.length = 2 ^ (i + 1):=by
    rcases aj0 hsn with h | h | h
    ·exact absurd h h1
    ·exact absurd h h2
    ·exact h
   have hp2:=Nat.two_pow_pos i
   have hpi:2 ^ i <= 32:=abg (b:=5) (by omega)
   have hps:2 ^ (i + 1) = 2 * 2 ^ i:=by rw [Nat.pow_succ]; omega
   have n1:Nl i (s.take (2 ^ i)):=.inr ⟨i,le_refl _,adk hsl⟩
   have n2:Nl i (s.drop (2 ^ i)):=.inr ⟨i,le_refl _,ad5 hsl⟩
   have nd:=ht.1 i (by omega)
   have cd:=ht.2.cb i
   obtain ⟨nn,dn,cn⟩:=azz hm ht (by omega) hsl cs
   have b1:sB r i (4 * e + 3 * eB r i + r + 1) <= sB r j e:=a2e r e hij
   have b2:sB r i e <= sB r i (4 * e + 3 * eB r i + r + 1):=am0 r i (by omega)
   have b3:sB r i r <= sB r i (4 * e + 3 * eB r i + r + 1):=am0 r i (by omega)
   have b4:=a8e r i (4 * e + 3 * eB r i + r + 1)
   have k1:=ih i (by omega) (s.take (2 ^ i)) e (by omega) n1 cs.take (by omega)
   have k2:=ih i (by omega) (s.drop (2 ^ i)) e (by omega) n2 cs.drop (by omega)
   have k3:=ih i (by omega) _ r (by omega) nd cd (by omega)
   have k4:=ih i (by omega) _ _ (by omega) nn cn (by omega)
   have v3:T.sgn (aas ts) i (dec i (ts.getD i [])) = 0 \/ T.sgn (aas ts) i (dec i (ts.getD i [])) = 1:=by
    have h9:0 <= T.sgn (aas ts) i (dec i (ts.getD i [])):=hpos i (by omega)
    have:=T.sgn_cases (aas ts) i (dec i (ts.getD i []))
    omega
   have hres:T.sgn (aas ts) j (dec j s) = T.sgn3 (T.sgn (aas ts) i (dec i (s.take (2 ^ i)))) (T.sgn (aas ts) i (dec i (s.drop (2 ^ i)))) (T.sgn (aas ts) i (dec i (ts.getD i []))) (T.sgn (aas ts) i (dec i (ara ts i s))):=by
    rw [a54 _ (by omega) hij,dn]; rfl
   rw [bbx v3] at hres
   have v1:=T.sgn_cases (aas ts) i (dec i (s.take (2 ^ i)))
   have v2:=T.sgn_cases (aas ts) i (dec i (s.drop (2 ^ i)))
   have v4:=T.sgn_cases (aas ts) i (dec i (ara ts i s))
   have pw:=agt s.length (by omega)
   rw [show pwk s.length = i + 1 by rw [hsl]; exact (atk (by omega)).1,show pwb s.length = true by rw [hsl]; exact (atk (by omega)).2] at pw
   refine gc pw ?_
   refine ga (show _ = (i:Int) by rw [abd (by omega)]; omega) ?_
   refine gi (hR i (by omega)) ?_
   refine gs (ad8 (.tmp rfl) (.const _) (by omega) (show _ = ((2 ^ i:Nat):Int) by rw [acm (by omega),hsl,ab5]) rfl) ?_
   refine gs (aar (.tmp rfl) (.none _) (.some _ (.tmp rfl) (by omega)) T65 rfl T70 rfl (by omega) (by simp only [length_map]; omega) rfl) ?_
   refine gc (by have h9:=k1; rw [<- ai8] at h9; exact h9) ?_
   refine gs (ad8 (.tmp rfl) (.const _) (by omega) (show _ = ((2 ^ i:Nat):Int) by rw [acm (by omega),hsl,ab5]) rfl) ?_
   refine gs (aar (.tmp rfl) (.some _ (.tmp rfl) (by omega)) (.none _) T65 rfl T70 rfl (by simp only [length_map]; omega) (by omega) rfl) ?_
   refine gc (by have h9:=k2; rw [<- aha] at h9; exact h9) ?_
   refine gc k3 ?_
   refine ga (aqs v2 (.inr v3)) ?_
   refine gD ?_
   refine gC (fun ht57=>?_) (fun ht57=>?_)
   ·have e2:=azl ht57
    refine gE1 ?_
    rw [hres,if_pos e2]
   ·have e2:=auz ht57
    refine gC (fun ht60=>?_) (fun ht60=>?_)
    ·have e3 : T.sgn (aas ts) i (dec i (s.take (2 ^ i))) = 0 := by simpa [aab] using ht60
     refine gE1 ?_
     rw [hres,if_neg e2,if_pos e3]; rfl
    ·have e3 : ¬ T.sgn (aas ts) i (dec i (s.take (2 ^ i))) = 0 := by simpa [aab] using ht60
     refine gc (a3o ts m r ht hm R hR i s.length s e (by omega) hsl hsl cs (by omega)) ?_
     refine gc k4 ?_
     refine ga (aqs v1 v4) ?_
     refine gD ?_
     refine gE1 ?_
     rw [hres,if_neg e2,if_neg e3]; rfl
theorem arm (rs:List (List Rt)) (r:Nat) (h:TR rs r):FnC prog 110 [ae2 rs] (i64 (ad7 rs)):=by
 have hll:=h.ll
 have hr:=h.le
 refine gF0 func110 ?_
 refine gl ?_
 refine gC (fun ht9=>?_) (fun ht9=>?_)
 ·have h5 : 5 < rs.length := by have := ht9; simp only [aab, decide_eq_true_eq] at this; omega
  refine gE1 ?_
  rw [a06 h5]; rfl
 ·have h5 : rs.length <= 5 := by have := ht9; simp only [aab, decide_eq_false_iff_not] at this; omega
  refine gl ?_
  refine gL1 [1,11,12] [1] (fun (k:Nat)=>[(13,some (i64 k))]) (fun _=>[]) (fun k=>k <= rs.length /\ ∀ j,j < k -> azc rs j) (fun k=>rs.length - k) 0 ⟨zero_le _,fun j hj=>by omega⟩ ?_
  rintro k ⟨hk,hj⟩ K1 hK1
  refine gC (fun ht14=>?_) (fun ht14=>?_)
  ·have hin : k < rs.length := by simpa [aab] using ht14
   obtain ⟨d,hd⟩:=ab0 hin
   have hdm:=mem_of_getElem? hd
   have hdl:=h.len d hdm
   refine gi (aaf hd) ?_
   refine gl ?_
   refine gs (ag5 (.const _) (.tmp rfl) (by omega) (aj2 (by omega)) rfl) ?_
   refine gC (fun ht22=>?_) (fun ht22=>?_)
   ·have h1 : d.length ≠ 2 ^ k := by have := ht22; simp only [aab, bne_iff_ne, ne_eq] at this; omega
    refine gE1 ?_
    rw [a2j h5 hd hj h1]; rfl
   ·have h1 : d.length = 2 ^ k := by have := ht22; simp only [aab, bne_eq_false_iff_eq] at this; omega
    have hnu:=an1 k (by omega) d (h.ok d hdm) hdl
    refine gc hnu ?_
    refine gC (fun ht27=>?_) (fun ht27=>?_)
    ·have h2:=afz ht27
     refine gE1 ?_
     rw [a1f h5 hd hj h1 h2]
    ·have h2:=af1 ht27
     have hts:=ax3 (ts:=llq rs) (fun j hjk=>(hj j hjk).nl) h.rb
     have hq:=at3 h2 (h.ok d hdm)
     have hcb:Cb r (lq d):=by have:=h.rb.cb k; rw [ami,getD_eq_getElem?_getD,hd] at this; exact this
     have hsg:FnC prog 125 [ae2 rs, nR d] (i64 (T.sgn (aas (llq rs)) k (dec k (lq d)))):=by
      have h9:=am4 ((llq rs).take k) k r hts (by omega) (fun j hjk=>by rw [T.sgn_congr j (fun i hi=>agi (show i < k by omega)),agi hjk]; exact (hj j hjk).2.2) (rs.map nR) (fun j hjk=>biq h.ok (show k <= rs.length by omega) hj hjk) k (lq d) r (le_refl _) hq.2 hcb (a2v (le_refl k) (by have:=h.three; omega) hr (by have:=adm k; omega))
      rw [T.sgn_congr k (fun j hjk=>agi hjk)] at h9
      rw [hq.1,af0]
      rw [<- hq.1]; exact h9
     refine gc hsg ?_
     refine gC (fun ht32=>?_) (fun ht32=>?_)
     ·have h3 : T.sgn (aas (llq rs)) k (dec k (lq d)) < 0 := by simpa [aab] using ht32
      refine gE1 ?_
      rw [a12 h5 hd hj h1 h2 h3]; rfl
     ·have h3 : ¬ T.sgn (aas (llq rs)) k (dec k (lq d)) < 0 := by simpa [aab] using ht32
      refine ga aao ?_
      exact gK1 hK1 (k + 1) ⟨hin,fun j hjk=>by rcases lt_or_ge j k with h9 | h9; exact hj j h9; (have:j = k:=by omega); subst this; exact a5w hd h1 h2 h3⟩
  ·have hin : k = rs.length := by have : rs.length <= k := (by simpa [aab] using ht14); omega
   subst hin
   refine gE1 ?_
   rw [a16 h5 hj]; rfl
theorem aep (rs:List (List Rt)) (r:Nat) (h:TR rs r) (xs:List (List Rt)) (hx:∀ a ∈ xs, (∀ x ∈ a, x.ok) /\ a.length <= 281474976710656) (hl:xs.length <= 281474976710656):FnC prog 124 [ae2 rs, .lst 1 (xs.map nR)] (i64 (aa0 rs xs)):=by
 refine gF0 func124 ?_
 refine gc (arm rs r h) ?_
 refine gC (fun ht12=>?_) (fun ht12=>?_)
 ·have h1:=afz ht12
  refine gE1 ?_
  rw [aub h1]
 ·have h1:=af1 ht12
  have h5:rs.length <= 5:=by have:=(ab3 h h1).1.five; rwa [length_map] at this
  refine gl ?_
  refine gL1 [2,14,15] [2] (fun (i:Nat)=>[(16,some (i64 i))]) (fun _=>[]) (fun i=>i <= xs.length /\ ∀ x ∈ xs.take i,agh rs.length x = 0) (fun i=>xs.length - i) 0 ⟨zero_le _,fun x hx=>by simp at hx⟩ ?_
  rintro i ⟨hi,hj⟩ K1 hK1
  refine gC (fun ht17=>?_) (fun ht17=>?_)
  ·have hin : i < xs.length := by simpa [aab] using ht17
   obtain ⟨a,ha⟩:=ab0 hin
   have hok:=hx a (mem_of_getElem? ha)
   refine gi (aaf ha) ?_
   refine gl ?_
   refine gc (an1 rs.length h5 a hok.1 hok.2) ?_
   refine gC (fun ht26=>?_) (fun ht26=>?_)
   ·have h2:=afz ht26
    refine gE1 ?_
    rw [ap4 h1 ha hj h2]
   ·have h2:=af1 ht26
    refine ga aao ?_
    exact gK1 hK1 (i + 1) ⟨hin,fun x hx=>by rw [aaq ha] at hx; rcases List.mem_append.1 hx with h9 | h9; exact hj x h9; (rw [List.mem_singleton.1 h9]; exact h2)⟩
  ·have hin : i = xs.length := by have : xs.length <= i := (by simpa [aab] using ht17); omega
   subst hin
   rw [take_length] at hj
   refine gE1 ?_
   rw [ai4 h1 hj]; rfl
theorem a6z (rs:List (List Rt)) (r:Nat) (h:TR rs r) (a b:List Rt) (e f:Nat) (ha:NR a e) (hb:NR b f) (he:e + f <= lm rs.length) :
  FnC prog 200 [ae2 rs,nR a,nR b] (.tup [nA (if aa0 rs [a,b] = 0 then sh rs.length (T.add rs.length (dec rs.length (lq a)) (dec rs.length (lq b))) else []),i64 (aa0 rs [a,b])]):=by
 have hlm:=alh rs.length
 refine gF0 func200 ?_
 refine gc (aep rs r h [a,b] (aoe ha hb) (by simp)) ?_
 refine gC (fun ht15=>?_) (fun ht15=>?_) (st2:=(77777,0))
 ·have h1:=afz ht15
  refine gR ?_
  exact ac3 (by rw [if_neg h1]; exact Sub.tup (.cons (.nil _ _ _) (.cons (.refl _) .nil)))
 ·have h1:=af1 ht15
  obtain ⟨h2,h3⟩:=adp h1
  obtain ⟨tw,e0⟩:=ab3 h h2
  obtain ⟨e1,na⟩:=ha.num (h3 a (by simp))
  obtain ⟨e2,nb⟩:=hb.num (h3 b (by simp))
  have h5:rs.length <= 5:=by have:=tw.five; rwa [length_map] at this
  have hla:=na.len5 h5
  have hlb:=nb.len5 h5
  have qa:∀ q ∈ lq a,Qs q:=fun q hq=>ha.cb.qs (by omega) hq
  have qb:∀ q ∈ lq b,Qs q:=fun q hq=>hb.cb.qs (by omega) hq
  have qp:∀ q ∈ acz (lq a) (lq b),Qs q:=fun q hq=>(ha.cb.plus hb.cb).qs (by omega) hq
  have np:=aih na nb
  refine gW (Wk.of (sl:=[(1,some (nA (lq a))),(2,some (nA (lq b))),(3,some (.ptr 3 0)),(8,some (i64 (aa0 rs [a,b])))]) (hp:=[(3,some (.box [.lst 1 (rs.map nR)]))]) (.cons rfl (Sub.of e1) (.cons rfl (Sub.of e2) (.k (.k .nil)))) (.cons rfl (.refl _) .nil)) ?_
  refine gc (agf _ _ qa qb (by omega) (by omega)) ?_
  refine gc (afg _ h5 np) ?_
  refine gE2 ?_
  rw [if_pos h1,h1,adc]; rfl
theorem a82 (rs:List (List Rt)) (r:Nat) (h:TR rs r) (a b:List Rt) (e f:Nat) (ha:NR a e) (hb:NR b f) (he:e + f <= lm rs.length) :
  FnC prog 111 [ae2 rs,nR a,nR b] (.tup [nA (if aa0 rs [a,b] = 0 then sh rs.length (T.add rs.length (dec rs.length (lq a)) (T.neg rs.length (dec rs.length (lq b)))) else []),i64 (aa0 rs [a,b])]):=by
 have hlm:=alh rs.length
 refine gF0 func111 ?_
 refine gc (aep rs r h [a,b] (aoe ha hb) (by simp)) ?_
 refine gC (fun ht15=>?_) (fun ht15=>?_) (st2:=(77777,0))
 ·have h1:=afz ht15
  refine gR ?_
  exact ac3 (by rw [if_neg h1]; exact Sub.tup (.cons (.nil _ _ _) (.cons (.refl _) .nil)))
 ·have h1:=af1 ht15
  obtain ⟨h2,h3⟩:=adp h1
  obtain ⟨tw,e0⟩:=ab3 h h2
  obtain ⟨e1,na⟩:=ha.num (h3 a (by simp))
  obtain ⟨e2,nb⟩:=hb.num (h3 b (by simp))
  have h5:rs.length <= 5:=by have:=tw.five; rwa [length_map] at this
  have hla:=na.len5 h5
  have hlb:=nb.len5 h5
  have qa:∀ q ∈ lq a,Qs q:=fun q hq=>ha.cb.qs (by omega) hq
  have qb:∀ q ∈ lq b,Qs q:=fun q hq=>hb.cb.qs (by omega) hq
  have qm:∀ q ∈ acd (lq b),Qs q:=fun q hq=>hb.cb.minus.qs (by omega) hq
  have qp:∀ q ∈ acz (lq a) (acd (lq b)),Qs q:=fun q hq=>(ha.cb.plus hb.cb.minus).qs (by omega) hq
  have np:=aih na (ag8 nb)
  refine gW (Wk.of (sl:=[(1,some (nA (lq a))),(2,some (nA (lq b))),(3,some (.ptr 3 0)),(8,some (i64 (aa0 rs [a,b])))]) (hp:=[(3,some (.box [.lst 1 (rs.map nR)]))]) (.cons rfl (Sub.of e1) (.cons rfl (Sub.of e2) (.k (.k .nil)))) (.cons rfl (.refl _) .nil)) ?_
  refine gc (ani _ qb (by omega)) ?_
  refine gc (agf _ _ qa qm (by omega) (by rw [acy]; omega)) ?_
  refine gc (afg _ h5 np) ?_
  refine gE2 ?_
  rw [if_pos h1,h1,adc,aey]; rfl
theorem ban (rs:List (List Rt)) (r:Nat) (h:TR rs r) (a b:List Rt) (e f:Nat) (ha:NR a e) (hb:NR b f) (he:e + f <= lm rs.length) :
  FnC prog 128 [ae2 rs,nR a,nR b] (.tup [nA (if aa0 rs [a,b] = 0 then sh rs.length (T.mul (aas (llq rs)) rs.length (dec rs.length (lq a)) (dec rs.length (lq b))) else []),i64 (aa0 rs [a,b])]):=by
 have hr:=h.le
 have hlm:=alh rs.length
 refine gF0 func128 ?_
 refine gc (aep rs r h [a,b] (aoe ha hb) (by simp)) ?_
 refine gC (fun ht15=>?_) (fun ht15=>?_) (st2:=(77777,0))
 ·have h1:=afz ht15
  refine gR ?_
  exact ac3 (by rw [if_neg h1]; exact Sub.tup (.cons (.nil _ _ _) (.cons (.refl _) .nil)))
 ·have h1:=af1 ht15
  obtain ⟨h2,h3⟩:=adp h1
  obtain ⟨tw,e0⟩:=ab3 h h2
  obtain ⟨e1,na⟩:=ha.num (h3 a (by simp))
  obtain ⟨e2,nb⟩:=hb.num (h3 b (by simp))
  have hlen:(llq rs).length = rs.length:=length_map _
  have h5:rs.length <= 5:=by have:=tw.five; omega
  have hla:=na.len5 h5
  have hlb:=nb.len5 h5
  have htw:=tw.ok
  rw [hlen] at htw
  have hE:=a99 r h5
  have np:=af4 h5 htw (k:=rs.length) (le_refl rs.length) (le_refl _) na nb ha.cb hb.cb
  have hti:=aii (llq rs) rs.length r htw h5 ((llq rs).map nA) (fun j hj=>asq (by omega)) rs.length rs.length _ _ e f (le_refl _) (le_refl _) na nb ha.cb hb.cb (by omega)
  refine gW (Wk.of (sl:=[(1,some (nA (lq a))),(2,some (nA (lq b))),(3,some (.ptr 3 0)),(8,some (i64 (aa0 rs [a,b])))]) (hp:=[(3,some (.box [.lst 1 ((llq rs).map nA)]))]) (.cons rfl (Sub.of e1) (.cons rfl (Sub.of e2) (.k (.k .nil)))) (.cons rfl (BlkSub.boxL (.cons (.of (am2 e0)) .nil) rfl) .nil)) ?_
  refine gc hti ?_
  refine gc (afg _ h5 np.1) ?_
  refine gE2 ?_
  rw [if_pos h1,h1,np.2.1]; rfl
theorem a5j (rs:List (List Rt)) (r:Nat) (h:TR rs r) (a b:List Rt) (e f:Nat) (ha:NR a e) (hb:NR b f) (he:e + f + 1 <= lm rs.length) :
  FnC prog 58 [ae2 rs,nR a,nR b] (.tup [i64 (if aa0 rs [a,b] = 0 then T.sgn (aas (llq rs)) rs.length (T.add rs.length (dec rs.length (lq a)) (T.neg rs.length (dec rs.length (lq b)))) else 0),i64 (aa0 rs [a,b])]):=by
 have hr:=h.le
 have hlm:=alh rs.length
 refine gF0 func58 ?_
 refine gc (aep rs r h [a,b] (aoe ha hb) (by simp)) ?_
 refine gC (fun ht15=>?_) (fun ht15=>?_) (st2:=(77777,0))
 ·have h1:=afz ht15
  refine gE2 ?_
  rw [if_neg h1]; rfl
 ·have h1:=af1 ht15
  obtain ⟨h2,h3⟩:=adp h1
  obtain ⟨tw,e0⟩:=ab3 h h2
  obtain ⟨e1,na⟩:=ha.num (h3 a (by simp))
  obtain ⟨e2,nb⟩:=hb.num (h3 b (by simp))
  have hlen:(llq rs).length = rs.length:=length_map _
  have h5:rs.length <= 5:=by have:=tw.five; omega
  have hla:=na.len5 h5
  have hlb:=nb.len5 h5
  have htw:=tw.ok
  rw [hlen] at htw
  have qa:∀ q ∈ lq a,Qs q:=fun q hq=>ha.cb.qs (by omega) hq
  have qb:∀ q ∈ lq b,Qs q:=fun q hq=>hb.cb.qs (by omega) hq
  have qm:∀ q ∈ acd (lq b),Qs q:=fun q hq=>hb.cb.minus.qs (by omega) hq
  have np:=aih na (ag8 nb)
  have hsg:=am4 (llq rs) rs.length r htw h5 (fun j hj=>tw.pos j (by omega)) ((llq rs).map nA) (fun j hj=>asq (by omega)) rs.length _ _ (le_refl _) np (ha.cb.plus hb.cb.minus) (a2v (le_refl rs.length) (by have:=tw.three; omega) hr (by omega))
  refine gW (Wk.of (sl:=[(1,some (nA (lq a))),(2,some (nA (lq b))),(3,some (.ptr 3 0)),(8,some (i64 (aa0 rs [a,b])))]) (hp:=[(3,some (.box [.lst 1 ((llq rs).map nA)]))]) (.cons rfl (Sub.of e1) (.cons rfl (Sub.of e2) (.k (.k .nil)))) (.cons rfl (BlkSub.boxL (.cons (.of (am2 e0)) .nil) rfl) .nil)) ?_
  refine gc (ani _ qb (by omega)) ?_
  refine gc (agf _ _ qa qm (by omega) (by rw [acy]; omega)) ?_
  refine gc hsg ?_
  refine gD ?_
  refine gE2 ?_
  rw [if_pos h1,h1,adc,aey]; rfl
theorem a38 (rs:List (List Rt)) (r:Nat) (h:TR rs r) (a:List Rt) (e:Nat) (ha:NR a e) (he:e <= lm rs.length) :
  FnC prog 104 [ae2 rs,nR a] (.tup [i64 (if aa0 rs [a] = 0 then T.sgn (aas (llq rs)) rs.length (dec rs.length (lq a)) else 0),i64 (aa0 rs [a])]):=by
 have hr:=h.le
 have hlm:=alh rs.length
 refine gF0 func104 ?_
 refine gc (aep rs r h [a] (fun x hx=>by rw [List.mem_singleton.1 hx]; exact ⟨ha.ok,ha.len⟩) (by simp)) ?_
 refine gC (fun ht12=>?_) (fun ht12=>?_) (st2:=(77777,0))
 ·have h1:=afz ht12
  refine gE2 ?_
  rw [if_neg h1]; rfl
 ·have h1:=af1 ht12
  obtain ⟨h2,h3⟩:=adp h1
  obtain ⟨tw,e0⟩:=ab3 h h2
  obtain ⟨e1,na⟩:=ha.num (h3 a (by simp))
  have hlen:(llq rs).length = rs.length:=length_map _
  have h5:rs.length <= 5:=by have:=tw.five; omega
  have htw:=tw.ok
  rw [hlen] at htw
  have hsg:=am4 (llq rs) rs.length r htw h5 (fun j hj=>tw.pos j (by omega)) ((llq rs).map nA) (fun j hj=>asq (by omega)) rs.length _ _ (le_refl _) na ha.cb (a2v (le_refl rs.length) (by have:=tw.three; omega) hr (by omega))
  refine gW (Wk.of (sl:=[(1,some (nA (lq a))),(2,some (.ptr 2 0)),(6,some (i64 (aa0 rs [a])))]) (hp:=[(2,some (.box [.lst 1 ((llq rs).map nA)]))]) (.cons rfl (Sub.of e1) (.k (.k .nil))) (.cons rfl (BlkSub.boxL (.cons (.of (am2 e0)) .nil) rfl) .nil)) ?_
  refine gc hsg ?_
  refine gE2 ?_
  rw [if_pos h1,h1]; rfl
theorem a4o (rs:List (List Rt)) (r:Nat) (h:TR rs r) (a:List Rt) (e:Nat) (ha:NR a e) (he:e <= lm rs.length) :
  FnC prog 184 [ae2 rs,nR a] (.tup [nA (if aa0 rs [a] = 0 then aax (lq a) (2 ^ rs.length) else []),i64 (aa0 rs [a])]):=by
 have hlm:=alh rs.length
 refine gF0 func184 ?_
 refine gc (aep rs r h [a] (fun x hx=>by rw [List.mem_singleton.1 hx]; exact ⟨ha.ok,ha.len⟩) (by simp)) ?_
 refine gC (fun ht12=>?_) (fun ht12=>?_) (st2:=(77777,0))
 ·have h1:=afz ht12
  refine gR ?_
  exact ac3 (by rw [if_neg h1]; exact Sub.tup (.cons (.nil _ _ _) (.cons (.refl _) .nil)))
 ·have h1:=af1 ht12
  obtain ⟨h2,h3⟩:=adp h1
  obtain ⟨tw,e0⟩:=ab3 h h2
  obtain ⟨e1,na⟩:=ha.num (h3 a (by simp))
  have hlen:(llq rs).length = rs.length:=length_map _
  have h5:rs.length <= 5:=by have:=tw.five; omega
  have hp5:2 ^ rs.length <= 32:=abg (b:=5) h5
  refine gW (Wk.of (sl:=[(1,some (nA (lq a))),(2,some (.ptr 2 0)),(6,some (i64 (aa0 rs [a])))]) (hp:=[(2,some (.box [.lst 1 (rs.map nR)]))]) (.cons rfl (Sub.of e1) (.k (.k .nil))) (.cons rfl (.refl _) .nil)) ?_
  refine gl ?_
  refine gs (ag5 (.const _) (.tmp rfl) (by omega) (aj2 (by omega)) rfl) ?_
  refine gc (agj _ _ na.le (by omega)) ?_
  refine gE2 ?_
  rw [if_pos h1,h1]; rfl
theorem bcq (x:Rt) (hx:x.ok) (hs:Qs x.q):FnC prog 101 [x.av] (nA (sh 0 (x.q:Rat))):=by
 have hadd:=amj x (rt 0) hx Qs.zero.ok
 rw [boe] at hadd
 refine gF0 func101 ?_
 refine gc (ajx x hx) ?_
 refine gC (fun ht5=>?_) (fun ht5=>?_)
 ·have h0 : x.q = 0 := aja (by simpa [aab] using ht5)
  refine gR ?_
  exact adb (by rw [h0]; exact Sub.nil _ _ _)
 ·have h0 : x.q ≠ 0 := fun h => by rw [h] at ht5; cases ht5
  refine gc (Con.subA (.cons (.refl _) (.cons aiz .nil)) hadd) ?_
  refine gE1 ?_
  have:sh 0 (x.q:Rat) = [x.q]:=if_neg h0
  rw [this]; rfl
end Go.Lw
namespace Go.Lw
open Go.Proofs
theorem bc4 {p q:Rat} (hp:Qs p) (hq:Qs q):FnC prog 142 [qA p, qA q] (qA (p + q)):=by
 have h:=afk (rt p) (rt q) hp.ok hq.ok
 rw [agk,agk] at h
 exact h
theorem a9w {p q:Rat} (hp:Qs p) (hq:Qs q):FnC prog 258 [qA p, qA q] (qA (p - q)):=by
 have h:=arq (rt p) (rt q) hp.ok hq.ok
 rw [agk,agk] at h
 exact h
theorem a28 {p q:Rat} (hp:Qs p) (hq:Qs q):FnC prog 204 [qA p, qA q] (qA (p * q)):=by
 have h:=akh (rt p) (rt q) hp.ok hq.ok
 rw [agk,agk] at h
 exact h
theorem bmo {p q:Rat} (hp:Qs p) (hq:Qs q):FnC prog 396 [qA p, qA q] (.tup [qA (p / q), ahr (if q = 0 then 8 else 0)]):=by
 have h:=ar3 (rt p) (rt q) hp.ok hq.ok
 rw [agk,agk] at h
 exact h
theorem bpo {p:Rat} (hp:Qs p):FnC prog 69 [qA p] (qA (-p)):=by
 have h:=ahn (rt p) hp.ok
 rw [agk] at h
 exact h
theorem bm1 {p:Rat} (hp:Qs p):FnC prog 179 [qA p] (i64 (ajg p)):=by
 have h:=aeu (rt p) hp.ok
 rw [agk] at h
 exact h
theorem a6v {p q:Rat} (hp:Qs p) (hq:Qs q):FnC prog 188 [qA p, qA q] (qA (p + q)):=by
 have h:=amj (rt p) (rt q) hp.ok hq.ok
 rw [agk,agk] at h
 exact h
theorem bno {p q:Rat} (hp:Qs p) (hq:Qs q):FnC prog 192 [qA p, qA q] (qA (p - q)):=by
 have h:=axx (rt p) (rt q) hp.ok hq.ok
 rw [agk,agk] at h
 exact h
theorem bge {p q:Rat} (hp:Qs p) (hq:Qs q):FnC prog 190 [qA p, qA q] (qA (p * q)):=by
 have h:=axb (rt p) (rt q) hp.ok hq.ok
 rw [agk,agk] at h
 exact h
theorem bmp {p q:Rat} (hp:Qs p) (hq:Qs q):FnC prog 270 [qA p, qA q] (.tup [qA (p / q), i64 (if q = 0 then 8 else 0)]):=by
 have h:=a6d (rt p) (rt q) hp.ok hq.ok
 rw [agk,agk] at h
 exact h
theorem ai6 (x:Tn) (hx:x.t.ok):FnC prog 130 [x.av] (ahr x.err):=by
 refine gF0 func130 ?_
 refine gc (acj x.t hx) ?_
 refine gcG (fun _=>(aeu x.t hx)) ?_
 refine gC (fun ht16=>?_) (fun ht16=>?_)
 ·have h0:=Tn.err_yes ht16
  refine gE1 ?_
  rw [h0]; rfl
 ·have h0:=Tn.err_no ht16
  refine gE1 ?_
  rw [h0]; rfl
theorem aq4 {p q:Rat} (hp:Qs p) (hq:Qs q):FnC prog 384 [qA p, qA q] (qA (p / q)):=by
 refine gF0 func384 ?_
 refine gc (bmo hp hq) ?_
 refine gC (fun ht14=>?_) (fun ht14=>?_)
 ·have h0:q = 0:=by
   have:=acu ht14
   by_cases h:q = 0
   ·exact h
   ·rw [if_neg h] at this; exact absurd rfl this
  refine gR ?_
  exact adb (by rw [h0,bbg]; exact aiz)
 ·refine gE1 ?_
  rfl
theorem aiy (half:Bool) {t:Rat} {e:Nat} (ht:Qb e t) (he:e <= 1000000):FnC prog 334 [Tn.av ⟨rt t, half⟩] (.tup [qA (bbb half t), qA (ba9 half t)]):=by
 have qt:Qs t:=ht.qs (by omega)
 have m2:=ht.mul ht
 have one:Qb 1 (((1:Int):Rat)):=Qb.one
 have d:=one.add m2
 refine gF0 func334 ?_
 refine gC (fun ht8=>?_) (fun ht8=>?_)
 ·have h0:half = true:=ht8
  refine gc (ad2 (-1) (by omega)) ?_
  refine gR ?_
  exact ac3 (by subst h0; exact Sub.tup (.cons (.refl _) (.cons aiz .nil)))
 ·have h0:half = false:=ht8
  refine gc (ad2 1 (by omega)) ?_
  refine gc (a28 qt qt) ?_
  refine gD ?_
  refine gc (bc4 (one.qs (by omega)) (m2.qs (by omega))) ?_
  refine gc (a9w (one.qs (by omega)) (m2.qs (by omega))) ?_
  refine gc (aq4 ((one.sub m2).qs (by omega)) (d.qs (by omega))) ?_
  refine gc (bc4 qt qt) ?_
  refine gc (aq4 ((ht.add ht).qs (by omega)) (d.qs (by omega))) ?_
  refine gD ?_
  refine gE2 ?_
  subst h0; rfl
theorem a40 (x:Tn) (hx:x.t.ok) {e:Nat} (hq:Qb e x.t.q) (he:e <= 1000000):FnC prog 275 [x.av] (.tup [qA (if x.err = 0 then bbb x.half x.t.q else 0), ahr x.err]):=by
 refine gF0 func275 ?_
 refine gc (ai6 x hx) ?_
 refine gC (fun ht10=>?_) (fun ht10=>?_)
 ·have h1:=acu ht10
  refine gR ?_
  exact ac3 (by rw [if_neg h1]; exact Sub.tup (.cons aiz (.cons (.refl _) .nil)))
 ·have h1:=acs ht10
  have hd:=aiy x.half hq he
  rw [<- Rt.eq_rt hx (Tn.ok_valid h1)] at hd
  refine gc hd ?_
  refine gE2 ?_
  rw [if_pos h1,h1]; rfl
theorem a41 (x:Tn) (hx:x.t.ok) {e:Nat} (hq:Qb e x.t.q) (he:e <= 1000000):FnC prog 276 [x.av] (.tup [qA (if x.err = 0 then ba9 x.half x.t.q else 0), ahr x.err]):=by
 refine gF0 func276 ?_
 refine gc (ai6 x hx) ?_
 refine gC (fun ht10=>?_) (fun ht10=>?_)
 ·have h1:=acu ht10
  refine gR ?_
  exact ac3 (by rw [if_neg h1]; exact Sub.tup (.cons aiz (.cons (.refl _) .nil)))
 ·have h1:=acs ht10
  have hd:=aiy x.half hq he
  rw [<- Rt.eq_rt hx (Tn.ok_valid h1)] at hd
  refine gc hd ?_
  refine gE2 ?_
  rw [if_pos h1,h1]; rfl
theorem ayl (x:Tn) (hx:x.t.ok):FnC prog 97 [x.av] (i64 x.err):=by
 refine gF0 func97 ?_
 refine gc (agr x.t hx) ?_
 refine gcG (fun _=>(ajx x.t hx)) ?_
 refine gC (fun ht16=>?_) (fun ht16=>?_)
 ·have h0:=Tn.err_yes ht16
  refine gE1 ?_
  rw [h0]; rfl
 ·have h0:=Tn.err_no ht16
  refine gE1 ?_
  rw [h0]; rfl
theorem are:FnC prog 193 [] (qA 1):=by
 refine gF0 func193 ?_
 refine gc (amr 1 (by omega)) ?_
 refine gE1 ?_
 first | rfl | (simp; done)
theorem asp {p q:Rat} (hp:Qs p) (hq:Qs q):FnC prog 191 [qA p, qA q] (qA (p / q)):=by
 refine gF0 func191 ?_
 refine gc (bmp hp hq) ?_
 refine gE1 ?_
 first | rfl | (simp; done)
theorem a87 (half:Bool) {t:Rat} {e:Nat} (ht:Qb e t) (he:e <= 1000000):FnC prog 102 [Tn.av ⟨rt t, half⟩] (qA (bbb half t)):=by
 have qt:Qs t:=ht.qs (by omega)
 have m2:=ht.mul ht
 have d:=Qb.one.add m2
 refine gF0 func102 ?_
 refine gC (fun ht5=>?_) (fun ht5=>?_)
 ·have h0:half = true:=ht5
  refine gc (amr (-1) (by omega)) ?_
  refine gE1 ?_
  subst h0; rfl
 ·have h0:half = false:=ht5
  refine gc (bge qt qt) ?_
  refine gc are ?_
  refine gc (bno (Qb.one.qs (by omega)) (m2.qs (by omega))) ?_
  refine gc are ?_
  refine gc (a6v (Qb.one.qs (by omega)) (m2.qs (by omega))) ?_
  refine gc (asp ((Qb.one.sub m2).qs (by omega)) (d.qs (by omega))) ?_
  refine gD ?_
  refine gE1 ?_
  subst h0; rfl
theorem a6o (half:Bool) {t:Rat} {e:Nat} (ht:Qb e t) (he:e <= 1000000):FnC prog 103 [Tn.av ⟨rt t, half⟩] (qA (ba9 half t)):=by
 have qt:Qs t:=ht.qs (by omega)
 have m2:=ht.mul ht
 have d:=Qb.one.add m2
 refine gF0 func103 ?_
 refine gC (fun ht4=>?_) (fun ht4=>?_)
 ·have h0:half = true:=ht4
  refine gR ?_
  exact adb (by subst h0; exact aiz)
 ·have h0:half = false:=ht4
  refine gc (a6v qt qt) ?_
  refine gc are ?_
  refine gc (bge qt qt) ?_
  refine gc (a6v (Qb.one.qs (by omega)) (m2.qs (by omega))) ?_
  refine gc (asp ((ht.add ht).qs (by omega)) (d.qs (by omega))) ?_
  refine gD ?_
  refine gE1 ?_
  subst h0; rfl
end Go.Lw
namespace Go.Lw
open Go.Proofs
theorem bfn {ts:List (List Rat)} {r e f:Nat} (tw:Tw ts r) {a b:List Rat} (ha:Nm ts.length e a) (hb:Nm ts.length f b) (he:e + f <= lm ts.length) :
  FnC prog 322 [ad9 ts,nA a,nA b] (.tup [nA (sh ts.length (T.add ts.length (dec ts.length a) (dec ts.length b))),.v .nilIface]):=by
 have h:=az8 (ts.map (List.map rt)) r tw.tr (a.map rt) (b.map rt) e f (ha.rt (by omega)) (hb.rt (by omega)) (by rw [length_map]; exact he)
 have h0:aa0 (ts.map (List.map rt)) [a.map rt,b.map rt] = 0:=ai5 tw ha hb
 rw [h0,if_pos rfl,af3,af0,af0,ahb,ahb,length_map] at h
 exact h
theorem bex {ts:List (List Rat)} {r e f:Nat} (tw:Tw ts r) {a b:List Rat} (ha:Nm ts.length e a) (hb:Nm ts.length f b) (he:e + f <= lm ts.length) :
  FnC prog 321 [ad9 ts,nA a,nA b] (.tup [nA (sh ts.length (T.add ts.length (dec ts.length a) (T.neg ts.length (dec ts.length b)))),.v .nilIface]):=by
 have h:=azr (ts.map (List.map rt)) r tw.tr (a.map rt) (b.map rt) e f (ha.rt (by omega)) (hb.rt (by omega)) (by rw [length_map]; exact he)
 have h0:aa0 (ts.map (List.map rt)) [a.map rt,b.map rt] = 0:=ai5 tw ha hb
 rw [h0,if_pos rfl,af3,af0,af0,ahb,ahb,length_map] at h
 exact h
theorem a7u {ts:List (List Rat)} {r e f:Nat} (tw:Tw ts r) {a b:List Rat} (ha:Nm ts.length e a) (hb:Nm ts.length f b) (he:e + f <= lm ts.length) :
  FnC prog 56 [ad9 ts,nA a,nA b] (.tup [nA (sh ts.length (T.mul (aas ts) ts.length (dec ts.length a) (dec ts.length b))),.v .nilIface]):=by
 have h:=azw (ts.map (List.map rt)) r tw.tr (a.map rt) (b.map rt) e f (ha.rt (by omega)) (hb.rt (by omega)) (by rw [length_map]; exact he)
 have h0:aa0 (ts.map (List.map rt)) [a.map rt,b.map rt] = 0:=ai5 tw ha hb
 rw [h0,if_pos rfl,af3,af0,af0,aog,ahb,ahb,length_map] at h
 exact h
theorem awp {ts:List (List Rat)} {r e f:Nat} (tw:Tw ts r) {a b:List Rat} (ha:Nm ts.length e a) (hb:Nm ts.length f b) (he:e + f + 1 <= lm ts.length) :
  FnC prog 57 [ad9 ts,nA a,nA b] (.tup [i64 (T.sgn (aas ts) ts.length (T.add ts.length (dec ts.length a) (T.neg ts.length (dec ts.length b)))),.v .nilIface]):=by
 have h:=apl (ts.map (List.map rt)) r tw.tr (a.map rt) (b.map rt) e f (ha.rt (by omega)) (hb.rt (by omega)) (by rw [length_map]; exact he)
 have h0:aa0 (ts.map (List.map rt)) [a.map rt,b.map rt] = 0:=ai5 tw ha hb
 rw [h0,if_pos rfl,af3,af0,af0,aog,ahb,ahb,length_map] at h
 exact h
theorem ayr {ts:List (List Rat)} {r e:Nat} (tw:Tw ts r) {a:List Rat} (ha:Nm ts.length e a) (he:e <= lm ts.length) :
  FnC prog 40 [ad9 ts,nA a] (.tup [i64 (T.sgn (aas ts) ts.length (dec ts.length a)),.v .nilIface]):=by
 have h:=aw2 (ts.map (List.map rt)) r tw.tr (a.map rt) e (ha.rt he) (by rw [length_map]; exact he)
 have h0:aa0 (ts.map (List.map rt)) [a.map rt] = 0:=a0b tw ha
 rw [h0,if_pos rfl,af3,af0,aog,ahb,length_map] at h
 exact h
theorem boi {ts:List (List Rat)} {r e f:Nat} (tw:Tw ts r) {a b:List Rat} (ha:Nm ts.length e a) (hb:Nm ts.length f b) (he:e + f <= lm ts.length) :
  FnC prog 200 [ad9 ts,nA a,nA b] (.tup [nA (sh ts.length (T.add ts.length (dec ts.length a) (dec ts.length b))),i64 0]):=by
 have h:=a6z (ts.map (List.map rt)) r tw.tr (a.map rt) (b.map rt) e f (ha.rt (by omega)) (hb.rt (by omega)) (by rw [length_map]; exact he)
 have h0:aa0 (ts.map (List.map rt)) [a.map rt,b.map rt] = 0:=ai5 tw ha hb
 rw [h0,if_pos rfl,af3,af0,af0,ahb,ahb,length_map] at h
 exact h
theorem bmi {ts:List (List Rat)} {r e f:Nat} (tw:Tw ts r) {a b:List Rat} (ha:Nm ts.length e a) (hb:Nm ts.length f b) (he:e + f <= lm ts.length) :
  FnC prog 111 [ad9 ts,nA a,nA b] (.tup [nA (sh ts.length (T.add ts.length (dec ts.length a) (T.neg ts.length (dec ts.length b)))),i64 0]):=by
 have h:=a82 (ts.map (List.map rt)) r tw.tr (a.map rt) (b.map rt) e f (ha.rt (by omega)) (hb.rt (by omega)) (by rw [length_map]; exact he)
 have h0:aa0 (ts.map (List.map rt)) [a.map rt,b.map rt] = 0:=ai5 tw ha hb
 rw [h0,if_pos rfl,af3,af0,af0,ahb,ahb,length_map] at h
 exact h
theorem bob {ts:List (List Rat)} {r e f:Nat} (tw:Tw ts r) {a b:List Rat} (ha:Nm ts.length e a) (hb:Nm ts.length f b) (he:e + f <= lm ts.length) :
  FnC prog 128 [ad9 ts,nA a,nA b] (.tup [nA (sh ts.length (T.mul (aas ts) ts.length (dec ts.length a) (dec ts.length b))),i64 0]):=by
 have h:=ban (ts.map (List.map rt)) r tw.tr (a.map rt) (b.map rt) e f (ha.rt (by omega)) (hb.rt (by omega)) (by rw [length_map]; exact he)
 have h0:aa0 (ts.map (List.map rt)) [a.map rt,b.map rt] = 0:=ai5 tw ha hb
 rw [h0,if_pos rfl,af3,af0,af0,aog,ahb,ahb,length_map] at h
 exact h
theorem bog {ts:List (List Rat)} {r e f:Nat} (tw:Tw ts r) {a b:List Rat} (ha:Nm ts.length e a) (hb:Nm ts.length f b) (he:e + f + 1 <= lm ts.length) :
  FnC prog 58 [ad9 ts,nA a,nA b] (.tup [i64 (T.sgn (aas ts) ts.length (T.add ts.length (dec ts.length a) (T.neg ts.length (dec ts.length b)))),i64 0]):=by
 have h:=a5j (ts.map (List.map rt)) r tw.tr (a.map rt) (b.map rt) e f (ha.rt (by omega)) (hb.rt (by omega)) (by rw [length_map]; exact he)
 have h0:aa0 (ts.map (List.map rt)) [a.map rt,b.map rt] = 0:=ai5 tw ha hb
 rw [h0,if_pos rfl,af3,af0,af0,aog,ahb,ahb,length_map] at h
 exact h
theorem bhy {ts:List (List Rat)} {r e:Nat} (tw:Tw ts r) {a:List Rat} (ha:Nm ts.length e a) (he:e <= lm ts.length) :
  FnC prog 104 [ad9 ts,nA a] (.tup [i64 (T.sgn (aas ts) ts.length (dec ts.length a)),i64 0]):=by
 have h:=a38 (ts.map (List.map rt)) r tw.tr (a.map rt) e (ha.rt he) (by rw [length_map]; exact he)
 have h0:aa0 (ts.map (List.map rt)) [a.map rt] = 0:=a0b tw ha
 rw [h0,if_pos rfl,af3,af0,aog,ahb,length_map] at h
 exact h
theorem bfl {ts:List (List Rat)} {r e:Nat} (tw:Tw ts r) {a:List Rat} (ha:Nm ts.length e a) (he:e <= lm ts.length) :
  FnC prog 161 [ad9 ts,nA a] (.tup [nA (sh ts.length (T.neg ts.length (dec ts.length a))),.v .nilIface]):=by
 have h:=arc (ts.map (List.map rt)) r tw.tr (a.map rt) e (ha.rt he) (by rw [length_map]; exact he)
 have h0:aa0 (ts.map (List.map rt)) [a.map rt] = 0:=a0b tw ha
 rw [h0,if_pos rfl,af3,af0,ahb,length_map] at h
 exact h
theorem a0r {ts:List (List Rat)} {r:Nat} (tw:Tw ts r):FnC prog 158 [ad9 ts] (.v .nilIface):=by
 have h:=af8 (ts.map (List.map rt)) r tw.tr
 rw [tw.chk,af3] at h
 exact h
theorem axc {q:Rat} (h:Qs q):FnC prog 136 [qA q] (nA (sh 0 (q:Rat))):=by
 have h1:=a4c (rt q) h.ok (by rw [agk]; exact h)
 rw [agk] at h1
 exact h1
theorem azx {q:Rat} (h:Qs q):FnC prog 101 [qA q] (nA (sh 0 (q:Rat))):=by
 have h1:=bcq (rt q) h.ok (by rw [agk]; exact h)
 rw [agk] at h1
 exact h1
theorem aiq {ts:List (List Rat)} {r e:Nat} (tw:Tw ts r) (ls:List (List Rat)) (hl:∀ l ∈ ls, Nm ts.length e l) (he:e <= lm ts.length) (hn:ls.length <= 1000):FnC prog 164 [ad9 ts, .lst 1 (ls.map nA)] (.v .nilIface):=by
 refine gF0 func164 ?_
 refine gc (a0r tw) ?_
 refine gC (fun ht13=>?_) (fun ht13=>?_) (st1:=(3,0))
 ·cases ht13
 ·refine gl ?_
  refine gL1 [2,15,16] [2] (fun (i:Nat)=>[(17,some (i64 i))]) (fun _=>[]) (fun i=>i <= ls.length) (fun i=>ls.length - i) 0 (zero_le _) ?_
  rintro i hi K1 hK1
  refine gC (fun ht18=>?_) (fun ht18=>?_)
  ·have hin : i < ls.length := by simpa [aab] using ht18
   obtain ⟨l,hll⟩:=ab0 hin
   have hok:=hl l (mem_of_getElem? hll)
   refine gi (aaf hll) ?_
   refine gc (bfl tw hok he) ?_
   refine gC (fun ht28=>?_) (fun ht28=>?_) (st1:=(9,0))
   ·cases ht28
   ·refine ga aao ?_
    exact gK1 hK1 (i + 1) hin
  ·have hin : i = ls.length := by have : ls.length <= i := (by simpa [aab] using ht18); omega
   refine gE1 ?_
   first | rfl | (simp; done)
theorem ac5 {ts:List (List Rat)} {r e:Nat} (tw:Tw ts r) (ps:List (List Rat × List Rat)) (hl:∀ p ∈ ps, Nm ts.length e p.1 /\ Nm ts.length e p.2) (he:e <= lm ts.length) (hn:ps.length <= 500):FnC prog 170 [ad9 ts, .lst 2 (ps.map fun p=>ptA p.1 p.2)] (.v .nilIface):=by
 refine gF0 func170 ?_
 refine gl ?_
 refine gW (Wk.virt 900 1 rfl) ?_
 refine gL1 [2,8,9] [2] (fun (i:Nat)=>[(5,some (.ms 900 1 0 (2 * i))),(10,some (i64 i))]) (fun i=>[(900,some (.row 1 ((al2 (ps.take i)).map nA)))]) (fun i=>i <= ps.length) (fun i=>ps.length - i) 0 (zero_le _) ?_
 rintro i hi K1 hK1
 refine gC (fun ht11=>?_) (fun ht11=>?_) (st2:=(7,0))
 ·have hin : i < ps.length := by simpa [aab] using ht11
  obtain ⟨p,hp⟩:=ab0 hin
  have hfl:(al2 (ps.take i)).length = 2 * i:=by rw [amd,length_take]; omega
  refine gi (aaf hp) ?_
  refine gs (abj (.tmp rfl) rfl (by rw [length_map,hfl]) (.tmp rfl) T28 rfl T65 rfl rfl (by simp; omega) rfl rfl) ?_ (6,0)
  refine gW (Wk.of (sl:=[(2,some (.ptr 2 0)),(5,some (.ms 20 1 0 (2 * i + 2))),(8,some (.lst 2 (ps.map fun p=>ptA p.1 p.2))),(9,some (i64 ps.length)),(10,some (i64 i))]) (hp:=[(2,some (.box [.lst 1 (ts.map nA)])),(20,some (.row 1 ((al2 (ps.take (i + 1))).map nA)))]) abz (.cons rfl (.refl _) (.cons rfl (BlkSub.of (by rw [aaq hp,avi,map_append]; rfl)) .nil))) ?_ (6,0)
  refine gW (Wk.rekey (k:=20) (d:=900) rfl rfl) ?_
  refine ga aao ?_
  exact gK1 hK1 (i + 1) hin
 ·have hin : i = ps.length := by have : ps.length <= i := (by simpa [aab] using ht11); omega
  subst hin
  refine gW ((Wk.freeze (k:=900) rfl).trans <| Wk.of (sl:=[(2,some (.ptr 2 0)),(5,some (.lst 1 ((al2 ps).map nA)))]) (hp:=[(2,some (.box [.lst 1 (ts.map nA)]))]) (.k (.cons rfl (Sub.of (by rw [ab2 (by rw [length_map,amd,length_take]; omega),take_length])) .nil)) (.cons rfl (.refl _) .nil)) ?_
  refine gc (aiq tw (al2 ps) (av3 hl) he (by rw [amd]; omega)) ?_
  refine gE1 ?_
  first | rfl | (simp; done)
theorem anl (R:List AV) (a:List Rat):Con prog 320 [.ptr 1000 0, nA a, .v .nilIface] [(1000, some (.box [.lst 1 R, .v .nilIface]))] (nA a) [(1000, some (.box [.lst 1 R, .v .nilIface]))]:=by
 refine gF func320 (fun k z h=>ach h) ?_
 refine gC (fun ht11=>?_) (fun ht11=>?_) (st2:=(77777,0))
 ·refine gR ?_
  exact Fin.keep (aer rfl)
 ·cases ht11
theorem al8 {ts:List (List Rat)} {r e f:Nat} (tw:Tw ts r) {a b:List Rat} (ha:Nm ts.length e a) (hb:Nm ts.length f b) (he:e + f <= lm ts.length) :
  Con prog 257 [.ptr 1000 0,nA a,nA b] [(1000,some (au3 ts))] (nA (sh ts.length (T.add ts.length (dec ts.length a) (dec ts.length b)))) [(1000,some (au3 ts))]:=by
 refine gF func257 (fun k z h=>ach h) ?_
 refine gc (bfn tw ha hb he) ?_
 refine gt (aae (anl _ _) (.cons (.tmp rfl) (.cons (.tmp rfl) (.cons (.tmp rfl) .nil))) (by first | exact hH0 | exact hH1 rfl | exact hH2 rfl rfl) rfl rfl) ?_
 refine gR ?_
 exact Fin.keep (aer rfl)
theorem al0 {ts:List (List Rat)} {r e f:Nat} (tw:Tw ts r) {a b:List Rat} (ha:Nm ts.length e a) (hb:Nm ts.length f b) (he:e + f <= lm ts.length) :
  Con prog 255 [.ptr 1000 0,nA a,nA b] [(1000,some (au3 ts))] (nA (sh ts.length (T.add ts.length (dec ts.length a) (T.neg ts.length (dec ts.length b))))) [(1000,some (au3 ts))]:=by
 refine gF func255 (fun k z h=>ach h) ?_
 refine gc (bex tw ha hb he) ?_
 refine gt (aae (anl _ _) (.cons (.tmp rfl) (.cons (.tmp rfl) (.cons (.tmp rfl) .nil))) (by first | exact hH0 | exact hH1 rfl | exact hH2 rfl rfl) rfl rfl) ?_
 refine gR ?_
 exact Fin.keep (aer rfl)
theorem afw {ts:List (List Rat)} {r e f:Nat} (tw:Tw ts r) {a b:List Rat} (ha:Nm ts.length e a) (hb:Nm ts.length f b) (he:e + f <= lm ts.length) :
  Con prog 256 [.ptr 1000 0,nA a,nA b] [(1000,some (au3 ts))] (nA (sh ts.length (T.mul (aas ts) ts.length (dec ts.length a) (dec ts.length b)))) [(1000,some (au3 ts))]:=by
 refine gF func256 (fun k z h=>ach h) ?_
 refine gc (a7u tw ha hb he) ?_
 refine gt (aae (anl _ _) (.cons (.tmp rfl) (.cons (.tmp rfl) (.cons (.tmp rfl) .nil))) (by first | exact hH0 | exact hH1 rfl | exact hH2 rfl rfl) rfl rfl) ?_
 refine gR ?_
 exact Fin.keep (aer rfl)
theorem a90 {ts:List (List Rat)} {r e f:Nat} (tw:Tw ts r) {a b c d:List Rat} (ha:Nm ts.length e a) (hb:Nm ts.length e b) (hc:Nm ts.length f c) (hd:Nm ts.length f d) (he:2 * (e + f + kB r ts.length) <= lm ts.length) :
  Con prog 174 [.ptr 1000 0,ptA a b,ptA c d] [(1000,some (au3 ts))] (nA (sh ts.length (bgz ts (dec ts.length a) (dec ts.length b) (dec ts.length c) (dec ts.length d)))) [(1000,some (au3 ts))]:=by
 refine gF func174 (fun k z h=>ach h) ?_
 refine gt (aae (afw tw ha hc (by omega)) (.cons (.tmp rfl) (.cons (.tmp rfl) (.cons (.tmp rfl) .nil))) (by first | exact hH0 | exact hH1 rfl | exact hH2 rfl rfl) rfl rfl) ?_
 refine gt (aae (afw tw hb hd (by omega)) (.cons (.tmp rfl) (.cons (.tmp rfl) (.cons (.tmp rfl) .nil))) (by first | exact hH0 | exact hH1 rfl | exact hH2 rfl rfl) rfl rfl) ?_
 refine gt (aae (awo ▸ al8 tw (ha.mul tw rfl hc) (hb.mul tw rfl hd) (by omega)) (.cons (.tmp rfl) (.cons (.tmp rfl) (.cons (.tmp rfl) .nil))) (by first | exact hH0 | exact hH1 rfl | exact hH2 rfl rfl) rfl rfl) ?_
 refine gD ?_
 refine gR ?_
 exact Fin.keep (aer rfl)
theorem aq9 {ts:List (List Rat)} {r e f:Nat} (tw:Tw ts r) {a b c d:List Rat} (ha:Nm ts.length e a) (hb:Nm ts.length e b) (hc:Nm ts.length f c) (hd:Nm ts.length f d) (he:2 * (e + f + kB r ts.length) <= lm ts.length) :
  Con prog 169 [.ptr 1000 0,ptA a b,ptA c d] [(1000,some (au3 ts))] (nA (sh ts.length (an9 ts (dec ts.length a) (dec ts.length b) (dec ts.length c) (dec ts.length d)))) [(1000,some (au3 ts))]:=by
 refine gF func169 (fun k z h=>ach h) ?_
 refine gt (aae (afw tw ha hd (by omega)) (.cons (.tmp rfl) (.cons (.tmp rfl) (.cons (.tmp rfl) .nil))) (by first | exact hH0 | exact hH1 rfl | exact hH2 rfl rfl) rfl rfl) ?_
 refine gt (aae (afw tw hb hc (by omega)) (.cons (.tmp rfl) (.cons (.tmp rfl) (.cons (.tmp rfl) .nil))) (by first | exact hH0 | exact hH1 rfl | exact hH2 rfl rfl) rfl rfl) ?_
 refine gt (aae (alt ▸ al0 tw (ha.mul tw rfl hd) (hb.mul tw rfl hc) (by omega)) (.cons (.tmp rfl) (.cons (.tmp rfl) (.cons (.tmp rfl) .nil))) (by first | exact hH0 | exact hH1 rfl | exact hH2 rfl rfl) rfl rfl) ?_
 refine gD ?_
 refine gR ?_
 exact Fin.keep (aer rfl)
end Go.Lw
namespace Go.Lw
open Go.Proofs
theorem amw {ts:List (List Rat)} {r e:Nat} (tw:Tw ts r) {a b c d:List Rat} (ha:Nm ts.length e a) (hb:Nm ts.length e b) (hc:Nm ts.length e c) (hd:Nm ts.length e d) (he:2 * e <= lm ts.length) :
  Con prog 172 [.ptr 1000 0,ptA a b,ptA c d] [(1000,some (au3 ts))] (ptA (sh ts.length (subT ts (dec ts.length a) (dec ts.length c))) (sh ts.length (subT ts (dec ts.length b) (dec ts.length d)))) [(1000,some (au3 ts))]:=by
 refine gF func172 (fun k z h=>ach h) ?_
 refine gt (aae (al0 tw ha hc (by omega)) (.cons (.tmp rfl) (.cons (.tmp rfl) (.cons (.tmp rfl) .nil))) (by first | exact hH0 | exact hH1 rfl | exact hH2 rfl rfl) rfl rfl) ?_
 refine gt (aae (al0 tw hb hd (by omega)) (.cons (.tmp rfl) (.cons (.tmp rfl) (.cons (.tmp rfl) .nil))) (by first | exact hH0 | exact hH1 rfl | exact hH2 rfl rfl) rfl rfl) ?_
 refine gD ?_
 refine gR ?_
 exact Fin.keep (aer rfl)
theorem axw (R:List AV) (a:List Rat):Con prog 197 [.ptr 1000 0, nA a] [(1000, some (.box [.lst 1 R, .v .nilIface]))] (.tup [nA a, .v .nilIface]) [(1000, some (.box [.lst 1 R, .v .nilIface]))]:=by
 refine gF func197 (fun k z h=>ach h) ?_
 refine gC (fun ht10=>?_) (fun ht10=>?_) (st1:=(2,0))
 ·cases ht10
 ·refine gR ?_
  show Fin _ (AV.tup [nA a,.v .nilIface]) _ _
  exact Fin.keep (aer rfl)
theorem alj (R:List AV) (a b:List Rat):Con prog 171 [.ptr 1000 0, ptA a b] [(1000, some (.box [.lst 1 R, .v .nilIface]))] (.tup [ptA a b, .v .nilIface]) [(1000, some (.box [.lst 1 R, .v .nilIface]))]:=by
 refine gF func171 (fun k z h=>ach h) ?_
 refine gC (fun ht10=>?_) (fun ht10=>?_) (st1:=(2,0))
 ·cases ht10
 ·refine gR ?_
  show Fin _ (AV.tup [ptA a b,.v .nilIface]) _ _
  exact Fin.keep (aer rfl)
theorem avo {ts:List (List Rat)} {r e:Nat} (tw:Tw ts r) {a b c d p q:List Rat} (ha:Nm ts.length e a) (hb:Nm ts.length e b) (hc:Nm ts.length e c) (hd:Nm ts.length e d) (hp:Nm ts.length e p) (hq:Nm ts.length e q)
  (he:8 * e + 4 + 2 * kB r ts.length <= lm ts.length) :
  Con prog 196 [.ptr 1000 0,ptA a b,ptA c d,ptA p q] [(1000,some (au3 ts))] (nA (sh ts.length (amu ts (dec ts.length a) (dec ts.length b) (dec ts.length c) (dec ts.length d) (dec ts.length p) (dec ts.length q)))) [(1000,some (au3 ts))]:=by
 refine gF func196 (fun k z h=>ach h) ?_
 refine gt (aae (amw tw hc hd ha hb (by omega)) (.cons (.tmp rfl) (.cons (.tmp rfl) (.cons (.tmp rfl) .nil))) (by first | exact hH0 | exact hH1 rfl | exact hH2 rfl rfl) rfl rfl) ?_
 refine gt (aae (amw tw hp hq ha hb (by omega)) (.cons (.tmp rfl) (.cons (.tmp rfl) (.cons (.tmp rfl) .nil))) (by first | exact hH0 | exact hH1 rfl | exact hH2 rfl rfl) rfl rfl) ?_
 refine gt (aae (aql ▸ aq9 tw (hc.sub ha) (hd.sub hb) (hp.sub ha) (hq.sub hb) (by omega)) (.cons (.tmp rfl) (.cons (.tmp rfl) (.cons (.tmp rfl) .nil))) (by first | exact hH0 | exact hH1 rfl | exact hH2 rfl rfl) rfl rfl) ?_
 refine gD ?_
 refine gR ?_
 exact Fin.keep (aer rfl)
theorem ajq {ts:List (List Rat)} {r e:Nat} (tw:Tw ts r) {a b c d:List Rat} (ha:Nm ts.length e a) (hb:Nm ts.length e b) (hc:Nm ts.length e c) (hd:Nm ts.length e d) (he:e <= lm ts.length) (f:FuncId) (v:List Rat)
  (hf:Con prog f [.ptr 1000 0,ptA a b,ptA c d] [(1000,some (au3 ts))] (nA v) [(1000,some (au3 ts))]) :
  FnC prog 168 [ad9 ts,ptA a b,ptA c d,.fn f []] (.tup [nA v,.v .nilIface]):=by
 refine gF0 func168 ?_
 refine gc (ac5 (e:=e) tw [(a,b),(c,d)] (by simp only [mem_cons,not_mem_nil,or_false]; rintro p (rfl | rfl); exact ⟨ha,hb⟩; exact ⟨hc,hd⟩) he (by simp)) ?_
 refine gC (fun ht18=>?_) (fun ht18=>?_) (st1:=(3,0))
 ·cases ht18
 ·refine gs (aqr (.tmp rfl) (show Con prog f ([.ptr 22 0, ptA a b, ptA c d] ++ []) [(22, some (au3 ts))] (nA v) [(22, some (au3 ts))] from Con.rekeyB 22 rfl rfl rfl rfl hf) (.cons (.tmp rfl) (.cons (.tmp rfl) (.cons (.tmp rfl) .nil))) (by first | exact hH0 | exact hH1 rfl | exact hH2 rfl rfl) rfl rfl) ?_
  refine gt (aae (Con.rekeyB 22 rfl rfl rfl rfl (axw _ _)) (.cons (.tmp rfl) (.cons (.tmp rfl) .nil)) (by first | exact hH0 | exact hH1 rfl | exact hH2 rfl rfl) rfl rfl) ?_
  refine gE2 ?_
  rfl
theorem ap8 {ts:List (List Rat)} {r e:Nat} (tw:Tw ts r) {a b c d:List Rat} (ha:Nm ts.length e a) (hb:Nm ts.length e b) (hc:Nm ts.length e c) (hd:Nm ts.length e d) (he:2 * (e + e + kB r ts.length) <= lm ts.length) :
  FnC prog 91 [ad9 ts,ptA a b,ptA c d] (.tup [nA (sh ts.length (bgz ts (dec ts.length a) (dec ts.length b) (dec ts.length c) (dec ts.length d))),.v .nilIface]):=by
 refine gF0 func91 ?_
 refine gc (Con.subA (.cons (.refl _) (.cons (.refl _) (.cons (.refl _) (.cons (Sub.fn0 _) .nil)))) (ajq tw ha hb hc hd (by omega) _ _ (a90 tw ha hb hc hd he))) ?_
 refine gE2 ?_
 first | rfl | (simp; done)
theorem ar5 {ts:List (List Rat)} {r e:Nat} (tw:Tw ts r) {a b c d p q:List Rat} (ha:Nm ts.length e a) (hb:Nm ts.length e b) (hc:Nm ts.length e c) (hd:Nm ts.length e d) (hp:Nm ts.length e p) (hq:Nm ts.length e q)
  (he:8 * e + 10 + 2 * kB r ts.length <= lm ts.length) :
  FnC prog 307 [ad9 ts,ptA a b,ptA c d,ptA p q] (.tup [i64 (T.sgn (aas ts) ts.length (amu ts (dec ts.length a) (dec ts.length b) (dec ts.length c) (dec ts.length d) (dec ts.length p) (dec ts.length q))),.v .nilIface]):=by
 have ho:=axo tw ha hb hc hd hp hq
 refine gF0 func307 ?_
 refine gc (ac5 (e:=e) tw [(a,b),(c,d),(p,q)] (by simp only [mem_cons,not_mem_nil,or_false]; rintro x (rfl | rfl | rfl); exact ⟨ha,hb⟩; exact ⟨hc,hd⟩; exact ⟨hp,hq⟩) (by omega) (by simp)) ?_
 refine gC (fun ht21=>?_) (fun ht21=>?_) (st1:=(3,0))
 ·cases ht21
 ·refine gt (aae (Con.rekeyB 25 rfl rfl rfl rfl (avo tw ha hb hc hd hp hq (by omega))) (.cons (.tmp rfl) (.cons (.tmp rfl) (.cons (.tmp rfl) (.cons (.tmp rfl) .nil)))) (by first | exact hH0 | exact hH1 rfl | exact hH2 rfl rfl) rfl rfl) ?_
  refine gt (aae (Con.rekeyB 25 rfl rfl rfl rfl (axw _ _)) (.cons (.tmp rfl) (.cons (.tmp rfl) .nil)) (by first | exact hH0 | exact hH1 rfl | exact hH2 rfl rfl) rfl rfl) ?_
  refine gC (fun ht37=>?_) (fun ht37=>?_) (st1:=(7,0))
  ·cases ht37
  ·refine gc (ayr tw ho (by omega)) ?_
   refine gE2 ?_
   rw [ab9]
theorem ax0 {ts:List (List Rat)} {r e:Nat} (tw:Tw ts r) {a b c d:List Rat} (ha:Nm ts.length e a) (hb:Nm ts.length e b) (hc:Nm ts.length e c) (hd:Nm ts.length e d) (he:2 * e + 1 <= lm ts.length) :
  FnC prog 306 [ad9 ts,ptA a b,ptA c d] (.tup [bl (decide (T.sgn (aas ts) ts.length (subT ts (dec ts.length a) (dec ts.length c)) = 0 /\ T.sgn (aas ts) ts.length (subT ts (dec ts.length b) (dec ts.length d)) = 0)),.v .nilIface]):=by
 refine gF0 func306 ?_
 refine gc (ac5 (e:=e) tw [(a,b),(c,d)] (by simp only [mem_cons,not_mem_nil,or_false]; rintro p (rfl | rfl); exact ⟨ha,hb⟩; exact ⟨hc,hd⟩) (by omega) (by simp)) ?_
 refine gC (fun ht18=>?_) (fun ht18=>?_) (st1:=(3,0))
 ·cases ht18
 ·refine gc (awp tw ha hc (by omega)) ?_
  refine gC (fun ht30=>?_) (fun ht30=>?_) (st1:=(6,0))
  ·cases ht30
  ·refine gc (awp tw hb hd (by omega)) ?_
   refine gE2 ?_
   rw [<- a88]; rfl
theorem avc {ts:List (List Rat)} {r e:Nat} (tw:Tw ts r) {a b c d:List Rat} (ha:Nm ts.length e a) (hb:Nm ts.length e b) (hc:Nm ts.length e c) (hd:Nm ts.length e d) (he:2 * (e + e + kB r ts.length) <= lm ts.length) :
  FnC prog 165 [ad9 ts,nA a,nA b,ptA c d] (.tup [ptA (sh ts.length (a6h ts (dec ts.length a) (dec ts.length b) (dec ts.length c) (dec ts.length d))) (sh ts.length (a7k ts (dec ts.length a) (dec ts.length b) (dec ts.length c) (dec ts.length d))),.v .nilIface]):=by
 refine gF0 func165 ?_
 refine gc (aiq (e:=e) tw [a,b,c,d] (by simp only [mem_cons,not_mem_nil,or_false]; rintro x (rfl | rfl | rfl | rfl) <;> assumption) (by omega) (by simp)) ?_
 refine gC (fun ht22=>?_) (fun ht22=>?_) (st1:=(3,0))
 ·cases ht22
 ·refine gt (aae (Con.rekeyB 27 rfl rfl rfl rfl (afw tw ha hc (by omega))) (.cons (.tmp rfl) (.cons (.tmp rfl) (.cons (.tmp rfl) .nil))) (by first | exact hH0 | exact hH1 rfl | exact hH2 rfl rfl) rfl rfl) ?_
  refine gt (aae (Con.rekeyB 27 rfl rfl rfl rfl (afw tw hb hd (by omega))) (.cons (.tmp rfl) (.cons (.tmp rfl) (.cons (.tmp rfl) .nil))) (by first | exact hH0 | exact hH1 rfl | exact hH2 rfl rfl) rfl rfl) ?_
  refine gt (aae (Con.rekeyB 27 rfl rfl rfl rfl (alt ▸ al0 tw (ha.mul tw rfl hc) (hb.mul tw rfl hd) (by omega))) (.cons (.tmp rfl) (.cons (.tmp rfl) (.cons (.tmp rfl) .nil))) (by first | exact hH0 | exact hH1 rfl | exact hH2 rfl rfl) rfl rfl) ?_
  refine gt (aae (Con.rekeyB 27 rfl rfl rfl rfl (afw tw hb hc (by omega))) (.cons (.tmp rfl) (.cons (.tmp rfl) (.cons (.tmp rfl) .nil))) (by first | exact hH0 | exact hH1 rfl | exact hH2 rfl rfl) rfl rfl) ?_
  refine gt (aae (Con.rekeyB 27 rfl rfl rfl rfl (afw tw ha hd (by omega))) (.cons (.tmp rfl) (.cons (.tmp rfl) (.cons (.tmp rfl) .nil))) (by first | exact hH0 | exact hH1 rfl | exact hH2 rfl rfl) rfl rfl) ?_
  refine gt (aae (Con.rekeyB 27 rfl rfl rfl rfl (awo ▸ al8 tw (hb.mul tw rfl hc) (ha.mul tw rfl hd) (by omega))) (.cons (.tmp rfl) (.cons (.tmp rfl) (.cons (.tmp rfl) .nil))) (by first | exact hH0 | exact hH1 rfl | exact hH2 rfl rfl) rfl rfl) ?_
  refine gt (aae (Con.rekeyB 27 rfl rfl rfl rfl (alj _ _ _)) (.cons (.tmp rfl) (.cons (.tmp rfl) .nil)) (by first | exact hH0 | exact hH1 rfl | exact hH2 rfl rfl) rfl rfl) ?_
  refine gD ?_
  refine gE2 ?_
  rfl
theorem ayk {ts:List (List Rat)} {r e:Nat} (tw:Tw ts r) {a b c d:List Rat} (ha:Nm ts.length e a) (hb:Nm ts.length e b) (hc:Nm ts.length e c) (hd:Nm ts.length e d) (he:2 * e <= lm ts.length) :
  FnC prog 167 [ad9 ts,ptA a b,ptA c d] (.tup [ptA (sh ts.length (T.add ts.length (dec ts.length a) (dec ts.length c))) (sh ts.length (T.add ts.length (dec ts.length b) (dec ts.length d))),.v .nilIface]):=by
 refine gF0 func167 ?_
 refine gc (ac5 (e:=e) tw [(a,b),(c,d)] (by simp only [mem_cons,not_mem_nil,or_false]; rintro p (rfl | rfl); exact ⟨ha,hb⟩; exact ⟨hc,hd⟩) (by omega) (by simp)) ?_
 refine gC (fun ht16=>?_) (fun ht16=>?_) (st1:=(3,0))
 ·cases ht16
 ·refine gt (aae (Con.rekeyB 21 rfl rfl rfl rfl (al8 tw ha hc (by omega))) (.cons (.tmp rfl) (.cons (.tmp rfl) (.cons (.tmp rfl) .nil))) (by first | exact hH0 | exact hH1 rfl | exact hH2 rfl rfl) rfl rfl) ?_
  refine gt (aae (Con.rekeyB 21 rfl rfl rfl rfl (al8 tw hb hd (by omega))) (.cons (.tmp rfl) (.cons (.tmp rfl) (.cons (.tmp rfl) .nil))) (by first | exact hH0 | exact hH1 rfl | exact hH2 rfl rfl) rfl rfl) ?_
  refine gt (aae (Con.rekeyB 21 rfl rfl rfl rfl (alj _ _ _)) (.cons (.tmp rfl) (.cons (.tmp rfl) .nil)) (by first | exact hH0 | exact hH1 rfl | exact hH2 rfl rfl) rfl rfl) ?_
  refine gD ?_
  refine gE2 ?_
  rfl
theorem a42 {x y:Rat} (hx:Qs x) (hy:Qs y):FnC prog 166 [qA x, qA y] (ptA (sh 0 (x:Rat)) (sh 0 (y:Rat))):=by
 refine gF0 func166 ?_
 refine gc (axc hx) ?_
 refine gc (axc hy) ?_
 refine gD ?_
 refine gE1 ?_
 first | rfl | (simp; done)
theorem amx {ts:List (List Rat)} {r e:Nat} (tw:Tw ts r) {a b c d:List Rat} (ha:Nm ts.length e a) (hb:Nm ts.length e b) (hc:Nm ts.length e c) (hd:Nm ts.length e d) {x y:Rat} (hx:Qb e x) (hy:Qb e y) (he:8 * e + 4 * kB r ts.length + 4 <= lm ts.length) :
  FnC prog 86 [ad9 ts,.agg [nA a,nA b,nA c,nA d],qA x,qA y] (.tup [ptA (sh ts.length (atX ts (dec ts.length a) (dec ts.length b) (dec ts.length c) x y)) (sh ts.length (atY ts (dec ts.length a) (dec ts.length b) (dec ts.length d) x y)),.v .nilIface]):=by
 have hlm:=alh ts.length
 have nx:=Nm.ofQ ha.five (Cb.one hx)
 have ny:=Nm.ofQ ha.five (Cb.one hy)
 have nX:=amq tw ha hb nx ny
 have nY:=alq tw ha hb nx ny
 have z1:e <= 2 * (e + e + kB r ts.length) + 1:=by omega
 have z2:2 * (2 * (e + e + kB r ts.length) + 1) <= lm ts.length:=a50 he
 have hadd:=ayk tw nX nY (hc.mono z1) (hd.mono z1) z2
 refine gF0 func86 ?_
 refine gc (aiq (e:=e) tw [a,b,c,d] (by simp only [mem_cons,not_mem_nil,or_false]; rintro x (rfl | rfl | rfl | rfl) <;> assumption) (by omega) (by simp)) ?_
 refine gC (fun ht25=>?_) (fun ht25=>?_) (st1:=(3,0))
 ·cases ht25
 ·refine gc (a42 (hx.qs (by omega)) (hy.qs (by omega))) ?_
  refine gc (avc tw ha hb nx ny (by omega)) ?_
  refine gD ?_
  refine gC (fun ht41=>?_) (fun ht41=>?_) (st1:=(6,0))
  ·cases ht41
  ·refine gc hadd ?_
   refine gE2 ?_
   rw [avq,avk]; rfl
end Go.Lw
namespace Go.Lw
open Go.Proofs
theorem aws (rs:List (List Rt)) (r e:Nat) (h:TR rs r) (xs:List (List Rt)) (hx:∀ a ∈ xs, NR a e) (he:e <= lm rs.length) (hl:xs.length <= 1000):FnC prog 98 [ae2 rs, .lst 1 (xs.map nR)] (i64 (aa0 rs xs)):=by
 refine gF0 func98 ?_
 refine gc (arm rs r h) ?_
 refine gC (fun ht13=>?_) (fun ht13=>?_)
 ·have h1:=afz ht13
  refine gE1 ?_
  rw [aub h1]
 ·have h1:=af1 ht13
  refine gl ?_
  refine gL1 [2,15,16] [2] (fun (i:Nat)=>[(17,some (i64 i))]) (fun _=>[]) (fun i=>i <= xs.length /\ ∀ x ∈ xs.take i,agh rs.length x = 0) (fun i=>xs.length - i) 0 ⟨zero_le _,fun x hx=>by simp at hx⟩ ?_
  rintro i ⟨hi,hj⟩ K1 hK1
  refine gC (fun ht18=>?_) (fun ht18=>?_)
  ·have hin : i < xs.length := by simpa [aab] using ht18
   obtain ⟨a,ha⟩:=ab0 hin
   have hok:=hx a (mem_of_getElem? ha)
   have hone:aa0 rs [a] = agh rs.length a:=as8 h1
   refine gi (aaf ha) ?_
   refine gc (a4o rs r h a e hok he) ?_
   refine gC (fun ht28=>?_) (fun ht28=>?_)
   ·have h2:=afz ht28
    refine gE1 ?_
    rw [hone] at h2 ⊢; rw [ap4 h1 ha hj h2]
   ·have h2:=af1 ht28
    rw [hone] at h2
    refine ga aao ?_
    exact gK1 hK1 (i + 1) ⟨hin,fun x hx=>by rw [aaq ha] at hx; rcases List.mem_append.1 hx with h9 | h9; exact hj x h9; (rw [List.mem_singleton.1 h9]; exact h2)⟩
  ·have hin : i = xs.length := by have : xs.length <= i := (by simpa [aab] using ht18); omega
   subst hin
   rw [take_length] at hj
   refine gE1 ?_
   rw [ai4 h1 hj]; rfl
theorem aj7 {ts:List (List Rat)} {r e f:Nat} (tw:Tw ts r) {a b:List Rat} (ha:Nm ts.length e a) (hb:Nm ts.length f b) (he:e + f <= lm ts.length):FnC prog 118 [ad9 ts, nA a, nA b] (nA (sh ts.length (T.add ts.length (dec ts.length a) (dec ts.length b)))):=by
 refine gF0 func118 ?_
 refine gc (boi tw ha hb he) ?_
 refine gE1 ?_
 first | rfl | (simp; done)
theorem ag0 {ts:List (List Rat)} {r e f:Nat} (tw:Tw ts r) {a b:List Rat} (ha:Nm ts.length e a) (hb:Nm ts.length f b) (he:e + f <= lm ts.length):FnC prog 48 [ad9 ts, nA a, nA b] (nA (sh ts.length (T.add ts.length (dec ts.length a) (T.neg ts.length (dec ts.length b))))):=by
 refine gF0 func48 ?_
 refine gc (bmi tw ha hb he) ?_
 refine gE1 ?_
 first | rfl | (simp; done)
theorem ac1 {ts:List (List Rat)} {r e f:Nat} (tw:Tw ts r) {a b:List Rat} (ha:Nm ts.length e a) (hb:Nm ts.length f b) (he:e + f <= lm ts.length):FnC prog 59 [ad9 ts, nA a, nA b] (nA (sh ts.length (T.mul (aas ts) ts.length (dec ts.length a) (dec ts.length b)))):=by
 refine gF0 func59 ?_
 refine gc (bob tw ha hb he) ?_
 refine gE1 ?_
 first | rfl | (simp; done)
theorem anz {ts:List (List Rat)} {r e:Nat} (tw:Tw ts r) {a:List Rat} (ha:Nm ts.length e a) (he:e <= lm ts.length):FnC prog 44 [ad9 ts, nA a] (i64 (T.sgn (aas ts) ts.length (dec ts.length a))):=by
 refine gF0 func44 ?_
 refine gc (bhy tw ha he) ?_
 refine gE1 ?_
 first | rfl | (simp; done)
theorem ab8 {ts:List (List Rat)} {r e f:Nat} (tw:Tw ts r) {a b:List Rat} (ha:Nm ts.length e a) (hb:Nm ts.length f b) (he:e + f + 1 <= lm ts.length):FnC prog 27 [ad9 ts, nA a, nA b] (bl (eqT ts (dec ts.length a) (dec ts.length b))):=by
 refine gF0 func27 ?_
 refine gc (bog tw ha hb he) ?_
 refine gE1 ?_
 exact congrArg bl (az4 _)
theorem aos {ts:List (List Rat)} {r e:Nat} (tw:Tw ts r) {a b c d:List Rat} (ha:Nm ts.length e a) (hb:Nm ts.length e b) (hc:Nm ts.length e c) (hd:Nm ts.length e d) (he:2 * e + 1 <= lm ts.length):FnC prog 187 [ad9 ts, ptA a b, ptA c d] (bl (eqT ts (dec ts.length a) (dec ts.length c) && eqT ts (dec ts.length b) (dec ts.length d))):=by
 refine gF0 func187 ?_
 refine gc (ab8 tw ha hc (by omega)) ?_
 refine gcG (fun _=>(ab8 tw hb hd (by omega))) ?_
 refine gE1 ?_
 exact congrArg bl (ade _ _)
theorem awt {ts:List (List Rat)} {r e:Nat} (tw:Tw ts r) {a b c d:List Rat} (ha:Nm ts.length e a) (hb:Nm ts.length e b) (hc:Nm ts.length e c) (hd:Nm ts.length e d) (he:2 * (e + e + kB r ts.length) <= lm ts.length):FnC prog 108 [ad9 ts, ptA a b, ptA c d] (nA (sh ts.length (bgz ts (dec ts.length a) (dec ts.length b) (dec ts.length c) (dec ts.length d)))):=by
 refine gF0 func108 ?_
 refine gc (ac1 tw ha hc (by omega)) ?_
 refine gc (ac1 tw hb hd (by omega)) ?_
 refine gc (awo ▸ aj7 tw (ha.mul tw rfl hc) (hb.mul tw rfl hd) (by omega)) ?_
 refine gD ?_
 refine gE1 ?_
 first | rfl | (simp; done)
theorem api {ts:List (List Rat)} {r e:Nat} (tw:Tw ts r) {a b c d:List Rat} (ha:Nm ts.length e a) (hb:Nm ts.length e b) (hc:Nm ts.length e c) (hd:Nm ts.length e d) (he:2 * (e + e + kB r ts.length) <= lm ts.length):FnC prog 105 [ad9 ts, ptA a b, ptA c d] (nA (sh ts.length (an9 ts (dec ts.length a) (dec ts.length b) (dec ts.length c) (dec ts.length d)))):=by
 refine gF0 func105 ?_
 refine gc (ac1 tw ha hd (by omega)) ?_
 refine gc (ac1 tw hb hc (by omega)) ?_
 refine gc (alt ▸ ag0 tw (ha.mul tw rfl hd) (hb.mul tw rfl hc) (by omega)) ?_
 refine gD ?_
 refine gE1 ?_
 first | rfl | (simp; done)
theorem apc {ts:List (List Rat)} {r e:Nat} (tw:Tw ts r) {a b c d:List Rat} (ha:Nm ts.length e a) (hb:Nm ts.length e b) (hc:Nm ts.length e c) (hd:Nm ts.length e d) (he:2 * e <= lm ts.length):FnC prog 106 [ad9 ts, ptA a b, ptA c d] (ptA (sh ts.length (subT ts (dec ts.length a) (dec ts.length c))) (sh ts.length (subT ts (dec ts.length b) (dec ts.length d)))):=by
 refine gF0 func106 ?_
 refine gc (ag0 tw ha hc (by omega)) ?_
 refine gc (ag0 tw hb hd (by omega)) ?_
 refine gD ?_
 refine gE1 ?_
 first | rfl | (simp; done)
theorem au9 {ts:List (List Rat)} {r e:Nat} (tw:Tw ts r) {a b c d:List Rat} (ha:Nm ts.length e a) (hb:Nm ts.length e b) (hc:Nm ts.length e c) (hd:Nm ts.length e d) (he:2 * e <= lm ts.length):FnC prog 52 [ad9 ts, ptA a b, ptA c d] (ptA (sh ts.length (T.add ts.length (dec ts.length a) (dec ts.length c))) (sh ts.length (T.add ts.length (dec ts.length b) (dec ts.length d)))):=by
 refine gF0 func52 ?_
 refine gc (aj7 tw ha hc (by omega)) ?_
 refine gc (aj7 tw hb hd (by omega)) ?_
 refine gD ?_
 refine gE1 ?_
 first | rfl | (simp; done)
theorem ar8 {ts:List (List Rat)} {r e:Nat} (tw:Tw ts r) {a b c d:List Rat} (ha:Nm ts.length e a) (hb:Nm ts.length e b) (hc:Nm ts.length e c) (hd:Nm ts.length e d) (he:2 * (e + e + kB r ts.length) <= lm ts.length):FnC prog 53 [ad9 ts, nA a, nA b, ptA c d] (ptA (sh ts.length (a6h ts (dec ts.length a) (dec ts.length b) (dec ts.length c) (dec ts.length d))) (sh ts.length (a7k ts (dec ts.length a) (dec ts.length b) (dec ts.length c) (dec ts.length d)))):=by
 refine gF0 func53 ?_
 refine gc (ac1 tw ha hc (by omega)) ?_
 refine gc (ac1 tw hb hd (by omega)) ?_
 refine gc (alt ▸ ag0 tw (ha.mul tw rfl hc) (hb.mul tw rfl hd) (by omega)) ?_
 refine gc (ac1 tw hb hc (by omega)) ?_
 refine gc (ac1 tw ha hd (by omega)) ?_
 refine gc (awo ▸ aj7 tw (hb.mul tw rfl hc) (ha.mul tw rfl hd) (by omega)) ?_
 refine gD ?_
 refine gE1 ?_
 first | rfl | (simp; done)
theorem awz {ts:List (List Rat)} {r e:Nat} (tw:Tw ts r) {a b c d p q:List Rat} (ha:Nm ts.length e a) (hb:Nm ts.length e b) (hc:Nm ts.length e c) (hd:Nm ts.length e d) (hp:Nm ts.length e p) (hq:Nm ts.length e q)
  (he:8 * e + 10 + 2 * kB r ts.length <= lm ts.length) :
  FnC prog 119 [ad9 ts,ptA a b,ptA c d,ptA p q] (i64 (T.sgn (aas ts) ts.length (amu ts (dec ts.length a) (dec ts.length b) (dec ts.length c) (dec ts.length d) (dec ts.length p) (dec ts.length q)))):=by
 have ho:=axo tw ha hb hc hd hp hq
 refine gF0 func119 ?_
 refine gc (apc tw hc hd ha hb (by omega)) ?_
 refine gc (apc tw hp hq ha hb (by omega)) ?_
 refine gc (aql ▸ api tw (hc.sub ha) (hd.sub hb) (hp.sub ha) (hq.sub hb) (by omega)) ?_
 refine gc (anz tw ho (by omega)) ?_
 refine gD ?_
 refine gE1 ?_
 rw [ab9]
theorem a07 {x y:Rat} (hx:Qs x) (hy:Qs y):FnC prog 199 [qA x, qA y] (ptA (sh 0 (x:Rat)) (sh 0 (y:Rat))):=by
 refine gF0 func199 ?_
 refine gc (azx hx) ?_
 refine gc (azx hy) ?_
 refine gD ?_
 refine gE1 ?_
 first | rfl | (simp; done)
theorem a1h {ts:List (List Rat)} {r e:Nat} (tw:Tw ts r) {a b c d:List Rat} (ha:Nm ts.length e a) (hb:Nm ts.length e b) (hc:Nm ts.length e c) (hd:Nm ts.length e d) {x y:Rat} (hx:Qb e x) (hy:Qb e y) (he:8 * e + 4 * kB r ts.length + 4 <= lm ts.length) :
  FnC prog 198 [ad9 ts,.agg [nA a,nA b,nA c,nA d],qA x,qA y] (ptA (sh ts.length (atX ts (dec ts.length a) (dec ts.length b) (dec ts.length c) x y)) (sh ts.length (atY ts (dec ts.length a) (dec ts.length b) (dec ts.length d) x y))):=by
 have hlm:=alh ts.length
 have nx:=Nm.ofQ ha.five (Cb.one hx)
 have ny:=Nm.ofQ ha.five (Cb.one hy)
 have nX:=amq tw ha hb nx ny
 have nY:=alq tw ha hb nx ny
 have z1:e <= 2 * (e + e + kB r ts.length) + 1:=by omega
 have z2:2 * (2 * (e + e + kB r ts.length) + 1) <= lm ts.length:=a50 he
 have hadd:=au9 tw nX nY (hc.mono z1) (hd.mono z1) z2
 refine gF0 func198 ?_
 refine gc (a07 (hx.qs (by omega)) (hy.qs (by omega))) ?_
 refine gc (ar8 tw ha hb nx ny (by omega)) ?_
 refine gc hadd ?_
 refine gD ?_
 refine gE1 ?_
 rw [avq,avk]; rfl
theorem avn (n:Int) (h:-9223372036854775808 <= n /\ n <= 9223372036854775807):FnC prog 109 [i64 n] (nA (sh 0 ((n:Rat):Rat))):=by
 refine gF0 func109 ?_
 refine gc (amr n h) ?_
 refine gc (azx (awl h)) ?_
 refine gE1 ?_
 first | rfl | (simp; done)
theorem aor {ts:List (List Rat)} {r e:Nat} (tw:Tw ts r) {a b c d p q u v:List Rat} (ha:Nm ts.length e a) (hb:Nm ts.length e b) (hc:Nm ts.length e c) (hd:Nm ts.length e d) (hp:Nm ts.length e p) (hq:Nm ts.length e q) (hu:Nm ts.length e u) (hv:Nm ts.length e v) (he:2 * e + 1 <= lm ts.length) :
  FnC prog 47 [ad9 ts,.agg [nA a,nA b,nA c,nA d],.agg [nA p,nA q,nA u,nA v]] (bl (eqT ts (dec ts.length a) (dec ts.length p) && eqT ts (dec ts.length b) (dec ts.length q) && eqT ts (dec ts.length c) (dec ts.length u) && eqT ts (dec ts.length d) (dec ts.length v))):=by
 refine gF0 func47 ?_
 refine gc (ab8 tw ha hp (by omega)) ?_
 refine gcG (fun _=>(ab8 tw hb hq (by omega))) ?_
 refine gcG (fun _=>(ab8 tw hc hu (by omega))) ?_
 refine gcG (fun _=>(ab8 tw hd hv (by omega))) ?_
 refine gE1 ?_
 exact congrArg bl (axr _ _ _ _)
theorem az2:FnC prog 185 [] (.agg [nA [1], nA [], nA [], nA []]):=by
 refine gF0 func185 ?_
 refine gc (amr 1 (by omega)) ?_
 refine gc (azx (awl (n:=1) (by omega))) ?_
 refine gR ?_
 exact adb (.agg (.cons (.refl _) (.cons (.nil _ _ _) (.cons (.nil _ _ _) (.cons (.nil _ _ _) .nil)))) rfl)
end Go.Lw
namespace Go.Lw
open Go.Proofs
end Go.Lw
namespace Go.Lw
open Go.Proofs
section
variable {ts:List (List Rat)} {u k:Nat} {a b a2 b2:List Rat} {x y x2 y2:Et ts} {w v w' v' w2 v2 w3 v3:Nat}
theorem a4g (c:Ct ts u k) {R:Nat} (h:eB R ts.length <= k):2 * (2500 * 1000000 + 2500 * 1000000 + kB R ts.length) <= lm ts.length:=by
 have h1:=c.kk h
 have h2:=adm ts.length
 omega
theorem asb [c : Ct ts u k] [ha : Zl ts u k a x w v] [hb : Zl ts u k b y w' v'] [ha2 : Zl ts u k a2 x2 w2 v2] [hb2 : Zl ts u k b2 y2 w3 v3] (h : w + v + (w' + v') + (w2 + v2 + (w3 + v3)) <= 2500 := by decide) :
  FnC prog 106 [ad9 ts,ptA a b,ptA a2 b2] (ptA (sX (x - x2)) (sX (y - y2))):=by
 obtain ⟨R,tw,hk⟩:=c.ex
 have h0:=a4g c hk
 have h1:=apc (e:=2500 * 1000000) tw (ha.up c (by omega)) (hb.up c (by omega)) (ha2.up c (by omega)) (hb2.up c (by omega)) (by omega)
 rw [ha.eq,hb.eq,ha2.eq,hb2.eq] at h1
 exact h1
theorem a7i [c : Ct ts u k] [ha : Zl ts u k a x w v] [hb : Zl ts u k b y w' v'] [ha2 : Zl ts u k a2 x2 w2 v2] [hb2 : Zl ts u k b2 y2 w3 v3] (h : w + v + (w' + v') + (w2 + v2 + (w3 + v3)) <= 2500 := by decide) :
  FnC prog 108 [ad9 ts,ptA a b,ptA a2 b2] (nA (sX (dotE x y x2 y2))):=by
 obtain ⟨R,tw,hk⟩:=c.ex
 have h0:=a4g c hk
 have h1:=awt (e:=2500 * 1000000) tw (ha.up c (by omega)) (hb.up c (by omega)) (ha2.up c (by omega)) (hb2.up c (by omega)) (by omega)
 rw [ha.eq,hb.eq,ha2.eq,hb2.eq] at h1
 exact h1
theorem a1x [c : Ct ts u k] [ha : Zl ts u k a x w v] [hb : Zl ts u k b y w' v'] [ha2 : Zl ts u k a2 x2 w2 v2] [hb2 : Zl ts u k b2 y2 w3 v3] (h : w + v + (w' + v') + (w2 + v2 + (w3 + v3)) <= 2500 := by decide) :
  FnC prog 105 [ad9 ts,ptA a b,ptA a2 b2] (nA (sX (crsE x y x2 y2))):=by
 obtain ⟨R,tw,hk⟩:=c.ex
 have h0:=a4g c hk
 have h1:=api (e:=2500 * 1000000) tw (ha.up c (by omega)) (hb.up c (by omega)) (ha2.up c (by omega)) (hb2.up c (by omega)) (by omega)
 rw [ha.eq,hb.eq,ha2.eq,hb2.eq] at h1
 exact h1
theorem bar [c : Ct ts u k] [ha : Zl ts u k a x w v] [hb : Zl ts u k b y w' v'] [ha2 : Zl ts u k a2 x2 w2 v2] [hb2 : Zl ts u k b2 y2 w3 v3] (h : w + v + (w' + v') + (w2 + v2 + (w3 + v3)) <= 2500 := by decide) :
  FnC prog 91 [ad9 ts,ptA a b,ptA a2 b2] (.tup [nA (sX (dotE x y x2 y2)),.v .nilIface]):=by
 obtain ⟨R,tw,hk⟩:=c.ex
 have h0:=a4g c hk
 have h1:=ap8 (e:=2500 * 1000000) tw (ha.up c (by omega)) (hb.up c (by omega)) (ha2.up c (by omega)) (hb2.up c (by omega)) (by omega)
 rw [ha.eq,hb.eq,ha2.eq,hb2.eq] at h1
 exact h1
def atXE (c s X:Et ts) (p q:Rat):Et ts:=(c * qE p - s * qE q) + X
def atYE (c s Y:Et ts) (p q:Rat):Et ts:=(s * qE p + c * qE q) + Y
instance Zu.atXE [c:Ct ts u k] {x y z:Et ts} {p q:Rat} {w1 v1 w2 v2 w3 v3 w4 w5:Nat} [Zu u k x w1 v1] [Zu u k y w2 v2] [Zu u k z w3 v3] [Qz u p w4] [Qz u q w5]:Zu u k (atXE x y z p q) (w1 + w4 + (w2 + w5) + w3) (v1 + 0 + 1 + (v2 + 0 + 1) + 1 + v3 + 1) :=
  (inferInstance:Zu u k ((x * Lw.qE p - y * Lw.qE q) + z) _ _)
instance Zu.atYE [c:Ct ts u k] {x y z:Et ts} {p q:Rat} {w1 v1 w2 v2 w3 v3 w4 w5:Nat} [Zu u k x w1 v1] [Zu u k y w2 v2] [Zu u k z w3 v3] [Qz u p w4] [Qz u q w5]:Zu u k (atYE x y z p q) (w2 + w4 + (w1 + w5) + w3) (v2 + 0 + 1 + (v1 + 0 + 1) + 1 + v3 + 1) :=
  (inferInstance:Zu u k ((y * Lw.qE p + x * Lw.qE q) + z) _ _)
end
end Go.Lw
namespace Go.Lw
open Go.Proofs
def u8 (n:Nat):AV:=.v (.int .u8 n)
theorem ap6 {p q:Bool} {a b:Nat} {c:Nat} (hp:p = decide (a <= c)) (hq:q = decide (c <= b)):cond p q false = decide (a <= c /\ c <= b):=by
 subst hp; subst hq
 by_cases h:a <= c
 ·simp [h]
 ·simp [h]
theorem a5r (c k:Nat):aab .geq (c:Int) (k:Int) = decide (k <= c):=by simp only [aab,decide_eq_decide]; omega
theorem a9x (c k:Nat):aab .leq (c:Int) (k:Int) = decide (c <= k):=by simp only [aab,decide_eq_decide]; omega
theorem bd5 (c:Nat):cond (cond (aab .geq (c:Int) 97) (aab .leq (c:Int) 122) false) true (cond (aab .geq (c:Int) 65) (aab .leq (c:Int) 90) false) = aca c:=by
 have e1:cond (aab .geq (c:Int) 97) (aab .leq (c:Int) 122) false = decide (97 <= c /\ c <= 122):=ap6 (a5r c 97) (a9x c 122)
 have e2:cond (aab .geq (c:Int) 65) (aab .leq (c:Int) 90) false = decide (65 <= c /\ c <= 90):=ap6 (a5r c 65) (a9x c 90)
 rw [e1,e2]
 unfold aca
 cases decide (97 <= c /\ c <= 122) <;> rfl
theorem bbf (c:Nat):cond (cond (aab .geq (c:Int) 65) (aab .leq (c:Int) 90) false) true (cond (aab .geq (c:Int) 97) (aab .leq (c:Int) 122) false) = aca c:=by
 have e1:cond (aab .geq (c:Int) 97) (aab .leq (c:Int) 122) false = decide (97 <= c /\ c <= 122):=ap6 (a5r c 97) (a9x c 122)
 have e2:cond (aab .geq (c:Int) 65) (aab .leq (c:Int) 90) false = decide (65 <= c /\ c <= 90):=ap6 (a5r c 65) (a9x c 90)
 rw [e1,e2]
 unfold aca
 cases decide (97 <= c /\ c <= 122) <;> cases decide (65 <= c /\ c <= 90) <;> rfl
theorem a7t (c:Nat):cond (aab .geq (c:Int) 48) (aab .leq (c:Int) 57) false = ass c:=ap6 (a5r c 48) (a9x c 57)
theorem a5o (c:Nat):cond (cond (aca c) true (ass c)) true (aab .eql (c:Int) 95) = apk c:=by
 unfold apk
 have:aab .eql (c:Int) 95 = decide (c = 95):=by
  rw [Bool.eq_iff_iff]; simp only [aab,beq_iff_eq,decide_eq_true_eq]; omega
 rw [this]
 cases aca c <;> cases ass c <;> rfl
theorem akj (c:Nat):FnC prog 290 [u8 c] (bl (aca c)):=by
 refine gF0 func290 ?_
 refine gE1 ?_
 exact congrArg bl (bd5 c)
theorem atu (c:Nat):FnC prog 358 [u8 c] (bl (ass c)):=by
 refine gF0 func358 ?_
 refine gE1 ?_
 exact congrArg bl (a7t c)
theorem ax1 (c:Nat):FnC prog 291 [u8 c] (bl (apk c)):=by
 refine gF0 func291 ?_
 refine gc (akj c) ?_
 refine gcG (fun _=>(atu c)) ?_
 refine gE1 ?_
 exact congrArg bl (a5o c)
theorem akl (c:Nat):FnC prog 234 [u8 c] (bl (aca c)):=by
 refine gF0 func234 ?_
 refine gE1 ?_
 exact congrArg bl (bbf c)
theorem aud (c:Nat):FnC prog 236 [u8 c] (bl (ass c)):=by
 refine gF0 func236 ?_
 refine gE1 ?_
 exact congrArg bl (a7t c)
theorem aw4 (s:ByteArray) (hs:s.size <= 281474976710656):FnC prog 222 [.v (.string s)] (i64 (ag2 s)):=by
 refine gF0 func222 ?_
 refine gs (abx rfl rfl rfl (fun h=>al7 (.opt rfl (o1 h)) (.const _) T9 rfl (by omega) (by have:=bae h; omega) rfl)) ?_
 refine gcG (fun _=>(akj (acx s 0))) ?_
 refine gC (fun ht11=>?_) (fun ht11=>?_)
 ·have h0:ag2 s = 0:=a98 ht11
  refine gE1 ?_
  rw [h0]; rfl
 ·obtain ⟨h0, h1⟩:=a8l ht11
  refine gL1 [0] [] (fun (n:Nat)=>[(3,some (i64 n))]) (fun _=>[]) (fun n=>1 <= n /\ n <= s.size /\ ahg s 1 (s.size - 1) = ahg s n (s.size - n)) (fun n=>s.size - n) 1 ⟨le_refl _,h0,rfl⟩ ?_
  rintro n ⟨hn1,hn,hw⟩ K1 hK1
  refine gs (abx rfl rfl rfl (fun h=>al7 (.opt rfl (o1 h)) (.opt rfl (o1 h)) T9 rfl (by omega) (by have:=aa4 h; omega) rfl)) ?_
  refine gcG (fun _=>(ax1 (acx s n))) ?_
  refine gC (fun ht21=>?_) (fun ht21=>?_)
  ·have h2:n < s.size /\ apk (acx s n) = true:=bel ht21
   refine ga aao ?_
   exact gK1 hK1 (n + 1) ⟨by omega,by omega,by rw [hw,show s.size - n = (s.size - (n + 1)) + 1 by omega]; simp only [ahg,h2.2,if_true]⟩
  ·have h2:n < s.size -> apk (acx s n) = false:=a8j ht21
   have h3:ag2 s = n:=by
    unfold ag2
    rw [if_pos ⟨h0,h1⟩,hw]
    rcases lt_or_ge n s.size with h | h
    ·rw [show s.size - n = (s.size - (n + 1)) + 1 by omega]
     simp only [ahg,h2 h,Bool.false_eq_true,if_false]
    ·rw [show s.size - n = 0 by omega]; rfl
   refine gE1 ?_
   rw [h3]
theorem afs (s:ByteArray) (hs:s.size <= 281474976710656):FnC prog 138 [.v (.string s)] (bl (ala s)):=by
 refine gF0 func138 ?_
 refine gc (aw4 s hs) ?_
 refine gE1 ?_
 exact congrArg bl (a51 s)
theorem apa (s:ByteArray) (i:Nat):FnC prog 235 [.v (.string s), i64 i] (u8 (acx s i)):=by
 refine gF0 func235 ?_
 refine gC (fun ht8=>?_) (fun ht8=>?_)
 ·have h0:=aa4 ht8
  refine gs (al7 (.tmp rfl) (.tmp rfl) T9 rfl (by omega) (by omega) rfl) ?_
  refine gE1 ?_
  rfl
 ·have h0:=a6f ht8
  refine gE1 ?_
  rw [a2l (by omega)]; rfl
theorem aua (s:ByteArray) (hs:s.size <= 281474976710656):FnC prog 147 [.v (.string s), i64 0] (i64 ((if aca (acx s 0) then ahg s 0 s.size else 0:Nat))):=by
 refine gF0 func147 ?_
 refine gc (apa s 0) ?_
 refine gc (akl (acx s 0)) ?_
 refine gC (fun ht9=>?_) (fun ht9=>?_)
 ·have h0 : aca (acx s 0) = false := by simpa using ht9
  refine gE1 ?_
  rw [h0]; rfl
 ·have h0 : aca (acx s 0) = true := by simpa using ht9
  refine gL1 [0] [] (fun (n:Nat)=>[(1,some (i64 n))]) (fun _=>[]) (fun n=>n <= s.size /\ ahg s 0 s.size = ahg s n (s.size - n)) (fun n=>s.size - n) 0 ⟨zero_le _,rfl⟩ ?_
  rintro n ⟨hn,hw⟩ K1 hK1
  refine gc (apa s n) ?_
  refine gc (akl (acx s n)) ?_
  refine gcG (fun _=>(apa s n)) ?_
  refine gcG (fun _=>(aud (acx s n))) ?_
  refine gcG (fun _=>(apa s n)) ?_
  refine gC (fun ht26=>?_) (fun ht26=>?_)
  ·have h1:apk (acx s n) = true:=(a5o _).symm.trans ht26
   have h2:n < s.size:=by
    rcases lt_or_ge n s.size with h | h
    ·exact h
    ·rw [a2l h] at h1; cases h1
   refine ga aao ?_
   exact gK1 hK1 (n + 1) ⟨by omega,by rw [hw,show s.size - n = (s.size - (n + 1)) + 1 by omega]; simp only [ahg,h1,if_true]⟩
  ·have h1:apk (acx s n) = false:=(a5o _).symm.trans ht26
   have h2:ahg s 0 s.size = n:=by
    rw [hw]
    rcases lt_or_ge n s.size with h | h
    ·rw [show s.size - n = (s.size - (n + 1)) + 1 by omega]
     simp only [ahg,h1,Bool.false_eq_true,if_false]
    ·rw [show s.size - n = 0 by omega]; rfl
   refine gE1 ?_
   rw [h0,h2]; rfl
theorem ahy (s:ByteArray) (hs:s.size <= 281474976710656):FnC prog 71 [.v (.string s)] (bl (ala s)):=by
 refine gF0 func71 ?_
 refine gcG (fun _=>(aua s hs)) ?_
 refine gE1 ?_
 exact congrArg bl (a4i s)
end Go.Lw
namespace Go.Lw
open Go.Proofs
theorem agd (i:Int) (n:Nat):FnC prog 224 [i64 i, i64 n] (bl (inB i n)):=by
 refine gF0 func224 ?_
 refine gE1 ?_
 exact congrArg bl (a17 i n)
theorem ar6 (bs:List Bd) (hbs:∀ b ∈ bs, b.ok) (hl:bs.length <= 281474976710656):FnC prog 139 [.lst 2 (bs.map Bd.av)] (ahr (ad3 bs.length (bdE bs))):=by
 refine gF0 func139 ?_
 refine gl ?_
 refine gL1 [0,11,12] [] (fun (i:Nat)=>[(13,some (i64 i))]) (fun _=>[]) (fun i=>i <= bs.length /\ ∀ j,j < i -> bdE bs j = 0) (fun i=>bs.length - i) 0 ⟨zero_le _,fun j h=>by omega⟩ ?_
 rintro i ⟨hi,hj⟩ K1 hK1
 refine gC (fun ht14=>?_) (fun ht14=>?_)
 ·have hin:=aa4 ht14
  obtain ⟨b,hb⟩:=ab0 hin
  have hbd:bs.getD i default = b:=aag hb
  have hbo:=hbs b (mem_of_getElem? hb)
  have hbdup:=afu Bd.name hb
  refine gi (aaf hb) ?_
  refine gc (afs b.name hbo.name) ?_
  refine gC (fun ht21=>?_) (fun ht21=>?_)
  ·have h1:=adi ht21
   have e1:bdE bs i = 5:=by unfold bdE; rw [hbd,if_pos h1]
   refine gE1 ?_
   rw [aa2 hin hj (by rw [e1]; decide),e1]; rfl
  ·have h1:=adj ht21
   refine gs (aar (.tmp rfl) (.none _) (.some _ (.tmp rfl) (by omega)) T22 rfl T80 rfl (by omega) (by simp only [length_map]; omega) rfl) ?_
   refine ge rfl ?_
   refine gL1 [0,3,4,11,12,13] [4] (fun (k:Nat)=>[(25,some (.lst 2 ((bs.take i).map Bd.av))),(26,some (i64 i)),(27,some (i64 k))]) (fun _=>[]) (fun k=>k <= i /\ (bs.take k).any (fun y=>eqS y.name b.name) = false) (fun k=>i - k) 0 ⟨zero_le _,rfl⟩ ?_ (h1:=(.cons rfl (Sub.of (bng 2 Bd.av bs i)) (.cons rfl (Sub.int (by simp; omega)) (.k .nil))))
   rintro k ⟨hk,hd⟩ K2 hK2
   refine gC (fun ht28=>?_) (fun ht28=>?_)
   ·have hkn:=aa4 ht28
    obtain ⟨y,hy'⟩:∃ y,(bs.take i)[k]? = some y:=ab0 (by simp; omega)
    have hy:=(alo hy').1
    refine gi (aaf hy') ?_
    refine gC (fun ht35=>?_) (fun ht35=>?_)
    ·have h2:eqS y.name b.name = true:=ht35
     have e1:bdE bs i = 6:=by unfold bdE; rw [hbd,if_neg (by rw [h1]; decide),if_pos (by rw [hbdup]; exact ahd hy hkn h2)]
     refine gE1 ?_
     rw [aa2 hin hj (by rw [e1]; decide),e1]; rfl
    ·have h2:eqS y.name b.name = false:=ht35
     refine ga aao ?_
     exact gK1 hK2 (k + 1) ⟨hkn,aex hy hd h2⟩
   ·have hkn:=aaj hk ht28
    subst hkn
    have hnd:¬ aww (bs.map Bd.name) k = true:=by rw [hbdup,hd]; decide
    refine gl ?_
    refine gC (fun ht41=>?_) (fun ht41=>?_)
    ·have h3:8 < b.pts.length:=al5 ht41
     have e1:bdE bs k = 4:=by unfold bdE; rw [hbd,if_neg (by rw [h1]; decide),if_neg hnd,if_pos h3]
     refine gE1 ?_
     rw [aa2 hin hj (by rw [e1]; decide),e1]; rfl
    ·have h3:b.pts.length <= 8:=anr ht41
     have e1:bdE bs k = ad3 b.pts.length (mkE b.pts):=by unfold bdE; rw [hbd,if_neg (by rw [h1]; decide),if_neg hnd,if_neg (by omega)]
     refine gl ?_
     refine gL1 [0,4,11,12,13,44,45] [4] (fun (p:Nat)=>[(46,some (i64 p))]) (fun _=>[]) (fun p=>p <= b.pts.length /\ ∀ j,j < p -> mkE b.pts j = 0) (fun p=>b.pts.length - p) 0 ⟨zero_le _,fun j h=>by omega⟩ ?_
     rintro p ⟨hp,hpj⟩ K3 hK3
     refine gC (fun ht47=>?_) (fun ht47=>?_)
     ·have hpn:=aa4 ht47
      obtain ⟨m,hm⟩:=ab0 hpn
      have hmd:b.pts.getD p default = m:=aag hm
      have hmm:=mem_of_getElem? hm
      have hmdup:=afu Mk.name hm
      have hmo:=hbo.pts m hmm
      refine gi (aaf hm) ?_
      refine gc (afs m.name (hbo.names m hmm)) ?_
      refine gC (fun ht54=>?_) (fun ht54=>?_)
      ·have h4:=adi ht54
       have e2:mkE b.pts p = 5:=by unfold mkE; rw [hmd,if_pos h4]
       have e3:bdE bs k = 5:=by rw [e1,aa2 hpn hpj (by rw [e2]; decide),e2]
       refine gE1 ?_
       rw [aa2 hin hj (by rw [e3]; decide),e3]; rfl
      ·have h4:=adj ht54
       refine gs (aar (.tmp rfl) (.none _) (.some _ (.tmp rfl) (by omega)) T78 rfl T82 rfl (by omega) (by simp only [length_map]; omega) rfl) ?_
       refine ge rfl ?_
       refine gL1 [0,4,8,11,12,13,44,45,46] [4,8] (fun (q:Nat)=>[(59,some (.lst 7 ((b.pts.take p).map Mk.av))),(60,some (i64 p)),(61,some (i64 q))]) (fun _=>[]) (fun q=>q <= p /\ (b.pts.take q).any (fun y=>eqS y.name m.name) = false) (fun q=>p - q) 0 ⟨zero_le _,rfl⟩ ?_ (h1:=(.cons rfl (Sub.of (bng 7 Mk.av b.pts p)) (.cons rfl (Sub.int (by simp; omega)) (.k .nil))))
       rintro q ⟨hq,hqd⟩ K4 hK4
       refine gC (fun ht62=>?_) (fun ht62=>?_)
       ·have hqn:=aa4 ht62
        obtain ⟨y,hy'⟩:∃ y,(b.pts.take p)[q]? = some y:=ab0 (by simp; omega)
        have hy:=(alo hy').1
        refine gi (aaf hy') ?_
        refine gC (fun ht69=>?_) (fun ht69=>?_)
        ·have h5:eqS y.name m.name = true:=ht69
         have e2:mkE b.pts p = 6:=by unfold mkE; rw [hmd,if_neg (by rw [h4]; decide),if_pos (by rw [hmdup]; exact ahd hy hqn h5)]
         have e3:bdE bs k = 6:=by rw [e1,aa2 hpn hpj (by rw [e2]; decide),e2]
         refine gE1 ?_
         rw [aa2 hin hj (by rw [e3]; decide),e3]; rfl
        ·have h5:eqS y.name m.name = false:=ht69
         refine ga aao ?_
         exact gK1 hK4 (q + 1) ⟨hqn,aex hy hqd h5⟩
       ·have hqn:=aaj hq ht62
        subst hqn
        have hmnd:¬ aww (b.pts.map Mk.name) q = true:=by rw [hmdup,hqd]; decide
        refine gc (acj m.x hmo.x) ?_
        refine gcG (fun _=>(acj m.y hmo.y)) ?_
        refine gC (fun ht81=>?_) (fun ht81=>?_)
        ·have h6:=bf0 ht81
         have e2:mkE b.pts q = 3:=by unfold mkE; rw [hmd,if_neg (by rw [h4]; decide),if_neg hmnd,if_neg (by rintro ⟨g1,g2⟩; rcases h6 with g | g; (rw [g1] at g; cases g); (rw [g2] at g; cases g))]
         have e3:bdE bs k = 3:=by rw [e1,aa2 hpn hpj (by rw [e2]; decide),e2]
         refine gE1 ?_
         rw [aa2 hin hj (by rw [e3]; decide),e3]; rfl
        ·have h6:=ber ht81
         have e2:mkE b.pts q = 0:=by unfold mkE; rw [hmd,if_neg (by rw [h4]; decide),if_neg hmnd,if_pos h6]
         refine ga aao ?_
         exact gK1 hK3 (q + 1) ⟨hpn,fun j h9=>by rcases lt_or_ge j q with g | g; exact hpj j g; (have:j = q:=by omega); subst this; exact e2⟩
     ·have hpn:=aaj hp ht47
      subst hpn
      have e2:bdE bs k = 0:=e1.trans (ael hpj)
      refine ga aao ?_
      exact gK1 hK1 (k + 1) ⟨hin,fun j h9=>by rcases lt_or_ge j k with g | g; exact hj j g; (have:j = k:=by omega); subst this; exact e2⟩
 ·have hin:=aaj hi ht14
  subst hin
  refine gE1 ?_
  rw [ael hj]; rfl
end Go.Lw
namespace Go.Lw
open Go.Proofs
theorem as6 (l:Li) (hl:l.ok) (j:Jt):FnC prog 223 [l.av, j.av] (ahr (jt0 l j)):=by
 refine gF0 func223 ?_
 refine gC (fun ht15=>?_) (fun ht15=>?_)
 ·have h1:=bfe ht15
  refine gE1 ?_
  unfold jt0; rw [if_pos h1]; rfl
 ·have h1:=bf7 ht15
  refine gl ?_
  refine gc (agd j.a l.bodies.length) ?_
  refine glG ?_
  refine gcG (fun _=>(agd j.b l.bodies.length)) ?_
  refine gC (fun ht32=>?_) (fun ht32=>?_)
  ·have h2:=bf0 ht32
   refine gE1 ?_
   unfold jt0; rw [if_neg h1,if_pos h2]; rfl
  ·have h2:=ber ht32
   have h2n:¬ (inB j.a l.bodies.length = false \/ inB j.b l.bodies.length = false):=by rw [h2.1,h2.2]; simp
   obtain ⟨A,hA,pA,mA,zA0⟩:=aqg h2.1
   obtain ⟨B,hB,pB,mB,zB0⟩:=aqg h2.2
   refine gC (fun ht38=>?_) (fun ht38=>?_)
   ·have h3:=aek ht38
    refine gE1 ?_
    unfold jt0; rw [if_neg h1,if_neg h2n,if_pos h3]; rfl
   ·have h3:=ae9 ht38
    refine gi (aaf hB) ?_
    refine gi (aaf hA) ?_
    refine gl ?_
    refine gc (agd j.point A.pts.length) ?_
    refine glG ?_
    refine gcG (fun _=>(agd j.on B.pts.length)) ?_
    refine gD ?_
    refine gC (fun ht66=>?_) (fun ht66=>?_)
    ·have h4:=bf0 ht66
     refine gE1 ?_
     unfold jt0; rw [if_neg h1,if_neg h2n,if_neg h3,pA,pB,if_pos h4]; rfl
    ·have h4:=ber ht66
     have h4n:¬ (inB j.point A.pts.length = false \/ inB j.on B.pts.length = false):=by rw [h4.1,h4.2]; simp
     refine gC (fun ht70=>?_) (fun ht70=>?_)
     ·have h5:=aek ht70
      refine gC (fun ht73=>?_) (fun ht73=>?_)
      ·have h6:=an4 ht73
       refine gE1 ?_
       unfold jt0; rw [if_neg h1,if_neg h2n,if_neg h3,pA,pB,if_neg h4n,if_pos h5,if_pos h6]; rfl
      ·have h6:=as1 ht73
       refine gE1 ?_
       unfold jt0; rw [if_neg h1,if_neg h2n,if_neg h3,pA,pB,if_neg h4n,if_pos h5,if_neg (by rw [h6]; simp)]; rfl
     ·have h5:=ae9 ht70
      refine gl ?_
      refine gc (agd j.to B.pts.length) ?_
      refine gC (fun ht80=>?_) (fun ht80=>?_)
      ·have h6:=adi ht80
       refine gE1 ?_
       unfold jt0; rw [if_neg h1,if_neg h2n,if_neg h3,pA,pB,if_neg h4n,if_neg h5,if_pos h6]; rfl
      ·have h6:=adj ht80
       obtain ⟨m1,g1,d1,mm1,z1⟩:=asa h4.2
       obtain ⟨m2,g2,d2,mm2,z2⟩:=asa h6
       have mo1:=(hl.bodies B mB).pts m1 mm1
       have mo2:=(hl.bodies B mB).pts m2 mm2
       refine gi (aaf g1) ?_
       refine gi (aaf g2) ?_
       refine gD ?_
       refine gc (ako m1.x m2.x mo1.x mo2.x) ?_
       refine gcG (fun _=>(ako m1.y m2.y mo1.y mo2.y)) ?_
       refine gC (fun ht105=>?_) (fun ht105=>?_)
       ·have h7:=be1 ht105
        refine gE1 ?_
        unfold jt0; rw [if_neg h1,if_neg h2n,if_neg h3,pA,pB,if_neg h4n,if_neg h5,if_neg (by rw [h6]; decide),d1,d2,if_pos h7]; rfl
       ·have h7:=bfh ht105
        refine gE1 ?_
        unfold jt0; rw [if_neg h1,if_neg h2n,if_neg h3,pA,pB,if_neg h4n,if_neg h5,if_neg (by rw [h6]; decide),d1,d2,if_neg h7]; rfl
theorem ary (l:Li) (hl:l.ok):FnC prog 140 [l.av] (ahr (aqn l)):=by
 have hlj:=hl.lj
 refine gF0 func140 ?_
 refine gl ?_
 refine gC (fun ht11=>?_) (fun ht11=>?_)
 ·have h0:16 < l.joints.length:=al5 ht11
  refine gE1 ?_
  unfold aqn; rw [if_pos h0]; rfl
 ·have h0:l.joints.length <= 16:=anr ht11
  have e0:aqn l = ad3 l.joints.length (jtE l):=by unfold aqn; rw [if_neg (by omega)]
  refine gl ?_
  refine gL1 [1,14,15] [1] (fun (i:Nat)=>[(16,some (i64 i))]) (fun _=>[]) (fun i=>i <= l.joints.length /\ ∀ j,j < i -> jtE l j = 0) (fun i=>l.joints.length - i) 0 ⟨zero_le _,fun j h=>by omega⟩ ?_
  rintro i ⟨hi,hj⟩ K1 hK1
  refine gC (fun ht17=>?_) (fun ht17=>?_)
  ·have hin:=aa4 ht17
   obtain ⟨b,hb⟩:=ab0 hin
   have hbd:l.joints.getD i default = b:=aag hb
   have hbdup:=afu Jt.name hb
   refine gi (aaf hb) ?_
   refine gc (afs b.name (hl.jnames b (mem_of_getElem? hb))) ?_
   refine gC (fun ht24=>?_) (fun ht24=>?_)
   ·have h1:=adi ht24
    have e1:jtE l i = 5:=by unfold jtE; rw [hbd,if_pos h1]
    refine gE1 ?_
    rw [e0,aa2 hin hj (by rw [e1]; decide),e1]; rfl
   ·have h1:=adj ht24
    refine gs (aar (.tmp rfl) (.none _) (.some _ (.tmp rfl) (by omega)) T23 rfl T125 rfl (by omega) (by simp only [length_map]; omega) rfl) ?_
    refine ge rfl ?_
    refine gL1 [1,3,4,14,15,16] [1,4] (fun (k:Nat)=>[(29,some (.lst 7 ((l.joints.take i).map Jt.av))),(30,some (i64 i)),(31,some (i64 k))]) (fun _=>[]) (fun k=>k <= i /\ (l.joints.take k).any (fun y=>eqS y.name b.name) = false) (fun k=>i - k) 0 ⟨zero_le _,rfl⟩ ?_ (h1:=(.cons rfl (Sub.of (bng 7 Jt.av l.joints i)) (.cons rfl (Sub.int (by simp; omega)) (.k .nil))))
    rintro k ⟨hk,hd⟩ K2 hK2
    refine gC (fun ht32=>?_) (fun ht32=>?_)
    ·have hkn:=aa4 ht32
     obtain ⟨y,hy'⟩:∃ y,(l.joints.take i)[k]? = some y:=ab0 (by simp; omega)
     have hy:=(alo hy').1
     refine gi (aaf hy') ?_
     refine gC (fun ht39=>?_) (fun ht39=>?_)
     ·have h2:eqS y.name b.name = true:=ht39
      have e1:jtE l i = 6:=by unfold jtE; rw [hbd,if_neg (by rw [h1]; decide),if_pos (by rw [hbdup]; exact ahd hy hkn h2)]
      refine gE1 ?_
      rw [e0,aa2 hin hj (by rw [e1]; decide),e1]; rfl
     ·have h2:eqS y.name b.name = false:=ht39
      refine ga aao ?_
      exact gK1 hK2 (k + 1) ⟨hkn,aex hy hd h2⟩
    ·have hkn:=aaj hk ht32
     subst hkn
     have hnd:¬ aww (l.joints.map Jt.name) k = true:=by rw [hbdup,hd]; decide
     have e1:jtE l k = jt0 l b:=by unfold jtE; rw [hbd,if_neg (by rw [h1]; decide),if_neg hnd]
     refine gc (as6 l hl b) ?_
     refine gC (fun ht46=>?_) (fun ht46=>?_)
     ·have h3:=acu ht46
      refine gE1 ?_
      rw [e0,aa2 hin hj (by rw [e1]; exact h3),e1]
     ·have h3:=acs ht46
      refine ga aao ?_
      exact gK1 hK1 (k + 1) ⟨hin,fun j h9=>by rcases lt_or_ge j k with g | g; exact hj j g; (have:j = k:=by omega); subst this; exact e1.trans h3⟩
  ·have hin:=aaj hi ht17
   subst hin
   refine gE1 ?_
   rw [e0,ael hj]; rfl
theorem arb (l:Li) (hl:l.ok):FnC prog 141 [l.av] (ahr (ayn l)):=by
 have hld:=hl.ld
 refine gF0 func141 ?_
 refine gl ?_
 refine gC (fun ht12=>?_) (fun ht12=>?_)
 ·have h0:2 < l.drivers.length:=al5 ht12
  refine gE1 ?_
  unfold ayn; rw [if_pos h0]; rfl
 ·have h0:l.drivers.length <= 2:=anr ht12
  have e0:ayn l = ad3 l.drivers.length (drE l):=by unfold ayn; rw [if_neg (by omega)]
  refine gl ?_
  refine gL1 [1,15,16] [1] (fun (i:Nat)=>[(17,some (i64 i))]) (fun _=>[]) (fun i=>i <= l.drivers.length /\ ∀ j,j < i -> drE l j = 0) (fun i=>l.drivers.length - i) 0 ⟨zero_le _,fun j h=>by omega⟩ ?_
  rintro i ⟨hi,hj⟩ K1 hK1
  refine gC (fun ht18=>?_) (fun ht18=>?_)
  ·have hin:=aa4 ht18
   obtain ⟨b,hb⟩:=ab0 hin
   have hbd:l.drivers.getD i default = b:=aag hb
   have hbdup:=afu Dr.name hb
   refine gi (aaf hb) ?_
   refine gc (afs b.name (hl.dnames b (mem_of_getElem? hb))) ?_
   refine gC (fun ht25=>?_) (fun ht25=>?_)
   ·have h1:=adi ht25
    have e1:drE l i = 5:=by unfold drE; rw [hbd,if_pos h1]
    refine gE1 ?_
    rw [e0,aa2 hin hj (by rw [e1]; decide),e1]; rfl
   ·have h1:=adj ht25
    refine gs (aar (.tmp rfl) (.none _) (.some _ (.tmp rfl) (by omega)) T24 rfl T127 rfl (by omega) (by simp only [length_map]; omega) rfl) ?_
    refine ge rfl ?_
    refine gL1 [1,3,4,15,16,17] [1,4] (fun (k:Nat)=>[(30,some (.lst 2 ((l.drivers.take i).map Dr.av))),(31,some (i64 i)),(32,some (i64 k))]) (fun _=>[]) (fun k=>k <= i /\ (l.drivers.take k).any (fun y=>eqS y.name b.name) = false) (fun k=>i - k) 0 ⟨zero_le _,rfl⟩ ?_ (h1:=(.cons rfl (Sub.of (bng 2 Dr.av l.drivers i)) (.cons rfl (Sub.int (by simp; omega)) (.k .nil))))
    rintro k ⟨hk,hd⟩ K2 hK2
    refine gC (fun ht33=>?_) (fun ht33=>?_)
    ·have hkn:=aa4 ht33
     obtain ⟨y,hy'⟩:∃ y,(l.drivers.take i)[k]? = some y:=ab0 (by simp; omega)
     have hy:=(alo hy').1
     refine gi (aaf hy') ?_
     refine gC (fun ht40=>?_) (fun ht40=>?_)
     ·have h2:eqS y.name b.name = true:=ht40
      have e1:drE l i = 6:=by unfold drE; rw [hbd,if_neg (by rw [h1]; decide),if_pos (by rw [hbdup]; exact ahd hy hkn h2)]
      refine gE1 ?_
      rw [e0,aa2 hin hj (by rw [e1]; decide),e1]; rfl
     ·have h2:eqS y.name b.name = false:=ht40
      refine ga aao ?_
      exact gK1 hK2 (k + 1) ⟨hkn,aex hy hd h2⟩
    ·have hkn:=aaj hk ht33
     subst hkn
     have hnd:¬ aww (l.drivers.map Dr.name) k = true:=by rw [hbdup,hd]; decide
     refine gl ?_
     refine gc (agd b.body l.bodies.length) ?_
     refine gC (fun ht49=>?_) (fun ht49=>?_)
     ·have h3:=adi ht49
      have e1:drE l k = 9:=by unfold drE; rw [hbd,if_neg (by rw [h1]; decide),if_neg hnd,if_pos h3]
      refine gE1 ?_
      rw [e0,aa2 hin hj (by rw [e1]; decide),e1]; rfl
     ·have h3:=adj ht49
      refine gC (fun ht53=>?_) (fun ht53=>?_)
      ·have h4:=aek ht53
       have e1:drE l k = 7:=by unfold drE; rw [hbd,if_neg (by rw [h1]; decide),if_neg hnd,if_neg (by rw [h3]; decide),if_pos h4]
       refine gE1 ?_
       rw [e0,aa2 hin hj (by rw [e1]; decide),e1]; rfl
      ·have h4:=ae9 ht53
       have e1:drE l k = if (l.drivers.take k).any (fun d=>decide (d.body = b.body)) = true then 6 else 0:=by unfold drE; rw [hbd,if_neg (by rw [h1]; decide),if_neg hnd,if_neg (by rw [h3]; decide),if_neg h4]
       refine gs (aar (.tmp rfl) (.none _) (.some _ (.tmp rfl) (by omega)) T24 rfl T127 rfl (by omega) (by simp only [length_map]; omega) rfl) ?_
       refine ge rfl ?_
       refine gL1 [1,4,15,16,17] [1,4] (fun (q:Nat)=>[(58,some (.lst 2 ((l.drivers.take k).map Dr.av))),(59,some (i64 k)),(60,some (i64 q))]) (fun _=>[]) (fun q=>q <= k /\ (l.drivers.take q).any (fun d=>decide (d.body = b.body)) = false) (fun q=>k - q) 0 ⟨zero_le _,rfl⟩ ?_ (h1:=(.cons rfl (Sub.of (bng 2 Dr.av l.drivers k)) (.cons rfl (Sub.int (by simp; omega)) (.k .nil))))
       rintro q ⟨hq,hqd⟩ K3 hK3
       refine gC (fun ht61=>?_) (fun ht61=>?_)
       ·have hqn:=aa4 ht61
        obtain ⟨y,hy'⟩:∃ y,(l.drivers.take k)[q]? = some y:=ab0 (by simp; omega)
        have hy:=(alo hy').1
        refine gi (aaf hy') ?_
        refine gC (fun ht68=>?_) (fun ht68=>?_)
        ·have h5:decide (y.body = b.body) = true:=decide_eq_true (aek ht68)
         have e2:drE l k = 6:=by rw [e1,if_pos (ahd hy hqn h5)]
         refine gE1 ?_
         rw [e0,aa2 hin hj (by rw [e2]; decide),e2]; rfl
        ·have h5:decide (y.body = b.body) = false:=decide_eq_false (ae9 ht68)
         refine ga aao ?_
         exact gK1 hK3 (q + 1) ⟨hqn,aex hy hqd h5⟩
       ·have hqn:=aaj hq ht61
        subst hqn
        have e2:drE l q = 0:=by rw [e1,hqd]; rfl
        refine ga aao ?_
        exact gK1 hK1 (q + 1) ⟨hin,fun j h9=>by rcases lt_or_ge j q with g | g; exact hj j g; (have:j = q:=by omega); subst this; exact e2⟩
  ·have hin:=aaj hi ht18
   subst hin
   refine gE1 ?_
   rw [e0,ael hj]; rfl
theorem aix (l:Li) (hl:l.ok):FnC prog 65 [l.av] (ahr (liE l)):=by
 have hlb:=hl.lb
 refine gF0 func65 ?_
 refine gc (afs l.name hl.name) ?_
 refine gC (fun ht8=>?_) (fun ht8=>?_)
 ·have h1:=adi ht8
  refine gE1 ?_
  unfold liE; rw [if_pos h1]; rfl
 ·have h1:=adj ht8
  refine gl ?_
  refine gC (fun ht13=>?_) (fun ht13=>?_)
  ·have h2:=bgb ht13
   refine gE1 ?_
   unfold liE; rw [if_neg (by rw [h1]; decide),if_pos h2]; rfl
  ·have h2:=bfk ht13
   refine gl ?_
   refine gC (fun ht18=>?_) (fun ht18=>?_)
   ·have h3:8 < l.bodies.length:=al5 ht18
    refine gE1 ?_
    unfold liE; rw [if_neg (by rw [h1]; decide),if_neg h2,if_pos h3]; rfl
   ·have h3:l.bodies.length <= 8:=anr ht18
    have e0:liE l = if azy l ≠ 0 then azy l else if aqn l ≠ 0 then aqn l else ayn l:=by unfold liE; rw [if_neg (by rw [h1]; decide),if_neg h2,if_neg (by omega)]
    refine gc (ar6 l.bodies hl.bodies hlb) ?_
    refine gC (fun ht24=>?_) (fun ht24=>?_)
    ·have h4:azy l ≠ 0:=acu ht24
     refine gE1 ?_
     rw [e0,if_pos h4]; rfl
    ·have h4:azy l = 0:=acs ht24
     refine gc (ary l hl) ?_
     refine gC (fun ht29=>?_) (fun ht29=>?_)
     ·have h5:=acu ht29
      refine gE1 ?_
      rw [e0,if_neg (by rw [h4]; simp),if_pos h5]
     ·have h5:=acs ht29
      refine gc (arb l hl) ?_
      refine gE1 ?_
      rw [e0,if_neg (by rw [h4]; simp),if_neg (by rw [h5]; simp)]
end Go.Lw
namespace Go.Lw
open Go.Proofs
theorem afd (i:Int) (n:Nat):FnC prog 149 [i64 i, i64 n] (bl (inB i n)):=by
 refine gF0 func149 ?_
 refine gE1 ?_
 exact congrArg bl (a17 i n)
theorem a44 (p q:Mk) (hp:p.ok) (hq:q.ok):FnC prog 150 [p.av, q.av] (bl (decide (p.x.q = q.x.q /\ p.y.q = q.y.q))):=by
 refine gF0 func150 ?_
 refine gc (avd p.x q.x hp.x hq.x ((hp.qx.sub hq.qx).qs (by omega))) ?_
 refine gcG (fun _=>(avd p.y q.y hp.y hq.y ((hp.qy.sub hq.qy).qs (by omega)))) ?_
 refine gE1 ?_
 exact congrArg bl bck
theorem avs (b:Bd) (hbo:b.ok):FnC prog 148 [b.av] (i64 (if 8 < b.pts.length then 4 else ad3 b.pts.length (mkE b.pts):Nat)):=by
 have hll:=hbo.ll
 refine gF0 func148 ?_
 refine gl ?_
 refine gC (fun ht9=>?_) (fun ht9=>?_)
 ·have h0:8 < b.pts.length:=al5 ht9
  refine gE1 ?_
  rw [if_pos h0]; rfl
 ·have h0:b.pts.length <= 8:=anr ht9
  have e0:(if 8 < b.pts.length then 4 else ad3 b.pts.length (mkE b.pts):Nat) = ad3 b.pts.length (mkE b.pts):=if_neg (by omega)
  refine gL1 [1] [1] (fun (p:Nat)=>[(3,some (i64 p))]) (fun _=>[]) (fun p=>p <= b.pts.length /\ ∀ j,j < p -> mkE b.pts j = 0) (fun p=>b.pts.length - p) 0 ⟨zero_le _,fun j h=>by omega⟩ ?_
  rintro p ⟨hp,hpj⟩ K1 hK1
  refine gl ?_
  refine gC (fun ht14=>?_) (fun ht14=>?_)
  ·have hpn:=aa4 ht14
   obtain ⟨m,hm⟩:=ab0 hpn
   have hmd:b.pts.getD p default = m:=aag hm
   have hmm:=mem_of_getElem? hm
   have hmdup:=afu Mk.name hm
   have hmo:=hbo.pts m hmm
   refine gi (aaf hm) ?_
   refine gc (ahy m.name (hbo.names m hmm)) ?_
   refine gC (fun ht25=>?_) (fun ht25=>?_)
   ·have h4:=adi ht25
    have e2:mkE b.pts p = 5:=by unfold mkE; rw [hmd,if_pos h4]
    refine gE1 ?_
    rw [e0,aa2 hpn hpj (by rw [e2]; decide),e2]; rfl
   ·have h4:=adj ht25
    refine gL1 [1,3,4] [1,4] (fun (q:Nat)=>[(5,some (i64 q))]) (fun _=>[]) (fun q=>q <= p /\ (b.pts.take q).any (fun y=>eqS y.name m.name) = false) (fun q=>p - q) 0 ⟨zero_le _,rfl⟩ ?_
    rintro q ⟨hq,hqd⟩ K2 hK2
    refine gC (fun ht28=>?_) (fun ht28=>?_)
    ·have hqn:=aa4 ht28
     obtain ⟨y,hy⟩:∃ y,b.pts[q]? = some y:=ab0 (by omega)
     refine gi (aaf hy) ?_
     refine gD ?_
     refine gC (fun ht39=>?_) (fun ht39=>?_)
     ·have h5:eqS y.name m.name = true:=ht39
      have e2:mkE b.pts p = 6:=by unfold mkE; rw [hmd,if_neg (by rw [h4]; decide),if_pos (by rw [hmdup]; exact ahd hy hqn h5)]
      refine gE1 ?_
      rw [e0,aa2 hpn hpj (by rw [e2]; decide),e2]; rfl
     ·have h5:eqS y.name m.name = false:=ht39
      refine ga aao ?_
      exact gK1 hK2 (q + 1) ⟨hqn,aex hy hqd h5⟩
    ·have hqn:=aaj hq ht28
     subst hqn
     have hmnd:¬ aww (b.pts.map Mk.name) q = true:=by rw [hmdup,hqd]; decide
     refine gc (agr m.x hmo.x) ?_
     refine gcG (fun _=>(agr m.y hmo.y)) ?_
     refine gC (fun ht49=>?_) (fun ht49=>?_)
     ·have h6:=bf0 ht49
      have e2:mkE b.pts q = 3:=by unfold mkE; rw [hmd,if_neg (by rw [h4]; decide),if_neg hmnd,if_neg (by rintro ⟨g1,g2⟩; rcases h6 with g | g; (rw [g1] at g; cases g); (rw [g2] at g; cases g))]
      refine gE1 ?_
      rw [e0,aa2 hpn hpj (by rw [e2]; decide),e2]; rfl
     ·have h6:=ber ht49
      have e2:mkE b.pts q = 0:=by unfold mkE; rw [hmd,if_neg (by rw [h4]; decide),if_neg hmnd,if_pos h6]
      refine ga aao ?_
      exact gK1 hK1 (q + 1) ⟨hpn,fun j h9=>by rcases lt_or_ge j q with g | g; exact hpj j g; (have:j = q:=by omega); subst this; exact e2⟩
  ·have hpn:=aaj hp ht14
   subst hpn
   refine gE1 ?_
   rw [e0,ael hpj]; rfl
theorem awe (l:Li) (hl:l.ok):FnC prog 72 [l.av] (i64 (azy l)):=by
 have hlb:=hl.lb
 have e0:azy l = ad3 l.bodies.length (bdE l.bodies):=rfl
 refine gF0 func72 ?_
 refine gL1 [1] [1] (fun (i:Nat)=>[(3,some (i64 i))]) (fun _=>[]) (fun i=>i <= l.bodies.length /\ ∀ j,j < i -> bdE l.bodies j = 0) (fun i=>l.bodies.length - i) 0 ⟨zero_le _,fun j h=>by omega⟩ ?_
 rintro i ⟨hi,hj⟩ K1 hK1
 refine gl ?_
 refine gC (fun ht10=>?_) (fun ht10=>?_)
 ·have hin:=aa4 ht10
  obtain ⟨b,hb⟩:=ab0 hin
  have hbd:l.bodies.getD i default = b:=aag hb
  have hbo:=hl.bodies b (mem_of_getElem? hb)
  have hbdup:=afu Bd.name hb
  refine gi (aaf hb) ?_
  refine gc (ahy b.name hbo.name) ?_
  refine gC (fun ht20=>?_) (fun ht20=>?_)
  ·have h1:=adi ht20
   have e1:bdE l.bodies i = 5:=by unfold bdE; rw [hbd,if_pos h1]
   refine gE1 ?_
   rw [e0,aa2 hin hj (by rw [e1]; decide),e1]; rfl
  ·have h1:=adj ht20
   refine gL1 [1,3] [1] (fun (k:Nat)=>[(4,some (i64 k))]) (fun _=>[]) (fun k=>k <= i /\ (l.bodies.take k).any (fun y=>eqS y.name b.name) = false) (fun k=>i - k) 0 ⟨zero_le _,rfl⟩ ?_
   rintro k ⟨hk,hd⟩ K2 hK2
   refine gC (fun ht23=>?_) (fun ht23=>?_)
   ·have hkn:=aa4 ht23
    obtain ⟨y,hy⟩:∃ y,l.bodies[k]? = some y:=ab0 (by omega)
    refine gi (aaf hy) ?_
    refine gi (aaf hb) ?_
    refine gD ?_
    refine gC (fun ht38=>?_) (fun ht38=>?_)
    ·have h2:eqS y.name b.name = true:=ht38
     have e1:bdE l.bodies i = 6:=by unfold bdE; rw [hbd,if_neg (by rw [h1]; decide),if_pos (by rw [hbdup]; exact ahd hy hkn h2)]
     refine gE1 ?_
     rw [e0,aa2 hin hj (by rw [e1]; decide),e1]; rfl
    ·have h2:eqS y.name b.name = false:=ht38
     refine ga aao ?_
     exact gK1 hK2 (k + 1) ⟨hkn,aex hy hd h2⟩
   ·have hkn:=aaj hk ht23
    subst hkn
    have hnd:¬ aww (l.bodies.map Bd.name) k = true:=by rw [hbdup,hd]; decide
    have e1:bdE l.bodies k = if 8 < b.pts.length then 4 else ad3 b.pts.length (mkE b.pts):=by unfold bdE; rw [hbd,if_neg (by rw [h1]; decide),if_neg hnd]
    refine gi (aaf hb) ?_
    refine gc (avs b hbo) ?_
    refine gC (fun ht46=>?_) (fun ht46=>?_)
    ·have h3:=afz ht46
     refine gE1 ?_
     rw [e0,aa2 hin hj (by rw [e1]; exact h3),e1]
    ·have h3:=af1 ht46
     refine ga aao ?_
     exact gK1 hK1 (k + 1) ⟨hin,fun j h9=>by rcases lt_or_ge j k with g | g; exact hj j g; (have:j = k:=by omega); subst this; exact e1.trans h3⟩
 ·have hin:=aaj hi ht10
  subst hin
  refine gE1 ?_
  rw [e0,ael hj]; rfl
theorem azd (l:Li) (hl:l.ok) (i:Nat) (hi:i < l.joints.length) (h16:l.joints.length <= 16):FnC prog 73 [l.av, i64 i] (i64 (jtE l i)):=by
 obtain ⟨j,hjj⟩:=ab0 hi
 have hbd:l.joints.getD i default = j:=aag hjj
 have hbdup:=afu Jt.name hjj
 refine gF0 func73 ?_
 refine gi (aaf hjj) ?_
 refine gc (ahy j.name (hl.jnames j (mem_of_getElem? hjj))) ?_
 refine gC (fun ht17=>?_) (fun ht17=>?_)
 ·have h0:=adi ht17
  refine gE1 ?_
  unfold jtE; rw [hbd,if_pos h0]; rfl
 ·have h0:=adj ht17
  refine gL1 [1,2,5] [2,5] (fun (k:Nat)=>[(6,some (i64 k))]) (fun _=>[]) (fun k=>k <= i /\ (l.joints.take k).any (fun y=>eqS y.name j.name) = false) (fun k=>i - k) 0 ⟨zero_le _,rfl⟩ ?_
  rintro k ⟨hk,hd⟩ K1 hK1
  refine gC (fun ht20=>?_) (fun ht20=>?_)
  ·have hkn:=aa4 ht20
   obtain ⟨y,hy⟩:∃ y,l.joints[k]? = some y:=ab0 (by omega)
   refine gi (aaf hy) ?_
   refine gD ?_
   refine gC (fun ht31=>?_) (fun ht31=>?_)
   ·have h2:eqS y.name j.name = true:=ht31
    refine gE1 ?_
    unfold jtE; rw [hbd,if_neg (by rw [h0]; decide),if_pos (by rw [hbdup]; exact ahd hy hkn h2)]; rfl
   ·have h2:eqS y.name j.name = false:=ht31
    refine ga aao ?_
    exact gK1 hK1 (k + 1) ⟨hkn,aex hy hd h2⟩
  ·have hkn:=aaj hk ht20
   subst hkn
   have hnd:¬ aww (l.joints.map Jt.name) k = true:=by rw [hbdup,hd]; decide
   have e1:jtE l k = jt0 l j:=by unfold jtE; rw [hbd,if_neg (by rw [h0]; decide),if_neg hnd]
   refine gC (fun ht39=>?_) (fun ht39=>?_)
   ·have h1:=bfe ht39
    refine gE1 ?_
    rw [e1]; unfold jt0; rw [if_pos h1]; rfl
   ·have h1:=bf7 ht39
    refine gl ?_
    refine gc (afd j.a l.bodies.length) ?_
    refine glG ?_
    refine gcG (fun _=>(afd j.b l.bodies.length)) ?_
    refine gC (fun ht55=>?_) (fun ht55=>?_)
    ·have h2:=bf0 ht55
     refine gE1 ?_
     rw [e1]; unfold jt0; rw [if_neg h1,if_pos h2]; rfl
    ·have h2:=ber ht55
     have h2n:¬ (inB j.a l.bodies.length = false \/ inB j.b l.bodies.length = false):=by rw [h2.1,h2.2]; simp
     obtain ⟨A,hA,pA,mA,zA0⟩:=aqg h2.1
     obtain ⟨B,hB,pB,mB,zB0⟩:=aqg h2.2
     refine gC (fun ht60=>?_) (fun ht60=>?_)
     ·have h3:=aek ht60
      refine gE1 ?_
      rw [e1]; unfold jt0; rw [if_neg h1,if_neg h2n,if_pos h3]; rfl
     ·have h3:=ae9 ht60
      refine gi (aaf hA) ?_
      refine gi (aaf hB) ?_
      refine gD ?_
      refine gl ?_
      refine gc (afd j.point A.pts.length) ?_
      refine glG ?_
      refine gcG (fun _=>(afd j.on B.pts.length)) ?_
      refine gC (fun ht88=>?_) (fun ht88=>?_)
      ·have h4:=bf0 ht88
       refine gE1 ?_
       rw [e1]; unfold jt0; rw [if_neg h1,if_neg h2n,if_neg h3,pA,pB,if_pos h4]; rfl
      ·have h4:=ber ht88
       have h4n:¬ (inB j.point A.pts.length = false \/ inB j.on B.pts.length = false):=by rw [h4.1,h4.2]; simp
       refine gC (fun ht91=>?_) (fun ht91=>?_)
       ·have h5:=aek ht91
        refine gC (fun ht94=>?_) (fun ht94=>?_)
        ·have h6:=an4 ht94
         refine gE1 ?_
         rw [e1]; unfold jt0; rw [if_neg h1,if_neg h2n,if_neg h3,pA,pB,if_neg h4n,if_pos h5,if_pos h6]; rfl
        ·have h6:=as1 ht94
         refine gE1 ?_
         rw [e1]; unfold jt0; rw [if_neg h1,if_neg h2n,if_neg h3,pA,pB,if_neg h4n,if_pos h5,if_neg (by rw [h6]; simp)]; rfl
       ·have h5:=ae9 ht91
        refine gl ?_
        refine gc (afd j.to B.pts.length) ?_
        refine gC (fun ht100=>?_) (fun ht100=>?_)
        ·have h6:=adi ht100
         refine gE1 ?_
         rw [e1]; unfold jt0; rw [if_neg h1,if_neg h2n,if_neg h3,pA,pB,if_neg h4n,if_neg h5,if_pos h6]; rfl
        ·have h6:=adj ht100
         obtain ⟨m1,g1,d1,mm1,z1⟩:=asa h4.2
         obtain ⟨m2,g2,d2,mm2,z2⟩:=asa h6
         have mo1:=(hl.bodies B mB).pts m1 mm1
         have mo2:=(hl.bodies B mB).pts m2 mm2
         refine gi (aaf g1) ?_
         refine gi (aaf g2) ?_
         refine gc (a44 m1 m2 mo1 mo2) ?_
         refine gD ?_
         refine gC (fun ht111=>?_) (fun ht111=>?_)
         ·have h7:=of_decide_eq_true ht111
          refine gE1 ?_
          rw [e1]; unfold jt0; rw [if_neg h1,if_neg h2n,if_neg h3,pA,pB,if_neg h4n,if_neg h5,if_neg (by rw [h6]; decide),d1,d2,if_pos h7]; rfl
         ·have h7:=of_decide_eq_false ht111
          refine gE1 ?_
          rw [e1]; unfold jt0; rw [if_neg h1,if_neg h2n,if_neg h3,pA,pB,if_neg h4n,if_neg h5,if_neg (by rw [h6]; decide),d1,d2,if_neg h7]; rfl
theorem awk (l:Li) (hl:l.ok) (i:Nat) (hi:i < l.drivers.length) (h2l:l.drivers.length <= 2):FnC prog 74 [l.av, i64 i] (i64 (drE l i)):=by
 obtain ⟨b,hb⟩:=ab0 hi
 have hbd:l.drivers.getD i default = b:=aag hb
 have hbdup:=afu Dr.name hb
 refine gF0 func74 ?_
 refine gi (aaf hb) ?_
 refine gc (ahy b.name (hl.dnames b (mem_of_getElem? hb))) ?_
 refine gC (fun ht16=>?_) (fun ht16=>?_)
 ·have h1:=adi ht16
  refine gE1 ?_
  unfold drE; rw [hbd,if_pos h1]; rfl
 ·have h1:=adj ht16
  refine gL1 [1,2,5] [2,5] (fun (k:Nat)=>[(6,some (i64 k))]) (fun _=>[]) (fun k=>k <= i /\ (l.drivers.take k).any (fun y=>eqS y.name b.name) = false) (fun k=>i - k) 0 ⟨zero_le _,rfl⟩ ?_
  rintro k ⟨hk,hd⟩ K1 hK1
  refine gC (fun ht19=>?_) (fun ht19=>?_)
  ·have hkn:=aa4 ht19
   obtain ⟨y,hy⟩:∃ y,l.drivers[k]? = some y:=ab0 (by omega)
   refine gi (aaf hy) ?_
   refine gD ?_
   refine gC (fun ht30=>?_) (fun ht30=>?_)
   ·have h2:eqS y.name b.name = true:=ht30
    refine gE1 ?_
    unfold drE; rw [hbd,if_neg (by rw [h1]; decide),if_pos (by rw [hbdup]; exact ahd hy hkn h2)]; rfl
   ·have h2:eqS y.name b.name = false:=ht30
    refine ga aao ?_
    exact gK1 hK1 (k + 1) ⟨hkn,aex hy hd h2⟩
  ·have hkn:=aaj hk ht19
   subst hkn
   have hnd:¬ aww (l.drivers.map Dr.name) k = true:=by rw [hbdup,hd]; decide
   refine gl ?_
   refine gc (afd b.body l.bodies.length) ?_
   refine gC (fun ht37=>?_) (fun ht37=>?_)
   ·have h3:=adi ht37
    refine gE1 ?_
    unfold drE; rw [hbd,if_neg (by rw [h1]; decide),if_neg hnd,if_pos h3]; rfl
   ·have h3:=adj ht37
    refine gC (fun ht40=>?_) (fun ht40=>?_)
    ·have h4:=aek ht40
     refine gE1 ?_
     unfold drE; rw [hbd,if_neg (by rw [h1]; decide),if_neg hnd,if_neg (by rw [h3]; decide),if_pos h4]; rfl
    ·have h4:=ae9 ht40
     have e1:drE l k = if (l.drivers.take k).any (fun d=>decide (d.body = b.body)) = true then 6 else 0:=by unfold drE; rw [hbd,if_neg (by rw [h1]; decide),if_neg hnd,if_neg (by rw [h3]; decide),if_neg h4]
     refine gL1 [1,2,5] [2,5] (fun (q:Nat)=>[(7,some (i64 q))]) (fun _=>[]) (fun q=>q <= k /\ (l.drivers.take q).any (fun d=>decide (d.body = b.body)) = false) (fun q=>k - q) 0 ⟨zero_le _,rfl⟩ ?_
     rintro q ⟨hq,hqd⟩ K2 hK2
     refine gC (fun ht43=>?_) (fun ht43=>?_)
     ·have hqn:=aa4 ht43
      obtain ⟨y,hy⟩:∃ y,l.drivers[q]? = some y:=ab0 (by omega)
      refine gi (aaf hy) ?_
      refine gD ?_
      refine gC (fun ht54=>?_) (fun ht54=>?_)
      ·have h5:decide (y.body = b.body) = true:=decide_eq_true (aek ht54)
       refine gE1 ?_
       rw [e1,if_pos (ahd hy hqn h5)]; rfl
      ·have h5:decide (y.body = b.body) = false:=decide_eq_false (ae9 ht54)
       refine ga aao ?_
       exact gK1 hK2 (q + 1) ⟨hqn,aex hy hqd h5⟩
     ·have hqn:=aaj hq ht43
      subst hqn
      refine gE1 ?_
      rw [e1,hqd]; rfl
theorem aky (l:Li) (hl:l.ok):FnC prog 34 [l.av] (i64 (liE l)):=by
 have hlb:=hl.lb
 refine gF0 func34 ?_
 refine gc (ahy l.name hl.name) ?_
 refine gC (fun ht11=>?_) (fun ht11=>?_)
 ·have h1:=adi ht11
  refine gE1 ?_
  unfold liE; rw [if_pos h1]; rfl
 ·have h1:=adj ht11
  refine gl ?_
  refine gC (fun ht15=>?_) (fun ht15=>?_)
  ·have h2:=bgb ht15
   refine gE1 ?_
   unfold liE; rw [if_neg (by rw [h1]; decide),if_pos h2]; rfl
  ·have h2:=bfk ht15
   refine gl ?_
   refine gC (fun ht19=>?_) (fun ht19=>?_)
   ·have h3:8 < l.bodies.length:=al5 ht19
    refine gE1 ?_
    unfold liE; rw [if_neg (by rw [h1]; decide),if_neg h2,if_pos h3]; rfl
   ·have h3:l.bodies.length <= 8:=anr ht19
    have e0:liE l = if azy l ≠ 0 then azy l else if aqn l ≠ 0 then aqn l else ayn l:=by unfold liE; rw [if_neg (by rw [h1]; decide),if_neg h2,if_neg (by omega)]
    refine gc (awe l hl) ?_
    refine gC (fun ht23=>?_) (fun ht23=>?_)
    ·have h4:azy l ≠ 0:=afz ht23
     refine gE1 ?_
     rw [e0,if_pos h4]
    ·have h4:azy l = 0:=af1 ht23
     refine gl ?_
     refine gC (fun ht28=>?_) (fun ht28=>?_)
     ·have h5:16 < l.joints.length:=al5 ht28
      have ej:aqn l = 4:=by unfold aqn; rw [if_pos h5]
      refine gE1 ?_
      rw [e0,if_neg (by rw [h4]; simp),if_pos (by rw [ej]; decide),ej]; rfl
     ·have h5:l.joints.length <= 16:=anr ht28
      have ej:aqn l = ad3 l.joints.length (jtE l):=by unfold aqn; rw [if_neg (by omega)]
      refine gL1 [1] [1] (fun (i:Nat)=>[(4,some (i64 i))]) (fun _=>[]) (fun i=>i <= l.joints.length /\ ∀ j,j < i -> jtE l j = 0) (fun i=>l.joints.length - i) 0 ⟨zero_le _,fun j h=>by omega⟩ ?_
      rintro i ⟨hi,hj⟩ K1 hK1
      refine gl ?_
      refine gC (fun ht33=>?_) (fun ht33=>?_)
      ·have hin:=aa4 ht33
       refine gc (azd l hl i hin h5) ?_
       refine gC (fun ht40=>?_) (fun ht40=>?_)
       ·have h6:=afz ht40
        refine gE1 ?_
        rw [e0,if_neg (by rw [h4]; simp),if_pos (by rw [ej,aa2 hin hj h6]; exact h6),ej,aa2 hin hj h6]
       ·have h6:=af1 ht40
        refine ga aao ?_
        exact gK1 hK1 (i + 1) ⟨hin,fun j h9=>by rcases lt_or_ge j i with g | g; exact hj j g; (have:j = i:=by omega); subst this; exact h6⟩
      ·have hin:=aaj hi ht33
       subst hin
       have ejz:aqn l = 0:=ej.trans (ael hj)
       have e0':liE l = ayn l:=by rw [e0,if_neg (by rw [h4]; simp),if_neg (by rw [ejz]; simp)]
       refine gl ?_
       refine gC (fun ht45=>?_) (fun ht45=>?_)
       ·have h6:2 < l.drivers.length:=al5 ht45
        refine gE1 ?_
        rw [e0']; unfold ayn; rw [if_pos h6]; rfl
       ·have h6:l.drivers.length <= 2:=anr ht45
        have ed:ayn l = ad3 l.drivers.length (drE l):=by unfold ayn; rw [if_neg (by omega)]
        refine gL1 [1] [1] (fun (k:Nat)=>[(6,some (i64 k))]) (fun _=>[]) (fun k=>k <= l.drivers.length /\ ∀ j,j < k -> drE l j = 0) (fun k=>l.drivers.length - k) 0 ⟨zero_le _,fun j h=>by omega⟩ ?_
        rintro k ⟨hk,hkj⟩ K2 hK2
        refine gl ?_
        refine gC (fun ht50=>?_) (fun ht50=>?_)
        ·have hkn:=aa4 ht50
         refine gc (awk l hl k hkn h6) ?_
         refine gC (fun ht57=>?_) (fun ht57=>?_)
         ·have h7:=afz ht57
          refine gE1 ?_
          rw [e0',ed,aa2 hkn hkj h7]
         ·have h7:=af1 ht57
          refine ga aao ?_
          exact gK1 hK2 (k + 1) ⟨hkn,fun j h9=>by rcases lt_or_ge j k with g | g; exact hkj j g; (have:j = k:=by omega); subst this; exact h7⟩
        ·have hkn:=aaj hk ht50
         subst hkn
         refine gE1 ?_
         rw [e0',ed,ael hkj]; rfl
end Go.Lw
namespace Go.Lw
open Go.Proofs
theorem aio (rs xs:List (List Rt)) (w m:Nat) (hrs:anb rs) (hxs:anb xs) (hrl:rs.length <= 100) (hxl:xs.length <= 100):FnC prog 78 [ae2 rs, i64 w, i64 m, .lst 1 (xs.map nR)] (bl (akk w m (rs ++ xs))):=by
 obtain ⟨l,hl⟩:∃ l,l = rs ++ xs:=⟨_,rfl⟩
 have hlo:anb l:=by rw [hl]; exact hrs.app hxs
 have hll:l.length <= 200:=by rw [hl,length_append]; omega
 have hml:rs.map nR ++ xs.map nR = l.map nR:=by rw [hl,map_append]
 rw [<- hl]
 refine gF0 func78 ?_
 refine gs (act T28 rfl T65 rfl rfl rfl) ?_
 refine gs (abj (.tmp rfl) rfl rfl (.tmp rfl) T28 rfl T65 rfl rfl (by simp only [length_map]; omega) rfl rfl) ?_
 refine gs (ags (.tmp rfl) rfl (by simp) (.tmp rfl) T28 rfl T65 rfl rfl (by simp only [length_map]; omega) rfl rfl) ?_
 refine ge rfl ?_
 refine gL1 [1,2] [] (fun (i:Nat)=>[(18,some (.lst 1 (l.map nR))),(19,some (i64 l.length)),(20,some (i64 i))]) (fun _=>[]) (fun i=>i <= l.length /\ (l.take i).all (alm w m) = true) (fun i=>l.length - i) 0 ⟨zero_le _,rfl⟩ ?_ (h1:=(.cons rfl (Sub.of (congrArg (AV.lst 1) hml)) (.cons rfl (Sub.int (by rw [nil_append,hml,length_map])) (.k .nil))))
 rintro i ⟨hi,hj⟩ K1 hK1
 refine gC (fun ht21=>?_) (fun ht21=>?_)
 ·have hin:=aa4 ht21
  obtain ⟨x,hx⟩:=ab0 hin
  have hxo:=hlo x (mem_of_getElem? hx)
  have hxl:=hxo.2
  refine gi (aaf hx) ?_
  refine gl ?_
  refine gC (fun ht27=>?_) (fun ht27=>?_)
  ·have h1:=al5 ht27
   refine gE1 ?_
   rw [akk,adh hx (by unfold alm; rw [decide_eq_false (by omega)]; rfl)]; rfl
  ·have h1:x.length <= m:=anr ht27
   refine gl ?_
   refine gL1 [1,2,18,19,20,28,29] [] (fun (k:Nat)=>[(30,some (i64 k))]) (fun _=>[]) (fun k=>k <= x.length /\ (x.take k).all (fun r=>decide (r.num.length <= w /\ r.den.length <= w)) = true) (fun k=>x.length - k) 0 ⟨zero_le _,rfl⟩ ?_
   rintro k ⟨hk,hkj⟩ K2 hK2
   refine gC (fun ht31=>?_) (fun ht31=>?_)
   ·have hkn:=aa4 ht31
    obtain ⟨r,hr⟩:=ab0 hkn
    refine gi (aaf hr) ?_
    refine gl ?_
    refine glG ?_
    refine gC (fun ht45=>?_) (fun ht45=>?_)
    ·have h2:¬ (r.num.length <= w /\ r.den.length <= w):=bn1 ht45
     refine gE1 ?_
     rw [akk,adh hx (by unfold alm; rw [adh hr (decide_eq_false h2),Bool.and_false])]; rfl
    ·have h2:r.num.length <= w /\ r.den.length <= w:=bml ht45
     refine ga aao ?_
     exact gK1 hK2 (k + 1) ⟨hkn,aed hkj hr (decide_eq_true h2)⟩
   ·have hkn:=aaj hk ht31
    refine ga aao ?_
    exact gK1 hK1 (i + 1) ⟨hin,aed hj hx (by unfold alm; rw [decide_eq_true h1,af2 hkn hkj]; rfl)⟩
 ·have hin:=aaj hi ht21
  refine gE1 ?_
  rw [akk,af2 hin hj]; rfl
theorem ay2 (rs xs:List (List Rt)) (hrs:anb rs) (hxs:anb xs) (hrl:rs.length <= 281474976710656) (hxl:xs.length <= 100):FnC prog 79 [ae2 rs, .lst 1 (xs.map nR)] (bl (an2 rs xs)):=by
 refine gF0 func79 ?_
 refine gl ?_
 refine gC (fun ht9=>?_) (fun ht9=>?_)
 ·have h1:rs.length <= 1 \/ (5 < rs.length /\ rs.length <= 8):=bq8 ht9
  refine gc (aio rs xs 3 40 hrs hxs (by omega) hxl) ?_
  refine gE1 ?_
  unfold an2; rw [if_pos h1]
 ·have h1:¬ (rs.length <= 1 \/ (5 < rs.length /\ rs.length <= 8)):=bpe ht9
  refine gC (fun ht23=>?_) (fun ht23=>?_)
  ·have h2 : rs.length = 2 := by have := aek ht23; omega
   refine gc (aio rs xs 1 40 hrs hxs (by omega) hxl) ?_
   refine gE1 ?_
   unfold an2; rw [if_neg h1,if_pos h2]
  ·have h2 : ¬ rs.length = 2 := by have := ae9 ht23; omega
   refine gC (fun ht29=>?_) (fun ht29=>?_)
   ·have h3 : rs.length = 3 := by have := aek ht29; omega
    refine gc (aio rs xs 1 4 hrs hxs (by omega) hxl) ?_
    refine gE1 ?_
    unfold an2; rw [if_neg h1,if_neg h2,if_pos h3]
   ·have h3 : ¬ rs.length = 3 := by have := ae9 ht29; omega
    refine gE1 ?_
    unfold an2; rw [if_neg h1,if_neg h2,if_neg h3]; rfl
theorem ast (rs xs:List (List Rt)) (hrs:anb rs) (hxs:anb xs) (hrl:rs.length <= 281474976710656) (hxl:xs.length <= 100):FnC prog 37 [ae2 rs, .lst 1 (xs.map nR)] (bl (akf rs xs)):=by
 refine gF0 func37 ?_
 refine gl ?_
 refine gC (fun ht8=>?_) (fun ht8=>?_)
 ·have h2 : rs.length = 2 := by have := aek ht8; omega
  refine gc (aio rs xs 2 40 hrs hxs (by omega) hxl) ?_
  refine gE1 ?_
  unfold akf; rw [if_pos h2]
 ·have h2 : ¬ rs.length = 2 := by have := ae9 ht8; omega
  refine gc (ay2 rs xs hrs hxs hrl hxl) ?_
  refine gE1 ?_
  unfold akf; rw [if_neg h2]
theorem azh (l:Li) (hl:l.okw):FnC prog 33 [l.av] (bl (liB l)):=by
 have hbl:=hl.lb
 refine gF0 func33 ?_
 refine gl ?_
 refine gL1 [1,8,9] [1] (fun (i:Nat)=>[(10,some (i64 i))]) (fun _=>[]) (fun i=>i <= l.bodies.length /\ (l.bodies.take i).all bdB = true) (fun i=>l.bodies.length - i) 0 ⟨zero_le _,rfl⟩ ?_
 rintro i ⟨hi,hj⟩ K1 hK1
 refine gC (fun ht11=>?_) (fun ht11=>?_)
 ·have hin:=aa4 ht11
  obtain ⟨b,hb⟩:=ab0 hin
  refine gi (aaf hb) ?_
  refine gl ?_
  refine gC (fun ht17=>?_) (fun ht17=>?_)
  ·have h1:30 < b.pts.length:=al5 ht17
   refine gE1 ?_
   unfold liB; rw [adh hb (by unfold bdB; rw [decide_eq_false (by omega)]; rfl)]; rfl
  ·have h1:b.pts.length <= 30:=anr ht17
   refine gl ?_
   refine gL1 [1,8,9,10,19,20] [1] (fun (k:Nat)=>[(21,some (i64 k))]) (fun _=>[]) (fun k=>k <= b.pts.length /\ (b.pts.take k).all mkB = true) (fun k=>b.pts.length - k) 0 ⟨zero_le _,rfl⟩ ?_
   rintro k ⟨hk,hkj⟩ K2 hK2
   refine gC (fun ht22=>?_) (fun ht22=>?_)
   ·have hkn:=aa4 ht22
    obtain ⟨p,hp⟩:=ab0 hkn
    refine gi (aaf hp) ?_
    refine gl ?_
    refine glG ?_
    refine glG ?_
    refine glG ?_
    refine gC (fun ht50=>?_) (fun ht50=>?_)
    ·have h2:mkB p = false:=bnl ht50
     refine gE1 ?_
     unfold liB; rw [adh hb (by unfold bdB; rw [adh hp h2,Bool.and_false])]; rfl
    ·have h2:mkB p = true:=bol ht50
     refine ga aao ?_
     exact gK1 hK2 (k + 1) ⟨hkn,aed hkj hp h2⟩
   ·have hkn:=aaj hk ht22
    refine ga aao ?_
    exact gK1 hK1 (i + 1) ⟨hin,aed hj hb (by unfold bdB; rw [decide_eq_true h1,af2 hkn hkj]; rfl)⟩
 ·have hin:=aaj hi ht11
  refine gl ?_
  refine glG ?_
  refine glG ?_
  refine gE1 ?_
  exact congrArg bl (bhn (af2 hin hj))
end Go.Lw
namespace Go.Lw
open Go.Proofs
theorem ayc:FnC prog 13 [.v .nilIface] (i64 0):=by
 refine gF0 func13 ?_
 refine gC (fun ht6=>?_) (fun ht6=>?_) (st2:=(77777,0))
 ·refine gE1 ?_
  first | rfl | (simp; done)
 ·cases ht6
theorem ay7 (n:Int):FnC prog 13 [.v (.iface 103 (.int .i64 n))] (i64 n):=by
 refine gF0 func13 ?_
 refine gC (fun ht6=>?_) (fun ht6=>?_) (st1:=(2,0))
 ·cases ht6
 ·refine gs (bbj (.tmp rfl) T103 rfl rfl) ?_
  refine gC (fun ht13=>?_) (fun ht13=>?_) (st1:=(5,0))
  ·cases ht13
  ·refine gE1 ?_
   rfl
theorem aj1 (e:Nat):FnC prog 13 [ahr e] (i64 e):=by
 cases e with
 | zero=>exact ayc
 | succ e=>exact ay7 _
end Go.Lw
namespace Go.Lw
structure Gr where
  kind:Int
  bodies:List Int
  joints:List Int
  driver:Int
instance:Inhabited Gr:=⟨⟨0,[],[],0⟩⟩
def Gr.av (g:Gr):AV:=.agg [i64 g.kind,.lst 1 (g.bodies.map i64),.lst 1 (g.joints.map i64),i64 g.driver]
def kn (k:List Bool) (i:Int):Bool:=k.getD i.toNat false
def aef (n:Nat) (b:Int):List Bool:=(List.replicate n false).set b.toNat true
def ak9 (l:Li) (b:Int):Bool:=l.drivers.any (fun d=>decide (d.body = b))
def freeB (l:Li) (known:List Bool) (b:Int):Bool:=!kn known b && !ak9 l b
def bba (kind body:Int) (oth:List Bool) (j:Jt):Bool:=decide (j.kind = kind) && (decide (j.a = body) && kn oth j.b || decide (j.b = body) && kn oth j.a)
def jointI (l:Li) (kind body:Int) (oth:List Bool):Int:=ixI (abi l.joints.length (fun i=>!bba kind body oth (l.joints.getD i default)))
def drHit (l:Li) (known:List Bool) (i:Nat):Bool:=!kn known (l.drivers.getD i default).body && decide (0 <= jointI l 0 (l.drivers.getD i default).body known)
def driverG (l:Li) (known:List Bool):Option Gr :=
  (abi l.drivers.length (fun i=>!drHit l known i)).map fun i=>⟨0,[(l.drivers.getD i default).body],[jointI l 0 (l.drivers.getD i default).body known],i⟩
def prHit (l:Li) (known:List Bool) (i k:Nat):Bool :=
  (freeB l known i && freeB l known k) && (decide (0 <= jointI l 0 i known) && decide (0 <= jointI l 0 k known) && decide (0 <= jointI l 0 i (aef l.bodies.length k)))
def prAt (l:Li) (known:List Bool) (i:Nat):Option Nat:=(abi (l.bodies.length - (i + 1)) (fun k=>!prHit l known i (i + 1 + k))).map (· + (i + 1))
def prG (l:Li) (known:List Bool) (i k:Nat):Gr:=⟨1,[i,k],[jointI l 0 i known,jointI l 0 k known,jointI l 0 i (aef l.bodies.length k)],0⟩
def pairG (l:Li) (known:List Bool):Option Gr :=
  (abi l.bodies.length (fun i=>(prAt l known i).isNone)).map fun i=>match prAt l known i with
    | some k=>prG l known i k
    | none=>default
def sgHit (l:Li) (known:List Bool) (i:Nat):Bool:=freeB l known i && (decide (0 <= jointI l 0 i known) && decide (0 <= jointI l 1 i known))
def sgG (l:Li) (known:List Bool) (i:Nat):Gr :=
  ⟨if (l.joints.getD (jointI l 1 i known).toNat default).a = i then 2 else 3,[i],[jointI l 0 i known,jointI l 1 i known],0⟩
def singleG (l:Li) (known:List Bool):Option Gr:=(abi l.bodies.length (fun i=>!sgHit l known i)).map (sgG l known)
def nextG (l:Li) (known:List Bool):Option Gr:=(driverG l known).or ((pairG l known).or (singleG l known))
def aau (known:List Bool) (bs:List Int):List Bool:=bs.foldl (fun k b=>k.set b.toNat true) known
def findFrom (l:Li):Nat -> List Bool -> List Gr -> List Bool × List Gr
  | 0,known,out=>(known,out)
  | n + 1, known, out=>match nextG l known with
    | none=>(known,out)
    | some g=>findFrom l n (aau known g.bodies) (out ++ [g])
def findG (l:Li):List Gr:=(findFrom l l.bodies.length (aef l.bodies.length 0) []).2
def adn (l:Li):List Bool:=(findG l).foldl (fun k g=>aau k g.bodies) (aef l.bodies.length 0)
def ag3 (l:Li):List Bool:=(findG l).foldl (fun k g=>aau k g.joints) (List.replicate l.joints.length false)
def acg (k:List Bool):List Int:=((List.range k.length).filter (fun i=>!k.getD i false)).map (fun i:Nat=>((i:Nat):Int))
def splitE (l:Li):Nat:=if (acg (adn l)).length + (acg (ag3 l)).length = 0 then 0 else 7
def splitG (l:Li):List Gr:=if splitE l = 0 then findG l else []
theorem awn {kind body:Int} {oth:List Bool} {j:Jt} {va vb:Bool} (ea:kn oth j.a = va) (eb:kn oth j.b = vb) :
  cond (aab .eql j.kind kind) (cond (cond (aab .eql j.a body) vb false) true (cond (aab .eql j.b body) va false)) false = bba kind body oth j:=by
 unfold bba
 rw [ak2,ak2,ak2,ea,eb,ade,ade,ade,ahe]
theorem adx (n:Nat) (b:Int):(aef n b).length = n:=by unfold aef; simp
theorem afm:∀ (bs:List Int) (k:List Bool), (aau k bs).length = k.length
 | [],k=>rfl
 | b :: bs, k=>by
  show (aau (k.set b.toNat true) bs).length = _
  rw [afm bs]; simp
theorem abo {n i:Nat} {ok:Nat -> Bool} (h:abi n ok = some i):i < n /\ ok i = false:=by
 unfold abi at h
 rw [List.find?_range_eq_some] at h
 exact ⟨by simpa using h.2.1,by simpa using h.1⟩
theorem afx {l:Li} {kind body:Int} {oth:List Bool}:-1 <= jointI l kind body oth /\ jointI l kind body oth < l.joints.length:=by
 unfold jointI
 cases h:abi l.joints.length (fun i=>!bba kind body oth (l.joints.getD i default)) with
 | none=>exact ⟨by decide,by show (-1:Int) < _; omega⟩
 | some i=>have:=(abo h).1; exact ⟨by show (-1:Int) <= (i:Int); omega,by show (i:Int) < _; omega⟩
structure GrOk (l:Li) (g:Gr):Prop where
  b:∀ x ∈ g.bodies,0 <= x /\ x < l.bodies.length
  j:∀ x ∈ g.joints,0 <= x /\ x < l.joints.length
  lb:g.bodies.length <= 2
  lj:g.joints.length <= 3
theorem a21 {l:Li} (hl:liE l = 0) {known:List Bool} {g:Gr} (h:driverG l known = some g):GrOk l g:=by
 unfold driverG at h
 rw [map_eq_some_iff] at h
 obtain ⟨i,hi,rfl⟩:=h
 obtain ⟨h1,h2⟩:=abo hi
 obtain ⟨d,hd⟩:=ab0 h1
 have h3:=ahm (ayz hl hd)
 unfold drHit at h2
 simp only [Bool.not_eq_false',and_eq_true,decide_eq_true_eq] at h2
 rw [aag hd] at h2 ⊢
 have h4:=afx (l:=l) (kind:=0) (body:=d.body) (oth:=known)
 refine ⟨fun x hx=>?_,fun x hx=>?_,by simp,by simp⟩
 ·rw [List.mem_singleton.1 hx]; exact h3
 ·rw [List.mem_singleton.1 hx]; exact ⟨h2.2,h4.2⟩
theorem bc9 {l:Li} {known:List Bool} {g:Gr} (h:pairG l known = some g):GrOk l g:=by
 unfold pairG at h
 rw [map_eq_some_iff] at h
 obtain ⟨i,hi,h⟩:=h
 obtain ⟨h1,h2⟩:=abo hi
 split at h
 ·rename_i k hk
  subst h
  unfold prAt at hk
  rw [map_eq_some_iff] at hk
  obtain ⟨k',hk',rfl⟩:=hk
  obtain ⟨h3,h4⟩:=abo hk'
  rw [show i + 1 + k' = k' + (i + 1) by omega] at h4
  unfold prHit at h4
  simp only [Bool.not_eq_false',and_eq_true,decide_eq_true_eq] at h4
  obtain ⟨_,⟨j1,j2⟩,j3⟩:=h4
  refine ⟨fun x hx=>?_,fun x hx=>?_,by simp [prG],by simp [prG]⟩
  ·simp only [prG, mem_cons, not_mem_nil, or_false] at hx
   rcases hx with rfl | rfl <;> constructor <;> omega
  ·simp only [prG, mem_cons, not_mem_nil, or_false] at hx
   rcases hx with rfl | rfl | rfl
   ·exact ⟨j1,afx.2⟩
   ·exact ⟨j2,afx.2⟩
   ·exact ⟨j3,afx.2⟩
 ·rename_i hk; rw [hk] at h2; cases h2
theorem a4b {l:Li} {known:List Bool} {g:Gr} (h:singleG l known = some g):GrOk l g:=by
 unfold singleG at h
 rw [map_eq_some_iff] at h
 obtain ⟨i,hi,rfl⟩:=h
 obtain ⟨h1,h2⟩:=abo hi
 unfold sgHit at h2
 simp only [Bool.not_eq_false',and_eq_true,decide_eq_true_eq] at h2
 obtain ⟨_,j1,j2⟩:=h2
 refine ⟨fun x hx=>?_,fun x hx=>?_,by simp [sgG],by simp [sgG]⟩
 ·simp only [sgG, mem_cons, not_mem_nil, or_false] at hx
  subst hx; constructor <;> omega
 ·simp only [sgG, mem_cons, not_mem_nil, or_false] at hx
  rcases hx with rfl | rfl
  ·exact ⟨j1,afx.2⟩
  ·exact ⟨j2,afx.2⟩
theorem aup {l:Li} (hl:liE l = 0) {known:List Bool} {g:Gr} (h:nextG l known = some g):GrOk l g:=by
 unfold nextG at h
 cases h1:driverG l known with
 | some g'=>rw [h1] at h; cases h; exact a21 hl h1
 | none =>
  rw [h1] at h
  cases h2:pairG l known with
  | some g'=>rw [h2] at h; cases h; exact bc9 h2
  | none=>rw [h2] at h; exact a4b h
theorem ap7 {l:Li} (hl:liE l = 0):∀ (n:Nat) (known:List Bool) (out:List Gr), (∀ g ∈ out, GrOk l g) -> (∀ g ∈ (findFrom l n known out).2, GrOk l g) /\ (findFrom l n known out).2.length <= out.length + n
 | 0,known,out,h=>⟨h,by simp [findFrom]⟩
 | n + 1, known, out, h=>by
  unfold findFrom
  cases hg:nextG l known with
  | none=>exact ⟨h,by simp⟩
  | some g =>
   have h1:=ap7 hl n (aau known g.bodies) (out ++ [g]) (fun x hx=>by
    rcases List.mem_append.1 hx with hx | hx
    ·exact h x hx
    ·rw [List.mem_singleton.1 hx]; exact aup hl hg)
   refine ⟨h1.1,?_⟩
   have:=h1.2
   rw [length_append] at this
   show (findFrom l n (aau known g.bodies) (out ++ [g])).2.length <= _
   simp only [length_cons,length_nil] at this
   omega
theorem aka {l:Li} (hl:liE l = 0):(∀ g ∈ findG l, GrOk l g) /\ (findG l).length <= 8:=by
 have h:=ap7 hl l.bodies.length (aef l.bodies.length 0) [] (fun g hg=>by cases hg)
 have h8:=(ab1 hl).2.2.2.1
 exact ⟨h.1,by have:=h.2; simp only [length_nil] at this; unfold findG; omega⟩
end Go.Lw
namespace Go.Lw
def ai2 (j:Jt) (b:Int):Int:=if b = j.a then j.b else if b = j.b then j.a else -1
def bov (kind body:Int) (p:Int -> Bool) (j:Jt):Bool:=decide (j.kind = kind) && (decide (0 <= ai2 j body) && p (ai2 j body))
def gJ (l:Li) (kind body:Int) (p:Int -> Bool):Int:=ixI (abi l.joints.length (fun i=>!bov kind body p (l.joints.getD i default)))
theorem br6 {b:Bool} {z:Int} (h:cond b (aab .geq z 0) false = true):0 <= z:=by
 cases b
 ·cases h
 ·exact of_decide_eq_true h
theorem bk7 {a k z:Int} {q:Bool}:cond (cond (aab .eql a k) (aab .geq z 0) false) q false = (decide (a = k) && (decide (0 <= z) && q)):=by
 rw [ak2,show aab .geq z 0 = decide (0 <= z) from rfl,ade,ade,Bool.and_assoc]
theorem bbv {l:Li} (hli:liE l = 0) {i:Nat} {j:Jt} (hj:l.joints[i]? = some j) (b:Int):ai2 j b < l.bodies.length:=by
 obtain ⟨i1,i2,_⟩:=afv hli hj
 have b1:=ahm i1
 have b2:=ahm i2
 unfold ai2
 split
 ·omega
 ·split <;> omega
theorem av5 {n:Nat} {ok ok':Nat -> Bool} (h:∀ i, i < n -> ok i = ok' i):abi n ok = abi n ok':=by
 unfold abi
 have:∀ l:List Nat, (∀ i ∈ l, i < n) -> l.find? (fun i=>!ok i) = l.find? (fun i=>!ok' i):=by
  intro l
  induction l with
  | nil=>intro _; rfl
  | cons a l ih =>
   intro hl
   simp only [List.find?_cons,h a (hl a (by simp)),ih (fun i hi=>hl i (by simp [hi]))]
 exact this _ (fun i hi=>List.mem_range.1 hi)
theorem bjf {l:Li} (hli:liE l = 0) {kind body:Int} {p:Int -> Bool} {oth:List Bool} (h:∀ o:Int, 0 <= o -> o < l.bodies.length -> p o = kn oth o):gJ l kind body p = jointI l kind body oth:=by
 unfold gJ jointI
 rw [av5]
 intro i hi
 obtain ⟨j,hj⟩:=ab0 hi
 rw [aag hj]
 obtain ⟨i1,i2,_⟩:=afv hli hj
 have b1:=ahm i1
 have b2:=ahm i2
 congr 1
 unfold bov bba
 congr 1
 unfold ai2
 by_cases h1:body = j.a
 ·subst h1
  rw [if_pos rfl,h _ b2.1 b2.2]
  by_cases h2:j.b = j.a
  ·simp [h2,b1.1]
  ·simp [h2,b2.1]
 ·rw [if_neg h1]
  by_cases h2:body = j.b
  ·subst h2
   rw [if_pos rfl,h _ b1.1 b1.2]
   have h3:¬ j.a = j.b:=fun e=>h1 e.symm
   simp [h3,b1.1]
  ·rw [if_neg h2]
   have h3:¬ j.a = body:=fun e=>h1 e.symm
   have h4:¬ j.b = body:=fun e=>h2 e.symm
   simp [h3,h4]
theorem bf8 {k:List Bool} {i:Nat} {b:Int} (h0:0 <= b) (hi:i < k.length):kn (k.set i true) b = (decide (b = i) || kn k b):=by
 unfold kn
 rw [getD_eq_getElem?_getD,List.getElem?_set,getD_eq_getElem?_getD]
 by_cases h:b = i
 ·rw [decide_eq_true h, Bool.true_or, if_pos (by omega)]
  rw [if_pos (by omega)]; rfl
 ·rw [decide_eq_false h,Bool.false_or,if_neg (by omega)]
theorem a8v:∀ {bs:List Int} {k:List Bool} {b:Int}, 0 <= b -> (∀ x ∈ bs, 0 <= x /\ x < k.length) -> kn (aau k bs) b = (bs.any (fun x=>decide (x = b)) || kn k b)
 | [],k,b,h0,h=>by simp [aau]
 | x :: bs, k, b, h0, h=>by
  show kn (aau (k.set x.toNat true) bs) b = _
  obtain ⟨hx0,hx1⟩:=h x (by simp)
  rw [a8v h0 (fun y hy=>by rw [length_set]; exact h y (by simp [hy])),bf8 h0 (by omega),List.any_cons]
  have e:decide (b = (x.toNat:Int)) = decide (x = b):=decide_eq_decide.2 (by omega)
  rw [e]
  cases decide (x = b) <;> simp
theorem a2k (n:Nat) (b:Int):kn (List.replicate n false) b = false:=by
 unfold kn
 rw [getD_eq_getElem?_getD,List.getElem?_replicate]
 split <;> rfl
def aay (l:Li):List Bool:=aau (List.replicate l.bodies.length false) (l.drivers.map Dr.body)
theorem ah9 (l:Li):(aay l).length = l.bodies.length:=by unfold aay; rw [afm,List.length_replicate]
theorem a9s {l:Li} (hli:liE l = 0) {b:Int} (h0:0 <= b):kn (aay l) b = ak9 l b:=by
 unfold aay ak9
 rw [a8v h0,a2k,Bool.or_false,List.any_map]
 ·rfl
 ·intro x hx
  obtain ⟨d,hd,rfl⟩:=List.mem_map.1 hx
  obtain ⟨i,hi⟩:=List.mem_iff_getElem?.1 hd
  have:=ahm (ayz hli hi)
  rw [List.length_replicate]; omega
theorem azq {n:Nat} {b o:Int} (h0:0 <= o) (hb0:0 <= b) (hb:b < n):kn (aef n b) o = decide (o = b):=by
 unfold aef
 rw [bf8 h0 (by rw [List.length_replicate]; omega),a2k,Bool.or_false]
 exact decide_eq_decide.2 (by omega)
def unk (k:List Bool):Nat:=k.countP (fun x=>!x)
theorem bju {k:List Bool} {i:Nat} (h:k[i]? = some false):unk (k.set i true) + 1 = unk k:=by
 unfold unk
 have hi:=(List.getElem?_eq_some_iff.1 h).1
 have he:=(List.getElem?_eq_some_iff.1 h).2
 rw [List.countP_set hi,he]
 have:0 < k.countP (fun x=>!x):=List.countP_pos_iff.2 ⟨false,mem_of_getElem? h,rfl⟩
 simp; omega
theorem a36 (k:List Bool) (i:Nat):unk (k.set i true) <= unk k:=by
 by_cases hi:i < k.length
 ·unfold unk; rw [List.countP_set hi]; simp
 ·rw [List.set_eq_of_length_le (by omega)]; exact le_refl _
theorem aro:∀ (bs:List Int) (k:List Bool), unk (aau k bs) <= unk k
 | [],k=>le_refl _
 | x :: bs,k=>le_trans (aro bs (k.set x.toNat true)) (a36 k _)
theorem bbd {x:Int} {bs:List Int} {k:List Bool} (h:k[x.toNat]? = some false):unk (aau k (x :: bs)) < unk k:=by
 have h1:=aro bs (k.set x.toNat true)
 have h2:=bju h
 show unk (aau (k.set x.toNat true) bs) < _
 omega
theorem a5e {k:List Bool} {b:Int} (h:kn k b = false) (h1:b.toNat < k.length):k[b.toNat]? = some false:=by
 unfold kn at h
 rw [getD_eq_getElem?_getD,getElem?_eq_getElem h1] at h
 rw [getElem?_eq_getElem h1]
 simpa using h
theorem a7o {l:Li} (hl:liE l = 0) {known:List Bool} (hk:known.length = l.bodies.length) {g:Gr} (h:nextG l known = some g):∃ x bs, g.bodies = x :: bs /\ known[x.toNat]? = some false:=by
 unfold nextG at h
 cases h1:driverG l known with
 | some g' =>
  rw [h1] at h; cases h
  unfold driverG at h1
  rw [map_eq_some_iff] at h1
  obtain ⟨i,hi,rfl⟩:=h1
  obtain ⟨h2,h3⟩:=abo hi
  obtain ⟨d,hd⟩:=ab0 h2
  have h4:=ahm (ayz hl hd)
  rw [aag hd] at *
  unfold drHit at h3
  rw [aag hd] at h3
  simp only [Bool.not_eq_false',and_eq_true,Bool.not_eq_true',decide_eq_true_eq] at h3
  exact ⟨_,_,rfl,a5e h3.1 (by omega)⟩
 | none =>
  rw [h1] at h
  cases h2:pairG l known with
  | some g' =>
   rw [h2] at h; cases h
   unfold pairG at h2
   rw [map_eq_some_iff] at h2
   obtain ⟨i,hi,h2⟩:=h2
   obtain ⟨h3,h4⟩:=abo hi
   split at h2
   ·rename_i k hk'
    subst h2
    unfold prAt at hk'
    rw [map_eq_some_iff] at hk'
    obtain ⟨k',hk',rfl⟩:=hk'
    obtain ⟨h5,h6⟩:=abo hk'
    unfold prHit freeB at h6
    simp only [Bool.not_eq_false',and_eq_true,Bool.not_eq_true',decide_eq_true_eq] at h6
    exact ⟨_,_,rfl,a5e h6.1.1.1 (by omega)⟩
   ·rename_i hk'; rw [hk'] at h4; cases h4
  | none =>
   rw [h2] at h
   have h:singleG l known = some g:=h
   unfold singleG at h
   rw [map_eq_some_iff] at h
   obtain ⟨i,hi,rfl⟩:=h
   obtain ⟨h3,h4⟩:=abo hi
   unfold sgHit freeB at h4
   simp only [Bool.not_eq_false',and_eq_true,Bool.not_eq_true',decide_eq_true_eq] at h4
   exact ⟨_,_,rfl,a5e h4.1.1 (by omega)⟩
theorem ahx {l:Li} (hl:liE l = 0) {known:List Bool} (hk:known.length = l.bodies.length) {g:Gr} (h:nextG l known = some g):unk (aau known g.bodies) < unk known:=by
 obtain ⟨x,bs,e,h1⟩:=a7o hl hk h
 rw [e]; exact bbd h1
theorem aid {l:Li} (hl:liE l = 0):∀ (n m:Nat) (known:List Bool) (out:List Gr), known.length = l.bodies.length -> unk known <= n -> unk known <= m -> findFrom l n known out = findFrom l m known out
 | 0,0,known,out,hk,h1,h2=>rfl
 | 0, m + 1, known, out, hk, h1, h2=>by
  unfold findFrom
  cases hg:nextG l known with
  | none=>rfl
  | some g=>have:=ahx hl hk hg; omega
 | n + 1, 0, known, out, hk, h1, h2=>by
  unfold findFrom
  cases hg:nextG l known with
  | none=>rfl
  | some g=>have:=ahx hl hk hg; omega
 | n + 1, m + 1, known, out, hk, h1, h2=>by
  unfold findFrom
  cases hg:nextG l known with
  | none=>rfl
  | some g =>
   have:=ahx hl hk hg
   exact aid hl n m _ _ (by rw [afm]; exact hk) (by omega) (by omega)
theorem aho {l:Li}:∀ (n:Nat) (known:List Bool) (out:List Gr), ∃ gs, findFrom l n known out = (gs.foldl (fun k g=>aau k g.bodies) known, out ++ gs)
 | 0,known,out=>⟨[],by simp [findFrom]⟩
 | n + 1, known, out=>by
  unfold findFrom
  cases hg:nextG l known with
  | none=>exact ⟨[],by simp⟩
  | some g =>
   obtain ⟨gs,e⟩:=aho n (aau known g.bodies) (out ++ [g])
   exact ⟨g :: gs,by show findFrom l n _ _ = _; rw [e]; simp⟩
theorem a29 (l:Li):findFrom l l.bodies.length (aef l.bodies.length 0) [] = (adn l, findG l):=by
 obtain ⟨gs,e⟩:=aho (l:=l) l.bodies.length (aef l.bodies.length 0) []
 unfold adn findG
 rw [e]; simp
theorem a1r {k:List Bool}:(acg k).length = 0 ↔ k.contains false = false:=by
 unfold acg
 rw [length_map,List.length_eq_zero_iff,List.filter_eq_nil_iff]
 constructor
 ·intro h
  rw [<- Bool.not_eq_true,List.contains_iff_mem]
  intro hm
  obtain ⟨i,hi⟩:=List.mem_iff_getElem?.1 hm
  have hlt:=(List.getElem?_eq_some_iff.1 hi).1
  have:=h i (List.mem_range.2 hlt)
  rw [getD_eq_getElem?_getD,hi] at this
  simp at this
 ·intro h i hi
  rw [<- Bool.not_eq_true,List.contains_iff_mem] at h
  intro hc
  have hlt:=List.mem_range.1 hi
  rw [getD_eq_getElem?_getD,getElem?_eq_getElem hlt] at hc
  simp at hc
  exact h (hc ▸ List.getElem_mem hlt)
theorem am9:Sub (.agg [.v (.int .i64 0),.v (.slice none 0 0),.v (.slice none 0 0),.v (.int .i64 0)]) (Gr.av default):=.agg (.cons (.refl _) (.cons (.nil _ _ _) (.cons (.nil _ _ _) (.cons (.refl _) .nil)))) rfl
theorem bkj {z:Int} (h:aab .geq z 0 = true):0 <= z:=of_decide_eq_true h
theorem bll {z:Int} (h:aab .geq z 0 = false):¬ 0 <= z:=of_decide_eq_false h
theorem atm {a b c:Int}:cond (cond (aab .geq a 0) (aab .geq b 0) false) (aab .geq c 0) false = (decide (0 <= a) && decide (0 <= b) && decide (0 <= c)):=by
 have e:∀ z:Int,aab .geq z 0 = decide (0 <= z):=fun z=>rfl
 rw [e,e,e,ade,ade]
theorem bkr {a b:Int}:cond (aab .lss a 0) true (aab .lss b 0) = !(decide (0 <= a) && decide (0 <= b)):=by
 have e:∀ z:Int,aab .lss z 0 = !decide (0 <= z):=fun z=>by rw [<- decide_not]; exact decide_eq_decide.2 (by omega)
 rw [e,e,ahe,Bool.not_and]
theorem bme {a b:Int} (h:cond (aab .lss a 0) true (aab .lss b 0) = true):(decide (0 <= a) && decide (0 <= b)) = false:=by rw [bkr] at h; exact adi h
theorem bna {a b:Int} (h:cond (aab .lss a 0) true (aab .lss b 0) = false):0 <= a /\ 0 <= b:=by
 rw [bkr] at h
 have:=adj h
 simpa using this
end Go.Lw
namespace Go.Lw
structure TieO (l:Li) (kind:Int) (bs:List Int) (z b:Int) (j:Jt):Prop where
  hz:0 <= z
  hj:l.joints[z.toNat]? = some j
  kd:j.kind = kind
  tie:(j.a = b /\ j.b ∉ bs) \/ (j.b = b /\ j.a ∉ bs)
inductive DyK (l:Li):Gr -> Prop where
  | drv {b z d:Int} {j:Jt} {x:Dr} (t:TieO l 0 [b] z b j) (d0:0 <= d) (hd:l.drivers[d.toNat]? = some x) (hb:x.body = b):DyK l ⟨0,[b],[z],d⟩
  | rrr {i k z0 z1 z2:Int} {j0 j1 j2:Jt} (ne:i ≠ k) (t0:TieO l 0 [i, k] z0 i j0) (t1:TieO l 0 [i, k] z1 k j1) (h0:0 <= z2) (h2:l.joints[z2.toNat]? = some j2) (kd:j2.kind = 0)
      (tie:(j2.a = i /\ j2.b = k) \/ (j2.b = i /\ j2.a = k)):DyK l ⟨1,[i,k],[z0,z1,z2],0⟩
  | pr {i z0 z1:Int} {j0 j1:Jt} (t0:TieO l 0 [i] z0 i j0) (t1:TieO l 1 [i] z1 i j1) (ha:j1.a = i):DyK l ⟨2,[i],[z0,z1],0⟩
  | rp {i z0 z1:Int} {j0 j1:Jt} (t0:TieO l 0 [i] z0 i j0) (t1:TieO l 1 [i] z1 i j1) (ha:j1.a ≠ i):DyK l ⟨3,[i],[z0,z1],0⟩
theorem axf {l:Li} {kind b:Int} {oth:List Bool} (h:0 <= jointI l kind b oth) :
  ∃ (i:Nat) (j:Jt),jointI l kind b oth = (i:Int) /\ l.joints[i]? = some j /\ j.kind = kind /\ ((j.a = b /\ kn oth j.b = true) \/ (j.b = b /\ kn oth j.a = true)):=by
 unfold jointI at h ⊢
 cases hf:abi l.joints.length (fun i=>!bba kind b oth (l.joints.getD i default)) with
 | none=>rw [hf] at h; exact absurd h (by decide)
 | some i =>
  obtain ⟨h1,h2⟩:=abo hf
  obtain ⟨j,hj⟩:=ab0 h1
  rw [aag hj] at h2
  unfold bba at h2
  simp only [Bool.not_eq_false',and_eq_true,or_eq_true,decide_eq_true_eq] at h2
  exact ⟨i,j,rfl,hj,h2.1,h2.2⟩
theorem avw {l:Li} {kind b:Int} {known:List Bool} {bs:List Int} (hb:∀ x ∈ bs, kn known x = false) (h:0 <= jointI l kind b known):∃ j, TieO l kind bs (jointI l kind b known) b j:=by
 obtain ⟨i,j,e,hj,hk,ht⟩:=axf h
 have hn:∀ x,kn known x = true -> x ∉ bs:=fun x hx hm=>by rw [hb x hm] at hx; cases hx
 refine ⟨j,h,by rw [e,toNat_natCast]; exact hj,hk,?_⟩
 rcases ht with ⟨h1,h2⟩ | ⟨h1,h2⟩
 ·exact .inl ⟨h1,hn _ h2⟩
 ·exact .inr ⟨h1,hn _ h2⟩
theorem atr {l:Li} {known:List Bool} {b:Int} (h:freeB l known b = true):kn known b = false:=by
 unfold freeB at h
 simp only [and_eq_true,Bool.not_eq_true'] at h
 exact h.1
theorem bay {known:List Bool} {b:Int} (h:kn known b = false):∀ x ∈ [b],kn known x = false:=fun x hx=>by rw [List.mem_singleton.1 hx]; exact h
theorem a3c {l:Li} (hl:liE l = 0) {known:List Bool} {g:Gr} (h:driverG l known = some g):DyK l g:=by
 unfold driverG at h
 rw [map_eq_some_iff] at h
 obtain ⟨i,hi,rfl⟩:=h
 obtain ⟨h1,h2⟩:=abo hi
 obtain ⟨d,hd⟩:=ab0 h1
 unfold drHit at h2
 simp only [Bool.not_eq_false',and_eq_true,decide_eq_true_eq,Bool.not_eq_true'] at h2
 rw [aag hd] at h2 ⊢
 obtain ⟨j,hj⟩:=avw (bay h2.1) h2.2
 exact .drv hj (by omega) (by rw [toNat_natCast]; exact hd) rfl
theorem bco {l:Li} (hl:liE l = 0) {known:List Bool} {g:Gr} (h:pairG l known = some g):DyK l g:=by
 unfold pairG at h
 rw [map_eq_some_iff] at h
 obtain ⟨i,hi,h⟩:=h
 obtain ⟨h1,h2⟩:=abo hi
 split at h
 ·rename_i k hk
  subst h
  unfold prAt at hk
  rw [map_eq_some_iff] at hk
  obtain ⟨k',hk',rfl⟩:=hk
  obtain ⟨h3,h4⟩:=abo hk'
  rw [show i + 1 + k' = k' + (i + 1) by omega] at h4
  unfold prHit at h4
  simp only [Bool.not_eq_false',and_eq_true,decide_eq_true_eq] at h4
  obtain ⟨⟨f1,f2⟩,⟨j1,j2⟩,j3⟩:=h4
  have hb:∀ x ∈ [(i:Int), ((k' + (i + 1):Nat):Int)], kn known x = false:=fun x hx=>by
   simp only [mem_cons,not_mem_nil,or_false] at hx
   rcases hx with rfl | rfl
   ·exact atr f1
   ·exact atr f2
  obtain ⟨a0,t0⟩:=avw hb j1
  obtain ⟨a1,t1⟩:=avw hb j2
  obtain ⟨n,a2,e,hj,hkd,ht⟩:=axf j3
  obtain ⟨i1,i2,_⟩:=afv hl hj
  have i1:=(ahm i1).1
  have i2:=(ahm i2).1
  refine .rrr (by omega) t0 t1 j3 (by rw [e,toNat_natCast]; exact hj) hkd ?_
  rcases ht with ⟨e1,e2⟩ | ⟨e1,e2⟩
  ·rw [azq i2 (by omega) (by omega)] at e2
   exact .inl ⟨e1,of_decide_eq_true e2⟩
  ·rw [azq i1 (by omega) (by omega)] at e2
   exact .inr ⟨e1,of_decide_eq_true e2⟩
 ·rename_i hk; rw [hk] at h2; cases h2
theorem a3j {l:Li} {known:List Bool} {g:Gr} (h:singleG l known = some g):DyK l g:=by
 unfold singleG at h
 rw [map_eq_some_iff] at h
 obtain ⟨i,hi,rfl⟩:=h
 obtain ⟨h1,h2⟩:=abo hi
 unfold sgHit at h2
 simp only [Bool.not_eq_false',and_eq_true,decide_eq_true_eq] at h2
 obtain ⟨f1,j1,j2⟩:=h2
 obtain ⟨a0,t0⟩:=avw (bay (atr f1)) j1
 obtain ⟨a1,t1⟩:=avw (bay (atr f1)) j2
 unfold sgG
 rw [aag t1.hj]
 by_cases e:a1.a = i
 ·rw [if_pos e]; exact .pr t0 t1 e
 ·rw [if_neg e]; exact .rp t0 t1 e
theorem bc1 {l:Li} (hl:liE l = 0) {known:List Bool} {g:Gr} (h:nextG l known = some g):DyK l g:=by
 unfold nextG at h
 cases h1:driverG l known with
 | some g'=>rw [h1] at h; cases h; exact a3c hl h1
 | none =>
  rw [h1] at h
  cases h2:pairG l known with
  | some g'=>rw [h2] at h; cases h; exact bco hl h2
  | none=>rw [h2] at h; exact a3j h
theorem aqy {l:Li} (hl:liE l = 0):∀ (n:Nat) (known:List Bool) (out:List Gr), (∀ g ∈ out, DyK l g) -> ∀ g ∈ (findFrom l n known out).2, DyK l g
 | 0,known,out,h=>h
 | n + 1, known, out, h=>by
  unfold findFrom
  cases hg:nextG l known with
  | none=>exact h
  | some g=>exact aqy hl n (aau known g.bodies) (out ++ [g]) (fun x hx=>by
    rcases List.mem_append.1 hx with hx | hx
    ·exact h x hx
    ·rw [List.mem_singleton.1 hx]; exact bc1 hl hg)
theorem alx {l:Li} (hl:liE l = 0) {g:Gr} (h:g ∈ splitG l):DyK l g /\ GrOk l g:=by
 unfold splitG at h
 split at h
 ·exact ⟨aqy hl _ _ _ (fun g hg=>by cases hg) g h,(aka hl).1 g h⟩
 ·cases h
end Go.Lw
namespace Go.Lw
def aoy (xs:List Int):List Int:=xs.mergeSort (fun a b=>decide (a <= b))
theorem at4 (xs:List Int):(aoy xs).Perm xs:=List.mergeSort_perm _ _
theorem a4e (xs:List Int):(aoy xs).Pairwise (· <= ·):=by
 have h:=List.pairwise_mergeSort (le:=fun a b:Int=>decide (a <= b)) (fun a b c h1 h2=>by simp only [decide_eq_true_eq] at *; omega) (fun a b=>by simp only [or_eq_true,decide_eq_true_eq]; omega) xs
 exact h.imp (fun h=>of_decide_eq_true h)
theorem bcj {xs ys:List Int} (hp:ys.Perm xs) (hs:ys.Pairwise (· <= ·)):ys = aoy xs :=
 List.Perm.eq_of_pairwise (le:=fun a b:Int=>a <= b) (fun a b _ _ h1 h2=>by omega) hs (a4e xs) (hp.trans (at4 xs).symm)
theorem a9c (xs:List Int):(aoy xs).length = xs.length:=(at4 xs).length_eq
theorem ayq {xs:List Int} {b:Int}:b ∈ aoy xs ↔ b ∈ xs:=(at4 xs).mem_iff
theorem apv (e:Nat) (l:List Nat):aec (e :: l) = if e ≠ 0 then e else aec l:=rfl
theorem akx {α:Type} {f:α -> Nat} {L:List α} (h:∀ x ∈ L, f x = 0):aec (L.map f) = 0:=by
 induction L with
 | nil=>rfl
 | cons x L ih =>
  rw [map_cons,apv,if_neg (by rw [h x (mem_cons_self ..)]; simp)]
  exact ih (fun y hy=>h y (mem_cons_of_mem _ hy))
def anc (g:Gr) (j:Jt):Int:=if g.bodies.contains j.a = true then (if g.bodies.contains j.b = true then -1 else j.b) else j.a
def au1 (l:Li) (g:Gr):List Int:=g.joints.map (fun j=>anc g (l.joints.getD j.toNat default))
theorem anw (l:Li) (g:Gr):(au1 l g).length = g.joints.length:=by unfold au1; rw [length_map]
theorem bgr {l:Li} (hl:liE l = 0) {g:Gr} (hg:GrOk l g):∀ b ∈ au1 l g, b < l.bodies.length:=by
 intro b hb
 unfold au1 at hb
 obtain ⟨z,hz,rfl⟩:=List.mem_map.1 hb
 obtain ⟨z0,z1⟩:=hg.j z hz
 obtain ⟨j,hj⟩:=ab0 (l:=l.joints) (i:=z.toNat) (by omega)
 rw [aag hj]
 obtain ⟨i1,i2,_⟩:=afv hl hj
 have i1:=ahm i1
 have i2:=ahm i2
 unfold anc
 split
 ·split
  ·omega
  ·omega
 ·omega
def ndL (l:Li) (g:Gr) (own:Bool):List Int:=au1 l g ++ (if own = true then g.bodies else [])
theorem a73 {l:Li} (hl:liE l = 0) {g:Gr} (hg:GrOk l g) {own:Bool}:∀ b ∈ ndL l g own, b < l.bodies.length:=by
 intro b hb
 rcases List.mem_append.1 hb with hb | hb
 ·exact bgr hl hg b hb
 ·split at hb
  ·exact (hg.b b hb).2
  ·cases hb
theorem bnj {l:Li} {g:Gr} (hg:GrOk l g) {own:Bool}:(ndL l g own).length <= 5:=by
 unfold ndL
 have h1:=hg.lb
 have h2:=hg.lj
 rw [length_append,anw]
 split
 ·omega
 ·simp only [length_nil]; omega
def ndE (a:As) (b:Int):Nat:=if b < 0 then 0 else aa0 a.rs (a.bs.getD b.toNat default).l
def gAt (l:Li) (k:Int):Gr:=(splitG l).getD k.toNat default
def a27 (l:Li) (k:Int) (a:As) (own:Bool):Nat :=
  if splitE l ≠ 0 then splitE l else if k < 0 \/ ((splitG l).length:Int) <= k then 9 else if a.bs.length ≠ l.bodies.length then 10 else if ad7 a.rs ≠ 0 then ad7 a.rs
  else aec ((aoy (ndL l (gAt l k) own)).map (ndE a))
def dyE (l:Li) (k:Int) (a:As) (own:Bool):Nat:=if liE l ≠ 0 then liE l else a27 l k a own
section
variable {l:Li} {k:Int} {a:As} {own:Bool}
theorem bke (h:liE l = 0):dyE l k a own = a27 l k a own:=by unfold dyE; rw [if_neg (by omega)]
theorem br1 {e:Nat} (he:(if liE l = 0 then splitE l else liE l) = e) (h:e ≠ 0):dyE l k a own = e:=by
 by_cases h1:liE l = 0
 ·rw [if_pos h1] at he
  rw [bke h1]; unfold a27; rw [if_pos (by omega)]; exact he
 ·rw [if_neg h1] at he
  unfold dyE; rw [if_pos h1]; exact he
theorem bqc (h:(if liE l = 0 then splitE l else liE l) = 0):liE l = 0 /\ splitE l = 0:=by
 by_cases h1:liE l = 0
 ·rw [if_pos h1] at h; exact ⟨h1,h⟩
 ·rw [if_neg h1] at h; exact absurd h h1
theorem bsb (hs:splitE l = 0) (hk:k < 0 \/ ((splitG l).length:Int) <= k):a27 l k a own = 9:=by unfold a27; rw [if_neg (by omega),if_pos hk]
theorem brv (hs:splitE l = 0) (hk:¬ (k < 0 \/ ((splitG l).length:Int) <= k)) (hb:a.bs.length ≠ l.bodies.length):a27 l k a own = 10:=by
 unfold a27; rw [if_neg (by omega),if_neg hk,if_pos hb]
theorem bru (hs:splitE l = 0) (hk:¬ (k < 0 \/ ((splitG l).length:Int) <= k)) (hb:a.bs.length = l.bodies.length) (hc:ad7 a.rs ≠ 0):a27 l k a own = ad7 a.rs:=by
 unfold a27; rw [if_neg (by omega),if_neg hk,if_neg (by omega),if_pos hc]
theorem br0 (hs:splitE l = 0) (hk:¬ (k < 0 \/ ((splitG l).length:Int) <= k)) (hb:a.bs.length = l.bodies.length) (hc:ad7 a.rs = 0):a27 l k a own = aec ((aoy (ndL l (gAt l k) own)).map (ndE a)):=by
 unfold a27; rw [if_neg (by omega),if_neg hk,if_neg (by omega),if_neg (by omega)]
end
structure DyOk (l:Li) (k:Int) (a:As) (own:Bool) (i:Nat) (g:Gr):Prop where
  li:liE l = 0
  sp:splitE l = 0
  hk:k = (i:Int)
  hg:(splitG l)[i]? = some g
  ok:GrOk l g
  dy:DyK l g
  ln:a.bs.length = l.bodies.length
  chk:ad7 a.rs = 0
  nd:∀ b ∈ ndL l g own,ndE a b = 0
theorem bi1 {l:Li} {k:Int} {a:As} {own:Bool} (h:dyE l k a own = 0):∃ i g, DyOk l k a own i g:=by
 unfold dyE at h
 split at h
 ·rename_i h1; exact absurd h h1
 ·rename_i h1
  have h1:=Decidable.not_not.1 h1
  unfold a27 at h
  split at h
  ·rename_i h2; exact absurd h h2
  ·rename_i h2
   split at h
   ·cases h
   ·rename_i h3
    split at h
    ·cases h
    ·rename_i h4
     split at h
     ·rename_i h5; exact absurd h h5
     ·rename_i h5
      obtain ⟨g,hg⟩:=ab0 (l:=splitG l) (i:=k.toNat) (by omega)
      have e:gAt l k = g:=aag hg
      rw [e] at h
      obtain ⟨d1,d2⟩:=alx h1 (mem_of_getElem? hg)
      refine ⟨k.toNat,g,h1,by omega,by omega,hg,d2,d1,by omega,by omega,fun b hb=>?_⟩
      exact aei h _ (List.mem_map.2 ⟨b,ayq.2 hb,rfl⟩)
theorem DyOk.body {l:Li} {k:Int} {a:As} {own:Bool} {i:Nat} {g:Gr} (h:DyOk l k a own i g) {b:Int} (hb:b ∈ ndL l g own) (h0:0 <= b):∃ p, a.bs[b.toNat]? = some p /\ aa0 a.rs p.l = 0:=by
 have h1:=a73 h.li h.ok b hb
 obtain ⟨p,hp⟩:=ab0 (l:=a.bs) (i:=b.toNat) (by have:=h.ln; omega)
 have h2:=h.nd b hb
 unfold ndE at h2
 rw [if_neg (by omega),aag hp] at h2
 exact ⟨p,hp,h2⟩
theorem bpu (n:Nat):4000 <= lm n:=by have:=adm n; omega
theorem bqg {k:Int} {n:Nat} (h:cond (aab .lss k 0) true (aab .geq k (n:Int)) = true):k < 0 \/ (n:Int) <= k:=by
 by_cases h1:k < 0
 ·exact .inl h1
 ·refine .inr ?_
  have h2:aab .lss k 0 = false:=decide_eq_false h1
  rw [h2] at h
  exact of_decide_eq_true (p:=k >= n) h
theorem bp3 {k:Int} {n:Nat} (h:cond (aab .lss k 0) true (aab .geq k (n:Int)) = false):¬ (k < 0 \/ (n:Int) <= k):=by
 intro h1
 by_cases h2:k < 0
 ·rw [show aab .lss k 0 = true from decide_eq_true h2] at h; cases h
 ·rw [show aab .lss k 0 = false from decide_eq_false h2] at h
  have h3:¬ (k >= n):=of_decide_eq_false h
  omega
theorem blb {k:Int} {n:Nat} (h:¬ (k < 0 \/ (n:Int) <= k)):∃ i:Nat,k = i /\ i < n:=⟨k.toNat,by omega,by omega⟩
theorem bmb {a b:Nat} (h:aab .neq (a:Int) (b:Int) = true):a ≠ b:=by
 have h1:((a:Int) != (b:Int)) = true:=h
 have h2:=bne_iff_ne.1 h1
 omega
theorem bnp {a b:Nat} (h:aab .neq (a:Int) (b:Int) = false):a = b:=by
 have h1:((a:Int) != (b:Int)) = false:=h
 have h2:(a:Int) = b:=by simpa only [bne_eq_false_iff_eq] using h1
 omega
end Go.Lw
namespace Go.Lw
open Go.Proofs
theorem bds (ts:List (List Rat)) (z:T ts.length):eqT ts z z = true:=by
 have h:=bd1 (ts:=ts) z
 unfold eqE sgE at h
 exact h
end Go.Lw
namespace Go.Lw
open Go.Proofs
end Go.Lw
namespace Go.Lw
def mkQ (l:Li) (body pt:Int):Rat × Rat:=(((aea l body).getD pt.toNat default).x.q,((aea l body).getD pt.toNat default).y.q)
abbrev qC (p:Rat × Rat):List AV:=[bl (rt p.1).neg,ws (rt p.1).num,ws (rt p.1).den,bl (rt p.2).neg,ws (rt p.2).num,ws (rt p.2).den]
abbrev qP (p:Rat × Rat):AV:=.agg (qC p)
structure Sm (e:Nat) (p:Rat × Rat):Prop where
  x:Qb e p.1
  y:Qb e p.2
structure MkP (l:Li) (body pt:Int) (n k:Nat) (bd:Bd) (m:Mk):Prop where
  hn:body = n
  hk:pt = k
  gbd:l.bodies[n]? = some bd
  gm:bd.pts[k]? = some m
  ex:m.x = rt (mkQ l body pt).1
  ey:m.y = rt (mkQ l body pt).2
  sm:Sm 1000 (mkQ l body pt)
theorem bdu {l:Li} (hl:l.ok) (hli:liE l = 0) {body pt:Int} (h1:inB body l.bodies.length = true) (h2:inB pt (aea l body).length = true):∃ n k bd m, MkP l body pt n k bd m:=by
 obtain ⟨bd,g1,g2,g3,g4⟩:=aqg h1
 rw [g2] at h2
 obtain ⟨m,g5,g6,g7,g8⟩:=asa h2
 have hv:=a1b hli g1 g5
 have ho:=(hl.bodies bd g3).pts m g7
 have e:mkQ l body pt = (m.x.q,m.y.q):=by unfold mkQ; rw [g2,g6]
 exact ⟨body.toNat,pt.toNat,bd,m,by omega,by omega,g1,g5,by rw [e]; exact Rt.eq_rt ho.x hv.1,by rw [e]; exact Rt.eq_rt ho.y hv.2,by rw [e]; exact ⟨ho.qx.mono (by omega),ho.qy.mono (by omega)⟩⟩
theorem alw {l:Li} (hl:l.ok) (hli:liE l = 0) {body pt:Int} (h1:inB body l.bodies.length = true) (h2:inB pt (aea l body).length = true):Sm 1000 (mkQ l body pt):=by
 obtain ⟨n,k,bd,m,h⟩:=bdu hl hli h1 h2
 exact h.sm
def plE (l:Li) (a:As) (body pt:Int):Et (llq a.rs) × Et (llq a.rs):=aoq l a body pt
structure PlP (l:Li) (a:As) (body pt:Int) (n k:Nat) (bd:Bd) (m:Mk) (b:Pl):Prop where
  mp:MkP l body pt n k bd m
  gb:a.bs[n]? = some b
  eq:aoq l a body pt = atP (llq a.rs) b m
  av:b.av = Pq.av ⟨lq b.c,lq b.s,lq b.x,lq b.y⟩
  ok:Pq.ok (llq a.rs).length 4000 ⟨lq b.c,lq b.s,lq b.x,lq b.y⟩
def Pd (a:As) (body:Int):Prop:=∃ p,a.bs[body.toNat]? = some p /\ aa0 a.rs p.l = 0
theorem bis {l:Li} (hl:l.ok) (hli:liE l = 0) {a:As} (al:AL a) (hc:ad7 a.rs = 0) {body pt:Int} (h1:inB body l.bodies.length = true) (h2:inB pt (aea l body).length = true) (hb:Pd a body):∃ n k bd m b, PlP l a body pt n k bd m b:=by
 obtain ⟨n,k,bd,m,h⟩:=bdu hl hli h1 h2
 obtain ⟨b,gb,hb⟩:=hb
 obtain ⟨tw,_⟩:=ab3 al.tr hc
 have h5:a.rs.length <= 5:=by have:=tw.five; rwa [ajt] at this
 have h9:=aie hb (al.nr b (mem_of_getElem? gb)) h5
 have e:body.toNat = n:=by have:=h.hn; omega
 have e2:pt.toNat = k:=by have:=h.hk; omega
 rw [e] at gb
 obtain ⟨bd',g1,g2,_,_⟩:=aqg h1
 rw [e] at g1
 have:bd' = bd:=Option.some.inj (g1.symm.trans h.gbd)
 subst this
 refine ⟨n,k,bd',m,b,h,gb,?_,h9.1,by rw [ajt]; exact h9.2⟩
 unfold aoq
 rw [e,e2,aag gb,g2,aag h.gm]
theorem afq {l:Li} (hl:l.ok) (hli:liE l = 0) {a:As} (al:AL a) (hc:ad7 a.rs = 0) {body pt:Int} (h1:inB body l.bodies.length = true) (h2:inB pt (aea l body).length = true) (hb:Pd a body) :
  Zu 4000 300000 (plE l a body pt).1 40 40 /\ Zu 4000 300000 (plE l a body pt).2 40 40:=by
 obtain ⟨n,k,bd,m,b,hp⟩:=bis hl hli al hc h1 h2 hb
 obtain ⟨tw,_⟩:=ab3 al.tr hc
 have kb:=kb4 tw.three
 have qx:Qb 4000 m.x.q:=by rw [hp.mp.ex,agk]; exact hp.mp.sm.x.mono (by omega)
 have qy:Qb 4000 m.y.q:=by rw [hp.mp.ey,agk]; exact hp.mp.sm.y.mono (by omega)
 have h:=bk5 tw hp.ok qx qy
 unfold plE
 rw [hp.eq]
 exact ⟨⟨h.1.mono (by omega)⟩,⟨h.2.mono (by omega)⟩⟩
theorem axy {rs:List (List Rt)} {r:Nat} (h:TR rs r) (hc:ad7 rs = 0):ad9 (llq rs) = .agg [.lst 1 (rs.map nR)]:=(ab3 h hc).2.symm
theorem bk0 {x y:Option Blk} {k:Nat} {z:Blk} (h:lk [(1000, x), (1001, y)] k = some z):1000 <= k:=by
 rw [aad] at h
 split at h
 ·omega
 ·rw [aad] at h
  split at h
  ·omega
  ·cases h
theorem bp9 {s:AS} {k k':Nat} {x y:Blk} (h:lk s.hp k = some x) (h':lk s.hp k' = some y):∀ q z, lk [(k, some x), (k', some y)] q = some z -> lk s.hp q = some z:=by
 intro q z hz
 rw [aad] at hz
 split at hz
 ·rename_i e; cases hz; rw [e]; exact h
 ·rw [aad] at hz
  split at hz
  ·rename_i e; cases hz; rw [e]; exact h'
  ·cases hz
def bot (p q:Rat × Rat):Rat × Rat:=(p.1 - q.1,p.2 - q.2)
def bow (p q:Rat × Rat):Rat:=p.1 * q.1 + p.2 * q.2
def a76 (p q:Rat × Rat):Rat:=p.1 * q.2 - p.2 * q.1
theorem Sm.sub {e f:Nat} {p q:Rat × Rat} (hp:Sm e p) (hq:Sm f q):Sm (e + f + 1) (bot p q):=⟨hp.x.sub hq.x,hp.y.sub hq.y⟩
theorem Sm.dot {e f:Nat} {p q:Rat × Rat} (hp:Sm e p) (hq:Sm f q):Qb (e + f + (e + f) + 1) (bow p q):=(hp.x.mul hq.x).add (hp.y.mul hq.y)
theorem Sm.cross {e f:Nat} {p q:Rat × Rat} (hp:Sm e p) (hq:Sm f q):Qb (e + f + (e + f) + 1) (a76 p q):=(hp.x.mul hq.y).sub (hp.y.mul hq.x)
theorem Sm.mono {e f:Nat} {p:Rat × Rat} (hp:Sm e p) (h:e <= f):Sm f p:=⟨hp.x.mono h,hp.y.mono h⟩
theorem bn6 {q:Rat} {e w:Nat} (h:Qb e q) (he:e <= w * 4000):Qz 4000 q w:=⟨(Cb.one h).mono he⟩
end Go.Lw
namespace Go.Lw
open Go.Proofs
section
variable {rs:List (List Rt)} {r u k:Nat} {a b c d e:List Rat} {x y z s t:Et (llq rs)} {w v w' v' w2 v2 w3 v3 w4 v4:Nat}
end
end Go.Lw
namespace Go.Lw
def ag7 (l:Li) (j:Jt) (b:Int):Rat × Rat:=if j.a = b then mkQ l b j.point else mkQ l b j.on
def ae4 (l:Li) (a:As) (j:Jt) (b:Int):Et (llq a.rs) × Et (llq a.rs):=if j.a = b then plE l a j.b j.on else plE l a j.a j.point
structure PinP (l:Li) (a:As) (j:Jt) (b:Int):Prop where
  tie:(j.a = b /\ Pd a j.b) \/ (j.a ≠ b /\ j.b = b /\ Pd a j.a)
theorem PinP.or {l:Li} {a:As} {j:Jt} {b:Int} (h:PinP l a j b):j.a = b \/ j.b = b:=by
 rcases h.tie with h9 | h9
 ·exact .inl h9.1
 ·exact .inr h9.2.1
theorem af6 {l:Li} (hl:l.ok) (hli:liE l = 0) {a:As} (al:AL a) (hc:ad7 a.rs = 0) {i:Nat} {j:Jt} (hj:l.joints[i]? = some j) {b:Int} (h:PinP l a j b) :
  Zu 4000 300000 (ae4 l a j b).1 40 40 /\ Zu 4000 300000 (ae4 l a j b).2 40 40:=by
 obtain ⟨i1,i2,i3,i4,_⟩:=afv hli hj
 unfold ae4
 rcases h.tie with ⟨e,hb⟩ | ⟨e,e2,hb⟩
 ·rw [if_pos e]; exact afq hl hli al hc i2 i4 hb
 ·rw [if_neg e]; exact afq hl hli al hc i1 i3 hb
theorem akm {l:Li} (hl:l.ok) (hli:liE l = 0) {i:Nat} {j:Jt} (hj:l.joints[i]? = some j) {b:Int} (h:j.a = b \/ j.b = b):Sm 1000 (ag7 l j b):=by
 obtain ⟨i1,i2,i3,i4,_⟩:=afv hli hj
 unfold ag7
 by_cases e:j.a = b
 ·rw [if_pos e]; subst e; exact alw hl hli i1 i3
 ·rw [if_neg e]
  rcases h with h | h
  ·exact absurd h e
  ·subst h; exact alw hl hli i2 i4
theorem bqa {bs:List Int} {b:Int} (h:b ∈ bs):bs.contains b = true:=List.contains_iff_mem.2 h
theorem bmj {bs:List Int} {b:Int} (h:b ∉ bs):bs.contains b = false:=by
 cases hc:bs.contains b with
 | false=>rfl
 | true=>exact absurd (List.contains_iff_mem.1 hc) h
theorem DyOk.ancs {l:Li} {k:Int} {a:As} {own:Bool} {n:Nat} {g:Gr} (h:DyOk l k a own n g) {z b:Int} {j:Jt} (hz:z ∈ g.joints) (hj:l.joints[z.toNat]? = some j) (hb:anc g j = b) (h0:0 <= b):Pd a b:=by
 refine h.body ?_ h0
 unfold ndL au1
 refine List.mem_append_left _ (List.mem_map.2 ⟨z,hz,?_⟩)
 rw [aag hj]; exact hb
theorem DyOk.pin {l:Li} {k:Int} {a:As} {own:Bool} {n:Nat} {g:Gr} (h:DyOk l k a own n g) {kd z b:Int} {j:Jt} {bs:List Int} (hbs:g.bodies = bs) (t:TieO l kd bs z b j) (hz:z ∈ g.joints) (hb:b ∈ bs):PinP l a j b:=by
 subst hbs
 obtain ⟨i1,i2,_⟩:=afv h.li t.hj
 have i1:=ahm i1
 have i2:=ahm i2
 rcases t.tie with ⟨e,hn⟩ | ⟨e,hn⟩
 ·refine ⟨.inl ⟨e, h.ancs hz t.hj ?_ i2.1⟩⟩
  unfold anc
  rw [if_pos (bqa (e ▸ hb)),if_neg (by rw [bmj hn]; simp)]
 ·refine ⟨.inr ⟨fun e2=>hn (e2 ▸ hb), e, h.ancs hz t.hj ?_ i1.1⟩⟩
  unfold anc
  rw [if_neg (by rw [bmj hn]; simp)]
theorem DyOk.own {l:Li} {k:Int} {a:As} {n:Nat} {g:Gr} (h:DyOk l k a true n g) {b:Int} (hb:b ∈ g.bodies):Pd a b:=by
 refine h.body ?_ (h.ok.b b hb).1
 unfold ndL
 rw [if_pos rfl]
 exact List.mem_append_right _ hb
structure RrrP (l:Li) (a:As) (g:Gr) (i k z0 z1 z2:Int) (j0 j1 j2:Jt):Prop where
  eq:g = ⟨1,[i,k],[z0,z1,z2],0⟩
  h0:l.joints[z0.toNat]? = some j0
  h1:l.joints[z1.toNat]? = some j1
  h2:l.joints[z2.toNat]? = some j2
  p0:PinP l a j0 i
  p1:PinP l a j1 k
  t1:j2.a = i \/ j2.b = i
  t2:j2.a = k \/ j2.b = k
structure SlP (l:Li) (a:As) (g:Gr) (kd i z0 z1:Int) (j0 j:Jt):Prop where
  eq:g = ⟨kd,[i],[z0,z1],0⟩
  h0:l.joints[z0.toNat]? = some j0
  h1:l.joints[z1.toNat]? = some j
  p0:PinP l a j0 i
  p1:PinP l a j i
  hk:j.kind ≠ 0
theorem DyOk.rrr {l:Li} {k:Int} {a:As} {own:Bool} {n:Nat} {g:Gr} (h:DyOk l k a own n g) (hk:g.kind = 1):∃ i k z0 z1 z2 j0 j1 j2, RrrP l a g i k z0 z1 z2 j0 j1 j2:=by
 have hd:=h.dy
 cases hd with
 | drv _ _ _ _=>exact absurd hk (by simp)
 | pr _ _ _=>exact absurd hk (by simp)
 | rp _ _ _=>exact absurd hk (by simp)
 | @rrr i k z0 z1 z2 j0 j1 j2 ne t0 t1 h0 h2 kd tie =>
  refine ⟨i,k,z0,z1,z2,j0,j1,j2,rfl,t0.hj,t1.hj,h2,h.pin rfl t0 (by simp) (by simp),h.pin rfl t1 (by simp) (by simp),?_,?_⟩
  ·rcases tie with h9 | h9
   ·exact .inl h9.1
   ·exact .inr h9.1
  ·rcases tie with h9 | h9
   ·exact .inr h9.2
   ·exact .inl h9.2
theorem DyOk.pr {l:Li} {k:Int} {a:As} {own:Bool} {n:Nat} {g:Gr} (h:DyOk l k a own n g) (hk:g.kind = 2):∃ i z0 z1 j0 j, SlP l a g 2 i z0 z1 j0 j /\ j.a = i /\ Pd a j.b:=by
 have hd:=h.dy
 cases hd with
 | drv _ _ _ _=>exact absurd hk (by simp)
 | rrr _ _ _ _ _ _ _=>exact absurd hk (by simp)
 | rp _ _ _=>exact absurd hk (by simp)
 | @pr i z0 z1 j0 j1 t0 t1 ha =>
  have p1:PinP l a j1 i:=h.pin rfl t1 (by simp) (by simp)
  refine ⟨i,z0,z1,j0,j1,⟨rfl,t0.hj,t1.hj,h.pin rfl t0 (by simp) (by simp),p1,by rw [t1.kd]; decide⟩,ha,?_⟩
  rcases p1.tie with h9 | h9
  ·exact h9.2
  ·exact absurd ha h9.1
theorem DyOk.rp {l:Li} {k:Int} {a:As} {own:Bool} {n:Nat} {g:Gr} (h:DyOk l k a own n g) (h0:g.kind ≠ 0) (h1:g.kind ≠ 1) (h2:g.kind ≠ 2):∃ i z0 z1 j0 j, SlP l a g 3 i z0 z1 j0 j /\ j.a ≠ i /\ j.b = i /\ Pd a j.a:=by
 have hd:=h.dy
 cases hd with
 | drv _ _ _ _=>exact absurd rfl h0
 | rrr _ _ _ _ _ _ _=>exact absurd rfl h1
 | pr _ _ _=>exact absurd rfl h2
 | @rp i z0 z1 j0 j1 t0 t1 ha =>
  have p1:PinP l a j1 i:=h.pin rfl t1 (by simp) (by simp)
  refine ⟨i,z0,z1,j0,j1,⟨rfl,t0.hj,t1.hj,h.pin rfl t0 (by simp) (by simp),p1,by rw [t1.kd]; decide⟩,ha,?_⟩
  rcases p1.tie with h9 | h9
  ·exact absurd h9.1 ha
  ·exact ⟨h9.2.1,h9.2.2⟩
def aoE (a:As) (b:Int) (q:Rat × Rat):Et (llq a.rs) × Et (llq a.rs) :=
  (atX (llq a.rs) (ana (llq a.rs) (a.bs.getD b.toNat default).c) (ana (llq a.rs) (a.bs.getD b.toNat default).s) (ana (llq a.rs) (a.bs.getD b.toNat default).x) q.1 q.2,
   atY (llq a.rs) (ana (llq a.rs) (a.bs.getD b.toNat default).c) (ana (llq a.rs) (a.bs.getD b.toNat default).s) (ana (llq a.rs) (a.bs.getD b.toNat default).y) q.1 q.2)
theorem bpn {ts:List (List Rat)} {r:Nat} (tw:Tw ts r) {b:Pl} {q:Rat × Rat} (hb:Pq.ok ts.length 4000 ⟨lq b.c, lq b.s, lq b.x, lq b.y⟩) (hq:Sm 4000 q) :
  Nm ts.length (4 * (4000 + 4000 + kB r ts.length) + 10000) (sh ts.length (atX ts (ana ts b.c) (ana ts b.s) (ana ts b.x) q.1 q.2)) /\ Nm ts.length (4 * (4000 + 4000 + kB r ts.length) + 10000) (sh ts.length (atY ts (ana ts b.c) (ana ts b.s) (ana ts b.y) q.1 q.2)):=by
 have nx:=Nm.ofQ tw.five (Cb.one hq.x)
 have ny:=Nm.ofQ tw.five (Cb.one hq.y)
 have h1:=(amq tw hb.c hb.s nx ny).add hb.x
 rw [avq] at h1
 have h2:=(alq tw hb.c hb.s nx ny).add hb.y
 rw [avk] at h2
 exact ⟨h1.mono (by omega),h2.mono (by omega)⟩
theorem ar1 {a:As} (al:AL a) (hc:ad7 a.rs = 0) {b:Int} (hb:Pd a b) {q:Rat × Rat} (hq:Sm 1000 q):Zu 4000 300000 (aoE a b q).1 40 40 /\ Zu 4000 300000 (aoE a b q).2 40 40:=by
 obtain ⟨p,hp,hn⟩:=hb
 obtain ⟨tw,_⟩:=ab3 al.tr hc
 have h5:a.rs.length <= 5:=by have:=tw.five; rwa [ajt] at this
 have h9:=(aie hn (al.nr p (mem_of_getElem? hp)) h5).2
 rw [<- ajt a.rs] at h9
 have kb:=kb4 tw.three
 have h:=bpn tw h9 (hq.mono (f:=4000) (by omega))
 unfold aoE
 rw [aag hp]
 exact ⟨⟨h.1.mono (by omega)⟩,⟨h.2.mono (by omega)⟩⟩
def jAt (l:Li) (g:Gr) (n:Nat):Jt:=l.joints.getD (g.joints.getD n 0).toNat default
def bAt (g:Gr) (n:Nat):Int:=g.bodies.getD n 0
section
variable (l:Li) (a:As)
def rpV (i:Int) (j:Jt):Rat × Rat:=bot (mkQ l i j.to) (mkQ l i j.on)
def rpH (i:Int) (j0 j:Jt):Rat:=a76 (rpV l i j) (bot (mkQ l i j.on) (ag7 l j0 i))
def rpN (i:Int) (j:Jt):Rat:=bow (rpV l i j) (rpV l i j)
def sbE {ts:List (List Rat)} (p q:Et ts × Et ts):Et ts × Et ts:=(p.1 - q.1,p.2 - q.2)
def a5d {ts:List (List Rat)} (p q:Et ts × Et ts):Et ts:=dotE p.1 p.2 q.1 q.2
def bj7 {ts:List (List Rat)} (p q:Et ts × Et ts):Et ts:=crsE p.1 p.2 q.1 q.2
def rpW (i:Int) (j0 j:Jt):Et (llq a.rs) × Et (llq a.rs):=sbE (plE l a j.a j.point) (ae4 l a j0 i)
def rpD (i:Int) (j0 j:Jt):Et (llq a.rs):=a5d (rpW l a i j0 j) (rpW l a i j0 j)
def asi (g:Gr):Et (llq a.rs) :=
  if g.kind = 0 then qE 1
  else if g.kind = 1 then bj7 (sbE (ae4 l a (jAt l g 1) (bAt g 1)) (ae4 l a (jAt l g 0) (bAt g 0))) (sbE (aoE a (bAt g 0) (ag7 l (jAt l g 2) (bAt g 0))) (ae4 l a (jAt l g 0) (bAt g 0)))
  else if g.kind = 2 then a5d (sbE (plE l a (jAt l g 1).b (jAt l g 1).to) (plE l a (jAt l g 1).b (jAt l g 1).on)) (sbE (aoE a (bAt g 0) (mkQ l (bAt g 0) (jAt l g 1).point)) (ae4 l a (jAt l g 0) (bAt g 0)))
  else a5d (sbE (plE l a (jAt l g 1).b (jAt l g 1).to) (plE l a (jAt l g 1).b (jAt l g 1).on)) (rpW l a (bAt g 0) (jAt l g 0) (jAt l g 1))
end
section
variable {l:Li} {a:As} {g:Gr}
theorem RrrP.at {i k z0 z1 z2:Int} {j0 j1 j2:Jt} (h:RrrP l a g i k z0 z1 z2 j0 j1 j2):jAt l g 0 = j0 /\ jAt l g 1 = j1 /\ jAt l g 2 = j2 /\ bAt g 0 = i /\ bAt g 1 = k /\ g.kind = 1:=by
 rw [h.eq]
 exact ⟨aag h.h0,aag h.h1,aag h.h2,rfl,rfl,rfl⟩
theorem SlP.at {kd i z0 z1:Int} {j0 j:Jt} (h:SlP l a g kd i z0 z1 j0 j):jAt l g 0 = j0 /\ jAt l g 1 = j /\ bAt g 0 = i /\ g.kind = kd:=by
 rw [h.eq]
 exact ⟨aag h.h0,aag h.h1,rfl,rfl⟩
end
end Go.Lw
namespace Go.Lw
section
variable {ts:List (List Rat)}
def qv (p:Rat × Rat):Et ts × Et ts:=(qE p.1,qE p.2)
def d2E (p q:Et ts × Et ts):Et ts:=a5d (sbE p q) (sbE p q)
end
section
variable {l:Li} {a:As} {g:Gr}
theorem bft {i k z0 z1 z2:Int} {j0 j1 j2:Jt} (h:RrrP l a g i k z0 z1 z2 j0 j1 j2) :
  asi l a g = bj7 (sbE (ae4 l a j1 k) (ae4 l a j0 i)) (sbE (aoE a i (ag7 l j2 i)) (ae4 l a j0 i)):=by
 obtain ⟨e0,e1,e2,b0,b1,hk⟩:=h.at
 unfold asi
 rw [if_neg (by omega),if_pos hk,e0,e1,e2,b0,b1]
theorem bfb {i z0 z1:Int} {j0 j:Jt} (h:SlP l a g 2 i z0 z1 j0 j) :
  asi l a g = a5d (sbE (plE l a j.b j.to) (plE l a j.b j.on)) (sbE (aoE a i (mkQ l i j.point)) (ae4 l a j0 i)):=by
 obtain ⟨e0,e1,b0,hk⟩:=h.at
 unfold asi
 rw [if_neg (by omega),if_neg (by omega),if_pos hk,e0,e1,b0]
theorem bfs {i z0 z1:Int} {j0 j:Jt} (h:SlP l a g 3 i z0 z1 j0 j) (hj:j.b = i) :
  asi l a g = a5d (sbE (aoE a i (mkQ l i j.to)) (aoE a i (mkQ l i j.on))) (sbE (plE l a j.a j.point) (ae4 l a j0 i)):=by
 obtain ⟨e0,e1,b0,hk⟩:=h.at
 unfold asi
 rw [if_neg (by omega),if_neg (by omega),if_neg (by omega),e0,e1,b0,hj]
 rfl
end
end Go.Lw
namespace Go.Lw
structure Ld where
  body:Int
  x:Rt
  y:Rt
  fx:Rt
  fy:Rt
  m:Rt
instance:Inhabited Ld:=⟨⟨0,⟨false,[],[]⟩,⟨false,[],[]⟩,⟨false,[],[]⟩,⟨false,[],[]⟩,⟨false,[],[]⟩⟩⟩
def Ld.l (f:Ld):List Rt:=[f.x,f.y,f.fx,f.fy,f.m]
def Ld.cells (f:Ld):List AV:=[i64 f.body,bl f.x.neg,ws f.x.num,ws f.x.den,bl f.y.neg,ws f.y.num,ws f.y.den,bl f.fx.neg,ws f.fx.num,ws f.fx.den,bl f.fy.neg,ws f.fy.num,ws f.fy.den,bl f.m.neg,ws f.m.num,ws f.m.den]
def Ld.av (f:Ld):AV:=.agg f.cells
section
variable (a:As)
end
section
variable {a:As} {r:List Vr}
end
end Go.Lw
namespace Go.Lw
structure LdOk (f:Ld):Prop where
  ok:∀ x ∈ f.l,x.ok
  qb:∀ x ∈ f.l,Qb 4000 x.q
def brk (f:Ld):Prop:=∀ x ∈ f.l,x.ok /\ Qb 1000 x.q
theorem brk.o {f:Ld} (h:brk f):LdOk f:=⟨fun x hx=>(h x hx).1,fun x hx=>(h x hx).2.mono (by omega)⟩
end Go.Lw
namespace Go.Lw
structure Bulk {H:Type} (bk:DataW H -> Nat) (bka:List (DataW H) -> Nat):Prop where
  one:∀ d,1 <= bk d
  nil:bka [] = 0
  cons:∀ d l,bka (d :: l) = bk d + bka l
  slice:∀ e s,bka e + 1 <= bk (.slice e s)
  agg:∀ l,bka l <= bk (.agg l)
section
variable {P:Program} {W:World} {H:Type} {enc:TypeId × Value -> H} {bk:DataW H -> Nat} {bka:List (DataW H) -> Nat}
theorem Bulk.pick (B:Bulk bk bka) {α:Type} {m:α -> Nat}:∀ {l:List α} {xs:List (DataW H)}, l.length <= xs.length -> (∀ (i:Nat) (a:α), l[i]? = some a -> ∃ x, xs[i]? = some x /\ m a <= bk x) -> (l.map m).sum <= bka xs
 | [],xs,_,_=>by simp
 | a :: l,[],hl,_=>by simp at hl
 | a :: l, x :: xs, hl, h=>by
  obtain ⟨y,hy,h1⟩:=h 0 a rfl
  cases hy
  have h2:=B.pick (l:=l) (xs:=xs) (by simpa using hl) (fun i b hb=>h (i + 1) b hb)
  rw [B.cons,map_cons,List.sum_cons]
  omega
def av8 (P:Program) (W:World) (enc:TypeId × Value -> H) (bk:DataW H -> Nat) (t:TypeId) {α:Type} (f:α -> AV) (p:α -> Prop) (m:α -> Nat):Prop :=
  ∀ (sp:Nat -> Bool) (fuel:Nat) (cs:List Value) (x:DataW H × List MemPlace),DataW.trod enc P W 0 sp true fuel t cs = some x -> (∀ n ∈ x.1.weights P t,n <= reachBytes) -> ∃ a,p a /\ CRp W cs (f a).cells /\ m a <= bk x.1
theorem ac7.m {t:TypeId} {α:Type} {f:α -> AV} {p:α -> Prop} (h:ac7 P W enc t f p):av8 P W enc bk t f p (fun _=>0):=by
 intro sp fuel cs x hx hw
 obtain ⟨a,h1,h2⟩:=h sp fuel cs x hx hw
 exact ⟨a,h1,h2,zero_le _⟩
theorem ac7.m1 (B:Bulk bk bka) {t:TypeId} {α:Type} {f:α -> AV} {p:α -> Prop} (h:ac7 P W enc t f p):av8 P W enc bk t f p (fun _=>1):=by
 intro sp fuel cs x hx hw
 obtain ⟨a,h1,h2⟩:=h sp fuel cs x hx hw
 exact ⟨a,h1,h2,B.one _⟩
theorem av8.map {α β:Type} {t:TypeId} {f:α -> AV} {p:α -> Prop} {m:α -> Nat} (h:av8 P W enc bk t f p m) (g:α -> β) (f':β -> AV) (p':β -> Prop) (m':β -> Nat) (hg:∀ a, p a -> p' (g a) /\ f' (g a) = f a /\ m' (g a) <= m a):av8 P W enc bk t f' p' m':=by
 intro sp fuel cs x hx hwt
 obtain ⟨a,ha,hc,hm⟩:=h sp fuel cs x hx hwt
 obtain ⟨h1,h2,h3⟩:=hg a ha
 exact ⟨g a,h1,by rw [h2]; exact hc,le_trans h3 hm⟩
end
end Go.Lw
namespace Go.Lw
open Go.Proofs
section
variable {W:World} {H:Type} {enc:TypeId × Value -> H}
theorem bns:ac7 prog W enc 231 (fun n:Nat=>u32 n) (fun n=>n < 4294967296) :=
 (awh (k:=.u32) Tryz.underlying231).map Int.toNat _ _ (fun n h=>by
  have h1:0 <= n /\ n <= 4294967295:=by simpa [Lit.wf,IntKind.min,IntKind.max,IntKind.signed,IntKind.bits] using h
  have h2:((n.toNat:Nat):Int) = n:=by omega
  exact ⟨by omega,by unfold u32; rw [h2]⟩)
theorem bl7:ac7 prog W enc 68 ws (fun l=>Ws l /\ l.length <= 281474976710656) :=
 (aco Tryz.underlying68 (n:=1) (by kernel_rfl) (by omega) (by kernel_rfl) bns (fun _=>rfl)).map id _ _ (fun l h=>⟨⟨fun x hx=>h.1 x hx,h.2⟩,rfl⟩)
theorem a7d:ac7 prog W enc 4 bl (fun _=>True):=a4f Tryz.underlying4
theorem aok:ac7 prog W enc 3 i64 (fun _=>True):=(awh (k:=.i64) Tryz.underlying3).map id _ _ (fun n h=>⟨trivial,rfl⟩)
theorem axa:ac7 prog W enc 9 (fun s:ByteArray=>AV.v (.string s)) (fun s=>s.size <= 281474976710656):=av6 Tryz.underlying9
theorem a14:ac7 prog W enc 70 Rt.av Rt.wok :=
 (ab7 (n := 3) Tryz.underlying70 (by kernel_rfl)
  (.cons rfl (n:=1) (by kernel_rfl) a7d (fun _=>rfl) (.cons rfl (n:=1) (by kernel_rfl) bl7 (fun _=>rfl) (.cons rfl (n:=1) (by kernel_rfl) bl7 (fun _=>rfl) (.nil _)))) (fun _=>rfl)).map
  (fun z=>⟨z.1,z.2.1,z.2.2.1⟩) _ _ (fun z h=>⟨⟨h.2.1.1,h.2.2.1.1⟩,rfl⟩)
def bqx (x:List Rt):Prop:=(∀ r ∈ x,r.wok) /\ x.length <= 281474976710656
theorem au7:ac7 prog W enc 65 nR bqx:=aco Tryz.underlying65 (n:=3) (by kernel_rfl) (by omega) (by kernel_rfl) a14 (fun _=>rfl)
theorem bjs:ac7 prog W enc 28 (fun l:List (List Rt)=>.lst 1 (l.map nR)) (fun l=>anb l /\ l.length <= 281474976710656) :=
 aco Tryz.underlying28 (n:=1) (by kernel_rfl) (by omega) (by kernel_rfl) au7 (fun _=>rfl)
theorem beb:ac7 prog W enc 30 ae2 (fun l=>anb l /\ l.length <= 281474976710656) :=
 (ab7 (n:=1) Tryz.underlying30 (by kernel_rfl) (.cons rfl (n:=1) (by kernel_rfl) bjs (fun _=>rfl) (.nil _)) (fun _=>rfl)).map (fun z=>z.1) _ _ (fun z h=>⟨h.1,rfl⟩)
theorem a5k:ac7 prog W enc 88 Pl.av (fun b=>anb b.l) :=
 (ab7 (n := 4) Tryz.underlying88 (by kernel_rfl)
  (.cons rfl (n:=1) (by kernel_rfl) au7 (fun _=>rfl) (.cons rfl (n:=1) (by kernel_rfl) au7 (fun _=>rfl) (.cons rfl (n:=1) (by kernel_rfl) au7 (fun _=>rfl) (.cons rfl (n:=1) (by kernel_rfl) au7 (fun _=>rfl) (.nil _))))) (fun _=>rfl)).map
  (fun z=>⟨z.1, z.2.1, z.2.2.1, z.2.2.2.1⟩) _ _ (fun z h=>⟨by
   intro x hx
   simp only [Pl.l,mem_cons,not_mem_nil,or_false] at hx
   rcases hx with rfl | rfl | rfl | rfl
   ·exact h.1
   ·exact h.2.1
   ·exact h.2.2.1
   ·exact h.2.2.2.1,rfl⟩)
theorem a20:ac7 prog W enc 31 (fun l:List Pl=>.lst 4 (l.map Pl.av)) (fun l=>(∀ b ∈ l, anb b.l) /\ l.length <= 281474976710656) :=
 aco Tryz.underlying31 (n:=4) (by kernel_rfl) (by omega) (by kernel_rfl) a5k (fun _=>rfl)
theorem bhk:ac7 prog W enc 32 (fun l:List Int=>.lst 1 (l.map i64)) (fun l=>(∀ b ∈ l, True) /\ l.length <= 281474976710656) :=
 aco Tryz.underlying32 (n:=1) (by kernel_rfl) (by omega) (by kernel_rfl) aok (fun _=>rfl)
abbrev asG (a:As):List AV:=[.lst 1 (a.rs.map nR),.lst 4 (a.bs.map Pl.av),.lst 1 (a.ms.map i64)]
theorem bn9:ac7 prog W enc 34 (fun a:As=>.agg (asG a)) As.ok :=
 (ab7 (n := 3) Tryz.underlying34 (by kernel_rfl)
  (.cons rfl (n:=1) (by kernel_rfl) beb (fun _=>rfl) (.cons rfl (n:=1) (by kernel_rfl) a20 (fun _=>rfl) (.cons rfl (n:=1) (by kernel_rfl) bhk (fun _=>rfl) (.nil _)))) (fun _=>rfl)).map
  (fun z=>⟨z.1,z.2.1,z.2.2.1⟩) _ _ (fun z h=>⟨⟨h.1.1,h.1.2,h.2.1.1,h.2.1.2⟩,rfl⟩)
theorem bik:ac7 prog W enc 72 Tn.av (fun x=>x.t.wok) :=
 (ab7 (n := 4) Tryz.underlying72 (by kernel_rfl) (.cons rfl (n := 3) (by kernel_rfl) a14 (fun _ => rfl) (.cons rfl (n := 1) (by kernel_rfl) a7d (fun _ => rfl) (.nil _))) (fun _ => rfl)).map
  (fun z=>⟨z.1,z.2.1⟩) _ _ (fun z h=>⟨h.1,rfl⟩)
theorem bbr:ac7 prog W enc 27 (fun l:List Tn=>.lst 4 (l.map Tn.av)) (fun l=>(∀ x ∈ l, x.t.wok) /\ l.length <= 281474976710656) :=
 aco Tryz.underlying27 (n:=4) (by kernel_rfl) (by omega) (by kernel_rfl) bik (fun _=>rfl)
theorem bh3:ac7 prog W enc 82 Mk.av (fun m=>m.name.size <= 281474976710656 /\ m.x.wok /\ m.y.wok) :=
 (ab7 (n := 7) Tryz.underlying82 (by kernel_rfl)
  (.cons rfl (n:=1) (by kernel_rfl) axa (fun _=>rfl) (.cons rfl (n:=3) (by kernel_rfl) a14 (fun _=>rfl) (.cons rfl (n:=3) (by kernel_rfl) a14 (fun _=>rfl) (.nil _)))) (fun _=>rfl)).map
  (fun z=>⟨z.1,z.2.1,z.2.2.1⟩) _ _ (fun z h=>⟨⟨h.1,h.2.1,h.2.2.1⟩,rfl⟩)
theorem bja:ac7 prog W enc 80 Bd.av (fun b=>b.name.size <= 281474976710656 /\ b.pts.length <= 281474976710656 /\ ∀ m ∈ b.pts, m.name.size <= 281474976710656 /\ m.x.wok /\ m.y.wok) :=
 (ab7 (n := 2) Tryz.underlying80 (by kernel_rfl)
  (.cons rfl (n:=1) (by kernel_rfl) axa (fun _=>rfl) (.cons rfl (n:=1) (by kernel_rfl) (aco Tryz.underlying78 (n:=7) (by kernel_rfl) (by omega) (by kernel_rfl) bh3 (fun _=>rfl)) (fun _=>rfl) (.nil _))) (fun _=>rfl)).map
  (fun z=>⟨z.1,z.2.1⟩) _ _ (fun z h=>⟨⟨h.1,h.2.1.2,h.2.1.1⟩,rfl⟩)
theorem bdn:ac7 prog W enc 125 Jt.av (fun j=>j.name.size <= 281474976710656) :=
 (ab7 (n := 7) Tryz.underlying125 (by kernel_rfl)
  (.cons rfl (n := 1) (by kernel_rfl) axa (fun _ => rfl) (.cons rfl (n := 1) (by kernel_rfl) aok (fun _ => rfl) (.cons rfl (n := 1) (by kernel_rfl) aok (fun _ => rfl) (.cons rfl (n := 1) (by kernel_rfl) aok (fun _ => rfl)
   (.cons rfl (n:=1) (by kernel_rfl) aok (fun _=>rfl) (.cons rfl (n:=1) (by kernel_rfl) aok (fun _=>rfl) (.cons rfl (n:=1) (by kernel_rfl) aok (fun _=>rfl) (.nil _)))))))) (fun _=>rfl)).map
  (fun z=>⟨z.1,z.2.1,z.2.2.1,z.2.2.2.1,z.2.2.2.2.1,z.2.2.2.2.2.1,z.2.2.2.2.2.2.1⟩) _ _ (fun z h=>⟨h.1,rfl⟩)
theorem a8t:ac7 prog W enc 127 Dr.av (fun d=>d.name.size <= 281474976710656) :=
 (ab7 (n := 2) Tryz.underlying127 (by kernel_rfl) (.cons rfl (n := 1) (by kernel_rfl) axa (fun _ => rfl) (.cons rfl (n := 1) (by kernel_rfl) aok (fun _ => rfl) (.nil _))) (fun _ => rfl)).map
  (fun z=>⟨z.1,z.2.1⟩) _ _ (fun z h=>⟨h.1,rfl⟩)
abbrev liG (l:Li):List AV:=[.v (.string l.name),.lst 2 (l.bodies.map Bd.av),.lst 7 (l.joints.map Jt.av),.lst 2 (l.drivers.map Dr.av)]
theorem bhq:ac7 prog W enc 26 (fun l:Li=>.agg (liG l)) Li.okw :=
 (ab7 (n := 4) Tryz.underlying26 (by kernel_rfl)
  (.cons rfl (n := 1) (by kernel_rfl) axa (fun _ => rfl)
   (.cons rfl (n := 1) (by kernel_rfl) (aco Tryz.underlying22 (n := 2) (by kernel_rfl) (by omega) (by kernel_rfl) bja (fun _ => rfl)) (fun _ => rfl)
    (.cons rfl (n := 1) (by kernel_rfl) (aco Tryz.underlying23 (n := 7) (by kernel_rfl) (by omega) (by kernel_rfl) bdn (fun _ => rfl)) (fun _ => rfl)
     (.cons rfl (n:=1) (by kernel_rfl) (aco Tryz.underlying24 (n:=2) (by kernel_rfl) (by omega) (by kernel_rfl) a8t (fun _=>rfl)) (fun _=>rfl) (.nil _))))) (fun _=>rfl)).map
  (fun z=>⟨z.1,z.2.1,z.2.2.1,z.2.2.2.1⟩) _ _ (fun z h=>⟨⟨h.1,h.2.1.1,h.2.2.1.1,h.2.2.2.1.1,h.2.1.2,h.2.2.1.2,h.2.2.2.1.2⟩,rfl⟩)
end
end Go.Lw
namespace Go.Lw
open Go.Proofs Go.Proofs.YtkmgmddcmmadjaaGreat
open Go.ChangeShapes Go.WideShapes Go.ChangeAt Go.RowKit
theorem own:ownKnob prog.godebug = none:=by kernel_rfl
theorem a97:laidOutB prog = true:=by kernel_rfl
theorem bdc:prog.stopsHeard = true:=by kernel_rfl
theorem bda:prog.plainKeys = true:=by kernel_rfl
theorem bjk:mapsRowed prog = true:=by kernel_rfl
theorem bc8:prog.mayEnter = true:=by kernel_rfl
theorem bdj:prog.liftsFinal = false:=by kernel_rfl
theorem ax5 {v:Value} (h:∀ cs, v ≠ .agg cs):v.cells = #[v]:=by
 cases v <;> first | rfl | exact absurd rfl (h _)
theorem awf {P:Program} {W:World} {r:Reach} {b0:Nat} {t e:TypeId} {v:Value} (ht:P.underlying t = some (.slice e)) (hval:Value.okWide P W r b0 t v):v.cells = #[v]:=by
 refine ax5 (fun cs h=>?_)
 subst h
 unfold Value.okWide at hval
 rw [ht] at hval
 unfold Cell.okWide at hval
 rw [ht] at hval
 unfold Cell.ok at hval
 rw [ht] at hval
 exact hval
theorem ati {H:Type} {enc:TypeId × Value -> H} {W W':World} {t:TypeId} {v:Value} {d:DataW H} {ps:List MemPlace} {sp':Nat -> Bool} (hr:prog.readableRec t = true) (ht:t < prog.types.size)
  (h:DataW.Trod enc prog W 0 (fun _=>true) true t v d ps) (hb:Below W.heap.size W W') (hlt:∀ x ∈ ps,x.block < W.heap.size) (hs:∀ p ∈ ps,sp' p.block = true):DataW.Trod enc prog W' 0 sp' true t v d ps :=
 WideElems.Trod_stays a97 hr ht h (fun x hx=>hb.same (hlt x hx)) hs
end Go.Lw
namespace Go.Lw
open Go.Proofs
abbrev fdC (l:Li) (known driven:List Bool) (r:List AV):List AV:=l.av.cells ++ (.lst 1 (known.map bl) :: .lst 1 (driven.map bl) :: r)
theorem a9p (j:Jt) (b:Int):FnC prog 393 [j.av, i64 b] (i64 (ai2 j b)):=by
 refine gF0 func393 ?_
 refine gC (fun ht6=>?_) (fun ht6=>?_)
 ·have h1:b = j.a:=aek ht6
  refine gE1 ?_
  unfold ai2; rw [if_pos h1]
 ·have h1:b ≠ j.a:=ae9 ht6
  refine gC (fun ht12=>?_) (fun ht12=>?_)
  ·have h2:b = j.b:=aek ht12
   refine gE1 ?_
   unfold ai2; rw [if_neg h1,if_pos h2]
  ·have h2:b ≠ j.b:=ae9 ht12
   refine gE1 ?_
   unfold ai2; rw [if_neg h1,if_neg h2]; rfl
theorem a3f (j:Jt) (kind body:Int) (f:FuncId) (pre caps:List AV) (p:Int -> Bool) (hp:0 <= ai2 j body -> FnC prog f (pre ++ [i64 (ai2 j body)] ++ caps) (bl (p (ai2 j body)))) :
  FnC prog 392 [j.av,.iptr [i64 body],.iptr [i64 kind],.iptr [.cl f pre caps]] (bl (bov kind body p j)):=by
 refine gF0 func392 ?_
 refine gc (a9p j body) ?_
 refine gcG (fun h=>(hp (br6 h))) ?_
 refine gE1 ?_
 exact congrArg bl bk7
theorem anf (bs:List Jt) (hl:bs.length <= 281474976710656) (f:FuncId) (pre caps:List AV) (ok:Nat -> Bool)
  (hf:∀ (i:Nat) (b:Jt),bs[i]? = some b -> (∀ j,j < i -> ok j = true) -> FnC prog f (pre ++ [b.av] ++ caps) (bl (!ok i))) :
  FnC prog 391 [.lst 7 (bs.map Jt.av),.cl f pre caps] (i64 (ixI (abi bs.length ok))):=by
 refine gF0 func391 ?_
 refine gl ?_
 refine gL1 [0,1,7] [] (fun (i:Nat)=>[(8,some (i64 i))]) (fun _=>[]) (fun i=>i <= bs.length /\ ∀ j,j < i -> ok j = true) (fun i=>bs.length - i) 0 ⟨zero_le _,fun j h=>by omega⟩ ?_
 rintro i ⟨hi,hj⟩ K1 hK1
 refine gC (fun ht9=>?_) (fun ht9=>?_)
 ·have hin:=aa4 ht9
  obtain ⟨b,hb⟩:=ab0 hin
  refine gi (aaf hb) ?_
  refine gc (hf i b hb hj) ?_
  refine gC (fun ht16=>?_) (fun ht16=>?_)
  ·have h2:=adi ht16
   refine gE1 ?_
   rw [abw hin hj h2]; rfl
  ·have h2:=adj ht16
   refine ga aao ?_
   exact gK1 hK1 (i + 1) ⟨hin,fun j h9=>by rcases lt_or_ge j i with g | g; exact hj j g; (have:j = i:=by omega); subst this; exact h2⟩
 ·have hin:=aaj hi ht9
  subst hin
  refine gE1 ?_
  rw [abk hj]; rfl
theorem axk (l:Li) (hl:l.ok) (hli:liE l = 0) (Fd:List AV) (kind body:Int) (f:FuncId) (pre caps:List AV) (p:Int -> Bool)
  (hp:∀ o:Int,0 <= o -> o < l.bodies.length -> FnC prog f (pre ++ [i64 o] ++ caps) (bl (p o))) :
  FnC prog 368 [.iptr (l.av.cells ++ Fd),i64 kind,i64 body,.cl f pre caps] (i64 (gJ l kind body p)):=by
 refine gF0 func368 ?_ (1,0)
 refine gW ((Wk.freezeB (k:=7) rfl rfl).trans <| (Wk.freezeB (k:=5) rfl rfl).trans <| (Wk.freezeB (k:=6) rfl rfl).trans <| Wk.o (sl:=[(0,some (.iptr (l.av.cells ++ Fd))),(5,some (.iptr [i64 kind])),(6,some (.iptr [i64 body])),(7,some (.iptr [.cl f pre caps]))]) (hp:=[])) ?_
 refine gc (Con.subA (.cons (.refl _) (.cons (bep rfl) .nil)) (anf l.joints hl.lj 392 [] [.iptr [i64 body],.iptr [i64 kind],.iptr [.cl f pre caps]] (fun i=>!bov kind body p (l.joints.getD i default)) (fun i b hb hj=>by rw [Bool.not_not,aag hb]; exact a3f b kind body f pre caps p (fun h=>hp _ h (bbv hli hb body))))) ?_
 refine gE1 ?_
 rfl
theorem aye (l:Li) (known driven:List Bool) (r:List AV) (b:Int) (h0:0 <= b) (h1:b < known.length):FnC prog 389 [.iptr (fdC l known driven r), i64 b] (bl (kn known b)):=by
 obtain ⟨v,hv⟩:∃ v,known[b.toNat]? = some v:=ab0 (by omega)
 have ev:kn known b = v:=aag hv
 refine gF0 func389 ?_
 refine gi (ad4 (n:=b.toNat) (by omega) hv) ?_
 refine gE1 ?_
 rw [ev]
theorem aob (l:Li) (hl:l.ok) (hli:liE l = 0) (known driven:List Bool) (hk:known.length = l.bodies.length) (r:List AV) (kind body:Int) :
  FnC prog 366 [.iptr (fdC l known driven r),i64 kind,i64 body] (i64 (gJ l kind body (kn known))):=by
 refine gF0 func366 ?_
 refine gc (axk l hl hli _ kind body 389 [.iptr (fdC l known driven r)] [] (kn known) (fun o h0 h1=>aye l known driven r o h0 (by omega))) ?_
 refine gE1 ?_
 rfl
theorem bav (o j:Int):FnC prog 369 [i64 o, .iptr [i64 j]] (bl (decide (o = j))):=by
 refine gF0 func369 ?_
 refine gE1 ?_
 exact congrArg bl ak2
theorem bd7 (l:Li) (known driven:List Bool) (hd:driven.length = known.length) (r:List AV) (b:Int) (h0:0 <= b) (h1:b < known.length) :
  FnC prog 370 [.iptr (fdC l known driven r),i64 b] (bl (!kn known b && !kn driven b)):=by
 obtain ⟨v,hv⟩:∃ v,known[b.toNat]? = some v:=ab0 (by omega)
 have ev:kn known b = v:=aag hv
 obtain ⟨u,hu⟩:∃ u,driven[b.toNat]? = some u:=ab0 (by omega)
 have eu:kn driven b = u:=aag hu
 refine gF0 func370 ?_
 refine gi (ad4 (n:=b.toNat) (by omega) hv) ?_
 refine giG (fun _=>(ad4 (n:=b.toNat) (by omega) hu)) ?_
 refine gE1 ?_
 rw [ev,eu]; exact congrArg bl (ade _ _)
end Go.Lw
