/- SingularKinds: for any linkage, any turns, any assembly and any group the law returns true and leaves its arguments as they were. No other condition. Part 5 of 7: what the later parts need -/
import Derived.Test.YtkmgmddcmmadjaaGreatZd
set_option linter.unusedVariables false
open List (mem_of_getElem? mem_cons_of_mem mem_append map_cons mem_cons length_cons mem_cons_self length_append length_nil getD_eq_getElem?_getD all_eq_true getElem?_eq_getElem nil_append map_append length_take take_of_length_le drop_zero take_length not_mem_nil length_map map_take all_append length_set)
open Nat (le_refl lt_or_ge le_trans zero_le)
open Option (map_eq_some_iff)
open Bool (and_eq_true or_eq_true)
open Int (toNat_natCast)
open Go.Proofs.Tryz
namespace Go.Lw
open Go.Proofs
theorem af9 (ts:List (List Rat)) (m r:Nat) (ht:a49 ts m r) (hm:m <= 5) (hml:m <= ts.length) (k:Nat):∀ (j:Nat) (a b:List Rat) (e f:Nat), j <= m -> j <= k -> Nl j a -> Nl j b -> Cb e a -> Cb f b -> e + f + eB r j < 4398046511104 ->
  FnC prog 121 [ad7 ts,nA a,nA b] (nA (pT ts k a b)):=by
 induction k using Nat.strongRecOn
 rename_i k ih
 intro j a b e f hj hjk ha hb ca cb hs
 have hla:=ha.len5 (by omega)
 have hlb:=hb.len5 (by omega)
 refine gF0 func121 ?_
 refine gl ?_
 refine gl ?_
 refine gJ4 [3] [3] (fun (x y:List Rat) (e1 f1:Nat)=>[(1,some (nA x)),(2,some (nA y))]) (fun _ _ _ _=>[]) (fun x y e1 f1=>y.length <= x.length /\ Nl j x /\ Nl j y /\ Cb e1 x /\ Cb f1 y /\ e1 + f1 = e + f /\ pT ts k a b = pT ts k x y) ?_ ?_
 ·intro K1 hK1
  refine gC (fun ht18=>?_) (fun ht18=>?_)
  ·have h1 : a.length < b.length := by have := ht18; simp only [aaa, decide_eq_true_eq] at this; omega
   exact jK4 hK1 b a f e ⟨by omega,hb,ha,cb,ca,by omega,a0i ts k a b h1⟩
  ·have h1 : b.length <= a.length := by have := ht18; simp only [aaa, decide_eq_false_iff_not] at this; omega
   exact jK4 hK1 a b e f ⟨h1,ha,hb,ca,cb,rfl,rfl⟩
 ·rintro x y e1 f1 ⟨hyx, hx, hy, cx, cy, hef, hp⟩
  have hlx:=hx.len5 (by omega)
  have hly:=hy.len5 (by omega)
  have qx:∀ q ∈ x,Qs q:=fun q hq=>cx.qs (by omega) hq
  have qy:∀ q ∈ y,Qs q:=fun q hq=>cy.qs (by omega) hq
  rw [hp]
  refine gc (aol x qx (by omega)) ?_
  refine gcG (fun _=>(aol y qy (by omega))) ?_
  refine gC (fun ht21=>?_) (fun ht21=>?_)
  ·have h1:abo x = true \/ abo y = true:=by
    have:=ht21
    cases hz:abo x
    ·rw [hz] at this; exact .inr this
    ·exact .inl rfl
   refine gR ?_
   exact adc (by rw [bjo hyx h1]; exact Sub.nil _ _ _)
  ·have h1:¬ (abo x = true \/ abo y = true):=by
    have:=ht21
    cases hz:abo x
    ·rw [hz] at this; intro h; rcases h with h | h; cases h; (rw [show abo y = false from this] at h; cases h)
    ·rw [hz] at this; cases this
   refine gl ?_
   refine gC (fun ht28=>?_) (fun ht28=>?_)
   ·have h2 : x.length = 1 := by have := ht28; simp only [aaa, beq_iff_eq] at this; omega
    obtain ⟨p,rfl⟩:=List.length_eq_one_iff.1 h2
    have h3:y ≠ []:=fun h=>h1 (.inr (by rw [h]; rfl))
    obtain ⟨q,rfl⟩:∃ q,y = [q]:=List.length_eq_one_iff.1 (by have:=List.length_pos_iff.2 h3; simp at hyx; omega)
    refine gi rfl ?_
    refine gi rfl ?_
    refine gc (ak0 (rt p) (rt q) (qx p (by simp)).ok (qy q (by simp)).ok) ?_
    refine gD ?_
    refine gE1 ?_
    rw [bl4 h1,agd,agd]; rfl
   ·have h2 : x.length ≠ 1 := by have := ht28; simp only [aaa, beq_eq_false_iff_ne, ne_eq] at this; omega
    have h3:x ≠ []:=fun h=>h1 (.inl (by rw [h]; rfl))
    obtain ⟨i, hij, hxl⟩:∃ i, i + 1 <= j /\ x.length = 2 ^ (i + 1):=by
     rcases akb hx with h | h | h
     ·exact absurd (List.length_eq_zero_iff.1 h) h3
     ·exact absurd h h2
     ·exact h
    obtain ⟨k',rfl⟩:∃ k',k = k' + 1:=⟨k - 1,by omega⟩
    have hp2:=Nat.two_pow_pos i
    have hpi:2 ^ i <= 32:=abf (b:=5) (by omega)
    have hps:2 ^ (i + 1) = 2 * 2 ^ i:=by rw [Nat.pow_succ]; omega
    have hes:eB r (i + 1) <= eB r j:=bfk r hij
    have hee:eB r (i + 1) = 2 * eB r i + r + 2:=rfl
    have n1:Nl i (x.take (2 ^ i)):=.inr ⟨i,le_refl _,adt hxl⟩
    have n2:Nl i (x.drop (2 ^ i)):=.inr ⟨i,le_refl _,ad9 hxl⟩
    refine gl ?_
    refine gs (aee (.tmp rfl) (.const _) (by omega) (show _ = ((2 ^ i:Nat):Int) by rw [acj (by omega),hxl,ab5]) rfl) ?_
    refine gs (aaq (.tmp rfl) (.none _) (.some _ (.tmp rfl) (by omega)) T65 rfl T70 rfl (by omega) (by simp only [length_map]; omega) rfl) ?_
    refine gs (aaq (.tmp rfl) (.some _ (.tmp rfl) (by omega)) (.none _) T65 rfl T70 rfl (by simp only [length_map]; omega) (by omega) rfl) ?_
    refine gD ?_ (9,0)
    refine gW (Wk.of (sl:=[(1,some (nA x)),(2,some (nA y)),(3,some (.ptr 3 0)),(7,some (i64 ((2 ^ i:Nat):Int))),(8,some (nA (x.take (2 ^ i)))),(9,some (nA (x.drop (2 ^ i))))]) (hp:=[(3,some (.box [.lst 1 (ts.map nA)]))]) (.k (.k (.k (.k (.cons rfl (Sub.of (ajr x (2 ^ i))) (.cons rfl (Sub.of (ag0 x (2 ^ i))) .nil)))))) (.cons rfl (.refl _) .nil)) ?_
    refine gl ?_
    refine gC (fun ht52=>?_) (fun ht52=>?_)
    ·have h4 : y.length <= 2 ^ i := by have := ht52; simp only [aaa, decide_eq_true_eq] at this; omega
     have n3:Nl i y:=bba hy h4
     have s1:=aek ts m ht.1 i k' _ _ (by omega) (by omega) n1 n3
     have s2:=aek ts m ht.1 i k' _ _ (by omega) (by omega) n2 n3
     refine gc (ih k' (by omega) i _ _ e1 f1 (by omega) (by omega) n1 n3 cx.take cy (by omega)) ?_
     refine gc (ih k' (by omega) i _ _ e1 f1 (by omega) (by omega) n2 n3 cx.drop cy (by omega)) ?_
     refine gc (an4 _ _ (2 ^ i) s1.1.le s2.1.le (by omega)) ?_
     refine gD ?_
     refine gE1 ?_
     rw [bhr hxl h4 h1]
    ·have h4 : ¬ y.length <= 2 ^ i := by have := ht52; simp only [aaa, decide_eq_false_iff_not] at this; omega
     have hyl:=bja hy h4 (by omega)
     have n3:Nl i (y.take (2 ^ i)):=.inr ⟨i,le_refl _,adt hyl⟩
     have n4:Nl i (y.drop (2 ^ i)):=.inr ⟨i,le_refl _,ad9 hyl⟩
     have nd:=ht.1 i (by omega)
     have cd:=ht.2.cb i
     have s1:=aek ts m ht.1 i k' _ _ (by omega) (by omega) n1 n3
     have s2:=aek ts m ht.1 i k' _ _ (by omega) (by omega) n2 n4
     have s3:=aek ts m ht.1 i k' _ _ (by omega) (by omega) s2.1 nd
     have s4:=aek ts m ht.1 i k' _ _ (by omega) (by omega) n1 n4
     have s5:=aek ts m ht.1 i k' _ _ (by omega) (by omega) n2 n3
     have c1:=Cb.mul ht (k:=k') (show i <= m by omega) (by omega) n1 n3 cx.take cy.take
     have c2:=Cb.mul ht (k:=k') (show i <= m by omega) (by omega) n2 n4 cx.drop cy.drop
     have c3:=Cb.mul ht (k:=k') (show i <= m by omega) (by omega) s2.1 nd c2 cd
     have c4:=Cb.mul ht (k:=k') (show i <= m by omega) (by omega) n1 n4 cx.take cy.drop
     have c5:=Cb.mul ht (k:=k') (show i <= m by omega) (by omega) n2 n3 cx.drop cy.take
     have hpT:=bg1 (ts:=ts) (k:=k') hxl h4 hyx h1
     refine gs (aaq (.tmp rfl) (.none _) (.some _ (.tmp rfl) (by omega)) T65 rfl T70 rfl (by omega) (by simp only [length_map]; omega) rfl) ?_
     refine gs (aaq (.tmp rfl) (.some _ (.tmp rfl) (by omega)) (.none _) T65 rfl T70 rfl (by simp only [length_map]; omega) (by omega) rfl) ?_
     refine gD ?_ (12,0)
     refine gW (Wk.of (sl:=[(1,some (nA x)),(3,some (.ptr 3 0)),(7,some (i64 ((2 ^ i:Nat):Int))),(8,some (nA (x.take (2 ^ i)))),(9,some (nA (x.drop (2 ^ i)))),(10,some (nA (y.take (2 ^ i)))),(11,some (nA (y.drop (2 ^ i))))]) (hp:=[(3,some (.box [.lst 1 (ts.map nA)]))]) (.k (.k (.k (.k (.k (.cons rfl (Sub.of (ajr y (2 ^ i))) (.cons rfl (Sub.of (ag0 y (2 ^ i))) .nil))))))) (.cons rfl (.refl _) .nil)) ?_
     refine gc (ae3 qA x (by omega)) ?_
     refine ga (show _ = (i:Int) by rw [hxl,am4,abc (by omega)]; omega) ?_
     refine gi (as3 (j:=i) (by omega)) ?_
     refine gD ?_
     refine gc (ih k' (by omega) i _ _ e1 f1 (by omega) (by omega) n1 n3 cx.take cy.take (by omega)) ?_
     refine gc (ih k' (by omega) i _ _ e1 f1 (by omega) (by omega) n2 n4 cx.drop cy.drop (by omega)) ?_
     refine gc (ih k' (by omega) i _ _ _ _ (by omega) (by omega) s2.1 nd c2 cd (by omega)) ?_
     refine gc (aem _ _ (fun q hq=>c1.qs (by omega) hq) (fun q hq=>c3.qs (by omega) hq) (by have:=s1.1.le; omega) (by have:=s3.1.le; omega)) ?_
     refine gD ?_
     refine gc (ih k' (by omega) i _ _ e1 f1 (by omega) (by omega) n1 n4 cx.take cy.drop (by omega)) ?_
     refine gc (ih k' (by omega) i _ _ e1 f1 (by omega) (by omega) n2 n3 cx.drop cy.take (by omega)) ?_
     refine gc (aem _ _ (fun q hq=>c4.qs (by omega) hq) (fun q hq=>c5.qs (by omega) hq) (by have:=s4.1.le; omega) (by have:=s5.1.le; omega)) ?_
     refine gc (an4 _ _ (2 ^ i) (by have:=s1.1.le; have:=s3.1.le; rw [abm]; omega) (by have:=s4.1.le; have:=s5.1.le; rw [abm]; omega) (by omega)) ?_
     refine gD ?_
     refine gE1 ?_
     rw [hpT]
theorem avd (ts:List (List Rat)) (m r:Nat) (ht:a49 ts m r) (hm:m <= 5) (hml:m <= ts.length) (i:Nat) (a:List Rat) (e:Nat) (hi:i + 1 <= m) (hal:a.length = 2 ^ (i + 1)) (ca:Cb e a) (hs:4 * e + 3 * eB r i + r + 1 < 4398046511104) :
  FnC prog 181 [ad7 ts,nA a] (nA (ap0 ts i a)):=by
 have hp2:=Nat.two_pow_pos i
 have hpi:2 ^ i <= 32:=abf (b:=5) (by omega)
 have hps:2 ^ (i + 1) = 2 * 2 ^ i:=by rw [Nat.pow_succ]; omega
 have n1:Nl i (a.take (2 ^ i)):=.inr ⟨i,le_refl _,adt hal⟩
 have n2:Nl i (a.drop (2 ^ i)):=.inr ⟨i,le_refl _,ad9 hal⟩
 have nd:=ht.1 i (by omega)
 have cd:=ht.2.cb i
 have s1:=aek ts m ht.1 i i _ _ (by omega) (by omega) n1 n1
 have s2:=aek ts m ht.1 i i _ _ (by omega) (by omega) n2 n2
 have s3:=aek ts m ht.1 i i _ _ (by omega) (by omega) s2.1 nd
 have c1:=Cb.mul ht (k:=i) (show i <= m by omega) (by omega) n1 n1 ca.take ca.take
 have c2:=Cb.mul ht (k:=i) (show i <= m by omega) (by omega) n2 n2 ca.drop ca.drop
 have c3:=Cb.mul ht (k:=i) (show i <= m by omega) (by omega) s2.1 nd c2 cd
 refine gF0 func181 ?_
 refine gl ?_
 refine gs (aee (.tmp rfl) (.const _) (by omega) (show _ = ((2 ^ i:Nat):Int) by rw [acj (by omega),hal,ab5]) rfl) ?_
 refine gs (aaq (.tmp rfl) (.none _) (.some _ (.tmp rfl) (by omega)) T65 rfl T70 rfl (by omega) (by simp only [length_map]; omega) rfl) ?_
 refine gs (aaq (.tmp rfl) (.some _ (.tmp rfl) (by omega)) (.none _) T65 rfl T70 rfl (by simp only [length_map]; omega) (by omega) rfl) ?_
 refine gD ?_ (3,0)
 refine gW (Wk.of (sl:=[(1,some (nA a)),(2,some (.ptr 2 0)),(6,some (nA (a.take (2 ^ i)))),(7,some (nA (a.drop (2 ^ i))))]) (hp:=[(2,some (.box [.lst 1 (ts.map nA)]))]) (.k (.k (.cons rfl (Sub.of (ajr a (2 ^ i))) (.cons rfl (Sub.of (ag0 a (2 ^ i))) .nil)))) (.cons rfl (.refl _) .nil)) ?_
 refine gc (af9 ts m r ht hm hml i i _ _ e e (by omega) (by omega) n1 n1 ca.take ca.take (by omega)) ?_
 refine gc (af9 ts m r ht hm hml i i _ _ e e (by omega) (by omega) n2 n2 ca.drop ca.drop (by omega)) ?_
 refine gc (ae3 qA a (by omega)) ?_
 refine ga (show _ = (i:Int) by rw [hal,am4,abc (by omega)]; omega) ?_
 refine gi (as3 (j:=i) (by omega)) ?_
 refine gc (af9 ts m r ht hm hml i i _ _ _ _ (by omega) (by omega) s2.1 nd c2 cd (by omega)) ?_
 refine gc (aga _ (fun q hq=>c3.qs (by omega) hq) (by have:=s3.1.le; omega)) ?_
 refine gc (aem _ _ (fun q hq=>c1.qs (by omega) hq) (fun q hq=>c3.minus.qs (by omega) hq) (by have:=s1.1.le; omega) (by have:=s3.1.le; rw [acx]; omega)) ?_
 refine gD ?_
 refine gE1 ?_
 rfl
theorem aje (ts:List (List Rat)) (m r:Nat) (ht:a49 ts m r) (hm:m <= 5) (hml:m <= ts.length) (j:Nat):∀ (a:List Rat) (e:Nat), j <= m -> Nl j a -> Cb e a -> sB r j e < 4398046511104 ->
  FnC prog 96 [ad7 ts,nA a] (i64 (T.sgn (aan ts) j (dec j a))):=by
 induction j using Nat.strongRecOn
 rename_i j ih
 intro a e hj ha ca hs
 have hse:=a5h r j e
 have qa:∀ q ∈ a,Qs q:=fun q hq=>ca.qs (by omega) hq
 obtain ⟨s,hsa⟩:∃ s,s = sh j (dec j a):=⟨_,rfl⟩
 have hsd:dec j s = dec j a:=by rw [hsa,aby]
 have hsn:Nl j s:=by rw [hsa]; exact ang j _
 have cs:Cb e s:=by rw [hsa]; exact ca.sh ha
 have hls:=hsn.len5 (by omega)
 rw [<- hsd]
 refine gF0 func96 ?_
 refine gc (hsa ▸ adx a (by omega) ha qa) ?_
 refine gl ?_
 refine gC (fun ht12=>?_) (fun ht12=>?_)
 ·have h1 : s = [] := List.length_eq_zero_iff.1 (by have := ht12; simp only [aaa, beq_iff_eq] at this; omega)
  refine gE1 ?_
  rw [h1,agm,T.sgn_zero]; rfl
 ·have h1 : s.length ≠ 0 := by have := ht12; simp only [aaa, beq_eq_false_iff_ne, ne_eq] at this; omega
  refine gl ?_
  refine gC (fun ht15=>?_) (fun ht15=>?_)
  ·have h2 : s.length = 1 := by have := ht15; simp only [aaa, beq_iff_eq] at this; omega
   obtain ⟨q,rfl⟩:=List.length_eq_one_iff.1 h2
   refine gi rfl ?_
   refine gc (ae4 (rt q) (cs.qs (by omega) (by simp:q ∈ [q])).ok) ?_
   refine gE1 ?_
   rw [am7,T.sgn_ofQ,agd]
  ·have h2 : s.length ≠ 1 := by have := ht15; simp only [aaa, beq_eq_false_iff_ne, ne_eq] at this; omega
   obtain ⟨i, hij, hsl⟩:∃ i, i + 1 <= j /\ s.length = 2 ^ (i + 1):=by
    rcases akb hsn with h | h | h
    ·exact absurd h h1
    ·exact absurd h h2
    ·exact h
   have hp2:=Nat.two_pow_pos i
   have hpi:2 ^ i <= 32:=abf (b:=5) (by omega)
   have hps:2 ^ (i + 1) = 2 * 2 ^ i:=by rw [Nat.pow_succ]; omega
   have n1:Nl i (s.take (2 ^ i)):=.inr ⟨i,le_refl _,adt hsl⟩
   have n2:Nl i (s.drop (2 ^ i)):=.inr ⟨i,le_refl _,ad9 hsl⟩
   have nd:=ht.1 i (by omega)
   have cd:=ht.2.cb i
   obtain ⟨nn,dn,cn⟩:=a48 ht (by omega) hsl cs
   have b1:sB r i (4 * e + 3 * eB r i + r + 1) <= sB r j e:=a1z r e hij
   have b2:sB r i e <= sB r i (4 * e + 3 * eB r i + r + 1):=anf r i (by omega)
   have b3:sB r i r <= sB r i (4 * e + 3 * eB r i + r + 1):=anf r i (by omega)
   have b4:=a5h r i (4 * e + 3 * eB r i + r + 1)
   have k1:=ih i (by omega) (s.take (2 ^ i)) e (by omega) n1 cs.take (by omega)
   have k2:=ih i (by omega) (s.drop (2 ^ i)) e (by omega) n2 cs.drop (by omega)
   have k3:=ih i (by omega) _ r (by omega) nd cd (by omega)
   have k4:=ih i (by omega) _ _ (by omega) nn cn (by omega)
   have hres:T.sgn (aan ts) j (dec j s) = T.sgn3 (T.sgn (aan ts) i (dec i (s.take (2 ^ i)))) (T.sgn (aan ts) i (dec i (s.drop (2 ^ i)))) (T.sgn (aan ts) i (dec i (ts.getD i []))) (T.sgn (aan ts) i (dec i (ap0 ts i s))):=by
    rw [a6h _ (by omega) hij,dn]; rfl
   have v1:=T.sgn_cases (aan ts) i (dec i (s.take (2 ^ i)))
   have v4:=T.sgn_cases (aan ts) i (dec i (ap0 ts i s))
   refine gl ?_
   refine gs (aee (.tmp rfl) (.const _) (by omega) (show _ = ((2 ^ i:Nat):Int) by rw [acj (by omega),hsl,ab5]) rfl) ?_
   refine gs (aaq (.tmp rfl) (.none _) (.some _ (.tmp rfl) (by omega)) T65 rfl T70 rfl (by omega) (by simp only [length_map]; omega) rfl) ?_
   refine gc (by have h9:=k1; rw [<- ajr] at h9; exact h9) ?_
   refine gs (aaq (.tmp rfl) (.some _ (.tmp rfl) (by omega)) (.none _) T65 rfl T70 rfl (by simp only [length_map]; omega) (by omega) rfl) ?_
   refine gc (by have h9:=k2; rw [<- ag0] at h9; exact h9) ?_
   refine gD ?_
   refine gc (ae3 qA s (by omega)) ?_
   refine ga (show _ = (i:Int) by rw [hsl,am4,abc (by omega)]; omega) ?_
   refine gi (as3 (j:=i) (by omega)) ?_
   refine gc k3 ?_
   refine gD ?_
   refine gC (fun ht42=>?_) (fun ht42=>?_)
   ·have e1 : T.sgn (aan ts) i (dec i (ts.getD i [])) = 0 := by simpa [aaa] using ht42
    refine gE1 ?_
    rw [hres]; unfold T.sgn3; rw [if_pos e1]
   ·have e1 : ¬ T.sgn (aan ts) i (dec i (ts.getD i [])) = 0 := by simpa [aaa] using ht42
    refine gC (fun ht44=>?_) (fun ht44=>?_)
    ·have e2:T.sgn (aan ts) i (dec i (s.take (2 ^ i))) = T.sgn (aan ts) i (dec i (s.drop (2 ^ i))) \/ T.sgn (aan ts) i (dec i (s.drop (2 ^ i))) = 0:=azs ht44
     refine gE1 ?_
     rw [hres]; unfold T.sgn3; rw [if_neg e1,if_pos e2]
    ·have e2:¬ (T.sgn (aan ts) i (dec i (s.take (2 ^ i))) = T.sgn (aan ts) i (dec i (s.drop (2 ^ i))) \/ T.sgn (aan ts) i (dec i (s.drop (2 ^ i))) = 0):=att ht44
     refine gC (fun ht53=>?_) (fun ht53=>?_)
     ·have e3 : T.sgn (aan ts) i (dec i (s.take (2 ^ i))) = 0 := by simpa [aaa] using ht53
      refine gE1 ?_
      rw [hres]; unfold T.sgn3; rw [if_neg e1,if_neg e2,if_pos e3]
     ·have e3 : ¬ T.sgn (aan ts) i (dec i (s.take (2 ^ i))) = 0 := by simpa [aaa] using ht53
      refine gc (avd ts m r ht hm hml i s e (by omega) hsl cs (by omega)) ?_
      refine gc k4 ?_
      refine ga (apz v1 v4) ?_
      refine gD ?_
      refine gE1 ?_
      rw [hres]; unfold T.sgn3; rw [if_neg e1,if_neg e2,if_neg e3]; rfl
end Go.Lw
namespace Go.Lw
open Go.Proofs
theorem agb (rs:List (List Rt)) (r:Nat) (h:TR rs r):FnC prog 158 [ae5 rs] (ah7 (aeb rs)):=by
 have hll:=h.ll
 have hr:=h.le
 refine gF0 func158 ?_
 refine gl ?_
 refine gC (fun ht10=>?_) (fun ht10=>?_)
 ·have h5 : 5 < rs.length := by have := ht10; simp only [aaa, decide_eq_true_eq] at this; omega
  refine gE1 ?_
  rw [a1x h5]; rfl
 ·have h5 : rs.length <= 5 := by have := ht10; simp only [aaa, decide_eq_false_iff_not] at this; omega
  refine gl ?_
  refine gL1 [1,13,14] [1] (fun (k:Nat)=>[(15,some (i64 k))]) (fun _=>[]) (fun k=>k <= rs.length /\ ∀ j,j < k -> a0f rs j) (fun k=>rs.length - k) 0 ⟨zero_le _,fun j hj=>by omega⟩ ?_
  rintro k ⟨hk,hj⟩ K1 hK1
  refine gC (fun ht16=>?_) (fun ht16=>?_)
  ·have hin : k < rs.length := by simpa [aaa] using ht16
   obtain ⟨d,hd⟩:=abt hin
   have hdm:=mem_of_getElem? hd
   have hdl:=h.len d hdm
   refine gi (aae hd) ?_
   refine gl ?_
   refine gs (ag5 (.const _) (.tmp rfl) (by omega) (aj9 (by omega)) rfl) ?_
   refine gC (fun ht24=>?_) (fun ht24=>?_)
   ·have h1 : d.length ≠ 2 ^ k := by have := ht24; simp only [aaa, bne_iff_ne, ne_eq] at this; omega
    refine gE1 ?_
    rw [a1e h5 hd hj h1]; rfl
   ·have h1 : d.length = 2 ^ k := by have := ht24; simp only [aaa, bne_eq_false_iff_eq] at this; omega
    have htl:(rs.take k).length = k:=by simp; omega
    have hnu:=akr (rs.take k) d (h.ok d hdm) hdl (by omega)
    rw [htl] at hnu
    refine gs (aaq (.tmp rfl) (.none _) (.some _ (.tmp rfl) (by omega)) T28 rfl T65 rfl (by omega) (by simp only [length_map]; omega) rfl) ?_ (9,0)
    refine gW (Wk.of (sl:=[(1,some (.ptr 1 0)),(3,some (i64 k)),(4,some (nR d)),(5,some (.ptr 5 0)),(13,some (.lst 1 (rs.map nR))),(14,some (i64 rs.length)),(15,some (i64 k))]) (hp:=[(1,some (.box [.lst 1 (rs.map nR)])),(5,some (.box [.lst 1 ((rs.take k).map nR)]))]) ab0 (.cons rfl (.refl _) (.cons rfl (BlkSub.boxL (.cons (.of (bbl nR rs k)) .nil) rfl) .nil))) ?_
    refine gc hnu ?_
    refine gC (fun ht35=>?_) (fun ht35=>?_)
    ·have h2:=ac5 ht35
     refine gE1 ?_
     rw [a2v h5 hd hj h1 h2]
    ·have h2:=ac7 ht35
     have hts:=aw3 (ts:=llq rs) (fun j hjk=>(hj j hjk).nl) h.rb
     have hq:=atp h2 (h.ok d hdm)
     have hcb:Cb r (lq d):=by have:=h.rb.cb k; rw [ami,getD_eq_getElem?_getD,hd] at this; exact this
     have hsg:FnC prog 96 [ae5 (rs.take k), nR d] (i64 (T.sgn (aan (llq rs)) k (dec k (lq d)))):=by
      have h9:=aje ((llq rs).take k) k r hts (by omega) (by simp; omega) k (lq d) r (le_refl _) hq.2 hcb (a3v (le_refl k) (by have:=h.three; omega) hr (by have:=aea k; omega))
      rw [T.sgn_congr k (fun j hjk=>ajy hjk)] at h9
      rw [a76 h.ok (by omega) hj,hq.1,af5]
      rw [<- hq.1]; exact h9
     refine gc hsg ?_
     refine gC (fun ht40=>?_) (fun ht40=>?_)
     ·have h3 : T.sgn (aan (llq rs)) k (dec k (lq d)) < 0 := by simpa [aaa] using ht40
      refine gE1 ?_
      rw [a1h h5 hd hj h1 h2 h3]; rfl
     ·have h3 : ¬ T.sgn (aan (llq rs)) k (dec k (lq d)) < 0 := by simpa [aaa] using ht40
      refine ga aat ?_
      exact gK1 hK1 (k + 1) ⟨hin,fun j hjk=>by rcases lt_or_ge j k with h9 | h9; exact hj j h9; (have:j = k:=by omega); subst this; exact a8g hd h1 h2 h3⟩
  ·have hin : k = rs.length := by have : rs.length <= k := (by simpa [aaa] using ht16); omega
   subst hin
   refine gE1 ?_
   rw [a1o h5 hj]; rfl
theorem acp (rs:List (List Rt)) (r:Nat) (h:TR rs r) (xs:List (List Rt)) (hx:∀ a ∈ xs, (∀ x ∈ a, x.ok) /\ a.length <= 281474976710656) (hl:xs.length <= 281474976710656):FnC prog 95 [ae5 rs, .lst 1 (xs.map nR)] (ah7 (aaz rs xs)):=by
 refine gF0 func95 ?_
 refine gc (agb rs r h) ?_
 refine gC (fun ht12=>?_) (fun ht12=>?_)
 ·have h1:=ac5 ht12
  refine gE1 ?_
  rw [atr h1]
 ·have h1:=ac7 ht12
  refine gl ?_
  refine gL1 [2,14,15] [2] (fun (i:Nat)=>[(16,some (i64 i))]) (fun _=>[]) (fun i=>i <= xs.length /\ ∀ x ∈ xs.take i,agk rs.length x = 0) (fun i=>xs.length - i) 0 ⟨zero_le _,fun x hx=>by simp at hx⟩ ?_
  rintro i ⟨hi,hj⟩ K1 hK1
  refine gC (fun ht17=>?_) (fun ht17=>?_)
  ·have hin : i < xs.length := by simpa [aaa] using ht17
   obtain ⟨a,ha⟩:=abt hin
   have hok:=hx a (mem_of_getElem? ha)
   refine gi (aae ha) ?_
   refine gc (akr rs a hok.1 hok.2 h.ll) ?_
   refine gC (fun ht24=>?_) (fun ht24=>?_)
   ·have h2:=ac5 ht24
    refine gE1 ?_
    rw [apl h1 ha hj h2]
   ·have h2:=ac7 ht24
    refine ga aat ?_
    exact gK1 hK1 (i + 1) ⟨hin,fun x hx=>by rw [aao ha] at hx; rcases List.mem_append.1 hx with h9 | h9; exact hj x h9; (rw [List.mem_singleton.1 h9]; exact h2)⟩
  ·have hin : i = xs.length := by have : xs.length <= i := (by simpa [aaa] using ht17); omega
   subst hin
   rw [take_length] at hj
   refine gE1 ?_
   rw [ai6 h1 hj]; rfl
theorem as9 (rs:List (List Rt)) (r:Nat) (h:TR rs r) (a:List Rt) (e:Nat) (ha:NR a e):FnC prog 303 [ae5 rs, nR a] (bl (decide (aaz rs [a] = 0))):=by
 refine gF0 func303 ?_
 refine gc (acp rs r h [a] (fun x hx=>by rw [List.mem_singleton.1 hx]; exact ⟨ha.ok,ha.len⟩) (by simp)) ?_
 refine gE1 ?_
 rw [amn]; rfl
theorem apx (rs:List (List Rt)) (r:Nat) (h:TR rs r) (a:List Rt) (e:Nat) (ha:NR a e) (he:e <= lm rs.length) :
  FnC prog 161 [ae5 rs,nR a] (.tup [nA (if aaz rs [a] = 0 then sh rs.length (T.neg rs.length (dec rs.length (lq a))) else []),ah7 (aaz rs [a])]):=by
 have hlm:=aln rs.length
 refine gF0 func161 ?_
 refine gc (acp rs r h [a] (fun x hx=>by rw [List.mem_singleton.1 hx]; exact ⟨ha.ok,ha.len⟩) (by simp)) ?_
 refine gC (fun ht12=>?_) (fun ht12=>?_) (st2:=(77777,0))
 ·have h1:=ac5 ht12
  refine gR ?_
  exact ac3 (by rw [if_neg h1]; exact Sub.tup (.cons (.nil _ _ _) (.cons (.refl _) .nil)))
 ·have h1:=ac7 ht12
  obtain ⟨h2,h3⟩:=ado h1
  obtain ⟨tw,_⟩:=ab3 h h2
  obtain ⟨e1,na⟩:=ha.num (h3 a (by simp))
  have h5:rs.length <= 5:=by have:=tw.five; rwa [length_map] at this
  have hl:=na.len5 h5
  have qa:∀ q ∈ lq a,Qs q:=fun q hq=>ha.cb.qs (by omega) hq
  have qm:∀ q ∈ ab7 (lq a),Qs q:=fun q hq=>ha.cb.minus.qs (by omega) hq
  have nm:=ag7 na
  refine gW (Wk.of (sl:=[(1,some (nA (lq a))),(2,some (.ptr 2 0)),(6,some (ah7 (aaz rs [a])))]) (hp:=[(2,some (.box [.lst 1 (rs.map nR)]))]) (.cons rfl (Sub.of e1) (.k (.k .nil))) (.cons rfl (.refl _) .nil)) ?_
  refine gc (aga _ qa (by omega)) ?_
  refine gc (adx _ h5 nm qm) ?_
  refine gE2 ?_
  rw [if_pos h1,h1,aex]; rfl
theorem a0j (rs:List (List Rt)) (r:Nat) (h:TR rs r) (a b:List Rt) (e f:Nat) (ha:NR a e) (hb:NR b f) (he:e + f <= lm rs.length) :
  FnC prog 322 [ae5 rs,nR a,nR b] (.tup [nA (if aaz rs [a,b] = 0 then sh rs.length (T.add rs.length (dec rs.length (lq a)) (dec rs.length (lq b))) else []),ah7 (aaz rs [a,b])]):=by
 have hlm:=aln rs.length
 refine gF0 func322 ?_
 refine gc (acp rs r h [a,b] (an6 ha hb) (by simp)) ?_
 refine gC (fun ht15=>?_) (fun ht15=>?_) (st2:=(77777,0))
 ·have h1:=ac5 ht15
  refine gR ?_
  exact ac3 (by rw [if_neg h1]; exact Sub.tup (.cons (.nil _ _ _) (.cons (.refl _) .nil)))
 ·have h1:=ac7 ht15
  obtain ⟨h2,h3⟩:=ado h1
  obtain ⟨tw,e0⟩:=ab3 h h2
  obtain ⟨e1,na⟩:=ha.num (h3 a (by simp))
  obtain ⟨e2,nb⟩:=hb.num (h3 b (by simp))
  have h5:rs.length <= 5:=by have:=tw.five; rwa [length_map] at this
  have hla:=na.len5 h5
  have hlb:=nb.len5 h5
  have qa:∀ q ∈ lq a,Qs q:=fun q hq=>ha.cb.qs (by omega) hq
  have qb:∀ q ∈ lq b,Qs q:=fun q hq=>hb.cb.qs (by omega) hq
  have qp:∀ q ∈ acz (lq a) (lq b),Qs q:=fun q hq=>(ha.cb.plus hb.cb).qs (by omega) hq
  have np:=aii na nb
  refine gW (Wk.of (sl:=[(1,some (nA (lq a))),(2,some (nA (lq b))),(3,some (.ptr 3 0)),(8,some (ah7 (aaz rs [a,b])))]) (hp:=[(3,some (.box [.lst 1 (rs.map nR)]))]) (.cons rfl (Sub.of e1) (.cons rfl (Sub.of e2) (.k (.k .nil)))) (.cons rfl (.refl _) .nil)) ?_
  refine gc (aem _ _ qa qb (by omega) (by omega)) ?_
  refine gc (adx _ h5 np qp) ?_
  refine gE2 ?_
  rw [if_pos h1,h1,ada]; rfl
theorem aya (rs:List (List Rt)) (r:Nat) (h:TR rs r) (a b:List Rt) (e f:Nat) (ha:NR a e) (hb:NR b f) (he:e + f <= lm rs.length) :
  FnC prog 321 [ae5 rs,nR a,nR b] (.tup [nA (if aaz rs [a,b] = 0 then sh rs.length (T.add rs.length (dec rs.length (lq a)) (T.neg rs.length (dec rs.length (lq b)))) else []),ah7 (aaz rs [a,b])]):=by
 have hlm:=aln rs.length
 refine gF0 func321 ?_
 refine gc (acp rs r h [a,b] (an6 ha hb) (by simp)) ?_
 refine gC (fun ht15=>?_) (fun ht15=>?_) (st2:=(77777,0))
 ·have h1:=ac5 ht15
  refine gR ?_
  exact ac3 (by rw [if_neg h1]; exact Sub.tup (.cons (.nil _ _ _) (.cons (.refl _) .nil)))
 ·have h1:=ac7 ht15
  obtain ⟨h2,h3⟩:=ado h1
  obtain ⟨tw,e0⟩:=ab3 h h2
  obtain ⟨e1,na⟩:=ha.num (h3 a (by simp))
  obtain ⟨e2,nb⟩:=hb.num (h3 b (by simp))
  have h5:rs.length <= 5:=by have:=tw.five; rwa [length_map] at this
  have hla:=na.len5 h5
  have hlb:=nb.len5 h5
  have qa:∀ q ∈ lq a,Qs q:=fun q hq=>ha.cb.qs (by omega) hq
  have qb:∀ q ∈ lq b,Qs q:=fun q hq=>hb.cb.qs (by omega) hq
  have qm:∀ q ∈ ab7 (lq b),Qs q:=fun q hq=>hb.cb.minus.qs (by omega) hq
  have qp:∀ q ∈ acz (lq a) (ab7 (lq b)),Qs q:=fun q hq=>(ha.cb.plus hb.cb.minus).qs (by omega) hq
  have np:=aii na (ag7 nb)
  refine gW (Wk.of (sl:=[(1,some (nA (lq a))),(2,some (nA (lq b))),(3,some (.ptr 3 0)),(8,some (ah7 (aaz rs [a,b])))]) (hp:=[(3,some (.box [.lst 1 (rs.map nR)]))]) (.cons rfl (Sub.of e1) (.cons rfl (Sub.of e2) (.k (.k .nil)))) (.cons rfl (.refl _) .nil)) ?_
  refine gc (aga _ qb (by omega)) ?_
  refine gc (aem _ _ qa qm (by omega) (by rw [acx]; omega)) ?_
  refine gc (adx _ h5 np qp) ?_
  refine gE2 ?_
  rw [if_pos h1,h1,ada,aex]; rfl
theorem ayc (rs:List (List Rt)) (r:Nat) (h:TR rs r) (a b:List Rt) (e f:Nat) (ha:NR a e) (hb:NR b f) (he:e + f <= lm rs.length) :
  FnC prog 56 [ae5 rs,nR a,nR b] (.tup [nA (if aaz rs [a,b] = 0 then sh rs.length (T.mul (aan (llq rs)) rs.length (dec rs.length (lq a)) (dec rs.length (lq b))) else []),ah7 (aaz rs [a,b])]):=by
 have hr:=h.le
 have hlm:=aln rs.length
 refine gF0 func56 ?_
 refine gc (acp rs r h [a,b] (an6 ha hb) (by simp)) ?_
 refine gC (fun ht15=>?_) (fun ht15=>?_) (st2:=(77777,0))
 ·have h1:=ac5 ht15
  refine gR ?_
  exact ac3 (by rw [if_neg h1]; exact Sub.tup (.cons (.nil _ _ _) (.cons (.refl _) .nil)))
 ·have h1:=ac7 ht15
  obtain ⟨h2,h3⟩:=ado h1
  obtain ⟨tw,e0⟩:=ab3 h h2
  obtain ⟨e1,na⟩:=ha.num (h3 a (by simp))
  obtain ⟨e2,nb⟩:=hb.num (h3 b (by simp))
  have hlen:(llq rs).length = rs.length:=length_map _
  have h5:rs.length <= 5:=by have:=tw.five; omega
  have hla:=na.len5 h5
  have hlb:=nb.len5 h5
  have htw:=tw.ok
  rw [hlen] at htw
  have hE:=a95 r h5
  have np:=aek (llq rs) rs.length htw.1 rs.length rs.length _ _ (le_refl _) (le_refl _) na nb
  have cp:=Cb.mul htw (k:=rs.length) (le_refl rs.length) (le_refl _) na nb ha.cb hb.cb
  have hti:=af9 (llq rs) rs.length r htw h5 (by omega) rs.length rs.length _ _ e f (le_refl _) (le_refl _) na nb ha.cb hb.cb (by omega)
  refine gW (Wk.of (sl:=[(1,some (nA (lq a))),(2,some (nA (lq b))),(3,some (.ptr 3 0)),(8,some (ah7 (aaz rs [a,b])))]) (hp:=[(3,some (.box [.lst 1 ((llq rs).map nA)]))]) (.cons rfl (Sub.of e1) (.cons rfl (Sub.of e2) (.k (.k .nil)))) (.cons rfl (BlkSub.boxL (.cons (.of (anw e0)) .nil) rfl) .nil)) ?_
  refine gc hti ?_
  refine gc (adx _ h5 np.1 (fun q hq=>cp.qs (by omega) hq)) ?_
  refine gE2 ?_
  rw [if_pos h1,h1,np.2]; rfl
theorem aq2 (rs:List (List Rt)) (r:Nat) (h:TR rs r) (a b:List Rt) (e f:Nat) (ha:NR a e) (hb:NR b f) (he:e + f + 1 <= lm rs.length) :
  FnC prog 57 [ae5 rs,nR a,nR b] (.tup [i64 (if aaz rs [a,b] = 0 then T.sgn (aan (llq rs)) rs.length (T.add rs.length (dec rs.length (lq a)) (T.neg rs.length (dec rs.length (lq b)))) else 0),ah7 (aaz rs [a,b])]):=by
 have hr:=h.le
 have hlm:=aln rs.length
 refine gF0 func57 ?_
 refine gc (acp rs r h [a,b] (an6 ha hb) (by simp)) ?_
 refine gC (fun ht15=>?_) (fun ht15=>?_) (st2:=(77777,0))
 ·have h1:=ac5 ht15
  refine gE2 ?_
  rw [if_neg h1]; rfl
 ·have h1:=ac7 ht15
  obtain ⟨h2,h3⟩:=ado h1
  obtain ⟨tw,e0⟩:=ab3 h h2
  obtain ⟨e1,na⟩:=ha.num (h3 a (by simp))
  obtain ⟨e2,nb⟩:=hb.num (h3 b (by simp))
  have hlen:(llq rs).length = rs.length:=length_map _
  have h5:rs.length <= 5:=by have:=tw.five; omega
  have hla:=na.len5 h5
  have hlb:=nb.len5 h5
  have htw:=tw.ok
  rw [hlen] at htw
  have qa:∀ q ∈ lq a,Qs q:=fun q hq=>ha.cb.qs (by omega) hq
  have qb:∀ q ∈ lq b,Qs q:=fun q hq=>hb.cb.qs (by omega) hq
  have qm:∀ q ∈ ab7 (lq b),Qs q:=fun q hq=>hb.cb.minus.qs (by omega) hq
  have np:=aii na (ag7 nb)
  have hsg:=aje (llq rs) rs.length r htw h5 (by omega) rs.length _ _ (le_refl _) np (ha.cb.plus hb.cb.minus) (a3v (le_refl rs.length) (by have:=tw.three; omega) hr (by omega))
  refine gW (Wk.of (sl:=[(1,some (nA (lq a))),(2,some (nA (lq b))),(3,some (.ptr 3 0)),(8,some (ah7 (aaz rs [a,b])))]) (hp:=[(3,some (.box [.lst 1 ((llq rs).map nA)]))]) (.cons rfl (Sub.of e1) (.cons rfl (Sub.of e2) (.k (.k .nil)))) (.cons rfl (BlkSub.boxL (.cons (.of (anw e0)) .nil) rfl) .nil)) ?_
  refine gc (aga _ qb (by omega)) ?_
  refine gc (aem _ _ qa qm (by omega) (by rw [acx]; omega)) ?_
  refine gc hsg ?_
  refine gD ?_
  refine gE2 ?_
  rw [if_pos h1,h1,ada,aex]; rfl
theorem av7 (rs:List (List Rt)) (r:Nat) (h:TR rs r) (a:List Rt) (e:Nat) (ha:NR a e) (he:e <= lm rs.length) :
  FnC prog 40 [ae5 rs,nR a] (.tup [i64 (if aaz rs [a] = 0 then T.sgn (aan (llq rs)) rs.length (dec rs.length (lq a)) else 0),ah7 (aaz rs [a])]):=by
 have hr:=h.le
 have hlm:=aln rs.length
 refine gF0 func40 ?_
 refine gc (acp rs r h [a] (fun x hx=>by rw [List.mem_singleton.1 hx]; exact ⟨ha.ok,ha.len⟩) (by simp)) ?_
 refine gC (fun ht12=>?_) (fun ht12=>?_) (st2:=(77777,0))
 ·have h1:=ac5 ht12
  refine gE2 ?_
  rw [if_neg h1]; rfl
 ·have h1:=ac7 ht12
  obtain ⟨h2,h3⟩:=ado h1
  obtain ⟨tw,e0⟩:=ab3 h h2
  obtain ⟨e1,na⟩:=ha.num (h3 a (by simp))
  have hlen:(llq rs).length = rs.length:=length_map _
  have h5:rs.length <= 5:=by have:=tw.five; omega
  have htw:=tw.ok
  rw [hlen] at htw
  have hsg:=aje (llq rs) rs.length r htw h5 (by omega) rs.length _ _ (le_refl _) na ha.cb (a3v (le_refl rs.length) (by have:=tw.three; omega) hr (by omega))
  refine gW (Wk.of (sl:=[(1,some (nA (lq a))),(2,some (.ptr 2 0)),(6,some (ah7 (aaz rs [a])))]) (hp:=[(2,some (.box [.lst 1 ((llq rs).map nA)]))]) (.cons rfl (Sub.of e1) (.k (.k .nil))) (.cons rfl (BlkSub.boxL (.cons (.of (anw e0)) .nil) rfl) .nil)) ?_
  refine gc hsg ?_
  refine gE2 ?_
  rw [if_pos h1,h1]; rfl
theorem a4p (x:Rt) (hx:x.ok) (hs:Qs x.q):FnC prog 136 [x.av] (nA (sh 0 (x.q:Rat))):=by
 have hadd:=afm x (rt 0) hx Qs.zero.ok
 rw [bl3] at hadd
 refine gF0 func136 ?_
 refine gc (Con.subA (.cons (.refl _) (.cons ai2 .nil)) hadd) ?_
 refine gc (adx (n:=0) [x.q] (by omega) (.inr ⟨0,le_refl _,rfl⟩) (fun q hq=>by rw [List.mem_singleton.1 hq]; exact hs)) ?_
 refine gE1 ?_
 rfl
end Go.Lw
namespace Go.Lw
open Go.Proofs
theorem agu (n:Nat) (hn:n <= 281474976710656):FnC prog 207 [i64 n] (.tup [i64 (pwk n), bl (pwb n)]):=by
 refine gF0 func207 ?_
 refine gL1 [0] [] (fun (k:Nat)=>[(5,some (i64 k))]) (fun _=>[]) (fun k=>k <= 6 /\ ∀ j,j < k -> n ≠ 2 ^ j) (fun k=>6 - k) 0 ⟨by omega,fun j h=>by omega⟩ ?_
 rintro k ⟨hk,hj⟩ K1 hK1
 refine gC (fun ht6=>?_) (fun ht6=>?_)
 ·have h1 : k < 6 := by have := ht6; simp only [aaa, decide_eq_true_eq] at this; omega
  refine gs (ag5 (.const _) (.tmp rfl) (by omega) (aj9 (by omega)) rfl) ?_
  refine gC (fun ht11=>?_) (fun ht11=>?_)
  ·have h2 : n = 2 ^ k := by have := ht11; simp only [aaa, beq_iff_eq] at this; omega
   refine gE2 ?_
   rw [h2,(aug (by omega)).1,(aug (by omega)).2]; rfl
  ·have h2 : n ≠ 2 ^ k := by have := ht11; simp only [aaa, beq_eq_false_iff_ne, ne_eq] at this; omega
   refine ga (aa1 (by omega)) ?_
   exact gK1 hK1 (k + 1) ⟨by omega,fun j h=>by rcases lt_or_ge j k with h3 | h3; exact hj j h3; (have:j = k:=by omega); subst this; exact h2⟩
 ·have h1 : k = 6 := by have := ht6; simp only [aaa, decide_eq_false_iff_not] at this; omega
  subst h1
  refine gE2 ?_
  rw [(bbb hj).1,(bbb hj).2]; rfl
theorem an7 (m:Nat) (hm:m <= 5) (a:List Rt) (ha:∀ r ∈ a, r.ok) (hl:a.length <= 281474976710656):FnC prog 194 [i64 m, nR a] (i64 (agk m a)):=by
 refine gF0 func194 ?_
 refine gl ?_
 refine gc (agu a.length hl) ?_
 refine gl ?_
 refine gC (fun ht26=>?_) (fun ht26=>?_)
 ·have h1:a ≠ [] /\ (lvl a.length < 0 \/ (m:Int) < lvl a.length):=(a16 hm a).2 (bg9 ht26)
  refine gE1 ?_
  unfold agk; rw [if_pos h1]; rfl
 ·have hn:¬ (a ≠ [] /\ (lvl a.length < 0 \/ (m:Int) < lvl a.length)):=fun h=>boa ht26 ((a16 hm a).1 h)
  refine gl ?_
  refine gL1 [27,28] [] (fun (i:Nat)=>[(29,some (i64 i))]) (fun _=>[]) (fun i=>i <= a.length /\ (a.take i).all Rt.valid = true) (fun i=>a.length - i) 0 ⟨zero_le _,by simp⟩ ?_
  rintro i ⟨hi,hv⟩ K1 hK1
  refine gC (fun ht30=>?_) (fun ht30=>?_)
  ·have hin : i < a.length := by simpa [aaa] using ht30
   obtain ⟨r,hr⟩:=abt hin
   have hrok:=ha r (mem_of_getElem? hr)
   refine gi (aae hr) ?_
   refine gc (ags r hrok) ?_
   refine gC (fun ht35=>?_) (fun ht35=>?_)
   ·have hrv : r.valid = false := by simpa using ht35
    refine gE1 ?_
    unfold agk
    rw [if_neg hn,if_neg]
    ·rfl
    ·rw [all_eq_true]
     intro h
     rw [h r (mem_of_getElem? hr)] at hrv; cases hrv
   ·have hrv : r.valid = true := by simpa using ht35
    refine ga aat ?_
    exact gK1 hK1 (i + 1) ⟨by omega,by rw [aao hr,all_append,hv]; simp [hrv]⟩
  ·have hin : i = a.length := by have : a.length <= i := (by simpa [aaa] using ht30); omega
   subst hin
   rw [take_length] at hv
   refine gE1 ?_
   unfold agk; rw [if_neg hn,if_pos hv]; rfl
theorem aq3 (a:List Rat) (hl:a.length <= 281474976710656):FnC prog 271 [nA a] (bl (abo a)):=by
 refine gF0 func271 ?_
 refine gl ?_
 refine gL1 [5,6] [] (fun (i:Nat)=>[(7,some (i64 i))]) (fun _=>[]) (fun i=>i <= a.length /\ abo (a.take i) = true) (fun i=>a.length - i) 0 ⟨zero_le _,by simp [abo]⟩ ?_
 rintro i ⟨hi,hv⟩ K1 hK1
 refine gC (fun ht8=>?_) (fun ht8=>?_)
 ·have hin : i < a.length := by simpa [aaa] using ht8
  obtain ⟨q,hq⟩:=abt hin
  refine gi (aae hq) ?_
  refine glG ?_
  refine glG ?_
  refine gC (fun ht24=>?_) (fun ht24=>?_)
  ·have h0:q ≠ 0:=bc4 ht24
   refine gE1 ?_
   have:abo a = false:=by
    rw [Bool.eq_false_iff]
    intro h
    exact h0 (by simpa using List.all_eq_true.1 h q (mem_of_getElem? hq))
   rw [this]; rfl
  ·have h0:q = 0:=a8c ht24
   refine ga aat ?_
   exact gK1 hK1 (i + 1) ⟨by omega,by rw [aao hq]; simp only [abo,all_append,and_eq_true]; exact ⟨hv,by simp [h0]⟩⟩
 ·have hin : i = a.length := by have : a.length <= i := (by simpa [aaa] using ht8); omega
  subst hin
  rw [take_length] at hv
  refine gE1 ?_
  rw [hv]; rfl
theorem afc {n:Nat} (a:List Rat) (hn:n <= 5) (ha:Nl n a):FnC prog 195 [nA a] (nA (sh n (dec n a))):=by
 have hl:=ha.len5 hn
 rw [<- ajl ha hn]
 refine gF0 func195 ?_
 refine gl ?_
 refine gc (agu a.length (by omega)) ?_
 refine gC (fun ht13=>?_) (fun ht13=>?_)
 ·have h0:a = []:=by
   rcases ha with h | ⟨j,hj,h⟩
   ·exact h
   ·have h9:=ht13
    rw [h,(aug (by omega)).2] at h9; cases h9
  refine gs (acw T65 rfl T70 rfl rfl rfl) ?_
  refine gs (agl (.tmp rfl) rfl rfl (.tmp rfl) T65 rfl T70 rfl rfl (by simp [h0]) rfl rfl) ?_
  refine gE1 ?_
  subst h0; rfl
 ·refine gl ?_
  refine gL1 [0] [] (fun (m:Nat)=>[(5,some (i64 m))]) (fun _=>[]) (fun m=>bet a m) (fun m=>m) a.length (a7o (ha.mono hn)) ?_
  rintro m hm K1 hK1
  refine gs (acd rfl rfl rfl (fun h=>aee (.opt rfl (o1 h)) (.const _) (by omega) (acj (by have:=hm.le; omega)) rfl)) ?_
  refine gs (acd rfl rfl rfl (fun h=>aaq (.opt rfl (o1 h)) (.some _ (.opt rfl (o1 h)) (by omega)) (.some _ (.opt rfl (o1 h)) (by omega)) T65 rfl T70 rfl (by omega) (by have:=hm.le; simp; omega) rfl)) ?_
  refine gcG (fun _=>(by have h9:=aq3 ((a.drop (m / 2)).take (m - m / 2)) (by simp; omega); rw [<- axn] at h9; exact h9)) ?_
  refine gC (fun ht28=>?_) (fun ht28=>?_)
  ·have h1:1 < m /\ abo ((a.drop (m / 2)).take (m - m / 2)) = true:=by
    have h9:=ht28
    by_cases h:(m:Int) > 1
    ·simp only [aaa,decide_eq_true h,cond_true] at h9; exact ⟨by omega,h9⟩
    ·simp only [aaa,decide_eq_false h,cond_false] at h9; cases h9
   refine gs (aee (.tmp rfl) (.const _) (by omega) (acj (by have:=hm.le; omega)) rfl) ?_
   exact gK1 hK1 (m / 2) (a5u hm h1.1 h1.2)
  ·have h1:1 < m -> abo ((a.drop (m / 2)).take (m - m / 2)) = false:=by
    intro h
    have h9:=ht28
    simp only [aaa,decide_eq_true (show (m:Int) > 1 by omega),cond_true] at h9
    exact h9
   refine gs (acd rfl rfl rfl (fun h=>aaq (.opt rfl (o1 h)) (.none _) (.some _ (.const _) (by omega)) T65 rfl T70 rfl (by omega) (by have h8:(m:Int) = 1:=(by simpa [aaa] using h); have:=hm.le; simp only [length_map]; omega) rfl)) ?_
   refine gcG (fun _=>(by have h9:=aq3 ((a.drop 0).take 1) (by simp; omega); rw [<- axn] at h9; exact h9)) ?_
   refine gC (fun ht37=>?_) (fun ht37=>?_)
   ·have h2:m = 1 /\ abo (a.take 1) = true:=by
     have h9:=ht37
     by_cases h:m = 1
     ·rw [h] at h9; exact ⟨h,h9⟩
     ·rw [show aaa .eql (m:Int) 1 = false by simp [aaa]; omega] at h9; cases h9
    obtain ⟨rfl,h3⟩:=h2
    refine gR ?_
    exact adc (by rw [a83 hm h3]; exact Sub.nil _ _ _)
   ·have h2:m = 1 -> abo (a.take 1) = false:=by
     intro h
     have h9:=ht37
     rw [h] at h9; exact h9
    have h3:=a7j hm h1 h2
    refine gs (acw T65 rfl T70 rfl rfl rfl) ?_
    refine gs (aaq (.tmp rfl) (.none _) (.some _ (.tmp rfl) (by omega)) T65 rfl T70 rfl (by omega) (by have:=hm.le; simp; omega) rfl) ?_
    refine gs (agl (.tmp rfl) rfl rfl (.tmp rfl) T65 rfl T70 rfl rfl (by simp only [length_take,List.length_drop,length_map]; omega) rfl rfl) ?_
    refine gE1 ?_
    rw [h3]
    simp [nA,map_take]
theorem ak3 (d:Nat) (hd:Nat.blt d 1000 = true) (a:List Rat) (n:Nat) (hl:a.length <= n) (hn:n <= 1099511627776) :
  Con prog 209 [nA a,i64 n] [] (.ms d 3 0 n) [(d,some (.row 3 ((aax a n).map qA)))]:=by
 refine gF func209 (fun k z h=>by cases h) ?_
 refine gs (acw T65 rfl T70 rfl rfl rfl) ?_
 refine gs (abu (.tmp rfl) rfl rfl (.tmp rfl) T65 rfl T70 rfl rfl (by simp only [length_map]; omega) rfl rfl) ?_
 refine gW (Wk.of (sl:=[(1,some (i64 n)),(5,some (.ms 8 3 0 a.length))]) (hp:=[(8,some (.row 3 ((aax a a.length).map qA)))]) (.k (.cons rfl (Sub.of (by simp)) .nil)) (.cons rfl (BlkSub.of (by simp [aax])) .nil)) ?_ (99999,0)
 refine gW (Wk.rekey (k:=8) (d:=900) rfl rfl) ?_
 refine gL1 [1] [] (fun (i:Nat)=>[(5,some (.ms 900 3 0 i))]) (fun i=>[(900,some (.row 3 ((aax a i).map qA)))]) (fun i=>a.length <= i /\ i <= n) (fun i=>n - i) a.length ⟨le_refl _,hl⟩ ?_
 rintro i ⟨hi,hin⟩ K1 hK1
 refine gC (fun ht12=>?_) (fun ht12=>?_)
 ·have h1 : i < n := by have := ht12; simp only [aaa, decide_eq_true_eq] at this; omega
  refine gs (abu (.tmp rfl) rfl (by rw [length_map,abg hi]) (.tmp rfl) T65 rfl T70 rfl rfl (by simp; omega) rfl rfl) ?_
  exact gK1 hK1 (i + 1) ⟨by omega,h1⟩ (hw:=(Wk.of (sl:=[(1,some (i64 n)),(5,some (.ms 16 3 0 (i + 1)))]) (hp:=[(16,some (.row 3 ((aax a (i + 1)).map qA)))]) ab0 (.cons rfl (bcu a i hi) .nil)).trans <| (Wk.rekey (k:=16) (d:=900) rfl rfl).trans <| Wk.o)
 ·have h1 : i = n := by have := ht12; simp only [aaa, decide_eq_false_iff_not] at this; omega
  subst h1
  refine gR ?_
  exact Fin.own1 rfl hd rfl
theorem agi (a:List Rat) (n:Nat) (hl:a.length <= n) (hn:n <= 1099511627776):FnC prog 209 [nA a, i64 n] (nA (aax a n)):=by
 have h:=Con.freeze (by rw [length_map,abg hl]; omega) (ak3 0 rfl a n hl hn)
 rw [drop_zero,take_of_length_le (by rw [length_map,abg hl]; exact le_refl _)] at h
 exact h
theorem agh (a b:List Rat) (ha:∀ q ∈ a, Qs q) (hb:∀ q ∈ b, Qs q) (la:a.length <= 1099511627776) (lb:b.length <= 1099511627776):FnC prog 126 [nA a, nA b] (nA (acz a b)):=by
 obtain ⟨n,hn⟩:∃ n,n = max a.length b.length:=⟨_,rfl⟩
 have hwa:=abg (show a.length <= n by omega)
 have hwb:=abg (show b.length <= n by omega)
 have hp:=abm (a:=a) (b:=b)
 rw [<- hn] at hp
 have qa:∀ q ∈ aax a n,Qs q:=fun q hq=>by rcases List.mem_append.1 hq with h | h; exact ha q h; (rw [(List.mem_replicate.1 h).2]; exact Qs.zero)
 have qb:∀ q ∈ aax b n,Qs q:=fun q hq=>by rcases List.mem_append.1 hq with h | h; exact hb q h; (rw [(List.mem_replicate.1 h).2]; exact Qs.zero)
 refine gF0 func126 ?_
 refine gl ?_
 refine gl ?_
 refine gs (a27 (.tmp rfl) (.tmp rfl) rfl) ?_ (2,0)
 refine gW (Wk.of (sl:=[(0,some (nA a)),(1,some (nA b)),(5,some (i64 n))]) (hp:=[]) (.cons rfl (.refl _) (.cons rfl (.refl _) (.cons rfl (Sub.int (by omega)) .nil))) .nil) ?_
 refine go ?_
 refine gt (aad (ak3 900 rfl a n (by omega) (by omega)) (.cons (.tmp rfl) (.cons (.tmp rfl) .nil)) (by first | exact hH0 | exact hH1 rfl | exact hH2 rfl rfl) rfl rfl) ?_
 refine gc (agi b n (by omega) (by omega)) ?_
 refine gL1 [1,19] [] (fun (i:Nat)=>[(0,some (.ms 900 3 0 n)),(20,some (i64 i))]) (fun i=>[(900,some (.row 3 (((acz a b).take i ++ (aax a n).drop i).map qA)))]) (fun i=>i <= n) (fun i=>n - i) 0 (zero_le _) ?_
 rintro i hi K1 hK1
 refine gC (fun ht21=>?_) (fun ht21=>?_) (st2:=(8,0))
 ·have hin : i < n := by simpa [aaa] using ht21
  have hmx:=azv (p:=acz a b) (w:=aax a n) (i:=i) (by omega) (by omega)
  have hqa:=(qa _ (aly (i:=i) (by omega))).ok
  have hqb:=(qb _ (aly (i:=i) (by omega))).ok
  refine gs (aap (n:=i) (.tmp rfl) (.tmp rfl) T65 rfl T70 rfl (by omega) (by omega) rfl) ?_
  refine gs (aau (.tmp rfl) rfl (aae hmx) T70 rfl rfl rfl) ?_
  refine gi (aae (getD_some (i:=i) (l:=aax b n) (by omega))) ?_
  refine gc (al9 (rt ((aax a n).getD i 0)) (rt ((aax b n).getD i 0)) hqa hqb) ?_
  refine gs (aap (n:=i) (.tmp rfl) (.tmp rfl) T65 rfl T70 rfl (by omega) (by omega) rfl) ?_
  refine gs (abh (.tmp rfl) rfl (aae hmx) rfl (.tmp rfl) rfl rfl T70 rfl rfl) ?_
  refine gD ?_ (7,0)
  refine gW (Wk.of (sl:=[(0,some (.ms 900 3 0 n)),(1,some (nA (aax b n))),(19,some (i64 n)),(20,some (i64 i))]) (hp:=[(900,some (.row 3 (((acz a b).take (i + 1) ++ (aax a n).drop (i + 1)).map qA)))]) ab0 (.cons rfl (BlkSub.of (by rw [atw (by omega) (by omega) (by rw [a19,<- hn,agd,agd])])) .nil)) ?_
  refine ga aat ?_
  exact gK1 hK1 (i + 1) hin
 ·have hin : i = n := by have : n <= i := (by simpa [aaa] using ht21); omega
  refine gW ((Wk.freeze (k:=900) rfl).trans <| Wk.of (sl:=[(0,some (nA (acz a b)))]) (hp:=[]) (.cons rfl (Sub.of (by rw [ab8 (by simp; omega),hin,List.drop_of_length_le (by omega),take_of_length_le (by omega),List.append_nil]; rfl)) .nil) .nil) ?_
  refine gE1 ?_
  rfl
theorem ans (a:List Rat) (ha:∀ q ∈ a, Qs q) (hl:a.length <= 1099511627776):FnC prog 127 [nA a] (nA (ab7 a)):=by
 refine gF0 func127 ?_
 refine gl ?_
 refine gW (Wk.virt 900 3 rfl) ?_
 refine gL1 [6,7] [] (fun (i:Nat)=>[(3,some (.ms 900 3 0 i)),(8,some (i64 i))]) (fun i=>[(900,some (.row 3 ((ab7 (a.take i)).map qA)))]) (fun i=>i <= a.length) (fun i=>a.length - i) 0 (zero_le _) ?_
 rintro i hi K1 hK1
 refine gC (fun ht9=>?_) (fun ht9=>?_) (st2:=(7,0))
 ·have hin : i < a.length := by simpa [aaa] using ht9
  obtain ⟨q,hq⟩:=abt hin
  have hqs:=(ha q (mem_of_getElem? hq)).ok
  refine gi (aae hq) ?_
  refine gc (axd (rt q) hqs) ?_
  refine gs (abu (.tmp rfl) rfl (by simp [ab7]; omega) (.tmp rfl) T65 rfl T70 rfl rfl (by simp; omega) rfl rfl) ?_ (6,0)
  refine gW (Wk.of (sl:=[(3,some (.ms 16 3 0 (i + 1))),(6,some (nA a)),(7,some (i64 a.length)),(8,some (i64 i))]) (hp:=[(16,some (.row 3 ((ab7 (a.take (i + 1))).map qA)))]) ab0 (.cons rfl (BlkSub.of (by rw [aao hq]; simp only [ab7,map_append,agd]; rfl)) .nil)) ?_ (6,0)
  refine gW (Wk.rekey (k:=16) (d:=900) rfl rfl) ?_
  refine ga aat ?_
  exact gK1 hK1 (i + 1) hin
 ·have hin : i = a.length := by have : a.length <= i := (by simpa [aaa] using ht9); omega
  subst hin
  refine gW ((Wk.freeze (k:=900) rfl).trans <| Wk.of (sl:=[(3,some (nA (ab7 a)))]) (hp:=[]) (.cons rfl (Sub.of (by rw [ab8 (by simp [ab7]),take_length]; rfl)) .nil) .nil) ?_
  refine gE1 ?_
  rfl
end Go.Lw
namespace Go.Lw
open Go.Proofs
theorem aiv (ts:List (List Rat)) (m r:Nat) (ht:a49 ts m r) (hm:m <= 5) (R:List AV) (hR:∀ j, j < m -> R[j]? = some (nA (ts.getD j []))) (k:Nat):∀ (j:Nat) (a b:List Rat) (e f:Nat), j <= m -> j <= k -> Nl j a -> Nl j b -> Cb e a -> Cb f b -> e + f + eB r j < 4398046511104 ->
  FnC prog 211 [.agg [.lst 1 R],nA a,nA b] (nA (rT ts k a b)):=by
 induction k using Nat.strongRecOn
 rename_i k ih
 intro j a b e f hj hjk ha hb ca cb hs
 obtain ⟨nx,dx⟩:=ao6 ha (by omega)
 obtain ⟨ny,dy⟩:=ao6 hb (by omega)
 have cx:Cb e (aar 5 a):=ca.sub (fun q hq=>ah6 5 hq)
 have cy:Cb f (aar 5 b):=cb.sub (fun q hq=>ah6 5 hq)
 have k1:=afc a (by omega) ha
 have k2:=afc b (by omega) hb
 rw [<- ajl ha (by omega)] at k1
 rw [<- ajl hb (by omega)] at k2
 obtain ⟨x,hx⟩:∃ x,x = aar 5 a:=⟨_,rfl⟩
 obtain ⟨y,hy⟩:∃ y,y = aar 5 b:=⟨_,rfl⟩
 rw [<- hx] at k1 nx dx cx
 rw [<- hy] at k2 ny dy cy
 have hlx:=nx.len5 (by omega)
 have hly:=ny.len5 (by omega)
 obtain ⟨n,hn⟩:∃ n,n = max x.length y.length:=⟨_,rfl⟩
 refine gF0 func211 ?_
 refine gc k1 ?_
 refine gc k2 ?_
 refine gl ?_
 refine gl ?_
 refine gs (a27 (.tmp rfl) (.tmp rfl) rfl) ?_ (3,0)
 refine gW (Wk.of (sl:=[(1,some (nA x)),(2,some (nA y)),(3,some (.ptr 3 0)),(7,some (i64 n))]) (hp:=[(3,some (.box [.lst 1 R]))]) (.k (.k (.k (.cons rfl (Sub.int (by omega)) .nil)))) (.cons rfl (.refl _) .nil)) ?_
 refine gl ?_
 refine glG ?_
 refine gC (fun ht32=>?_) (fun ht32=>?_)
 ·have h0 : x.length = 0 \/ y.length = 0 := by have := azs ht32; omega
  refine gR ?_
  exact adc (by rw [a7w (by rw [<- hx,<- hy]; exact h0)]; exact Sub.nil _ _ _)
 ·have h0 : ¬ (x.length = 0 \/ y.length = 0) := by have := att ht32; omega
  refine gC (fun ht34=>?_) (fun ht34=>?_)
  ·have h1 : max x.length y.length = 1 := by have := ht34; simp only [aaa, beq_iff_eq] at this; omega
   have e1:=be6 (ts:=ts) (k:=k) (a:=a) (b:=b) (by rw [<- hx,<- hy]; exact h0) (by rw [<- hx,<- hy]; exact h1)
   rw [<- hx,<- hy] at e1
   clear hx hy
   have lx1:x.length = 1:=by omega
   have ly1:y.length = 1:=by omega
   clear hn
   obtain ⟨p,rfl⟩:∃ p,x = [p]:=List.length_eq_one_iff.1 lx1
   obtain ⟨q,rfl⟩:∃ q,y = [q]:=List.length_eq_one_iff.1 ly1
   refine gi rfl ?_
   refine gi rfl ?_
   refine gc (axk (rt p) (rt q) (cx.qs (by omega) (by simp:p ∈ [p])).ok (cy.qs (by omega) (by simp:q ∈ [q])).ok) ?_
   refine gD ?_
   refine gE1 ?_
   rw [e1,agd,agd]; rfl
  ·have h1 : n ≠ 1 := by have := ht34; simp only [aaa, beq_eq_false_iff_ne, ne_eq] at this; omega
   obtain ⟨i,hij,hmax⟩:=(bfv nx ny h0).resolve_left (by omega)
   obtain ⟨k',rfl⟩:∃ k',k = k' + 1:=⟨k - 1,by omega⟩
   have hp2:=Nat.two_pow_pos i
   have hpi:2 ^ i <= 32:=abf (b:=5) (by omega)
   have hps:2 ^ (i + 1) = 2 * 2 ^ i:=by rw [Nat.pow_succ]; omega
   have hnn:n = 2 ^ (i + 1):=by omega
   have hes:eB r (i + 1) <= eB r j:=bfk r hij
   have hee:eB r (i + 1) = 2 * eB r i + r + 2:=rfl
   have lx:(aax x (2 ^ (i + 1))).length = 2 ^ (i + 1):=abg (by omega)
   have ly:(aax y (2 ^ (i + 1))).length = 2 ^ (i + 1):=abg (by omega)
   obtain ⟨X,hX⟩:∃ X,X = aax x (2 ^ (i + 1)):=⟨_,rfl⟩
   obtain ⟨Y,hY⟩:∃ Y,Y = aax y (2 ^ (i + 1)):=⟨_,rfl⟩
   have cX:Cb e X:=by rw [hX]; exact cx.wide
   have cY:Cb f Y:=by rw [hY]; exact cy.wide
   rw [<- hX] at lx
   rw [<- hY] at ly
   have n1:Nl i (X.take (2 ^ i)):=.inr ⟨i,le_refl _,adt lx⟩
   have n2:Nl i (X.drop (2 ^ i)):=.inr ⟨i,le_refl _,ad9 lx⟩
   have n3:Nl i (Y.take (2 ^ i)):=.inr ⟨i,le_refl _,adt ly⟩
   have n4:Nl i (Y.drop (2 ^ i)):=.inr ⟨i,le_refl _,ad9 ly⟩
   have nd:=ht.1 i (by omega)
   have cd:=ht.2.cb i
   have s1:=af3 hm ht (k:=k') (show i <= m by omega) (by omega) n1 n3 cX.take cY.take
   have s2:=af3 hm ht (k:=k') (show i <= m by omega) (by omega) n2 n4 cX.drop cY.drop
   have s3:=af3 hm ht (k:=k') (show i <= m by omega) (by omega) s2.1 nd s2.2.2 cd
   have s4:=af3 hm ht (k:=k') (show i <= m by omega) (by omega) n1 n4 cX.take cY.drop
   have s5:=af3 hm ht (k:=k') (show i <= m by omega) (by omega) n2 n3 cX.drop cY.take
   have hrt:=bbd (ts:=ts) (k:=k') (a:=a) (b:=b) rfl (by rw [<- hx,<- hy]; exact h0) (by rw [<- hx,<- hy]; exact hmax)
   rw [<- hx,<- hy,<- hX,<- hY] at hrt
   have w1:=agi x n (by omega) (by omega)
   have w2:=agi y n (by omega) (by omega)
   rw [hnn,<- hX] at w1
   rw [hnn,<- hY] at w2
   rw [<- hnn] at w1 w2
   have pw:=agu n (by omega)
   rw [show pwk n = i + 1 by rw [hnn]; exact (aug (by omega)).1,show pwb n = true by rw [hnn]; exact (aug (by omega)).2] at pw
   refine gc w1 ?_
   refine gc w2 ?_
   refine gc pw ?_
   refine gs (aee (.tmp rfl) (.const _) (by omega) (show _ = ((2 ^ i:Nat):Int) by rw [acj (by omega),hnn,ab5]) rfl) ?_
   refine gs (aaq (.tmp rfl) (.none _) (.some _ (.tmp rfl) (by omega)) T65 rfl T70 rfl (by omega) (by simp only [length_map]; omega) rfl) ?_
   refine gs (aee (.tmp rfl) (.const _) (by omega) (show _ = ((2 ^ i:Nat):Int) by rw [acj (by omega),hnn,ab5]) rfl) ?_
   refine gs (aaq (.tmp rfl) (.some _ (.tmp rfl) (by omega)) (.none _) T65 rfl T70 rfl (by simp only [length_map]; omega) (by omega) rfl) ?_
   refine gs (aee (.tmp rfl) (.const _) (by omega) (show _ = ((2 ^ i:Nat):Int) by rw [acj (by omega),hnn,ab5]) rfl) ?_
   refine gs (aaq (.tmp rfl) (.none _) (.some _ (.tmp rfl) (by omega)) T65 rfl T70 rfl (by omega) (by simp only [length_map]; omega) rfl) ?_
   refine gs (aee (.tmp rfl) (.const _) (by omega) (show _ = ((2 ^ i:Nat):Int) by rw [acj (by omega),hnn,ab5]) rfl) ?_
   refine gs (aaq (.tmp rfl) (.some _ (.tmp rfl) (by omega)) (.none _) T65 rfl T70 rfl (by simp only [length_map]; omega) (by omega) rfl) ?_
   refine gD ?_ (10,0)
   refine gW (Wk.of (sl:=[(3,some (.ptr 3 0)),(7,some (i64 n)),(8,some (i64 ((i + 1:Nat):Int))),(10,some (nA (X.take (2 ^ i)))),(11,some (nA (X.drop (2 ^ i)))),(12,some (nA (Y.take (2 ^ i)))),(13,some (nA (Y.drop (2 ^ i))))]) (hp:=[(3,some (.box [.lst 1 R]))]) (.k (.k (.k (.cons rfl (Sub.of (ajr X (2 ^ i))) (.cons rfl (Sub.of (ag0 X (2 ^ i))) (.cons rfl (Sub.of (ajr Y (2 ^ i))) (.cons rfl (Sub.of (ag0 Y (2 ^ i))) .nil))))))) (.cons rfl (.refl _) .nil)) ?_
   refine gc (ih k' (by omega) i _ _ e f (by omega) (by omega) n1 n3 cX.take cY.take (by omega)) ?_
   refine gc (ih k' (by omega) i _ _ e f (by omega) (by omega) n2 n4 cX.drop cY.drop (by omega)) ?_
   refine ga (show _ = (i:Int) by rw [abc (by omega)]; omega) ?_
   refine gi (hR i (by omega)) ?_
   refine gc (ih k' (by omega) i _ _ _ _ (by omega) (by omega) s2.1 nd s2.2.2 cd (by omega)) ?_
   refine gc (agh _ _ (fun q hq=>s1.2.2.qs (by omega) hq) (fun q hq=>s3.2.2.qs (by omega) hq) (by have:=s1.1.le; omega) (by have:=s3.1.le; omega)) ?_
   refine gD ?_
   refine gc (ih k' (by omega) i _ _ e f (by omega) (by omega) n1 n4 cX.take cY.drop (by omega)) ?_
   refine gc (ih k' (by omega) i _ _ e f (by omega) (by omega) n2 n3 cX.drop cY.take (by omega)) ?_
   refine gc (agh _ _ (fun q hq=>s4.2.2.qs (by omega) hq) (fun q hq=>s5.2.2.qs (by omega) hq) (by have:=s4.1.le; omega) (by have:=s5.1.le; omega)) ?_
   refine gD ?_
   refine gs (aee (.tmp rfl) (.const _) (by omega) (show _ = ((2 ^ i:Nat):Int) by rw [acj (by omega),hnn,ab5]) rfl) ?_
   refine gt (aad (ak3 900 rfl _ (2 ^ i) (by have:=s1.1.le; have:=s3.1.le; rw [abm]; omega) (by omega)) (.cons (.tmp rfl) (.cons (.tmp rfl) .nil)) (by first | exact hH0 | exact hH1 rfl | exact hH2 rfl rfl) rfl rfl) ?_
   refine gs (aee (.tmp rfl) (.const _) (by omega) (show _ = ((2 ^ i:Nat):Int) by rw [acj (by omega),hnn,ab5]) rfl) ?_
   refine gc (agi _ (2 ^ i) (by have:=s4.1.le; have:=s5.1.le; rw [abm]; omega) (by omega)) ?_
   refine gs (agl (.tmp rfl) rfl (by have:=s1.1.le; have:=s3.1.le; rw [length_map,abg (by rw [abm]; omega)]) (.tmp rfl) T65 rfl T70 rfl rfl (by have:=s4.1.le; have:=s5.1.le; rw [length_map,abg (by rw [abm]; omega)]; show (2 ^ i + 2 ^ i) * 56 <= 140737488355328; omega) rfl rfl) ?_
   refine gE1 ?_
   rw [hrt,<- map_append]; rfl
theorem a22 (ts:List (List Rat)) (m r:Nat) (ht:a49 ts m r) (hm:m <= 5) (R:List AV) (hR:∀ j, j < m -> R[j]? = some (nA (ts.getD j []))) (i n:Nat) (a:List Rat) (e:Nat) (hi:i + 1 <= m) (hnn:n = 2 ^ (i + 1)) (hal:a.length = 2 ^ (i + 1)) (ca:Cb e a) (hs:4 * e + 3 * eB r i + r + 1 < 4398046511104) :
  FnC prog 208 [.agg [.lst 1 R],nA a,i64 n] (nA (aq1 ts i a)):=by
 have hp2:=Nat.two_pow_pos i
 have hpi:2 ^ i <= 32:=abf (b:=5) (by omega)
 have hps:2 ^ (i + 1) = 2 * 2 ^ i:=by rw [Nat.pow_succ]; omega
 have n1:Nl i (a.take (2 ^ i)):=.inr ⟨i,le_refl _,adt hal⟩
 have n2:Nl i (a.drop (2 ^ i)):=.inr ⟨i,le_refl _,ad9 hal⟩
 have nd:=ht.1 i (by omega)
 have cd:=ht.2.cb i
 have s1:=af3 hm ht (k:=i) (show i <= m by omega) (by omega) n1 n1 ca.take ca.take
 have s2:=af3 hm ht (k:=i) (show i <= m by omega) (by omega) n2 n2 ca.drop ca.drop
 have s3:=af3 hm ht (k:=i) (show i <= m by omega) (by omega) s2.1 nd s2.2.2 cd
 have w1:=agi a n (by omega) (by omega)
 rw [show aax a n = a by unfold aax; rw [hnn,hal]; simp] at w1
 have pw:=agu n (by omega)
 rw [show pwk n = i + 1 by rw [hnn]; exact (aug (by omega)).1,show pwb n = true by rw [hnn]; exact (aug (by omega)).2] at pw
 refine gF0 func208 ?_
 refine gc w1 ?_
 refine gc pw ?_
 refine gs (aee (.tmp rfl) (.const _) (by omega) (show _ = ((2 ^ i:Nat):Int) by rw [acj (by omega),hnn,ab5]) rfl) ?_
 refine gs (aaq (.tmp rfl) (.none _) (.some _ (.tmp rfl) (by omega)) T65 rfl T70 rfl (by omega) (by simp only [length_map]; omega) rfl) ?_
 refine gs (aee (.tmp rfl) (.const _) (by omega) (show _ = ((2 ^ i:Nat):Int) by rw [acj (by omega),hnn,ab5]) rfl) ?_
 refine gs (aaq (.tmp rfl) (.some _ (.tmp rfl) (by omega)) (.none _) T65 rfl T70 rfl (by simp only [length_map]; omega) (by omega) rfl) ?_
 refine gD ?_ (4,0)
 refine gW (Wk.of (sl:=[(3,some (.ptr 3 0)),(7,some (i64 ((i + 1:Nat):Int))),(9,some (nA (a.take (2 ^ i)))),(10,some (nA (a.drop (2 ^ i))))]) (hp:=[(3,some (.box [.lst 1 R]))]) (.k (.k (.cons rfl (Sub.of (ajr a (2 ^ i))) (.cons rfl (Sub.of (ag0 a (2 ^ i))) .nil)))) (.cons rfl (.refl _) .nil)) ?_
 refine gc (aiv ts m r ht hm R hR i i _ _ e e (by omega) (by omega) n1 n1 ca.take ca.take (by omega)) ?_
 refine gc (aiv ts m r ht hm R hR i i _ _ e e (by omega) (by omega) n2 n2 ca.drop ca.drop (by omega)) ?_
 refine ga (show _ = (i:Int) by rw [abc (by omega)]; omega) ?_
 refine gi (hR i (by omega)) ?_
 refine gc (aiv ts m r ht hm R hR i i _ _ _ _ (by omega) (by omega) s2.1 nd s2.2.2 cd (by omega)) ?_
 refine gc (ans _ (fun q hq=>s3.2.2.qs (by omega) hq) (by have:=s3.1.le; omega)) ?_
 refine gc (agh _ _ (fun q hq=>s1.2.2.qs (by omega) hq) (fun q hq=>s3.2.2.minus.qs (by omega) hq) (by have:=s1.1.le; omega) (by have:=s3.1.le; rw [acx]; omega)) ?_
 refine gD ?_
 refine gE1 ?_
 rfl
theorem amx (ts:List (List Rat)) (m r:Nat) (ht:a49 ts m r) (hm:m <= 5) (hpos:∀ j, j < m -> 0 <= T.sgn (aan ts) j (aan ts j)) (R:List AV) (hR:∀ j, j < m -> R[j]? = some (nA (ts.getD j []))) (j:Nat):∀ (a:List Rat) (e:Nat), j <= m -> Nl j a -> Cb e a -> sB r j e < 4398046511104 ->
  FnC prog 125 [.agg [.lst 1 R],nA a] (i64 (T.sgn (aan ts) j (dec j a))):=by
 induction j using Nat.strongRecOn
 rename_i j ih
 intro a e hj ha ca hs
 have hse:=a5h r j e
 obtain ⟨s,hsa⟩:∃ s,s = sh j (dec j a):=⟨_,rfl⟩
 have hsd:dec j s = dec j a:=by rw [hsa,aby]
 have hsn:Nl j s:=by rw [hsa]; exact ang j _
 have cs:Cb e s:=by rw [hsa]; exact ca.sh ha
 have hls:=hsn.len5 (by omega)
 rw [<- hsd]
 refine gF0 func125 ?_
 refine gc (hsa ▸ afc a (by omega) ha) ?_
 refine gl ?_
 refine gC (fun ht15=>?_) (fun ht15=>?_)
 ·have h1 : s = [] := List.length_eq_zero_iff.1 (by have := ht15; simp only [aaa, beq_iff_eq] at this; omega)
  refine gE1 ?_
  rw [h1,agm,T.sgn_zero]; rfl
 ·have h1 : s.length ≠ 0 := by have := ht15; simp only [aaa, beq_eq_false_iff_ne, ne_eq] at this; omega
  refine gl ?_
  refine gC (fun ht19=>?_) (fun ht19=>?_)
  ·have h2 : s.length = 1 := by have := ht19; simp only [aaa, beq_iff_eq] at this; omega
   obtain ⟨q,rfl⟩:=List.length_eq_one_iff.1 h2
   refine gi rfl ?_
   refine gc (aj2 (rt q) (cs.qs (by omega) (by simp:q ∈ [q])).ok) ?_
   refine gE1 ?_
   rw [am7,T.sgn_ofQ,agd]
  ·have h2 : s.length ≠ 1 := by have := ht19; simp only [aaa, beq_eq_false_iff_ne, ne_eq] at this; omega
   obtain ⟨i, hij, hsl⟩:∃ i, i + 1 <= j /\ s.length = 2 ^ (i + 1):=by
    rcases akb hsn with h | h | h
    ·exact absurd h h1
    ·exact absurd h h2
    ·exact h
   have hp2:=Nat.two_pow_pos i
   have hpi:2 ^ i <= 32:=abf (b:=5) (by omega)
   have hps:2 ^ (i + 1) = 2 * 2 ^ i:=by rw [Nat.pow_succ]; omega
   have n1:Nl i (s.take (2 ^ i)):=.inr ⟨i,le_refl _,adt hsl⟩
   have n2:Nl i (s.drop (2 ^ i)):=.inr ⟨i,le_refl _,ad9 hsl⟩
   have nd:=ht.1 i (by omega)
   have cd:=ht.2.cb i
   obtain ⟨nn,dn,cn⟩:=azi hm ht (by omega) hsl cs
   have b1:sB r i (4 * e + 3 * eB r i + r + 1) <= sB r j e:=a1z r e hij
   have b2:sB r i e <= sB r i (4 * e + 3 * eB r i + r + 1):=anf r i (by omega)
   have b3:sB r i r <= sB r i (4 * e + 3 * eB r i + r + 1):=anf r i (by omega)
   have b4:=a5h r i (4 * e + 3 * eB r i + r + 1)
   have k1:=ih i (by omega) (s.take (2 ^ i)) e (by omega) n1 cs.take (by omega)
   have k2:=ih i (by omega) (s.drop (2 ^ i)) e (by omega) n2 cs.drop (by omega)
   have k3:=ih i (by omega) _ r (by omega) nd cd (by omega)
   have k4:=ih i (by omega) _ _ (by omega) nn cn (by omega)
   have v3:T.sgn (aan ts) i (dec i (ts.getD i [])) = 0 \/ T.sgn (aan ts) i (dec i (ts.getD i [])) = 1:=by
    have h9:0 <= T.sgn (aan ts) i (dec i (ts.getD i [])):=hpos i (by omega)
    have:=T.sgn_cases (aan ts) i (dec i (ts.getD i []))
    omega
   have hres:T.sgn (aan ts) j (dec j s) = T.sgn3 (T.sgn (aan ts) i (dec i (s.take (2 ^ i)))) (T.sgn (aan ts) i (dec i (s.drop (2 ^ i)))) (T.sgn (aan ts) i (dec i (ts.getD i []))) (T.sgn (aan ts) i (dec i (aq1 ts i s))):=by
    rw [a6h _ (by omega) hij,dn]; rfl
   rw [bb4 v3] at hres
   have v1:=T.sgn_cases (aan ts) i (dec i (s.take (2 ^ i)))
   have v2:=T.sgn_cases (aan ts) i (dec i (s.drop (2 ^ i)))
   have v4:=T.sgn_cases (aan ts) i (dec i (aq1 ts i s))
   have pw:=agu s.length (by omega)
   rw [show pwk s.length = i + 1 by rw [hsl]; exact (aug (by omega)).1,show pwb s.length = true by rw [hsl]; exact (aug (by omega)).2] at pw
   refine gc pw ?_
   refine ga (show _ = (i:Int) by rw [abc (by omega)]; omega) ?_
   refine gi (hR i (by omega)) ?_
   refine gs (aee (.tmp rfl) (.const _) (by omega) (show _ = ((2 ^ i:Nat):Int) by rw [acj (by omega),hsl,ab5]) rfl) ?_
   refine gs (aaq (.tmp rfl) (.none _) (.some _ (.tmp rfl) (by omega)) T65 rfl T70 rfl (by omega) (by simp only [length_map]; omega) rfl) ?_
   refine gc (by have h9:=k1; rw [<- ajr] at h9; exact h9) ?_
   refine gs (aee (.tmp rfl) (.const _) (by omega) (show _ = ((2 ^ i:Nat):Int) by rw [acj (by omega),hsl,ab5]) rfl) ?_
   refine gs (aaq (.tmp rfl) (.some _ (.tmp rfl) (by omega)) (.none _) T65 rfl T70 rfl (by simp only [length_map]; omega) (by omega) rfl) ?_
   refine gc (by have h9:=k2; rw [<- ag0] at h9; exact h9) ?_
   refine gc k3 ?_
   refine ga (apz v2 (.inr v3)) ?_
   refine gD ?_
   refine gC (fun ht57=>?_) (fun ht57=>?_)
   ·have e2:=azs ht57
    refine gE1 ?_
    rw [hres,if_pos e2]
   ·have e2:=att ht57
    refine gC (fun ht60=>?_) (fun ht60=>?_)
    ·have e3 : T.sgn (aan ts) i (dec i (s.take (2 ^ i))) = 0 := by simpa [aaa] using ht60
     refine gE1 ?_
     rw [hres,if_neg e2,if_pos e3]; rfl
    ·have e3 : ¬ T.sgn (aan ts) i (dec i (s.take (2 ^ i))) = 0 := by simpa [aaa] using ht60
     refine gc (a22 ts m r ht hm R hR i s.length s e (by omega) hsl hsl cs (by omega)) ?_
     refine gc k4 ?_
     refine ga (apz v1 v4) ?_
     refine gD ?_
     refine gE1 ?_
     rw [hres,if_neg e2,if_neg e3]; rfl
theorem aq6 (rs:List (List Rt)) (r:Nat) (h:TR rs r):FnC prog 110 [ae5 rs] (i64 (aeb rs)):=by
 have hll:=h.ll
 have hr:=h.le
 refine gF0 func110 ?_
 refine gl ?_
 refine gC (fun ht9=>?_) (fun ht9=>?_)
 ·have h5 : 5 < rs.length := by have := ht9; simp only [aaa, decide_eq_true_eq] at this; omega
  refine gE1 ?_
  rw [a1x h5]; rfl
 ·have h5 : rs.length <= 5 := by have := ht9; simp only [aaa, decide_eq_false_iff_not] at this; omega
  refine gl ?_
  refine gL1 [1,11,12] [1] (fun (k:Nat)=>[(13,some (i64 k))]) (fun _=>[]) (fun k=>k <= rs.length /\ ∀ j,j < k -> a0f rs j) (fun k=>rs.length - k) 0 ⟨zero_le _,fun j hj=>by omega⟩ ?_
  rintro k ⟨hk,hj⟩ K1 hK1
  refine gC (fun ht14=>?_) (fun ht14=>?_)
  ·have hin : k < rs.length := by simpa [aaa] using ht14
   obtain ⟨d,hd⟩:=abt hin
   have hdm:=mem_of_getElem? hd
   have hdl:=h.len d hdm
   refine gi (aae hd) ?_
   refine gl ?_
   refine gs (ag5 (.const _) (.tmp rfl) (by omega) (aj9 (by omega)) rfl) ?_
   refine gC (fun ht22=>?_) (fun ht22=>?_)
   ·have h1 : d.length ≠ 2 ^ k := by have := ht22; simp only [aaa, bne_iff_ne, ne_eq] at this; omega
    refine gE1 ?_
    rw [a1e h5 hd hj h1]; rfl
   ·have h1 : d.length = 2 ^ k := by have := ht22; simp only [aaa, bne_eq_false_iff_eq] at this; omega
    have hnu:=an7 k (by omega) d (h.ok d hdm) hdl
    refine gc hnu ?_
    refine gC (fun ht27=>?_) (fun ht27=>?_)
    ·have h2:=af6 ht27
     refine gE1 ?_
     rw [a2v h5 hd hj h1 h2]
    ·have h2:=af0 ht27
     have hts:=aw3 (ts:=llq rs) (fun j hjk=>(hj j hjk).nl) h.rb
     have hq:=atp h2 (h.ok d hdm)
     have hcb:Cb r (lq d):=by have:=h.rb.cb k; rw [ami,getD_eq_getElem?_getD,hd] at this; exact this
     have hsg:FnC prog 125 [ae5 rs, nR d] (i64 (T.sgn (aan (llq rs)) k (dec k (lq d)))):=by
      have h9:=amx ((llq rs).take k) k r hts (by omega) (fun j hjk=>by rw [T.sgn_congr j (fun i hi=>ajy (show i < k by omega)),ajy hjk]; exact (hj j hjk).2.2) (rs.map nR) (fun j hjk=>bh2 h.ok (show k <= rs.length by omega) hj hjk) k (lq d) r (le_refl _) hq.2 hcb (a3v (le_refl k) (by have:=h.three; omega) hr (by have:=aea k; omega))
      rw [T.sgn_congr k (fun j hjk=>ajy hjk)] at h9
      rw [hq.1,af5]
      rw [<- hq.1]; exact h9
     refine gc hsg ?_
     refine gC (fun ht32=>?_) (fun ht32=>?_)
     ·have h3 : T.sgn (aan (llq rs)) k (dec k (lq d)) < 0 := by simpa [aaa] using ht32
      refine gE1 ?_
      rw [a1h h5 hd hj h1 h2 h3]; rfl
     ·have h3 : ¬ T.sgn (aan (llq rs)) k (dec k (lq d)) < 0 := by simpa [aaa] using ht32
      refine ga aat ?_
      exact gK1 hK1 (k + 1) ⟨hin,fun j hjk=>by rcases lt_or_ge j k with h9 | h9; exact hj j h9; (have:j = k:=by omega); subst this; exact a8g hd h1 h2 h3⟩
  ·have hin : k = rs.length := by have : rs.length <= k := (by simpa [aaa] using ht14); omega
   subst hin
   refine gE1 ?_
   rw [a1o h5 hj]; rfl
theorem aer (rs:List (List Rt)) (r:Nat) (h:TR rs r) (xs:List (List Rt)) (hx:∀ a ∈ xs, (∀ x ∈ a, x.ok) /\ a.length <= 281474976710656) (hl:xs.length <= 281474976710656):FnC prog 124 [ae5 rs, .lst 1 (xs.map nR)] (i64 (aaz rs xs)):=by
 refine gF0 func124 ?_
 refine gc (aq6 rs r h) ?_
 refine gC (fun ht12=>?_) (fun ht12=>?_)
 ·have h1:=af6 ht12
  refine gE1 ?_
  rw [atr h1]
 ·have h1:=af0 ht12
  have h5:rs.length <= 5:=by have:=(ab3 h h1).1.five; rwa [length_map] at this
  refine gl ?_
  refine gL1 [2,14,15] [2] (fun (i:Nat)=>[(16,some (i64 i))]) (fun _=>[]) (fun i=>i <= xs.length /\ ∀ x ∈ xs.take i,agk rs.length x = 0) (fun i=>xs.length - i) 0 ⟨zero_le _,fun x hx=>by simp at hx⟩ ?_
  rintro i ⟨hi,hj⟩ K1 hK1
  refine gC (fun ht17=>?_) (fun ht17=>?_)
  ·have hin : i < xs.length := by simpa [aaa] using ht17
   obtain ⟨a,ha⟩:=abt hin
   have hok:=hx a (mem_of_getElem? ha)
   refine gi (aae ha) ?_
   refine gl ?_
   refine gc (an7 rs.length h5 a hok.1 hok.2) ?_
   refine gC (fun ht26=>?_) (fun ht26=>?_)
   ·have h2:=af6 ht26
    refine gE1 ?_
    rw [apl h1 ha hj h2]
   ·have h2:=af0 ht26
    refine ga aat ?_
    exact gK1 hK1 (i + 1) ⟨hin,fun x hx=>by rw [aao ha] at hx; rcases List.mem_append.1 hx with h9 | h9; exact hj x h9; (rw [List.mem_singleton.1 h9]; exact h2)⟩
  ·have hin : i = xs.length := by have : xs.length <= i := (by simpa [aaa] using ht17); omega
   subst hin
   rw [take_length] at hj
   refine gE1 ?_
   rw [ai6 h1 hj]; rfl
theorem a6w (rs:List (List Rt)) (r:Nat) (h:TR rs r) (a b:List Rt) (e f:Nat) (ha:NR a e) (hb:NR b f) (he:e + f <= lm rs.length) :
  FnC prog 200 [ae5 rs,nR a,nR b] (.tup [nA (if aaz rs [a,b] = 0 then sh rs.length (T.add rs.length (dec rs.length (lq a)) (dec rs.length (lq b))) else []),i64 (aaz rs [a,b])]):=by
 have hlm:=aln rs.length
 refine gF0 func200 ?_
 refine gc (aer rs r h [a,b] (an6 ha hb) (by simp)) ?_
 refine gC (fun ht15=>?_) (fun ht15=>?_) (st2:=(77777,0))
 ·have h1:=af6 ht15
  refine gR ?_
  exact ac3 (by rw [if_neg h1]; exact Sub.tup (.cons (.nil _ _ _) (.cons (.refl _) .nil)))
 ·have h1:=af0 ht15
  obtain ⟨h2,h3⟩:=ado h1
  obtain ⟨tw,e0⟩:=ab3 h h2
  obtain ⟨e1,na⟩:=ha.num (h3 a (by simp))
  obtain ⟨e2,nb⟩:=hb.num (h3 b (by simp))
  have h5:rs.length <= 5:=by have:=tw.five; rwa [length_map] at this
  have hla:=na.len5 h5
  have hlb:=nb.len5 h5
  have qa:∀ q ∈ lq a,Qs q:=fun q hq=>ha.cb.qs (by omega) hq
  have qb:∀ q ∈ lq b,Qs q:=fun q hq=>hb.cb.qs (by omega) hq
  have qp:∀ q ∈ acz (lq a) (lq b),Qs q:=fun q hq=>(ha.cb.plus hb.cb).qs (by omega) hq
  have np:=aii na nb
  refine gW (Wk.of (sl:=[(1,some (nA (lq a))),(2,some (nA (lq b))),(3,some (.ptr 3 0)),(8,some (i64 (aaz rs [a,b])))]) (hp:=[(3,some (.box [.lst 1 (rs.map nR)]))]) (.cons rfl (Sub.of e1) (.cons rfl (Sub.of e2) (.k (.k .nil)))) (.cons rfl (.refl _) .nil)) ?_
  refine gc (agh _ _ qa qb (by omega) (by omega)) ?_
  refine gc (afc _ h5 np) ?_
  refine gE2 ?_
  rw [if_pos h1,h1,ada]; rfl
theorem a8n (rs:List (List Rt)) (r:Nat) (h:TR rs r) (a b:List Rt) (e f:Nat) (ha:NR a e) (hb:NR b f) (he:e + f <= lm rs.length) :
  FnC prog 111 [ae5 rs,nR a,nR b] (.tup [nA (if aaz rs [a,b] = 0 then sh rs.length (T.add rs.length (dec rs.length (lq a)) (T.neg rs.length (dec rs.length (lq b)))) else []),i64 (aaz rs [a,b])]):=by
 have hlm:=aln rs.length
 refine gF0 func111 ?_
 refine gc (aer rs r h [a,b] (an6 ha hb) (by simp)) ?_
 refine gC (fun ht15=>?_) (fun ht15=>?_) (st2:=(77777,0))
 ·have h1:=af6 ht15
  refine gR ?_
  exact ac3 (by rw [if_neg h1]; exact Sub.tup (.cons (.nil _ _ _) (.cons (.refl _) .nil)))
 ·have h1:=af0 ht15
  obtain ⟨h2,h3⟩:=ado h1
  obtain ⟨tw,e0⟩:=ab3 h h2
  obtain ⟨e1,na⟩:=ha.num (h3 a (by simp))
  obtain ⟨e2,nb⟩:=hb.num (h3 b (by simp))
  have h5:rs.length <= 5:=by have:=tw.five; rwa [length_map] at this
  have hla:=na.len5 h5
  have hlb:=nb.len5 h5
  have qa:∀ q ∈ lq a,Qs q:=fun q hq=>ha.cb.qs (by omega) hq
  have qb:∀ q ∈ lq b,Qs q:=fun q hq=>hb.cb.qs (by omega) hq
  have qm:∀ q ∈ ab7 (lq b),Qs q:=fun q hq=>hb.cb.minus.qs (by omega) hq
  have qp:∀ q ∈ acz (lq a) (ab7 (lq b)),Qs q:=fun q hq=>(ha.cb.plus hb.cb.minus).qs (by omega) hq
  have np:=aii na (ag7 nb)
  refine gW (Wk.of (sl:=[(1,some (nA (lq a))),(2,some (nA (lq b))),(3,some (.ptr 3 0)),(8,some (i64 (aaz rs [a,b])))]) (hp:=[(3,some (.box [.lst 1 (rs.map nR)]))]) (.cons rfl (Sub.of e1) (.cons rfl (Sub.of e2) (.k (.k .nil)))) (.cons rfl (.refl _) .nil)) ?_
  refine gc (ans _ qb (by omega)) ?_
  refine gc (agh _ _ qa qm (by omega) (by rw [acx]; omega)) ?_
  refine gc (afc _ h5 np) ?_
  refine gE2 ?_
  rw [if_pos h1,h1,ada,aex]; rfl
theorem a5f (rs:List (List Rt)) (r:Nat) (h:TR rs r) (a b:List Rt) (e f:Nat) (ha:NR a e) (hb:NR b f) (he:e + f <= lm rs.length) :
  FnC prog 128 [ae5 rs,nR a,nR b] (.tup [nA (if aaz rs [a,b] = 0 then sh rs.length (T.mul (aan (llq rs)) rs.length (dec rs.length (lq a)) (dec rs.length (lq b))) else []),i64 (aaz rs [a,b])]):=by
 have hr:=h.le
 have hlm:=aln rs.length
 refine gF0 func128 ?_
 refine gc (aer rs r h [a,b] (an6 ha hb) (by simp)) ?_
 refine gC (fun ht15=>?_) (fun ht15=>?_) (st2:=(77777,0))
 ·have h1:=af6 ht15
  refine gR ?_
  exact ac3 (by rw [if_neg h1]; exact Sub.tup (.cons (.nil _ _ _) (.cons (.refl _) .nil)))
 ·have h1:=af0 ht15
  obtain ⟨h2,h3⟩:=ado h1
  obtain ⟨tw,e0⟩:=ab3 h h2
  obtain ⟨e1,na⟩:=ha.num (h3 a (by simp))
  obtain ⟨e2,nb⟩:=hb.num (h3 b (by simp))
  have hlen:(llq rs).length = rs.length:=length_map _
  have h5:rs.length <= 5:=by have:=tw.five; omega
  have hla:=na.len5 h5
  have hlb:=nb.len5 h5
  have htw:=tw.ok
  rw [hlen] at htw
  have hE:=a95 r h5
  have np:=af3 h5 htw (k:=rs.length) (le_refl rs.length) (le_refl _) na nb ha.cb hb.cb
  have hti:=aiv (llq rs) rs.length r htw h5 ((llq rs).map nA) (fun j hj=>as3 (by omega)) rs.length rs.length _ _ e f (le_refl _) (le_refl _) na nb ha.cb hb.cb (by omega)
  refine gW (Wk.of (sl:=[(1,some (nA (lq a))),(2,some (nA (lq b))),(3,some (.ptr 3 0)),(8,some (i64 (aaz rs [a,b])))]) (hp:=[(3,some (.box [.lst 1 ((llq rs).map nA)]))]) (.cons rfl (Sub.of e1) (.cons rfl (Sub.of e2) (.k (.k .nil)))) (.cons rfl (BlkSub.boxL (.cons (.of (anw e0)) .nil) rfl) .nil)) ?_
  refine gc hti ?_
  refine gc (afc _ h5 np.1) ?_
  refine gE2 ?_
  rw [if_pos h1,h1,np.2.1]; rfl
theorem bbc (rs:List (List Rt)) (r:Nat) (h:TR rs r) (a b:List Rt) (e f:Nat) (ha:NR a e) (hb:NR b f) (he:e + f + 1 <= lm rs.length) :
  FnC prog 58 [ae5 rs,nR a,nR b] (.tup [i64 (if aaz rs [a,b] = 0 then T.sgn (aan (llq rs)) rs.length (T.add rs.length (dec rs.length (lq a)) (T.neg rs.length (dec rs.length (lq b)))) else 0),i64 (aaz rs [a,b])]):=by
 have hr:=h.le
 have hlm:=aln rs.length
 refine gF0 func58 ?_
 refine gc (aer rs r h [a,b] (an6 ha hb) (by simp)) ?_
 refine gC (fun ht15=>?_) (fun ht15=>?_) (st2:=(77777,0))
 ·have h1:=af6 ht15
  refine gE2 ?_
  rw [if_neg h1]; rfl
 ·have h1:=af0 ht15
  obtain ⟨h2,h3⟩:=ado h1
  obtain ⟨tw,e0⟩:=ab3 h h2
  obtain ⟨e1,na⟩:=ha.num (h3 a (by simp))
  obtain ⟨e2,nb⟩:=hb.num (h3 b (by simp))
  have hlen:(llq rs).length = rs.length:=length_map _
  have h5:rs.length <= 5:=by have:=tw.five; omega
  have hla:=na.len5 h5
  have hlb:=nb.len5 h5
  have htw:=tw.ok
  rw [hlen] at htw
  have qa:∀ q ∈ lq a,Qs q:=fun q hq=>ha.cb.qs (by omega) hq
  have qb:∀ q ∈ lq b,Qs q:=fun q hq=>hb.cb.qs (by omega) hq
  have qm:∀ q ∈ ab7 (lq b),Qs q:=fun q hq=>hb.cb.minus.qs (by omega) hq
  have np:=aii na (ag7 nb)
  have hsg:=amx (llq rs) rs.length r htw h5 (fun j hj=>tw.pos j (by omega)) ((llq rs).map nA) (fun j hj=>as3 (by omega)) rs.length _ _ (le_refl _) np (ha.cb.plus hb.cb.minus) (a3v (le_refl rs.length) (by have:=tw.three; omega) hr (by omega))
  refine gW (Wk.of (sl:=[(1,some (nA (lq a))),(2,some (nA (lq b))),(3,some (.ptr 3 0)),(8,some (i64 (aaz rs [a,b])))]) (hp:=[(3,some (.box [.lst 1 ((llq rs).map nA)]))]) (.cons rfl (Sub.of e1) (.cons rfl (Sub.of e2) (.k (.k .nil)))) (.cons rfl (BlkSub.boxL (.cons (.of (anw e0)) .nil) rfl) .nil)) ?_
  refine gc (ans _ qb (by omega)) ?_
  refine gc (agh _ _ qa qm (by omega) (by rw [acx]; omega)) ?_
  refine gc hsg ?_
  refine gD ?_
  refine gE2 ?_
  rw [if_pos h1,h1,ada,aex]; rfl
theorem a4h (rs:List (List Rt)) (r:Nat) (h:TR rs r) (a:List Rt) (e:Nat) (ha:NR a e) (he:e <= lm rs.length) :
  FnC prog 104 [ae5 rs,nR a] (.tup [i64 (if aaz rs [a] = 0 then T.sgn (aan (llq rs)) rs.length (dec rs.length (lq a)) else 0),i64 (aaz rs [a])]):=by
 have hr:=h.le
 have hlm:=aln rs.length
 refine gF0 func104 ?_
 refine gc (aer rs r h [a] (fun x hx=>by rw [List.mem_singleton.1 hx]; exact ⟨ha.ok,ha.len⟩) (by simp)) ?_
 refine gC (fun ht12=>?_) (fun ht12=>?_) (st2:=(77777,0))
 ·have h1:=af6 ht12
  refine gE2 ?_
  rw [if_neg h1]; rfl
 ·have h1:=af0 ht12
  obtain ⟨h2,h3⟩:=ado h1
  obtain ⟨tw,e0⟩:=ab3 h h2
  obtain ⟨e1,na⟩:=ha.num (h3 a (by simp))
  have hlen:(llq rs).length = rs.length:=length_map _
  have h5:rs.length <= 5:=by have:=tw.five; omega
  have htw:=tw.ok
  rw [hlen] at htw
  have hsg:=amx (llq rs) rs.length r htw h5 (fun j hj=>tw.pos j (by omega)) ((llq rs).map nA) (fun j hj=>as3 (by omega)) rs.length _ _ (le_refl _) na ha.cb (a3v (le_refl rs.length) (by have:=tw.three; omega) hr (by omega))
  refine gW (Wk.of (sl:=[(1,some (nA (lq a))),(2,some (.ptr 2 0)),(6,some (i64 (aaz rs [a])))]) (hp:=[(2,some (.box [.lst 1 ((llq rs).map nA)]))]) (.cons rfl (Sub.of e1) (.k (.k .nil))) (.cons rfl (BlkSub.boxL (.cons (.of (anw e0)) .nil) rfl) .nil)) ?_
  refine gc hsg ?_
  refine gE2 ?_
  rw [if_pos h1,h1]; rfl
theorem a3i (rs:List (List Rt)) (r:Nat) (h:TR rs r) (a:List Rt) (e:Nat) (ha:NR a e) (he:e <= lm rs.length) :
  FnC prog 184 [ae5 rs,nR a] (.tup [nA (if aaz rs [a] = 0 then aax (lq a) (2 ^ rs.length) else []),i64 (aaz rs [a])]):=by
 have hlm:=aln rs.length
 refine gF0 func184 ?_
 refine gc (aer rs r h [a] (fun x hx=>by rw [List.mem_singleton.1 hx]; exact ⟨ha.ok,ha.len⟩) (by simp)) ?_
 refine gC (fun ht12=>?_) (fun ht12=>?_) (st2:=(77777,0))
 ·have h1:=af6 ht12
  refine gR ?_
  exact ac3 (by rw [if_neg h1]; exact Sub.tup (.cons (.nil _ _ _) (.cons (.refl _) .nil)))
 ·have h1:=af0 ht12
  obtain ⟨h2,h3⟩:=ado h1
  obtain ⟨tw,e0⟩:=ab3 h h2
  obtain ⟨e1,na⟩:=ha.num (h3 a (by simp))
  have hlen:(llq rs).length = rs.length:=length_map _
  have h5:rs.length <= 5:=by have:=tw.five; omega
  have hp5:2 ^ rs.length <= 32:=abf (b:=5) h5
  refine gW (Wk.of (sl:=[(1,some (nA (lq a))),(2,some (.ptr 2 0)),(6,some (i64 (aaz rs [a])))]) (hp:=[(2,some (.box [.lst 1 (rs.map nR)]))]) (.cons rfl (Sub.of e1) (.k (.k .nil))) (.cons rfl (.refl _) .nil)) ?_
  refine gl ?_
  refine gs (ag5 (.const _) (.tmp rfl) (by omega) (aj9 (by omega)) rfl) ?_
  refine gc (agi _ _ na.le (by omega)) ?_
  refine gE2 ?_
  rw [if_pos h1,h1]; rfl
theorem bct (x:Rt) (hx:x.ok) (hs:Qs x.q):FnC prog 101 [x.av] (nA (sh 0 (x.q:Rat))):=by
 have hadd:=al9 x (rt 0) hx Qs.zero.ok
 rw [bl3] at hadd
 refine gF0 func101 ?_
 refine gc (aj2 x hx) ?_
 refine gC (fun ht5=>?_) (fun ht5=>?_)
 ·have h0 : x.q = 0 := ai7 (by simpa [aaa] using ht5)
  refine gR ?_
  exact adc (by rw [h0]; exact Sub.nil _ _ _)
 ·have h0 : x.q ≠ 0 := fun h => by rw [h] at ht5; cases ht5
  refine gc (Con.subA (.cons (.refl _) (.cons ai2 .nil)) hadd) ?_
  refine gE1 ?_
  have:sh 0 (x.q:Rat) = [x.q]:=if_neg h0
  rw [this]; rfl
end Go.Lw
namespace Go.Lw
open Go.Proofs
theorem bcz {p q:Rat} (hp:Qs p) (hq:Qs q):FnC prog 142 [qA p, qA q] (qA (p + q)):=by
 have h:=afm (rt p) (rt q) hp.ok hq.ok
 rw [agd,agd] at h
 exact h
theorem a8o {p q:Rat} (hp:Qs p) (hq:Qs q):FnC prog 258 [qA p, qA q] (qA (p - q)):=by
 have h:=arx (rt p) (rt q) hp.ok hq.ok
 rw [agd,agd] at h
 exact h
theorem a3p {p q:Rat} (hp:Qs p) (hq:Qs q):FnC prog 204 [qA p, qA q] (qA (p * q)):=by
 have h:=ak0 (rt p) (rt q) hp.ok hq.ok
 rw [agd,agd] at h
 exact h
theorem bme {p q:Rat} (hp:Qs p) (hq:Qs q):FnC prog 396 [qA p, qA q] (.tup [qA (p / q), ah7 (if q = 0 then 8 else 0)]):=by
 have h:=arz (rt p) (rt q) hp.ok hq.ok
 rw [agd,agd] at h
 exact h
theorem bqa {p:Rat} (hp:Qs p):FnC prog 69 [qA p] (qA (-p)):=by
 have h:=ag8 (rt p) hp.ok
 rw [agd] at h
 exact h
theorem bnq {p:Rat} (hp:Qs p):FnC prog 179 [qA p] (i64 (af7 p)):=by
 have h:=ae4 (rt p) hp.ok
 rw [agd] at h
 exact h
theorem a9u {p q:Rat} (hp:Qs p) (hq:Qs q):FnC prog 188 [qA p, qA q] (qA (p + q)):=by
 have h:=al9 (rt p) (rt q) hp.ok hq.ok
 rw [agd,agd] at h
 exact h
theorem bno {p q:Rat} (hp:Qs p) (hq:Qs q):FnC prog 192 [qA p, qA q] (qA (p - q)):=by
 have h:=awy (rt p) (rt q) hp.ok hq.ok
 rw [agd,agd] at h
 exact h
theorem be7 {p q:Rat} (hp:Qs p) (hq:Qs q):FnC prog 190 [qA p, qA q] (qA (p * q)):=by
 have h:=axk (rt p) (rt q) hp.ok hq.ok
 rw [agd,agd] at h
 exact h
theorem bmo {p q:Rat} (hp:Qs p) (hq:Qs q):FnC prog 270 [qA p, qA q] (.tup [qA (p / q), i64 (if q = 0 then 8 else 0)]):=by
 have h:=a8m (rt p) (rt q) hp.ok hq.ok
 rw [agd,agd] at h
 exact h
theorem ajs (x:Tn) (hx:x.t.ok):FnC prog 130 [x.av] (ah7 x.err):=by
 refine gF0 func130 ?_
 refine gc (acg x.t hx) ?_
 refine gcG (fun _=>(ae4 x.t hx)) ?_
 refine gC (fun ht16=>?_) (fun ht16=>?_)
 ·have h0:=Tn.err_yes ht16
  refine gE1 ?_
  rw [h0]; rfl
 ·have h0:=Tn.err_no ht16
  refine gE1 ?_
  rw [h0]; rfl
theorem aqm {p q:Rat} (hp:Qs p) (hq:Qs q):FnC prog 384 [qA p, qA q] (qA (p / q)):=by
 refine gF0 func384 ?_
 refine gc (bme hp hq) ?_
 refine gC (fun ht14=>?_) (fun ht14=>?_)
 ·have h0:q = 0:=by
   have:=ac5 ht14
   by_cases h:q = 0
   ·exact h
   ·rw [if_neg h] at this; exact absurd rfl this
  refine gR ?_
  exact adc (by rw [h0,bc5]; exact ai2)
 ·refine gE1 ?_
  rfl
theorem aiz (half:Bool) {t:Rat} {e:Nat} (ht:Qb e t) (he:e <= 1000000):FnC prog 334 [Tn.av ⟨rt t, half⟩] (.tup [qA (bbg half t), qA (bbi half t)]):=by
 have qt:Qs t:=ht.qs (by omega)
 have m2:=ht.mul ht
 have one:Qb 1 (((1:Int):Rat)):=Qb.one
 have d:=one.add m2
 refine gF0 func334 ?_
 refine gC (fun ht8=>?_) (fun ht8=>?_)
 ·have h0:half = true:=ht8
  refine gc (ad2 (-1) (by omega)) ?_
  refine gR ?_
  exact ac3 (by subst h0; exact Sub.tup (.cons (.refl _) (.cons ai2 .nil)))
 ·have h0:half = false:=ht8
  refine gc (ad2 1 (by omega)) ?_
  refine gc (a3p qt qt) ?_
  refine gD ?_
  refine gc (bcz (one.qs (by omega)) (m2.qs (by omega))) ?_
  refine gc (a8o (one.qs (by omega)) (m2.qs (by omega))) ?_
  refine gc (aqm ((one.sub m2).qs (by omega)) (d.qs (by omega))) ?_
  refine gc (bcz qt qt) ?_
  refine gc (aqm ((ht.add ht).qs (by omega)) (d.qs (by omega))) ?_
  refine gD ?_
  refine gE2 ?_
  subst h0; rfl
theorem a4t (x:Tn) (hx:x.t.ok) {e:Nat} (hq:Qb e x.t.q) (he:e <= 1000000):FnC prog 275 [x.av] (.tup [qA (if x.err = 0 then bbg x.half x.t.q else 0), ah7 x.err]):=by
 refine gF0 func275 ?_
 refine gc (ajs x hx) ?_
 refine gC (fun ht10=>?_) (fun ht10=>?_)
 ·have h1:=ac5 ht10
  refine gR ?_
  exact ac3 (by rw [if_neg h1]; exact Sub.tup (.cons ai2 (.cons (.refl _) .nil)))
 ·have h1:=ac7 ht10
  have hd:=aiz x.half hq he
  rw [<- Rt.eq_rt hx (Tn.ok_valid h1)] at hd
  refine gc hd ?_
  refine gE2 ?_
  rw [if_pos h1,h1]; rfl
theorem a30 (x:Tn) (hx:x.t.ok) {e:Nat} (hq:Qb e x.t.q) (he:e <= 1000000):FnC prog 276 [x.av] (.tup [qA (if x.err = 0 then bbi x.half x.t.q else 0), ah7 x.err]):=by
 refine gF0 func276 ?_
 refine gc (ajs x hx) ?_
 refine gC (fun ht10=>?_) (fun ht10=>?_)
 ·have h1:=ac5 ht10
  refine gR ?_
  exact ac3 (by rw [if_neg h1]; exact Sub.tup (.cons ai2 (.cons (.refl _) .nil)))
 ·have h1:=ac7 ht10
  have hd:=aiz x.half hq he
  rw [<- Rt.eq_rt hx (Tn.ok_valid h1)] at hd
  refine gc hd ?_
  refine gE2 ?_
  rw [if_pos h1,h1]; rfl
theorem ayo (x:Tn) (hx:x.t.ok):FnC prog 97 [x.av] (i64 x.err):=by
 refine gF0 func97 ?_
 refine gc (ags x.t hx) ?_
 refine gcG (fun _=>(aj2 x.t hx)) ?_
 refine gC (fun ht16=>?_) (fun ht16=>?_)
 ·have h0:=Tn.err_yes ht16
  refine gE1 ?_
  rw [h0]; rfl
 ·have h0:=Tn.err_no ht16
  refine gE1 ?_
  rw [h0]; rfl
theorem aqc:FnC prog 193 [] (qA 1):=by
 refine gF0 func193 ?_
 refine gc (aml 1 (by omega)) ?_
 refine gE1 ?_
 first | rfl | (simp; done)
theorem as1 {p q:Rat} (hp:Qs p) (hq:Qs q):FnC prog 191 [qA p, qA q] (qA (p / q)):=by
 refine gF0 func191 ?_
 refine gc (bmo hp hq) ?_
 refine gE1 ?_
 first | rfl | (simp; done)
theorem a97 (half:Bool) {t:Rat} {e:Nat} (ht:Qb e t) (he:e <= 1000000):FnC prog 102 [Tn.av ⟨rt t, half⟩] (qA (bbg half t)):=by
 have qt:Qs t:=ht.qs (by omega)
 have m2:=ht.mul ht
 have d:=Qb.one.add m2
 refine gF0 func102 ?_
 refine gC (fun ht5=>?_) (fun ht5=>?_)
 ·have h0:half = true:=ht5
  refine gc (aml (-1) (by omega)) ?_
  refine gE1 ?_
  subst h0; rfl
 ·have h0:half = false:=ht5
  refine gc (be7 qt qt) ?_
  refine gc aqc ?_
  refine gc (bno (Qb.one.qs (by omega)) (m2.qs (by omega))) ?_
  refine gc aqc ?_
  refine gc (a9u (Qb.one.qs (by omega)) (m2.qs (by omega))) ?_
  refine gc (as1 ((Qb.one.sub m2).qs (by omega)) (d.qs (by omega))) ?_
  refine gD ?_
  refine gE1 ?_
  subst h0; rfl
theorem ba8 (half:Bool) {t:Rat} {e:Nat} (ht:Qb e t) (he:e <= 1000000):FnC prog 103 [Tn.av ⟨rt t, half⟩] (qA (bbi half t)):=by
 have qt:Qs t:=ht.qs (by omega)
 have m2:=ht.mul ht
 have d:=Qb.one.add m2
 refine gF0 func103 ?_
 refine gC (fun ht4=>?_) (fun ht4=>?_)
 ·have h0:half = true:=ht4
  refine gR ?_
  exact adc (by subst h0; exact ai2)
 ·have h0:half = false:=ht4
  refine gc (a9u qt qt) ?_
  refine gc aqc ?_
  refine gc (be7 qt qt) ?_
  refine gc (a9u (Qb.one.qs (by omega)) (m2.qs (by omega))) ?_
  refine gc (as1 ((ht.add ht).qs (by omega)) (d.qs (by omega))) ?_
  refine gD ?_
  refine gE1 ?_
  subst h0; rfl
end Go.Lw
namespace Go.Lw
open Go.Proofs
theorem bfh {ts:List (List Rat)} {r e f:Nat} (tw:Tw ts r) {a b:List Rat} (ha:Nm ts.length e a) (hb:Nm ts.length f b) (he:e + f <= lm ts.length) :
  FnC prog 322 [ad7 ts,nA a,nA b] (.tup [nA (sh ts.length (T.add ts.length (dec ts.length a) (dec ts.length b))),.v .nilIface]):=by
 have h:=a0j (ts.map (List.map rt)) r tw.tr (a.map rt) (b.map rt) e f (ha.rt (by omega)) (hb.rt (by omega)) (by rw [length_map]; exact he)
 have h0:aaz (ts.map (List.map rt)) [a.map rt,b.map rt] = 0:=ajh tw ha hb
 rw [h0,if_pos rfl,af1,af5,af5,aha,aha,length_map] at h
 exact h
theorem bgn {ts:List (List Rat)} {r e f:Nat} (tw:Tw ts r) {a b:List Rat} (ha:Nm ts.length e a) (hb:Nm ts.length f b) (he:e + f <= lm ts.length) :
  FnC prog 321 [ad7 ts,nA a,nA b] (.tup [nA (sh ts.length (T.add ts.length (dec ts.length a) (T.neg ts.length (dec ts.length b)))),.v .nilIface]):=by
 have h:=aya (ts.map (List.map rt)) r tw.tr (a.map rt) (b.map rt) e f (ha.rt (by omega)) (hb.rt (by omega)) (by rw [length_map]; exact he)
 have h0:aaz (ts.map (List.map rt)) [a.map rt,b.map rt] = 0:=ajh tw ha hb
 rw [h0,if_pos rfl,af1,af5,af5,aha,aha,length_map] at h
 exact h
theorem bga {ts:List (List Rat)} {r e f:Nat} (tw:Tw ts r) {a b:List Rat} (ha:Nm ts.length e a) (hb:Nm ts.length f b) (he:e + f <= lm ts.length) :
  FnC prog 56 [ad7 ts,nA a,nA b] (.tup [nA (sh ts.length (T.mul (aan ts) ts.length (dec ts.length a) (dec ts.length b))),.v .nilIface]):=by
 have h:=ayc (ts.map (List.map rt)) r tw.tr (a.map rt) (b.map rt) e f (ha.rt (by omega)) (hb.rt (by omega)) (by rw [length_map]; exact he)
 have h0:aaz (ts.map (List.map rt)) [a.map rt,b.map rt] = 0:=ajh tw ha hb
 rw [h0,if_pos rfl,af1,af5,af5,an3,aha,aha,length_map] at h
 exact h
theorem a2h {ts:List (List Rat)} {r e f:Nat} (tw:Tw ts r) {a b:List Rat} (ha:Nm ts.length e a) (hb:Nm ts.length f b) (he:e + f + 1 <= lm ts.length) :
  FnC prog 57 [ad7 ts,nA a,nA b] (.tup [i64 (T.sgn (aan ts) ts.length (T.add ts.length (dec ts.length a) (T.neg ts.length (dec ts.length b)))),.v .nilIface]):=by
 have h:=aq2 (ts.map (List.map rt)) r tw.tr (a.map rt) (b.map rt) e f (ha.rt (by omega)) (hb.rt (by omega)) (by rw [length_map]; exact he)
 have h0:aaz (ts.map (List.map rt)) [a.map rt,b.map rt] = 0:=ajh tw ha hb
 rw [h0,if_pos rfl,af1,af5,af5,an3,aha,aha,length_map] at h
 exact h
theorem aql {ts:List (List Rat)} {r e:Nat} (tw:Tw ts r) {a:List Rat} (ha:Nm ts.length e a) (he:e <= lm ts.length) :
  FnC prog 40 [ad7 ts,nA a] (.tup [i64 (T.sgn (aan ts) ts.length (dec ts.length a)),.v .nilIface]):=by
 have h:=av7 (ts.map (List.map rt)) r tw.tr (a.map rt) e (ha.rt he) (by rw [length_map]; exact he)
 have h0:aaz (ts.map (List.map rt)) [a.map rt] = 0:=ayf tw ha
 rw [h0,if_pos rfl,af1,af5,an3,aha,length_map] at h
 exact h
theorem bk9 {ts:List (List Rat)} {r e f:Nat} (tw:Tw ts r) {a b:List Rat} (ha:Nm ts.length e a) (hb:Nm ts.length f b) (he:e + f <= lm ts.length) :
  FnC prog 200 [ad7 ts,nA a,nA b] (.tup [nA (sh ts.length (T.add ts.length (dec ts.length a) (dec ts.length b))),i64 0]):=by
 have h:=a6w (ts.map (List.map rt)) r tw.tr (a.map rt) (b.map rt) e f (ha.rt (by omega)) (hb.rt (by omega)) (by rw [length_map]; exact he)
 have h0:aaz (ts.map (List.map rt)) [a.map rt,b.map rt] = 0:=ajh tw ha hb
 rw [h0,if_pos rfl,af1,af5,af5,aha,aha,length_map] at h
 exact h
theorem bm5 {ts:List (List Rat)} {r e f:Nat} (tw:Tw ts r) {a b:List Rat} (ha:Nm ts.length e a) (hb:Nm ts.length f b) (he:e + f <= lm ts.length) :
  FnC prog 111 [ad7 ts,nA a,nA b] (.tup [nA (sh ts.length (T.add ts.length (dec ts.length a) (T.neg ts.length (dec ts.length b)))),i64 0]):=by
 have h:=a8n (ts.map (List.map rt)) r tw.tr (a.map rt) (b.map rt) e f (ha.rt (by omega)) (hb.rt (by omega)) (by rw [length_map]; exact he)
 have h0:aaz (ts.map (List.map rt)) [a.map rt,b.map rt] = 0:=ajh tw ha hb
 rw [h0,if_pos rfl,af1,af5,af5,aha,aha,length_map] at h
 exact h
theorem bog {ts:List (List Rat)} {r e f:Nat} (tw:Tw ts r) {a b:List Rat} (ha:Nm ts.length e a) (hb:Nm ts.length f b) (he:e + f <= lm ts.length) :
  FnC prog 128 [ad7 ts,nA a,nA b] (.tup [nA (sh ts.length (T.mul (aan ts) ts.length (dec ts.length a) (dec ts.length b))),i64 0]):=by
 have h:=a5f (ts.map (List.map rt)) r tw.tr (a.map rt) (b.map rt) e f (ha.rt (by omega)) (hb.rt (by omega)) (by rw [length_map]; exact he)
 have h0:aaz (ts.map (List.map rt)) [a.map rt,b.map rt] = 0:=ajh tw ha hb
 rw [h0,if_pos rfl,af1,af5,af5,an3,aha,aha,length_map] at h
 exact h
theorem bn6 {ts:List (List Rat)} {r e f:Nat} (tw:Tw ts r) {a b:List Rat} (ha:Nm ts.length e a) (hb:Nm ts.length f b) (he:e + f + 1 <= lm ts.length) :
  FnC prog 58 [ad7 ts,nA a,nA b] (.tup [i64 (T.sgn (aan ts) ts.length (T.add ts.length (dec ts.length a) (T.neg ts.length (dec ts.length b)))),i64 0]):=by
 have h:=bbc (ts.map (List.map rt)) r tw.tr (a.map rt) (b.map rt) e f (ha.rt (by omega)) (hb.rt (by omega)) (by rw [length_map]; exact he)
 have h0:aaz (ts.map (List.map rt)) [a.map rt,b.map rt] = 0:=ajh tw ha hb
 rw [h0,if_pos rfl,af1,af5,af5,an3,aha,aha,length_map] at h
 exact h
theorem bhs {ts:List (List Rat)} {r e:Nat} (tw:Tw ts r) {a:List Rat} (ha:Nm ts.length e a) (he:e <= lm ts.length) :
  FnC prog 104 [ad7 ts,nA a] (.tup [i64 (T.sgn (aan ts) ts.length (dec ts.length a)),i64 0]):=by
 have h:=a4h (ts.map (List.map rt)) r tw.tr (a.map rt) e (ha.rt he) (by rw [length_map]; exact he)
 have h0:aaz (ts.map (List.map rt)) [a.map rt] = 0:=ayf tw ha
 rw [h0,if_pos rfl,af1,af5,an3,aha,length_map] at h
 exact h
theorem be8 {ts:List (List Rat)} {r e:Nat} (tw:Tw ts r) {a:List Rat} (ha:Nm ts.length e a) (he:e <= lm ts.length) :
  FnC prog 161 [ad7 ts,nA a] (.tup [nA (sh ts.length (T.neg ts.length (dec ts.length a))),.v .nilIface]):=by
 have h:=apx (ts.map (List.map rt)) r tw.tr (a.map rt) e (ha.rt he) (by rw [length_map]; exact he)
 have h0:aaz (ts.map (List.map rt)) [a.map rt] = 0:=ayf tw ha
 rw [h0,if_pos rfl,af1,af5,aha,length_map] at h
 exact h
theorem a18 {ts:List (List Rat)} {r:Nat} (tw:Tw ts r):FnC prog 158 [ad7 ts] (.v .nilIface):=by
 have h:=agb (ts.map (List.map rt)) r tw.tr
 rw [tw.chk,af1] at h
 exact h
theorem aw2 {q:Rat} (h:Qs q):FnC prog 136 [qA q] (nA (sh 0 (q:Rat))):=by
 have h1:=a4p (rt q) h.ok (by rw [agd]; exact h)
 rw [agd] at h1
 exact h1
theorem azr {q:Rat} (h:Qs q):FnC prog 101 [qA q] (nA (sh 0 (q:Rat))):=by
 have h1:=bct (rt q) h.ok (by rw [agd]; exact h)
 rw [agd] at h1
 exact h1
theorem aie {ts:List (List Rat)} {r e:Nat} (tw:Tw ts r) (ls:List (List Rat)) (hl:∀ l ∈ ls, Nm ts.length e l) (he:e <= lm ts.length) (hn:ls.length <= 1000):FnC prog 164 [ad7 ts, .lst 1 (ls.map nA)] (.v .nilIface):=by
 refine gF0 func164 ?_
 refine gc (a18 tw) ?_
 refine gC (fun ht13=>?_) (fun ht13=>?_) (st1:=(3,0))
 ·cases ht13
 ·refine gl ?_
  refine gL1 [2,15,16] [2] (fun (i:Nat)=>[(17,some (i64 i))]) (fun _=>[]) (fun i=>i <= ls.length) (fun i=>ls.length - i) 0 (zero_le _) ?_
  rintro i hi K1 hK1
  refine gC (fun ht18=>?_) (fun ht18=>?_)
  ·have hin : i < ls.length := by simpa [aaa] using ht18
   obtain ⟨l,hll⟩:=abt hin
   have hok:=hl l (mem_of_getElem? hll)
   refine gi (aae hll) ?_
   refine gc (be8 tw hok he) ?_
   refine gC (fun ht28=>?_) (fun ht28=>?_) (st1:=(9,0))
   ·cases ht28
   ·refine ga aat ?_
    exact gK1 hK1 (i + 1) hin
  ·have hin : i = ls.length := by have : ls.length <= i := (by simpa [aaa] using ht18); omega
   refine gE1 ?_
   first | rfl | (simp; done)
theorem ach {ts:List (List Rat)} {r e:Nat} (tw:Tw ts r) (ps:List (List Rat × List Rat)) (hl:∀ p ∈ ps, Nm ts.length e p.1 /\ Nm ts.length e p.2) (he:e <= lm ts.length) (hn:ps.length <= 500):FnC prog 170 [ad7 ts, .lst 2 (ps.map fun p=>ptA p.1 p.2)] (.v .nilIface):=by
 refine gF0 func170 ?_
 refine gl ?_
 refine gW (Wk.virt 900 1 rfl) ?_
 refine gL1 [2,8,9] [2] (fun (i:Nat)=>[(5,some (.ms 900 1 0 (2 * i))),(10,some (i64 i))]) (fun i=>[(900,some (.row 1 ((als (ps.take i)).map nA)))]) (fun i=>i <= ps.length) (fun i=>ps.length - i) 0 (zero_le _) ?_
 rintro i hi K1 hK1
 refine gC (fun ht11=>?_) (fun ht11=>?_) (st2:=(7,0))
 ·have hin : i < ps.length := by simpa [aaa] using ht11
  obtain ⟨p,hp⟩:=abt hin
  have hfl:(als (ps.take i)).length = 2 * i:=by rw [amg,length_take]; omega
  refine gi (aae hp) ?_
  refine gs (abu (.tmp rfl) rfl (by rw [length_map,hfl]) (.tmp rfl) T28 rfl T65 rfl rfl (by simp; omega) rfl rfl) ?_ (6,0)
  refine gW (Wk.of (sl:=[(2,some (.ptr 2 0)),(5,some (.ms 20 1 0 (2 * i + 2))),(8,some (.lst 2 (ps.map fun p=>ptA p.1 p.2))),(9,some (i64 ps.length)),(10,some (i64 i))]) (hp:=[(2,some (.box [.lst 1 (ts.map nA)])),(20,some (.row 1 ((als (ps.take (i + 1))).map nA)))]) ab0 (.cons rfl (.refl _) (.cons rfl (BlkSub.of (by rw [aao hp,axt,map_append]; rfl)) .nil))) ?_ (6,0)
  refine gW (Wk.rekey (k:=20) (d:=900) rfl rfl) ?_
  refine ga aat ?_
  exact gK1 hK1 (i + 1) hin
 ·have hin : i = ps.length := by have : ps.length <= i := (by simpa [aaa] using ht11); omega
  subst hin
  refine gW ((Wk.freeze (k:=900) rfl).trans <| Wk.of (sl:=[(2,some (.ptr 2 0)),(5,some (.lst 1 ((als ps).map nA)))]) (hp:=[(2,some (.box [.lst 1 (ts.map nA)]))]) (.k (.cons rfl (Sub.of (by rw [ab8 (by rw [length_map,amg,length_take]; omega),take_length])) .nil)) (.cons rfl (.refl _) .nil)) ?_
  refine gc (aie tw (als ps) (axm hl) he (by rw [amg]; omega)) ?_
  refine gE1 ?_
  first | rfl | (simp; done)
theorem ani (R:List AV) (a:List Rat):Con prog 320 [.ptr 1000 0, nA a, .v .nilIface] [(1000, some (.box [.lst 1 R, .v .nilIface]))] (nA a) [(1000, some (.box [.lst 1 R, .v .nilIface]))]:=by
 refine gF func320 (fun k z h=>acf h) ?_
 refine gC (fun ht11=>?_) (fun ht11=>?_) (st2:=(77777,0))
 ·refine gR ?_
  exact Fin.keep (aeu rfl)
 ·cases ht11
theorem al3 {ts:List (List Rat)} {r e f:Nat} (tw:Tw ts r) {a b:List Rat} (ha:Nm ts.length e a) (hb:Nm ts.length f b) (he:e + f <= lm ts.length) :
  Con prog 257 [.ptr 1000 0,nA a,nA b] [(1000,some (au8 ts))] (nA (sh ts.length (T.add ts.length (dec ts.length a) (dec ts.length b)))) [(1000,some (au8 ts))]:=by
 refine gF func257 (fun k z h=>acf h) ?_
 refine gc (bfh tw ha hb he) ?_
 refine gt (aad (ani _ _) (.cons (.tmp rfl) (.cons (.tmp rfl) (.cons (.tmp rfl) .nil))) (by first | exact hH0 | exact hH1 rfl | exact hH2 rfl rfl) rfl rfl) ?_
 refine gR ?_
 exact Fin.keep (aeu rfl)
theorem amo {ts:List (List Rat)} {r e f:Nat} (tw:Tw ts r) {a b:List Rat} (ha:Nm ts.length e a) (hb:Nm ts.length f b) (he:e + f <= lm ts.length) :
  Con prog 255 [.ptr 1000 0,nA a,nA b] [(1000,some (au8 ts))] (nA (sh ts.length (T.add ts.length (dec ts.length a) (T.neg ts.length (dec ts.length b))))) [(1000,some (au8 ts))]:=by
 refine gF func255 (fun k z h=>acf h) ?_
 refine gc (bgn tw ha hb he) ?_
 refine gt (aad (ani _ _) (.cons (.tmp rfl) (.cons (.tmp rfl) (.cons (.tmp rfl) .nil))) (by first | exact hH0 | exact hH1 rfl | exact hH2 rfl rfl) rfl rfl) ?_
 refine gR ?_
 exact Fin.keep (aeu rfl)
theorem afq {ts:List (List Rat)} {r e f:Nat} (tw:Tw ts r) {a b:List Rat} (ha:Nm ts.length e a) (hb:Nm ts.length f b) (he:e + f <= lm ts.length) :
  Con prog 256 [.ptr 1000 0,nA a,nA b] [(1000,some (au8 ts))] (nA (sh ts.length (T.mul (aan ts) ts.length (dec ts.length a) (dec ts.length b)))) [(1000,some (au8 ts))]:=by
 refine gF func256 (fun k z h=>acf h) ?_
 refine gc (bga tw ha hb he) ?_
 refine gt (aad (ani _ _) (.cons (.tmp rfl) (.cons (.tmp rfl) (.cons (.tmp rfl) .nil))) (by first | exact hH0 | exact hH1 rfl | exact hH2 rfl rfl) rfl rfl) ?_
 refine gR ?_
 exact Fin.keep (aeu rfl)
theorem aw4 {ts:List (List Rat)} {r e f:Nat} (tw:Tw ts r) {a b c d:List Rat} (ha:Nm ts.length e a) (hb:Nm ts.length e b) (hc:Nm ts.length f c) (hd:Nm ts.length f d) (he:2 * (e + f + kB r ts.length) <= lm ts.length) :
  Con prog 174 [.ptr 1000 0,ptA a b,ptA c d] [(1000,some (au8 ts))] (nA (sh ts.length (bfa ts (dec ts.length a) (dec ts.length b) (dec ts.length c) (dec ts.length d)))) [(1000,some (au8 ts))]:=by
 refine gF func174 (fun k z h=>acf h) ?_
 refine gt (aad (afq tw ha hc (by omega)) (.cons (.tmp rfl) (.cons (.tmp rfl) (.cons (.tmp rfl) .nil))) (by first | exact hH0 | exact hH1 rfl | exact hH2 rfl rfl) rfl rfl) ?_
 refine gt (aad (afq tw hb hd (by omega)) (.cons (.tmp rfl) (.cons (.tmp rfl) (.cons (.tmp rfl) .nil))) (by first | exact hH0 | exact hH1 rfl | exact hH2 rfl rfl) rfl rfl) ?_
 refine gt (aad (awc ▸ al3 tw (ha.mul tw rfl hc) (hb.mul tw rfl hd) (by omega)) (.cons (.tmp rfl) (.cons (.tmp rfl) (.cons (.tmp rfl) .nil))) (by first | exact hH0 | exact hH1 rfl | exact hH2 rfl rfl) rfl rfl) ?_
 refine gD ?_
 refine gR ?_
 exact Fin.keep (aeu rfl)
theorem apj {ts:List (List Rat)} {r e f:Nat} (tw:Tw ts r) {a b c d:List Rat} (ha:Nm ts.length e a) (hb:Nm ts.length e b) (hc:Nm ts.length f c) (hd:Nm ts.length f d) (he:2 * (e + f + kB r ts.length) <= lm ts.length) :
  Con prog 169 [.ptr 1000 0,ptA a b,ptA c d] [(1000,some (au8 ts))] (nA (sh ts.length (aoh ts (dec ts.length a) (dec ts.length b) (dec ts.length c) (dec ts.length d)))) [(1000,some (au8 ts))]:=by
 refine gF func169 (fun k z h=>acf h) ?_
 refine gt (aad (afq tw ha hd (by omega)) (.cons (.tmp rfl) (.cons (.tmp rfl) (.cons (.tmp rfl) .nil))) (by first | exact hH0 | exact hH1 rfl | exact hH2 rfl rfl) rfl rfl) ?_
 refine gt (aad (afq tw hb hc (by omega)) (.cons (.tmp rfl) (.cons (.tmp rfl) (.cons (.tmp rfl) .nil))) (by first | exact hH0 | exact hH1 rfl | exact hH2 rfl rfl) rfl rfl) ?_
 refine gt (aad (amk ▸ amo tw (ha.mul tw rfl hd) (hb.mul tw rfl hc) (by omega)) (.cons (.tmp rfl) (.cons (.tmp rfl) (.cons (.tmp rfl) .nil))) (by first | exact hH0 | exact hH1 rfl | exact hH2 rfl rfl) rfl rfl) ?_
 refine gD ?_
 refine gR ?_
 exact Fin.keep (aeu rfl)
end Go.Lw
namespace Go.Lw
open Go.Proofs
theorem ahs {ts:List (List Rat)} {r e:Nat} (tw:Tw ts r) {a b c d:List Rat} (ha:Nm ts.length e a) (hb:Nm ts.length e b) (hc:Nm ts.length e c) (hd:Nm ts.length e d) (he:2 * e <= lm ts.length) :
  Con prog 172 [.ptr 1000 0,ptA a b,ptA c d] [(1000,some (au8 ts))] (ptA (sh ts.length (subT ts (dec ts.length a) (dec ts.length c))) (sh ts.length (subT ts (dec ts.length b) (dec ts.length d)))) [(1000,some (au8 ts))]:=by
 refine gF func172 (fun k z h=>acf h) ?_
 refine gt (aad (amo tw ha hc (by omega)) (.cons (.tmp rfl) (.cons (.tmp rfl) (.cons (.tmp rfl) .nil))) (by first | exact hH0 | exact hH1 rfl | exact hH2 rfl rfl) rfl rfl) ?_
 refine gt (aad (amo tw hb hd (by omega)) (.cons (.tmp rfl) (.cons (.tmp rfl) (.cons (.tmp rfl) .nil))) (by first | exact hH0 | exact hH1 rfl | exact hH2 rfl rfl) rfl rfl) ?_
 refine gD ?_
 refine gR ?_
 exact Fin.keep (aeu rfl)
theorem arh (R:List AV) (a:List Rat):Con prog 197 [.ptr 1000 0, nA a] [(1000, some (.box [.lst 1 R, .v .nilIface]))] (.tup [nA a, .v .nilIface]) [(1000, some (.box [.lst 1 R, .v .nilIface]))]:=by
 refine gF func197 (fun k z h=>acf h) ?_
 refine gC (fun ht10=>?_) (fun ht10=>?_) (st1:=(2,0))
 ·cases ht10
 ·refine gR ?_
  show Fin _ (AV.tup [nA a,.v .nilIface]) _ _
  exact Fin.keep (aeu rfl)
theorem ak4 (R:List AV) (a b:List Rat):Con prog 171 [.ptr 1000 0, ptA a b] [(1000, some (.box [.lst 1 R, .v .nilIface]))] (.tup [ptA a b, .v .nilIface]) [(1000, some (.box [.lst 1 R, .v .nilIface]))]:=by
 refine gF func171 (fun k z h=>acf h) ?_
 refine gC (fun ht10=>?_) (fun ht10=>?_) (st1:=(2,0))
 ·cases ht10
 ·refine gR ?_
  show Fin _ (AV.tup [ptA a b,.v .nilIface]) _ _
  exact Fin.keep (aeu rfl)
theorem aod {ts:List (List Rat)} {r e:Nat} (tw:Tw ts r) {a b c d p q:List Rat} (ha:Nm ts.length e a) (hb:Nm ts.length e b) (hc:Nm ts.length e c) (hd:Nm ts.length e d) (hp:Nm ts.length e p) (hq:Nm ts.length e q)
  (he:8 * e + 4 + 2 * kB r ts.length <= lm ts.length) :
  Con prog 196 [.ptr 1000 0,ptA a b,ptA c d,ptA p q] [(1000,some (au8 ts))] (nA (sh ts.length (aib ts (dec ts.length a) (dec ts.length b) (dec ts.length c) (dec ts.length d) (dec ts.length p) (dec ts.length q)))) [(1000,some (au8 ts))]:=by
 refine gF func196 (fun k z h=>acf h) ?_
 refine gt (aad (ahs tw hc hd ha hb (by omega)) (.cons (.tmp rfl) (.cons (.tmp rfl) (.cons (.tmp rfl) .nil))) (by first | exact hH0 | exact hH1 rfl | exact hH2 rfl rfl) rfl rfl) ?_
 refine gt (aad (ahs tw hp hq ha hb (by omega)) (.cons (.tmp rfl) (.cons (.tmp rfl) (.cons (.tmp rfl) .nil))) (by first | exact hH0 | exact hH1 rfl | exact hH2 rfl rfl) rfl rfl) ?_
 refine gt (aad (ark ▸ apj tw (hc.sub ha) (hd.sub hb) (hp.sub ha) (hq.sub hb) (by omega)) (.cons (.tmp rfl) (.cons (.tmp rfl) (.cons (.tmp rfl) .nil))) (by first | exact hH0 | exact hH1 rfl | exact hH2 rfl rfl) rfl rfl) ?_
 refine gD ?_
 refine gR ?_
 exact Fin.keep (aeu rfl)
theorem ajc {ts:List (List Rat)} {r e:Nat} (tw:Tw ts r) {a b c d:List Rat} (ha:Nm ts.length e a) (hb:Nm ts.length e b) (hc:Nm ts.length e c) (hd:Nm ts.length e d) (he:e <= lm ts.length) (f:FuncId) (v:List Rat)
  (hf:Con prog f [.ptr 1000 0,ptA a b,ptA c d] [(1000,some (au8 ts))] (nA v) [(1000,some (au8 ts))]) :
  FnC prog 168 [ad7 ts,ptA a b,ptA c d,.fn f []] (.tup [nA v,.v .nilIface]):=by
 refine gF0 func168 ?_
 refine gc (ach (e:=e) tw [(a,b),(c,d)] (by simp only [mem_cons,not_mem_nil,or_false]; rintro p (rfl | rfl); exact ⟨ha,hb⟩; exact ⟨hc,hd⟩) he (by simp)) ?_
 refine gC (fun ht18=>?_) (fun ht18=>?_) (st1:=(3,0))
 ·cases ht18
 ·refine gs (aqf (.tmp rfl) (show Con prog f ([.ptr 22 0, ptA a b, ptA c d] ++ []) [(22, some (au8 ts))] (nA v) [(22, some (au8 ts))] from Con.rekeyB 22 rfl rfl rfl rfl hf) (.cons (.tmp rfl) (.cons (.tmp rfl) (.cons (.tmp rfl) .nil))) (by first | exact hH0 | exact hH1 rfl | exact hH2 rfl rfl) rfl rfl) ?_
  refine gt (aad (Con.rekeyB 22 rfl rfl rfl rfl (arh _ _)) (.cons (.tmp rfl) (.cons (.tmp rfl) .nil)) (by first | exact hH0 | exact hH1 rfl | exact hH2 rfl rfl) rfl rfl) ?_
  refine gE2 ?_
  rfl
theorem apy {ts:List (List Rat)} {r e:Nat} (tw:Tw ts r) {a b c d:List Rat} (ha:Nm ts.length e a) (hb:Nm ts.length e b) (hc:Nm ts.length e c) (hd:Nm ts.length e d) (he:2 * (e + e + kB r ts.length) <= lm ts.length) :
  FnC prog 91 [ad7 ts,ptA a b,ptA c d] (.tup [nA (sh ts.length (bfa ts (dec ts.length a) (dec ts.length b) (dec ts.length c) (dec ts.length d))),.v .nilIface]):=by
 refine gF0 func91 ?_
 refine gc (Con.subA (.cons (.refl _) (.cons (.refl _) (.cons (.refl _) (.cons (Sub.fn0 _) .nil)))) (ajc tw ha hb hc hd (by omega) _ _ (aw4 tw ha hb hc hd he))) ?_
 refine gE2 ?_
 first | rfl | (simp; done)
theorem ar3 {ts:List (List Rat)} {r e:Nat} (tw:Tw ts r) {a b c d p q:List Rat} (ha:Nm ts.length e a) (hb:Nm ts.length e b) (hc:Nm ts.length e c) (hd:Nm ts.length e d) (hp:Nm ts.length e p) (hq:Nm ts.length e q)
  (he:8 * e + 10 + 2 * kB r ts.length <= lm ts.length) :
  FnC prog 307 [ad7 ts,ptA a b,ptA c d,ptA p q] (.tup [i64 (T.sgn (aan ts) ts.length (aib ts (dec ts.length a) (dec ts.length b) (dec ts.length c) (dec ts.length d) (dec ts.length p) (dec ts.length q))),.v .nilIface]):=by
 have ho:=aq9 tw ha hb hc hd hp hq
 refine gF0 func307 ?_
 refine gc (ach (e:=e) tw [(a,b),(c,d),(p,q)] (by simp only [mem_cons,not_mem_nil,or_false]; rintro x (rfl | rfl | rfl); exact ⟨ha,hb⟩; exact ⟨hc,hd⟩; exact ⟨hp,hq⟩) (by omega) (by simp)) ?_
 refine gC (fun ht21=>?_) (fun ht21=>?_) (st1:=(3,0))
 ·cases ht21
 ·refine gt (aad (Con.rekeyB 25 rfl rfl rfl rfl (aod tw ha hb hc hd hp hq (by omega))) (.cons (.tmp rfl) (.cons (.tmp rfl) (.cons (.tmp rfl) (.cons (.tmp rfl) .nil)))) (by first | exact hH0 | exact hH1 rfl | exact hH2 rfl rfl) rfl rfl) ?_
  refine gt (aad (Con.rekeyB 25 rfl rfl rfl rfl (arh _ _)) (.cons (.tmp rfl) (.cons (.tmp rfl) .nil)) (by first | exact hH0 | exact hH1 rfl | exact hH2 rfl rfl) rfl rfl) ?_
  refine gC (fun ht37=>?_) (fun ht37=>?_) (st1:=(7,0))
  ·cases ht37
  ·refine gc (aql tw ho (by omega)) ?_
   refine gE2 ?_
   rw [aby]
theorem avl {ts:List (List Rat)} {r e:Nat} (tw:Tw ts r) {a b c d:List Rat} (ha:Nm ts.length e a) (hb:Nm ts.length e b) (hc:Nm ts.length e c) (hd:Nm ts.length e d) (he:2 * e + 1 <= lm ts.length) :
  FnC prog 306 [ad7 ts,ptA a b,ptA c d] (.tup [bl (decide (T.sgn (aan ts) ts.length (subT ts (dec ts.length a) (dec ts.length c)) = 0 /\ T.sgn (aan ts) ts.length (subT ts (dec ts.length b) (dec ts.length d)) = 0)),.v .nilIface]):=by
 refine gF0 func306 ?_
 refine gc (ach (e:=e) tw [(a,b),(c,d)] (by simp only [mem_cons,not_mem_nil,or_false]; rintro p (rfl | rfl); exact ⟨ha,hb⟩; exact ⟨hc,hd⟩) (by omega) (by simp)) ?_
 refine gC (fun ht18=>?_) (fun ht18=>?_) (st1:=(3,0))
 ·cases ht18
 ·refine gc (a2h tw ha hc (by omega)) ?_
  refine gC (fun ht30=>?_) (fun ht30=>?_) (st1:=(6,0))
  ·cases ht30
  ·refine gc (a2h tw hb hd (by omega)) ?_
   refine gE2 ?_
   rw [<- a70]; rfl
theorem awn {ts:List (List Rat)} {r e:Nat} (tw:Tw ts r) {a b c d:List Rat} (ha:Nm ts.length e a) (hb:Nm ts.length e b) (hc:Nm ts.length e c) (hd:Nm ts.length e d) (he:2 * (e + e + kB r ts.length) <= lm ts.length) :
  FnC prog 165 [ad7 ts,nA a,nA b,ptA c d] (.tup [ptA (sh ts.length (a9w ts (dec ts.length a) (dec ts.length b) (dec ts.length c) (dec ts.length d))) (sh ts.length (bab ts (dec ts.length a) (dec ts.length b) (dec ts.length c) (dec ts.length d))),.v .nilIface]):=by
 refine gF0 func165 ?_
 refine gc (aie (e:=e) tw [a,b,c,d] (by simp only [mem_cons,not_mem_nil,or_false]; rintro x (rfl | rfl | rfl | rfl) <;> assumption) (by omega) (by simp)) ?_
 refine gC (fun ht22=>?_) (fun ht22=>?_) (st1:=(3,0))
 ·cases ht22
 ·refine gt (aad (Con.rekeyB 27 rfl rfl rfl rfl (afq tw ha hc (by omega))) (.cons (.tmp rfl) (.cons (.tmp rfl) (.cons (.tmp rfl) .nil))) (by first | exact hH0 | exact hH1 rfl | exact hH2 rfl rfl) rfl rfl) ?_
  refine gt (aad (Con.rekeyB 27 rfl rfl rfl rfl (afq tw hb hd (by omega))) (.cons (.tmp rfl) (.cons (.tmp rfl) (.cons (.tmp rfl) .nil))) (by first | exact hH0 | exact hH1 rfl | exact hH2 rfl rfl) rfl rfl) ?_
  refine gt (aad (Con.rekeyB 27 rfl rfl rfl rfl (amk ▸ amo tw (ha.mul tw rfl hc) (hb.mul tw rfl hd) (by omega))) (.cons (.tmp rfl) (.cons (.tmp rfl) (.cons (.tmp rfl) .nil))) (by first | exact hH0 | exact hH1 rfl | exact hH2 rfl rfl) rfl rfl) ?_
  refine gt (aad (Con.rekeyB 27 rfl rfl rfl rfl (afq tw hb hc (by omega))) (.cons (.tmp rfl) (.cons (.tmp rfl) (.cons (.tmp rfl) .nil))) (by first | exact hH0 | exact hH1 rfl | exact hH2 rfl rfl) rfl rfl) ?_
  refine gt (aad (Con.rekeyB 27 rfl rfl rfl rfl (afq tw ha hd (by omega))) (.cons (.tmp rfl) (.cons (.tmp rfl) (.cons (.tmp rfl) .nil))) (by first | exact hH0 | exact hH1 rfl | exact hH2 rfl rfl) rfl rfl) ?_
  refine gt (aad (Con.rekeyB 27 rfl rfl rfl rfl (awc ▸ al3 tw (hb.mul tw rfl hc) (ha.mul tw rfl hd) (by omega))) (.cons (.tmp rfl) (.cons (.tmp rfl) (.cons (.tmp rfl) .nil))) (by first | exact hH0 | exact hH1 rfl | exact hH2 rfl rfl) rfl rfl) ?_
  refine gt (aad (Con.rekeyB 27 rfl rfl rfl rfl (ak4 _ _ _)) (.cons (.tmp rfl) (.cons (.tmp rfl) .nil)) (by first | exact hH0 | exact hH1 rfl | exact hH2 rfl rfl) rfl rfl) ?_
  refine gD ?_
  refine gE2 ?_
  rfl
theorem azf {ts:List (List Rat)} {r e:Nat} (tw:Tw ts r) {a b c d:List Rat} (ha:Nm ts.length e a) (hb:Nm ts.length e b) (hc:Nm ts.length e c) (hd:Nm ts.length e d) (he:2 * e <= lm ts.length) :
  FnC prog 167 [ad7 ts,ptA a b,ptA c d] (.tup [ptA (sh ts.length (T.add ts.length (dec ts.length a) (dec ts.length c))) (sh ts.length (T.add ts.length (dec ts.length b) (dec ts.length d))),.v .nilIface]):=by
 refine gF0 func167 ?_
 refine gc (ach (e:=e) tw [(a,b),(c,d)] (by simp only [mem_cons,not_mem_nil,or_false]; rintro p (rfl | rfl); exact ⟨ha,hb⟩; exact ⟨hc,hd⟩) (by omega) (by simp)) ?_
 refine gC (fun ht16=>?_) (fun ht16=>?_) (st1:=(3,0))
 ·cases ht16
 ·refine gt (aad (Con.rekeyB 21 rfl rfl rfl rfl (al3 tw ha hc (by omega))) (.cons (.tmp rfl) (.cons (.tmp rfl) (.cons (.tmp rfl) .nil))) (by first | exact hH0 | exact hH1 rfl | exact hH2 rfl rfl) rfl rfl) ?_
  refine gt (aad (Con.rekeyB 21 rfl rfl rfl rfl (al3 tw hb hd (by omega))) (.cons (.tmp rfl) (.cons (.tmp rfl) (.cons (.tmp rfl) .nil))) (by first | exact hH0 | exact hH1 rfl | exact hH2 rfl rfl) rfl rfl) ?_
  refine gt (aad (Con.rekeyB 21 rfl rfl rfl rfl (ak4 _ _ _)) (.cons (.tmp rfl) (.cons (.tmp rfl) .nil)) (by first | exact hH0 | exact hH1 rfl | exact hH2 rfl rfl) rfl rfl) ?_
  refine gD ?_
  refine gE2 ?_
  rfl
theorem a3h {x y:Rat} (hx:Qs x) (hy:Qs y):FnC prog 166 [qA x, qA y] (ptA (sh 0 (x:Rat)) (sh 0 (y:Rat))):=by
 refine gF0 func166 ?_
 refine gc (aw2 hx) ?_
 refine gc (aw2 hy) ?_
 refine gD ?_
 refine gE1 ?_
 first | rfl | (simp; done)
theorem aj5 {ts:List (List Rat)} {r e:Nat} (tw:Tw ts r) {a b c d:List Rat} (ha:Nm ts.length e a) (hb:Nm ts.length e b) (hc:Nm ts.length e c) (hd:Nm ts.length e d) {x y:Rat} (hx:Qb e x) (hy:Qb e y) (he:8 * e + 4 * kB r ts.length + 4 <= lm ts.length) :
  FnC prog 86 [ad7 ts,.agg [nA a,nA b,nA c,nA d],qA x,qA y] (.tup [ptA (sh ts.length (atX ts (dec ts.length a) (dec ts.length b) (dec ts.length c) x y)) (sh ts.length (atY ts (dec ts.length a) (dec ts.length b) (dec ts.length d) x y)),.v .nilIface]):=by
 have hlm:=aln ts.length
 have nx:=Nm.ofQ ha.five (Cb.one hx)
 have ny:=Nm.ofQ ha.five (Cb.one hy)
 have nX:=ajz tw ha hb nx ny
 have nY:=aj3 tw ha hb nx ny
 have z1:e <= 2 * (e + e + kB r ts.length) + 1:=by omega
 have z2:2 * (2 * (e + e + kB r ts.length) + 1) <= lm ts.length:=a5j he
 have hadd:=azf tw nX nY (hc.mono z1) (hd.mono z1) z2
 refine gF0 func86 ?_
 refine gc (aie (e:=e) tw [a,b,c,d] (by simp only [mem_cons,not_mem_nil,or_false]; rintro x (rfl | rfl | rfl | rfl) <;> assumption) (by omega) (by simp)) ?_
 refine gC (fun ht25=>?_) (fun ht25=>?_) (st1:=(3,0))
 ·cases ht25
 ·refine gc (a3h (hx.qs (by omega)) (hy.qs (by omega))) ?_
  refine gc (awn tw ha hb nx ny (by omega)) ?_
  refine gD ?_
  refine gC (fun ht41=>?_) (fun ht41=>?_) (st1:=(6,0))
  ·cases ht41
  ·refine gc hadd ?_
   refine gE2 ?_
   rw [ast,as4]; rfl
end Go.Lw
namespace Go.Lw
open Go.Proofs
theorem av0 (rs:List (List Rt)) (r e:Nat) (h:TR rs r) (xs:List (List Rt)) (hx:∀ a ∈ xs, NR a e) (he:e <= lm rs.length) (hl:xs.length <= 1000):FnC prog 98 [ae5 rs, .lst 1 (xs.map nR)] (i64 (aaz rs xs)):=by
 refine gF0 func98 ?_
 refine gc (aq6 rs r h) ?_
 refine gC (fun ht13=>?_) (fun ht13=>?_)
 ·have h1:=af6 ht13
  refine gE1 ?_
  rw [atr h1]
 ·have h1:=af0 ht13
  refine gl ?_
  refine gL1 [2,15,16] [2] (fun (i:Nat)=>[(17,some (i64 i))]) (fun _=>[]) (fun i=>i <= xs.length /\ ∀ x ∈ xs.take i,agk rs.length x = 0) (fun i=>xs.length - i) 0 ⟨zero_le _,fun x hx=>by simp at hx⟩ ?_
  rintro i ⟨hi,hj⟩ K1 hK1
  refine gC (fun ht18=>?_) (fun ht18=>?_)
  ·have hin : i < xs.length := by simpa [aaa] using ht18
   obtain ⟨a,ha⟩:=abt hin
   have hok:=hx a (mem_of_getElem? ha)
   have hone:aaz rs [a] = agk rs.length a:=as8 h1
   refine gi (aae ha) ?_
   refine gc (a3i rs r h a e hok he) ?_
   refine gC (fun ht28=>?_) (fun ht28=>?_)
   ·have h2:=af6 ht28
    refine gE1 ?_
    rw [hone] at h2 ⊢; rw [apl h1 ha hj h2]
   ·have h2:=af0 ht28
    rw [hone] at h2
    refine ga aat ?_
    exact gK1 hK1 (i + 1) ⟨hin,fun x hx=>by rw [aao ha] at hx; rcases List.mem_append.1 hx with h9 | h9; exact hj x h9; (rw [List.mem_singleton.1 h9]; exact h2)⟩
  ·have hin : i = xs.length := by have : xs.length <= i := (by simpa [aaa] using ht18); omega
   subst hin
   rw [take_length] at hj
   refine gE1 ?_
   rw [ai6 h1 hj]; rfl
theorem akc {ts:List (List Rat)} {r e f:Nat} (tw:Tw ts r) {a b:List Rat} (ha:Nm ts.length e a) (hb:Nm ts.length f b) (he:e + f <= lm ts.length):FnC prog 118 [ad7 ts, nA a, nA b] (nA (sh ts.length (T.add ts.length (dec ts.length a) (dec ts.length b)))):=by
 refine gF0 func118 ?_
 refine gc (bk9 tw ha hb he) ?_
 refine gE1 ?_
 first | rfl | (simp; done)
theorem aic {ts:List (List Rat)} {r e f:Nat} (tw:Tw ts r) {a b:List Rat} (ha:Nm ts.length e a) (hb:Nm ts.length f b) (he:e + f <= lm ts.length):FnC prog 48 [ad7 ts, nA a, nA b] (nA (sh ts.length (T.add ts.length (dec ts.length a) (T.neg ts.length (dec ts.length b))))):=by
 refine gF0 func48 ?_
 refine gc (bm5 tw ha hb he) ?_
 refine gE1 ?_
 first | rfl | (simp; done)
theorem adv {ts:List (List Rat)} {r e f:Nat} (tw:Tw ts r) {a b:List Rat} (ha:Nm ts.length e a) (hb:Nm ts.length f b) (he:e + f <= lm ts.length):FnC prog 59 [ad7 ts, nA a, nA b] (nA (sh ts.length (T.mul (aan ts) ts.length (dec ts.length a) (dec ts.length b)))):=by
 refine gF0 func59 ?_
 refine gc (bog tw ha hb he) ?_
 refine gE1 ?_
 first | rfl | (simp; done)
theorem amz {ts:List (List Rat)} {r e:Nat} (tw:Tw ts r) {a:List Rat} (ha:Nm ts.length e a) (he:e <= lm ts.length):FnC prog 44 [ad7 ts, nA a] (i64 (T.sgn (aan ts) ts.length (dec ts.length a))):=by
 refine gF0 func44 ?_
 refine gc (bhs tw ha he) ?_
 refine gE1 ?_
 first | rfl | (simp; done)
theorem acq {ts:List (List Rat)} {r e f:Nat} (tw:Tw ts r) {a b:List Rat} (ha:Nm ts.length e a) (hb:Nm ts.length f b) (he:e + f + 1 <= lm ts.length):FnC prog 27 [ad7 ts, nA a, nA b] (bl (eqT ts (dec ts.length a) (dec ts.length b))):=by
 refine gF0 func27 ?_
 refine gc (bn6 tw ha hb he) ?_
 refine gE1 ?_
 exact congrArg bl (ayd _)
theorem aou {ts:List (List Rat)} {r e:Nat} (tw:Tw ts r) {a b c d:List Rat} (ha:Nm ts.length e a) (hb:Nm ts.length e b) (hc:Nm ts.length e c) (hd:Nm ts.length e d) (he:2 * e + 1 <= lm ts.length):FnC prog 187 [ad7 ts, ptA a b, ptA c d] (bl (eqT ts (dec ts.length a) (dec ts.length c) && eqT ts (dec ts.length b) (dec ts.length d))):=by
 refine gF0 func187 ?_
 refine gc (acq tw ha hc (by omega)) ?_
 refine gcG (fun _=>(acq tw hb hd (by omega))) ?_
 refine gE1 ?_
 exact congrArg bl (adf _ _)
theorem arc {ts:List (List Rat)} {r e:Nat} (tw:Tw ts r) {a b c d:List Rat} (ha:Nm ts.length e a) (hb:Nm ts.length e b) (hc:Nm ts.length e c) (hd:Nm ts.length e d) (he:2 * (e + e + kB r ts.length) <= lm ts.length):FnC prog 108 [ad7 ts, ptA a b, ptA c d] (nA (sh ts.length (bfa ts (dec ts.length a) (dec ts.length b) (dec ts.length c) (dec ts.length d)))):=by
 refine gF0 func108 ?_
 refine gc (adv tw ha hc (by omega)) ?_
 refine gc (adv tw hb hd (by omega)) ?_
 refine gc (awc ▸ akc tw (ha.mul tw rfl hc) (hb.mul tw rfl hd) (by omega)) ?_
 refine gD ?_
 refine gE1 ?_
 first | rfl | (simp; done)
theorem ao9 {ts:List (List Rat)} {r e:Nat} (tw:Tw ts r) {a b c d:List Rat} (ha:Nm ts.length e a) (hb:Nm ts.length e b) (hc:Nm ts.length e c) (hd:Nm ts.length e d) (he:2 * (e + e + kB r ts.length) <= lm ts.length):FnC prog 105 [ad7 ts, ptA a b, ptA c d] (nA (sh ts.length (aoh ts (dec ts.length a) (dec ts.length b) (dec ts.length c) (dec ts.length d)))):=by
 refine gF0 func105 ?_
 refine gc (adv tw ha hd (by omega)) ?_
 refine gc (adv tw hb hc (by omega)) ?_
 refine gc (amk ▸ aic tw (ha.mul tw rfl hd) (hb.mul tw rfl hc) (by omega)) ?_
 refine gD ?_
 refine gE1 ?_
 first | rfl | (simp; done)
theorem ajn {ts:List (List Rat)} {r e:Nat} (tw:Tw ts r) {a b c d:List Rat} (ha:Nm ts.length e a) (hb:Nm ts.length e b) (hc:Nm ts.length e c) (hd:Nm ts.length e d) (he:2 * e <= lm ts.length):FnC prog 106 [ad7 ts, ptA a b, ptA c d] (ptA (sh ts.length (subT ts (dec ts.length a) (dec ts.length c))) (sh ts.length (subT ts (dec ts.length b) (dec ts.length d)))):=by
 refine gF0 func106 ?_
 refine gc (aic tw ha hc (by omega)) ?_
 refine gc (aic tw hb hd (by omega)) ?_
 refine gD ?_
 refine gE1 ?_
 first | rfl | (simp; done)
theorem apq {ts:List (List Rat)} {r e:Nat} (tw:Tw ts r) {a b c d:List Rat} (ha:Nm ts.length e a) (hb:Nm ts.length e b) (hc:Nm ts.length e c) (hd:Nm ts.length e d) (he:2 * e <= lm ts.length):FnC prog 52 [ad7 ts, ptA a b, ptA c d] (ptA (sh ts.length (T.add ts.length (dec ts.length a) (dec ts.length c))) (sh ts.length (T.add ts.length (dec ts.length b) (dec ts.length d)))):=by
 refine gF0 func52 ?_
 refine gc (akc tw ha hc (by omega)) ?_
 refine gc (akc tw hb hd (by omega)) ?_
 refine gD ?_
 refine gE1 ?_
 first | rfl | (simp; done)
theorem anu {ts:List (List Rat)} {r e:Nat} (tw:Tw ts r) {a b c d:List Rat} (ha:Nm ts.length e a) (hb:Nm ts.length e b) (hc:Nm ts.length e c) (hd:Nm ts.length e d) (he:2 * (e + e + kB r ts.length) <= lm ts.length):FnC prog 53 [ad7 ts, nA a, nA b, ptA c d] (ptA (sh ts.length (a9w ts (dec ts.length a) (dec ts.length b) (dec ts.length c) (dec ts.length d))) (sh ts.length (bab ts (dec ts.length a) (dec ts.length b) (dec ts.length c) (dec ts.length d)))):=by
 refine gF0 func53 ?_
 refine gc (adv tw ha hc (by omega)) ?_
 refine gc (adv tw hb hd (by omega)) ?_
 refine gc (amk ▸ aic tw (ha.mul tw rfl hc) (hb.mul tw rfl hd) (by omega)) ?_
 refine gc (adv tw hb hc (by omega)) ?_
 refine gc (adv tw ha hd (by omega)) ?_
 refine gc (awc ▸ akc tw (hb.mul tw rfl hc) (ha.mul tw rfl hd) (by omega)) ?_
 refine gD ?_
 refine gE1 ?_
 first | rfl | (simp; done)
theorem aok {ts:List (List Rat)} {r e:Nat} (tw:Tw ts r) {a b c d p q:List Rat} (ha:Nm ts.length e a) (hb:Nm ts.length e b) (hc:Nm ts.length e c) (hd:Nm ts.length e d) (hp:Nm ts.length e p) (hq:Nm ts.length e q)
  (he:8 * e + 10 + 2 * kB r ts.length <= lm ts.length) :
  FnC prog 119 [ad7 ts,ptA a b,ptA c d,ptA p q] (i64 (T.sgn (aan ts) ts.length (aib ts (dec ts.length a) (dec ts.length b) (dec ts.length c) (dec ts.length d) (dec ts.length p) (dec ts.length q)))):=by
 have ho:=aq9 tw ha hb hc hd hp hq
 refine gF0 func119 ?_
 refine gc (ajn tw hc hd ha hb (by omega)) ?_
 refine gc (ajn tw hp hq ha hb (by omega)) ?_
 refine gc (ark ▸ ao9 tw (hc.sub ha) (hd.sub hb) (hp.sub ha) (hq.sub hb) (by omega)) ?_
 refine gc (amz tw ho (by omega)) ?_
 refine gD ?_
 refine gE1 ?_
 rw [aby]
theorem a0v {x y:Rat} (hx:Qs x) (hy:Qs y):FnC prog 199 [qA x, qA y] (ptA (sh 0 (x:Rat)) (sh 0 (y:Rat))):=by
 refine gF0 func199 ?_
 refine gc (azr hx) ?_
 refine gc (azr hy) ?_
 refine gD ?_
 refine gE1 ?_
 first | rfl | (simp; done)
theorem a0q {ts:List (List Rat)} {r e:Nat} (tw:Tw ts r) {a b c d:List Rat} (ha:Nm ts.length e a) (hb:Nm ts.length e b) (hc:Nm ts.length e c) (hd:Nm ts.length e d) {x y:Rat} (hx:Qb e x) (hy:Qb e y) (he:8 * e + 4 * kB r ts.length + 4 <= lm ts.length) :
  FnC prog 198 [ad7 ts,.agg [nA a,nA b,nA c,nA d],qA x,qA y] (ptA (sh ts.length (atX ts (dec ts.length a) (dec ts.length b) (dec ts.length c) x y)) (sh ts.length (atY ts (dec ts.length a) (dec ts.length b) (dec ts.length d) x y))):=by
 have hlm:=aln ts.length
 have nx:=Nm.ofQ ha.five (Cb.one hx)
 have ny:=Nm.ofQ ha.five (Cb.one hy)
 have nX:=ajz tw ha hb nx ny
 have nY:=aj3 tw ha hb nx ny
 have z1:e <= 2 * (e + e + kB r ts.length) + 1:=by omega
 have z2:2 * (2 * (e + e + kB r ts.length) + 1) <= lm ts.length:=a5j he
 have hadd:=apq tw nX nY (hc.mono z1) (hd.mono z1) z2
 refine gF0 func198 ?_
 refine gc (a0v (hx.qs (by omega)) (hy.qs (by omega))) ?_
 refine gc (anu tw ha hb nx ny (by omega)) ?_
 refine gc hadd ?_
 refine gD ?_
 refine gE1 ?_
 rw [ast,as4]; rfl
theorem axv (n:Int) (h:-9223372036854775808 <= n /\ n <= 9223372036854775807):FnC prog 109 [i64 n] (nA (sh 0 ((n:Rat):Rat))):=by
 refine gF0 func109 ?_
 refine gc (aml n h) ?_
 refine gc (azr (awf h)) ?_
 refine gE1 ?_
 first | rfl | (simp; done)
theorem aor {ts:List (List Rat)} {r e:Nat} (tw:Tw ts r) {a b c d p q u v:List Rat} (ha:Nm ts.length e a) (hb:Nm ts.length e b) (hc:Nm ts.length e c) (hd:Nm ts.length e d) (hp:Nm ts.length e p) (hq:Nm ts.length e q) (hu:Nm ts.length e u) (hv:Nm ts.length e v) (he:2 * e + 1 <= lm ts.length) :
  FnC prog 47 [ad7 ts,.agg [nA a,nA b,nA c,nA d],.agg [nA p,nA q,nA u,nA v]] (bl (eqT ts (dec ts.length a) (dec ts.length p) && eqT ts (dec ts.length b) (dec ts.length q) && eqT ts (dec ts.length c) (dec ts.length u) && eqT ts (dec ts.length d) (dec ts.length v))):=by
 refine gF0 func47 ?_
 refine gc (acq tw ha hp (by omega)) ?_
 refine gcG (fun _=>(acq tw hb hq (by omega))) ?_
 refine gcG (fun _=>(acq tw hc hu (by omega))) ?_
 refine gcG (fun _=>(acq tw hd hv (by omega))) ?_
 refine gE1 ?_
 exact congrArg bl (ax6 _ _ _ _)
theorem aza:FnC prog 185 [] (.agg [nA [1], nA [], nA [], nA []]):=by
 refine gF0 func185 ?_
 refine gc (aml 1 (by omega)) ?_
 refine gc (azr (awf (n:=1) (by omega))) ?_
 refine gR ?_
 exact adc (.agg (.cons (.refl _) (.cons (.nil _ _ _) (.cons (.nil _ _ _) (.cons (.nil _ _ _) .nil)))) rfl)
end Go.Lw
namespace Go.Lw
open Go.Proofs
end Go.Lw
namespace Go.Lw
open Go.Proofs
section
variable {ts:List (List Rat)} {u k:Nat} {a b a2 b2:List Rat} {x y x2 y2:Et ts} {w v w' v' w2 v2 w3 v3:Nat}
theorem a42 (c:Ct ts u k) {R:Nat} (h:eB R ts.length <= k):2 * (2500 * 1000000 + 2500 * 1000000 + kB R ts.length) <= lm ts.length:=by
 have h1:=c.kk h
 have h2:=aea ts.length
 omega
theorem asu [c : Ct ts u k] [ha : Zl ts u k a x w v] [hb : Zl ts u k b y w' v'] [ha2 : Zl ts u k a2 x2 w2 v2] [hb2 : Zl ts u k b2 y2 w3 v3] (h : w + v + (w' + v') + (w2 + v2 + (w3 + v3)) <= 2500 := by decide) :
  FnC prog 106 [ad7 ts,ptA a b,ptA a2 b2] (ptA (sX (x - x2)) (sX (y - y2))):=by
 obtain ⟨R,tw,hk⟩:=c.ex
 have h0:=a42 c hk
 have h1:=ajn (e:=2500 * 1000000) tw (ha.up c (by omega)) (hb.up c (by omega)) (ha2.up c (by omega)) (hb2.up c (by omega)) (by omega)
 rw [ha.eq,hb.eq,ha2.eq,hb2.eq] at h1
 exact h1
theorem baa [c : Ct ts u k] [ha : Zl ts u k a x w v] [hb : Zl ts u k b y w' v'] [ha2 : Zl ts u k a2 x2 w2 v2] [hb2 : Zl ts u k b2 y2 w3 v3] (h : w + v + (w' + v') + (w2 + v2 + (w3 + v3)) <= 2500 := by decide) :
  FnC prog 108 [ad7 ts,ptA a b,ptA a2 b2] (nA (sX (dotE x y x2 y2))):=by
 obtain ⟨R,tw,hk⟩:=c.ex
 have h0:=a42 c hk
 have h1:=arc (e:=2500 * 1000000) tw (ha.up c (by omega)) (hb.up c (by omega)) (ha2.up c (by omega)) (hb2.up c (by omega)) (by omega)
 rw [ha.eq,hb.eq,ha2.eq,hb2.eq] at h1
 exact h1
theorem a0u [c : Ct ts u k] [ha : Zl ts u k a x w v] [hb : Zl ts u k b y w' v'] [ha2 : Zl ts u k a2 x2 w2 v2] [hb2 : Zl ts u k b2 y2 w3 v3] (h : w + v + (w' + v') + (w2 + v2 + (w3 + v3)) <= 2500 := by decide) :
  FnC prog 105 [ad7 ts,ptA a b,ptA a2 b2] (nA (sX (crsE x y x2 y2))):=by
 obtain ⟨R,tw,hk⟩:=c.ex
 have h0:=a42 c hk
 have h1:=ao9 (e:=2500 * 1000000) tw (ha.up c (by omega)) (hb.up c (by omega)) (ha2.up c (by omega)) (hb2.up c (by omega)) (by omega)
 rw [ha.eq,hb.eq,ha2.eq,hb2.eq] at h1
 exact h1
theorem a5y [c : Ct ts u k] [ha : Zl ts u k a x w v] [hb : Zl ts u k b y w' v'] [ha2 : Zl ts u k a2 x2 w2 v2] [hb2 : Zl ts u k b2 y2 w3 v3] (h : w + v + (w' + v') + (w2 + v2 + (w3 + v3)) <= 2500 := by decide) :
  FnC prog 91 [ad7 ts,ptA a b,ptA a2 b2] (.tup [nA (sX (dotE x y x2 y2)),.v .nilIface]):=by
 obtain ⟨R,tw,hk⟩:=c.ex
 have h0:=a42 c hk
 have h1:=apy (e:=2500 * 1000000) tw (ha.up c (by omega)) (hb.up c (by omega)) (ha2.up c (by omega)) (hb2.up c (by omega)) (by omega)
 rw [ha.eq,hb.eq,ha2.eq,hb2.eq] at h1
 exact h1
def atXE (c s X:Et ts) (p q:Rat):Et ts:=(c * qE p - s * qE q) + X
def atYE (c s Y:Et ts) (p q:Rat):Et ts:=(s * qE p + c * qE q) + Y
instance Zu.atXE [c:Ct ts u k] {x y z:Et ts} {p q:Rat} {w1 v1 w2 v2 w3 v3 w4 w5:Nat} [Zu u k x w1 v1] [Zu u k y w2 v2] [Zu u k z w3 v3] [Qz u p w4] [Qz u q w5]:Zu u k (atXE x y z p q) (w1 + w4 + (w2 + w5) + w3) (v1 + 0 + 1 + (v2 + 0 + 1) + 1 + v3 + 1) :=
  (inferInstance:Zu u k ((x * Lw.qE p - y * Lw.qE q) + z) _ _)
instance Zu.atYE [c:Ct ts u k] {x y z:Et ts} {p q:Rat} {w1 v1 w2 v2 w3 v3 w4 w5:Nat} [Zu u k x w1 v1] [Zu u k y w2 v2] [Zu u k z w3 v3] [Qz u p w4] [Qz u q w5]:Zu u k (atYE x y z p q) (w2 + w4 + (w1 + w5) + w3) (v2 + 0 + 1 + (v1 + 0 + 1) + 1 + v3 + 1) :=
  (inferInstance:Zu u k ((y * Lw.qE p + x * Lw.qE q) + z) _ _)
end
end Go.Lw
namespace Go.Lw
open Go.Proofs
def u8 (n:Nat):AV:=.v (.int .u8 n)
theorem ap2 {p q:Bool} {a b:Nat} {c:Nat} (hp:p = decide (a <= c)) (hq:q = decide (c <= b)):cond p q false = decide (a <= c /\ c <= b):=by
 subst hp; subst hq
 by_cases h:a <= c
 ·simp [h]
 ·simp [h]
theorem bag (c k:Nat):aaa .geq (c:Int) (k:Int) = decide (k <= c):=by simp only [aaa,decide_eq_decide]; omega
theorem a8b (c k:Nat):aaa .leq (c:Int) (k:Int) = decide (c <= k):=by simp only [aaa,decide_eq_decide]; omega
theorem bbq (c:Nat):cond (cond (aaa .geq (c:Int) 97) (aaa .leq (c:Int) 122) false) true (cond (aaa .geq (c:Int) 65) (aaa .leq (c:Int) 90) false) = ab9 c:=by
 have e1:cond (aaa .geq (c:Int) 97) (aaa .leq (c:Int) 122) false = decide (97 <= c /\ c <= 122):=ap2 (bag c 97) (a8b c 122)
 have e2:cond (aaa .geq (c:Int) 65) (aaa .leq (c:Int) 90) false = decide (65 <= c /\ c <= 90):=ap2 (bag c 65) (a8b c 90)
 rw [e1,e2]
 unfold ab9
 cases decide (97 <= c /\ c <= 122) <;> rfl
theorem bdp (c:Nat):cond (cond (aaa .geq (c:Int) 65) (aaa .leq (c:Int) 90) false) true (cond (aaa .geq (c:Int) 97) (aaa .leq (c:Int) 122) false) = ab9 c:=by
 have e1:cond (aaa .geq (c:Int) 97) (aaa .leq (c:Int) 122) false = decide (97 <= c /\ c <= 122):=ap2 (bag c 97) (a8b c 122)
 have e2:cond (aaa .geq (c:Int) 65) (aaa .leq (c:Int) 90) false = decide (65 <= c /\ c <= 90):=ap2 (bag c 65) (a8b c 90)
 rw [e1,e2]
 unfold ab9
 cases decide (97 <= c /\ c <= 122) <;> cases decide (65 <= c /\ c <= 90) <;> rfl
theorem a80 (c:Nat):cond (aaa .geq (c:Int) 48) (aaa .leq (c:Int) 57) false = ar8 c:=ap2 (bag c 48) (a8b c 57)
theorem a5d (c:Nat):cond (cond (ab9 c) true (ar8 c)) true (aaa .eql (c:Int) 95) = apv c:=by
 unfold apv
 have:aaa .eql (c:Int) 95 = decide (c = 95):=by
  rw [Bool.eq_iff_iff]; simp only [aaa,beq_iff_eq,decide_eq_true_eq]; omega
 rw [this]
 cases ab9 c <;> cases ar8 c <;> rfl
theorem aku (c:Nat):FnC prog 290 [u8 c] (bl (ab9 c)):=by
 refine gF0 func290 ?_
 refine gE1 ?_
 exact congrArg bl (bbq c)
theorem aux (c:Nat):FnC prog 358 [u8 c] (bl (ar8 c)):=by
 refine gF0 func358 ?_
 refine gE1 ?_
 exact congrArg bl (a80 c)
theorem axx (c:Nat):FnC prog 291 [u8 c] (bl (apv c)):=by
 refine gF0 func291 ?_
 refine gc (aku c) ?_
 refine gcG (fun _=>(aux c)) ?_
 refine gE1 ?_
 exact congrArg bl (a5d c)
theorem ako (c:Nat):FnC prog 234 [u8 c] (bl (ab9 c)):=by
 refine gF0 func234 ?_
 refine gE1 ?_
 exact congrArg bl (bdp c)
theorem au4 (c:Nat):FnC prog 236 [u8 c] (bl (ar8 c)):=by
 refine gF0 func236 ?_
 refine gE1 ?_
 exact congrArg bl (a80 c)
theorem awv (s:ByteArray) (hs:s.size <= 281474976710656):FnC prog 222 [.v (.string s)] (i64 (agy s)):=by
 refine gF0 func222 ?_
 refine gs (acd rfl rfl rfl (fun h=>amh (.opt rfl (o1 h)) (.const _) T9 rfl (by omega) (by have:=a5m h; omega) rfl)) ?_
 refine gcG (fun _=>(aku (acv s 0))) ?_
 refine gC (fun ht11=>?_) (fun ht11=>?_)
 ·have h0:agy s = 0:=a5r ht11
  refine gE1 ?_
  rw [h0]; rfl
 ·obtain ⟨h0, h1⟩:=a68 ht11
  refine gL1 [0] [] (fun (n:Nat)=>[(3,some (i64 n))]) (fun _=>[]) (fun n=>1 <= n /\ n <= s.size /\ ahj s 1 (s.size - 1) = ahj s n (s.size - n)) (fun n=>s.size - n) 1 ⟨le_refl _,h0,rfl⟩ ?_
  rintro n ⟨hn1,hn,hw⟩ K1 hK1
  refine gs (acd rfl rfl rfl (fun h=>amh (.opt rfl (o1 h)) (.opt rfl (o1 h)) T9 rfl (by omega) (by have:=abd h; omega) rfl)) ?_
  refine gcG (fun _=>(axx (acv s n))) ?_
  refine gC (fun ht21=>?_) (fun ht21=>?_)
  ·have h2:n < s.size /\ apv (acv s n) = true:=bce ht21
   refine ga aat ?_
   exact gK1 hK1 (n + 1) ⟨by omega,by omega,by rw [hw,show s.size - n = (s.size - (n + 1)) + 1 by omega]; simp only [ahj,h2.2,if_true]⟩
  ·have h2:n < s.size -> apv (acv s n) = false:=a5z ht21
   have h3:agy s = n:=by
    unfold agy
    rw [if_pos ⟨h0,h1⟩,hw]
    rcases lt_or_ge n s.size with h | h
    ·rw [show s.size - n = (s.size - (n + 1)) + 1 by omega]
     simp only [ahj,h2 h,Bool.false_eq_true,if_false]
    ·rw [show s.size - n = 0 by omega]; rfl
   refine gE1 ?_
   rw [h3]
theorem afv (s:ByteArray) (hs:s.size <= 281474976710656):FnC prog 138 [.v (.string s)] (bl (alm s)):=by
 refine gF0 func138 ?_
 refine gc (awv s hs) ?_
 refine gE1 ?_
 exact congrArg bl (a9v s)
theorem ao1 (s:ByteArray) (i:Nat):FnC prog 235 [.v (.string s), i64 i] (u8 (acv s i)):=by
 refine gF0 func235 ?_
 refine gC (fun ht8=>?_) (fun ht8=>?_)
 ·have h0:=abd ht8
  refine gs (amh (.tmp rfl) (.tmp rfl) T9 rfl (by omega) (by omega) rfl) ?_
  refine gE1 ?_
  rfl
 ·have h0:=a6e ht8
  refine gE1 ?_
  rw [a2e (by omega)]; rfl
theorem atk (s:ByteArray) (hs:s.size <= 281474976710656):FnC prog 147 [.v (.string s), i64 0] (i64 ((if ab9 (acv s 0) then ahj s 0 s.size else 0:Nat))):=by
 refine gF0 func147 ?_
 refine gc (ao1 s 0) ?_
 refine gc (ako (acv s 0)) ?_
 refine gC (fun ht9=>?_) (fun ht9=>?_)
 ·have h0 : ab9 (acv s 0) = false := by simpa using ht9
  refine gE1 ?_
  rw [h0]; rfl
 ·have h0 : ab9 (acv s 0) = true := by simpa using ht9
  refine gL1 [0] [] (fun (n:Nat)=>[(1,some (i64 n))]) (fun _=>[]) (fun n=>n <= s.size /\ ahj s 0 s.size = ahj s n (s.size - n)) (fun n=>s.size - n) 0 ⟨zero_le _,rfl⟩ ?_
  rintro n ⟨hn,hw⟩ K1 hK1
  refine gc (ao1 s n) ?_
  refine gc (ako (acv s n)) ?_
  refine gcG (fun _=>(ao1 s n)) ?_
  refine gcG (fun _=>(au4 (acv s n))) ?_
  refine gcG (fun _=>(ao1 s n)) ?_
  refine gC (fun ht26=>?_) (fun ht26=>?_)
  ·have h1:apv (acv s n) = true:=(a5d _).symm.trans ht26
   have h2:n < s.size:=by
    rcases lt_or_ge n s.size with h | h
    ·exact h
    ·rw [a2e h] at h1; cases h1
   refine ga aat ?_
   exact gK1 hK1 (n + 1) ⟨by omega,by rw [hw,show s.size - n = (s.size - (n + 1)) + 1 by omega]; simp only [ahj,h1,if_true]⟩
  ·have h1:apv (acv s n) = false:=(a5d _).symm.trans ht26
   have h2:ahj s 0 s.size = n:=by
    rw [hw]
    rcases lt_or_ge n s.size with h | h
    ·rw [show s.size - n = (s.size - (n + 1)) + 1 by omega]
     simp only [ahj,h1,Bool.false_eq_true,if_false]
    ·rw [show s.size - n = 0 by omega]; rfl
   refine gE1 ?_
   rw [h0,h2]; rfl
theorem ah4 (s:ByteArray) (hs:s.size <= 281474976710656):FnC prog 71 [.v (.string s)] (bl (alm s)):=by
 refine gF0 func71 ?_
 refine gcG (fun _=>(atk s hs)) ?_
 refine gE1 ?_
 exact congrArg bl (a3g s)
end Go.Lw
namespace Go.Lw
open Go.Proofs
theorem agj (i:Int) (n:Nat):FnC prog 224 [i64 i, i64 n] (bl (inB i n)):=by
 refine gF0 func224 ?_
 refine gE1 ?_
 exact congrArg bl (a1c i n)
theorem ar1 (bs:List Bd) (hbs:∀ b ∈ bs, b.ok) (hl:bs.length <= 281474976710656):FnC prog 139 [.lst 2 (bs.map Bd.av)] (ah7 (ad6 bs.length (bdE bs))):=by
 refine gF0 func139 ?_
 refine gl ?_
 refine gL1 [0,11,12] [] (fun (i:Nat)=>[(13,some (i64 i))]) (fun _=>[]) (fun i=>i <= bs.length /\ ∀ j,j < i -> bdE bs j = 0) (fun i=>bs.length - i) 0 ⟨zero_le _,fun j h=>by omega⟩ ?_
 rintro i ⟨hi,hj⟩ K1 hK1
 refine gC (fun ht14=>?_) (fun ht14=>?_)
 ·have hin:=abd ht14
  obtain ⟨b,hb⟩:=abt hin
  have hbd:bs.getD i default = b:=aaf hb
  have hbo:=hbs b (mem_of_getElem? hb)
  have hbdup:=afp Bd.name hb
  refine gi (aae hb) ?_
  refine gc (afv b.name hbo.name) ?_
  refine gC (fun ht21=>?_) (fun ht21=>?_)
  ·have h1:=adh ht21
   have e1:bdE bs i = 5:=by unfold bdE; rw [hbd,if_pos h1]
   refine gE1 ?_
   rw [aa2 hin hj (by rw [e1]; decide),e1]; rfl
  ·have h1:=adi ht21
   refine gs (aaq (.tmp rfl) (.none _) (.some _ (.tmp rfl) (by omega)) T22 rfl T80 rfl (by omega) (by simp only [length_map]; omega) rfl) ?_
   refine ge rfl ?_
   refine gL1 [0,3,4,11,12,13] [4] (fun (k:Nat)=>[(25,some (.lst 2 ((bs.take i).map Bd.av))),(26,some (i64 i)),(27,some (i64 k))]) (fun _=>[]) (fun k=>k <= i /\ (bs.take k).any (fun y=>eqS y.name b.name) = false) (fun k=>i - k) 0 ⟨zero_le _,rfl⟩ ?_ (h1:=(.cons rfl (Sub.of (bm9 2 Bd.av bs i)) (.cons rfl (Sub.int (by simp; omega)) (.k .nil))))
   rintro k ⟨hk,hd⟩ K2 hK2
   refine gC (fun ht28=>?_) (fun ht28=>?_)
   ·have hkn:=abd ht28
    obtain ⟨y,hy'⟩:∃ y,(bs.take i)[k]? = some y:=abt (by simp; omega)
    have hy:=(amm hy').1
    refine gi (aae hy') ?_
    refine gC (fun ht35=>?_) (fun ht35=>?_)
    ·have h2:eqS y.name b.name = true:=ht35
     have e1:bdE bs i = 6:=by unfold bdE; rw [hbd,if_neg (by rw [h1]; decide),if_pos (by rw [hbdup]; exact ahn hy hkn h2)]
     refine gE1 ?_
     rw [aa2 hin hj (by rw [e1]; decide),e1]; rfl
    ·have h2:eqS y.name b.name = false:=ht35
     refine ga aat ?_
     exact gK1 hK2 (k + 1) ⟨hkn,aew hy hd h2⟩
   ·have hkn:=aaj hk ht28
    subst hkn
    have hnd:¬ axb (bs.map Bd.name) k = true:=by rw [hbdup,hd]; decide
    refine gl ?_
    refine gC (fun ht41=>?_) (fun ht41=>?_)
    ·have h3:8 < b.pts.length:=alq ht41
     have e1:bdE bs k = 4:=by unfold bdE; rw [hbd,if_neg (by rw [h1]; decide),if_neg hnd,if_pos h3]
     refine gE1 ?_
     rw [aa2 hin hj (by rw [e1]; decide),e1]; rfl
    ·have h3:b.pts.length <= 8:=anq ht41
     have e1:bdE bs k = ad6 b.pts.length (mkE b.pts):=by unfold bdE; rw [hbd,if_neg (by rw [h1]; decide),if_neg hnd,if_neg (by omega)]
     refine gl ?_
     refine gL1 [0,4,11,12,13,44,45] [4] (fun (p:Nat)=>[(46,some (i64 p))]) (fun _=>[]) (fun p=>p <= b.pts.length /\ ∀ j,j < p -> mkE b.pts j = 0) (fun p=>b.pts.length - p) 0 ⟨zero_le _,fun j h=>by omega⟩ ?_
     rintro p ⟨hp,hpj⟩ K3 hK3
     refine gC (fun ht47=>?_) (fun ht47=>?_)
     ·have hpn:=abd ht47
      obtain ⟨m,hm⟩:=abt hpn
      have hmd:b.pts.getD p default = m:=aaf hm
      have hmm:=mem_of_getElem? hm
      have hmdup:=afp Mk.name hm
      have hmo:=hbo.pts m hmm
      refine gi (aae hm) ?_
      refine gc (afv m.name (hbo.names m hmm)) ?_
      refine gC (fun ht54=>?_) (fun ht54=>?_)
      ·have h4:=adh ht54
       have e2:mkE b.pts p = 5:=by unfold mkE; rw [hmd,if_pos h4]
       have e3:bdE bs k = 5:=by rw [e1,aa2 hpn hpj (by rw [e2]; decide),e2]
       refine gE1 ?_
       rw [aa2 hin hj (by rw [e3]; decide),e3]; rfl
      ·have h4:=adi ht54
       refine gs (aaq (.tmp rfl) (.none _) (.some _ (.tmp rfl) (by omega)) T78 rfl T82 rfl (by omega) (by simp only [length_map]; omega) rfl) ?_
       refine ge rfl ?_
       refine gL1 [0,4,8,11,12,13,44,45,46] [4,8] (fun (q:Nat)=>[(59,some (.lst 7 ((b.pts.take p).map Mk.av))),(60,some (i64 p)),(61,some (i64 q))]) (fun _=>[]) (fun q=>q <= p /\ (b.pts.take q).any (fun y=>eqS y.name m.name) = false) (fun q=>p - q) 0 ⟨zero_le _,rfl⟩ ?_ (h1:=(.cons rfl (Sub.of (bm9 7 Mk.av b.pts p)) (.cons rfl (Sub.int (by simp; omega)) (.k .nil))))
       rintro q ⟨hq,hqd⟩ K4 hK4
       refine gC (fun ht62=>?_) (fun ht62=>?_)
       ·have hqn:=abd ht62
        obtain ⟨y,hy'⟩:∃ y,(b.pts.take p)[q]? = some y:=abt (by simp; omega)
        have hy:=(amm hy').1
        refine gi (aae hy') ?_
        refine gC (fun ht69=>?_) (fun ht69=>?_)
        ·have h5:eqS y.name m.name = true:=ht69
         have e2:mkE b.pts p = 6:=by unfold mkE; rw [hmd,if_neg (by rw [h4]; decide),if_pos (by rw [hmdup]; exact ahn hy hqn h5)]
         have e3:bdE bs k = 6:=by rw [e1,aa2 hpn hpj (by rw [e2]; decide),e2]
         refine gE1 ?_
         rw [aa2 hin hj (by rw [e3]; decide),e3]; rfl
        ·have h5:eqS y.name m.name = false:=ht69
         refine ga aat ?_
         exact gK1 hK4 (q + 1) ⟨hqn,aew hy hqd h5⟩
       ·have hqn:=aaj hq ht62
        subst hqn
        have hmnd:¬ axb (b.pts.map Mk.name) q = true:=by rw [hmdup,hqd]; decide
        refine gc (acg m.x hmo.x) ?_
        refine gcG (fun _=>(acg m.y hmo.y)) ?_
        refine gC (fun ht81=>?_) (fun ht81=>?_)
        ·have h6:=bfd ht81
         have e2:mkE b.pts q = 3:=by unfold mkE; rw [hmd,if_neg (by rw [h4]; decide),if_neg hmnd,if_neg (by rintro ⟨g1,g2⟩; rcases h6 with g | g; (rw [g1] at g; cases g); (rw [g2] at g; cases g))]
         have e3:bdE bs k = 3:=by rw [e1,aa2 hpn hpj (by rw [e2]; decide),e2]
         refine gE1 ?_
         rw [aa2 hin hj (by rw [e3]; decide),e3]; rfl
        ·have h6:=bf8 ht81
         have e2:mkE b.pts q = 0:=by unfold mkE; rw [hmd,if_neg (by rw [h4]; decide),if_neg hmnd,if_pos h6]
         refine ga aat ?_
         exact gK1 hK3 (q + 1) ⟨hpn,fun j h9=>by rcases lt_or_ge j q with g | g; exact hpj j g; (have:j = q:=by omega); subst this; exact e2⟩
     ·have hpn:=aaj hp ht47
      subst hpn
      have e2:bdE bs k = 0:=e1.trans (aeo hpj)
      refine ga aat ?_
      exact gK1 hK1 (k + 1) ⟨hin,fun j h9=>by rcases lt_or_ge j k with g | g; exact hj j g; (have:j = k:=by omega); subst this; exact e2⟩
 ·have hin:=aaj hi ht14
  subst hin
  refine gE1 ?_
  rw [aeo hj]; rfl
end Go.Lw
namespace Go.Lw
open Go.Proofs
theorem at8 (l:Li) (hl:l.ok) (j:Jt):FnC prog 223 [l.av, j.av] (ah7 (jt0 l j)):=by
 refine gF0 func223 ?_
 refine gC (fun ht15=>?_) (fun ht15=>?_)
 ·have h1:=bgj ht15
  refine gE1 ?_
  unfold jt0; rw [if_pos h1]; rfl
 ·have h1:=bfy ht15
  refine gl ?_
  refine gc (agj j.a l.bodies.length) ?_
  refine glG ?_
  refine gcG (fun _=>(agj j.b l.bodies.length)) ?_
  refine gC (fun ht32=>?_) (fun ht32=>?_)
  ·have h2:=bfd ht32
   refine gE1 ?_
   unfold jt0; rw [if_neg h1,if_pos h2]; rfl
  ·have h2:=bf8 ht32
   have h2n:¬ (inB j.a l.bodies.length = false \/ inB j.b l.bodies.length = false):=by rw [h2.1,h2.2]; simp
   obtain ⟨A,hA,pA,mA,zA0⟩:=aps h2.1
   obtain ⟨B,hB,pB,mB,zB0⟩:=aps h2.2
   refine gC (fun ht38=>?_) (fun ht38=>?_)
   ·have h3:=aes ht38
    refine gE1 ?_
    unfold jt0; rw [if_neg h1,if_neg h2n,if_pos h3]; rfl
   ·have h3:=afr ht38
    refine gi (aae hB) ?_
    refine gi (aae hA) ?_
    refine gl ?_
    refine gc (agj j.point A.pts.length) ?_
    refine glG ?_
    refine gcG (fun _=>(agj j.on B.pts.length)) ?_
    refine gD ?_
    refine gC (fun ht66=>?_) (fun ht66=>?_)
    ·have h4:=bfd ht66
     refine gE1 ?_
     unfold jt0; rw [if_neg h1,if_neg h2n,if_neg h3,pA,pB,if_pos h4]; rfl
    ·have h4:=bf8 ht66
     have h4n:¬ (inB j.point A.pts.length = false \/ inB j.on B.pts.length = false):=by rw [h4.1,h4.2]; simp
     refine gC (fun ht70=>?_) (fun ht70=>?_)
     ·have h5:=aes ht70
      refine gC (fun ht73=>?_) (fun ht73=>?_)
      ·have h6:=ajb ht73
       refine gE1 ?_
       unfold jt0; rw [if_neg h1,if_neg h2n,if_neg h3,pA,pB,if_neg h4n,if_pos h5,if_pos h6]; rfl
      ·have h6:=ams ht73
       refine gE1 ?_
       unfold jt0; rw [if_neg h1,if_neg h2n,if_neg h3,pA,pB,if_neg h4n,if_pos h5,if_neg (by rw [h6]; simp)]; rfl
     ·have h5:=afr ht70
      refine gl ?_
      refine gc (agj j.to B.pts.length) ?_
      refine gC (fun ht80=>?_) (fun ht80=>?_)
      ·have h6:=adh ht80
       refine gE1 ?_
       unfold jt0; rw [if_neg h1,if_neg h2n,if_neg h3,pA,pB,if_neg h4n,if_neg h5,if_pos h6]; rfl
      ·have h6:=adi ht80
       obtain ⟨m1,g1,d1,mm1,z1⟩:=asg h4.2
       obtain ⟨m2,g2,d2,mm2,z2⟩:=asg h6
       have mo1:=(hl.bodies B mB).pts m1 mm1
       have mo2:=(hl.bodies B mB).pts m2 mm2
       refine gi (aae g1) ?_
       refine gi (aae g2) ?_
       refine gD ?_
       refine gc (akl m1.x m2.x mo1.x mo2.x) ?_
       refine gcG (fun _=>(akl m1.y m2.y mo1.y mo2.y)) ?_
       refine gC (fun ht105=>?_) (fun ht105=>?_)
       ·have h7:=bfp ht105
        refine gE1 ?_
        unfold jt0; rw [if_neg h1,if_neg h2n,if_neg h3,pA,pB,if_neg h4n,if_neg h5,if_neg (by rw [h6]; decide),d1,d2,if_pos h7]; rfl
       ·have h7:=bfb ht105
        refine gE1 ?_
        unfold jt0; rw [if_neg h1,if_neg h2n,if_neg h3,pA,pB,if_neg h4n,if_neg h5,if_neg (by rw [h6]; decide),d1,d2,if_neg h7]; rfl
theorem ary (l:Li) (hl:l.ok):FnC prog 140 [l.av] (ah7 (aq0 l)):=by
 have hlj:=hl.lj
 refine gF0 func140 ?_
 refine gl ?_
 refine gC (fun ht11=>?_) (fun ht11=>?_)
 ·have h0:16 < l.joints.length:=alq ht11
  refine gE1 ?_
  unfold aq0; rw [if_pos h0]; rfl
 ·have h0:l.joints.length <= 16:=anq ht11
  have e0:aq0 l = ad6 l.joints.length (jtE l):=by unfold aq0; rw [if_neg (by omega)]
  refine gl ?_
  refine gL1 [1,14,15] [1] (fun (i:Nat)=>[(16,some (i64 i))]) (fun _=>[]) (fun i=>i <= l.joints.length /\ ∀ j,j < i -> jtE l j = 0) (fun i=>l.joints.length - i) 0 ⟨zero_le _,fun j h=>by omega⟩ ?_
  rintro i ⟨hi,hj⟩ K1 hK1
  refine gC (fun ht17=>?_) (fun ht17=>?_)
  ·have hin:=abd ht17
   obtain ⟨b,hb⟩:=abt hin
   have hbd:l.joints.getD i default = b:=aaf hb
   have hbdup:=afp Jt.name hb
   refine gi (aae hb) ?_
   refine gc (afv b.name (hl.jnames b (mem_of_getElem? hb))) ?_
   refine gC (fun ht24=>?_) (fun ht24=>?_)
   ·have h1:=adh ht24
    have e1:jtE l i = 5:=by unfold jtE; rw [hbd,if_pos h1]
    refine gE1 ?_
    rw [e0,aa2 hin hj (by rw [e1]; decide),e1]; rfl
   ·have h1:=adi ht24
    refine gs (aaq (.tmp rfl) (.none _) (.some _ (.tmp rfl) (by omega)) T23 rfl T125 rfl (by omega) (by simp only [length_map]; omega) rfl) ?_
    refine ge rfl ?_
    refine gL1 [1,3,4,14,15,16] [1,4] (fun (k:Nat)=>[(29,some (.lst 7 ((l.joints.take i).map Jt.av))),(30,some (i64 i)),(31,some (i64 k))]) (fun _=>[]) (fun k=>k <= i /\ (l.joints.take k).any (fun y=>eqS y.name b.name) = false) (fun k=>i - k) 0 ⟨zero_le _,rfl⟩ ?_ (h1:=(.cons rfl (Sub.of (bm9 7 Jt.av l.joints i)) (.cons rfl (Sub.int (by simp; omega)) (.k .nil))))
    rintro k ⟨hk,hd⟩ K2 hK2
    refine gC (fun ht32=>?_) (fun ht32=>?_)
    ·have hkn:=abd ht32
     obtain ⟨y,hy'⟩:∃ y,(l.joints.take i)[k]? = some y:=abt (by simp; omega)
     have hy:=(amm hy').1
     refine gi (aae hy') ?_
     refine gC (fun ht39=>?_) (fun ht39=>?_)
     ·have h2:eqS y.name b.name = true:=ht39
      have e1:jtE l i = 6:=by unfold jtE; rw [hbd,if_neg (by rw [h1]; decide),if_pos (by rw [hbdup]; exact ahn hy hkn h2)]
      refine gE1 ?_
      rw [e0,aa2 hin hj (by rw [e1]; decide),e1]; rfl
     ·have h2:eqS y.name b.name = false:=ht39
      refine ga aat ?_
      exact gK1 hK2 (k + 1) ⟨hkn,aew hy hd h2⟩
    ·have hkn:=aaj hk ht32
     subst hkn
     have hnd:¬ axb (l.joints.map Jt.name) k = true:=by rw [hbdup,hd]; decide
     have e1:jtE l k = jt0 l b:=by unfold jtE; rw [hbd,if_neg (by rw [h1]; decide),if_neg hnd]
     refine gc (at8 l hl b) ?_
     refine gC (fun ht46=>?_) (fun ht46=>?_)
     ·have h3:=ac5 ht46
      refine gE1 ?_
      rw [e0,aa2 hin hj (by rw [e1]; exact h3),e1]
     ·have h3:=ac7 ht46
      refine ga aat ?_
      exact gK1 hK1 (k + 1) ⟨hin,fun j h9=>by rcases lt_or_ge j k with g | g; exact hj j g; (have:j = k:=by omega); subst this; exact e1.trans h3⟩
  ·have hin:=aaj hi ht17
   subst hin
   refine gE1 ?_
   rw [e0,aeo hj]; rfl
theorem apu (l:Li) (hl:l.ok):FnC prog 141 [l.av] (ah7 (azh l)):=by
 have hld:=hl.ld
 refine gF0 func141 ?_
 refine gl ?_
 refine gC (fun ht12=>?_) (fun ht12=>?_)
 ·have h0:2 < l.drivers.length:=alq ht12
  refine gE1 ?_
  unfold azh; rw [if_pos h0]; rfl
 ·have h0:l.drivers.length <= 2:=anq ht12
  have e0:azh l = ad6 l.drivers.length (drE l):=by unfold azh; rw [if_neg (by omega)]
  refine gl ?_
  refine gL1 [1,15,16] [1] (fun (i:Nat)=>[(17,some (i64 i))]) (fun _=>[]) (fun i=>i <= l.drivers.length /\ ∀ j,j < i -> drE l j = 0) (fun i=>l.drivers.length - i) 0 ⟨zero_le _,fun j h=>by omega⟩ ?_
  rintro i ⟨hi,hj⟩ K1 hK1
  refine gC (fun ht18=>?_) (fun ht18=>?_)
  ·have hin:=abd ht18
   obtain ⟨b,hb⟩:=abt hin
   have hbd:l.drivers.getD i default = b:=aaf hb
   have hbdup:=afp Dr.name hb
   refine gi (aae hb) ?_
   refine gc (afv b.name (hl.dnames b (mem_of_getElem? hb))) ?_
   refine gC (fun ht25=>?_) (fun ht25=>?_)
   ·have h1:=adh ht25
    have e1:drE l i = 5:=by unfold drE; rw [hbd,if_pos h1]
    refine gE1 ?_
    rw [e0,aa2 hin hj (by rw [e1]; decide),e1]; rfl
   ·have h1:=adi ht25
    refine gs (aaq (.tmp rfl) (.none _) (.some _ (.tmp rfl) (by omega)) T24 rfl T127 rfl (by omega) (by simp only [length_map]; omega) rfl) ?_
    refine ge rfl ?_
    refine gL1 [1,3,4,15,16,17] [1,4] (fun (k:Nat)=>[(30,some (.lst 2 ((l.drivers.take i).map Dr.av))),(31,some (i64 i)),(32,some (i64 k))]) (fun _=>[]) (fun k=>k <= i /\ (l.drivers.take k).any (fun y=>eqS y.name b.name) = false) (fun k=>i - k) 0 ⟨zero_le _,rfl⟩ ?_ (h1:=(.cons rfl (Sub.of (bm9 2 Dr.av l.drivers i)) (.cons rfl (Sub.int (by simp; omega)) (.k .nil))))
    rintro k ⟨hk,hd⟩ K2 hK2
    refine gC (fun ht33=>?_) (fun ht33=>?_)
    ·have hkn:=abd ht33
     obtain ⟨y,hy'⟩:∃ y,(l.drivers.take i)[k]? = some y:=abt (by simp; omega)
     have hy:=(amm hy').1
     refine gi (aae hy') ?_
     refine gC (fun ht40=>?_) (fun ht40=>?_)
     ·have h2:eqS y.name b.name = true:=ht40
      have e1:drE l i = 6:=by unfold drE; rw [hbd,if_neg (by rw [h1]; decide),if_pos (by rw [hbdup]; exact ahn hy hkn h2)]
      refine gE1 ?_
      rw [e0,aa2 hin hj (by rw [e1]; decide),e1]; rfl
     ·have h2:eqS y.name b.name = false:=ht40
      refine ga aat ?_
      exact gK1 hK2 (k + 1) ⟨hkn,aew hy hd h2⟩
    ·have hkn:=aaj hk ht33
     subst hkn
     have hnd:¬ axb (l.drivers.map Dr.name) k = true:=by rw [hbdup,hd]; decide
     refine gl ?_
     refine gc (agj b.body l.bodies.length) ?_
     refine gC (fun ht49=>?_) (fun ht49=>?_)
     ·have h3:=adh ht49
      have e1:drE l k = 9:=by unfold drE; rw [hbd,if_neg (by rw [h1]; decide),if_neg hnd,if_pos h3]
      refine gE1 ?_
      rw [e0,aa2 hin hj (by rw [e1]; decide),e1]; rfl
     ·have h3:=adi ht49
      refine gC (fun ht53=>?_) (fun ht53=>?_)
      ·have h4:=aes ht53
       have e1:drE l k = 7:=by unfold drE; rw [hbd,if_neg (by rw [h1]; decide),if_neg hnd,if_neg (by rw [h3]; decide),if_pos h4]
       refine gE1 ?_
       rw [e0,aa2 hin hj (by rw [e1]; decide),e1]; rfl
      ·have h4:=afr ht53
       have e1:drE l k = if (l.drivers.take k).any (fun d=>decide (d.body = b.body)) = true then 6 else 0:=by unfold drE; rw [hbd,if_neg (by rw [h1]; decide),if_neg hnd,if_neg (by rw [h3]; decide),if_neg h4]
       refine gs (aaq (.tmp rfl) (.none _) (.some _ (.tmp rfl) (by omega)) T24 rfl T127 rfl (by omega) (by simp only [length_map]; omega) rfl) ?_
       refine ge rfl ?_
       refine gL1 [1,4,15,16,17] [1,4] (fun (q:Nat)=>[(58,some (.lst 2 ((l.drivers.take k).map Dr.av))),(59,some (i64 k)),(60,some (i64 q))]) (fun _=>[]) (fun q=>q <= k /\ (l.drivers.take q).any (fun d=>decide (d.body = b.body)) = false) (fun q=>k - q) 0 ⟨zero_le _,rfl⟩ ?_ (h1:=(.cons rfl (Sub.of (bm9 2 Dr.av l.drivers k)) (.cons rfl (Sub.int (by simp; omega)) (.k .nil))))
       rintro q ⟨hq,hqd⟩ K3 hK3
       refine gC (fun ht61=>?_) (fun ht61=>?_)
       ·have hqn:=abd ht61
        obtain ⟨y,hy'⟩:∃ y,(l.drivers.take k)[q]? = some y:=abt (by simp; omega)
        have hy:=(amm hy').1
        refine gi (aae hy') ?_
        refine gC (fun ht68=>?_) (fun ht68=>?_)
        ·have h5:decide (y.body = b.body) = true:=decide_eq_true (aes ht68)
         have e2:drE l k = 6:=by rw [e1,if_pos (ahn hy hqn h5)]
         refine gE1 ?_
         rw [e0,aa2 hin hj (by rw [e2]; decide),e2]; rfl
        ·have h5:decide (y.body = b.body) = false:=decide_eq_false (afr ht68)
         refine ga aat ?_
         exact gK1 hK3 (q + 1) ⟨hqn,aew hy hqd h5⟩
       ·have hqn:=aaj hq ht61
        subst hqn
        have e2:drE l q = 0:=by rw [e1,hqd]; rfl
        refine ga aat ?_
        exact gK1 hK1 (q + 1) ⟨hin,fun j h9=>by rcases lt_or_ge j q with g | g; exact hj j g; (have:j = q:=by omega); subst this; exact e2⟩
  ·have hin:=aaj hi ht18
   subst hin
   refine gE1 ?_
   rw [e0,aeo hj]; rfl
theorem aid (l:Li) (hl:l.ok):FnC prog 65 [l.av] (ah7 (liE l)):=by
 have hlb:=hl.lb
 refine gF0 func65 ?_
 refine gc (afv l.name hl.name) ?_
 refine gC (fun ht8=>?_) (fun ht8=>?_)
 ·have h1:=adh ht8
  refine gE1 ?_
  unfold liE; rw [if_pos h1]; rfl
 ·have h1:=adi ht8
  refine gl ?_
  refine gC (fun ht13=>?_) (fun ht13=>?_)
  ·have h2:=bgh ht13
   refine gE1 ?_
   unfold liE; rw [if_neg (by rw [h1]; decide),if_pos h2]; rfl
  ·have h2:=bgd ht13
   refine gl ?_
   refine gC (fun ht18=>?_) (fun ht18=>?_)
   ·have h3:8 < l.bodies.length:=alq ht18
    refine gE1 ?_
    unfold liE; rw [if_neg (by rw [h1]; decide),if_neg h2,if_pos h3]; rfl
   ·have h3:l.bodies.length <= 8:=anq ht18
    have e0:liE l = if ayb l ≠ 0 then ayb l else if aq0 l ≠ 0 then aq0 l else azh l:=by unfold liE; rw [if_neg (by rw [h1]; decide),if_neg h2,if_neg (by omega)]
    refine gc (ar1 l.bodies hl.bodies hlb) ?_
    refine gC (fun ht24=>?_) (fun ht24=>?_)
    ·have h4:ayb l ≠ 0:=ac5 ht24
     refine gE1 ?_
     rw [e0,if_pos h4]; rfl
    ·have h4:ayb l = 0:=ac7 ht24
     refine gc (ary l hl) ?_
     refine gC (fun ht29=>?_) (fun ht29=>?_)
     ·have h5:=ac5 ht29
      refine gE1 ?_
      rw [e0,if_neg (by rw [h4]; simp),if_pos h5]
     ·have h5:=ac7 ht29
      refine gc (apu l hl) ?_
      refine gE1 ?_
      rw [e0,if_neg (by rw [h4]; simp),if_neg (by rw [h5]; simp)]
end Go.Lw
namespace Go.Lw
open Go.Proofs
theorem afe (i:Int) (n:Nat):FnC prog 149 [i64 i, i64 n] (bl (inB i n)):=by
 refine gF0 func149 ?_
 refine gE1 ?_
 exact congrArg bl (a1c i n)
theorem a4y (p q:Mk) (hp:p.ok) (hq:q.ok):FnC prog 150 [p.av, q.av] (bl (decide (p.x.q = q.x.q /\ p.y.q = q.y.q))):=by
 refine gF0 func150 ?_
 refine gc (awq p.x q.x hp.x hq.x ((hp.qx.sub hq.qx).qs (by omega))) ?_
 refine gcG (fun _=>(awq p.y q.y hp.y hq.y ((hp.qy.sub hq.qy).qs (by omega)))) ?_
 refine gE1 ?_
 exact congrArg bl bde
theorem aw7 (b:Bd) (hbo:b.ok):FnC prog 148 [b.av] (i64 (if 8 < b.pts.length then 4 else ad6 b.pts.length (mkE b.pts):Nat)):=by
 have hll:=hbo.ll
 refine gF0 func148 ?_
 refine gl ?_
 refine gC (fun ht9=>?_) (fun ht9=>?_)
 ·have h0:8 < b.pts.length:=alq ht9
  refine gE1 ?_
  rw [if_pos h0]; rfl
 ·have h0:b.pts.length <= 8:=anq ht9
  have e0:(if 8 < b.pts.length then 4 else ad6 b.pts.length (mkE b.pts):Nat) = ad6 b.pts.length (mkE b.pts):=if_neg (by omega)
  refine gL1 [1] [1] (fun (p:Nat)=>[(3,some (i64 p))]) (fun _=>[]) (fun p=>p <= b.pts.length /\ ∀ j,j < p -> mkE b.pts j = 0) (fun p=>b.pts.length - p) 0 ⟨zero_le _,fun j h=>by omega⟩ ?_
  rintro p ⟨hp,hpj⟩ K1 hK1
  refine gl ?_
  refine gC (fun ht14=>?_) (fun ht14=>?_)
  ·have hpn:=abd ht14
   obtain ⟨m,hm⟩:=abt hpn
   have hmd:b.pts.getD p default = m:=aaf hm
   have hmm:=mem_of_getElem? hm
   have hmdup:=afp Mk.name hm
   have hmo:=hbo.pts m hmm
   refine gi (aae hm) ?_
   refine gc (ah4 m.name (hbo.names m hmm)) ?_
   refine gC (fun ht25=>?_) (fun ht25=>?_)
   ·have h4:=adh ht25
    have e2:mkE b.pts p = 5:=by unfold mkE; rw [hmd,if_pos h4]
    refine gE1 ?_
    rw [e0,aa2 hpn hpj (by rw [e2]; decide),e2]; rfl
   ·have h4:=adi ht25
    refine gL1 [1,3,4] [1,4] (fun (q:Nat)=>[(5,some (i64 q))]) (fun _=>[]) (fun q=>q <= p /\ (b.pts.take q).any (fun y=>eqS y.name m.name) = false) (fun q=>p - q) 0 ⟨zero_le _,rfl⟩ ?_
    rintro q ⟨hq,hqd⟩ K2 hK2
    refine gC (fun ht28=>?_) (fun ht28=>?_)
    ·have hqn:=abd ht28
     obtain ⟨y,hy⟩:∃ y,b.pts[q]? = some y:=abt (by omega)
     refine gi (aae hy) ?_
     refine gD ?_
     refine gC (fun ht39=>?_) (fun ht39=>?_)
     ·have h5:eqS y.name m.name = true:=ht39
      have e2:mkE b.pts p = 6:=by unfold mkE; rw [hmd,if_neg (by rw [h4]; decide),if_pos (by rw [hmdup]; exact ahn hy hqn h5)]
      refine gE1 ?_
      rw [e0,aa2 hpn hpj (by rw [e2]; decide),e2]; rfl
     ·have h5:eqS y.name m.name = false:=ht39
      refine ga aat ?_
      exact gK1 hK2 (q + 1) ⟨hqn,aew hy hqd h5⟩
    ·have hqn:=aaj hq ht28
     subst hqn
     have hmnd:¬ axb (b.pts.map Mk.name) q = true:=by rw [hmdup,hqd]; decide
     refine gc (ags m.x hmo.x) ?_
     refine gcG (fun _=>(ags m.y hmo.y)) ?_
     refine gC (fun ht49=>?_) (fun ht49=>?_)
     ·have h6:=bfd ht49
      have e2:mkE b.pts q = 3:=by unfold mkE; rw [hmd,if_neg (by rw [h4]; decide),if_neg hmnd,if_neg (by rintro ⟨g1,g2⟩; rcases h6 with g | g; (rw [g1] at g; cases g); (rw [g2] at g; cases g))]
      refine gE1 ?_
      rw [e0,aa2 hpn hpj (by rw [e2]; decide),e2]; rfl
     ·have h6:=bf8 ht49
      have e2:mkE b.pts q = 0:=by unfold mkE; rw [hmd,if_neg (by rw [h4]; decide),if_neg hmnd,if_pos h6]
      refine ga aat ?_
      exact gK1 hK1 (q + 1) ⟨hpn,fun j h9=>by rcases lt_or_ge j q with g | g; exact hpj j g; (have:j = q:=by omega); subst this; exact e2⟩
  ·have hpn:=aaj hp ht14
   subst hpn
   refine gE1 ?_
   rw [e0,aeo hpj]; rfl
theorem awr (l:Li) (hl:l.ok):FnC prog 72 [l.av] (i64 (ayb l)):=by
 have hlb:=hl.lb
 have e0:ayb l = ad6 l.bodies.length (bdE l.bodies):=rfl
 refine gF0 func72 ?_
 refine gL1 [1] [1] (fun (i:Nat)=>[(3,some (i64 i))]) (fun _=>[]) (fun i=>i <= l.bodies.length /\ ∀ j,j < i -> bdE l.bodies j = 0) (fun i=>l.bodies.length - i) 0 ⟨zero_le _,fun j h=>by omega⟩ ?_
 rintro i ⟨hi,hj⟩ K1 hK1
 refine gl ?_
 refine gC (fun ht10=>?_) (fun ht10=>?_)
 ·have hin:=abd ht10
  obtain ⟨b,hb⟩:=abt hin
  have hbd:l.bodies.getD i default = b:=aaf hb
  have hbo:=hl.bodies b (mem_of_getElem? hb)
  have hbdup:=afp Bd.name hb
  refine gi (aae hb) ?_
  refine gc (ah4 b.name hbo.name) ?_
  refine gC (fun ht20=>?_) (fun ht20=>?_)
  ·have h1:=adh ht20
   have e1:bdE l.bodies i = 5:=by unfold bdE; rw [hbd,if_pos h1]
   refine gE1 ?_
   rw [e0,aa2 hin hj (by rw [e1]; decide),e1]; rfl
  ·have h1:=adi ht20
   refine gL1 [1,3] [1] (fun (k:Nat)=>[(4,some (i64 k))]) (fun _=>[]) (fun k=>k <= i /\ (l.bodies.take k).any (fun y=>eqS y.name b.name) = false) (fun k=>i - k) 0 ⟨zero_le _,rfl⟩ ?_
   rintro k ⟨hk,hd⟩ K2 hK2
   refine gC (fun ht23=>?_) (fun ht23=>?_)
   ·have hkn:=abd ht23
    obtain ⟨y,hy⟩:∃ y,l.bodies[k]? = some y:=abt (by omega)
    refine gi (aae hy) ?_
    refine gi (aae hb) ?_
    refine gD ?_
    refine gC (fun ht38=>?_) (fun ht38=>?_)
    ·have h2:eqS y.name b.name = true:=ht38
     have e1:bdE l.bodies i = 6:=by unfold bdE; rw [hbd,if_neg (by rw [h1]; decide),if_pos (by rw [hbdup]; exact ahn hy hkn h2)]
     refine gE1 ?_
     rw [e0,aa2 hin hj (by rw [e1]; decide),e1]; rfl
    ·have h2:eqS y.name b.name = false:=ht38
     refine ga aat ?_
     exact gK1 hK2 (k + 1) ⟨hkn,aew hy hd h2⟩
   ·have hkn:=aaj hk ht23
    subst hkn
    have hnd:¬ axb (l.bodies.map Bd.name) k = true:=by rw [hbdup,hd]; decide
    have e1:bdE l.bodies k = if 8 < b.pts.length then 4 else ad6 b.pts.length (mkE b.pts):=by unfold bdE; rw [hbd,if_neg (by rw [h1]; decide),if_neg hnd]
    refine gi (aae hb) ?_
    refine gc (aw7 b hbo) ?_
    refine gC (fun ht46=>?_) (fun ht46=>?_)
    ·have h3:=af6 ht46
     refine gE1 ?_
     rw [e0,aa2 hin hj (by rw [e1]; exact h3),e1]
    ·have h3:=af0 ht46
     refine ga aat ?_
     exact gK1 hK1 (k + 1) ⟨hin,fun j h9=>by rcases lt_or_ge j k with g | g; exact hj j g; (have:j = k:=by omega); subst this; exact e1.trans h3⟩
 ·have hin:=aaj hi ht10
  subst hin
  refine gE1 ?_
  rw [e0,aeo hj]; rfl
theorem ayj (l:Li) (hl:l.ok) (i:Nat) (hi:i < l.joints.length) (h16:l.joints.length <= 16):FnC prog 73 [l.av, i64 i] (i64 (jtE l i)):=by
 obtain ⟨j,hjj⟩:=abt hi
 have hbd:l.joints.getD i default = j:=aaf hjj
 have hbdup:=afp Jt.name hjj
 refine gF0 func73 ?_
 refine gi (aae hjj) ?_
 refine gc (ah4 j.name (hl.jnames j (mem_of_getElem? hjj))) ?_
 refine gC (fun ht17=>?_) (fun ht17=>?_)
 ·have h0:=adh ht17
  refine gE1 ?_
  unfold jtE; rw [hbd,if_pos h0]; rfl
 ·have h0:=adi ht17
  refine gL1 [1,2,5] [2,5] (fun (k:Nat)=>[(6,some (i64 k))]) (fun _=>[]) (fun k=>k <= i /\ (l.joints.take k).any (fun y=>eqS y.name j.name) = false) (fun k=>i - k) 0 ⟨zero_le _,rfl⟩ ?_
  rintro k ⟨hk,hd⟩ K1 hK1
  refine gC (fun ht20=>?_) (fun ht20=>?_)
  ·have hkn:=abd ht20
   obtain ⟨y,hy⟩:∃ y,l.joints[k]? = some y:=abt (by omega)
   refine gi (aae hy) ?_
   refine gD ?_
   refine gC (fun ht31=>?_) (fun ht31=>?_)
   ·have h2:eqS y.name j.name = true:=ht31
    refine gE1 ?_
    unfold jtE; rw [hbd,if_neg (by rw [h0]; decide),if_pos (by rw [hbdup]; exact ahn hy hkn h2)]; rfl
   ·have h2:eqS y.name j.name = false:=ht31
    refine ga aat ?_
    exact gK1 hK1 (k + 1) ⟨hkn,aew hy hd h2⟩
  ·have hkn:=aaj hk ht20
   subst hkn
   have hnd:¬ axb (l.joints.map Jt.name) k = true:=by rw [hbdup,hd]; decide
   have e1:jtE l k = jt0 l j:=by unfold jtE; rw [hbd,if_neg (by rw [h0]; decide),if_neg hnd]
   refine gC (fun ht39=>?_) (fun ht39=>?_)
   ·have h1:=bgj ht39
    refine gE1 ?_
    rw [e1]; unfold jt0; rw [if_pos h1]; rfl
   ·have h1:=bfy ht39
    refine gl ?_
    refine gc (afe j.a l.bodies.length) ?_
    refine glG ?_
    refine gcG (fun _=>(afe j.b l.bodies.length)) ?_
    refine gC (fun ht55=>?_) (fun ht55=>?_)
    ·have h2:=bfd ht55
     refine gE1 ?_
     rw [e1]; unfold jt0; rw [if_neg h1,if_pos h2]; rfl
    ·have h2:=bf8 ht55
     have h2n:¬ (inB j.a l.bodies.length = false \/ inB j.b l.bodies.length = false):=by rw [h2.1,h2.2]; simp
     obtain ⟨A,hA,pA,mA,zA0⟩:=aps h2.1
     obtain ⟨B,hB,pB,mB,zB0⟩:=aps h2.2
     refine gC (fun ht60=>?_) (fun ht60=>?_)
     ·have h3:=aes ht60
      refine gE1 ?_
      rw [e1]; unfold jt0; rw [if_neg h1,if_neg h2n,if_pos h3]; rfl
     ·have h3:=afr ht60
      refine gi (aae hA) ?_
      refine gi (aae hB) ?_
      refine gD ?_
      refine gl ?_
      refine gc (afe j.point A.pts.length) ?_
      refine glG ?_
      refine gcG (fun _=>(afe j.on B.pts.length)) ?_
      refine gC (fun ht88=>?_) (fun ht88=>?_)
      ·have h4:=bfd ht88
       refine gE1 ?_
       rw [e1]; unfold jt0; rw [if_neg h1,if_neg h2n,if_neg h3,pA,pB,if_pos h4]; rfl
      ·have h4:=bf8 ht88
       have h4n:¬ (inB j.point A.pts.length = false \/ inB j.on B.pts.length = false):=by rw [h4.1,h4.2]; simp
       refine gC (fun ht91=>?_) (fun ht91=>?_)
       ·have h5:=aes ht91
        refine gC (fun ht94=>?_) (fun ht94=>?_)
        ·have h6:=ajb ht94
         refine gE1 ?_
         rw [e1]; unfold jt0; rw [if_neg h1,if_neg h2n,if_neg h3,pA,pB,if_neg h4n,if_pos h5,if_pos h6]; rfl
        ·have h6:=ams ht94
         refine gE1 ?_
         rw [e1]; unfold jt0; rw [if_neg h1,if_neg h2n,if_neg h3,pA,pB,if_neg h4n,if_pos h5,if_neg (by rw [h6]; simp)]; rfl
       ·have h5:=afr ht91
        refine gl ?_
        refine gc (afe j.to B.pts.length) ?_
        refine gC (fun ht100=>?_) (fun ht100=>?_)
        ·have h6:=adh ht100
         refine gE1 ?_
         rw [e1]; unfold jt0; rw [if_neg h1,if_neg h2n,if_neg h3,pA,pB,if_neg h4n,if_neg h5,if_pos h6]; rfl
        ·have h6:=adi ht100
         obtain ⟨m1,g1,d1,mm1,z1⟩:=asg h4.2
         obtain ⟨m2,g2,d2,mm2,z2⟩:=asg h6
         have mo1:=(hl.bodies B mB).pts m1 mm1
         have mo2:=(hl.bodies B mB).pts m2 mm2
         refine gi (aae g1) ?_
         refine gi (aae g2) ?_
         refine gc (a4y m1 m2 mo1 mo2) ?_
         refine gD ?_
         refine gC (fun ht111=>?_) (fun ht111=>?_)
         ·have h7:=of_decide_eq_true ht111
          refine gE1 ?_
          rw [e1]; unfold jt0; rw [if_neg h1,if_neg h2n,if_neg h3,pA,pB,if_neg h4n,if_neg h5,if_neg (by rw [h6]; decide),d1,d2,if_pos h7]; rfl
         ·have h7:=of_decide_eq_false ht111
          refine gE1 ?_
          rw [e1]; unfold jt0; rw [if_neg h1,if_neg h2n,if_neg h3,pA,pB,if_neg h4n,if_neg h5,if_neg (by rw [h6]; decide),d1,d2,if_neg h7]; rfl
theorem awz (l:Li) (hl:l.ok) (i:Nat) (hi:i < l.drivers.length) (h2l:l.drivers.length <= 2):FnC prog 74 [l.av, i64 i] (i64 (drE l i)):=by
 obtain ⟨b,hb⟩:=abt hi
 have hbd:l.drivers.getD i default = b:=aaf hb
 have hbdup:=afp Dr.name hb
 refine gF0 func74 ?_
 refine gi (aae hb) ?_
 refine gc (ah4 b.name (hl.dnames b (mem_of_getElem? hb))) ?_
 refine gC (fun ht16=>?_) (fun ht16=>?_)
 ·have h1:=adh ht16
  refine gE1 ?_
  unfold drE; rw [hbd,if_pos h1]; rfl
 ·have h1:=adi ht16
  refine gL1 [1,2,5] [2,5] (fun (k:Nat)=>[(6,some (i64 k))]) (fun _=>[]) (fun k=>k <= i /\ (l.drivers.take k).any (fun y=>eqS y.name b.name) = false) (fun k=>i - k) 0 ⟨zero_le _,rfl⟩ ?_
  rintro k ⟨hk,hd⟩ K1 hK1
  refine gC (fun ht19=>?_) (fun ht19=>?_)
  ·have hkn:=abd ht19
   obtain ⟨y,hy⟩:∃ y,l.drivers[k]? = some y:=abt (by omega)
   refine gi (aae hy) ?_
   refine gD ?_
   refine gC (fun ht30=>?_) (fun ht30=>?_)
   ·have h2:eqS y.name b.name = true:=ht30
    refine gE1 ?_
    unfold drE; rw [hbd,if_neg (by rw [h1]; decide),if_pos (by rw [hbdup]; exact ahn hy hkn h2)]; rfl
   ·have h2:eqS y.name b.name = false:=ht30
    refine ga aat ?_
    exact gK1 hK1 (k + 1) ⟨hkn,aew hy hd h2⟩
  ·have hkn:=aaj hk ht19
   subst hkn
   have hnd:¬ axb (l.drivers.map Dr.name) k = true:=by rw [hbdup,hd]; decide
   refine gl ?_
   refine gc (afe b.body l.bodies.length) ?_
   refine gC (fun ht37=>?_) (fun ht37=>?_)
   ·have h3:=adh ht37
    refine gE1 ?_
    unfold drE; rw [hbd,if_neg (by rw [h1]; decide),if_neg hnd,if_pos h3]; rfl
   ·have h3:=adi ht37
    refine gC (fun ht40=>?_) (fun ht40=>?_)
    ·have h4:=aes ht40
     refine gE1 ?_
     unfold drE; rw [hbd,if_neg (by rw [h1]; decide),if_neg hnd,if_neg (by rw [h3]; decide),if_pos h4]; rfl
    ·have h4:=afr ht40
     have e1:drE l k = if (l.drivers.take k).any (fun d=>decide (d.body = b.body)) = true then 6 else 0:=by unfold drE; rw [hbd,if_neg (by rw [h1]; decide),if_neg hnd,if_neg (by rw [h3]; decide),if_neg h4]
     refine gL1 [1,2,5] [2,5] (fun (q:Nat)=>[(7,some (i64 q))]) (fun _=>[]) (fun q=>q <= k /\ (l.drivers.take q).any (fun d=>decide (d.body = b.body)) = false) (fun q=>k - q) 0 ⟨zero_le _,rfl⟩ ?_
     rintro q ⟨hq,hqd⟩ K2 hK2
     refine gC (fun ht43=>?_) (fun ht43=>?_)
     ·have hqn:=abd ht43
      obtain ⟨y,hy⟩:∃ y,l.drivers[q]? = some y:=abt (by omega)
      refine gi (aae hy) ?_
      refine gD ?_
      refine gC (fun ht54=>?_) (fun ht54=>?_)
      ·have h5:decide (y.body = b.body) = true:=decide_eq_true (aes ht54)
       refine gE1 ?_
       rw [e1,if_pos (ahn hy hqn h5)]; rfl
      ·have h5:decide (y.body = b.body) = false:=decide_eq_false (afr ht54)
       refine ga aat ?_
       exact gK1 hK2 (q + 1) ⟨hqn,aew hy hqd h5⟩
     ·have hqn:=aaj hq ht43
      subst hqn
      refine gE1 ?_
      rw [e1,hqd]; rfl
theorem alf (l:Li) (hl:l.ok):FnC prog 34 [l.av] (i64 (liE l)):=by
 have hlb:=hl.lb
 refine gF0 func34 ?_
 refine gc (ah4 l.name hl.name) ?_
 refine gC (fun ht11=>?_) (fun ht11=>?_)
 ·have h1:=adh ht11
  refine gE1 ?_
  unfold liE; rw [if_pos h1]; rfl
 ·have h1:=adi ht11
  refine gl ?_
  refine gC (fun ht15=>?_) (fun ht15=>?_)
  ·have h2:=bgh ht15
   refine gE1 ?_
   unfold liE; rw [if_neg (by rw [h1]; decide),if_pos h2]; rfl
  ·have h2:=bgd ht15
   refine gl ?_
   refine gC (fun ht19=>?_) (fun ht19=>?_)
   ·have h3:8 < l.bodies.length:=alq ht19
    refine gE1 ?_
    unfold liE; rw [if_neg (by rw [h1]; decide),if_neg h2,if_pos h3]; rfl
   ·have h3:l.bodies.length <= 8:=anq ht19
    have e0:liE l = if ayb l ≠ 0 then ayb l else if aq0 l ≠ 0 then aq0 l else azh l:=by unfold liE; rw [if_neg (by rw [h1]; decide),if_neg h2,if_neg (by omega)]
    refine gc (awr l hl) ?_
    refine gC (fun ht23=>?_) (fun ht23=>?_)
    ·have h4:ayb l ≠ 0:=af6 ht23
     refine gE1 ?_
     rw [e0,if_pos h4]
    ·have h4:ayb l = 0:=af0 ht23
     refine gl ?_
     refine gC (fun ht28=>?_) (fun ht28=>?_)
     ·have h5:16 < l.joints.length:=alq ht28
      have ej:aq0 l = 4:=by unfold aq0; rw [if_pos h5]
      refine gE1 ?_
      rw [e0,if_neg (by rw [h4]; simp),if_pos (by rw [ej]; decide),ej]; rfl
     ·have h5:l.joints.length <= 16:=anq ht28
      have ej:aq0 l = ad6 l.joints.length (jtE l):=by unfold aq0; rw [if_neg (by omega)]
      refine gL1 [1] [1] (fun (i:Nat)=>[(4,some (i64 i))]) (fun _=>[]) (fun i=>i <= l.joints.length /\ ∀ j,j < i -> jtE l j = 0) (fun i=>l.joints.length - i) 0 ⟨zero_le _,fun j h=>by omega⟩ ?_
      rintro i ⟨hi,hj⟩ K1 hK1
      refine gl ?_
      refine gC (fun ht33=>?_) (fun ht33=>?_)
      ·have hin:=abd ht33
       refine gc (ayj l hl i hin h5) ?_
       refine gC (fun ht40=>?_) (fun ht40=>?_)
       ·have h6:=af6 ht40
        refine gE1 ?_
        rw [e0,if_neg (by rw [h4]; simp),if_pos (by rw [ej,aa2 hin hj h6]; exact h6),ej,aa2 hin hj h6]
       ·have h6:=af0 ht40
        refine ga aat ?_
        exact gK1 hK1 (i + 1) ⟨hin,fun j h9=>by rcases lt_or_ge j i with g | g; exact hj j g; (have:j = i:=by omega); subst this; exact h6⟩
      ·have hin:=aaj hi ht33
       subst hin
       have ejz:aq0 l = 0:=ej.trans (aeo hj)
       have e0':liE l = azh l:=by rw [e0,if_neg (by rw [h4]; simp),if_neg (by rw [ejz]; simp)]
       refine gl ?_
       refine gC (fun ht45=>?_) (fun ht45=>?_)
       ·have h6:2 < l.drivers.length:=alq ht45
        refine gE1 ?_
        rw [e0']; unfold azh; rw [if_pos h6]; rfl
       ·have h6:l.drivers.length <= 2:=anq ht45
        have ed:azh l = ad6 l.drivers.length (drE l):=by unfold azh; rw [if_neg (by omega)]
        refine gL1 [1] [1] (fun (k:Nat)=>[(6,some (i64 k))]) (fun _=>[]) (fun k=>k <= l.drivers.length /\ ∀ j,j < k -> drE l j = 0) (fun k=>l.drivers.length - k) 0 ⟨zero_le _,fun j h=>by omega⟩ ?_
        rintro k ⟨hk,hkj⟩ K2 hK2
        refine gl ?_
        refine gC (fun ht50=>?_) (fun ht50=>?_)
        ·have hkn:=abd ht50
         refine gc (awz l hl k hkn h6) ?_
         refine gC (fun ht57=>?_) (fun ht57=>?_)
         ·have h7:=af6 ht57
          refine gE1 ?_
          rw [e0',ed,aa2 hkn hkj h7]
         ·have h7:=af0 ht57
          refine ga aat ?_
          exact gK1 hK2 (k + 1) ⟨hkn,fun j h9=>by rcases lt_or_ge j k with g | g; exact hkj j g; (have:j = k:=by omega); subst this; exact h7⟩
        ·have hkn:=aaj hk ht50
         subst hkn
         refine gE1 ?_
         rw [e0',ed,aeo hkj]; rfl
end Go.Lw
namespace Go.Lw
open Go.Proofs
theorem aix (rs xs:List (List Rt)) (w m:Nat) (hrs:ane rs) (hxs:ane xs) (hrl:rs.length <= 100) (hxl:xs.length <= 100):FnC prog 78 [ae5 rs, i64 w, i64 m, .lst 1 (xs.map nR)] (bl (aky w m (rs ++ xs))):=by
 obtain ⟨l,hl⟩:∃ l,l = rs ++ xs:=⟨_,rfl⟩
 have hlo:ane l:=by rw [hl]; exact hrs.app hxs
 have hll:l.length <= 200:=by rw [hl,length_append]; omega
 have hml:rs.map nR ++ xs.map nR = l.map nR:=by rw [hl,map_append]
 rw [<- hl]
 refine gF0 func78 ?_
 refine gs (acw T28 rfl T65 rfl rfl rfl) ?_
 refine gs (abu (.tmp rfl) rfl rfl (.tmp rfl) T28 rfl T65 rfl rfl (by simp only [length_map]; omega) rfl rfl) ?_
 refine gs (agl (.tmp rfl) rfl (by simp) (.tmp rfl) T28 rfl T65 rfl rfl (by simp only [length_map]; omega) rfl rfl) ?_
 refine ge rfl ?_
 refine gL1 [1,2] [] (fun (i:Nat)=>[(18,some (.lst 1 (l.map nR))),(19,some (i64 l.length)),(20,some (i64 i))]) (fun _=>[]) (fun i=>i <= l.length /\ (l.take i).all (al8 w m) = true) (fun i=>l.length - i) 0 ⟨zero_le _,rfl⟩ ?_ (h1:=(.cons rfl (Sub.of (congrArg (AV.lst 1) hml)) (.cons rfl (Sub.int (by rw [nil_append,hml,length_map])) (.k .nil))))
 rintro i ⟨hi,hj⟩ K1 hK1
 refine gC (fun ht21=>?_) (fun ht21=>?_)
 ·have hin:=abd ht21
  obtain ⟨x,hx⟩:=abt hin
  have hxo:=hlo x (mem_of_getElem? hx)
  have hxl:=hxo.2
  refine gi (aae hx) ?_
  refine gl ?_
  refine gC (fun ht27=>?_) (fun ht27=>?_)
  ·have h1:=alq ht27
   refine gE1 ?_
   rw [aky,adg hx (by unfold al8; rw [decide_eq_false (by omega)]; rfl)]; rfl
  ·have h1:x.length <= m:=anq ht27
   refine gl ?_
   refine gL1 [1,2,18,19,20,28,29] [] (fun (k:Nat)=>[(30,some (i64 k))]) (fun _=>[]) (fun k=>k <= x.length /\ (x.take k).all (fun r=>decide (r.num.length <= w /\ r.den.length <= w)) = true) (fun k=>x.length - k) 0 ⟨zero_le _,rfl⟩ ?_
   rintro k ⟨hk,hkj⟩ K2 hK2
   refine gC (fun ht31=>?_) (fun ht31=>?_)
   ·have hkn:=abd ht31
    obtain ⟨r,hr⟩:=abt hkn
    refine gi (aae hr) ?_
    refine gl ?_
    refine glG ?_
    refine gC (fun ht45=>?_) (fun ht45=>?_)
    ·have h2:¬ (r.num.length <= w /\ r.den.length <= w):=blz ht45
     refine gE1 ?_
     rw [aky,adg hx (by unfold al8; rw [adg hr (decide_eq_false h2),Bool.and_false])]; rfl
    ·have h2:r.num.length <= w /\ r.den.length <= w:=boc ht45
     refine ga aat ?_
     exact gK1 hK2 (k + 1) ⟨hkn,aef hkj hr (decide_eq_true h2)⟩
   ·have hkn:=aaj hk ht31
    refine ga aat ?_
    exact gK1 hK1 (i + 1) ⟨hin,aef hj hx (by unfold al8; rw [decide_eq_true h1,af4 hkn hkj]; rfl)⟩
 ·have hin:=aaj hi ht21
  refine gE1 ?_
  rw [aky,af4 hin hj]; rfl
theorem azb (rs xs:List (List Rt)) (hrs:ane rs) (hxs:ane xs) (hrl:rs.length <= 281474976710656) (hxl:xs.length <= 100):FnC prog 79 [ae5 rs, .lst 1 (xs.map nR)] (bl (aoe rs xs)):=by
 refine gF0 func79 ?_
 refine gl ?_
 refine gC (fun ht9=>?_) (fun ht9=>?_)
 ·have h1:rs.length <= 1 \/ (5 < rs.length /\ rs.length <= 8):=bq6 ht9
  refine gc (aix rs xs 3 40 hrs hxs (by omega) hxl) ?_
  refine gE1 ?_
  unfold aoe; rw [if_pos h1]
 ·have h1:¬ (rs.length <= 1 \/ (5 < rs.length /\ rs.length <= 8)):=bp4 ht9
  refine gC (fun ht23=>?_) (fun ht23=>?_)
  ·have h2 : rs.length = 2 := by have := aes ht23; omega
   refine gc (aix rs xs 1 40 hrs hxs (by omega) hxl) ?_
   refine gE1 ?_
   unfold aoe; rw [if_neg h1,if_pos h2]
  ·have h2 : ¬ rs.length = 2 := by have := afr ht23; omega
   refine gC (fun ht29=>?_) (fun ht29=>?_)
   ·have h3 : rs.length = 3 := by have := aes ht29; omega
    refine gc (aix rs xs 1 4 hrs hxs (by omega) hxl) ?_
    refine gE1 ?_
    unfold aoe; rw [if_neg h1,if_neg h2,if_pos h3]
   ·have h3 : ¬ rs.length = 3 := by have := afr ht29; omega
    refine gE1 ?_
    unfold aoe; rw [if_neg h1,if_neg h2,if_neg h3]; rfl
theorem asx (rs xs:List (List Rt)) (hrs:ane rs) (hxs:ane xs) (hrl:rs.length <= 281474976710656) (hxl:xs.length <= 100):FnC prog 37 [ae5 rs, .lst 1 (xs.map nR)] (bl (aki rs xs)):=by
 refine gF0 func37 ?_
 refine gl ?_
 refine gC (fun ht8=>?_) (fun ht8=>?_)
 ·have h2 : rs.length = 2 := by have := aes ht8; omega
  refine gc (aix rs xs 2 40 hrs hxs (by omega) hxl) ?_
  refine gE1 ?_
  unfold aki; rw [if_pos h2]
 ·have h2 : ¬ rs.length = 2 := by have := afr ht8; omega
  refine gc (azb rs xs hrs hxs hrl hxl) ?_
  refine gE1 ?_
  unfold aki; rw [if_neg h2]
theorem ayw (l:Li) (hl:l.okw):FnC prog 33 [l.av] (bl (liB l)):=by
 have hbl:=hl.lb
 refine gF0 func33 ?_
 refine gl ?_
 refine gL1 [1,8,9] [1] (fun (i:Nat)=>[(10,some (i64 i))]) (fun _=>[]) (fun i=>i <= l.bodies.length /\ (l.bodies.take i).all bdB = true) (fun i=>l.bodies.length - i) 0 ⟨zero_le _,rfl⟩ ?_
 rintro i ⟨hi,hj⟩ K1 hK1
 refine gC (fun ht11=>?_) (fun ht11=>?_)
 ·have hin:=abd ht11
  obtain ⟨b,hb⟩:=abt hin
  refine gi (aae hb) ?_
  refine gl ?_
  refine gC (fun ht17=>?_) (fun ht17=>?_)
  ·have h1:30 < b.pts.length:=alq ht17
   refine gE1 ?_
   unfold liB; rw [adg hb (by unfold bdB; rw [decide_eq_false (by omega)]; rfl)]; rfl
  ·have h1:b.pts.length <= 30:=anq ht17
   refine gl ?_
   refine gL1 [1,8,9,10,19,20] [1] (fun (k:Nat)=>[(21,some (i64 k))]) (fun _=>[]) (fun k=>k <= b.pts.length /\ (b.pts.take k).all mkB = true) (fun k=>b.pts.length - k) 0 ⟨zero_le _,rfl⟩ ?_
   rintro k ⟨hk,hkj⟩ K2 hK2
   refine gC (fun ht22=>?_) (fun ht22=>?_)
   ·have hkn:=abd ht22
    obtain ⟨p,hp⟩:=abt hkn
    refine gi (aae hp) ?_
    refine gl ?_
    refine glG ?_
    refine glG ?_
    refine glG ?_
    refine gC (fun ht50=>?_) (fun ht50=>?_)
    ·have h2:mkB p = false:=bmf ht50
     refine gE1 ?_
     unfold liB; rw [adg hb (by unfold bdB; rw [adg hp h2,Bool.and_false])]; rfl
    ·have h2:mkB p = true:=bnm ht50
     refine ga aat ?_
     exact gK1 hK2 (k + 1) ⟨hkn,aef hkj hp h2⟩
   ·have hkn:=aaj hk ht22
    refine ga aat ?_
    exact gK1 hK1 (i + 1) ⟨hin,aef hj hb (by unfold bdB; rw [decide_eq_true h1,af4 hkn hkj]; rfl)⟩
 ·have hin:=aaj hi ht11
  refine gl ?_
  refine glG ?_
  refine glG ?_
  refine gE1 ?_
  exact congrArg bl (bhd (af4 hin hj))
end Go.Lw
namespace Go.Lw
open Go.Proofs
theorem a0b:FnC prog 13 [.v .nilIface] (i64 0):=by
 refine gF0 func13 ?_
 refine gC (fun ht6=>?_) (fun ht6=>?_) (st2:=(77777,0))
 ·refine gE1 ?_
  first | rfl | (simp; done)
 ·cases ht6
theorem a0g (n:Int):FnC prog 13 [.v (.iface 103 (.int .i64 n))] (i64 n):=by
 refine gF0 func13 ?_
 refine gC (fun ht6=>?_) (fun ht6=>?_) (st1:=(2,0))
 ·cases ht6
 ·refine gs (bcl (.tmp rfl) T103 rfl rfl) ?_
  refine gC (fun ht13=>?_) (fun ht13=>?_) (st1:=(5,0))
  ·cases ht13
  ·refine gE1 ?_
   rfl
theorem as5 (e:Nat):FnC prog 13 [ah7 e] (i64 e):=by
 cases e with
 | zero=>exact a0b
 | succ e=>exact a0g _
end Go.Lw
namespace Go.Lw
structure Gr where
  kind:Int
  bodies:List Int
  joints:List Int
  driver:Int
instance:Inhabited Gr:=⟨⟨0,[],[],0⟩⟩
def Gr.av (g:Gr):AV:=.agg [i64 g.kind,.lst 1 (g.bodies.map i64),.lst 1 (g.joints.map i64),i64 g.driver]
def kn (k:List Bool) (i:Int):Bool:=k.getD i.toNat false
def aeh (n:Nat) (b:Int):List Bool:=(List.replicate n false).set b.toNat true
def ak7 (l:Li) (b:Int):Bool:=l.drivers.any (fun d=>decide (d.body = b))
def freeB (l:Li) (known:List Bool) (b:Int):Bool:=!kn known b && !ak7 l b
def bbj (kind body:Int) (oth:List Bool) (j:Jt):Bool:=decide (j.kind = kind) && (decide (j.a = body) && kn oth j.b || decide (j.b = body) && kn oth j.a)
def jointI (l:Li) (kind body:Int) (oth:List Bool):Int:=ixI (abi l.joints.length (fun i=>!bbj kind body oth (l.joints.getD i default)))
def drHit (l:Li) (known:List Bool) (i:Nat):Bool:=!kn known (l.drivers.getD i default).body && decide (0 <= jointI l 0 (l.drivers.getD i default).body known)
def driverG (l:Li) (known:List Bool):Option Gr :=
  (abi l.drivers.length (fun i=>!drHit l known i)).map fun i=>⟨0,[(l.drivers.getD i default).body],[jointI l 0 (l.drivers.getD i default).body known],i⟩
def prHit (l:Li) (known:List Bool) (i k:Nat):Bool :=
  (freeB l known i && freeB l known k) && (decide (0 <= jointI l 0 i known) && decide (0 <= jointI l 0 k known) && decide (0 <= jointI l 0 i (aeh l.bodies.length k)))
def prAt (l:Li) (known:List Bool) (i:Nat):Option Nat:=(abi (l.bodies.length - (i + 1)) (fun k=>!prHit l known i (i + 1 + k))).map (· + (i + 1))
def prG (l:Li) (known:List Bool) (i k:Nat):Gr:=⟨1,[i,k],[jointI l 0 i known,jointI l 0 k known,jointI l 0 i (aeh l.bodies.length k)],0⟩
def pairG (l:Li) (known:List Bool):Option Gr :=
  (abi l.bodies.length (fun i=>(prAt l known i).isNone)).map fun i=>match prAt l known i with
    | some k=>prG l known i k
    | none=>default
def sgHit (l:Li) (known:List Bool) (i:Nat):Bool:=freeB l known i && (decide (0 <= jointI l 0 i known) && decide (0 <= jointI l 1 i known))
def sgG (l:Li) (known:List Bool) (i:Nat):Gr :=
  ⟨if (l.joints.getD (jointI l 1 i known).toNat default).a = i then 2 else 3,[i],[jointI l 0 i known,jointI l 1 i known],0⟩
def singleG (l:Li) (known:List Bool):Option Gr:=(abi l.bodies.length (fun i=>!sgHit l known i)).map (sgG l known)
def nextG (l:Li) (known:List Bool):Option Gr:=(driverG l known).or ((pairG l known).or (singleG l known))
def aas (known:List Bool) (bs:List Int):List Bool:=bs.foldl (fun k b=>k.set b.toNat true) known
def findFrom (l:Li):Nat -> List Bool -> List Gr -> List Bool × List Gr
  | 0,known,out=>(known,out)
  | n + 1, known, out=>match nextG l known with
    | none=>(known,out)
    | some g=>findFrom l n (aas known g.bodies) (out ++ [g])
def findG (l:Li):List Gr:=(findFrom l l.bodies.length (aeh l.bodies.length 0) []).2
def adj (l:Li):List Bool:=(findG l).foldl (fun k g=>aas k g.bodies) (aeh l.bodies.length 0)
def agx (l:Li):List Bool:=(findG l).foldl (fun k g=>aas k g.joints) (List.replicate l.joints.length false)
def ace (k:List Bool):List Int:=((List.range k.length).filter (fun i=>!k.getD i false)).map (fun i:Nat=>((i:Nat):Int))
def splitE (l:Li):Nat:=if (ace (adj l)).length + (ace (agx l)).length = 0 then 0 else 7
def splitG (l:Li):List Gr:=if splitE l = 0 then findG l else []
theorem ave {kind body:Int} {oth:List Bool} {j:Jt} {va vb:Bool} (ea:kn oth j.a = va) (eb:kn oth j.b = vb) :
  cond (aaa .eql j.kind kind) (cond (cond (aaa .eql j.a body) vb false) true (cond (aaa .eql j.b body) va false)) false = bbj kind body oth j:=by
 unfold bbj
 rw [ak6,ak6,ak6,ea,eb,adf,adf,adf,ahl]
theorem ad3 (n:Nat) (b:Int):(aeh n b).length = n:=by unfold aeh; simp
theorem afi:∀ (bs:List Int) (k:List Bool), (aas k bs).length = k.length
 | [],k=>rfl
 | b :: bs, k=>by
  show (aas (k.set b.toNat true) bs).length = _
  rw [afi bs]; simp
theorem abp {n i:Nat} {ok:Nat -> Bool} (h:abi n ok = some i):i < n /\ ok i = false:=by
 unfold abi at h
 rw [List.find?_range_eq_some] at h
 exact ⟨by simpa using h.2.1,by simpa using h.1⟩
theorem afu {l:Li} {kind body:Int} {oth:List Bool}:-1 <= jointI l kind body oth /\ jointI l kind body oth < l.joints.length:=by
 unfold jointI
 cases h:abi l.joints.length (fun i=>!bbj kind body oth (l.joints.getD i default)) with
 | none=>exact ⟨by decide,by show (-1:Int) < _; omega⟩
 | some i=>have:=(abp h).1; exact ⟨by show (-1:Int) <= (i:Int); omega,by show (i:Int) < _; omega⟩
structure GrOk (l:Li) (g:Gr):Prop where
  b:∀ x ∈ g.bodies,0 <= x /\ x < l.bodies.length
  j:∀ x ∈ g.joints,0 <= x /\ x < l.joints.length
  lb:g.bodies.length <= 2
  lj:g.joints.length <= 3
theorem a4j {l:Li} (hl:liE l = 0) {known:List Bool} {g:Gr} (h:driverG l known = some g):GrOk l g:=by
 unfold driverG at h
 rw [map_eq_some_iff] at h
 obtain ⟨i,hi,rfl⟩:=h
 obtain ⟨h1,h2⟩:=abp hi
 obtain ⟨d,hd⟩:=abt h1
 have h3:=ahg (az5 hl hd)
 unfold drHit at h2
 simp only [Bool.not_eq_false',and_eq_true,decide_eq_true_eq] at h2
 rw [aaf hd] at h2 ⊢
 have h4:=afu (l:=l) (kind:=0) (body:=d.body) (oth:=known)
 refine ⟨fun x hx=>?_,fun x hx=>?_,by simp,by simp⟩
 ·rw [List.mem_singleton.1 hx]; exact h3
 ·rw [List.mem_singleton.1 hx]; exact ⟨h2.2,h4.2⟩
theorem bdq {l:Li} {known:List Bool} {g:Gr} (h:pairG l known = some g):GrOk l g:=by
 unfold pairG at h
 rw [map_eq_some_iff] at h
 obtain ⟨i,hi,h⟩:=h
 obtain ⟨h1,h2⟩:=abp hi
 split at h
 ·rename_i k hk
  subst h
  unfold prAt at hk
  rw [map_eq_some_iff] at hk
  obtain ⟨k',hk',rfl⟩:=hk
  obtain ⟨h3,h4⟩:=abp hk'
  rw [show i + 1 + k' = k' + (i + 1) by omega] at h4
  unfold prHit at h4
  simp only [Bool.not_eq_false',and_eq_true,decide_eq_true_eq] at h4
  obtain ⟨_,⟨j1,j2⟩,j3⟩:=h4
  refine ⟨fun x hx=>?_,fun x hx=>?_,by simp [prG],by simp [prG]⟩
  ·simp only [prG, mem_cons, not_mem_nil, or_false] at hx
   rcases hx with rfl | rfl <;> constructor <;> omega
  ·simp only [prG, mem_cons, not_mem_nil, or_false] at hx
   rcases hx with rfl | rfl | rfl
   ·exact ⟨j1,afu.2⟩
   ·exact ⟨j2,afu.2⟩
   ·exact ⟨j3,afu.2⟩
 ·rename_i hk; rw [hk] at h2; cases h2
theorem a4e {l:Li} {known:List Bool} {g:Gr} (h:singleG l known = some g):GrOk l g:=by
 unfold singleG at h
 rw [map_eq_some_iff] at h
 obtain ⟨i,hi,rfl⟩:=h
 obtain ⟨h1,h2⟩:=abp hi
 unfold sgHit at h2
 simp only [Bool.not_eq_false',and_eq_true,decide_eq_true_eq] at h2
 obtain ⟨_,j1,j2⟩:=h2
 refine ⟨fun x hx=>?_,fun x hx=>?_,by simp [sgG],by simp [sgG]⟩
 ·simp only [sgG, mem_cons, not_mem_nil, or_false] at hx
  subst hx; constructor <;> omega
 ·simp only [sgG, mem_cons, not_mem_nil, or_false] at hx
  rcases hx with rfl | rfl
  ·exact ⟨j1,afu.2⟩
  ·exact ⟨j2,afu.2⟩
theorem au3 {l:Li} (hl:liE l = 0) {known:List Bool} {g:Gr} (h:nextG l known = some g):GrOk l g:=by
 unfold nextG at h
 cases h1:driverG l known with
 | some g'=>rw [h1] at h; cases h; exact a4j hl h1
 | none =>
  rw [h1] at h
  cases h2:pairG l known with
  | some g'=>rw [h2] at h; cases h; exact bdq h2
  | none=>rw [h2] at h; exact a4e h
theorem aqk {l:Li} (hl:liE l = 0):∀ (n:Nat) (known:List Bool) (out:List Gr), (∀ g ∈ out, GrOk l g) -> (∀ g ∈ (findFrom l n known out).2, GrOk l g) /\ (findFrom l n known out).2.length <= out.length + n
 | 0,known,out,h=>⟨h,by simp [findFrom]⟩
 | n + 1, known, out, h=>by
  unfold findFrom
  cases hg:nextG l known with
  | none=>exact ⟨h,by simp⟩
  | some g =>
   have h1:=aqk hl n (aas known g.bodies) (out ++ [g]) (fun x hx=>by
    rcases List.mem_append.1 hx with hx | hx
    ·exact h x hx
    ·rw [List.mem_singleton.1 hx]; exact au3 hl hg)
   refine ⟨h1.1,?_⟩
   have:=h1.2
   rw [length_append] at this
   show (findFrom l n (aas known g.bodies) (out ++ [g])).2.length <= _
   simp only [length_cons,length_nil] at this
   omega
theorem ake {l:Li} (hl:liE l = 0):(∀ g ∈ findG l, GrOk l g) /\ (findG l).length <= 8:=by
 have h:=aqk hl l.bodies.length (aeh l.bodies.length 0) [] (fun g hg=>by cases hg)
 have h8:=(abz hl).2.2.2.1
 exact ⟨h.1,by have:=h.2; simp only [length_nil] at this; unfold findG; omega⟩
end Go.Lw
namespace Go.Lw
def ai0 (j:Jt) (b:Int):Int:=if b = j.a then j.b else if b = j.b then j.a else -1
def bpc (kind body:Int) (p:Int -> Bool) (j:Jt):Bool:=decide (j.kind = kind) && (decide (0 <= ai0 j body) && p (ai0 j body))
def gJ (l:Li) (kind body:Int) (p:Int -> Bool):Int:=ixI (abi l.joints.length (fun i=>!bpc kind body p (l.joints.getD i default)))
theorem bsy {b:Bool} {z:Int} (h:cond b (aaa .geq z 0) false = true):0 <= z:=by
 cases b
 ·cases h
 ·exact of_decide_eq_true h
theorem bnl {a k z:Int} {q:Bool}:cond (cond (aaa .eql a k) (aaa .geq z 0) false) q false = (decide (a = k) && (decide (0 <= z) && q)):=by
 rw [ak6,show aaa .geq z 0 = decide (0 <= z) from rfl,adf,adf,Bool.and_assoc]
theorem bcv {l:Li} (hli:liE l = 0) {i:Nat} {j:Jt} (hj:l.joints[i]? = some j) (b:Int):ai0 j b < l.bodies.length:=by
 obtain ⟨i1,i2,_⟩:=aet hli hj
 have b1:=ahg i1
 have b2:=ahg i2
 unfold ai0
 split
 ·omega
 ·split <;> omega
theorem ax0 {n:Nat} {ok ok':Nat -> Bool} (h:∀ i, i < n -> ok i = ok' i):abi n ok = abi n ok':=by
 unfold abi
 have:∀ l:List Nat, (∀ i ∈ l, i < n) -> l.find? (fun i=>!ok i) = l.find? (fun i=>!ok' i):=by
  intro l
  induction l with
  | nil=>intro _; rfl
  | cons a l ih =>
   intro hl
   simp only [List.find?_cons,h a (hl a (by simp)),ih (fun i hi=>hl i (by simp [hi]))]
 exact this _ (fun i hi=>List.mem_range.1 hi)
theorem bg4 {l:Li} (hli:liE l = 0) {kind body:Int} {p:Int -> Bool} {oth:List Bool} (h:∀ o:Int, 0 <= o -> o < l.bodies.length -> p o = kn oth o):gJ l kind body p = jointI l kind body oth:=by
 unfold gJ jointI
 rw [ax0]
 intro i hi
 obtain ⟨j,hj⟩:=abt hi
 rw [aaf hj]
 obtain ⟨i1,i2,_⟩:=aet hli hj
 have b1:=ahg i1
 have b2:=ahg i2
 congr 1
 unfold bpc bbj
 congr 1
 unfold ai0
 by_cases h1:body = j.a
 ·subst h1
  rw [if_pos rfl,h _ b2.1 b2.2]
  by_cases h2:j.b = j.a
  ·simp [h2,b1.1]
  ·simp [h2,b2.1]
 ·rw [if_neg h1]
  by_cases h2:body = j.b
  ·subst h2
   rw [if_pos rfl,h _ b1.1 b1.2]
   have h3:¬ j.a = j.b:=fun e=>h1 e.symm
   simp [h3,b1.1]
  ·rw [if_neg h2]
   have h3:¬ j.a = body:=fun e=>h1 e.symm
   have h4:¬ j.b = body:=fun e=>h2 e.symm
   simp [h3,h4]
theorem bf4 {k:List Bool} {i:Nat} {b:Int} (h0:0 <= b) (hi:i < k.length):kn (k.set i true) b = (decide (b = i) || kn k b):=by
 unfold kn
 rw [getD_eq_getElem?_getD,List.getElem?_set,getD_eq_getElem?_getD]
 by_cases h:b = i
 ·rw [decide_eq_true h, Bool.true_or, if_pos (by omega)]
  rw [if_pos (by omega)]; rfl
 ·rw [decide_eq_false h,Bool.false_or,if_neg (by omega)]
theorem a7l:∀ {bs:List Int} {k:List Bool} {b:Int}, 0 <= b -> (∀ x ∈ bs, 0 <= x /\ x < k.length) -> kn (aas k bs) b = (bs.any (fun x=>decide (x = b)) || kn k b)
 | [],k,b,h0,h=>by simp [aas]
 | x :: bs, k, b, h0, h=>by
  show kn (aas (k.set x.toNat true) bs) b = _
  obtain ⟨hx0,hx1⟩:=h x (by simp)
  rw [a7l h0 (fun y hy=>by rw [length_set]; exact h y (by simp [hy])),bf4 h0 (by omega),List.any_cons]
  have e:decide (b = (x.toNat:Int)) = decide (x = b):=decide_eq_decide.2 (by omega)
  rw [e]
  cases decide (x = b) <;> simp
theorem a2q (n:Nat) (b:Int):kn (List.replicate n false) b = false:=by
 unfold kn
 rw [getD_eq_getElem?_getD,List.getElem?_replicate]
 split <;> rfl
def aaw (l:Li):List Bool:=aas (List.replicate l.bodies.length false) (l.drivers.map Dr.body)
theorem aht (l:Li):(aaw l).length = l.bodies.length:=by unfold aaw; rw [afi,List.length_replicate]
theorem bbf {l:Li} (hli:liE l = 0) {b:Int} (h0:0 <= b):kn (aaw l) b = ak7 l b:=by
 unfold aaw ak7
 rw [a7l h0,a2q,Bool.or_false,List.any_map]
 ·rfl
 ·intro x hx
  obtain ⟨d,hd,rfl⟩:=List.mem_map.1 hx
  obtain ⟨i,hi⟩:=List.mem_iff_getElem?.1 hd
  have:=ahg (az5 hli hi)
  rw [List.length_replicate]; omega
theorem azx {n:Nat} {b o:Int} (h0:0 <= o) (hb0:0 <= b) (hb:b < n):kn (aeh n b) o = decide (o = b):=by
 unfold aeh
 rw [bf4 h0 (by rw [List.length_replicate]; omega),a2q,Bool.or_false]
 exact decide_eq_decide.2 (by omega)
def unk (k:List Bool):Nat:=k.countP (fun x=>!x)
theorem bkj {k:List Bool} {i:Nat} (h:k[i]? = some false):unk (k.set i true) + 1 = unk k:=by
 unfold unk
 have hi:=(List.getElem?_eq_some_iff.1 h).1
 have he:=(List.getElem?_eq_some_iff.1 h).2
 rw [List.countP_set hi,he]
 have:0 < k.countP (fun x=>!x):=List.countP_pos_iff.2 ⟨false,mem_of_getElem? h,rfl⟩
 simp; omega
theorem a41 (k:List Bool) (i:Nat):unk (k.set i true) <= unk k:=by
 by_cases hi:i < k.length
 ·unfold unk; rw [List.countP_set hi]; simp
 ·rw [List.set_eq_of_length_le (by omega)]; exact le_refl _
theorem ape:∀ (bs:List Int) (k:List Bool), unk (aas k bs) <= unk k
 | [],k=>le_refl _
 | x :: bs,k=>le_trans (ape bs (k.set x.toNat true)) (a41 k _)
theorem bcs {x:Int} {bs:List Int} {k:List Bool} (h:k[x.toNat]? = some false):unk (aas k (x :: bs)) < unk k:=by
 have h1:=ape bs (k.set x.toNat true)
 have h2:=bkj h
 show unk (aas (k.set x.toNat true) bs) < _
 omega
theorem a71 {k:List Bool} {b:Int} (h:kn k b = false) (h1:b.toNat < k.length):k[b.toNat]? = some false:=by
 unfold kn at h
 rw [getD_eq_getElem?_getD,getElem?_eq_getElem h1] at h
 rw [getElem?_eq_getElem h1]
 simpa using h
theorem a9f {l:Li} (hl:liE l = 0) {known:List Bool} (hk:known.length = l.bodies.length) {g:Gr} (h:nextG l known = some g):∃ x bs, g.bodies = x :: bs /\ known[x.toNat]? = some false:=by
 unfold nextG at h
 cases h1:driverG l known with
 | some g' =>
  rw [h1] at h; cases h
  unfold driverG at h1
  rw [map_eq_some_iff] at h1
  obtain ⟨i,hi,rfl⟩:=h1
  obtain ⟨h2,h3⟩:=abp hi
  obtain ⟨d,hd⟩:=abt h2
  have h4:=ahg (az5 hl hd)
  rw [aaf hd] at *
  unfold drHit at h3
  rw [aaf hd] at h3
  simp only [Bool.not_eq_false',and_eq_true,Bool.not_eq_true',decide_eq_true_eq] at h3
  exact ⟨_,_,rfl,a71 h3.1 (by omega)⟩
 | none =>
  rw [h1] at h
  cases h2:pairG l known with
  | some g' =>
   rw [h2] at h; cases h
   unfold pairG at h2
   rw [map_eq_some_iff] at h2
   obtain ⟨i,hi,h2⟩:=h2
   obtain ⟨h3,h4⟩:=abp hi
   split at h2
   ·rename_i k hk'
    subst h2
    unfold prAt at hk'
    rw [map_eq_some_iff] at hk'
    obtain ⟨k',hk',rfl⟩:=hk'
    obtain ⟨h5,h6⟩:=abp hk'
    unfold prHit freeB at h6
    simp only [Bool.not_eq_false',and_eq_true,Bool.not_eq_true',decide_eq_true_eq] at h6
    exact ⟨_,_,rfl,a71 h6.1.1.1 (by omega)⟩
   ·rename_i hk'; rw [hk'] at h4; cases h4
  | none =>
   rw [h2] at h
   have h:singleG l known = some g:=h
   unfold singleG at h
   rw [map_eq_some_iff] at h
   obtain ⟨i,hi,rfl⟩:=h
   obtain ⟨h3,h4⟩:=abp hi
   unfold sgHit freeB at h4
   simp only [Bool.not_eq_false',and_eq_true,Bool.not_eq_true',decide_eq_true_eq] at h4
   exact ⟨_,_,rfl,a71 h4.1.1 (by omega)⟩
theorem ahq {l:Li} (hl:liE l = 0) {known:List Bool} (hk:known.length = l.bodies.length) {g:Gr} (h:nextG l known = some g):unk (aas known g.bodies) < unk known:=by
 obtain ⟨x,bs,e,h1⟩:=a9f hl hk h
 rw [e]; exact bcs h1
theorem aio {l:Li} (hl:liE l = 0):∀ (n m:Nat) (known:List Bool) (out:List Gr), known.length = l.bodies.length -> unk known <= n -> unk known <= m -> findFrom l n known out = findFrom l m known out
 | 0,0,known,out,hk,h1,h2=>rfl
 | 0, m + 1, known, out, hk, h1, h2=>by
  unfold findFrom
  cases hg:nextG l known with
  | none=>rfl
  | some g=>have:=ahq hl hk hg; omega
 | n + 1, 0, known, out, hk, h1, h2=>by
  unfold findFrom
  cases hg:nextG l known with
  | none=>rfl
  | some g=>have:=ahq hl hk hg; omega
 | n + 1, m + 1, known, out, hk, h1, h2=>by
  unfold findFrom
  cases hg:nextG l known with
  | none=>rfl
  | some g =>
   have:=ahq hl hk hg
   exact aio hl n m _ _ (by rw [afi]; exact hk) (by omega) (by omega)
theorem ahf {l:Li}:∀ (n:Nat) (known:List Bool) (out:List Gr), ∃ gs, findFrom l n known out = (gs.foldl (fun k g=>aas k g.bodies) known, out ++ gs)
 | 0,known,out=>⟨[],by simp [findFrom]⟩
 | n + 1, known, out=>by
  unfold findFrom
  cases hg:nextG l known with
  | none=>exact ⟨[],by simp⟩
  | some g =>
   obtain ⟨gs,e⟩:=ahf n (aas known g.bodies) (out ++ [g])
   exact ⟨g :: gs,by show findFrom l n _ _ = _; rw [e]; simp⟩
theorem a4r (l:Li):findFrom l l.bodies.length (aeh l.bodies.length 0) [] = (adj l, findG l):=by
 obtain ⟨gs,e⟩:=ahf (l:=l) l.bodies.length (aeh l.bodies.length 0) []
 unfold adj findG
 rw [e]; simp
theorem a12 {k:List Bool}:(ace k).length = 0 ↔ k.contains false = false:=by
 unfold ace
 rw [length_map,List.length_eq_zero_iff,List.filter_eq_nil_iff]
 constructor
 ·intro h
  rw [<- Bool.not_eq_true,List.contains_iff_mem]
  intro hm
  obtain ⟨i,hi⟩:=List.mem_iff_getElem?.1 hm
  have hlt:=(List.getElem?_eq_some_iff.1 hi).1
  have:=h i (List.mem_range.2 hlt)
  rw [getD_eq_getElem?_getD,hi] at this
  simp at this
 ·intro h i hi
  rw [<- Bool.not_eq_true,List.contains_iff_mem] at h
  intro hc
  have hlt:=List.mem_range.1 hi
  rw [getD_eq_getElem?_getD,getElem?_eq_getElem hlt] at hc
  simp at hc
  exact h (hc ▸ List.getElem_mem hlt)
theorem ann:Sub (.agg [.v (.int .i64 0),.v (.slice none 0 0),.v (.slice none 0 0),.v (.int .i64 0)]) (Gr.av default):=.agg (.cons (.refl _) (.cons (.nil _ _ _) (.cons (.nil _ _ _) (.cons (.refl _) .nil)))) rfl
theorem boz {z:Int} (h:aaa .geq z 0 = true):0 <= z:=of_decide_eq_true h
theorem bk5 {z:Int} (h:aaa .geq z 0 = false):¬ 0 <= z:=of_decide_eq_false h
theorem auk {a b c:Int}:cond (cond (aaa .geq a 0) (aaa .geq b 0) false) (aaa .geq c 0) false = (decide (0 <= a) && decide (0 <= b) && decide (0 <= c)):=by
 have e:∀ z:Int,aaa .geq z 0 = decide (0 <= z):=fun z=>rfl
 rw [e,e,e,adf,adf]
theorem bmx {a b:Int}:cond (aaa .lss a 0) true (aaa .lss b 0) = !(decide (0 <= a) && decide (0 <= b)):=by
 have e:∀ z:Int,aaa .lss z 0 = !decide (0 <= z):=fun z=>by rw [<- decide_not]; exact decide_eq_decide.2 (by omega)
 rw [e,e,ahl,Bool.not_and]
theorem bmh {a b:Int} (h:cond (aaa .lss a 0) true (aaa .lss b 0) = true):(decide (0 <= a) && decide (0 <= b)) = false:=by rw [bmx] at h; exact adh h
theorem bng {a b:Int} (h:cond (aaa .lss a 0) true (aaa .lss b 0) = false):0 <= a /\ 0 <= b:=by
 rw [bmx] at h
 have:=adi h
 simpa using this
end Go.Lw
namespace Go.Lw
structure TieO (l:Li) (kind:Int) (bs:List Int) (z b:Int) (j:Jt):Prop where
  hz:0 <= z
  hj:l.joints[z.toNat]? = some j
  kd:j.kind = kind
  tie:(j.a = b /\ j.b ∉ bs) \/ (j.b = b /\ j.a ∉ bs)
inductive DyK (l:Li):Gr -> Prop where
  | drv {b z d:Int} {j:Jt} {x:Dr} (t:TieO l 0 [b] z b j) (d0:0 <= d) (hd:l.drivers[d.toNat]? = some x) (hb:x.body = b):DyK l ⟨0,[b],[z],d⟩
  | rrr {i k z0 z1 z2:Int} {j0 j1 j2:Jt} (ne:i ≠ k) (t0:TieO l 0 [i, k] z0 i j0) (t1:TieO l 0 [i, k] z1 k j1) (h0:0 <= z2) (h2:l.joints[z2.toNat]? = some j2) (kd:j2.kind = 0)
      (tie:(j2.a = i /\ j2.b = k) \/ (j2.b = i /\ j2.a = k)):DyK l ⟨1,[i,k],[z0,z1,z2],0⟩
  | pr {i z0 z1:Int} {j0 j1:Jt} (t0:TieO l 0 [i] z0 i j0) (t1:TieO l 1 [i] z1 i j1) (ha:j1.a = i):DyK l ⟨2,[i],[z0,z1],0⟩
  | rp {i z0 z1:Int} {j0 j1:Jt} (t0:TieO l 0 [i] z0 i j0) (t1:TieO l 1 [i] z1 i j1) (ha:j1.a ≠ i):DyK l ⟨3,[i],[z0,z1],0⟩
theorem aw5 {l:Li} {kind b:Int} {oth:List Bool} (h:0 <= jointI l kind b oth) :
  ∃ (i:Nat) (j:Jt),jointI l kind b oth = (i:Int) /\ l.joints[i]? = some j /\ j.kind = kind /\ ((j.a = b /\ kn oth j.b = true) \/ (j.b = b /\ kn oth j.a = true)):=by
 unfold jointI at h ⊢
 cases hf:abi l.joints.length (fun i=>!bbj kind b oth (l.joints.getD i default)) with
 | none=>rw [hf] at h; exact absurd h (by decide)
 | some i =>
  obtain ⟨h1,h2⟩:=abp hf
  obtain ⟨j,hj⟩:=abt h1
  rw [aaf hj] at h2
  unfold bbj at h2
  simp only [Bool.not_eq_false',and_eq_true,or_eq_true,decide_eq_true_eq] at h2
  exact ⟨i,j,rfl,hj,h2.1,h2.2⟩
theorem awe {l:Li} {kind b:Int} {known:List Bool} {bs:List Int} (hb:∀ x ∈ bs, kn known x = false) (h:0 <= jointI l kind b known):∃ j, TieO l kind bs (jointI l kind b known) b j:=by
 obtain ⟨i,j,e,hj,hk,ht⟩:=aw5 h
 have hn:∀ x,kn known x = true -> x ∉ bs:=fun x hx hm=>by rw [hb x hm] at hx; cases hx
 refine ⟨j,h,by rw [e,toNat_natCast]; exact hj,hk,?_⟩
 rcases ht with ⟨h1,h2⟩ | ⟨h1,h2⟩
 ·exact .inl ⟨h1,hn _ h2⟩
 ·exact .inr ⟨h1,hn _ h2⟩
theorem at6 {l:Li} {known:List Bool} {b:Int} (h:freeB l known b = true):kn known b = false:=by
 unfold freeB at h
 simp only [and_eq_true,Bool.not_eq_true'] at h
 exact h.1
theorem a7z {known:List Bool} {b:Int} (h:kn known b = false):∀ x ∈ [b],kn known x = false:=fun x hx=>by rw [List.mem_singleton.1 hx]; exact h
theorem a35 {l:Li} (hl:liE l = 0) {known:List Bool} {g:Gr} (h:driverG l known = some g):DyK l g:=by
 unfold driverG at h
 rw [map_eq_some_iff] at h
 obtain ⟨i,hi,rfl⟩:=h
 obtain ⟨h1,h2⟩:=abp hi
 obtain ⟨d,hd⟩:=abt h1
 unfold drHit at h2
 simp only [Bool.not_eq_false',and_eq_true,decide_eq_true_eq,Bool.not_eq_true'] at h2
 rw [aaf hd] at h2 ⊢
 obtain ⟨j,hj⟩:=awe (a7z h2.1) h2.2
 exact .drv hj (by omega) (by rw [toNat_natCast]; exact hd) rfl
theorem bc8 {l:Li} (hl:liE l = 0) {known:List Bool} {g:Gr} (h:pairG l known = some g):DyK l g:=by
 unfold pairG at h
 rw [map_eq_some_iff] at h
 obtain ⟨i,hi,h⟩:=h
 obtain ⟨h1,h2⟩:=abp hi
 split at h
 ·rename_i k hk
  subst h
  unfold prAt at hk
  rw [map_eq_some_iff] at hk
  obtain ⟨k',hk',rfl⟩:=hk
  obtain ⟨h3,h4⟩:=abp hk'
  rw [show i + 1 + k' = k' + (i + 1) by omega] at h4
  unfold prHit at h4
  simp only [Bool.not_eq_false',and_eq_true,decide_eq_true_eq] at h4
  obtain ⟨⟨f1,f2⟩,⟨j1,j2⟩,j3⟩:=h4
  have hb:∀ x ∈ [(i:Int), ((k' + (i + 1):Nat):Int)], kn known x = false:=fun x hx=>by
   simp only [mem_cons,not_mem_nil,or_false] at hx
   rcases hx with rfl | rfl
   ·exact at6 f1
   ·exact at6 f2
  obtain ⟨a0,t0⟩:=awe hb j1
  obtain ⟨a1,t1⟩:=awe hb j2
  obtain ⟨n,a2,e,hj,hkd,ht⟩:=aw5 j3
  obtain ⟨i1,i2,_⟩:=aet hl hj
  have i1:=(ahg i1).1
  have i2:=(ahg i2).1
  refine .rrr (by omega) t0 t1 j3 (by rw [e,toNat_natCast]; exact hj) hkd ?_
  rcases ht with ⟨e1,e2⟩ | ⟨e1,e2⟩
  ·rw [azx i2 (by omega) (by omega)] at e2
   exact .inl ⟨e1,of_decide_eq_true e2⟩
  ·rw [azx i1 (by omega) (by omega)] at e2
   exact .inr ⟨e1,of_decide_eq_true e2⟩
 ·rename_i hk; rw [hk] at h2; cases h2
theorem a3d {l:Li} {known:List Bool} {g:Gr} (h:singleG l known = some g):DyK l g:=by
 unfold singleG at h
 rw [map_eq_some_iff] at h
 obtain ⟨i,hi,rfl⟩:=h
 obtain ⟨h1,h2⟩:=abp hi
 unfold sgHit at h2
 simp only [Bool.not_eq_false',and_eq_true,decide_eq_true_eq] at h2
 obtain ⟨f1,j1,j2⟩:=h2
 obtain ⟨a0,t0⟩:=awe (a7z (at6 f1)) j1
 obtain ⟨a1,t1⟩:=awe (a7z (at6 f1)) j2
 unfold sgG
 rw [aaf t1.hj]
 by_cases e:a1.a = i
 ·rw [if_pos e]; exact .pr t0 t1 e
 ·rw [if_neg e]; exact .rp t0 t1 e
theorem bbp {l:Li} (hl:liE l = 0) {known:List Bool} {g:Gr} (h:nextG l known = some g):DyK l g:=by
 unfold nextG at h
 cases h1:driverG l known with
 | some g'=>rw [h1] at h; cases h; exact a35 hl h1
 | none =>
  rw [h1] at h
  cases h2:pairG l known with
  | some g'=>rw [h2] at h; cases h; exact bc8 hl h2
  | none=>rw [h2] at h; exact a3d h
theorem apn {l:Li} (hl:liE l = 0):∀ (n:Nat) (known:List Bool) (out:List Gr), (∀ g ∈ out, DyK l g) -> ∀ g ∈ (findFrom l n known out).2, DyK l g
 | 0,known,out,h=>h
 | n + 1, known, out, h=>by
  unfold findFrom
  cases hg:nextG l known with
  | none=>exact h
  | some g=>exact apn hl n (aas known g.bodies) (out ++ [g]) (fun x hx=>by
    rcases List.mem_append.1 hx with hx | hx
    ·exact h x hx
    ·rw [List.mem_singleton.1 hx]; exact bbp hl hg)
theorem amv {l:Li} (hl:liE l = 0) {g:Gr} (h:g ∈ splitG l):DyK l g /\ GrOk l g:=by
 unfold splitG at h
 split at h
 ·exact ⟨apn hl _ _ _ (fun g hg=>by cases hg) g h,(ake hl).1 g h⟩
 ·cases h
end Go.Lw
namespace Go.Lw
def ao3 (xs:List Int):List Int:=xs.mergeSort (fun a b=>decide (a <= b))
theorem auv (xs:List Int):(ao3 xs).Perm xs:=List.mergeSort_perm _ _
theorem a39 (xs:List Int):(ao3 xs).Pairwise (· <= ·):=by
 have h:=List.pairwise_mergeSort (le:=fun a b:Int=>decide (a <= b)) (fun a b c h1 h2=>by simp only [decide_eq_true_eq] at *; omega) (fun a b=>by simp only [or_eq_true,decide_eq_true_eq]; omega) xs
 exact h.imp (fun h=>of_decide_eq_true h)
theorem bbu {xs ys:List Int} (hp:ys.Perm xs) (hs:ys.Pairwise (· <= ·)):ys = ao3 xs :=
 List.Perm.eq_of_pairwise (le:=fun a b:Int=>a <= b) (fun a b _ _ h1 h2=>by omega) hs (a39 xs) (hp.trans (auv xs).symm)
theorem bar (xs:List Int):(ao3 xs).length = xs.length:=(auv xs).length_eq
theorem az4 {xs:List Int} {b:Int}:b ∈ ao3 xs ↔ b ∈ xs:=(auv xs).mem_iff
theorem arm (e:Nat) (l:List Nat):aed (e :: l) = if e ≠ 0 then e else aed l:=rfl
theorem ak2 {α:Type} {f:α -> Nat} {L:List α} (h:∀ x ∈ L, f x = 0):aed (L.map f) = 0:=by
 induction L with
 | nil=>rfl
 | cons x L ih =>
  rw [map_cons,arm,if_neg (by rw [h x (mem_cons_self ..)]; simp)]
  exact ih (fun y hy=>h y (mem_cons_of_mem _ hy))
def anc (g:Gr) (j:Jt):Int:=if g.bodies.contains j.a = true then (if g.bodies.contains j.b = true then -1 else j.b) else j.a
def at3 (l:Li) (g:Gr):List Int:=g.joints.map (fun j=>anc g (l.joints.getD j.toNat default))
theorem anr (l:Li) (g:Gr):(at3 l g).length = g.joints.length:=by unfold at3; rw [length_map]
theorem bjj {l:Li} (hl:liE l = 0) {g:Gr} (hg:GrOk l g):∀ b ∈ at3 l g, b < l.bodies.length:=by
 intro b hb
 unfold at3 at hb
 obtain ⟨z,hz,rfl⟩:=List.mem_map.1 hb
 obtain ⟨z0,z1⟩:=hg.j z hz
 obtain ⟨j,hj⟩:=abt (l:=l.joints) (i:=z.toNat) (by omega)
 rw [aaf hj]
 obtain ⟨i1,i2,_⟩:=aet hl hj
 have i1:=ahg i1
 have i2:=ahg i2
 unfold anc
 split
 ·split
  ·omega
  ·omega
 ·omega
def ndL (l:Li) (g:Gr) (own:Bool):List Int:=at3 l g ++ (if own = true then g.bodies else [])
theorem ba2 {l:Li} (hl:liE l = 0) {g:Gr} (hg:GrOk l g) {own:Bool}:∀ b ∈ ndL l g own, b < l.bodies.length:=by
 intro b hb
 rcases List.mem_append.1 hb with hb | hb
 ·exact bjj hl hg b hb
 ·split at hb
  ·exact (hg.b b hb).2
  ·cases hb
theorem bmw {l:Li} {g:Gr} (hg:GrOk l g) {own:Bool}:(ndL l g own).length <= 5:=by
 unfold ndL
 have h1:=hg.lb
 have h2:=hg.lj
 rw [length_append,anr]
 split
 ·omega
 ·simp only [length_nil]; omega
def ndE (a:As) (b:Int):Nat:=if b < 0 then 0 else aaz a.rs (a.bs.getD b.toNat default).l
def gAt (l:Li) (k:Int):Gr:=(splitG l).getD k.toNat default
def a3n (l:Li) (k:Int) (a:As) (own:Bool):Nat :=
  if splitE l ≠ 0 then splitE l else if k < 0 \/ ((splitG l).length:Int) <= k then 9 else if a.bs.length ≠ l.bodies.length then 10 else if aeb a.rs ≠ 0 then aeb a.rs
  else aed ((ao3 (ndL l (gAt l k) own)).map (ndE a))
def dyE (l:Li) (k:Int) (a:As) (own:Bool):Nat:=if liE l ≠ 0 then liE l else a3n l k a own
section
variable {l:Li} {k:Int} {a:As} {own:Bool}
theorem bk1 (h:liE l = 0):dyE l k a own = a3n l k a own:=by unfold dyE; rw [if_neg (by omega)]
theorem bsr {e:Nat} (he:(if liE l = 0 then splitE l else liE l) = e) (h:e ≠ 0):dyE l k a own = e:=by
 by_cases h1:liE l = 0
 ·rw [if_pos h1] at he
  rw [bk1 h1]; unfold a3n; rw [if_pos (by omega)]; exact he
 ·rw [if_neg h1] at he
  unfold dyE; rw [if_pos h1]; exact he
theorem brn (h:(if liE l = 0 then splitE l else liE l) = 0):liE l = 0 /\ splitE l = 0:=by
 by_cases h1:liE l = 0
 ·rw [if_pos h1] at h; exact ⟨h1,h⟩
 ·rw [if_neg h1] at h; exact absurd h h1
theorem bss (hs:splitE l = 0) (hk:k < 0 \/ ((splitG l).length:Int) <= k):a3n l k a own = 9:=by unfold a3n; rw [if_neg (by omega),if_pos hk]
theorem bsm (hs:splitE l = 0) (hk:¬ (k < 0 \/ ((splitG l).length:Int) <= k)) (hb:a.bs.length ≠ l.bodies.length):a3n l k a own = 10:=by
 unfold a3n; rw [if_neg (by omega),if_neg hk,if_pos hb]
theorem bsh (hs:splitE l = 0) (hk:¬ (k < 0 \/ ((splitG l).length:Int) <= k)) (hb:a.bs.length = l.bodies.length) (hc:aeb a.rs ≠ 0):a3n l k a own = aeb a.rs:=by
 unfold a3n; rw [if_neg (by omega),if_neg hk,if_neg (by omega),if_pos hc]
theorem bsk (hs:splitE l = 0) (hk:¬ (k < 0 \/ ((splitG l).length:Int) <= k)) (hb:a.bs.length = l.bodies.length) (hc:aeb a.rs = 0):a3n l k a own = aed ((ao3 (ndL l (gAt l k) own)).map (ndE a)):=by
 unfold a3n; rw [if_neg (by omega),if_neg hk,if_neg (by omega),if_neg (by omega)]
end
structure DyOk (l:Li) (k:Int) (a:As) (own:Bool) (i:Nat) (g:Gr):Prop where
  li:liE l = 0
  sp:splitE l = 0
  hk:k = (i:Int)
  hg:(splitG l)[i]? = some g
  ok:GrOk l g
  dy:DyK l g
  ln:a.bs.length = l.bodies.length
  chk:aeb a.rs = 0
  nd:∀ b ∈ ndL l g own,ndE a b = 0
theorem a50 {l:Li} {k:Int} {a:As} {own:Bool} (h:dyE l k a own = 0):∃ i g, DyOk l k a own i g:=by
 unfold dyE at h
 split at h
 ·rename_i h1; exact absurd h h1
 ·rename_i h1
  have h1:=Decidable.not_not.1 h1
  unfold a3n at h
  split at h
  ·rename_i h2; exact absurd h h2
  ·rename_i h2
   split at h
   ·cases h
   ·rename_i h3
    split at h
    ·cases h
    ·rename_i h4
     split at h
     ·rename_i h5; exact absurd h h5
     ·rename_i h5
      obtain ⟨g,hg⟩:=abt (l:=splitG l) (i:=k.toNat) (by omega)
      have e:gAt l k = g:=aaf hg
      rw [e] at h
      obtain ⟨d1,d2⟩:=amv h1 (mem_of_getElem? hg)
      refine ⟨k.toNat,g,h1,by omega,by omega,hg,d2,d1,by omega,by omega,fun b hb=>?_⟩
      exact aei h _ (List.mem_map.2 ⟨b,az4.2 hb,rfl⟩)
theorem DyOk.body {l:Li} {k:Int} {a:As} {own:Bool} {i:Nat} {g:Gr} (h:DyOk l k a own i g) {b:Int} (hb:b ∈ ndL l g own) (h0:0 <= b):∃ p, a.bs[b.toNat]? = some p /\ aaz a.rs p.l = 0:=by
 have h1:=ba2 h.li h.ok b hb
 obtain ⟨p,hp⟩:=abt (l:=a.bs) (i:=b.toNat) (by have:=h.ln; omega)
 have h2:=h.nd b hb
 unfold ndE at h2
 rw [if_neg (by omega),aaf hp] at h2
 exact ⟨p,hp,h2⟩
theorem bqv (n:Nat):4000 <= lm n:=by have:=aea n; omega
theorem bqe {k:Int} {n:Nat} (h:cond (aaa .lss k 0) true (aaa .geq k (n:Int)) = true):k < 0 \/ (n:Int) <= k:=by
 by_cases h1:k < 0
 ·exact .inl h1
 ·refine .inr ?_
  have h2:aaa .lss k 0 = false:=decide_eq_false h1
  rw [h2] at h
  exact of_decide_eq_true (p:=k >= n) h
theorem brx {k:Int} {n:Nat} (h:cond (aaa .lss k 0) true (aaa .geq k (n:Int)) = false):¬ (k < 0 \/ (n:Int) <= k):=by
 intro h1
 by_cases h2:k < 0
 ·rw [show aaa .lss k 0 = true from decide_eq_true h2] at h; cases h
 ·rw [show aaa .lss k 0 = false from decide_eq_false h2] at h
  have h3:¬ (k >= n):=of_decide_eq_false h
  omega
theorem bnx {k:Int} {n:Nat} (h:¬ (k < 0 \/ (n:Int) <= k)):∃ i:Nat,k = i /\ i < n:=⟨k.toNat,by omega,by omega⟩
theorem bmz {a b:Nat} (h:aaa .neq (a:Int) (b:Int) = true):a ≠ b:=by
 have h1:((a:Int) != (b:Int)) = true:=h
 have h2:=bne_iff_ne.1 h1
 omega
theorem bmg {a b:Nat} (h:aaa .neq (a:Int) (b:Int) = false):a = b:=by
 have h1:((a:Int) != (b:Int)) = false:=h
 have h2:(a:Int) = b:=by simpa only [bne_eq_false_iff_eq] using h1
 omega
end Go.Lw
namespace Go.Lw
open Go.Proofs
end Go.Lw
namespace Go.Lw
open Go.Proofs
end Go.Lw
namespace Go.Lw
def mkQ (l:Li) (body pt:Int):Rat × Rat:=(((adz l body).getD pt.toNat default).x.q,((adz l body).getD pt.toNat default).y.q)
abbrev qC (p:Rat × Rat):List AV:=[bl (rt p.1).neg,ws (rt p.1).num,ws (rt p.1).den,bl (rt p.2).neg,ws (rt p.2).num,ws (rt p.2).den]
abbrev qP (p:Rat × Rat):AV:=.agg (qC p)
structure Sm (e:Nat) (p:Rat × Rat):Prop where
  x:Qb e p.1
  y:Qb e p.2
structure MkP (l:Li) (body pt:Int) (n k:Nat) (bd:Bd) (m:Mk):Prop where
  hn:body = n
  hk:pt = k
  gbd:l.bodies[n]? = some bd
  gm:bd.pts[k]? = some m
  ex:m.x = rt (mkQ l body pt).1
  ey:m.y = rt (mkQ l body pt).2
  sm:Sm 1000 (mkQ l body pt)
theorem bcd {l:Li} (hl:l.ok) (hli:liE l = 0) {body pt:Int} (h1:inB body l.bodies.length = true) (h2:inB pt (adz l body).length = true):∃ n k bd m, MkP l body pt n k bd m:=by
 obtain ⟨bd,g1,g2,g3,g4⟩:=aps h1
 rw [g2] at h2
 obtain ⟨m,g5,g6,g7,g8⟩:=asg h2
 have hv:=a1l hli g1 g5
 have ho:=(hl.bodies bd g3).pts m g7
 have e:mkQ l body pt = (m.x.q,m.y.q):=by unfold mkQ; rw [g2,g6]
 exact ⟨body.toNat,pt.toNat,bd,m,by omega,by omega,g1,g5,by rw [e]; exact Rt.eq_rt ho.x hv.1,by rw [e]; exact Rt.eq_rt ho.y hv.2,by rw [e]; exact ⟨ho.qx.mono (by omega),ho.qy.mono (by omega)⟩⟩
theorem alx {l:Li} (hl:l.ok) (hli:liE l = 0) {body pt:Int} (h1:inB body l.bodies.length = true) (h2:inB pt (adz l body).length = true):Sm 1000 (mkQ l body pt):=by
 obtain ⟨n,k,bd,m,h⟩:=bcd hl hli h1 h2
 exact h.sm
def plE (l:Li) (a:As) (body pt:Int):Et (llq a.rs) × Et (llq a.rs):=ai4 l a body pt
structure PlP (l:Li) (a:As) (body pt:Int) (n k:Nat) (bd:Bd) (m:Mk) (b:Pl):Prop where
  mp:MkP l body pt n k bd m
  gb:a.bs[n]? = some b
  eq:ai4 l a body pt = atP (llq a.rs) b m
  av:b.av = Pq.av ⟨lq b.c,lq b.s,lq b.x,lq b.y⟩
  ok:Pq.ok (llq a.rs).length 4000 ⟨lq b.c,lq b.s,lq b.x,lq b.y⟩
def Pd (a:As) (body:Int):Prop:=∃ p,a.bs[body.toNat]? = some p /\ aaz a.rs p.l = 0
theorem bhi {l:Li} (hl:l.ok) (hli:liE l = 0) {a:As} (al:AL a) (hc:aeb a.rs = 0) {body pt:Int} (h1:inB body l.bodies.length = true) (h2:inB pt (adz l body).length = true) (hb:Pd a body):∃ n k bd m b, PlP l a body pt n k bd m b:=by
 obtain ⟨n,k,bd,m,h⟩:=bcd hl hli h1 h2
 obtain ⟨b,gb,hb⟩:=hb
 obtain ⟨tw,_⟩:=ab3 al.tr hc
 have h5:a.rs.length <= 5:=by have:=tw.five; rwa [ahe] at this
 have h9:=ag4 hb (al.nr b (mem_of_getElem? gb)) h5
 have e:body.toNat = n:=by have:=h.hn; omega
 have e2:pt.toNat = k:=by have:=h.hk; omega
 rw [e] at gb
 obtain ⟨bd',g1,g2,_,_⟩:=aps h1
 rw [e] at g1
 have:bd' = bd:=Option.some.inj (g1.symm.trans h.gbd)
 subst this
 refine ⟨n,k,bd',m,b,h,gb,?_,h9.1,by rw [ahe]; exact h9.2⟩
 unfold ai4
 rw [e,e2,aaf gb,g2,aaf h.gm]
theorem afw {l:Li} (hl:l.ok) (hli:liE l = 0) {a:As} (al:AL a) (hc:aeb a.rs = 0) {body pt:Int} (h1:inB body l.bodies.length = true) (h2:inB pt (adz l body).length = true) (hb:Pd a body) :
  Zu 4000 300000 (plE l a body pt).1 40 40 /\ Zu 4000 300000 (plE l a body pt).2 40 40:=by
 obtain ⟨n,k,bd,m,b,hp⟩:=bhi hl hli al hc h1 h2 hb
 obtain ⟨tw,_⟩:=ab3 al.tr hc
 have kb:=kb4 tw.three
 have qx:Qb 4000 m.x.q:=by rw [hp.mp.ex,agd]; exact hp.mp.sm.x.mono (by omega)
 have qy:Qb 4000 m.y.q:=by rw [hp.mp.ey,agd]; exact hp.mp.sm.y.mono (by omega)
 have h:=bd7 tw hp.ok qx qy
 unfold plE
 rw [hp.eq]
 exact ⟨⟨h.1.mono (by omega)⟩,⟨h.2.mono (by omega)⟩⟩
theorem axf {rs:List (List Rt)} {r:Nat} (h:TR rs r) (hc:aeb rs = 0):ad7 (llq rs) = .agg [.lst 1 (rs.map nR)]:=(ab3 h hc).2.symm
theorem bm8 {x y:Option Blk} {k:Nat} {z:Blk} (h:lk [(1000, x), (1001, y)] k = some z):1000 <= k:=by
 rw [aac] at h
 split at h
 ·omega
 ·rw [aac] at h
  split at h
  ·omega
  ·cases h
theorem bpx {s:AS} {k k':Nat} {x y:Blk} (h:lk s.hp k = some x) (h':lk s.hp k' = some y):∀ q z, lk [(k, some x), (k', some y)] q = some z -> lk s.hp q = some z:=by
 intro q z hz
 rw [aac] at hz
 split at hz
 ·rename_i e; cases hz; rw [e]; exact h
 ·rw [aac] at hz
  split at hz
  ·rename_i e; cases hz; rw [e]; exact h'
  ·cases hz
def bpb (p q:Rat × Rat):Rat × Rat:=(p.1 - q.1,p.2 - q.2)
def bph (p q:Rat × Rat):Rat:=p.1 * q.1 + p.2 * q.2
def a7p (p q:Rat × Rat):Rat:=p.1 * q.2 - p.2 * q.1
theorem Sm.sub {e f:Nat} {p q:Rat × Rat} (hp:Sm e p) (hq:Sm f q):Sm (e + f + 1) (bpb p q):=⟨hp.x.sub hq.x,hp.y.sub hq.y⟩
theorem Sm.dot {e f:Nat} {p q:Rat × Rat} (hp:Sm e p) (hq:Sm f q):Qb (e + f + (e + f) + 1) (bph p q):=(hp.x.mul hq.x).add (hp.y.mul hq.y)
theorem Sm.cross {e f:Nat} {p q:Rat × Rat} (hp:Sm e p) (hq:Sm f q):Qb (e + f + (e + f) + 1) (a7p p q):=(hp.x.mul hq.y).sub (hp.y.mul hq.x)
theorem Sm.mono {e f:Nat} {p:Rat × Rat} (hp:Sm e p) (h:e <= f):Sm f p:=⟨hp.x.mono h,hp.y.mono h⟩
theorem bo1 {q:Rat} {e w:Nat} (h:Qb e q) (he:e <= w * 4000):Qz 4000 q w:=⟨(Cb.one h).mono he⟩
end Go.Lw
namespace Go.Lw
open Go.Proofs
section
variable {rs:List (List Rt)} {r u k:Nat} {a b c d e:List Rat} {x y z s t:Et (llq rs)} {w v w' v' w2 v2 w3 v3 w4 v4:Nat}
end
end Go.Lw
namespace Go.Lw
def afj (l:Li) (j:Jt) (b:Int):Rat × Rat:=if j.a = b then mkQ l b j.point else mkQ l b j.on
def ad5 (l:Li) (a:As) (j:Jt) (b:Int):Et (llq a.rs) × Et (llq a.rs):=if j.a = b then plE l a j.b j.on else plE l a j.a j.point
structure PinP (l:Li) (a:As) (j:Jt) (b:Int):Prop where
  tie:(j.a = b /\ Pd a j.b) \/ (j.a ≠ b /\ j.b = b /\ Pd a j.a)
theorem PinP.or {l:Li} {a:As} {j:Jt} {b:Int} (h:PinP l a j b):j.a = b \/ j.b = b:=by
 rcases h.tie with h9 | h9
 ·exact .inl h9.1
 ·exact .inr h9.2.1
theorem af8 {l:Li} (hl:l.ok) (hli:liE l = 0) {a:As} (al:AL a) (hc:aeb a.rs = 0) {i:Nat} {j:Jt} (hj:l.joints[i]? = some j) {b:Int} (h:PinP l a j b) :
  Zu 4000 300000 (ad5 l a j b).1 40 40 /\ Zu 4000 300000 (ad5 l a j b).2 40 40:=by
 obtain ⟨i1,i2,i3,i4,_⟩:=aet hli hj
 unfold ad5
 rcases h.tie with ⟨e,hb⟩ | ⟨e,e2,hb⟩
 ·rw [if_pos e]; exact afw hl hli al hc i2 i4 hb
 ·rw [if_neg e]; exact afw hl hli al hc i1 i3 hb
theorem ai8 {l:Li} (hl:l.ok) (hli:liE l = 0) {i:Nat} {j:Jt} (hj:l.joints[i]? = some j) {b:Int} (h:j.a = b \/ j.b = b):Sm 1000 (afj l j b):=by
 obtain ⟨i1,i2,i3,i4,_⟩:=aet hli hj
 unfold afj
 by_cases e:j.a = b
 ·rw [if_pos e]; subst e; exact alx hl hli i1 i3
 ·rw [if_neg e]
  rcases h with h | h
  ·exact absurd h e
  ·subst h; exact alx hl hli i2 i4
theorem bqd {bs:List Int} {b:Int} (h:b ∈ bs):bs.contains b = true:=List.contains_iff_mem.2 h
theorem bnj {bs:List Int} {b:Int} (h:b ∉ bs):bs.contains b = false:=by
 cases hc:bs.contains b with
 | false=>rfl
 | true=>exact absurd (List.contains_iff_mem.1 hc) h
theorem DyOk.ancs {l:Li} {k:Int} {a:As} {own:Bool} {n:Nat} {g:Gr} (h:DyOk l k a own n g) {z b:Int} {j:Jt} (hz:z ∈ g.joints) (hj:l.joints[z.toNat]? = some j) (hb:anc g j = b) (h0:0 <= b):Pd a b:=by
 refine h.body ?_ h0
 unfold ndL at3
 refine List.mem_append_left _ (List.mem_map.2 ⟨z,hz,?_⟩)
 rw [aaf hj]; exact hb
theorem DyOk.pin {l:Li} {k:Int} {a:As} {own:Bool} {n:Nat} {g:Gr} (h:DyOk l k a own n g) {kd z b:Int} {j:Jt} {bs:List Int} (hbs:g.bodies = bs) (t:TieO l kd bs z b j) (hz:z ∈ g.joints) (hb:b ∈ bs):PinP l a j b:=by
 subst hbs
 obtain ⟨i1,i2,_⟩:=aet h.li t.hj
 have i1:=ahg i1
 have i2:=ahg i2
 rcases t.tie with ⟨e,hn⟩ | ⟨e,hn⟩
 ·refine ⟨.inl ⟨e, h.ancs hz t.hj ?_ i2.1⟩⟩
  unfold anc
  rw [if_pos (bqd (e ▸ hb)),if_neg (by rw [bnj hn]; simp)]
 ·refine ⟨.inr ⟨fun e2=>hn (e2 ▸ hb), e, h.ancs hz t.hj ?_ i1.1⟩⟩
  unfold anc
  rw [if_neg (by rw [bnj hn]; simp)]
theorem DyOk.own {l:Li} {k:Int} {a:As} {n:Nat} {g:Gr} (h:DyOk l k a true n g) {b:Int} (hb:b ∈ g.bodies):Pd a b:=by
 refine h.body ?_ (h.ok.b b hb).1
 unfold ndL
 rw [if_pos rfl]
 exact List.mem_append_right _ hb
structure RrrP (l:Li) (a:As) (g:Gr) (i k z0 z1 z2:Int) (j0 j1 j2:Jt):Prop where
  eq:g = ⟨1,[i,k],[z0,z1,z2],0⟩
  h0:l.joints[z0.toNat]? = some j0
  h1:l.joints[z1.toNat]? = some j1
  h2:l.joints[z2.toNat]? = some j2
  p0:PinP l a j0 i
  p1:PinP l a j1 k
  t1:j2.a = i \/ j2.b = i
  t2:j2.a = k \/ j2.b = k
structure SlP (l:Li) (a:As) (g:Gr) (kd i z0 z1:Int) (j0 j:Jt):Prop where
  eq:g = ⟨kd,[i],[z0,z1],0⟩
  h0:l.joints[z0.toNat]? = some j0
  h1:l.joints[z1.toNat]? = some j
  p0:PinP l a j0 i
  p1:PinP l a j i
  hk:j.kind ≠ 0
theorem DyOk.rrr {l:Li} {k:Int} {a:As} {own:Bool} {n:Nat} {g:Gr} (h:DyOk l k a own n g) (hk:g.kind = 1):∃ i k z0 z1 z2 j0 j1 j2, RrrP l a g i k z0 z1 z2 j0 j1 j2:=by
 have hd:=h.dy
 cases hd with
 | drv _ _ _ _=>exact absurd hk (by simp)
 | pr _ _ _=>exact absurd hk (by simp)
 | rp _ _ _=>exact absurd hk (by simp)
 | @rrr i k z0 z1 z2 j0 j1 j2 ne t0 t1 h0 h2 kd tie =>
  refine ⟨i,k,z0,z1,z2,j0,j1,j2,rfl,t0.hj,t1.hj,h2,h.pin rfl t0 (by simp) (by simp),h.pin rfl t1 (by simp) (by simp),?_,?_⟩
  ·rcases tie with h9 | h9
   ·exact .inl h9.1
   ·exact .inr h9.1
  ·rcases tie with h9 | h9
   ·exact .inr h9.2
   ·exact .inl h9.2
theorem DyOk.pr {l:Li} {k:Int} {a:As} {own:Bool} {n:Nat} {g:Gr} (h:DyOk l k a own n g) (hk:g.kind = 2):∃ i z0 z1 j0 j, SlP l a g 2 i z0 z1 j0 j /\ j.a = i /\ Pd a j.b:=by
 have hd:=h.dy
 cases hd with
 | drv _ _ _ _=>exact absurd hk (by simp)
 | rrr _ _ _ _ _ _ _=>exact absurd hk (by simp)
 | rp _ _ _=>exact absurd hk (by simp)
 | @pr i z0 z1 j0 j1 t0 t1 ha =>
  have p1:PinP l a j1 i:=h.pin rfl t1 (by simp) (by simp)
  refine ⟨i,z0,z1,j0,j1,⟨rfl,t0.hj,t1.hj,h.pin rfl t0 (by simp) (by simp),p1,by rw [t1.kd]; decide⟩,ha,?_⟩
  rcases p1.tie with h9 | h9
  ·exact h9.2
  ·exact absurd ha h9.1
theorem DyOk.rp {l:Li} {k:Int} {a:As} {own:Bool} {n:Nat} {g:Gr} (h:DyOk l k a own n g) (h0:g.kind ≠ 0) (h1:g.kind ≠ 1) (h2:g.kind ≠ 2):∃ i z0 z1 j0 j, SlP l a g 3 i z0 z1 j0 j /\ j.a ≠ i /\ j.b = i /\ Pd a j.a:=by
 have hd:=h.dy
 cases hd with
 | drv _ _ _ _=>exact absurd rfl h0
 | rrr _ _ _ _ _ _ _=>exact absurd rfl h1
 | pr _ _ _=>exact absurd rfl h2
 | @rp i z0 z1 j0 j1 t0 t1 ha =>
  have p1:PinP l a j1 i:=h.pin rfl t1 (by simp) (by simp)
  refine ⟨i,z0,z1,j0,j1,⟨rfl,t0.hj,t1.hj,h.pin rfl t0 (by simp) (by simp),p1,by rw [t1.kd]; decide⟩,ha,?_⟩
  rcases p1.tie with h9 | h9
  ·exact absurd h9.1 ha
  ·exact ⟨h9.2.1,h9.2.2⟩
def aoE (a:As) (b:Int) (q:Rat × Rat):Et (llq a.rs) × Et (llq a.rs) :=
  (atX (llq a.rs) (amy (llq a.rs) (a.bs.getD b.toNat default).c) (amy (llq a.rs) (a.bs.getD b.toNat default).s) (amy (llq a.rs) (a.bs.getD b.toNat default).x) q.1 q.2,
   atY (llq a.rs) (amy (llq a.rs) (a.bs.getD b.toNat default).c) (amy (llq a.rs) (a.bs.getD b.toNat default).s) (amy (llq a.rs) (a.bs.getD b.toNat default).y) q.1 q.2)
theorem bql {ts:List (List Rat)} {r:Nat} (tw:Tw ts r) {b:Pl} {q:Rat × Rat} (hb:Pq.ok ts.length 4000 ⟨lq b.c, lq b.s, lq b.x, lq b.y⟩) (hq:Sm 4000 q) :
  Nm ts.length (4 * (4000 + 4000 + kB r ts.length) + 10000) (sh ts.length (atX ts (amy ts b.c) (amy ts b.s) (amy ts b.x) q.1 q.2)) /\ Nm ts.length (4 * (4000 + 4000 + kB r ts.length) + 10000) (sh ts.length (atY ts (amy ts b.c) (amy ts b.s) (amy ts b.y) q.1 q.2)):=by
 have nx:=Nm.ofQ tw.five (Cb.one hq.x)
 have ny:=Nm.ofQ tw.five (Cb.one hq.y)
 have h1:=(ajz tw hb.c hb.s nx ny).add hb.x
 rw [ast] at h1
 have h2:=(aj3 tw hb.c hb.s nx ny).add hb.y
 rw [as4] at h2
 exact ⟨h1.mono (by omega),h2.mono (by omega)⟩
theorem ars {a:As} (al:AL a) (hc:aeb a.rs = 0) {b:Int} (hb:Pd a b) {q:Rat × Rat} (hq:Sm 1000 q):Zu 4000 300000 (aoE a b q).1 40 40 /\ Zu 4000 300000 (aoE a b q).2 40 40:=by
 obtain ⟨p,hp,hn⟩:=hb
 obtain ⟨tw,_⟩:=ab3 al.tr hc
 have h5:a.rs.length <= 5:=by have:=tw.five; rwa [ahe] at this
 have h9:=(ag4 hn (al.nr p (mem_of_getElem? hp)) h5).2
 rw [<- ahe a.rs] at h9
 have kb:=kb4 tw.three
 have h:=bql tw h9 (hq.mono (f:=4000) (by omega))
 unfold aoE
 rw [aaf hp]
 exact ⟨⟨h.1.mono (by omega)⟩,⟨h.2.mono (by omega)⟩⟩
def jAt (l:Li) (g:Gr) (n:Nat):Jt:=l.joints.getD (g.joints.getD n 0).toNat default
def bAt (g:Gr) (n:Nat):Int:=g.bodies.getD n 0
section
variable (l:Li) (a:As)
def rpV (i:Int) (j:Jt):Rat × Rat:=bpb (mkQ l i j.to) (mkQ l i j.on)
def rpH (i:Int) (j0 j:Jt):Rat:=a7p (rpV l i j) (bpb (mkQ l i j.on) (afj l j0 i))
def rpN (i:Int) (j:Jt):Rat:=bph (rpV l i j) (rpV l i j)
def sbE {ts:List (List Rat)} (p q:Et ts × Et ts):Et ts × Et ts:=(p.1 - q.1,p.2 - q.2)
def a5i {ts:List (List Rat)} (p q:Et ts × Et ts):Et ts:=dotE p.1 p.2 q.1 q.2
def bks {ts:List (List Rat)} (p q:Et ts × Et ts):Et ts:=crsE p.1 p.2 q.1 q.2
def rpW (i:Int) (j0 j:Jt):Et (llq a.rs) × Et (llq a.rs):=sbE (plE l a j.a j.point) (ad5 l a j0 i)
def rpD (i:Int) (j0 j:Jt):Et (llq a.rs):=a5i (rpW l a i j0 j) (rpW l a i j0 j)
def asj (g:Gr):Et (llq a.rs) :=
  if g.kind = 0 then qE 1
  else if g.kind = 1 then bks (sbE (ad5 l a (jAt l g 1) (bAt g 1)) (ad5 l a (jAt l g 0) (bAt g 0))) (sbE (aoE a (bAt g 0) (afj l (jAt l g 2) (bAt g 0))) (ad5 l a (jAt l g 0) (bAt g 0)))
  else if g.kind = 2 then a5i (sbE (plE l a (jAt l g 1).b (jAt l g 1).to) (plE l a (jAt l g 1).b (jAt l g 1).on)) (sbE (aoE a (bAt g 0) (mkQ l (bAt g 0) (jAt l g 1).point)) (ad5 l a (jAt l g 0) (bAt g 0)))
  else a5i (sbE (plE l a (jAt l g 1).b (jAt l g 1).to) (plE l a (jAt l g 1).b (jAt l g 1).on)) (rpW l a (bAt g 0) (jAt l g 0) (jAt l g 1))
end
section
variable {l:Li} {a:As} {g:Gr}
theorem RrrP.at {i k z0 z1 z2:Int} {j0 j1 j2:Jt} (h:RrrP l a g i k z0 z1 z2 j0 j1 j2):jAt l g 0 = j0 /\ jAt l g 1 = j1 /\ jAt l g 2 = j2 /\ bAt g 0 = i /\ bAt g 1 = k /\ g.kind = 1:=by
 rw [h.eq]
 exact ⟨aaf h.h0,aaf h.h1,aaf h.h2,rfl,rfl,rfl⟩
theorem SlP.at {kd i z0 z1:Int} {j0 j:Jt} (h:SlP l a g kd i z0 z1 j0 j):jAt l g 0 = j0 /\ jAt l g 1 = j /\ bAt g 0 = i /\ g.kind = kd:=by
 rw [h.eq]
 exact ⟨aaf h.h0,aaf h.h1,rfl,rfl⟩
end
end Go.Lw
namespace Go.Lw
section
variable {ts:List (List Rat)}
def qv (p:Rat × Rat):Et ts × Et ts:=(qE p.1,qE p.2)
def d2E (p q:Et ts × Et ts):Et ts:=a5i (sbE p q) (sbE p q)
end
section
variable {l:Li} {a:As} {g:Gr}
theorem be5 {i k z0 z1 z2:Int} {j0 j1 j2:Jt} (h:RrrP l a g i k z0 z1 z2 j0 j1 j2) :
  asj l a g = bks (sbE (ad5 l a j1 k) (ad5 l a j0 i)) (sbE (aoE a i (afj l j2 i)) (ad5 l a j0 i)):=by
 obtain ⟨e0,e1,e2,b0,b1,hk⟩:=h.at
 unfold asj
 rw [if_neg (by omega),if_pos hk,e0,e1,e2,b0,b1]
theorem bfe {i z0 z1:Int} {j0 j:Jt} (h:SlP l a g 2 i z0 z1 j0 j) :
  asj l a g = a5i (sbE (plE l a j.b j.to) (plE l a j.b j.on)) (sbE (aoE a i (mkQ l i j.point)) (ad5 l a j0 i)):=by
 obtain ⟨e0,e1,b0,hk⟩:=h.at
 unfold asj
 rw [if_neg (by omega),if_neg (by omega),if_pos hk,e0,e1,b0]
theorem bgt {i z0 z1:Int} {j0 j:Jt} (h:SlP l a g 3 i z0 z1 j0 j) (hj:j.b = i) :
  asj l a g = a5i (sbE (aoE a i (mkQ l i j.to)) (aoE a i (mkQ l i j.on))) (sbE (plE l a j.a j.point) (ad5 l a j0 i)):=by
 obtain ⟨e0,e1,b0,hk⟩:=h.at
 unfold asj
 rw [if_neg (by omega),if_neg (by omega),if_neg (by omega),e0,e1,b0,hj]
 rfl
end
end Go.Lw
namespace Go.Lw
structure Ld where
  body:Int
  x:Rt
  y:Rt
  fx:Rt
  fy:Rt
  m:Rt
instance:Inhabited Ld:=⟨⟨0,⟨false,[],[]⟩,⟨false,[],[]⟩,⟨false,[],[]⟩,⟨false,[],[]⟩,⟨false,[],[]⟩⟩⟩
def Ld.l (f:Ld):List Rt:=[f.x,f.y,f.fx,f.fy,f.m]
def Ld.cells (f:Ld):List AV:=[i64 f.body,bl f.x.neg,ws f.x.num,ws f.x.den,bl f.y.neg,ws f.y.num,ws f.y.den,bl f.fx.neg,ws f.fx.num,ws f.fx.den,bl f.fy.neg,ws f.fy.num,ws f.fy.den,bl f.m.neg,ws f.m.num,ws f.m.den]
def Ld.av (f:Ld):AV:=.agg f.cells
section
variable (a:As)
end
section
variable {a:As} {r:List Vr}
end
end Go.Lw
namespace Go.Lw
structure LdOk (f:Ld):Prop where
  ok:∀ x ∈ f.l,x.ok
  qb:∀ x ∈ f.l,Qb 4000 x.q
def br3 (f:Ld):Prop:=∀ x ∈ f.l,x.ok /\ Qb 1000 x.q
theorem br3.o {f:Ld} (h:br3 f):LdOk f:=⟨fun x hx=>(h x hx).1,fun x hx=>(h x hx).2.mono (by omega)⟩
end Go.Lw
namespace Go.Lw
structure Bulk {H:Type} (bk:DataW H -> Nat) (bka:List (DataW H) -> Nat):Prop where
  one:∀ d,1 <= bk d
  nil:bka [] = 0
  cons:∀ d l,bka (d :: l) = bk d + bka l
  slice:∀ e s,bka e + 1 <= bk (.slice e s)
  agg:∀ l,bka l <= bk (.agg l)
section
variable {P:Program} {W:World} {H:Type} {enc:TypeId × Value -> H} {bk:DataW H -> Nat} {bka:List (DataW H) -> Nat}
theorem Bulk.pick (B:Bulk bk bka) {α:Type} {m:α -> Nat}:∀ {l:List α} {xs:List (DataW H)}, l.length <= xs.length -> (∀ (i:Nat) (a:α), l[i]? = some a -> ∃ x, xs[i]? = some x /\ m a <= bk x) -> (l.map m).sum <= bka xs
 | [],xs,_,_=>by simp
 | a :: l,[],hl,_=>by simp at hl
 | a :: l, x :: xs, hl, h=>by
  obtain ⟨y,hy,h1⟩:=h 0 a rfl
  cases hy
  have h2:=B.pick (l:=l) (xs:=xs) (by simpa using hl) (fun i b hb=>h (i + 1) b hb)
  rw [B.cons,map_cons,List.sum_cons]
  omega
def avc (P:Program) (W:World) (enc:TypeId × Value -> H) (bk:DataW H -> Nat) (t:TypeId) {α:Type} (f:α -> AV) (p:α -> Prop) (m:α -> Nat):Prop :=
  ∀ (sp:Nat -> Bool) (fuel:Nat) (cs:List Value) (x:DataW H × List MemPlace),DataW.trod enc P W 0 sp true fuel t cs = some x -> (∀ n ∈ x.1.weights P t,n <= reachBytes) -> ∃ a,p a /\ CRp W cs (f a).cells /\ m a <= bk x.1
theorem ac4.m {t:TypeId} {α:Type} {f:α -> AV} {p:α -> Prop} (h:ac4 P W enc t f p):avc P W enc bk t f p (fun _=>0):=by
 intro sp fuel cs x hx hw
 obtain ⟨a,h1,h2⟩:=h sp fuel cs x hx hw
 exact ⟨a,h1,h2,zero_le _⟩
theorem ac4.m1 (B:Bulk bk bka) {t:TypeId} {α:Type} {f:α -> AV} {p:α -> Prop} (h:ac4 P W enc t f p):avc P W enc bk t f p (fun _=>1):=by
 intro sp fuel cs x hx hw
 obtain ⟨a,h1,h2⟩:=h sp fuel cs x hx hw
 exact ⟨a,h1,h2,B.one _⟩
theorem avc.map {α β:Type} {t:TypeId} {f:α -> AV} {p:α -> Prop} {m:α -> Nat} (h:avc P W enc bk t f p m) (g:α -> β) (f':β -> AV) (p':β -> Prop) (m':β -> Nat) (hg:∀ a, p a -> p' (g a) /\ f' (g a) = f a /\ m' (g a) <= m a):avc P W enc bk t f' p' m':=by
 intro sp fuel cs x hx hwt
 obtain ⟨a,ha,hc,hm⟩:=h sp fuel cs x hx hwt
 obtain ⟨h1,h2,h3⟩:=hg a ha
 exact ⟨g a,h1,by rw [h2]; exact hc,le_trans h3 hm⟩
end
end Go.Lw
