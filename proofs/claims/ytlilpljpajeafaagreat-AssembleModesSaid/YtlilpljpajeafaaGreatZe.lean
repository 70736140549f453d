/- AssembleModes: for any linkage, any turns and any modes the law returns true and leaves its arguments as they were. No other condition. Part 5 of 7: what the later parts need -/
import Derived.Test.YtlilpljpajeafaaGreatZd
set_option linter.unusedVariables false
open List (mem_of_getElem? mem_append map_cons mem_cons length_cons length_append length_nil getD_eq_getElem?_getD getElem?_eq_none all_eq_true getElem?_take getElem?_drop getElem?_map getElem?_eq_getElem getElem?_replicate append_nil map_append length_take take_of_length_le drop_zero take_length not_mem_nil length_map mem_of_mem_take map_take all_append length_replicate map_replicate map_set drop_length length_set)
open Nat (eq_of_beq_eq_true le_refl lt_of_lt_of_le lt_or_ge le_trans zero_le)
open Option (map_eq_some_iff)
open Bool (and_eq_true)
open Array (getD_eq_getD_getElem?)
open Int (toNat_natCast)
open Go.Proofs.Tryz
namespace Go.Lw
open Go.Proofs
theorem nD(ts:LL)(m r:Nat)(ht:gq ts m r)(hm:m<=5)(hml:m<=ts.length)(k:Nat):∀(j:Nat)(a b:List Rat)(e f:Nat),j<=m->j<=k->Nl j a->Nl j b->Cb e a->Cb f b->e+f+eB r j<4398046511104 ->
  FP 273 [aN ts,nA a,nA b] (nA (pT ts k a b)):=by
 induction k using Nat.strongRecOn
 rename_i k ih;intro j a b e f hj hjk ha hb ca cb hs;have hla:=ha.len5 oz;have hlb:=hb.len5 oz;refine ah func273 ?_;refine gl ?_;refine gl ?_;refine KL [3] [3] (fun(x y:List Rat)(e1 f1:Nat)=>[(1,some (nA x)),(2,some (nA y))]) (fun _ _ _ _=>[]) (fun x y e1 f1=>y.length<=x.length/\Nl j x/\Nl j y/\Cb e1 x/\Cb f1 y/\e1+f1=e+f/\pT ts k a b=pT ts k x y) ?_ ?_
 ·intro K1 J1;refine gC (fun t18=>?_) (fun t18=>?_)
  ·have h1 : a.length < b.length := by have := t18; simp only [aa, decide_eq_true_eq] at this; omega
   exact Bs J1 b a f e ⟨by omega,hb,ha,cb,ca,by omega,xq ts k a b h1⟩
  have h1:b.length<=a.length:=by have:=t18;simp only[aa,decide_eq_false_iff_not]at this;omega
  exact Bs J1 a b e f ⟨h1,ha,hb,ca,cb,rfl,rfl⟩
 rintro x y e1 f1 ⟨hyx,hx,hy,cx,cy,hef,hp⟩;have hlx:=hx.len5 oz;have hly:=hy.len5 oz;have qx:∀q∈x,Qs q:=fun q hq=>cx.qs oz hq
 have qy:∀q∈y,Qs q:=fun q hq=>cy.qs oz hq
 rw[hp];refine gc (Gu x qx oz) ?_;refine bw (fun _=>(Gu y qy oz)) ?_;refine gC (fun t21=>?_) (fun t21=>?_)
 ·have h1:a9 x=true\/a9 y=true:=by
   have:=t21;cases hz:a9 x
   ·rw[hz]at this;exact .inr this
   ·exact .inl rfl
  refine gR ?_;exact jb (by rw[NP hyx h1];exact Sub.nil _ _ _)
 have h1:¬(a9 x=true\/a9 y=true):=by
  have:=t21;cases hz:a9 x
  ·rw[hz]at this;intro h;rcases h with h |h;cases h;(rw[show a9 y=false from this]at h;cases h)
  ·rw[hz]at this;cases this
 refine gl ?_;refine gC (fun t28=>?_) (fun t28=>?_)
 ·have h2 : x.length = 1 := by have := t28; simp only [aa, beq_iff_eq] at this; omega
  obtain⟨p,rfl⟩:=List.length_eq_one_iff.1 h2;have h3:y≠[]:=fun h=>h1 (.inr (by rw[h];rfl))
  obtain⟨q,rfl⟩:∃q,y=[q]:=List.length_eq_one_iff.1 (by have:=List.length_pos_iff.2 h3;simp at hyx;omega);refine gi rfl ?_;refine gi rfl ?_;refine gc (B5 (rt p) (rt q) (qx p (by simp)).ok (qy q (by simp)).ok) ?_;refine gD ?_;refine ae ?_;rw[Pv h1,bu,bu];rfl
 have h2:x.length≠1:=by have:=t28;simp only[aa,beq_eq_false_iff_ne,ne_eq]at this;omega
 have h3:x≠[]:=fun h=>h1 (.inl (by rw[h];rfl))
 obtain⟨i,hij,hxl⟩:∃i,i+1<=j/\x.length=2^(i+1):=by
  rcases me hx with h |h |h
  ·exact absurd (List.length_eq_zero_iff.1 h) h3
  ·exact absurd h h2
  ·exact h
 obtain⟨k',rfl⟩:∃k',k=k'+1:=⟨k-1,by omega⟩
 have hp2:=Nat.two_pow_pos i;have hpi:2^i<=32:=bJ (b:=5) oz;have hps:2^(i+1)=2*2^i:=by rw[Nat.pow_succ];omega
 have hes:eB r (i+1)<=eB r j:=fX r hij;have hee:eB r (i+1)=2*eB r i+r+2:=rfl;have n1:Nl i (x.take (2^i)):=.inr ⟨i,le_refl _,eQ hxl⟩;have n2:Nl i (x.drop (2^i)):=.inr ⟨i,le_refl _,eX hxl⟩;refine gl ?_;refine gs (dZ (.tmp rfl) (.const _) oz (show _=((2^i:Nat):Int) by rw[eP oz,hxl,eE]) rfl) ?_;refine gs (cc (.tmp rfl) (.none _) (.some _ (.tmp rfl) oz) T67 rfl T45 rfl oz (by simp only[length_map];omega) rfl) ?_;refine gs (cc (.tmp rfl) (.some _ (.tmp rfl) oz) (.none _) T67 rfl T45 rfl (by simp only[length_map];omega) oz rfl) ?_;refine gD ?_ (9,0);refine gW (Wk.of (sl:=[(1,some (nA x)),(2,some (nA y)),(3,some (.ptr 3 0)),(7,some (i64 ((2^i:Nat):Int))),(8,some (nA (x.take (2^i)))),(9,some (nA (x.drop (2^i))))]) (hp:=[(3,some (.box [.lst 1 (ts.map nA)]))]) (.k (.k (.k (.k (.cons rfl (Sub.of (jL x (2^i))) (.cons rfl (Sub.of (kF x (2^i))) .nil)))))) (.k .nil)) ?_;refine gl ?_;refine gC (fun t52=>?_) (fun t52=>?_)
 ·have h4 : y.length <= 2 ^ i := by have := t52; simp only [aa, decide_eq_true_eq] at this; omega
  have n3:Nl i y:=Qf hy h4;have s1:=eY ts m ht.1 i k' _ _ oz oz n1 n3;have s2:=eY ts m ht.1 i k' _ _ oz oz n2 n3;refine gc (ih k' oz i _ _ e1 f1 oz oz n1 n3 cx.take cy oz) ?_;refine gc (ih k' oz i _ _ e1 f1 oz oz n2 n3 cx.drop cy oz) ?_;refine gc (vk _ _ (2^i) s1.1.le s2.1.le oz) ?_;refine gD ?_;refine ae ?_;rw[JJ hxl h4 h1]
 have h4:¬y.length<=2^i:=by have:=t52;simp only[aa,decide_eq_false_iff_not]at this;omega
 have hyl:=J9 hy h4 oz;have n3:Nl i (y.take (2^i)):=.inr ⟨i,le_refl _,eQ hyl⟩;have n4:Nl i (y.drop (2^i)):=.inr ⟨i,le_refl _,eX hyl⟩;have nd:=ht.1 i oz;have cd:=ht.2.cb i;have s1:=eY ts m ht.1 i k' _ _ oz oz n1 n3;have s2:=eY ts m ht.1 i k' _ _ oz oz n2 n4;have s3:=eY ts m ht.1 i k' _ _ oz oz s2.1 nd;have s4:=eY ts m ht.1 i k' _ _ oz oz n1 n4;have s5:=eY ts m ht.1 i k' _ _ oz oz n2 n3;have c1:=Cb.mul ht (k:=k') (show i<=m by omega) oz n1 n3 cx.take cy.take;have c2:=Cb.mul ht (k:=k') (show i<=m by omega) oz n2 n4 cx.drop cy.drop;have c3:=Cb.mul ht (k:=k') (show i<=m by omega) oz s2.1 nd c2 cd;have c4:=Cb.mul ht (k:=k') (show i<=m by omega) oz n1 n4 cx.take cy.drop;have c5:=Cb.mul ht (k:=k') (show i<=m by omega) oz n2 n3 cx.drop cy.take;have hpT:=Kq (ts:=ts) (k:=k') hxl h4 hyx h1;refine gs (cc (.tmp rfl) (.none _) (.some _ (.tmp rfl) oz) T67 rfl T45 rfl oz (by simp only[length_map];omega) rfl) ?_;refine gs (cc (.tmp rfl) (.some _ (.tmp rfl) oz) (.none _) T67 rfl T45 rfl (by simp only[length_map];omega) oz rfl) ?_;refine gD ?_ (12,0);refine gW (Wk.of (sl:=[(1,some (nA x)),(3,some (.ptr 3 0)),(7,some (i64 ((2^i:Nat):Int))),(8,some (nA (x.take (2^i)))),(9,some (nA (x.drop (2^i)))),(10,some (nA (y.take (2^i)))),(11,some (nA (y.drop (2^i))))]) (hp:=[(3,some (.box [.lst 1 (ts.map nA)]))]) (.k (.k (.k (.k (.k (.cons rfl (Sub.of (jL y (2^i))) (.cons rfl (Sub.of (kF y (2^i))) .nil))))))) (.k .nil)) ?_;refine gc (qU qA x oz) ?_;refine ga (show _=(i:Int) by rw[hxl,o9,cU oz];omega) ?_;refine gi (sF (j:=i) oz) ?_;refine gD ?_;refine gc (ih k' oz i _ _ e1 f1 oz oz n1 n3 cx.take cy.take oz) ?_;refine gc (ih k' oz i _ _ e1 f1 oz oz n2 n4 cx.drop cy.drop oz) ?_;refine gc (ih k' oz i _ _ _ _ oz oz s2.1 nd c2 cd oz) ?_;refine gc (nO _ _ (fun q hq=>c1.qs oz hq) (fun q hq=>c3.qs oz hq) (by have:=s1.1.le;omega) (by have:=s3.1.le;omega)) ?_;refine gD ?_;refine gc (ih k' oz i _ _ e1 f1 oz oz n1 n4 cx.take cy.drop oz) ?_;refine gc (ih k' oz i _ _ e1 f1 oz oz n2 n3 cx.drop cy.take oz) ?_;refine gc (nO _ _ (fun q hq=>c4.qs oz hq) (fun q hq=>c5.qs oz hq) (by have:=s4.1.le;omega) (by have:=s5.1.le;omega)) ?_;refine gc (vk _ _ (2^i) (by have:=s1.1.le;have:=s3.1.le;rw[dI];omega) (by have:=s4.1.le;have:=s5.1.le;rw[dI];omega) oz) ?_;refine gD ?_;refine ae ?_;rw[hpT]
theorem yp(ts:LL)(m r:Nat)(ht:gq ts m r)(hm:m<=5)(hml:m<=ts.length)(i:Nat)(a:List Rat)(e:Nat)(hi:i+1<=m)(hal:a.length=2^(i+1))(ca:Cb e a)(hs:4*e+3*eB r i+r+1<4398046511104) :
  FP 327 [aN ts,nA a] (nA (gh ts i a)):=by
 have hp2:=Nat.two_pow_pos i;have hpi:2^i<=32:=bJ (b:=5) oz;have hps:2^(i+1)=2*2^i:=by rw[Nat.pow_succ];omega
 have n1:Nl i (a.take (2^i)):=.inr ⟨i,le_refl _,eQ hal⟩;have n2:Nl i (a.drop (2^i)):=.inr ⟨i,le_refl _,eX hal⟩;have nd:=ht.1 i oz;have cd:=ht.2.cb i;have s1:=eY ts m ht.1 i i _ _ oz oz n1 n1;have s2:=eY ts m ht.1 i i _ _ oz oz n2 n2;have s3:=eY ts m ht.1 i i _ _ oz oz s2.1 nd;have c1:=Cb.mul ht (k:=i) (show i<=m by omega) oz n1 n1 ca.take ca.take;have c2:=Cb.mul ht (k:=i) (show i<=m by omega) oz n2 n2 ca.drop ca.drop;have c3:=Cb.mul ht (k:=i) (show i<=m by omega) oz s2.1 nd c2 cd;refine ah func327 ?_;refine gl ?_;refine gs (dZ (.tmp rfl) (.const _) oz (show _=((2^i:Nat):Int) by rw[eP oz,hal,eE]) rfl) ?_;refine gs (cc (.tmp rfl) (.none _) (.some _ (.tmp rfl) oz) T67 rfl T45 rfl oz (by simp only[length_map];omega) rfl) ?_;refine gs (cc (.tmp rfl) (.some _ (.tmp rfl) oz) (.none _) T67 rfl T45 rfl (by simp only[length_map];omega) oz rfl) ?_;refine gD ?_ (3,0);refine gW (Wk.of (sl:=[(1,some (nA a)),(2,some (.ptr 2 0)),(6,some (nA (a.take (2^i)))),(7,some (nA (a.drop (2^i))))]) (hp:=[(2,some (.box [.lst 1 (ts.map nA)]))]) (.k (.k (.cons rfl (Sub.of (jL a (2^i))) (.cons rfl (Sub.of (kF a (2^i))) .nil)))) (.k .nil)) ?_;refine gc (nD ts m r ht hm hml i i _ _ e e oz oz n1 n1 ca.take ca.take oz) ?_;refine gc (nD ts m r ht hm hml i i _ _ e e oz oz n2 n2 ca.drop ca.drop oz) ?_;refine gc (qU qA a oz) ?_;refine ga (show _=(i:Int) by rw[hal,o9,cU oz];omega) ?_;refine gi (sF (j:=i) oz) ?_;refine gc (nD ts m r ht hm hml i i _ _ _ _ oz oz s2.1 nd c2 cd oz) ?_;refine gc (tY _ (fun q hq=>c3.qs oz hq) (by have:=s3.1.le;omega)) ?_;refine gc (nO _ _ (fun q hq=>c1.qs oz hq) (fun q hq=>c3.minus.qs oz hq) (by have:=s1.1.le;omega) (by have:=s3.1.le;rw[gz];omega)) ?_;refine gD ?_;refine ae ?_;rfl
theorem om(ts:LL)(m r:Nat)(ht:gq ts m r)(hm:m<=5)(hml:m<=ts.length)(j:Nat):∀(a:List Rat)(e:Nat),j<=m->Nl j a->Cb e a->sB r j e<4398046511104 ->
  FP 228 [aN ts,nA a] (i64 (T.sgn (aj ts) j (ad j a))):=by
 induction j using Nat.strongRecOn
 rename_i j ih;intro a e hj ha ca hs;have hse:=mN r j e;have qa:∀q∈a,Qs q:=fun q hq=>ca.qs oz hq
 obtain⟨s,hsa⟩:∃s,s=sh j (ad j a):=⟨_,rfl⟩
 have hsd:ad j s=ad j a:=by rw[hsa,br]
 have hsn:Nl j s:=by rw[hsa];exact eD j _
 have cs:Cb e s:=by rw[hsa];exact ca.sh ha
 have hls:=hsn.len5 oz;rw[<- hsd];refine ah func228 ?_;refine gc (hsa▸jX a oz ha qa) ?_;refine gl ?_;refine gC (fun t12=>?_) (fun t12=>?_)
 ·have h1 : s=[] := List.length_eq_zero_iff.1 (by have := t12;simp only[aa,beq_iff_eq]at this;omega);refine ae ?_;rw[h1,iz,T.sgn_zero];rfl
 have h1:s.length≠0:=by have:=t12;simp only[aa,beq_eq_false_iff_ne,ne_eq]at this;omega
 refine gl ?_;refine gC (fun t15=>?_) (fun t15=>?_)
 ·have h2 : s.length = 1 := by have := t15; simp only [aa, beq_iff_eq] at this; omega
  obtain⟨q,rfl⟩:=List.length_eq_one_iff.1 h2;refine gi rfl ?_;refine gc (tK (rt q) (cs.qs oz (by simp:q∈[q])).ok) ?_;refine ae ?_;rw[lP,T.sgn_ofQ,bu]
 have h2:s.length≠1:=by have:=t15;simp only[aa,beq_eq_false_iff_ne,ne_eq]at this;omega
 obtain⟨i,hij,hsl⟩:∃i,i+1<=j/\s.length=2^(i+1):=by
  rcases me hsn with h |h |h
  ·exact absurd h h1
  ·exact absurd h h2
  ·exact h
 have hp2:=Nat.two_pow_pos i;have hpi:2^i<=32:=bJ (b:=5) oz;have hps:2^(i+1)=2*2^i:=by rw[Nat.pow_succ];omega
 have n1:Nl i (s.take (2^i)):=.inr ⟨i,le_refl _,eQ hsl⟩;have n2:Nl i (s.drop (2^i)):=.inr ⟨i,le_refl _,eX hsl⟩;have nd:=ht.1 i oz;have cd:=ht.2.cb i;obtain⟨nn,dn,cn⟩:=uA ht oz hsl cs;have b1:sB r i (4*e+3*eB r i+r+1)<=sB r j e:=rZ r e hij;have b2:sB r i e<=sB r i (4*e+3*eB r i+r+1):=mL r i oz;have b3:sB r i r<=sB r i (4*e+3*eB r i+r+1):=mL r i oz;have b4:=mN r i (4*e+3*eB r i+r+1);have k1:=ih i oz (s.take (2^i)) e oz n1 cs.take oz;have k2:=ih i oz (s.drop (2^i)) e oz n2 cs.drop oz;have k3:=ih i oz _ r oz nd cd oz;have k4:=ih i oz _ _ oz nn cn oz
 have hres:T.sgn (aj ts) j (ad j s)=T.sgn3 (T.sgn (aj ts) i (ad i (s.take (2^i)))) (T.sgn (aj ts) i (ad i (s.drop (2^i)))) (T.sgn (aj ts) i (ad i (ts.getD i []))) (T.sgn (aj ts) i (ad i (gh ts i s))):=by
  rw[po _ oz hij,dn];rfl
 have v1:=T.sgn_cases (aj ts) i (ad i (s.take (2^i)));have v4:=T.sgn_cases (aj ts) i (ad i (gh ts i s));refine gl ?_;refine gs (dZ (.tmp rfl) (.const _) oz (show _=((2^i:Nat):Int) by rw[eP oz,hsl,eE]) rfl) ?_;refine gs (cc (.tmp rfl) (.none _) (.some _ (.tmp rfl) oz) T67 rfl T45 rfl oz (by simp only[length_map];omega) rfl) ?_;refine gc (by have h9:=k1;rw[<- jL]at h9;exact h9) ?_;refine gs (cc (.tmp rfl) (.some _ (.tmp rfl) oz) (.none _) T67 rfl T45 rfl (by simp only[length_map];omega) oz rfl) ?_;refine gc (by have h9:=k2;rw[<- kF]at h9;exact h9) ?_;refine gD ?_;refine gc (qU qA s oz) ?_;refine ga (show _=(i:Int) by rw[hsl,o9,cU oz];omega) ?_;refine gi (sF (j:=i) oz) ?_;refine gc k3 ?_;refine gD ?_;refine gC (fun t42=>?_) (fun t42=>?_)
 ·have e1 : T.sgn (aj ts) i (ad i (ts.getD i [])) = 0 := by simpa [aa] using t42
  refine ae ?_;rw[hres];unfold T.sgn3;rw[if_pos e1]
 have e1:¬T.sgn (aj ts) i (ad i (ts.getD i []))=0:=by simpa[aa]using t42
 refine gC (fun t44=>?_) (fun t44=>?_)
 ·have e2:T.sgn (aj ts) i (ad i (s.take (2^i)))=T.sgn (aj ts) i (ad i (s.drop (2^i)))\/T.sgn (aj ts) i (ad i (s.drop (2^i)))=0:=xO t44;refine ae ?_;rw[hres];unfold T.sgn3;rw[if_neg e1,if_pos e2]
 have e2:¬(T.sgn (aj ts) i (ad i (s.take (2^i)))=T.sgn (aj ts) i (ad i (s.drop (2^i)))\/T.sgn (aj ts) i (ad i (s.drop (2^i)))=0):=xg t44;refine gC (fun t53=>?_) (fun t53=>?_)
 ·have e3 : T.sgn (aj ts) i (ad i (s.take (2 ^ i))) = 0 := by simpa [aa] using t53
  refine ae ?_;rw[hres];unfold T.sgn3;rw[if_neg e1,if_neg e2,if_pos e3]
 have e3:¬T.sgn (aj ts) i (ad i (s.take (2^i)))=0:=by simpa[aa]using t53
 refine gc (yp ts m r ht hm hml i s e oz hsl cs oz) ?_;refine gc k4 ?_;refine ga (vG v1 v4) ?_;refine gD ?_;refine ae ?_;rw[hres];unfold T.sgn3;rw[if_neg e1,if_neg e2,if_neg e3];rfl
theorem my(rs:List (List Rt))(r:Nat)(h:TR rs r):FP 121 [cz rs] (ba (aX rs)):=by
 have hll:=h.ll;have hr:=h.le;refine ah func121 ?_;refine gl ?_;refine gC (fun t10=>?_) (fun t10=>?_)
 ·have h5 : 5 < rs.length := by have := t10; simp only [aa, decide_eq_true_eq] at this; omega
  refine ae ?_;rw[zM h5];rfl
 have h5:rs.length<=5:=by have:=t10;simp only[aa,decide_eq_false_iff_not]at this;omega
 refine gl ?_;refine aI [1,13,14] [1] (fun(k:Nat)=>[(15,some (i64 k))]) (fun _=>[]) (fun k=>k<=rs.length/\∀j,j<k->gj rs j) (fun k=>rs.length-k) 0 ⟨zero_le _,fun j hj=>by omega⟩ ?_;rintro k ⟨hk,hj⟩ K1 J1;refine gC (fun t16=>?_) (fun t16=>?_)
 ·have hin : k < rs.length := by simpa [aa] using t16
  obtain⟨d,hd⟩:=ay hin;have hdm:=mem_of_getElem? hd;have hdl:=h.len d hdm;refine gi (az hd) ?_;refine gl ?_;refine gs (fC (.const _) (.tmp rfl) oz (lA oz) rfl) ?_;refine gC (fun t24=>?_) (fun t24=>?_)
  ·have h1 : d.length ≠ 2 ^ k := by have := t24; simp only [aa, bne_iff_ne, ne_eq] at this; omega
   refine ae ?_;rw[CK h5 hd hj h1];rfl
  have h1:d.length=2^k:=by have:=t24;simp only[aa,bne_eq_false_iff_eq]at this;omega
  have htl:(rs.take k).length=k:=by simp;omega
  have hnu:=CP (rs.take k) d (h.ok d hdm) hdl oz;rw[htl]at hnu;refine gs (cc (.tmp rfl) (.none _) (.some _ (.tmp rfl) oz) T35 rfl T67 rfl oz (by simp only[length_map];omega) rfl) ?_ (9,0);refine gW (Wk.of (sl:=[(1,some (.ptr 1 0)),(3,some (i64 k)),(4,some (nR d)),(5,some (.ptr 5 0)),(13,some (.lst 1 (rs.map nR))),(14,some (i64 rs.length)),(15,some (i64 k))]) (hp:=[(1,some (.box [.lst 1 (rs.map nR)])),(5,some (.box [.lst 1 ((rs.take k).map nR)]))]) aR (.k (.cons rfl (BlkSub.bL (.cons (.of (In nR rs k)) .nil) rfl) .nil))) ?_;refine gc hnu ?_;refine gC (fun t35=>?_) (fun t35=>?_)
  ·have h2:=cq t35;refine ae ?_;rw[B8 h5 hd hj h1 h2]
  have h2:=b9 t35;have hts:=Cp (ts:=llq rs) (fun j hjk=>(hj j hjk).nl) h.rb;have hq:=uc h2 (h.ok d hdm);have hcb:Cb r (lq d):=by have:=h.rb.cb k;rw[qL,getD_eq_getElem?_getD,hd]at this;exact this
  have hsg:FP 228 [cz (rs.take k),nR d] (i64 (T.sgn (aj (llq rs)) k (ad k (lq d)))):=by
   have h9:=om ((llq rs).take k) k r hts oz (by simp;omega) k (lq d) r (le_refl _) hq.2 hcb (l0 (le_refl k) (by have:=h.three;omega) hr (by have:=iZ k;omega));rw[T.sgn_congr k (fun j hjk=>oF hjk)]at h9;rw[NC h.ok oz hj,hq.1,ef];rw[<- hq.1];exact h9
  refine gc hsg ?_;refine gC (fun t40=>?_) (fun t40=>?_)
  ·have h3 : T.sgn (aj (llq rs)) k (ad k (lq d)) < 0 := by simpa [aa] using t40
   refine ae ?_;rw[Eo h5 hd hj h1 h2 h3];rfl
  have h3:¬T.sgn (aj (llq rs)) k (ad k (lq d))<0:=by simpa[aa]using t40
  refine ga aG ?_;exact aE J1 (k+1) ⟨hin,fun j hjk=>by rcases lt_or_ge j k with h9 |h9;exact hj j h9;(have:j=k:=by omega);subst this;exact Ew hd h1 h2 h3⟩
 have hin:k=rs.length:=by have:rs.length<=k:=(by simpa[aa]using t16);omega
 subst hin;refine ae ?_;rw[Bm h5 hj];rfl
theorem mx(rs:List (List Rt))(r:Nat)(h:TR rs r)(xs:List (List Rt))(hx:∀a∈xs,(∀x∈a,x.ok)/\a.length<=281474976710656)(hl:xs.length<=281474976710656):FP 243 [cz rs,.lst 1 (xs.map nR)] (ba (bc rs xs)):=by
 refine ah func243 ?_;refine gc (my rs r h) ?_;refine gC (fun t12=>?_) (fun t12=>?_)
 ·have h1:=cq t12;refine ae ?_;rw[wR h1]
 have h1:=b9 t12;refine gl ?_;refine aI [2,14,15] [2] (fun(i:Nat)=>[(16,some (i64 i))]) (fun _=>[]) (fun i=>i<=xs.length/\∀x∈xs.take i,bF rs.length x=0) (fun i=>xs.length-i) 0 ⟨zero_le _,fun x hx=>by simp at hx⟩ ?_;rintro i ⟨hi,hj⟩ K1 J1;refine gC (fun t17=>?_) (fun t17=>?_)
 ·have hin : i < xs.length := by simpa [aa] using t17
  obtain⟨a,ha⟩:=ay hin;have hok:=hx a (mem_of_getElem? ha);refine gi (az ha) ?_;refine gc (CP rs a hok.1 hok.2 h.ll) ?_;refine gC (fun t24=>?_) (fun t24=>?_)
  ·have h2:=cq t24;refine ae ?_;rw[sZ h1 ha hj h2]
  have h2:=b9 t24;refine ga aG ?_;exact aE J1 (i+1) ⟨hin,fun x hx=>by rw[cR ha]at hx;rcases List.mem_append.1 hx with h9 |h9;exact hj x h9;(rw[List.mem_singleton.1 h9];exact h2)⟩
 have hin:i=xs.length:=by have:xs.length<=i:=(by simpa[aa]using t17);omega
 subst hin;rw[take_length]at hj;refine ae ?_;rw[nv h1 hj];rfl
theorem xZ(rs:List (List Rt))(r:Nat)(h:TR rs r)(a:List Rt)(e:Nat)(ha:NR a e)(he:e<=lm rs.length) :
  FP 138 [cz rs,nR a] (.tup [nA (if bc rs [a]=0 then sh rs.length (T.neg rs.length (ad rs.length (lq a)))else[]),ba (bc rs [a])]):=by
 have hlm:=iT rs.length;refine ah func138 ?_;refine gc (mx rs r h [a] (fun x hx=>by rw[List.mem_singleton.1 hx];exact⟨ha.ok,ha.len⟩) (by simp)) ?_;refine gC (fun t12=>?_) (fun t12=>?_) (st2:=(77777,0))
 ·have h1:=cq t12;refine gR ?_;exact cT (by rw[if_neg h1];exact Sub.tup (.cons (.nil _ _ _) (.cons (.refl _) .nil)))
 have h1:=b9 t12;obtain⟨h2,h3⟩:=kR h1;obtain⟨tw,_⟩:=cH h h2;obtain⟨e1,na⟩:=ha.num (h3 a (by simp));have h5:rs.length<=5:=by have:=tw.five;rwa [length_map]at this
 have hl:=na.len5 h5;have qa:∀q∈lq a,Qs q:=fun q hq=>ha.cb.qs oz hq
 have qm:∀q∈ch (lq a),Qs q:=fun q hq=>ha.cb.minus.qs oz hq
 have nm:=nH na;refine gW (Wk.of (sl:=[(1,some (nA (lq a))),(2,some (.ptr 2 0)),(6,some (ba (bc rs [a])))]) (hp:=[(2,some (.box [.lst 1 (rs.map nR)]))]) (.cons rfl (Sub.of e1) (.k (.k .nil))) (.k .nil)) ?_;refine gc (tY _ qa oz) ?_;refine gc (jX _ h5 nm qm) ?_;refine bi ?_;rw[if_pos h1,h1,kT];rfl
theorem OH(rs:List (List Rt))(r:Nat)(h:TR rs r)(a b:List Rt)(e f:Nat)(ha:NR a e)(hb:NR b f)(he:e+f<=lm rs.length) :
  FP 329 [cz rs,nR a,nR b] (.tup [nA (if bc rs [a,b]=0 then sh rs.length (T.add rs.length (ad rs.length (lq a)) (ad rs.length (lq b)))else[]),ba (bc rs [a,b])]):=by
 have hlm:=iT rs.length;refine ah func329 ?_;refine gc (mx rs r h [a,b] (pJ ha hb) (by simp)) ?_;refine gC (fun t15=>?_) (fun t15=>?_) (st2:=(77777,0))
 ·have h1:=cq t15;refine gR ?_;exact cT (by rw[if_neg h1];exact Sub.tup (.cons (.nil _ _ _) (.cons (.refl _) .nil)))
 have h1:=b9 t15;obtain⟨h2,h3⟩:=kR h1;obtain⟨tw,e0⟩:=cH h h2;obtain⟨e1,na⟩:=ha.num (h3 a (by simp));obtain⟨e2,nb⟩:=hb.num (h3 b (by simp));have h5:rs.length<=5:=by have:=tw.five;rwa [length_map]at this
 have hla:=na.len5 h5;have hlb:=nb.len5 h5;have qa:∀q∈lq a,Qs q:=fun q hq=>ha.cb.qs oz hq
 have qb:∀q∈lq b,Qs q:=fun q hq=>hb.cb.qs oz hq
 have qp:∀q∈bQ (lq a) (lq b),Qs q:=fun q hq=>(ha.cb.plus hb.cb).qs oz hq
 have np:=oi na nb;refine gW (Wk.of (sl:=[(1,some (nA (lq a))),(2,some (nA (lq b))),(3,some (.ptr 3 0)),(8,some (ba (bc rs [a,b])))]) (hp:=[(3,some (.box [.lst 1 (rs.map nR)]))]) (.cons rfl (Sub.of e1) (.cons rfl (Sub.of e2) (.k (.k .nil)))) (.k .nil)) ?_;refine gc (nO _ _ qa qb oz oz) ?_;refine gc (jX _ h5 np qp) ?_;refine bi ?_;rw[if_pos h1,h1,iw];rfl
theorem LR(rs:List (List Rt))(r:Nat)(h:TR rs r)(a b:List Rt)(e f:Nat)(ha:NR a e)(hb:NR b f)(he:e+f<=lm rs.length) :
  FP 163 [cz rs,nR a,nR b] (.tup [nA (if bc rs [a,b]=0 then sh rs.length (T.add rs.length (ad rs.length (lq a)) (T.neg rs.length (ad rs.length (lq b))))else[]),ba (bc rs [a,b])]):=by
 have hlm:=iT rs.length;refine ah func163 ?_;refine gc (mx rs r h [a,b] (pJ ha hb) (by simp)) ?_;refine gC (fun t15=>?_) (fun t15=>?_) (st2:=(77777,0))
 ·have h1:=cq t15;refine gR ?_;exact cT (by rw[if_neg h1];exact Sub.tup (.cons (.nil _ _ _) (.cons (.refl _) .nil)))
 have h1:=b9 t15;obtain⟨h2,h3⟩:=kR h1;obtain⟨tw,e0⟩:=cH h h2;obtain⟨e1,na⟩:=ha.num (h3 a (by simp));obtain⟨e2,nb⟩:=hb.num (h3 b (by simp));have h5:rs.length<=5:=by have:=tw.five;rwa [length_map]at this
 have hla:=na.len5 h5;have hlb:=nb.len5 h5;have qa:∀q∈lq a,Qs q:=fun q hq=>ha.cb.qs oz hq
 have qb:∀q∈lq b,Qs q:=fun q hq=>hb.cb.qs oz hq
 have qm:∀q∈ch (lq b),Qs q:=fun q hq=>hb.cb.minus.qs oz hq
 have qp:∀q∈bQ (lq a) (ch (lq b)),Qs q:=fun q hq=>(ha.cb.plus hb.cb.minus).qs oz hq
 have np:=oi na (nH nb);refine gW (Wk.of (sl:=[(1,some (nA (lq a))),(2,some (nA (lq b))),(3,some (.ptr 3 0)),(8,some (ba (bc rs [a,b])))]) (hp:=[(3,some (.box [.lst 1 (rs.map nR)]))]) (.cons rfl (Sub.of e1) (.cons rfl (Sub.of e2) (.k (.k .nil)))) (.k .nil)) ?_;refine gc (tY _ qb oz) ?_;refine gc (nO _ _ qa qm oz (by rw[gz];omega)) ?_;refine gc (jX _ h5 np qp) ?_;refine bi ?_;rw[if_pos h1,h1,iw,kT];rfl
theorem Px(rs:List (List Rt))(r:Nat)(h:TR rs r)(a b:List Rt)(e f:Nat)(ha:NR a e)(hb:NR b f)(he:e+f<=lm rs.length) :
  FP 164 [cz rs,nR a,nR b] (.tup [nA (if bc rs [a,b]=0 then sh rs.length (T.mul (aj (llq rs)) rs.length (ad rs.length (lq a)) (ad rs.length (lq b)))else[]),ba (bc rs [a,b])]):=by
 have hr:=h.le;have hlm:=iT rs.length;refine ah func164 ?_;refine gc (mx rs r h [a,b] (pJ ha hb) (by simp)) ?_;refine gC (fun t15=>?_) (fun t15=>?_) (st2:=(77777,0))
 ·have h1:=cq t15;refine gR ?_;exact cT (by rw[if_neg h1];exact Sub.tup (.cons (.nil _ _ _) (.cons (.refl _) .nil)))
 have h1:=b9 t15;obtain⟨h2,h3⟩:=kR h1;obtain⟨tw,e0⟩:=cH h h2;obtain⟨e1,na⟩:=ha.num (h3 a (by simp));obtain⟨e2,nb⟩:=hb.num (h3 b (by simp));have hlen:(llq rs).length=rs.length:=length_map _;have h5:rs.length<=5:=by have:=tw.five;omega
 have hla:=na.len5 h5;have hlb:=nb.len5 h5;have htw:=tw.ok;rw[hlen]at htw;have hE:=K7 r h5;have np:=eY (llq rs) rs.length htw.1 rs.length rs.length _ _ (le_refl _) (le_refl _) na nb;have cp:=Cb.mul htw (k:=rs.length) (le_refl rs.length) (le_refl _) na nb ha.cb hb.cb;have hti:=nD (llq rs) rs.length r htw h5 oz rs.length rs.length _ _ e f (le_refl _) (le_refl _) na nb ha.cb hb.cb oz;refine gW (Wk.of (sl:=[(1,some (nA (lq a))),(2,some (nA (lq b))),(3,some (.ptr 3 0)),(8,some (ba (bc rs [a,b])))]) (hp:=[(3,some (.box [.lst 1 ((llq rs).map nA)]))]) (.cons rfl (Sub.of e1) (.cons rfl (Sub.of e2) (.k (.k .nil)))) (.cons rfl (BlkSub.bL (.cons (.of (ko e0)) .nil) rfl) .nil)) ?_;refine gc hti ?_;refine gc (jX _ h5 np.1 (fun q hq=>cp.qs oz hq)) ?_;refine bi ?_;rw[if_pos h1,h1,np.2];rfl
theorem IR(rs:List (List Rt))(r:Nat)(h:TR rs r)(a:List Rt)(e:Nat)(ha:NR a e)(he:e<=lm rs.length) :
  FP 267 [cz rs,nR a] (.tup [i64 (if bc rs [a]=0 then T.sgn (aj (llq rs)) rs.length (ad rs.length (lq a))else 0),ba (bc rs [a])]):=by
 have hr:=h.le;have hlm:=iT rs.length;refine ah func267 ?_;refine gc (mx rs r h [a] (fun x hx=>by rw[List.mem_singleton.1 hx];exact⟨ha.ok,ha.len⟩) (by simp)) ?_;refine gC (fun t12=>?_) (fun t12=>?_) (st2:=(77777,0))
 ·have h1:=cq t12;refine bi ?_;rw[if_neg h1];rfl
 have h1:=b9 t12;obtain⟨h2,h3⟩:=kR h1;obtain⟨tw,e0⟩:=cH h h2;obtain⟨e1,na⟩:=ha.num (h3 a (by simp));have hlen:(llq rs).length=rs.length:=length_map _;have h5:rs.length<=5:=by have:=tw.five;omega
 have htw:=tw.ok;rw[hlen]at htw;have hsg:=om (llq rs) rs.length r htw h5 oz rs.length _ _ (le_refl _) na ha.cb (l0 (le_refl rs.length) (by have:=tw.three;omega) hr oz);refine gW (Wk.of (sl:=[(1,some (nA (lq a))),(2,some (.ptr 2 0)),(6,some (ba (bc rs [a])))]) (hp:=[(2,some (.box [.lst 1 ((llq rs).map nA)]))]) (.cons rfl (Sub.of e1) (.k (.k .nil))) (.cons rfl (BlkSub.bL (.cons (.of (ko e0)) .nil) rfl) .nil)) ?_;refine gc hsg ?_;refine bi ?_;rw[if_pos h1,h1];rfl
theorem yv(x:Rt)(hx:x.ok)(hs:Qs x.q):FP 126 [x.av] (nA (sh 0 (x.q:Rat))):=by
 have hadd:=mS x (rt 0) hx Qs.zero.ok;rw[ri]at hadd;refine ah func126 ?_;refine gc (Con.sA (.cons (.refl _) (.cons gQ .nil)) hadd) ?_;refine gc (jX (n:=0) [x.q] oz (.inr ⟨0,le_refl _,rfl⟩) (fun q hq=>by rw[List.mem_singleton.1 hq];exact hs)) ?_;refine ae ?_;rfl
theorem qF(n:Nat)(hn:n<=281474976710656):FP 277 [i64 n] (.tup [i64 (jt n),bl (jr n)]):=by
 refine ah func277 ?_;refine aI [0] [] (fun(k:Nat)=>[(5,some (i64 k))]) (fun _=>[]) (fun k=>k<=6/\∀j,j<k->n≠2^j) (fun k=>6-k) 0 ⟨by omega,fun j h=>by omega⟩ ?_;rintro k ⟨hk,hj⟩ K1 J1;refine gC (fun t6=>?_) (fun t6=>?_)
 ·have h1 : k < 6 := by have := t6; simp only [aa, decide_eq_true_eq] at this; omega
  refine gs (fC (.const _) (.tmp rfl) oz (lA oz) rfl) ?_;refine gC (fun t11=>?_) (fun t11=>?_)
  ·have h2 : n = 2 ^ k := by have := t11; simp only [aa, beq_iff_eq] at this; omega
   refine bi ?_;rw[h2,(ky oz).1,(ky oz).2];rfl
  have h2:n≠2^k:=by have:=t11;simp only[aa,beq_eq_false_iff_ne,ne_eq]at this;omega
  refine ga (cG oz) ?_;exact aE J1 (k+1) ⟨by omega,fun j h=>by rcases lt_or_ge j k with h3 |h3;exact hj j h3;(have:j=k:=by omega);subst this;exact h2⟩
 have h1:k=6:=by have:=t6;simp only[aa,decide_eq_false_iff_not]at this;omega
 subst h1;refine bi ?_;rw[(DA hj).1,(DA hj).2];rfl
theorem Df(m:Nat)(hm:m<=5)(a:List Rt)(ha:∀r∈a,r.ok)(hl:a.length<=281474976710656):FP 180 [i64 m,nR a] (i64 (bF m a)):=by
 refine ah func180 ?_;refine gl ?_;refine gc (qF a.length hl) ?_;refine gl ?_;refine gC (fun t26=>?_) (fun t26=>?_)
 ·have h1:a≠[]/\(bY a.length<0\/(m:Int)<bY a.length):=(EY hm a).2 (PM t26);refine ae ?_;unfold bF;rw[if_pos h1];rfl
 have hn:¬(a≠[]/\(bY a.length<0\/(m:Int)<bY a.length)):=fun h=>Ku t26 ((EY hm a).1 h)
 refine gl ?_;refine aI [27,28] [] (fun(i:Nat)=>[(29,some (i64 i))]) (fun _=>[]) (fun i=>i<=a.length/\(a.take i).all Rt.valid=true) (fun i=>a.length-i) 0 ⟨zero_le _,by simp⟩ ?_;rintro i ⟨hi,hv⟩ K1 J1;refine gC (fun t30=>?_) (fun t30=>?_)
 ·have hin : i < a.length := by simpa [aa] using t30
  obtain⟨r,hr⟩:=ay hin;have hrok:=ha r (mem_of_getElem? hr);refine gi (az hr) ?_;refine gc (tf r hrok) ?_;refine gC (fun t35=>?_) (fun t35=>?_)
  ·have hrv : r.valid = false := by simpa using t35
   refine ae ?_;unfold bF;rw[if_neg hn,if_neg]
   ·rfl
   ·rw[all_eq_true];intro h;rw[h r (mem_of_getElem? hr)]at hrv;cases hrv
  have hrv:r.valid=true:=by simpa using t35
  refine ga aG ?_;exact aE J1 (i+1) ⟨by omega,by rw[cR hr,all_append,hv];simp[hrv]⟩
 have hin:i=a.length:=by have:a.length<=i:=(by simpa[aa]using t30);omega
 subst hin;rw[take_length]at hv;refine ae ?_;unfold bF;rw[if_neg hn,if_pos hv];rfl
theorem Dn(a:List Rat)(hl:a.length<=281474976710656):FP 283 [nA a] (bl (a9 a)):=by
 refine ah func283 ?_;refine gl ?_;refine aI [5,6] [] (fun(i:Nat)=>[(7,some (i64 i))]) (fun _=>[]) (fun i=>i<=a.length/\a9 (a.take i)=true) (fun i=>a.length-i) 0 ⟨zero_le _,by simp[a9]⟩ ?_;rintro i ⟨hi,hv⟩ K1 J1;refine gC (fun t8=>?_) (fun t8=>?_)
 ·have hin : i < a.length := by simpa [aa] using t8
  obtain⟨q,hq⟩:=ay hin;refine gi (az hq) ?_;refine bH ?_;refine bH ?_;refine gC (fun t24=>?_) (fun t24=>?_)
  ·have h0:q≠0:=Nv t24;refine ae ?_
   have:a9 a=false:=by
    rw[Bool.eq_false_iff];intro h;exact h0 (by simpa using List.all_eq_true.1 h q (mem_of_getElem? hq))
   rw[this];rfl
  have h0:q=0:=N8 t24;refine ga aG ?_;exact aE J1 (i+1) ⟨by omega,by rw[cR hq];simp only[a9,all_append,and_eq_true];exact⟨hv,by simp[h0]⟩⟩
 have hin:i=a.length:=by have:a.length<=i:=(by simpa[aa]using t8);omega
 subst hin;rw[take_length]at hv;refine ae ?_;rw[hv];rfl
theorem wd{n:Nat}(a:List Rat)(hn:n<=5)(ha:Nl n a):FP 182 [nA a] (nA (sh n (ad n a))):=by
 have hl:=ha.len5 hn;rw[<- pi ha hn];refine ah func182 ?_;refine gl ?_;refine gc (qF a.length oz) ?_;refine gC (fun t13=>?_) (fun t13=>?_)
 ·have h0:a=[]:=by
   rcases ha with h |⟨j,hj,h⟩
   ·exact h
   ·have h9:=t13;rw[h,(ky oz).2]at h9;cases h9
  refine gs (iO T67 rfl T45 rfl rfl rfl) ?_;refine gs (oE (.tmp rfl) rfl rfl (.tmp rfl) T67 rfl T45 rfl rfl (by simp[h0]) rfl rfl) ?_;refine ae ?_;subst h0;rfl
 refine gl ?_;refine aI [0] [] (fun(m:Nat)=>[(5,some (i64 m))]) (fun _=>[]) (fun m=>ka a m) (fun m=>m) a.length (EQ (ha.mono hn)) ?_;rintro m hm K1 J1;refine gs (dK rfl rfl rfl (fun h=>dZ (.opt rfl (o1 h)) (.const _) oz (eP (by have:=hm.le;omega)) rfl)) ?_;refine gs (dK rfl rfl rfl (fun h=>cc (.opt rfl (o1 h)) (.some _ (.opt rfl (o1 h)) oz) (.some _ (.opt rfl (o1 h)) oz) T67 rfl T45 rfl oz (by have:=hm.le;simp;omega) rfl)) ?_;refine bw (fun _=>(by have h9:=Dn ((a.drop (m/2)).take (m-m/2)) (by simp;omega);rw[<- p7]at h9;exact h9)) ?_;refine gC (fun t28=>?_) (fun t28=>?_)
 ·have h1:1<m/\a9 ((a.drop (m/2)).take (m-m/2))=true:=by
   have h9:=t28
   by_cases h:(m:Int)>1
   ·simp only[aa,decide_eq_true h,cond_true]at h9;exact⟨by omega,h9⟩
   ·simp only[aa,decide_eq_false h,cond_false]at h9;cases h9
  refine gs (dZ (.tmp rfl) (.const _) oz (eP (by have:=hm.le;omega)) rfl) ?_;exact aE J1 (m/2) (Ck hm h1.1 h1.2)
 have h1:1<m->a9 ((a.drop (m/2)).take (m-m/2))=false:=by
  intro h;have h9:=t28;simp only[aa,decide_eq_true (show(m:Int)>1 by omega),cond_true]at h9;exact h9
 refine gs (dK rfl rfl rfl (fun h=>cc (.opt rfl (o1 h)) (.none _) (.some _ (.const _) oz) T67 rfl T45 rfl oz (by have h8:(m:Int)=1:=(by simpa[aa]using h);have:=hm.le;simp only[length_map];omega) rfl)) ?_;refine bw (fun _=>(by have h9:=Dn ((a.drop 0).take 1) (by simp;omega);rw[<- p7]at h9;exact h9)) ?_;refine gC (fun t37=>?_) (fun t37=>?_)
 ·have h2:m=1/\a9 (a.take 1)=true:=by
   have h9:=t37
   by_cases h:m=1
   ·rw[h]at h9;exact⟨h,h9⟩
   ·rw[show aa .eql (m:Int) 1=false by simp[aa];omega]at h9;cases h9
  obtain⟨rfl,h3⟩:=h2;refine gR ?_;exact jb (by rw[DH hm h3];exact Sub.nil _ _ _)
 have h2:m=1->a9 (a.take 1)=false:=by
  intro h;have h9:=t37;rw[h]at h9;exact h9
 have h3:=AF hm h1 h2;refine gs (iO T67 rfl T45 rfl rfl rfl) ?_;refine gs (cc (.tmp rfl) (.none _) (.some _ (.tmp rfl) oz) T67 rfl T45 rfl oz (by have:=hm.le;simp;omega) rfl) ?_;refine gs (oE (.tmp rfl) rfl rfl (.tmp rfl) T67 rfl T45 rfl rfl (by simp only[length_take,List.length_drop,length_map];omega) rfl rfl) ?_;refine ae ?_;rw[h3];simp[nA,map_take]
theorem x7(d:Nat)(hd:Nat.blt d 1000=true)(a:List Rat)(n:Nat)(hl:a.length<=n)(hn:n<=1099511627776) :
  Con prog 181 [nA a,i64 n] [] (.ms d 3 0 n) [(d,some (.row 3 ((aM a n).map qA)))]:=by
 refine gF func181 (fun k z h=>by cases h) ?_;refine gs (iO T67 rfl T45 rfl rfl rfl) ?_;refine gs (bU (.tmp rfl) rfl rfl (.tmp rfl) T67 rfl T45 rfl rfl (by simp only[length_map];omega) rfl rfl) ?_;refine gW (Wk.of (sl:=[(1,some (i64 n)),(5,some (.ms 8 3 0 a.length))]) (hp:=[(8,some (.row 3 ((aM a a.length).map qA)))]) (.k (.cons rfl (Sub.of (by simp)) .nil)) (.cons rfl (BlkSub.of (by simp[aM])) .nil)) ?_ (99999,0);refine gW (Wk.rk (k:=8) (d:=900) rfl rfl) ?_;refine aI [1] [] (fun(i:Nat)=>[(5,some (.ms 900 3 0 i))]) (fun i=>[(900,some (.row 3 ((aM a i).map qA)))]) (fun i=>a.length<=i/\i<=n) (fun i=>n-i) a.length ⟨le_refl _,hl⟩ ?_;rintro i ⟨hi,hin⟩ K1 J1;refine gC (fun t12=>?_) (fun t12=>?_)
 ·have h1 : i < n := by have := t12; simp only [aa, decide_eq_true_eq] at this; omega
  refine gs (bU (.tmp rfl) rfl (by rw[length_map,dc hi]) (.tmp rfl) T67 rfl T45 rfl rfl (by simp;omega) rfl rfl) ?_;exact aE J1 (i+1) ⟨by omega,h1⟩ (hw:=(Wk.of (sl:=[(1,some (i64 n)),(5,some (.ms 16 3 0 (i+1)))]) (hp:=[(16,some (.row 3 ((aM a (i+1)).map qA)))]) aR (.cons rfl (Rk a i hi) .nil)).trans<|(Wk.rk (k:=16) (d:=900) rfl rfl).trans<|Wk.o)
 have h1:i=n:=by have:=t12;simp only[aa,decide_eq_false_iff_not]at this;omega
 subst h1;refine gR ?_;exact ak.own1 rfl hd rfl
theorem ry(a:List Rat)(n:Nat)(hl:a.length<=n)(hn:n<=1099511627776):FP 181 [nA a,i64 n] (nA (aM a n)):=by
 have h:=Con.freeze (by rw[length_map,dc hl];omega) (x7 0 rfl a n hl hn);rw[drop_zero,take_of_length_le (by rw[length_map,dc hl];exact le_refl _)]at h;exact h
theorem sQ(a b:List Rat)(ha:∀q∈a,Qs q)(hb:∀q∈b,Qs q)(la:a.length<=1099511627776)(lb:b.length<=1099511627776):FP 171 [nA a,nA b] (nA (bQ a b)):=by
 obtain⟨n,hn⟩:∃n,n=max a.length b.length:=⟨_,rfl⟩
 have hwa:=dc (show a.length<=n by omega);have hwb:=dc (show b.length<=n by omega);have hp:=dI (a:=a) (b:=b);rw[<- hn]at hp;have qa:∀q∈aM a n,Qs q:=fun q hq=>by rcases List.mem_append.1 hq with h |h;exact ha q h;(rw[(List.mem_replicate.1 h).2];exact Qs.zero)
 have qb:∀q∈aM b n,Qs q:=fun q hq=>by rcases List.mem_append.1 hq with h |h;exact hb q h;(rw[(List.mem_replicate.1 h).2];exact Qs.zero)
 refine ah func171 ?_;refine gl ?_;refine gl ?_;refine gs (o0 (.tmp rfl) (.tmp rfl) rfl) ?_ (2,0);refine gW (Wk.of (sl:=[(0,some (nA a)),(1,some (nA b)),(5,some (i64 n))]) (hp:=[]) (.k (.k (.cons rfl (Sub.int oz) .nil))) .nil) ?_;refine go ?_;refine gt (aA (x7 900 rfl a n oz oz) (be rfl rfl) aC rfl rfl) ?_;refine gc (ry b n oz oz) ?_;refine aI [1,19] [] (fun(i:Nat)=>[(0,some (.ms 900 3 0 n)),(20,some (i64 i))]) (fun i=>[(900,some (.row 3 (((bQ a b).take i++(aM a n).drop i).map qA)))]) (fun i=>i<=n) (fun i=>n-i) 0 (zero_le _) ?_;rintro i hi K1 J1;refine gC (fun t21=>?_) (fun t21=>?_) (st2:=(8,0))
 ·have hin : i < n := by simpa [aa] using t21
  have hmx:=xx (p:=bQ a b) (w:=aM a n) (i:=i) oz oz;have hqa:=(qa _ (rc (i:=i) oz)).ok;have hqb:=(qb _ (rc (i:=i) oz)).ok;refine gs (bG (n:=i) (.tmp rfl) (.tmp rfl) T67 rfl T45 rfl oz oz rfl) ?_;refine gs (dD (.tmp rfl) rfl (az hmx) T45 rfl rfl rfl) ?_;refine gi (az (getD_some (i:=i) (l:=aM b n) oz)) ?_;refine gc (wJ (rt ((aM a n).getD i 0)) (rt ((aM b n).getD i 0)) hqa hqb) ?_;refine gs (bG (n:=i) (.tmp rfl) (.tmp rfl) T67 rfl T45 rfl oz oz rfl) ?_;refine gs (cW (.tmp rfl) rfl (az hmx) rfl (.tmp rfl) rfl rfl T45 rfl rfl) ?_;refine gD ?_ (7,0);refine gW (Wk.of (sl:=[(0,some (.ms 900 3 0 n)),(1,some (nA (aM b n))),(19,some (i64 n)),(20,some (i64 i))]) (hp:=[(900,some (.row 3 (((bQ a b).take (i+1)++(aM a n).drop (i+1)).map qA)))]) aR (.cons rfl (BlkSub.of (by rw[vc oz oz (by rw[Bn,<- hn,bu,bu])])) .nil)) ?_;refine ga aG ?_;exact aE J1 (i+1) hin
 have hin:i=n:=by have:n<=i:=(by simpa[aa]using t21);omega
 refine gW ((Wk.freeze (k:=900) rfl).trans<|Wk.of (sl:=[(0,some (nA (bQ a b)))]) (hp:=[]) (.cons rfl (Sub.of (by rw[bB (by simp;omega),hin,List.drop_of_length_le oz,take_of_length_le oz,append_nil];rfl)) .nil) .nil) ?_;refine ae ?_;rfl
theorem BL(a:List Rat)(ha:∀q∈a,Qs q)(hl:a.length<=1099511627776):FP 172 [nA a] (nA (ch a)):=by
 refine ah func172 ?_;refine gl ?_;refine gW (Wk.virt 900 3 rfl) ?_;refine aI [6,7] [] (fun(i:Nat)=>[(3,some (.ms 900 3 0 i)),(8,some (i64 i))]) (fun i=>[(900,some (.row 3 ((ch (a.take i)).map qA)))]) (fun i=>i<=a.length) (fun i=>a.length-i) 0 (zero_le _) ?_;rintro i hi K1 J1;refine gC (fun t9=>?_) (fun t9=>?_) (st2:=(7,0))
 ·have hin : i < a.length := by simpa [aa] using t9
  obtain⟨q,hq⟩:=ay hin;have hqs:=(ha q (mem_of_getElem? hq)).ok;refine gi (az hq) ?_;refine gc (CA (rt q) hqs) ?_;refine gs (bU (.tmp rfl) rfl (by simp[ch];omega) (.tmp rfl) T67 rfl T45 rfl rfl (by simp;omega) rfl rfl) ?_ (6,0);refine gW (Wk.of (sl:=[(3,some (.ms 16 3 0 (i+1))),(6,some (nA a)),(7,some (i64 a.length)),(8,some (i64 i))]) (hp:=[(16,some (.row 3 ((ch (a.take (i+1))).map qA)))]) aR (.cons rfl (BlkSub.of (by rw[cR hq];simp only[ch,map_append,bu];rfl)) .nil)) ?_ (6,0);refine gW (Wk.rk (k:=16) (d:=900) rfl rfl) ?_;refine ga aG ?_;exact aE J1 (i+1) hin
 have hin:i=a.length:=by have:a.length<=i:=(by simpa[aa]using t9);omega
 subst hin;refine gW ((Wk.freeze (k:=900) rfl).trans<|Wk.of (sl:=[(3,some (nA (ch a)))]) (hp:=[]) (.cons rfl (Sub.of (by rw[bB (by simp[ch]),take_length];rfl)) .nil) .nil) ?_;refine ae ?_;rfl
theorem yT(ts:LL)(m r:Nat)(ht:gq ts m r)(hm:m<=5)(R:List AV)(hR:∀j,j<m->R[j]?=some (nA (ts.getD j [])))(k:Nat):∀(j:Nat)(a b:List Rat)(e f:Nat),j<=m->j<=k->Nl j a->Nl j b->Cb e a->Cb f b->e+f+eB r j<4398046511104 ->
  FP 183 [.agg [.lst 1 R],nA a,nA b] (nA (rT ts k a b)):=by
 induction k using Nat.strongRecOn
 rename_i k ih;intro j a b e f hj hjk ha hb ca cb hs;obtain⟨nx,dx⟩:=tN ha oz;obtain⟨ny,dy⟩:=tN hb oz;have cx:Cb e (a5 5 a):=ca.sub (fun q hq=>p8 5 hq);have cy:Cb f (a5 5 b):=cb.sub (fun q hq=>p8 5 hq);have k1:=wd a oz ha;have k2:=wd b oz hb;rw[<- pi ha oz]at k1;rw[<- pi hb oz]at k2;obtain⟨x,hx⟩:∃x,x=a5 5 a:=⟨_,rfl⟩
 obtain⟨y,hy⟩:∃y,y=a5 5 b:=⟨_,rfl⟩
 rw[<- hx]at k1 nx dx cx;rw[<- hy]at k2 ny dy cy;have hlx:=nx.len5 oz;have hly:=ny.len5 oz;obtain⟨n,hn⟩:∃n,n=max x.length y.length:=⟨_,rfl⟩
 refine ah func183 ?_;refine gc k1 ?_;refine gc k2 ?_;refine gl ?_;refine gl ?_;refine gs (o0 (.tmp rfl) (.tmp rfl) rfl) ?_ (3,0);refine gW (Wk.of (sl:=[(1,some (nA x)),(2,some (nA y)),(3,some (.ptr 3 0)),(7,some (i64 n))]) (hp:=[(3,some (.box [.lst 1 R]))]) (.k (.k (.k (.cons rfl (Sub.int oz) .nil)))) (.k .nil)) ?_;refine gl ?_;refine bH ?_;refine gC (fun t32=>?_) (fun t32=>?_)
 ·have h0 : x.length = 0 \/ y.length = 0 := by have := xO t32; omega
  refine gR ?_;exact jb (by rw[B6 (by rw[<- hx,<- hy];exact h0)];exact Sub.nil _ _ _)
 have h0:¬(x.length=0\/y.length=0):=by have:=xg t32;omega
 refine gC (fun t34=>?_) (fun t34=>?_)
 ·have h1 : max x.length y.length = 1 := by have := t34; simp only [aa, beq_iff_eq] at this; omega
  have e1:=zZ (ts:=ts) (k:=k) (a:=a) (b:=b) (by rw[<- hx,<- hy];exact h0) (by rw[<- hx,<- hy];exact h1);rw[<- hx,<- hy]at e1;clear hx hy;have lx1:x.length=1:=by omega
  have ly1:y.length=1:=by omega
  clear hn;obtain⟨p,rfl⟩:∃p,x=[p]:=List.length_eq_one_iff.1 lx1;obtain⟨q,rfl⟩:∃q,y=[q]:=List.length_eq_one_iff.1 ly1;refine gi rfl ?_;refine gi rfl ?_;refine gc (KE (rt p) (rt q) (cx.qs oz (by simp:p∈[p])).ok (cy.qs oz (by simp:q∈[q])).ok) ?_;refine gD ?_;refine ae ?_;rw[e1,bu,bu];rfl
 have h1:n≠1:=by have:=t34;simp only[aa,beq_eq_false_iff_ne,ne_eq]at this;omega
 obtain⟨i,hij,hmax⟩:=(B0 nx ny h0).resolve_left oz;obtain⟨k',rfl⟩:∃k',k=k'+1:=⟨k-1,by omega⟩
 have hp2:=Nat.two_pow_pos i;have hpi:2^i<=32:=bJ (b:=5) oz;have hps:2^(i+1)=2*2^i:=by rw[Nat.pow_succ];omega
 have hnn:n=2^(i+1):=by omega
 have hes:eB r (i+1)<=eB r j:=fX r hij;have hee:eB r (i+1)=2*eB r i+r+2:=rfl;have lx:(aM x (2^(i+1))).length=2^(i+1):=dc oz;have ly:(aM y (2^(i+1))).length=2^(i+1):=dc oz;obtain⟨X,hX⟩:∃X,X=aM x (2^(i+1)):=⟨_,rfl⟩
 obtain⟨Y,hY⟩:∃Y,Y=aM y (2^(i+1)):=⟨_,rfl⟩
 have cX:Cb e X:=by rw[hX];exact cx.wide
 have cY:Cb f Y:=by rw[hY];exact cy.wide
 rw[<- hX]at lx;rw[<- hY]at ly;have n1:Nl i (X.take (2^i)):=.inr ⟨i,le_refl _,eQ lx⟩;have n2:Nl i (X.drop (2^i)):=.inr ⟨i,le_refl _,eX lx⟩;have n3:Nl i (Y.take (2^i)):=.inr ⟨i,le_refl _,eQ ly⟩;have n4:Nl i (Y.drop (2^i)):=.inr ⟨i,le_refl _,eX ly⟩;have nd:=ht.1 i oz;have cd:=ht.2.cb i;have s1:=jy hm ht (k:=k') (show i<=m by omega) oz n1 n3 cX.take cY.take;have s2:=jy hm ht (k:=k') (show i<=m by omega) oz n2 n4 cX.drop cY.drop;have s3:=jy hm ht (k:=k') (show i<=m by omega) oz s2.1 nd s2.2.2 cd;have s4:=jy hm ht (k:=k') (show i<=m by omega) oz n1 n4 cX.take cY.drop;have s5:=jy hm ht (k:=k') (show i<=m by omega) oz n2 n3 cX.drop cY.take;have hrt:=E5 (ts:=ts) (k:=k') (a:=a) (b:=b) rfl (by rw[<- hx,<- hy];exact h0) (by rw[<- hx,<- hy];exact hmax);rw[<- hx,<- hy,<- hX,<- hY]at hrt;have w1:=ry x n oz oz;have w2:=ry y n oz oz;rw[hnn,<- hX]at w1;rw[hnn,<- hY]at w2;rw[<- hnn]at w1 w2;have pw:=qF n oz;rw[show jt n=i+1 by rw[hnn];exact(ky oz).1,show jr n=true by rw[hnn];exact(ky oz).2]at pw;refine gc w1 ?_;refine gc w2 ?_;refine gc pw ?_;refine gs (dZ (.tmp rfl) (.const _) oz (show _=((2^i:Nat):Int) by rw[eP oz,hnn,eE]) rfl) ?_;refine gs (cc (.tmp rfl) (.none _) (.some _ (.tmp rfl) oz) T67 rfl T45 rfl oz (by simp only[length_map];omega) rfl) ?_;refine gs (dZ (.tmp rfl) (.const _) oz (show _=((2^i:Nat):Int) by rw[eP oz,hnn,eE]) rfl) ?_;refine gs (cc (.tmp rfl) (.some _ (.tmp rfl) oz) (.none _) T67 rfl T45 rfl (by simp only[length_map];omega) oz rfl) ?_;refine gs (dZ (.tmp rfl) (.const _) oz (show _=((2^i:Nat):Int) by rw[eP oz,hnn,eE]) rfl) ?_;refine gs (cc (.tmp rfl) (.none _) (.some _ (.tmp rfl) oz) T67 rfl T45 rfl oz (by simp only[length_map];omega) rfl) ?_;refine gs (dZ (.tmp rfl) (.const _) oz (show _=((2^i:Nat):Int) by rw[eP oz,hnn,eE]) rfl) ?_;refine gs (cc (.tmp rfl) (.some _ (.tmp rfl) oz) (.none _) T67 rfl T45 rfl (by simp only[length_map];omega) oz rfl) ?_;refine gD ?_ (10,0);refine gW (Wk.of (sl:=[(3,some (.ptr 3 0)),(7,some (i64 n)),(8,some (i64 ((i+1:Nat):Int))),(10,some (nA (X.take (2^i)))),(11,some (nA (X.drop (2^i)))),(12,some (nA (Y.take (2^i)))),(13,some (nA (Y.drop (2^i))))]) (hp:=[(3,some (.box [.lst 1 R]))]) (.k (.k (.k (.cons rfl (Sub.of (jL X (2^i))) (.cons rfl (Sub.of (kF X (2^i))) (.cons rfl (Sub.of (jL Y (2^i))) (.cons rfl (Sub.of (kF Y (2^i))) .nil))))))) (.k .nil)) ?_
 refine gc (ih k' oz i _ _ e f oz oz n1 n3 cX.take cY.take oz) ?_;refine gc (ih k' oz i _ _ e f oz oz n2 n4 cX.drop cY.drop oz) ?_;refine ga (show _=(i:Int) by rw[cU oz];omega) ?_;refine gi (hR i oz) ?_;refine gc (ih k' oz i _ _ _ _ oz oz s2.1 nd s2.2.2 cd oz) ?_;refine gc (sQ _ _ (fun q hq=>s1.2.2.qs oz hq) (fun q hq=>s3.2.2.qs oz hq) (by have:=s1.1.le;omega) (by have:=s3.1.le;omega)) ?_;refine gD ?_;refine gc (ih k' oz i _ _ e f oz oz n1 n4 cX.take cY.drop oz) ?_;refine gc (ih k' oz i _ _ e f oz oz n2 n3 cX.drop cY.take oz) ?_;refine gc (sQ _ _ (fun q hq=>s4.2.2.qs oz hq) (fun q hq=>s5.2.2.qs oz hq) (by have:=s4.1.le;omega) (by have:=s5.1.le;omega)) ?_;refine gD ?_;refine gs (dZ (.tmp rfl) (.const _) oz (show _=((2^i:Nat):Int) by rw[eP oz,hnn,eE]) rfl) ?_;refine gt (aA (x7 900 rfl _ (2^i) (by have:=s1.1.le;have:=s3.1.le;rw[dI];omega) oz) (be rfl rfl) aC rfl rfl) ?_;refine gs (dZ (.tmp rfl) (.const _) oz (show _=((2^i:Nat):Int) by rw[eP oz,hnn,eE]) rfl) ?_;refine gc (ry _ (2^i) (by have:=s4.1.le;have:=s5.1.le;rw[dI];omega) oz) ?_;refine gs (oE (.tmp rfl) rfl (by have:=s1.1.le;have:=s3.1.le;rw[length_map,dc (by rw[dI];omega)]) (.tmp rfl) T67 rfl T45 rfl rfl (by have:=s4.1.le;have:=s5.1.le;rw[length_map,dc (by rw[dI];omega)];show(2^i+2^i)*56<=140737488355328;omega) rfl rfl) ?_;refine ae ?_;rw[hrt,<- map_append];rfl
theorem GU(ts:LL)(m r:Nat)(ht:gq ts m r)(hm:m<=5)(R:List AV)(hR:∀j,j<m->R[j]?=some (nA (ts.getD j [])))(i n:Nat)(a:List Rat)(e:Nat)(hi:i+1<=m)(hnn:n=2^(i+1))(hal:a.length=2^(i+1))(ca:Cb e a)(hs:4*e+3*eB r i+r+1<4398046511104) :
  FP 278 [.agg [.lst 1 R],nA a,i64 n] (nA (mr ts i a)):=by
 have hp2:=Nat.two_pow_pos i;have hpi:2^i<=32:=bJ (b:=5) oz;have hps:2^(i+1)=2*2^i:=by rw[Nat.pow_succ];omega
 have n1:Nl i (a.take (2^i)):=.inr ⟨i,le_refl _,eQ hal⟩;have n2:Nl i (a.drop (2^i)):=.inr ⟨i,le_refl _,eX hal⟩;have nd:=ht.1 i oz;have cd:=ht.2.cb i;have s1:=jy hm ht (k:=i) (show i<=m by omega) oz n1 n1 ca.take ca.take;have s2:=jy hm ht (k:=i) (show i<=m by omega) oz n2 n2 ca.drop ca.drop;have s3:=jy hm ht (k:=i) (show i<=m by omega) oz s2.1 nd s2.2.2 cd;have w1:=ry a n oz oz;rw[show aM a n=a by unfold aM;rw[hnn,hal];simp]at w1;have pw:=qF n oz;rw[show jt n=i+1 by rw[hnn];exact(ky oz).1,show jr n=true by rw[hnn];exact(ky oz).2]at pw;refine ah func278 ?_;refine gc w1 ?_;refine gc pw ?_;refine gs (dZ (.tmp rfl) (.const _) oz (show _=((2^i:Nat):Int) by rw[eP oz,hnn,eE]) rfl) ?_;refine gs (cc (.tmp rfl) (.none _) (.some _ (.tmp rfl) oz) T67 rfl T45 rfl oz (by simp only[length_map];omega) rfl) ?_;refine gs (dZ (.tmp rfl) (.const _) oz (show _=((2^i:Nat):Int) by rw[eP oz,hnn,eE]) rfl) ?_;refine gs (cc (.tmp rfl) (.some _ (.tmp rfl) oz) (.none _) T67 rfl T45 rfl (by simp only[length_map];omega) oz rfl) ?_;refine gD ?_ (4,0);refine gW (Wk.of (sl:=[(3,some (.ptr 3 0)),(7,some (i64 ((i+1:Nat):Int))),(9,some (nA (a.take (2^i)))),(10,some (nA (a.drop (2^i))))]) (hp:=[(3,some (.box [.lst 1 R]))]) (.k (.k (.cons rfl (Sub.of (jL a (2^i))) (.cons rfl (Sub.of (kF a (2^i))) .nil)))) (.k .nil)) ?_;refine gc (yT ts m r ht hm R hR i i _ _ e e oz oz n1 n1 ca.take ca.take oz) ?_;refine gc (yT ts m r ht hm R hR i i _ _ e e oz oz n2 n2 ca.drop ca.drop oz) ?_;refine ga (show _=(i:Int) by rw[cU oz];omega) ?_;refine gi (hR i oz) ?_;refine gc (yT ts m r ht hm R hR i i _ _ _ _ oz oz s2.1 nd s2.2.2 cd oz) ?_;refine gc (BL _ (fun q hq=>s3.2.2.qs oz hq) (by have:=s3.1.le;omega)) ?_;refine gc (sQ _ _ (fun q hq=>s1.2.2.qs oz hq) (fun q hq=>s3.2.2.minus.qs oz hq) (by have:=s1.1.le;omega) (by have:=s3.1.le;rw[gz];omega)) ?_;refine gD ?_;refine ae ?_;rfl
theorem Ez(ts:LL)(m r:Nat)(ht:gq ts m r)(hm:m<=5)(hpos:∀j,j<m->0<=T.sgn (aj ts) j (aj ts j))(R:List AV)(hR:∀j,j<m->R[j]?=some (nA (ts.getD j [])))(j:Nat):∀(a:List Rat)(e:Nat),j<=m->Nl j a->Cb e a->sB r j e<4398046511104 ->
  FP 170 [.agg [.lst 1 R],nA a] (i64 (T.sgn (aj ts) j (ad j a))):=by
 induction j using Nat.strongRecOn
 rename_i j ih;intro a e hj ha ca hs;have hse:=mN r j e;obtain⟨s,hsa⟩:∃s,s=sh j (ad j a):=⟨_,rfl⟩
 have hsd:ad j s=ad j a:=by rw[hsa,br]
 have hsn:Nl j s:=by rw[hsa];exact eD j _
 have cs:Cb e s:=by rw[hsa];exact ca.sh ha
 have hls:=hsn.len5 oz;rw[<- hsd];refine ah func170 ?_;refine gc (hsa▸wd a oz ha) ?_;refine gl ?_;refine gC (fun t15=>?_) (fun t15=>?_)
 ·have h1 : s=[] := List.length_eq_zero_iff.1 (by have := t15;simp only[aa,beq_iff_eq]at this;omega);refine ae ?_;rw[h1,iz,T.sgn_zero];rfl
 have h1:s.length≠0:=by have:=t15;simp only[aa,beq_eq_false_iff_ne,ne_eq]at this;omega
 refine gl ?_;refine gC (fun t19=>?_) (fun t19=>?_)
 ·have h2 : s.length = 1 := by have := t19; simp only [aa, beq_iff_eq] at this; omega
  obtain⟨q,rfl⟩:=List.length_eq_one_iff.1 h2;refine gi rfl ?_;refine gc (yQ (rt q) (cs.qs oz (by simp:q∈[q])).ok) ?_;refine ae ?_;rw[lP,T.sgn_ofQ,bu]
 have h2:s.length≠1:=by have:=t19;simp only[aa,beq_eq_false_iff_ne,ne_eq]at this;omega
 obtain⟨i,hij,hsl⟩:∃i,i+1<=j/\s.length=2^(i+1):=by
  rcases me hsn with h |h |h
  ·exact absurd h h1
  ·exact absurd h h2
  ·exact h
 have hp2:=Nat.two_pow_pos i;have hpi:2^i<=32:=bJ (b:=5) oz;have hps:2^(i+1)=2*2^i:=by rw[Nat.pow_succ];omega
 have n1:Nl i (s.take (2^i)):=.inr ⟨i,le_refl _,eQ hsl⟩;have n2:Nl i (s.drop (2^i)):=.inr ⟨i,le_refl _,eX hsl⟩;have nd:=ht.1 i oz;have cd:=ht.2.cb i;obtain⟨nn,dn,cn⟩:=Nc hm ht oz hsl cs;have b1:sB r i (4*e+3*eB r i+r+1)<=sB r j e:=rZ r e hij;have b2:sB r i e<=sB r i (4*e+3*eB r i+r+1):=mL r i oz;have b3:sB r i r<=sB r i (4*e+3*eB r i+r+1):=mL r i oz;have b4:=mN r i (4*e+3*eB r i+r+1);have k1:=ih i oz (s.take (2^i)) e oz n1 cs.take oz;have k2:=ih i oz (s.drop (2^i)) e oz n2 cs.drop oz;have k3:=ih i oz _ r oz nd cd oz;have k4:=ih i oz _ _ oz nn cn oz
 have v3:T.sgn (aj ts) i (ad i (ts.getD i []))=0\/T.sgn (aj ts) i (ad i (ts.getD i []))=1:=by
  have h9:0<=T.sgn (aj ts) i (ad i (ts.getD i [])):=hpos i oz;have:=T.sgn_cases (aj ts) i (ad i (ts.getD i []));omega
 have hres:T.sgn (aj ts) j (ad j s)=T.sgn3 (T.sgn (aj ts) i (ad i (s.take (2^i)))) (T.sgn (aj ts) i (ad i (s.drop (2^i)))) (T.sgn (aj ts) i (ad i (ts.getD i []))) (T.sgn (aj ts) i (ad i (mr ts i s))):=by
  rw[po _ oz hij,dn];rfl
 rw[Nj v3]at hres;have v1:=T.sgn_cases (aj ts) i (ad i (s.take (2^i)));have v2:=T.sgn_cases (aj ts) i (ad i (s.drop (2^i)));have v4:=T.sgn_cases (aj ts) i (ad i (mr ts i s));have pw:=qF s.length oz;rw[show jt s.length=i+1 by rw[hsl];exact(ky oz).1,show jr s.length=true by rw[hsl];exact(ky oz).2]at pw;refine gc pw ?_;refine ga (show _=(i:Int) by rw[cU oz];omega) ?_;refine gi (hR i oz) ?_;refine gs (dZ (.tmp rfl) (.const _) oz (show _=((2^i:Nat):Int) by rw[eP oz,hsl,eE]) rfl) ?_;refine gs (cc (.tmp rfl) (.none _) (.some _ (.tmp rfl) oz) T67 rfl T45 rfl oz (by simp only[length_map];omega) rfl) ?_;refine gc (by have h9:=k1;rw[<- jL]at h9;exact h9) ?_;refine gs (dZ (.tmp rfl) (.const _) oz (show _=((2^i:Nat):Int) by rw[eP oz,hsl,eE]) rfl) ?_;refine gs (cc (.tmp rfl) (.some _ (.tmp rfl) oz) (.none _) T67 rfl T45 rfl (by simp only[length_map];omega) oz rfl) ?_;refine gc (by have h9:=k2;rw[<- kF]at h9;exact h9) ?_;refine gc k3 ?_;refine ga (vG v2 (.inr v3)) ?_;refine gD ?_;refine gC (fun t57=>?_) (fun t57=>?_)
 ·have e2:=xO t57;refine ae ?_;rw[hres,if_pos e2]
 have e2:=xg t57;refine gC (fun t60=>?_) (fun t60=>?_)
 ·have e3 : T.sgn (aj ts) i (ad i (s.take (2 ^ i))) = 0 := by simpa [aa] using t60
  refine ae ?_;rw[hres,if_neg e2,if_pos e3];rfl
 have e3:¬T.sgn (aj ts) i (ad i (s.take (2^i)))=0:=by simpa[aa]using t60
 refine gc (GU ts m r ht hm R hR i s.length s e oz hsl hsl cs oz) ?_;refine gc k4 ?_;refine ga (vG v1 v4) ?_;refine gD ?_;refine ae ?_;rw[hres,if_neg e2,if_neg e3];rfl
theorem Fb(rs:List (List Rt))(r:Nat)(h:TR rs r):FP 89 [cz rs] (i64 (aX rs)):=by
 have hll:=h.ll;have hr:=h.le;refine ah func89 ?_;refine gl ?_;refine gC (fun t9=>?_) (fun t9=>?_)
 ·have h5 : 5 < rs.length := by have := t9; simp only [aa, decide_eq_true_eq] at this; omega
  refine ae ?_;rw[zM h5];rfl
 have h5:rs.length<=5:=by have:=t9;simp only[aa,decide_eq_false_iff_not]at this;omega
 refine gl ?_;refine aI [1,11,12] [1] (fun(k:Nat)=>[(13,some (i64 k))]) (fun _=>[]) (fun k=>k<=rs.length/\∀j,j<k->gj rs j) (fun k=>rs.length-k) 0 ⟨zero_le _,fun j hj=>by omega⟩ ?_;rintro k ⟨hk,hj⟩ K1 J1;refine gC (fun t14=>?_) (fun t14=>?_)
 ·have hin : k < rs.length := by simpa [aa] using t14
  obtain⟨d,hd⟩:=ay hin;have hdm:=mem_of_getElem? hd;have hdl:=h.len d hdm;refine gi (az hd) ?_;refine gl ?_;refine gs (fC (.const _) (.tmp rfl) oz (lA oz) rfl) ?_;refine gC (fun t22=>?_) (fun t22=>?_)
  ·have h1 : d.length ≠ 2 ^ k := by have := t22; simp only [aa, bne_iff_ne, ne_eq] at this; omega
   refine ae ?_;rw[CK h5 hd hj h1];rfl
  have h1:d.length=2^k:=by have:=t22;simp only[aa,bne_eq_false_iff_eq]at this;omega
  have hnu:=Df k oz d (h.ok d hdm) hdl;refine gc hnu ?_;refine gC (fun t27=>?_) (fun t27=>?_)
  ·have h2:=kj t27;refine ae ?_;rw[B8 h5 hd hj h1 h2]
  have h2:=j8 t27;have hts:=Cp (ts:=llq rs) (fun j hjk=>(hj j hjk).nl) h.rb;have hq:=uc h2 (h.ok d hdm);have hcb:Cb r (lq d):=by have:=h.rb.cb k;rw[qL,getD_eq_getElem?_getD,hd]at this;exact this
  have hsg:FP 170 [cz rs,nR d] (i64 (T.sgn (aj (llq rs)) k (ad k (lq d)))):=by
   have h9:=Ez ((llq rs).take k) k r hts oz (fun j hjk=>by rw[T.sgn_congr j (fun i hi=>oF (show i<k by omega)),oF hjk];exact(hj j hjk).2.2) (rs.map nR) (fun j hjk=>LD h.ok (show k<=rs.length by omega) hj hjk) k (lq d) r (le_refl _) hq.2 hcb (l0 (le_refl k) (by have:=h.three;omega) hr (by have:=iZ k;omega));rw[T.sgn_congr k (fun j hjk=>oF hjk)]at h9;rw[hq.1,ef];rw[<- hq.1];exact h9
  refine gc hsg ?_;refine gC (fun t32=>?_) (fun t32=>?_)
  ·have h3 : T.sgn (aj (llq rs)) k (ad k (lq d)) < 0 := by simpa [aa] using t32
   refine ae ?_;rw[Eo h5 hd hj h1 h2 h3];rfl
  have h3:¬T.sgn (aj (llq rs)) k (ad k (lq d))<0:=by simpa[aa]using t32
  refine ga aG ?_;exact aE J1 (k+1) ⟨hin,fun j hjk=>by rcases lt_or_ge j k with h9 |h9;exact hj j h9;(have:j=k:=by omega);subst this;exact Ew hd h1 h2 h3⟩
 have hin:k=rs.length:=by have:rs.length<=k:=(by simpa[aa]using t14);omega
 subst hin;refine ae ?_;rw[Bm h5 hj];rfl
theorem KF(rs:List (List Rt))(r:Nat)(h:TR rs r)(xs:List (List Rt))(hx:∀a∈xs,(∀x∈a,x.ok)/\a.length<=281474976710656)(hl:xs.length<=281474976710656):FP 169 [cz rs,.lst 1 (xs.map nR)] (i64 (bc rs xs)):=by
 refine ah func169 ?_;refine gc (Fb rs r h) ?_;refine gC (fun t12=>?_) (fun t12=>?_)
 ·have h1:=kj t12;refine ae ?_;rw[wR h1]
 have h1:=j8 t12;have h5:rs.length<=5:=by have:=(cH h h1).1.five;rwa [length_map]at this
 refine gl ?_;refine aI [2,14,15] [2] (fun(i:Nat)=>[(16,some (i64 i))]) (fun _=>[]) (fun i=>i<=xs.length/\∀x∈xs.take i,bF rs.length x=0) (fun i=>xs.length-i) 0 ⟨zero_le _,fun x hx=>by simp at hx⟩ ?_;rintro i ⟨hi,hj⟩ K1 J1;refine gC (fun t17=>?_) (fun t17=>?_)
 ·have hin : i < xs.length := by simpa [aa] using t17
  obtain⟨a,ha⟩:=ay hin;have hok:=hx a (mem_of_getElem? ha);refine gi (az ha) ?_;refine gl ?_;refine gc (Df rs.length h5 a hok.1 hok.2) ?_;refine gC (fun t26=>?_) (fun t26=>?_)
  ·have h2:=kj t26;refine ae ?_;rw[sZ h1 ha hj h2]
  have h2:=j8 t26;refine ga aG ?_;exact aE J1 (i+1) ⟨hin,fun x hx=>by rw[cR ha]at hx;rcases List.mem_append.1 hx with h9 |h9;exact hj x h9;(rw[List.mem_singleton.1 h9];exact h2)⟩
 have hin:i=xs.length:=by have:xs.length<=i:=(by simpa[aa]using t17);omega
 subst hin;rw[take_length]at hj;refine ae ?_;rw[nv h1 hj];rfl
theorem LW(rs:List (List Rt))(r:Nat)(h:TR rs r)(a b:List Rt)(e f:Nat)(ha:NR a e)(hb:NR b f)(he:e+f+1<=lm rs.length) :
  FP 83 [cz rs,nR a,nR b] (.tup [i64 (if bc rs [a,b]=0 then T.sgn (aj (llq rs)) rs.length (T.add rs.length (ad rs.length (lq a)) (T.neg rs.length (ad rs.length (lq b))))else 0),i64 (bc rs [a,b])]):=by
 have hr:=h.le;have hlm:=iT rs.length;refine ah func83 ?_;refine gc (KF rs r h [a,b] (pJ ha hb) (by simp)) ?_;refine gC (fun t15=>?_) (fun t15=>?_) (st2:=(77777,0))
 ·have h1:=kj t15;refine bi ?_;rw[if_neg h1];rfl
 have h1:=j8 t15;obtain⟨h2,h3⟩:=kR h1;obtain⟨tw,e0⟩:=cH h h2;obtain⟨e1,na⟩:=ha.num (h3 a (by simp));obtain⟨e2,nb⟩:=hb.num (h3 b (by simp));have hlen:(llq rs).length=rs.length:=length_map _;have h5:rs.length<=5:=by have:=tw.five;omega
 have hla:=na.len5 h5;have hlb:=nb.len5 h5;have htw:=tw.ok;rw[hlen]at htw;have qa:∀q∈lq a,Qs q:=fun q hq=>ha.cb.qs oz hq
 have qb:∀q∈lq b,Qs q:=fun q hq=>hb.cb.qs oz hq
 have qm:∀q∈ch (lq b),Qs q:=fun q hq=>hb.cb.minus.qs oz hq
 have np:=oi na (nH nb);have hsg:=Ez (llq rs) rs.length r htw h5 (fun j hj=>tw.pos j oz) ((llq rs).map nA) (fun j hj=>sF oz) rs.length _ _ (le_refl _) np (ha.cb.plus hb.cb.minus) (l0 (le_refl rs.length) (by have:=tw.three;omega) hr oz);refine gW (Wk.of (sl:=[(1,some (nA (lq a))),(2,some (nA (lq b))),(3,some (.ptr 3 0)),(8,some (i64 (bc rs [a,b])))]) (hp:=[(3,some (.box [.lst 1 ((llq rs).map nA)]))]) (.cons rfl (Sub.of e1) (.cons rfl (Sub.of e2) (.k (.k .nil)))) (.cons rfl (BlkSub.bL (.cons (.of (ko e0)) .nil) rfl) .nil)) ?_;refine gc (BL _ qb oz) ?_;refine gc (sQ _ _ qa qm oz (by rw[gz];omega)) ?_;refine gc hsg ?_;refine gD ?_;refine bi ?_;rw[if_pos h1,h1,iw,kT];rfl
theorem IG(x:Rt)(hx:x.ok)(hs:Qs x.q):FP 37 [x.av] (nA (sh 0 (x.q:Rat))):=by
 have hadd:=wJ x (rt 0) hx Qs.zero.ok;rw[ri]at hadd;refine ah func37 ?_;refine gc (yQ x hx) ?_;refine gC (fun t5=>?_) (fun t5=>?_)
 ·have h0 : x.q=0 := mT (by simpa[aa]using t5);refine gR ?_;exact jb (by rw[h0];exact Sub.nil _ _ _)
 have h0:x.q≠0:=fun h=>by rw[h]at t5;cases t5
 refine gc (Con.sA (.cons (.refl _) (.cons gQ .nil)) hadd) ?_;refine ae ?_;have:sh 0 (x.q:Rat)=[x.q]:=if_neg h0;rw[this];rfl
theorem yJ{p q:Rat}(hp:Qs p)(hq:Qs q):FP 233 [qA p,qA q] (qA (p+q)):=by
 have h:=mS (rt p) (rt q) hp.ok hq.ok;rw[bu,bu]at h;exact h
theorem tB{p q:Rat}(hp:Qs p)(hq:Qs q):FP 252 [qA p,qA q] (qA (p-q)):=by
 have h:=Mx (rt p) (rt q) hp.ok hq.ok;rw[bu,bu]at h;exact h
theorem qr{p q:Rat}(hp:Qs p)(hq:Qs q):FP 274 [qA p,qA q] (qA (p*q)):=by
 have h:=B5 (rt p) (rt q) hp.ok hq.ok;rw[bu,bu]at h;exact h
theorem PP{p q:Rat}(hp:Qs p)(hq:Qs q):FP 388 [qA p,qA q] (.tup [qA (p/q),ba (if q=0 then 8 else 0)]):=by
 have h:=FY (rt p) (rt q) hp.ok hq.ok;rw[bu,bu]at h;exact h
theorem Lu{p:Rat}(hp:Qs p):FP 216 [qA p] (i64 (bt p)):=by
 have h:=tK (rt p) hp.ok;rw[bu]at h;exact h
theorem xe(x:Tn)(hx:x.t.ok):FP 119 [x.av] (ba x.err):=by
 refine ah func119 ?_;refine gc (qT x.t hx) ?_;refine bw (fun _=>(tK x.t hx)) ?_;refine gC (fun t16=>?_) (fun t16=>?_)
 ·have h0:=Tn.err_yes t16;refine ae ?_;rw[h0];rfl
 have h0:=Tn.err_no t16;refine ae ?_;rw[h0];rfl
theorem Co{p q:Rat}(hp:Qs p)(hq:Qs q):FP 349 [qA p,qA q] (qA (p/q)):=by
 refine ah func349 ?_;refine gc (PP hp hq) ?_;refine gC (fun t14=>?_) (fun t14=>?_)
 ·have h0:q=0:=by
   have:=cq t14
   by_cases h:q=0
   ·exact h
   ·rw[if_neg h]at this;exact absurd rfl this
  refine gR ?_;exact jb (by rw[h0,Pc];exact gQ)
 refine ae ?_;rfl
theorem Gv(half:Bool){t:Rat}{e:Nat}(ht:Qb e t)(he:e<=1000000):FP 245 [Tn.av ⟨rt t,half⟩] (.tup [qA (fI half t),qA (fM half t)]):=by
 have qt:Qs t:=ht.qs oz;have m2:=ht.mul ht;have one:Qb 1 (((1:Int):Rat)):=Qb.one;have d:=one.add m2;refine ah func245 ?_;refine gC (fun t8=>?_) (fun t8=>?_)
 ·have h0:half=true:=t8;refine gc (lN (-1) oz) ?_;refine gR ?_;exact cT (by subst h0;exact Sub.tup (.cons (.refl _) (.cons gQ .nil)))
 have h0:half=false:=t8;refine gc (lN 1 oz) ?_;refine gc (qr qt qt) ?_;refine gD ?_;refine gc (yJ (one.qs oz) (m2.qs oz)) ?_;refine gc (tB (one.qs oz) (m2.qs oz)) ?_;refine gc (Co ((one.sub m2).qs oz) (d.qs oz)) ?_;refine gc (yJ qt qt) ?_;refine gc (Co ((ht.add ht).qs oz) (d.qs oz)) ?_;refine gD ?_;refine bi ?_;subst h0;rfl
theorem BQ(x:Tn)(hx:x.t.ok){e:Nat}(hq:Qb e x.t.q)(he:e<=1000000):FP 139 [x.av] (.tup [qA (if x.err=0 then fI x.half x.t.q else 0),ba x.err]):=by
 refine ah func139 ?_;refine gc (xe x hx) ?_;refine gC (fun t10=>?_) (fun t10=>?_)
 ·have h1:=cq t10;refine gR ?_;exact cT (by rw[if_neg h1];exact Sub.tup (.cons gQ (.cons (.refl _) .nil)))
 have h1:=b9 t10;have hd:=Gv x.half hq he;rw[<- Rt.eq_rt hx (Tn.ok_valid h1)]at hd;refine gc hd ?_;refine bi ?_;rw[if_pos h1,h1];rfl
theorem KG(x:Tn)(hx:x.t.ok){e:Nat}(hq:Qb e x.t.q)(he:e<=1000000):FP 140 [x.av] (.tup [qA (if x.err=0 then fM x.half x.t.q else 0),ba x.err]):=by
 refine ah func140 ?_;refine gc (xe x hx) ?_;refine gC (fun t10=>?_) (fun t10=>?_)
 ·have h1:=cq t10;refine gR ?_;exact cT (by rw[if_neg h1];exact Sub.tup (.cons gQ (.cons (.refl _) .nil)))
 have h1:=b9 t10;have hd:=Gv x.half hq he;rw[<- Rt.eq_rt hx (Tn.ok_valid h1)]at hd;refine gc hd ?_;refine bi ?_;rw[if_pos h1,h1];rfl
theorem v6{ts:LL}{r e f:Nat}(tw:Tw ts r){a b:List Rat}(ha:Nm ts.length e a)(hb:Nm ts.length f b)(he:e+f<=lm ts.length) :
  FP 329 [aN ts,nA a,nA b] (.tup [nA (sh ts.length (T.add ts.length (ad ts.length a) (ad ts.length b))),.v .nilIface]):=by
 have h:=OH (ts.map (List.map rt)) r tw.tr (a.map rt) (b.map rt) e f (ha.rt oz) (hb.rt oz) (by rw[length_map];exact he);have h0:bc (ts.map (List.map rt)) [a.map rt,b.map rt]=0:=qo tw ha hb;rw[h0,if_pos rfl,jw,ef,ef,ic,ic,length_map]at h;exact h
theorem mV{ts:LL}{r e f:Nat}(tw:Tw ts r){a b:List Rat}(ha:Nm ts.length e a)(hb:Nm ts.length f b)(he:e+f<=lm ts.length) :
  FP 163 [aN ts,nA a,nA b] (.tup [nA (sh ts.length (T.add ts.length (ad ts.length a) (T.neg ts.length (ad ts.length b)))),.v .nilIface]):=by
 have h:=LR (ts.map (List.map rt)) r tw.tr (a.map rt) (b.map rt) e f (ha.rt oz) (hb.rt oz) (by rw[length_map];exact he);have h0:bc (ts.map (List.map rt)) [a.map rt,b.map rt]=0:=qo tw ha hb;rw[h0,if_pos rfl,jw,ef,ef,ic,ic,length_map]at h;exact h
theorem xJ{ts:LL}{r e f:Nat}(tw:Tw ts r){a b:List Rat}(ha:Nm ts.length e a)(hb:Nm ts.length f b)(he:e+f<=lm ts.length) :
  FP 164 [aN ts,nA a,nA b] (.tup [nA (sh ts.length (T.mul (aj ts) ts.length (ad ts.length a) (ad ts.length b))),.v .nilIface]):=by
 have h:=Px (ts.map (List.map rt)) r tw.tr (a.map rt) (b.map rt) e f (ha.rt oz) (hb.rt oz) (by rw[length_map];exact he);have h0:bc (ts.map (List.map rt)) [a.map rt,b.map rt]=0:=qo tw ha hb;rw[h0,if_pos rfl,jw,ef,ef,oO,ic,ic,length_map]at h;exact h
theorem DR{ts:LL}{r e:Nat}(tw:Tw ts r){a:List Rat}(ha:Nm ts.length e a)(he:e<=lm ts.length) :
  FP 267 [aN ts,nA a] (.tup [i64 (T.sgn (aj ts) ts.length (ad ts.length a)),.v .nilIface]):=by
 have h:=IR (ts.map (List.map rt)) r tw.tr (a.map rt) e (ha.rt he) (by rw[length_map];exact he);have h0:bc (ts.map (List.map rt)) [a.map rt]=0:=wH tw ha;rw[h0,if_pos rfl,jw,ef,oO,ic,length_map]at h;exact h
theorem Kd{ts:LL}{r e f:Nat}(tw:Tw ts r){a b:List Rat}(ha:Nm ts.length e a)(hb:Nm ts.length f b)(he:e+f+1<=lm ts.length) :
  FP 83 [aN ts,nA a,nA b] (.tup [i64 (T.sgn (aj ts) ts.length (T.add ts.length (ad ts.length a) (T.neg ts.length (ad ts.length b)))),i64 0]):=by
 have h:=LW (ts.map (List.map rt)) r tw.tr (a.map rt) (b.map rt) e f (ha.rt oz) (hb.rt oz) (by rw[length_map];exact he);have h0:bc (ts.map (List.map rt)) [a.map rt,b.map rt]=0:=qo tw ha hb;rw[h0,if_pos rfl,jw,ef,ef,oO,ic,ic,length_map]at h;exact h
theorem xw{ts:LL}{r e:Nat}(tw:Tw ts r){a:List Rat}(ha:Nm ts.length e a)(he:e<=lm ts.length) :
  FP 138 [aN ts,nA a] (.tup [nA (sh ts.length (T.neg ts.length (ad ts.length a))),.v .nilIface]):=by
 have h:=xZ (ts.map (List.map rt)) r tw.tr (a.map rt) e (ha.rt he) (by rw[length_map];exact he);have h0:bc (ts.map (List.map rt)) [a.map rt]=0:=wH tw ha;rw[h0,if_pos rfl,jw,ef,ic,length_map]at h;exact h
theorem Nn{ts:LL}{r:Nat}(tw:Tw ts r):FP 121 [aN ts] (.v .nilIface):=by
 have h:=my (ts.map (List.map rt)) r tw.tr;rw[tw.chk,jw]at h;exact h
theorem mz{q:Rat}(h:Qs q):FP 126 [qA q] (nA (sh 0 (q:Rat))):=by
 have h1:=yv (rt q) h.ok (by rw[bu];exact h);rw[bu]at h1;exact h1
theorem Ec{q:Rat}(h:Qs q):FP 37 [qA q] (nA (sh 0 (q:Rat))):=by
 have h1:=IG (rt q) h.ok (by rw[bu];exact h);rw[bu]at h1;exact h1
theorem uu{ts:LL}{r e:Nat}(tw:Tw ts r)(ls:LL)(hl:∀l∈ls,Nm ts.length e l)(he:e<=lm ts.length)(hn:ls.length<=1000):FP 177 [aN ts,.lst 1 (ls.map nA)] (.v .nilIface):=by
 refine ah func177 ?_;refine gc (Nn tw) ?_;refine gC (fun t13=>?_) (fun t13=>?_) (st1:=(3,0));cases t13;refine gl ?_;refine aI [2,15,16] [2] (fun(i:Nat)=>[(17,some (i64 i))]) (fun _=>[]) (fun i=>i<=ls.length) (fun i=>ls.length-i) 0 (zero_le _) ?_;rintro i hi K1 J1;refine gC (fun t18=>?_) (fun t18=>?_)
 ·have hin : i < ls.length := by simpa [aa] using t18
  obtain⟨l,hll⟩:=ay hin;have hok:=hl l (mem_of_getElem? hll);refine gi (az hll) ?_;refine gc (xw tw hok he) ?_;refine gC (fun t28=>?_) (fun t28=>?_) (st1:=(9,0));cases t28;refine ga aG ?_;exact aE J1 (i+1) hin
 have hin:i=ls.length:=by have:ls.length<=i:=(by simpa[aa]using t18);omega
 refine ae ?_
 first |rfl |(simp;done)
theorem qK{ts:LL}{r e:Nat}(tw:Tw ts r)(ps:List (List Rat×List Rat))(hl:∀p∈ps,Nm ts.length e p.1/\Nm ts.length e p.2)(he:e<=lm ts.length)(hn:ps.length<=500):FP 122 [aN ts,.lst 2 (ps.map fun p=>aJ p.1 p.2)] (.v .nilIface):=by
 refine ah func122 ?_;refine gl ?_;refine gW (Wk.virt 900 1 rfl) ?_;refine aI [2,8,9] [2] (fun(i:Nat)=>[(5,some (.ms 900 1 0 (2*i))),(10,some (i64 i))]) (fun i=>[(900,some (.row 1 ((gG (ps.take i)).map nA)))]) (fun i=>i<=ps.length) (fun i=>ps.length-i) 0 (zero_le _) ?_;rintro i hi K1 J1;refine gC (fun t11=>?_) (fun t11=>?_) (st2:=(7,0))
 ·have hin : i < ps.length := by simpa [aa] using t11
  obtain⟨p,hp⟩:=ay hin;have hfl:(gG (ps.take i)).length=2*i:=by rw[uQ,length_take];omega
  refine gi (az hp) ?_;refine gs (bU (.tmp rfl) rfl (by rw[length_map,hfl]) (.tmp rfl) T35 rfl T67 rfl rfl (by simp;omega) rfl rfl) ?_ (6,0);refine gW (Wk.of (sl:=[(2,some (.ptr 2 0)),(5,some (.ms 20 1 0 (2*i+2))),(8,some (.lst 2 (ps.map fun p=>aJ p.1 p.2))),(9,some (i64 ps.length)),(10,some (i64 i))]) (hp:=[(2,some (.box [.lst 1 (ts.map nA)])),(20,some (.row 1 ((gG (ps.take (i+1))).map nA)))]) aR (.k (.cons rfl (BlkSub.of (by rw[cR hp,C6,map_append];rfl)) .nil))) ?_ (6,0);refine gW (Wk.rk (k:=20) (d:=900) rfl rfl) ?_;refine ga aG ?_;exact aE J1 (i+1) hin
 have hin:i=ps.length:=by have:ps.length<=i:=(by simpa[aa]using t11);omega
 subst hin;refine gW ((Wk.freeze (k:=900) rfl).trans<|Wk.of (sl:=[(2,some (.ptr 2 0)),(5,some (.lst 1 ((gG ps).map nA)))]) (hp:=[(2,some (.box [.lst 1 (ts.map nA)]))]) (.k (.cons rfl (Sub.of (by rw[bB (by rw[length_map,uQ,length_take];omega),take_length])) .nil)) (.k .nil)) ?_;refine gc (uu tw (gG ps) (F0 hl) he (by rw[uQ];omega)) ?_;refine ae ?_
 first |rfl |(simp;done)
theorem v9(R:List AV)(a:List Rat):Con prog 328 [.ptr 1000 0,nA a,.v .nilIface] [(1000,some (.box [.lst 1 R,.v .nilIface]))] (nA a) [(1000,some (.box [.lst 1 R,.v .nilIface]))]:=by
 refine gF func328 (fun k z h=>bf h) ?_;refine gC (fun t11=>?_) (fun t11=>?_) (st2:=(77777,0))
 ·refine gR ?_;exact ak.keep (aZ rfl)
 cases t11
theorem sH{ts:LL}{r e f:Nat}(tw:Tw ts r){a b:List Rat}(ha:Nm ts.length e a)(hb:Nm ts.length f b)(he:e+f<=lm ts.length) :
  Con prog 230 [.ptr 1000 0,nA a,nA b] [(1000,some (fV ts))] (nA (sh ts.length (T.add ts.length (ad ts.length a) (ad ts.length b)))) [(1000,some (fV ts))]:=by
 refine gF func230 (fun k z h=>bf h) ?_;refine gc (v6 tw ha hb he) ?_;refine gt (aA (v9 _ _) (aB rfl rfl rfl) aC rfl rfl) ?_;refine gR ?_;exact ak.keep (aZ rfl)
theorem sY{ts:LL}{r e f:Nat}(tw:Tw ts r){a b:List Rat}(ha:Nm ts.length e a)(hb:Nm ts.length f b)(he:e+f<=lm ts.length) :
  Con prog 229 [.ptr 1000 0,nA a,nA b] [(1000,some (fV ts))] (nA (sh ts.length (T.add ts.length (ad ts.length a) (T.neg ts.length (ad ts.length b))))) [(1000,some (fV ts))]:=by
 refine gF func229 (fun k z h=>bf h) ?_;refine gc (mV tw ha hb he) ?_;refine gt (aA (v9 _ _) (aB rfl rfl rfl) aC rfl rfl) ?_;refine gR ?_;exact ak.keep (aZ rfl)
theorem jE{ts:LL}{r e f:Nat}(tw:Tw ts r){a b:List Rat}(ha:Nm ts.length e a)(hb:Nm ts.length f b)(he:e+f<=lm ts.length) :
  Con prog 231 [.ptr 1000 0,nA a,nA b] [(1000,some (fV ts))] (nA (sh ts.length (T.mul (aj ts) ts.length (ad ts.length a) (ad ts.length b)))) [(1000,some (fV ts))]:=by
 refine gF func231 (fun k z h=>bf h) ?_;refine gc (xJ tw ha hb he) ?_;refine gt (aA (v9 _ _) (aB rfl rfl rfl) aC rfl rfl) ?_;refine gR ?_;exact ak.keep (aZ rfl)
theorem F9{ts:LL}{r e f:Nat}(tw:Tw ts r){a b c d:List Rat}(ha:Nm ts.length e a)(hb:Nm ts.length e b)(hc:Nm ts.length f c)(hd:Nm ts.length f d)(he:2*(e+f+kB r ts.length)<=lm ts.length) :
  Con prog 125 [.ptr 1000 0,aJ a b,aJ c d] [(1000,some (fV ts))] (nA (sh ts.length (nG ts (ad ts.length a) (ad ts.length b) (ad ts.length c) (ad ts.length d)))) [(1000,some (fV ts))]:=by
 refine gF func125 (fun k z h=>bf h) ?_;refine gt (aA (jE tw ha hc oz) (aB rfl rfl rfl) aC rfl rfl) ?_;refine gt (aA (jE tw hb hd oz) (aB rfl rfl rfl) aC rfl rfl) ?_;refine gt (aA (vu▸sH tw (ha.mul tw rfl hc) (hb.mul tw rfl hd) oz) (aB rfl rfl rfl) aC rfl rfl) ?_;refine gD ?_;refine gR ?_;exact ak.keep (aZ rfl)
theorem Hx{ts:LL}{r e f:Nat}(tw:Tw ts r){a b c d:List Rat}(ha:Nm ts.length e a)(hb:Nm ts.length e b)(hc:Nm ts.length f c)(hd:Nm ts.length f d)(he:2*(e+f+kB r ts.length)<=lm ts.length) :
  Con prog 162 [.ptr 1000 0,aJ a b,aJ c d] [(1000,some (fV ts))] (nA (sh ts.length (oU ts (ad ts.length a) (ad ts.length b) (ad ts.length c) (ad ts.length d)))) [(1000,some (fV ts))]:=by
 refine gF func162 (fun k z h=>bf h) ?_;refine gt (aA (jE tw ha hd oz) (aB rfl rfl rfl) aC rfl rfl) ?_;refine gt (aA (jE tw hb hc oz) (aB rfl rfl rfl) aC rfl rfl) ?_;refine gt (aA (yn▸sY tw (ha.mul tw rfl hd) (hb.mul tw rfl hc) oz) (aB rfl rfl rfl) aC rfl rfl) ?_;refine gD ?_;refine gR ?_;exact ak.keep (aZ rfl)
def T.inv(r:(k:Nat)->T k):(k:Nat)->T k->T k
  |0,q=>(1:Rat)/q
  |k+1,x =>
    if T.isZ k x.2=true then(T.inv r k x.1,T.zero k)
    else if T.sgn r k (T.norm r k x)=0 then(T.inv r k (T.add k x.1 x.1),T.zero k)
    else(T.mul r k x.1 (T.inv r k (T.norm r k x)),T.mul r k (T.neg k x.2) (T.inv r k (T.norm r k x)))
theorem T.inv_low(r:(k:Nat)->T k)(k:Nat)(x:T k):T.inv r (k+1) (x,T.zero k)=(T.inv r k x,T.zero k):=by
 have h:=(T.isZ_iff k (T.zero k)).2 rfl
 conv=>lhs;unfold T.inv
 simp only[if_pos h]
theorem tZ(r:(k:Nat)->T k){i j:Nat}{s L:List Rat}(hs:s.length<=2^i)(hL:L.length<=2^i)(h:ad i L=T.inv r i (ad i s))(hij:i<=j):ad j L=T.inv r j (ad j s):=by
  induction j with
  | zero => have : i = 0 := by omega
            subst this;exact h
  |succ j ih =>
    by_cases h':i=j+1
    · rw[<- h'];exact h
    · rw[gf (le_trans hs (bJ oz)),gf (le_trans hL (bJ oz)),T.inv_low,ih oz]
def iB(r:Nat):Nat->Nat->Nat
  |0,e=>e
  |j+1,e=>e+iB r j (4*e+3*eB r j+r+1)+eB r (j+1)
theorem vr(r:Nat):∀j e,e<=iB r j e
 |0,e=>le_refl _
 |j+1,e=>by simp only[iB];omega
theorem ui(r:Nat):∀j {e f:Nat},e<=f->iB r j e<=iB r j f
 |0,e,f,h=>h
 |j+1,e,f,h=>by
  have:=ui r j (e:=4*e+3*eB r j+r+1) (f:=4*f+3*eB r j+r+1) oz;simp only[iB];omega
theorem Hz(r j e:Nat):iB r j e<=iB r (j+1) e:=by
 have:=ui r j (e:=e) (f:=4*e+3*eB r j+r+1) oz;simp only[iB];omega
theorem xC(r e:Nat){i j:Nat}(h:i<=j):iB r i e<=iB r j e:=by
  induction j with
  | zero => have : i = 0 := by omega
            subst this;exact le_refl _
  |succ j ih =>
    by_cases hij:i=j+1
    · rw[hij];exact le_refl _
    · exact le_trans (ih oz) (Hz r j e)
theorem Qx(r e:Nat){j:Nat}(h:j<=1):iB r j e<=5*e+2*eB r j:=by
 match j,h with
 |0,_=>simp only[iB,eB];omega
 |1,_=>simp only[iB,eB];omega
theorem G5{r:(k:Nat)->T k}{n:Nat}(h:Sg (E r n) (sg r n))(hd:0<=sg r n (bg r n)){x y:E r n}(hz:sg r (n+1) (dm x y)≠0)(hN:sg r n (aQ x y)=0):sg r n (x+x)≠0:=by
 have hx:sg r n x≠0:=by
  intro hx;rw[jK,hN,hx]at hz;have h1:sg r n (x*x)=0:=by rw[h.mul,hx];simp
  have h2:=h.zadd (y:=-(y*y*bg r n)) h1;unfold aQ at hN;rw[h2,h.neg,h.mul,h.mul]at hN;unfold T.sgn3 at hz;have c1:=h.cs y;have c2:=h.cs (bg r n);rcases c1 with e |e |e <;> rcases c2 with e' |e' |e' <;> rw[e,e']at hN <;> rw[e,e']at hz <;> first |omega |(simp at hz) |(simp at hN)
 rcases h.cs x with e |e |e
 ·have := h.padd (x := -x) (y := -x) (by rw[h.neg,e];rfl) (by rw[h.neg,e];decide);rw[show -x+-x=-(x+x) by grind,h.neg]at this;omega
 ·exact absurd e hx
 ·have:=h.padd (x:=x) (y:=x) e oz;omega
theorem Cb.inv1{e:Nat}{q:Rat}(h:Cb e [q])(hq:q≠0):Cb e [(1:Rat)/q]:=by
 obtain⟨D,N,⟨h0,h1⟩,h2,h3⟩:=h;obtain⟨n,hn,hl⟩:=h1 q (by simp)
 have hD:((D:Int):Rat)≠0:=by
  intro h9;have:(D:Int)=0:=Rat.intCast_eq_zero_iff.1 h9;omega
 have hn0:n≠0:=by
  rintro rfl;rw[show((0:Int):Rat)=0 from rfl]at hn;rcases Rat.mul_eq_zero.1 hn with h9 |h9
  ·exact hq h9
  ·exact hD h9
 have hnq:((n:Int):Rat)≠0:=fun h9=>hn0 (Rat.intCast_eq_zero_iff.1 h9)
 refine⟨n.natAbs,D,⟨by omega,?_⟩,le_trans hl h3,h2⟩;intro x hx;rw[List.mem_singleton.1 hx];have key:(1:Rat)/q*(n:Rat)=((D:Int):Rat):=by rw[<- hn];grind
 rcases Int.natAbs_eq n with e9 |e9
 ·refine⟨D,?_,by simp⟩;rw[<- e9];exact key
 ·refine ⟨-(D : Int), ?_, by simp⟩;rw [Rat.intCast_neg,<- key]
  conv=>rhs;rw[e9]
  rw[Rat.intCast_neg];grind
theorem ET{e n:Nat}{s:List Rat}(h:Cb e s):Cb e (dV (s.take n) (ch (s.drop n)) n):=by
 obtain⟨D,N,h1,h2,h3⟩:=h;exact⟨D,N,(h1.sub (fun q hq=>mem_of_mem_take hq)).join (h1.sub (fun q hq=>List.mem_of_mem_drop hq)).minus,h2,h3⟩
theorem CH:∀{j i:Nat}{x:T j},(sh j x).length=2^(i+1)->i+1<=j->T.isZ i (ad i ((sh j x).drop (2^i)))=false
 |0,i,x,_,h=>by omega
 |j+1,i,x,hl,h=>by
  cases hz:T.isZ j x.2
  ·have h1:=KC hz;rw[h1]at hl
   have e:i=j:=by
    rcases Nat.lt_trichotomy i j with h9 |h9 |h9
    ·have := Nat.pow_lt_pow_right (a := 2) oz (show i+1<j+1 by omega);omega
    ·exact h9
    ·omega
   subst e;have h2:ad (i+1) (sh (i+1) x)=x:=br (i+1) x;have h3:ad i ((sh (i+1) x).drop (2^i))=x.2:=congrArg Prod.snd h2;rw[h3];exact hz
  ·have h1:sh (j+1) x=sh j x.1:=by
    conv=>lhs;unfold sh
    rw[if_pos hz]
   rw[h1]at hl ⊢;have h2:=(eD j x.1).le
   have h3:i+1<=j:=by
    rcases lt_or_ge j (i+1)with h9 |h9
    ·have:=Nat.pow_lt_pow_right (a:=2) oz h9;omega
    ·exact h9
   exact CH hl h3
theorem Ni(r:(k:Nat)->T k){i:Nat}{x:T (i+1)}(hz:T.isZ i x.2=false)(h0:T.sgn r i (T.norm r i x)=0):T.inv r (i+1) x=(T.inv r i (T.add i x.1 x.1),T.zero i):=by
 conv=>lhs;unfold T.inv
 rw[if_neg (by rw[hz];decide),if_pos h0]
theorem GV(r:(k:Nat)->T k){i:Nat}{x:T (i+1)}(hz:T.isZ i x.2=false)(h0:T.sgn r i (T.norm r i x)≠0) :
  T.inv r (i+1) x=(T.mul r i x.1 (T.inv r i (T.norm r i x)),T.mul r i (T.neg i x.2) (T.inv r i (T.norm r i x))):=by
 conv=>lhs;unfold T.inv
 rw[if_neg (by rw[hz];decide),if_neg h0]
theorem mul_low(r:(k:Nat)->T k)(i:Nat)(x y w:T i):T.mul r (i+1) (x,y) (w,T.zero i)=(T.mul r i x w,T.mul r i y w):=by
 show(T.add i (T.mul r i x w) (T.mul r i (T.mul r i y (T.zero i)) (r i)),T.add i (T.mul r i x (T.zero i)) (T.mul r i y w))=_;rw[T.mul_zero,T.zero_mul,T.mul_zero,T.add_zero,T.zero_add]
theorem vt{n e:Nat}{l:List Rat}(h:Nm n e l)(he:e<=4398046511103):NR (l.map rt) e:=by
 refine⟨?_,by have:=h.nl.len5 h.five;rw[length_map];omega,by rw[ic];exact h.cb⟩;intro x hx;obtain⟨q,hq,rfl⟩:=List.mem_map.1 hx;exact(h.cb.qs oz hq).ok
theorem H3{ts:LL}{j e:Nat}{a:List Rat}{q:Rat}(h5:j<=5)(ha:Nl j a)(ca:Cb e a)(he:e<4398046511104)(hs:sh j (ad j a)=[q])(hq:q≠0) :
  FP 356 [aN ts,nA a] (nA [1/q]):=by
 have qa:∀q∈a,Qs q:=fun q hq=>ca.qs he hq
 have cs:=ca.sh ha;rw[hs]at cs;have qq:Qs q:=cs.qs he (by simp);have hsh:=jX a h5 ha qa;rw[hs]at hsh;have hdv:=FY (rt 1) (rt q) (Qb.one.qs oz).ok qq.ok;rw[bu,bu,if_neg hq]at hdv;refine ah func356 ?_;refine gc hsh ?_;refine gl ?_;refine gC (fun t13=>?_) (fun t13=>?_) (st2:=(77777,0))
 ·refine gc (lN 1 oz) ?_;refine gi rfl ?_;refine gc hdv ?_;refine gD ?_;refine ae ?_;rfl
 cases t13
theorem QI{ts:LL}{m r:Nat}(ht:gq ts m r)(hm:m<=5)(hml:m<=ts.length){j e i:Nat}{a s L:List Rat}(h5:j<=5)(ha:Nl j a)(ca:Cb e a)(he:4*e+3*eB r i+r+1<4398046511104)(hs:sh j (ad j a)=s)(hi:i+1<=m)
  (hsl:s.length=2^(i+1)) (hb:sB r i (4*e+3*eB r i+r+1)<4398046511104) (h0:T.sgn (aj ts) i (ad i (gh ts i s))=0)
  (hL:FP 356 [aN ts,nA (bQ (s.take (2^i)) (s.take (2^i)))] (nA L)):FP 356 [aN ts,nA a] (nA L):=by
 have qa:∀q∈a,Qs q:=fun q hq=>ca.qs oz hq
 have cs:=ca.sh ha;have hsh:=jX a h5 ha qa;rw[hs]at cs hsh;have hp2:=Nat.two_pow_pos i;have hpi:2^i<=32:=bJ (b:=5) oz;have hps:2^(i+1)=2*2^i:=by rw[Nat.pow_succ];omega
 obtain⟨nn,dn,cn⟩:=uA ht oz hsl cs;have k4:=om ts m r ht hm hml i _ _ oz nn cn hb;have qs:∀q∈s.take (2^i),Qs q:=fun q hq=>cs.take.qs oz hq
 refine ah func356 ?_;refine gc hsh ?_;refine gl ?_;refine gC (fun t13=>?_) (fun t13=>?_) (st1:=(3,0));exact absurd t13 (by simp only[aa,beq_iff_eq];omega);refine gl ?_;refine gs (dZ (.tmp rfl) (.const _) oz (show _=((2^i:Nat):Int) by rw[eP oz,hsl,eE]) rfl) ?_;refine gc (yp ts m r ht hm hml i s e oz hsl cs oz) ?_;refine gc k4 ?_;refine gC (fun t33=>?_) (fun t33=>?_) (st2:=(77777,0))
 ·refine gs (cc (.tmp rfl) (.none _) (.some _ (.tmp rfl) oz) T67 rfl T45 rfl oz (by simp only[length_map];omega) rfl) ?_;refine gs (cc (.tmp rfl) (.none _) (.some _ (.tmp rfl) oz) T67 rfl T45 rfl oz (by simp only[length_map];omega) rfl) ?_;refine gc (by have h9:=nO _ _ qs qs (by simp;omega) (by simp;omega);rw[<- jL]at h9;exact h9) ?_;refine gc hL ?_;refine gD ?_;refine ae ?_;rfl
 exact absurd t33 (by rw[h0];decide)
theorem Jf{ts:LL}{m r:Nat}(ht:gq ts m r)(hm:m<=5)(hml:m<=ts.length){j e f i:Nat}{a s L:List Rat}(h5:j<=5)(ha:Nl j a)(ca:Cb e a)(he:4*e+3*eB r i+r+1<4398046511104)(hs:sh j (ad j a)=s)(hi:i+1<=m)
  (hsl:s.length=2^(i+1)) (hb:sB r i (4*e+3*eB r i+r+1)<4398046511104) (h0:T.sgn (aj ts) i (ad i (gh ts i s))≠0)
  (hL:FP 356 [aN ts,nA (gh ts i s)] (nA L)) (nL:Nl i L) (cL:Cb f L) (hf:e+f+eB r (i+1)<4398046511104) :
  FP 356 [aN ts,nA a] (nA (pT ts (i+1) (dV (s.take (2^i)) (ch (s.drop (2^i))) (2^i)) L)):=by
 have qa:∀q∈a,Qs q:=fun q hq=>ca.qs oz hq
 have cs:=ca.sh ha;have hsh:=jX a h5 ha qa;rw[hs]at cs hsh;have hp2:=Nat.two_pow_pos i;have hpi:2^i<=32:=bJ (b:=5) oz;have hps:2^(i+1)=2*2^i:=by rw[Nat.pow_succ];omega
 obtain⟨nn,dn,cn⟩:=uA ht oz hsl cs;have k4:=om ts m r ht hm hml i _ _ oz nn cn hb;have qy:∀q∈s.drop (2^i),Qs q:=fun q hq=>cs.drop.qs oz hq
 have lx:(s.take (2^i)).length=2^i:=eQ hsl;have ly:(s.drop (2^i)).length=2^i:=eX hsl;have nj:Nl (i+1) (dV (s.take (2^i)) (ch (s.drop (2^i))) (2^i)):=.inr ⟨i+1,le_refl _,by rw[mP oz (by rw[gz];omega)];omega⟩;have cj:Cb e (dV (s.take (2^i)) (ch (s.drop (2^i))) (2^i)):=ET cs;have hti:=nD ts m r ht hm hml (i+1) (i+1) _ _ e f hi (le_refl _) nj (nL.mono oz) cj cL hf;refine ah func356 ?_;refine gc hsh ?_;refine gl ?_;refine gC (fun t13=>?_) (fun t13=>?_) (st1:=(3,0));exact absurd t13 (by simp only[aa,beq_iff_eq];omega);refine gl ?_;refine gs (dZ (.tmp rfl) (.const _) oz (show _=((2^i:Nat):Int) by rw[eP oz,hsl,eE]) rfl) ?_;refine gc (yp ts m r ht hm hml i s e oz hsl cs oz) ?_;refine gc k4 ?_;refine gC (fun t33=>?_) (fun t33=>?_) (st1:=(8,0));exact absurd t33 (by simp only[aa,beq_iff_eq];omega);refine gs (cc (.tmp rfl) (.none _) (.some _ (.tmp rfl) oz) T67 rfl T45 rfl oz (by simp only[length_map];omega) rfl) ?_;refine gs (cc (.tmp rfl) (.some _ (.tmp rfl) oz) (.none _) T67 rfl T45 rfl (by simp only[length_map];omega) oz rfl) ?_;refine gc (by have h9:=tY _ qy oz;rw[<- kF]at h9;exact h9) ?_;refine gc (by have h9:=vk (s.take (2^i)) (ch (s.drop (2^i))) (2^i) oz (by rw[gz];omega) oz;rw[<- jL]at h9;exact h9) ?_;refine gc hL ?_;refine gc hti ?_;refine gD ?_;refine ae ?_;rfl
theorem JC{ts:LL}{m r:Nat}(ht:gq ts m r)(hp:Af (aj ts) m)(hm:m<=5)(hml:m<=ts.length)(j:Nat):∀(a:List Rat)(e:Nat),j<=m->Nl j a->Cb e a->T.sgn (aj ts) j (ad j a)≠0 ->
  sB r j e<4398046511104->iB r j e<4398046511104->∃L,FP 356 [aN ts,nA a] (nA L)/\Nl j L/\Cb (iB r j e) L/\ad j L=T.inv (aj ts) j (ad j a):=by
 induction j using Nat.strongRecOn
 rename_i j ih;intro a e hj ha ca h0 hs hi;have hse:=mN r j e;have cs:=ca.sh ha;have hsn:=eD j (ad j a);have hsd:=br j (ad j a);have hle:=vr r j e;obtain⟨s,hsa⟩:∃s,sh j (ad j a)=s:=⟨_,rfl⟩
 rcases me hsn with h |h |⟨i,hij,h⟩
 ·exfalso;have h1:=List.length_eq_zero_iff.1 h;rw[h1,iz]at hsd;rw[<- hsd,T.sgn_zero]at h0;exact h0 rfl
 ·obtain ⟨q, hq⟩:=List.length_eq_one_iff.1 h;rw [hq,lP] at hsd;rw [<- hsd,T.sgn_ofQ] at h0;have q0:q ≠ 0:=by rintro rfl; exact h0 rfl
  refine⟨[1/q],H3 oz ha ca oz hq q0,.inr ⟨0,by omega,rfl⟩,(Cb.inv1 (hq▸cs) q0).mono hle,?_⟩;rw[<- hsd,<- lP j q];exact tZ (aj ts) (i:=0) (s:=[q]) (L:=[1/q]) (by simp) (by simp) rfl oz
 ·have hz:=CH h hij;rw [hsa] at h cs hsd hsn hz;obtain ⟨nn,dn,cn⟩:=uA ht oz h cs;have hsl:s.length <= 2 ^ (i + 1):=by omega
  have b1:sB r i (4*e+3*eB r i+r+1)<=sB r j e:=rZ r e hij;have b2:=mN r i (4*e+3*eB r i+r+1);have b3:iB r (i+1) e<=iB r j e:=xC r e hij;have b4:iB r (i+1) e=e+iB r i (4*e+3*eB r i+r+1)+eB r (i+1):=rfl;have lx:(s.take (2^i)).length=2^i:=eQ h;have ly:(s.drop (2^i)).length=2^i:=eX h;have hpi:2^i<=2^(i+1):=Nat.pow_le_pow_right oz oz;rw[<- hsd]at h0 ⊢
  by_cases hN:T.sgn (aj ts) i (ad i (gh ts i s))=0
  ·have hS:=sL (aj ts) i (fun k hk=>hp k oz)
   have hx:T.sgn (aj ts) i (ad i (bQ (s.take (2^i)) (s.take (2^i))))≠0:=by
    rw[iw];rw[po (aj ts) hsl hij]at h0;rw[dn]at hN;exact G5 hS (hp i oz) (x:=ad i (s.take (2^i))) (y:=ad i (s.drop (2^i))) h0 hN
   have np:Nl i (bQ (s.take (2^i)) (s.take (2^i))):=.inr ⟨i,le_refl _,by rw[dI];omega⟩;have b5:=mL r i (e:=e+e+1) (f:=4*e+3*eB r i+r+1) oz;have b6:=ui r i (e:=e+e+1) (f:=4*e+3*eB r i+r+1) oz;obtain⟨L,k1,k2,k3,k4⟩:=ih i oz _ _ oz np (cs.take.plus cs.take) hx oz oz;refine⟨L,QI ht hm hml oz ha ca oz hsa oz h oz hN k1,k2.mono oz,k3.mono oz,?_⟩;refine tZ (aj ts) (i:=i+1) hsl (le_trans k2.le hpi) ?_ hij;rw[Ni (aj ts) hz (by rw[<- dn];exact hN),gf k2.le,k4,iw];rfl
  ·obtain⟨L,k1,k2,k3,k4⟩:=ih i oz _ _ oz nn cn hN oz oz;have nj:Nl (i+1) (dV (s.take (2^i)) (ch (s.drop (2^i))) (2^i)):=.inr ⟨i+1,le_refl _,by rw[mP oz (by rw[gz];omega),Nat.pow_succ];omega⟩;have s1:=eY ts m ht.1 (i+1) (i+1) _ _ oz (le_refl _) nj (k2.mono oz);have c1:=Cb.mul ht (k:=i+1) (show i+1<=m by omega) (le_refl _) nj (k2.mono oz) (ET cs) k3;refine⟨_,Jf ht hm hml oz ha ca oz hsa oz h oz hN k1 k2 k3 oz,s1.1.mono hij,c1.mono oz,?_⟩;refine tZ (aj ts) (i:=i+1) hsl s1.1.le ?_ hij;rw[GV (aj ts) hz (by rw[<- dn];exact hN),s1.2,sT oz,gf k2.le,mul_low,kT,k4,dn];rfl
theorem PY{ts:LL}{r e f:Nat}(tw:Tw ts r){a b:List Rat}(ha:Nm ts.length e a)(hb:Nm ts.length f b)(he:e<=4398046511103)(hf:f<=4398046511103):FP 243 [aN ts,.lst 1 [nA a,nA b]] (.v .nilIface):=by
 have hck:=mx (ts.map (List.map rt)) r tw.tr [a.map rt,b.map rt] (pJ (vt ha he) (vt hb hf)) (by simp);have hc0:bc (ts.map (List.map rt)) [a.map rt,b.map rt]=0:=qo tw ha hb;rw[hc0,jw]at hck;rw[show[nA a,nA b]=[a.map rt,b.map rt].map nR by simp[ef]];exact hck
theorem vI{ts:LL}{r f j:Nat}(tw:Tw ts r){b:List Rat}(hb:Nm ts.length f b)(hj:j<=ts.length)(nb:Nl j b)(h0:T.sgn (aj ts) ts.length (ad ts.length b)≠0)(hf:f<=lm ts.length)(hi:iB r j f<4398046511104) :
  ∃L,FP 356 [aN ts,nA b] (nA L)/\Nl ts.length L/\Cb (iB r j f) L/\ad ts.length L=T.inv (aj ts) ts.length (ad ts.length b):=by
 rw[po (aj ts) nb.le hj]at h0;obtain⟨L,k1,k2,k3,k4⟩:=JC tw.ok tw.pos tw.five (le_refl _) j b f hj nb hb.cb h0 (l0 hj tw.three tw.le hf) hi;exact⟨L,k1,k2.mono hj,k3,tZ (aj ts) nb.le k2.le k4 hj⟩
theorem vV{ts:LL}{r e f j:Nat}(tw:Tw ts r){a b:List Rat}(ha:Nm ts.length e a)(hb:Nm ts.length f b)(hj:j<=ts.length)(nb:Nl j b)(h0:T.sgn (aj ts) ts.length (ad ts.length b)≠0)(hf:f<=lm ts.length)(he:e+iB r j f+eB r ts.length<=200000000000) :
  FP 271 [aN ts,nA a,nA b] (.tup [nA (sh ts.length (T.mul (aj ts) ts.length (ad ts.length a) (T.inv (aj ts) ts.length (ad ts.length b)))),.v .nilIface]):=by
 have hlm:=iT ts.length;have h5:=tw.five;have h3:=tw.three;have hfe:=vr r j f;have hsB:=l0 (le_refl ts.length) h3 tw.le hf;have hsg:=om ts ts.length r tw.ok h5 (le_refl _) ts.length _ _ (le_refl _) hb.nl hb.cb hsB;obtain⟨L,k1,k2,k3,k4⟩:=vI tw hb hj nb h0 hf oz;have hti:=nD ts ts.length r tw.ok h5 (le_refl _) ts.length ts.length _ _ _ _ (le_refl _) (le_refl _) ha.nl k2 ha.cb k3 oz;have s1:=eY ts ts.length tw.ok.1 ts.length ts.length _ _ (le_refl _) (le_refl _) ha.nl k2;have c1:=Cb.mul tw.ok (k:=ts.length) (le_refl _) (le_refl _) ha.nl k2 ha.cb k3;have hsh:=jX _ h5 s1.1 (fun q hq=>c1.qs oz hq);rw[s1.2,k4]at hsh;refine ah func271 ?_;refine gc (PY tw ha hb oz oz) ?_;refine gC (fun t15=>?_) (fun t15=>?_) (st1:=(3,0));cases t15;refine gc hsg ?_;refine gC (fun t20=>?_) (fun t20=>?_) (st1:=(5,0));exact absurd t20 (by simp only[aa,beq_iff_eq];omega);refine gc k1 ?_;refine gc hti ?_;refine gc hsh ?_;refine gD ?_;refine bi ?_;rfl
theorem xI{ts:LL}{r e f j:Nat}(tw:Tw ts r){a b:List Rat}(ha:Nm ts.length e a)(hb:Nm ts.length f b)(hj:j<=ts.length)(nb:Nl j b)(h0:T.sgn (aj ts) ts.length (ad ts.length b)≠0)(hf:f<=lm ts.length)(he:e+iB r j f+eB r ts.length<=200000000000) :
  Nm ts.length (e+iB r j f+eB r ts.length) (sh ts.length (T.mul (aj ts) ts.length (ad ts.length a) (T.inv (aj ts) ts.length (ad ts.length b)))):=by
 obtain⟨L,k1,k2,k3,k4⟩:=vI tw hb hj nb h0 hf oz;have s1:=eY ts ts.length tw.ok.1 ts.length ts.length _ _ (le_refl _) (le_refl _) ha.nl k2;have c1:=Cb.mul tw.ok (k:=ts.length) (le_refl _) (le_refl _) ha.nl k2 ha.cb k3;refine⟨tw.five,eD _ _,?_⟩;rw[<- k4,<- s1.2];exact c1.sh s1.1
def cr(k:Nat):List Rat:=(List.replicate (2^(k+1)) 0).set (2^k) 1
def aK(ts:LL)(a:List Rat):LL:=ts++[aM a (2^ts.length)]
theorem OC(k:Nat):BlkSub (.row 3 ((List.replicate (2^(k+1)) (.agg [.v (.bool false),nS,nS])).set (2^k) (qA 1))) (.row 3 ((cr k).map qA)):=by
 unfold cr;refine .row ?_ ?_
 ·simp
 ·intro i e e' he he';rw[map_set,map_replicate]at he';rw[List.getElem?_set]at he he';split at he
  ·rename_i h1;rw[if_pos h1]at he';split at he
   ·rename_i h2;rw[length_replicate]at h2;rw[length_replicate,if_pos h2]at he';cases he;cases he'
    exact iR.refl (wK 1)
   ·cases he
  ·rename_i h1;rw[if_neg h1]at he';rw[getElem?_replicate]at he he';split at he
   ·rename_i h2;rw[if_pos h2]at he';cases he;cases he'
    exact qZ
   ·cases he
theorem vY(k:Nat):(cr k).length=2^(k+1):=by simp[cr]
theorem QY{k:Nat}(hk:k<=5):IntKind.i64.wrap ((2:Int)*2^(min (k:Int).toNat IntKind.i64.bits))=((2^(k+1):Nat):Int):=by
 have h:k=0\/k=1\/k=2\/k=3\/k=4\/k=5:=by omega
 rcases h with rfl |rfl |rfl |rfl |rfl |rfl <;> rfl
theorem Q9(d:Nat)(hd:Nat.blt d 1000=true)(k:Nat)(hk:k<=5):Con prog 270 [i64 k] [] (.ms d 3 0 (2^(k+1))) [(d,some (.row 3 ((cr k).map qA)))]:=by
 have hp:2^(k+1)<=64:=bJ (b:=6) oz;have hp2:2^k<2^(k+1):=Nat.pow_lt_pow_right oz oz;have hp0:=Nat.two_pow_pos k;refine gF func270 (fun k z h=>by cases h) ?_;refine gs (fC (.const _) (.tmp rfl) oz (QY hk) rfl) ?_;refine gs (fJ (.tmp rfl) T67 rfl T45 rfl rfl oz (by dsimp only;omega) rfl) ?_;refine gs (fC (.const _) (.tmp rfl) oz (lA oz) rfl) ?_;refine gc (lN 1 oz) ?_;refine gs (bG (n:=2^k) (.tmp rfl) (.tmp rfl) T67 rfl T45 rfl oz oz rfl) ?_;refine gs (cW (.tmp rfl) rfl (by rw[getElem?_replicate,if_pos oz]) rfl (.tmp rfl) rfl rfl T45 rfl rfl) ?_;refine gD ?_ (3,0);refine gW (Wk.of (sl:=[(3,some (.ms 6 3 0 (2^(k+1))))]) (hp:=[(6,some (.row 3 ((cr k).map qA)))]) (.cons rfl (Sub.of (congrArg (AV.ms 6 3 0) (toNat_natCast _))) .nil) (.cons rfl (OC k) .nil)) ?_;refine gR ?_;exact ak.own1 rfl hd rfl
theorem JM(k:Nat)(hk:k<=5):FP 270 [i64 k] (nA (cr k)):=by
 have h:=Con.freeze (by rw[length_map,vY];omega) (Q9 0 rfl k hk);rw[drop_zero,take_of_length_le (by rw[length_map,vY];exact le_refl _)]at h;exact h
theorem Kx{ts:LL}{r e:Nat}(tw:Tw ts r){a:List Rat}(ha:Nm ts.length e a)(he:e<=4398046511103):FP 243 [aN ts,.lst 1 [nA a]] (.v .nilIface):=by
 have hx:=vt ha he;have hck:=mx (ts.map (List.map rt)) r tw.tr [a.map rt] (fun x h=>by rw[List.mem_singleton.1 h];exact⟨hx.ok,hx.len⟩) (by simp);have hc0:bc (ts.map (List.map rt)) [a.map rt]=0:=wH tw ha;rw[hc0,jw]at hck;rw[show[nA a]=[a.map rt].map nR by simp[ef]];exact hck
theorem Kw{ts:LL}{r e:Nat}(tw:Tw ts r){a:List Rat}(ha:Nm ts.length e a)(he:e<=4398046511103):FP 268 [aN ts,nA a] (.tup [nA (aM a (2^ts.length)),.v .nilIface]):=by
 have h5:=tw.five;have hl:=ha.nl.le;have hp:2^ts.length<=32:=bJ (b:=5) oz;have qa:∀q∈a,Qs q:=fun q hq=>ha.cb.qs oz hq
 refine ah func268 ?_;refine gc (Kx tw ha he) ?_;refine gC (fun t12=>?_) (fun t12=>?_) (st1:=(3,0));cases t12;refine gc (xn a qa oz) ?_;refine gl ?_;refine gs (fC (.const _) (.tmp rfl) oz (lA oz) rfl) ?_;refine gc (yY a (2^ts.length) hl oz) ?_;refine gD ?_;refine bi ?_;rfl
theorem BD{ts:LL}{r e:Nat}(tw:Tw ts r){a:List Rat}(ha:Nm ts.length e a)(he:e<=lm ts.length)(hs:0<=T.sgn (aj ts) ts.length (ad ts.length a)) :
  FP 151 [aN ts,nA a] (.tup [aN (aK ts a),nA (cr ts.length),.v .nilIface]):=by
 have h3:=tw.three;have h5:=tw.five;have hlm:=iT ts.length;have hl:=ha.nl.le;have nw:Nl ts.length (aM a (2^ts.length)):=.inr ⟨_,le_refl _,dc hl⟩;have hsg:=om ts ts.length r tw.ok h5 (le_refl _) ts.length _ _ (le_refl _) nw ha.cb.wide (l0 (le_refl ts.length) h3 tw.le he);rw[p4]at hsg;have hqs:=tw.rb.qs tw.le;refine ah func151 ?_;refine gc (Kw tw ha oz) ?_;refine gC (fun t18=>?_) (fun t18=>?_) (st1:=(3,0));cases t18;refine gc hsg ?_;refine gC (fun t23=>?_) (fun t23=>?_) (st1:=(5,0));exact absurd t23 (by simp only[aa,decide_eq_true_eq];omega);refine gl ?_;refine gC (fun t30=>?_) (fun t30=>?_) (st1:=(7,0));exact absurd t30 (by simp only[aa,decide_eq_true_eq];omega);refine gl ?_;refine gW (Wk.virt 900 1 rfl) ?_;refine aI [2,4,7,9,38,39] [2,4] (fun(i:Nat)=>[(40,some (i64 i))]) (fun i=>[(9,some (.box [.ms 900 1 0 i])),(900,some (.row 1 ((ts.take i).map nA)))]) (fun i=>i<=ts.length) (fun i=>ts.length-i) 0 (zero_le _) ?_ (h2:=(.cons rfl (BlkSub.bL (.cons (.nM _ _ _) .nil) rfl) (.k .nil)));rintro i hi K1 J1;refine gC (fun t41=>?_) (fun t41=>?_)
 ·have hin:=aU t41;obtain⟨d,hd⟩:=ay hin
  have hdl:d.length<=32:=by
   have h9:=tw.len i hin;rw[aL hd]at h9;have:2^i<=32:=bJ (b:=5) oz;omega
  refine gi (az hd) ?_;refine gc (xn d (hqs d (mem_of_getElem? hd)) oz) ?_;refine gs (bU (.tmp rfl) rfl (by rw[length_map,length_take];omega) (.tmp rfl) T35 rfl T67 rfl rfl (by simp only[length_cons,length_nil];omega) rfl rfl) ?_;refine gD ?_ (13,0);refine gW (Wk.of (sl:=[(2,some (.ptr 2 0)),(4,some (.ptr 4 0)),(7,some (nA (aM a (2^ts.length)))),(9,some (.ptr 9 0)),(38,some (.lst 1 (ts.map nA))),(39,some (i64 ts.length)),(40,some (i64 i))]) (hp:=[(2,some (.box [.lst 1 (ts.map nA)])),(4,some (.box [nS])),(9,some (.box [.ms 49 1 0 (i+1)])),(49,some (.row 1 ((ts.take (i+1)).map nA)))]) aR (.k (.k (.k (.cons rfl (BlkSub.of (by rw[cR hd,map_append];rfl)) .nil))))) ?_ (13,0)
  refine gW (Wk.rk (k:=49) (d:=900) rfl rfl) ?_;refine ga aG ?_;exact aE J1 (i+1) hin
 have hin:=a6 hi t41;subst hin;refine gs (bU (.tmp rfl) rfl (by rw[length_map,length_take];omega) (.tmp rfl) T35 rfl T67 rfl rfl (by simp only[length_cons,length_nil];omega) rfl rfl) ?_ (15,0);refine gW ((Wk.freeze (k:=56) rfl).trans<|Wk.of (sl:=[(2,some (.ptr 2 0)),(4,some (.ptr 4 0)),(9,some (.ptr 9 0))]) (hp:=[(2,some (.box [.lst 1 (ts.map nA)])),(4,some (.box [nS])),(9,some (.box [.lst 1 ((aK ts a).map nA)]))]) aR (.k (.k (.cons rfl (BlkSub.bL (.cons (Sub.of (by rw[bB (by simp)];unfold aK;simp)) .nil) rfl) .nil)))) ?_;refine gl ?_;refine gc (JM ts.length oz) ?_;refine gD ?_;refine Jw ?_;rfl
theorem xl{ts:LL}{r:Nat}(tw:Tw ts r):FP 144 [aN ts] (aN ts):=by
 have h3:=tw.three;have hqs:=tw.rb.qs tw.le;refine ah func144 ?_;refine gl ?_;refine gW (Wk.virt 900 1 rfl) ?_;refine aI [2,3,10,11] [2] (fun(i:Nat)=>[(12,some (i64 i))]) (fun i=>[(3,some (.box [.ms 900 1 0 i])),(900,some (.row 1 ((ts.take i).map nA)))]) (fun i=>i<=ts.length) (fun i=>ts.length-i) 0 (zero_le _) ?_ (h2:=(.cons rfl (BlkSub.bL (.cons (.nM _ _ _) .nil) rfl) (.k .nil)));rintro i hi K1 J1;refine gC (fun t13=>?_) (fun t13=>?_) (st2:=(13,0))
 ·have hin:=aU t13;obtain⟨d,hd⟩:=ay hin
  have hdl:d.length<=32:=by
   have h9:=tw.len i hin;rw[aL hd]at h9;have:2^i<=32:=bJ (b:=5) oz;omega
  have hdq:=hqs d (mem_of_getElem? hd);refine gi (az hd) ?_;refine gl ?_;refine gW (Wk.virt 901 3 rfl) ?_;refine aI [2,3,10,11,12,16,17] [2,3,900] (fun(j:Nat)=>[(6,some (.ms 901 3 0 j)),(18,some (i64 j))]) (fun j=>[(901,some (.row 3 ((d.take j).map qA)))]) (fun j=>j<=d.length) (fun j=>d.length-j) 0 (zero_le _) ?_;rintro j hj K2 J2;refine gC (fun t19=>?_) (fun t19=>?_) (st2:=(11,0))
  ·have hjn:=aU t19;obtain ⟨q,hq⟩:=ay hjn;have hadd:=mS (rt q) (rt 0) (hdq q (mem_of_getElem? hq)).ok Qs.zero.ok;rw [ri,bu] at hadd;refine gi (az hq) ?_;refine gc (Con.sA (.cons (.refl _) (.cons gQ .nil)) hadd) ?_;refine gs (bU (.tmp rfl) rfl (by rw [length_map,length_take]; omega) (.tmp rfl) T67 rfl T45 rfl rfl (by simp only [length_cons,length_nil]; omega) rfl rfl) ?_ (10,0);refine gW (Wk.of (sl:=[(2,some (.ptr 2 0)),(3,some (.ptr 3 0)),(10,some (.lst 1 (ts.map nA))),(11,some (i64 ts.length)),(12,some (i64 i)),(6,some (.ms 27 3 0 (j + 1))),(16,some (nA d)),(17,some (i64 d.length)),(18,some (i64 j))]) (hp:=[(2,some (.box [nS])),(3,some (.box [.ms 900 1 0 i])),(900,some (.row 1 ((ts.take i).map nA))),(27,some (.row 3 ((d.take (j + 1)).map qA)))]) aR (.k (.k (.k (.cons rfl (BlkSub.of (by rw [cR hq,map_append]; rfl)) .nil))))) ?_ (10,0)
   refine gW (Wk.rk (k:=27) (d:=901) rfl rfl) ?_;refine ga aG ?_;exact aE J2 (j+1) hjn
  have hjn:=a6 hj t19;subst hjn;refine gW ((Wk.freeze (k:=901) rfl).trans<|Wk.of (sl:=[(2,some (.ptr 2 0)),(3,some (.ptr 3 0)),(10,some (.lst 1 (ts.map nA))),(11,some (i64 ts.length)),(12,some (i64 i)),(6,some (nA d))]) (hp:=[(2,some (.box [nS])),(3,some (.box [.ms 900 1 0 i])),(900,some (.row 1 ((ts.take i).map nA)))]) (.k (.k (.k (.k (.k (.cons rfl (Sub.of (by rw[bB (by simp)];simp[nA])) .nil)))))) (.k (.k (.k .nil)))) ?_
  refine gs (bU (.tmp rfl) rfl (by rw[length_map,length_take];omega) (.tmp rfl) T35 rfl T67 rfl rfl (by simp only[length_cons,length_nil];omega) rfl rfl) ?_ (12,0);refine gW (Wk.of (sl:=[(2,some (.ptr 2 0)),(3,some (.ptr 3 0)),(10,some (.lst 1 (ts.map nA))),(11,some (i64 ts.length)),(12,some (i64 i))]) (hp:=[(2,some (.box [nS])),(3,some (.box [.ms 33 1 0 (i+1)])),(33,some (.row 1 ((ts.take (i+1)).map nA)))]) aR (.k (.k (.cons rfl (BlkSub.of (by rw[cR hd,map_append];rfl)) .nil)))) ?_ (12,0);refine gW (Wk.rk (k:=33) (d:=900) rfl rfl) ?_;refine ga aG ?_;exact aE J1 (i+1) hin
 have hin:=a6 hi t13;subst hin;refine gW ((Wk.freeze (k:=900) rfl).trans<|Wk.of (sl:=[(2,some (.ptr 2 0)),(3,some (.ptr 3 0))]) (hp:=[(2,some (.box [nS])),(3,some (.box [.lst 1 (ts.map nA)]))]) aR (.k (.cons rfl (BlkSub.bL (.cons (Sub.of (by rw[bB (by simp)];simp)) .nil) rfl) .nil))) ?_;refine ae ?_;rfl
abbrev dg(l:Li)(kw driven:List Bool)(r:List AV):List AV:=l.av.cells++(.lst 1 (kw.map bl) :: .lst 1 (driven.map bl)::r)
theorem Lc(j:Jt)(b:Int):FP 415 [j.av,i64 b] (i64 (jc j b)):=by
 refine ah func415 ?_;refine gC (fun t6=>?_) (fun t6=>?_)
 ·have h1:b=j.a:=cP t6;refine ae ?_;unfold jc;rw[if_pos h1]
 have h1:b≠j.a:=dN t6;refine gC (fun t12=>?_) (fun t12=>?_)
 ·have h2:b=j.b:=cP t12;refine ae ?_;unfold jc;rw[if_neg h1,if_pos h2]
 have h2:b≠j.b:=dN t12;refine ae ?_;unfold jc;rw[if_neg h1,if_neg h2];rfl
theorem Ko(j:Jt)(kind body:Int)(f:FuncId)(pre caps:List AV)(p:Int->Bool)(hp:0<=jc j body->FP f (pre++[i64 (jc j body)]++caps) (bl (p (jc j body)))) :
  FP 414 [j.av,.iptr [i64 body],.iptr [i64 kind],.iptr [.cl f pre caps]] (bl (u4 kind body p j)):=by
 refine ah func414 ?_;refine gc (Lc j body) ?_;refine bw (fun h=>(hp (NS h))) ?_;refine ae ?_;exact congrArg bl GQ
theorem QQ(bs:List Jt)(hl:bs.length<=281474976710656)(f:FuncId)(pre caps:List AV)(ok:Nat->Bool)
  (hf:∀(i:Nat)(b:Jt),bs[i]?=some b->(∀j,j<i->ok j=true)->FP f (pre++[b.av]++caps) (bl (!ok i))) :
  FP 413 [.lst 7 (bs.map Jt.av),.cl f pre caps] (i64 (lJ (db bs.length ok))):=by
 refine ah func413 ?_;refine gl ?_;refine aI [0,1,7] [] (fun(i:Nat)=>[(8,some (i64 i))]) (fun _=>[]) (fun i=>i<=bs.length/\∀j,j<i->ok j=true) (fun i=>bs.length-i) 0 ⟨zero_le _,fun j h=>by omega⟩ ?_;rintro i ⟨hi,hj⟩ K1 J1;refine gC (fun t9=>?_) (fun t9=>?_)
 ·have hin:=aU t9;obtain⟨b,hb⟩:=ay hin;refine gi (az hb) ?_;refine gc (hf i b hb hj) ?_;refine gC (fun t16=>?_) (fun t16=>?_)
  ·have h2:=da t16;refine ae ?_;rw[gS hin hj h2];rfl
  have h2:=cV t16;refine ga aG ?_;exact aE J1 (i+1) ⟨hin,fun j h9=>by rcases lt_or_ge j i with g |g;exact hj j g;(have:j=i:=by omega);subst this;exact h2⟩
 have hin:=a6 hi t9;subst hin;refine ae ?_;rw[iN hj];rfl
theorem EJ(l:Li)(hl:l.ok)(hli:aD l=0)(Fd:List AV)(kind body:Int)(f:FuncId)(pre caps:List AV)(p:Int->Bool)
  (hp:∀o:Int,0<=o->o<l.bo.length->FP f (pre++[i64 o]++caps) (bl (p o))) :
  FP 405 [.iptr (l.av.cells++Fd),i64 kind,i64 body,.cl f pre caps] (i64 (gJ l kind body p)):=by
 refine ah func405 ?_ (1,0);refine gW ((Wk.freezeB (k:=7) rfl rfl).trans<|(Wk.freezeB (k:=5) rfl rfl).trans<|(Wk.freezeB (k:=6) rfl rfl).trans<|Wk.o (sl:=[(0,some (.iptr (l.av.cells++Fd))),(5,some (.iptr [i64 kind])),(6,some (.iptr [i64 body])),(7,some (.iptr [.cl f pre caps]))]) (hp:=[])) ?_;refine gc (Con.sA (.cons (.refl _) (.cons (pW rfl) .nil)) (QQ l.jo hl.lj 414 [] [.iptr [i64 body],.iptr [i64 kind],.iptr [.cl f pre caps]] (fun i=>!u4 kind body p (l.jo.getD i default)) (fun i b hb hj=>by rw[Bool.not_not,aL hb];exact Ko b kind body f pre caps p (fun h=>hp _ h (Qd hli hb body))))) ?_;refine ae ?_;rfl
theorem PO(l:Li)(kw driven:List Bool)(r:List AV)(b:Int)(h0:0<=b)(h1:b<kw.length):FP 411 [.iptr (dg l kw driven r),i64 b] (bl (kn kw b)):=by
 obtain⟨v,hv⟩:∃v,kw[b.toNat]?=some v:=ay oz;have ev:kn kw b=v:=aL hv;refine ah func411 ?_;refine gi (f8 (n:=b.toNat) oz hv) ?_;refine ae ?_;rw[ev]
theorem z7(l:Li)(hl:l.ok)(hli:aD l=0)(kw driven:List Bool)(hk:kw.length=l.bo.length)(r:List AV)(kind body:Int) :
  FP 403 [.iptr (dg l kw driven r),i64 kind,i64 body] (i64 (gJ l kind body (kn kw))):=by
 refine ah func403 ?_;refine gc (EJ l hl hli _ kind body 411 [.iptr (dg l kw driven r)] [] (kn kw) (fun o h0 h1=>PO l kw driven r o h0 oz)) ?_;refine ae ?_;rfl
theorem IC(o j:Int):FP 406 [i64 o,.iptr [i64 j]] (bl (decide (o=j))):=by
 refine ah func406 ?_;refine ae ?_;exact congrArg bl oR
theorem K8(l:Li)(kw driven:List Bool)(hd:driven.length=kw.length)(r:List AV)(b:Int)(h0:0<=b)(h1:b<kw.length) :
  FP 407 [.iptr (dg l kw driven r),i64 b] (bl (!kn kw b&&!kn driven b)):=by
 obtain⟨v,hv⟩:∃v,kw[b.toNat]?=some v:=ay oz;have ev:kn kw b=v:=aL hv;obtain⟨u,hu⟩:∃u,driven[b.toNat]?=some u:=ay oz;have eu:kn driven b=u:=aL hu;refine ah func407 ?_;refine gi (f8 (n:=b.toNat) oz hv) ?_;refine kA (fun _=>(f8 (n:=b.toNat) oz hu)) ?_;refine ae ?_;rw[ev,eu];exact congrArg bl (gN _ _)
theorem Rz(l:Li)(hl:l.ok)(hli:aD l=0)(kw driven:List Bool)(hk:kw.length=l.bo.length)(r:List AV) :
  FP 379 [.iptr (dg l kw driven r)] (.tup [((dk l kw).getD default).av,bl (dk l kw).isSome]):=by
 have hld:=hl.ld;refine ah func379 ?_;refine gl ?_;refine aI [0,2,11,12] [2] (fun(i:Nat)=>[(13,some (i64 i))]) (fun _=>[]) (fun i=>i<=l.dv.length/\∀j,j<i->(!eW l kw j)=true) (fun i=>l.dv.length-i) 0 ⟨zero_le _,fun j h=>by omega⟩ ?_;rintro i ⟨hi,hj⟩ K1 J1;refine gC (fun t14=>?_) (fun t14=>?_)
 ·have hin:=aU t14;obtain⟨d,hd⟩:=ay hin;have hdd:l.dv.getD i default=d:=aL hd;have hb:=dT (ku hli hd);obtain⟨v,hv⟩:∃v,kw[d.body.toNat]?=some v:=ay oz;have ev:kn kw d.body=v:=aL hv;have ej:gJ l 0 d.body (kn kw)=bM l 0 d.body kw:=xh hli (fun o _ _=>rfl);refine gi (az hd) ?_;refine gi (f8 (n:=d.body.toNat) oz hv) ?_;refine gD ?_;refine gC (fun t25=>?_) (fun t25=>?_)
  ·have h2 : eW l kw i = false := by unfold eW; rw [hdd, ev, t25]; rfl
   refine ga aG ?_;exact aE J1 (i+1) ⟨hin,fun k h9=>by rcases lt_or_ge k i with g |g;exact hj k g;(have:k=i:=by omega);subst this;rw[h2];rfl⟩
  have hv0:v=false:=t25;refine gc (show gB _ _ _ (i64 (bM l 0 d.body kw)) by rw[<- ej];exact z7 l hl hli kw driven hk r 0 d.body) ?_;refine gC (fun t31=>?_) (fun t31=>?_)
  ·have h2 : eW l kw i = true := by unfold eW; rw [hdd, ev, hv0, decide_eq_true (Ga t31)]; rfl
   have hg:dk l kw=some ⟨0,[d.body],[bM l 0 d.body kw],i⟩:=by unfold dk;rw[gS hin hj (by rw[h2];rfl),<- hdd];rfl
   refine bi ?_;rw[hg];rfl
  have h2:eW l kw i=false:=by unfold eW;rw[hdd,decide_eq_false (A8 t31),Bool.and_false]
  refine ga aG ?_;exact aE J1 (i+1) ⟨hin,fun k h9=>by rcases lt_or_ge k i with g |g;exact hj k g;(have:k=i:=by omega);subst this;rw[h2];rfl⟩
 have hin:=a6 hi t14;subst hin;have hg:dk l kw=none:=by unfold dk;rw[iN hj];rfl
 refine gR ?_;exact ak.sub ak.pure (by rw[hg];exact Sub.tup (.cons oL (.cons (.refl _) .nil)))
theorem ww(l:Li)(hli:aD l=0)(kw:List Bool)(hk:kw.length=l.bo.length)(r:List AV)(b:Nat)(h1:b<l.bo.length) :
  FP 407 [.iptr (dg l kw (bI l) r),i64 b] (bl (dL l kw b)):=by
 have h:=K8 l kw (bI l) (by rw[rq,hk]) r b oz oz;rw[Rm hli oz]at h;exact h
theorem tM(l:Li)(hl:l.ok)(hli:aD l=0)(kw:List Bool)(hk:kw.length=l.bo.length)(r:List AV)(kind body:Int) :
  FP 403 [.iptr (dg l kw (bI l) r),i64 kind,i64 body] (i64 (bM l kind body kw)):=by
 have h:=z7 l hl hli kw (bI l) hk r kind body;rw[xh hli (fun o _ _=>rfl)]at h;exact h
theorem QU(l:Li)(hl:l.ok)(hli:aD l=0)(kw:List Bool)(hk:kw.length=l.bo.length)(r:List AV) :
  FP 381 [.iptr (dg l kw (bI l) r)] (.tup [((dW l kw).getD default).av,bl (dW l kw).isSome]):=by
 have h8:=(c9 hli).2.2.2.1;refine ah func381 ?_;refine gl ?_;refine aI [0,2,12,13] [2] (fun(i:Nat)=>[(14,some (i64 i))]) (fun _=>[]) (fun i=>i<=l.bo.length/\∀j,j<i->(!eL l kw j)=true) (fun i=>l.bo.length-i) 0 ⟨zero_le _,fun j h=>by omega⟩ ?_;rintro i ⟨hi,hj⟩ K1 J1;refine gC (fun t15=>?_) (fun t15=>?_)
 ·have hin:=aU t15;refine gc (ww l hli kw hk r i hin) ?_;refine gC (fun t20=>?_) (fun t20=>?_)
  ·have h2 : eL l kw i = false := by unfold eL; rw [da t20]; rfl
   refine ga aG ?_;exact aE J1 (i+1) ⟨hin,fun k h9=>by rcases lt_or_ge k i with g |g;exact hj k g;(have:k=i:=by omega);subst this;rw[h2];rfl⟩
  have hf:=cV t20;refine gc (tM l hl hli kw hk r 0 i) ?_;refine gc (tM l hl hli kw hk r 1 i) ?_;refine gC (fun t32=>?_) (fun t32=>?_)
  ·have h2 : eL l kw i = false := by unfold eL; rw [Gl t32, Bool.and_false]
   refine ga aG ?_;exact aE J1 (i+1) ⟨hin,fun k h9=>by rcases lt_or_ge k i with g |g;exact hj k g;(have:k=i:=by omega);subst this;rw[h2];rfl⟩
  obtain⟨p0,s0⟩:=Cv t32;have s1:=(lR (l:=l) (kind:=1) (body:=i) (oth:=kw)).2;have h2:eL l kw i=true:=by unfold eL;rw[hf,decide_eq_true p0,decide_eq_true s0];rfl
  obtain⟨j,hjt⟩:∃j,l.jo[(bM l 1 i kw).toNat]?=some j:=ay oz;have hjd:l.jo.getD (bM l 1 i kw).toNat default=j:=aL hjt;have hg:dW l kw=some (ii l kw i):=by unfold dW;rw[gS hin hj (by rw[h2];rfl),Option.map_some]
  refine gi (f8 (n:=(bM l 1 i kw).toNat) oz hjt) ?_;refine gC (fun t43=>?_) (fun t43=>?_)
  ·have hji:j.a=i:=cP t43;refine bi ?_;rw[hg];unfold ii;rw[hjd];simp only[Option.getD_some,if_pos hji];rfl
  have hji:j.a≠i:=dN t43;refine bi ?_;rw[hg];unfold ii;rw[hjd];simp only[Option.getD_some,if_neg hji];rfl
 have hin:=a6 hi t15;subst hin;have hg:dW l kw=none:=by unfold dW;rw[iN hj];rfl
 refine gR ?_;exact ak.sub ak.pure (by rw[hg];exact Sub.tup (.cons oL (.cons (.refl _) .nil)))
theorem OY(Fd:List AV):FP 404 [.iptr Fd] (.fn 412 [.iptr [.iptr Fd]]):=by
 refine ah func404 ?_ (1,0);refine gW ((Wk.freezeB (k:=1) rfl rfl).trans<|Wk.o (sl:=[(1,some (.iptr [.iptr Fd]))]) (hp:=[])) ?_;refine ae ?_;rfl
def uf:Code->Option (Array Tmp×Code×Code)
  | .rangeFunc _ ps x y=>some (ps,x,y)
  | .seq a b=>match uf a with
    |some r=>some r
    |none=>uf b
  | .block _ c=>uf c
  |_=>none
def EX(n:Nat)(o:Option Code):LpD:=match o with
  |some c=>match uf c with
    |some (ps,x,y)=>⟨ps,x,y,n⟩
    |none=>⟨#[],.skip,.skip,0⟩
  |none=>⟨#[],.skip,.skip,0⟩
def Cu(D:LpD)(Fd:List AV)(h:Bool):Blk:=.loop D (match h with |true=>.done |false=>.ready) (match h with |true=>some .ret |false=>none) [(1,some (.iptr [.iptr Fd])),(2,some (.ptr 1001 0)),(3,some (.ptr 1002 0))]
def wz(g:Gr):Blk:=.box [i64 g.kind,.lst 1 (g.bo.map i64),.lst 1 (g.jo.map i64),i64 g.driver]
def vO(h:Bool):Blk:=.box [bl h]
def eH(D:LpD)(Fd:List AV)(h:Bool)(g:Gr):Hp:=[(1000,some (Cu D Fd h)),(1001,some (wz g)),(1002,some (vO h))]
theorem C9{D:LpD}{Fd:List AV}{h:Bool}{g:Gr}{k:Nat}{z:Blk}(hz:lk (eH D Fd h g) k=some z):1000<=k:=by
 unfold eH at hz;simp only[aH]at hz;split at hz
 ·omega
 ·split at hz
  ·omega
  ·split at hz
   ·omega
   ·cases hz
theorem Ny{D:LpD}{Fd:List AV}{s:AS}(hs:∀k z,lk (eH D Fd false default) k=some z->s.blk k=some z) :
  ∀k∈(eH D Fd false default++cJ (eH D Fd false default)).map (·.1),k∈(eH D Fd false default).map (·.1)/\lk (eH D Fd false default++cJ (eH D Fd false default)) k=s.blk k:=by
 intro k hk
 have hk':k=1000\/k=1001\/k=1002:=by
  simp[eH,cJ]at hk;omega
 rcases hk' with rfl |rfl |rfl
 ·exact⟨by simp[eH],(hs _ _ rfl).symm⟩
 ·exact⟨by simp[eH],(hs _ _ rfl).symm⟩
 ·exact⟨by simp[eH],(hs _ _ rfl).symm⟩
theorem DL{l:Li}{kw:List Bool}{i k:Nat}(h:cond (dL l kw i) (dL l kw k) false=false):dj l kw i k=false:=by
 rw[gN]at h;unfold dj;rw[h];rfl
theorem KJ{H R:Hp}{k:Nat}{z:Blk}(h:lk H k=some z):lk (H++R) k=some z:=by rw[lg,if_pos (lh h)];exact h
theorem QR{a b:Bool}(h:cond a b false=true):a=true:=by cases a <;> simp_all
theorem xP{a b:Bool}(h:cond a b false=true):b=true:=by cases a <;> simp_all
theorem Kn(D:LpD)(l:Li)(hl:l.ok)(hli:aD l=0)(kw:List Bool)(hk:kw.length=l.bo.length)(r:List AV)
  (hy:∀i k:Nat,i<k->k<l.bo.length->dL l kw i=true->dL l kw k=true ->
   sV prog 1000 [i64 i,i64 k] (eH D (dg l kw (bI l) r) false default) (bl (!dj l kw i k)) (eH D (dg l kw (bI l) r) (dj l kw i k) (cond (dj l kw i k) (jO l kw i k) default))) :
  Con prog 412 [.yl 1000,.iptr [.iptr (dg l kw (bI l) r)]] (eH D (dg l kw (bI l) r) false default) (.tup []) (eH D (dg l kw (bI l) r) (cF l kw).isSome ((cF l kw).getD default)):=by
 have h8:=(c9 hli).2.2.2.1;refine gF func412 (fun k z h=>C9 h) ?_;refine gl ?_;refine aI [0,1,10] [1000,1001,1002] (fun(i:Nat)=>[(11,some (i64 i))]) (fun _=>[]) (fun i=>i<=l.bo.length/\∀j,j<i->(fQ l kw j).isNone=true) (fun i=>l.bo.length-i) 0 ⟨zero_le _,fun j h=>by omega⟩ ?_;rintro i ⟨hi,hj⟩ K1 J1;refine gC (fun t12=>?_) (fun t12=>?_)
 ·have hin:=aU t12;refine ga aG ?_;refine aI [0,1,3,10,11] [] (fun (k:Nat)=>[(4,some (i64 (i + 1 + k:Nat)))]) (fun _=>[(1000,some (Cu D (dg l kw (bI l) r) false)),(1001,some (wz default)),(1002,some (vO false))]) (fun k=>i + 1 + k <= l.bo.length /\ ∀ j,j < k -> (!dj l kw i (i + 1 + j)) = true) (fun k=>l.bo.length - k) 0 ⟨by omega,fun j h=>by omega⟩ ?_;rintro k ⟨hkl,hkj⟩ K2 J2;refine gl ?_;refine gC (fun t23=>?_) (fun t23=>?_)
  ·have hkn:i + 1 + k < l.bo.length:=aU t23;refine gc (ww l hli kw hk r i hin) ?_;refine bw (fun _=>(ww l hli kw hk r (i + 1 + k) hkn)) ?_;refine gs (Qn rfl rfl rfl (by intro hb; have h0:dj l kw i (i + 1 + k) = false:=DL (by simpa using hb); simp only [h0,cond_false]; exact Ny (by intro k z h; exact h)) (fun hb=>O9 (k:=1000) (.opt rfl (by rw [hb]; rfl)) (hy i (i + 1 + k) oz hkn (QR hb) (xP hb)) (.cons (.opt rfl (by rw [hb]; rfl)) (.cons (.opt rfl (by rw [hb]; rfl)) .nil)) (by intro k z h; exact h) rfl rfl)) ?_;refine gC (fun t40=>?_) (fun t40=>?_)
   ·have h2 : dj l kw i (i + 1 + k) = true := by have h9 := xP t40; rw [Bool.not_not] at h9; exact h9
    have hat:fQ l kw i=some (i+1+k):=by unfold fQ;rw[gS oz hkj (by rw[h2];rfl),Option.map_some];congr 1;omega
    have hg:cF l kw=some (jO l kw i (i+1+k)):=by unfold cF;rw[gS hin hj (by rw[hat];rfl),Option.map_some,hat]
    refine gR ?_;simp only[hg,h2,Option.isSome_some,Option.getD_some,cond_true];exact ak.keep (fun k z h=>KJ h)
   have h2:dj l kw i (i+1+k)=false:=by cases hc:cond (dL l kw i) (dL l kw ((i+1+k:Nat):Int)) false with |false=>exact DL hc |true=>rw[hc,Bool.not_not]at t40;exact t40
   refine ga aG ?_;exact aE J2 (k+1) ⟨by omega,fun j h9=>by rcases lt_or_ge j k with g |g;exact hkj j g;(have:j=k:=by omega);subst this;rw[h2];rfl⟩ (hw:=Wk.of aR (.cons rfl (BlkSub.of (by rw[h2])) (.cons rfl (BlkSub.of (by rw[h2];rfl)) (.cons rfl (BlkSub.of (by rw[h2])) .nil))))
  have hkn:¬i+1+k<l.bo.length:=fun h=>by have h1:=rV t23;omega
  have hat:fQ l kw i=none:=by unfold fQ;rw[show l.bo.length-(i+1)=k by omega,iN hkj];rfl
  refine ga aG ?_;exact aE J1 (i+1) ⟨hin,fun j h9=>by rcases lt_or_ge j i with g |g;exact hj j g;(have:j=i:=by omega);subst this;rw[hat];rfl⟩
 have hin:=a6 hi t12;have hg:cF l kw=none:=by unfold cF;rw[<- hin,iN hj];rfl
 refine gR ?_;simp only[hg,Option.isSome_none,Option.getD_none];exact ak.keep (fun k z h=>h)
variable{P:Program}
mutual
def AV.pm(σ:Nat->Nat):AV->AV
  | .ms k sz off len=>.ms (σ k) sz off len
  | .ptr k off=>.ptr (σ k) off
  | .eptr k sz i off=>.eptr (σ k) sz i off
  | .yl k=>.yl (σ k)
  | .agg cs=>.agg (AV.pms σ cs)
  | .tup cs=>.tup (AV.pms σ cs)
  | .fn f cs=>.fn f (AV.pms σ cs)
  | .opt b x=>.opt b (AV.pm σ x)
  | .v x=>.v x
  | .lst sz l=>.lst sz l
  | .iptr l=>.iptr l
  | .cl f cs ds=>.cl f cs ds
def AV.pms(σ:Nat->Nat):List AV->List AV
  |[]=>[]
  |x::l=>AV.pm σ x::AV.pms σ l
end
theorem AV.pms_eq(σ:Nat->Nat):∀l,AV.pms σ l=l.map (AV.pm σ)
 |[]=>rfl
 |x::l=>by simp only[AV.pms,map_cons,AV.pms_eq σ l]
theorem AV.pm_one(σ:Nat->Nat)(x:AV)(h:x.one=true):(x.pm σ).one=true:=by
 cases x <;> simp only[AV.pm] <;> exact h
mutual
theorem AV.pm_pm{σ:Nat->Nat}(hσ:∀k,σ (σ k)=k):∀x:AV,(x.pm σ).pm σ=x
 | .ms k sz off len=>by simp only[AV.pm,hσ]
 | .ptr k off=>by simp only[AV.pm,hσ]
 | .eptr k sz i off=>by simp only[AV.pm,hσ]
 | .yl k=>by simp only[AV.pm,hσ]
 | .agg cs=>by simp only[AV.pm];rw[AV.pms_pms hσ cs]
 | .tup cs=>by simp only[AV.pm];rw[AV.pms_pms hσ cs]
 | .fn f cs=>by simp only[AV.pm];rw[AV.pms_pms hσ cs]
 | .opt b x=>by simp only[AV.pm];rw[AV.pm_pm hσ x]
 | .v x=>by simp only[AV.pm]
 | .lst sz l=>by simp only[AV.pm]
 | .iptr l=>by simp only[AV.pm]
 | .cl f cs ds=>by simp only[AV.pm]
theorem AV.pms_pms{σ:Nat->Nat}(hσ:∀k,σ (σ k)=k):∀l:List AV,AV.pms σ (AV.pms σ l)=l
 |[]=>by simp only[AV.pms]
 |x::l=>by simp only[AV.pms];rw[AV.pm_pm hσ x,AV.pms_pms hσ l]
end
theorem sP{g:Nat->Array Value->Prop}{S:Nat->Nat->Prop}{σ:Nat->Nat}(hσ:∀k,σ (σ k)=k){m:Nat->Option Nat}{v:Value}{x:AV}(h:Rep g S m v x):Rep g S (fun k=>m (σ k)) v (x.pm σ):=by
 induction h with
 |v x=>exact .v x
 |lst0 a cap sz'=>exact .lst0 a cap sz'
 |lst u hb hc hl hs ho hu hr _=>exact .lst u hb hc hl hs ho hu hr
 |iptr u hb ho hu hr _=>exact .iptr u hb ho hu hr
 |cl a b c d _ _=>exact .cl a b c d
 |ptr hm=>exact .ptr (by simp only[hσ];exact hm)
 |eptr hm=>exact .eptr (by simp only[hσ];exact hm)
 |yl hm=>exact .yl (by simp only[hσ];exact hm)
 |ms0 a k sz off=>exact .ms0 _ _ _ _
 |ms hm hc hS=>exact .ms (by simp only[hσ];exact hm) hc hS
 |opt h h' ih=>exact .opt ih h'
 |agg hn h1 hr ih =>
  simp only[AV.pm,AV.pms_eq];refine .agg (by simpa using hn) ?_ ?_
  ·intro j c hc;simp only[getElem?_map,map_eq_some_iff]at hc;obtain⟨y,hy,rfl⟩:=hc;exact AV.pm_one _ _ (h1 j y hy)
  ·intro j u c hu hc;simp only[getElem?_map,map_eq_some_iff]at hc;obtain⟨y,hy,rfl⟩:=hc;exact ih j u y hu hy
 |tup hn hr ih =>
  simp only[AV.pm,AV.pms_eq];refine .tup (by simpa using hn) ?_;intro j u c hu hc;simp only[getElem?_map,map_eq_some_iff]at hc;obtain⟨y,hy,rfl⟩:=hc;exact ih j u y hu hy
 |fn hn hr ih =>
  simp only[AV.pm,AV.pms_eq];refine .fn (by simpa using hn) ?_;intro j u c hu hc;simp only[getElem?_map,map_eq_some_iff]at hc;obtain⟨y,hy,rfl⟩:=hc;exact ih j u y hu hy
theorem H2{g:Nat->Array Value->Prop}{S:Nat->Nat->Prop}{σ:Nat->Nat}(hσ:∀k,σ (σ k)=k){m:Nat->Option Nat}{w:World}{o:Option Nat}{x:Blk}(h:BlkRep g S m w o x) :
  BlkRep g S (fun k=>m (σ k)) w o (x.map (AV.pm σ)):=by
 cases x with
 |row sz es=>exact h.mono (fun _ _ h=>h) (fun _ _ h=>h) (fun _ _ hk=>hk.elim) rfl (fun _ _=>rfl)
 |vec vs=>exact h.mono (fun _ _ h=>h) (fun _ _ h=>h) (fun _ _ hk=>hk.elim) rfl (fun _ _=>rfl)
 |loop=>exact h.mapLoop _ (fun _ _ _ _ h=>sP hσ h)
 |box cs =>
  cases h with
  |box hw hn h1 hrr =>
   refine .box hw (by simpa using hn) ?_ ?_
   ·intro j x hx;simp only[getElem?_map,map_eq_some_iff]at hx;obtain⟨y,hy,rfl⟩:=hx;exact AV.pm_one _ _ (h1 j y hy)
   ·intro j u x hu hx;simp only[getElem?_map,map_eq_some_iff]at hx;obtain⟨y,hy,rfl⟩:=hx;exact sP hσ (hrr j u y hu hy)
theorem xu{σ:Nat->Nat}(hσ:∀k,σ (σ k)=k):∀sl:bq,iy (AV.pm σ) (iy (AV.pm σ) sl)=sl
 |[]=>rfl
 |(t,none)::l=>by simp only[iy,xu hσ l]
 |(t,some x)::l=>by simp only[iy,xu hσ l,AV.pm_pm hσ x]
theorem Blk.pm_pm{σ:Nat->Nat}(hσ:∀k,σ (σ k)=k)(x:Blk):(x.map (AV.pm σ)).map (AV.pm σ)=x:=by
 cases x with
 |row sz es=>rfl
 |vec vs=>rfl
 |loop d st pe sl=>simp only[Blk.map,xu hσ]
 |box cs =>
  simp only[Blk.map];rw[<- AV.pms_eq,<- AV.pms_eq,AV.pms_pms hσ]
def iD(σ:Nat->Nat):Hp->Hp
  |[]=>[]
  |(k,x)::l=>(σ k,match x with |some b=>some (b.map (AV.pm σ)) |none=>none)::iD σ l
theorem jH{σ:Nat->Nat}(hσ:∀k,σ (σ k)=k):∀(H:Hp)(k:Nat),lk (iD σ H) k=(lk H (σ k)).map (Blk.map (AV.pm σ))
 |[],k=>rfl
 |(k',x)::l,k=>by
  simp only[iD,aH,jH hσ l k]
  by_cases h:k=σ k'
  ·rw[if_pos h,if_pos (by rw[h,hσ])];cases x <;> rfl
  ·rw[if_neg h,if_neg (fun e=>h (by rw[<- e,hσ]))]
theorem yq{σ:Nat->Nat}(hσ:∀k,σ (σ k)=k)(H:Hp)(m:Nat->Option Nat):aS (iD σ H) (fun k=>m (σ k))=aS H m:=by
 funext b;apply propext;constructor
 ·rintro⟨k,z,hz,hb⟩;rw[jH hσ,map_eq_some_iff]at hz;obtain⟨y,hy,rfl⟩:=hz;exact⟨σ k,y,hy,hb⟩
 ·rintro⟨k,y,hy,hb⟩;exact⟨σ k,y.map (AV.pm σ),by rw[jH hσ,hσ,hy];rfl,by simp only[hσ];exact hb⟩
theorem zo{σ:Nat->Nat}(hσ:∀k,σ (σ k)=k){ext:Nat->Prop}{H:Hp}{m:Nat->Option Nat}{w:World}(h:HeapRel ext H m w):HeapRel ext (iD σ H) (fun k=>m (σ k)) w:=by
 have e:Im ext (iD σ H) (fun k=>m (σ k)) w=Im ext H m w:=by funext b cs;simp only[Im,yq hσ]
 refine⟨?_,?_,?_⟩
 ·intro k z hz;rw[jH hσ,map_eq_some_iff]at hz;obtain⟨y,hy,rfl⟩:=hz;rw[e];exact H2 hσ (h.blk _ y hy)
 ·intro k k' z z' b hz hz' hb hb';rw[jH hσ,map_eq_some_iff]at hz hz';obtain⟨y,hy,_⟩:=hz;obtain⟨y',hy',_⟩:=hz';have:=h.inj _ _ y y' b hy hy' hb hb';rw[<- hσ k,this,hσ]
 ·intro k z b hz hb;rw[jH hσ,map_eq_some_iff]at hz;obtain⟨y,hy,_⟩:=hz;exact h.sep _ y b hy hb
theorem Con.pm{σ:Nat->Nat}(hσ:∀k,σ (σ k)=k){f:FuncId}{args:List AV}{H H':Hp}{r:AV}(h:Con P f args H r H'):Con P f (args.map (AV.pm σ)) (iD σ H) (r.pm σ) (iD σ H'):=by
 refine⟨h.ok,?_⟩;intro ext m w vs hext hheap hvs hrep
 have hlk:∀k,lk (iD σ (iD σ H)) k=lk H k:=by
  intro k;rw[jH hσ,jH hσ,hσ];cases lk H k with
  |none=>rfl
  |some y=>simp only[Option.map_some,Blk.pm_pm hσ]
 have hh:=HeapRel.congr hlk (zo hσ hheap);have em:(fun k=>(fun k=>m (σ k)) (σ k))=m:=by funext k;simp only[hσ]
 have eo:aS (iD σ H) m=aS H (fun k=>m (σ k)):=by
  have:=yq hσ H (fun k=>m (σ k));rw[em]at this;exact this
 have ei:Im ext (iD σ H) m w=Im ext H (fun k=>m (σ k)) w:=by funext b cs;simp only[Im,eo]
 refine Calls.mono (h.ret ext (fun k=>m (σ k)) w vs hext hh (by simpa using hvs) (fun j v x hv hx=>?_)) ?_
 ·have h1 := hrep j v (x.pm σ) hv (by simp[hx]);have h2:=sP hσ h1;rw[AV.pm_pm hσ,ei]at h2;exact h2
 ·rintro e w' ⟨v,m',rfl,hf,hh',hn,hk,hrr⟩;refine⟨v,fun k=>m' (σ k),rfl,eo▸hf,zo hσ hh',?_,?_,?_⟩
  ·intro k x b hx hb;rw[jH hσ,map_eq_some_iff]at hx;obtain⟨y,hy,_⟩:=hx;rw[eo];exact hn _ y b hy hb
  ·intro k x y hx hy;rw[jH hσ,map_eq_some_iff]at hx hy;obtain⟨x',hx',_⟩:=hx;obtain⟨y',hy',_⟩:=hy;have:=hk _ x' y' hx' hy';simpa only[hσ]using this
  ·have e2 : Im ext (iD σ H') (fun k => m' (σ k)) w' = Im ext H' m' w' := by funext b cs; simp only [Im, yq hσ]
   rw[e2];exact sP hσ hrr
end Go.Lw
namespace Go.Lw
open Go.Proofs
theorem gZ{P:Program}{N:Nat}{Q:Exit->AS->Prop}{c:Code}{s:AS}(h:Gd P N Q (.code c [] s)):bn P N c Q s:=h
theorem Ox{P:Program}{N:Nat}{Q:Exit->AS->Prop}{c:Code}{s s':AS}(hw:Wk s s')(h:jf P N c Q s'):jf P N c Q s:=by
 intro C m a w n hro hN hr;obtain⟨m',hr'⟩:=hw C m a w hr;exact h C m' a w n hro hN hr'
def uX(k:Nat):Nat:=bif Nat.beq k 1000 then 900 else bif Nat.beq k 900 then 1000 else bif Nat.beq k 1001 then 2 else bif Nat.beq k 2 then 1001 else bif Nat.beq k 1002 then 3 else bif Nat.beq k 3 then 1002 else k
theorem nb{a b:Nat}(h:¬a=b):Nat.beq a b=false:=by
 cases h1:Nat.beq a b
 ·rfl
 ·exact absurd (eq_of_beq_eq_true h1) h
theorem NA(k:Nat):uX (uX k)=k:=by
 by_cases h1:k=1000
 ·subst h1;rfl
 by_cases h2:k=900
 ·subst h2;rfl
 by_cases h3:k=1001
 ·subst h3;rfl
 by_cases h4:k=2
 ·subst h4;rfl
 by_cases h5:k=1002
 ·subst h5;rfl
 by_cases h6:k=3
 ·subst h6;rfl
 have e:uX k=k:=by simp only[uX,nb h1,nb h2,nb h3,nb h4,nb h5,nb h6,cond_false]
 rw[e,e]
theorem MQ(l:Li)(hl:l.ok)(hli:aD l=0)(kw:List Bool)(hk:kw.length=l.bo.length)(r:List AV) :
  FP 380 [.iptr (dg l kw (bI l) r)] (.tup [((cF l kw).getD default).av,bl (cF l kw).isSome]):=by
 refine C5 (rs:=Tryz.f380.results.toList) func380 rfl rfl (by simp) rfl (fun k z h=>by cases h) ?_;refine yi (gZ (go ?_));refine Ox (s':=⟨[(1,some (.iptr [.iptr (dg l kw (bI l) r)])),(2,some (.ptr 2 0)),(3,some (.ptr 3 0))],[(2,some (wz default)),(3,some (vO false))]⟩) ((Wk.freezeB (k:=1) rfl rfl).trans (Wk.of (.k (.k (.k .nil))) (.cons rfl (BlkSub.bL (.cons (.refl _) (.cons (.nil _ _ _) (.cons (.nil _ _ _) (.cons (.refl _) .nil)))) rfl) (.k .nil)))) ?_;refine O8 ?_;refine yi (gZ (go ?_));refine gc (OY (dg l kw (bI l) r)) ?_;refine Mm ?_
 have hy:∀i k:Nat,i<k->k<l.bo.length->dL l kw i=true->dL l kw k=true ->
   sV prog 1000 [i64 i,i64 k] (eH (EX Tryz.f380.ntmps Tryz.f380.body) (dg l kw (bI l) r) false default) (bl (!dj l kw i k)) (eH (EX Tryz.f380.ntmps Tryz.f380.body) (dg l kw (bI l) r) (dj l kw i k) (cond (dj l kw i k) (jO l kw i k) default)):=by
  intro i k hik hkn hfi hfk;refine Qt (k:=1000) (fun k z h=>C9 h) rfl rfl (by intro p hp;have h9:p∈[11,12]:=hp;have h8:p=11\/p=12:=(by simpa using h9);show p<42;rcases h8 with h7 |h7 <;> (rw[h7];decide)) ?_;refine gZ (go ?_);refine⟨rfl,_,_,rfl,?_⟩;have hJ:gJ l 0 i (fun o=>decide (o=(k:Int)))=bM l 0 i (cC l.bo.length k):=xh hli (fun o h0 h1=>(uI h0 oz oz).symm);refine gZ (go ?_);refine gc (tM l hl hli kw hk r 0 i) ?_;refine gc (tM l hl hli kw hk r 0 k) ?_;refine gD ?_ (5,0);refine gW (Wk.freezeB (k:=5) rfl rfl) ?_;refine gc (r:=i64 (bM l 0 i (cC l.bo.length k))) (by rw[<- hJ];exact Con.sA (.cons (.refl _) (.cons (.refl _) (.cons (.refl _) (.cons (pW rfl) .nil)))) (EJ l hl hli _ 0 i 406 [] [.iptr [i64 k]] (fun o=>decide (o=(k:Int))) (fun o h0 h1=>IC o k))) ?_;refine gC (fun ht=>?_) (fun ht=>?_)
  ·have h2 : dj l kw i k = true := by unfold dj; rw [hfi, hfk]; exact (uP.symm.trans ht)
   rw[h2];exact⟨_,_,rfl,ak.keep (by intro q z h;simp only[eH,aH]at h;split at h;(subst_vars;exact h);split at h;(subst_vars;exact h);split at h;(subst_vars;exact h);cases h)⟩
  ·have h2 : dj l kw i k = false := by unfold dj; rw [hfi, hfk]; exact (uP.symm.trans ht)
   rw[h2];exact⟨_,_,rfl,ak.keep (by intro q z h;simp only[eH,aH]at h;split at h;(subst_vars;exact h);split at h;(subst_vars;exact h);split at h;(subst_vars;exact h);cases h)⟩
 have hcon:=Con.pm NA (Kn _ l hl hli kw hk r hy);cases hg:cF l kw with
 |none =>
  rw[hg]at hcon;refine An (k:=900) (sl0:=[(1,some (.iptr [.iptr (dg l kw (bI l) r)])),(2,some (.ptr 2 0)),(3,some (.ptr 3 0))]) (.tmp rfl) (by intro t x h;simp only[aH]at h;split at h;(subst_vars;exact h);split at h;(subst_vars;exact h);split at h;(subst_vars;exact h);cases h) rfl rfl hcon (fun k' z h=>h) rfl rfl rfl rfl (by intro h;cases h) (.inl ⟨rfl,?_⟩);refine yi (gZ (go ?_));refine bn.out (gZ (go ?_));refine gR ?_;exact ak.sub ak.pure (Sub.tup (.cons oL (.cons (.refl _) .nil)))
 |some g =>
  rw[hg]at hcon;refine An (k:=900) (sl0:=[(1,some (.iptr [.iptr (dg l kw (bI l) r)])),(2,some (.ptr 2 0)),(3,some (.ptr 3 0))]) (.tmp rfl) (by intro t x h;simp only[aH]at h;split at h;(subst_vars;exact h);split at h;(subst_vars;exact h);split at h;(subst_vars;exact h);cases h) rfl rfl hcon (fun k' z h=>h) rfl rfl rfl rfl (by intro h;cases h) (.inr ⟨rfl,?_⟩);exact(bi (P:=prog) (N:=Tryz.f380.ntmps) (e:=.ret) rfl)
theorem xb{α:Type}{o:Option α}(h:o.isSome=true):∃x,o=some x:=by cases o <;> simp_all
theorem nc{α:Type}{o:Option α}(h:o.isSome=false):o=none:=by cases o <;> simp_all
theorem QX(l:Li)(hl:l.ok)(hli:aD l=0)(kw:List Bool)(hk:kw.length=l.bo.length)(r:List AV) :
  FP 334 [.iptr (dg l kw (bI l) r)] (.tup [((bS l kw).getD default).av,bl (bS l kw).isSome]):=by
 refine ah func334 ?_;refine gc (Rz l hl hli kw (bI l) hk r) ?_;refine gC (fun t13=>?_) (fun t13=>?_)
 ·obtain⟨g,hg⟩:=xb t13;refine bi ?_;unfold bS;rw[hg];rfl
 have hg:=nc t13;refine gc (MQ l hl hli kw hk r) ?_;refine gC (fun t20=>?_) (fun t20=>?_)
 ·obtain⟨g,hg2⟩:=xb t20;refine bi ?_;unfold bS;rw[hg,hg2];rfl
 have hg2:=nc t20;refine gc (QU l hl hli kw hk r) ?_;refine bi ?_;unfold bS;rw[hg,hg2];rfl
theorem E6{ts:LL}{r e:Nat}(tw:Tw ts r){a b c d:List Rat}(ha:Nm ts.length e a)(hb:Nm ts.length e b)(hc:Nm ts.length e c)(hd:Nm ts.length e d)(he:2*e<=lm ts.length) :
  Con prog 123 [.ptr 1000 0,aJ a b,aJ c d] [(1000,some (fV ts))] (aJ (sh ts.length (subT ts (ad ts.length a) (ad ts.length c))) (sh ts.length (subT ts (ad ts.length b) (ad ts.length d)))) [(1000,some (fV ts))]:=by
 refine gF func123 (fun k z h=>bf h) ?_;refine gt (aA (sY tw ha hc oz) (aB rfl rfl rfl) aC rfl rfl) ?_;refine gt (aA (sY tw hb hd oz) (aB rfl rfl rfl) aC rfl rfl) ?_;refine gD ?_;refine gR ?_;exact ak.keep (aZ rfl)
theorem EW(R:List AV)(a:List Rat):Con prog 124 [.ptr 1000 0,nA a] [(1000,some (.box [.lst 1 R,.v .nilIface]))] (.tup [nA a,.v .nilIface]) [(1000,some (.box [.lst 1 R,.v .nilIface]))]:=by
 refine gF func124 (fun k z h=>bf h) ?_;refine gC (fun t10=>?_) (fun t10=>?_) (st1:=(2,0));cases t10;refine gR ?_;show ak _ (AV.tup [nA a,.v .nilIface]) _ _;exact ak.keep (aZ rfl)
theorem uV(R:List AV)(a b:List Rat):Con prog 160 [.ptr 1000 0,aJ a b] [(1000,some (.box [.lst 1 R,.v .nilIface]))] (.tup [aJ a b,.v .nilIface]) [(1000,some (.box [.lst 1 R,.v .nilIface]))]:=by
 refine gF func160 (fun k z h=>bf h) ?_;refine gC (fun t10=>?_) (fun t10=>?_) (st1:=(2,0));cases t10;refine gR ?_;show ak _ (AV.tup [aJ a b,.v .nilIface]) _ _;exact ak.keep (aZ rfl)
theorem Dp{ts:LL}{r e:Nat}(tw:Tw ts r){a b c d:List Rat}(ha:Nm ts.length e a)(hb:Nm ts.length e b)(hc:Nm ts.length e c)(hd:Nm ts.length e d)(he:e<=lm ts.length)(f:FuncId)(v:List Rat)
  (hf:Con prog f [.ptr 1000 0,aJ a b,aJ c d] [(1000,some (fV ts))] (nA v) [(1000,some (fV ts))]) :
  FP 161 [aN ts,aJ a b,aJ c d,.fn f []] (.tup [nA v,.v .nilIface]):=by
 refine ah func161 ?_;refine gc (qK (e:=e) tw [(a,b),(c,d)] (by simp only[mem_cons,not_mem_nil,or_false];rintro p (rfl |rfl);exact⟨ha,hb⟩;exact⟨hc,hd⟩) he (by simp)) ?_;refine gC (fun t18=>?_) (fun t18=>?_) (st1:=(3,0));cases t18;refine gs (Rh (.tmp rfl) (show Con prog f ([.ptr 22 0,aJ a b,aJ c d]++[]) [(22,some (fV ts))] (nA v) [(22,some (fV ts))]from Con.rB 22 rfl rfl rfl rfl hf) (aB rfl rfl rfl) aC rfl rfl) ?_;refine gt (aA (Con.rB 22 rfl rfl rfl rfl (EW _ _)) (be rfl rfl) aC rfl rfl) ?_;refine bi ?_;rfl
theorem yG{ts:LL}{r e:Nat}(tw:Tw ts r){a b c d:List Rat}(ha:Nm ts.length e a)(hb:Nm ts.length e b)(hc:Nm ts.length e c)(hd:Nm ts.length e d)(he:2*(e+e+kB r ts.length)<=lm ts.length) :
  FP 77 [aN ts,aJ a b,aJ c d] (.tup [nA (sh ts.length (nG ts (ad ts.length a) (ad ts.length b) (ad ts.length c) (ad ts.length d))),.v .nilIface]):=by
 refine ah func77 ?_;refine gc (Con.sA (.cons (.refl _) (.cons (.refl _) (.cons (.refl _) (.cons (Sub.fn0 _) .nil)))) (Dp tw ha hb hc hd oz _ _ (F9 tw ha hb hc hd he))) ?_;refine bi ?_
 first |rfl |(simp;done)
theorem wI{ts:LL}{r e:Nat}(tw:Tw ts r){a b c d:List Rat}(ha:Nm ts.length e a)(hb:Nm ts.length e b)(hc:Nm ts.length e c)(hd:Nm ts.length e d)(he:2*(e+e+kB r ts.length)<=lm ts.length) :
  FP 178 [aN ts,nA a,nA b,aJ c d] (.tup [aJ (sh ts.length (rz ts (ad ts.length a) (ad ts.length b) (ad ts.length c) (ad ts.length d))) (sh ts.length (qN ts (ad ts.length a) (ad ts.length b) (ad ts.length c) (ad ts.length d))),.v .nilIface]):=by
 refine ah func178 ?_;refine gc (uu (e:=e) tw [a,b,c,d] (by simp only[mem_cons,not_mem_nil,or_false];rintro x (rfl |rfl |rfl |rfl) <;> assumption) oz (by simp)) ?_;refine gC (fun t22=>?_) (fun t22=>?_) (st1:=(3,0));cases t22;refine gt (aA (Con.rB 27 rfl rfl rfl rfl (jE tw ha hc oz)) (aB rfl rfl rfl) aC rfl rfl) ?_;refine gt (aA (Con.rB 27 rfl rfl rfl rfl (jE tw hb hd oz)) (aB rfl rfl rfl) aC rfl rfl) ?_;refine gt (aA (Con.rB 27 rfl rfl rfl rfl (yn▸sY tw (ha.mul tw rfl hc) (hb.mul tw rfl hd) oz)) (aB rfl rfl rfl) aC rfl rfl) ?_;refine gt (aA (Con.rB 27 rfl rfl rfl rfl (jE tw hb hc oz)) (aB rfl rfl rfl) aC rfl rfl) ?_;refine gt (aA (Con.rB 27 rfl rfl rfl rfl (jE tw ha hd oz)) (aB rfl rfl rfl) aC rfl rfl) ?_;refine gt (aA (Con.rB 27 rfl rfl rfl rfl (vu▸sH tw (hb.mul tw rfl hc) (ha.mul tw rfl hd) oz)) (aB rfl rfl rfl) aC rfl rfl) ?_;refine gt (aA (Con.rB 27 rfl rfl rfl rfl (uV _ _ _)) (be rfl rfl) aC rfl rfl) ?_;refine gD ?_;refine bi ?_;rfl
theorem FE{ts:LL}{r e:Nat}(tw:Tw ts r){a b c d:List Rat}(ha:Nm ts.length e a)(hb:Nm ts.length e b)(hc:Nm ts.length e c)(hd:Nm ts.length e d)(he:2*e<=lm ts.length) :
  FP 179 [aN ts,aJ a b,aJ c d] (.tup [aJ (sh ts.length (T.add ts.length (ad ts.length a) (ad ts.length c))) (sh ts.length (T.add ts.length (ad ts.length b) (ad ts.length d))),.v .nilIface]):=by
 refine ah func179 ?_;refine gc (qK (e:=e) tw [(a,b),(c,d)] (by simp only[mem_cons,not_mem_nil,or_false];rintro p (rfl |rfl);exact⟨ha,hb⟩;exact⟨hc,hd⟩) oz (by simp)) ?_;refine gC (fun t16=>?_) (fun t16=>?_) (st1:=(3,0));cases t16;refine gt (aA (Con.rB 21 rfl rfl rfl rfl (sH tw ha hc oz)) (aB rfl rfl rfl) aC rfl rfl) ?_;refine gt (aA (Con.rB 21 rfl rfl rfl rfl (sH tw hb hd oz)) (aB rfl rfl rfl) aC rfl rfl) ?_;refine gt (aA (Con.rB 21 rfl rfl rfl rfl (uV _ _ _)) (be rfl rfl) aC rfl rfl) ?_;refine gD ?_;refine bi ?_;rfl
theorem so{x y:Rat}(hx:Qs x)(hy:Qs y):FP 54 [qA x,qA y] (aJ (sh 0 (x:Rat)) (sh 0 (y:Rat))):=by
 refine ah func54 ?_;refine gc (mz hx) ?_;refine gc (mz hy) ?_;refine gD ?_;refine ae ?_
 first |rfl |(simp;done)
theorem Ri{ts:LL}{r e:Nat}(tw:Tw ts r){a b c d:List Rat}(ha:Nm ts.length e a)(hb:Nm ts.length e b)(hc:Nm ts.length e c)(hd:Nm ts.length e d){x y:Rat}(hx:Qb e x)(hy:Qb e y)(he:8*e+4*kB r ts.length+4<=lm ts.length) :
  FP 86 [aN ts,.agg [nA a,nA b,nA c,nA d],qA x,qA y] (.tup [aJ (sh ts.length (si ts (ad ts.length a) (ad ts.length b) (ad ts.length c) x y)) (sh ts.length (uK ts (ad ts.length a) (ad ts.length b) (ad ts.length d) x y)),.v .nilIface]):=by
 have hlm:=iT ts.length;have nx:=Nm.ofQ ha.five (Cb.one hx);have ny:=Nm.ofQ ha.five (Cb.one hy);have nX:=s7 tw ha hb nx ny;have nY:=tO tw ha hb nx ny;have z1:e<=2*(e+e+kB r ts.length)+1:=by omega
 have z2:2*(2*(e+e+kB r ts.length)+1)<=lm ts.length:=BC he;have hadd:=FE tw nX nY (hc.mono z1) (hd.mono z1) z2;refine ah func86 ?_;refine gc (uu (e:=e) tw [a,b,c,d] (by simp only[mem_cons,not_mem_nil,or_false];rintro x (rfl |rfl |rfl |rfl) <;> assumption) oz (by simp)) ?_;refine gC (fun t25=>?_) (fun t25=>?_) (st1:=(3,0));cases t25;refine gc (so (hx.qs oz) (hy.qs oz)) ?_;refine gc (wI tw ha hb nx ny oz) ?_;refine gD ?_;refine gC (fun t41=>?_) (fun t41=>?_) (st1:=(6,0));cases t41;refine gc hadd ?_;refine bi ?_;rw[yM,wF];rfl
theorem lZ{ts:LL}{r e f:Nat}(tw:Tw ts r){a b:List Rat}(ha:Nm ts.length e a)(hb:Nm ts.length f b)(he:e+f+1<=lm ts.length):FP 23 [aN ts,nA a,nA b] (bl (iJ ts (ad ts.length a) (ad ts.length b))):=by
 refine ah func23 ?_;refine gc (Kd tw ha hb he) ?_;refine ae ?_;exact congrArg bl (OK _)
theorem QD{ts:LL}{r e:Nat}(tw:Tw ts r){a b c d:List Rat}(ha:Nm ts.length e a)(hb:Nm ts.length e b)(hc:Nm ts.length e c)(hd:Nm ts.length e d)(he:2*e+1<=lm ts.length):FP 81 [aN ts,aJ a b,aJ c d] (bl (iJ ts (ad ts.length a) (ad ts.length c)&&iJ ts (ad ts.length b) (ad ts.length d))):=by
 refine ah func81 ?_;refine gc (lZ tw ha hc oz) ?_;refine bw (fun _=>(lZ tw hb hd oz)) ?_;refine ae ?_;exact congrArg bl (gN _ _)
theorem QS{x y:Rat}(hx:Qs x)(hy:Qs y):FP 93 [qA x,qA y] (aJ (sh 0 (x:Rat)) (sh 0 (y:Rat))):=by
 refine ah func93 ?_;refine gc (Ec hx) ?_;refine gc (Ec hy) ?_;refine gD ?_;refine ae ?_
 first |rfl |(simp;done)
theorem Qu{ts:LL}{r e:Nat}(tw:Tw ts r){a b c d p q u v:List Rat}(ha:Nm ts.length e a)(hb:Nm ts.length e b)(hc:Nm ts.length e c)(hd:Nm ts.length e d)(hp:Nm ts.length e p)(hq:Nm ts.length e q)(hu:Nm ts.length e u)(hv:Nm ts.length e v)(he:2*e+1<=lm ts.length) :
  FP 20 [aN ts,.agg [nA a,nA b,nA c,nA d],.agg [nA p,nA q,nA u,nA v]] (bl (iJ ts (ad ts.length a) (ad ts.length p)&&iJ ts (ad ts.length b) (ad ts.length q)&&iJ ts (ad ts.length c) (ad ts.length u)&&iJ ts (ad ts.length d) (ad ts.length v))):=by
 refine ah func20 ?_;refine gc (lZ tw ha hp oz) ?_;refine bw (fun _=>(lZ tw hb hq oz)) ?_;refine bw (fun _=>(lZ tw hc hu oz)) ?_;refine bw (fun _=>(lZ tw hd hv oz)) ?_;refine ae ?_;exact congrArg bl (Jq _ _ _ _)
def u8(n:Nat):AV:=.v (.int .u8 n)
theorem rj{p q:Bool}{a b:Nat}{c:Nat}(hp:p=decide (a<=c))(hq:q=decide (c<=b)):cond p q false=decide (a<=c/\c<=b):=by
 subst hp;subst hq
 by_cases h:a<=c
 ·simp[h]
 ·simp[h]
theorem qO(c k:Nat):aa .geq (c:Int) (k:Int)=decide (k<=c):=by simp only[aa,decide_eq_decide];omega
theorem pO(c k:Nat):aa .leq (c:Int) (k:Int)=decide (c<=k):=by simp only[aa,decide_eq_decide];omega
theorem Q6(c:Nat):cond (cond (aa .geq (c:Int) 97) (aa .leq (c:Int) 122) false) true (cond (aa .geq (c:Int) 65) (aa .leq (c:Int) 90) false)=d6 c:=by
 have e1:cond (aa .geq (c:Int) 97) (aa .leq (c:Int) 122) false=decide (97<=c/\c<=122):=rj (qO c 97) (pO c 122);have e2:cond (aa .geq (c:Int) 65) (aa .leq (c:Int) 90) false=decide (65<=c/\c<=90):=rj (qO c 65) (pO c 90);rw[e1,e2];unfold d6;cases decide (97<=c/\c<=122) <;> rfl
theorem QC(c:Nat):cond (cond (aa .geq (c:Int) 65) (aa .leq (c:Int) 90) false) true (cond (aa .geq (c:Int) 97) (aa .leq (c:Int) 122) false)=d6 c:=by
 have e1:cond (aa .geq (c:Int) 97) (aa .leq (c:Int) 122) false=decide (97<=c/\c<=122):=rj (qO c 97) (pO c 122);have e2:cond (aa .geq (c:Int) 65) (aa .leq (c:Int) 90) false=decide (65<=c/\c<=90):=rj (qO c 65) (pO c 90);rw[e1,e2];unfold d6;cases decide (97<=c/\c<=122) <;> cases decide (65<=c/\c<=90) <;> rfl
theorem Fz(c:Nat):cond (aa .geq (c:Int) 48) (aa .leq (c:Int) 57) false=oY c:=rj (qO c 48) (pO c 57)
theorem vR(c:Nat):cond (cond (d6 c) true (oY c)) true (aa .eql (c:Int) 95)=jn c:=by
 unfold jn
 have:aa .eql (c:Int) 95=decide (c=95):=by
  rw[Bool.eq_iff_iff];simp only[aa,beq_iff_eq,decide_eq_true_eq];omega
 rw[this];cases d6 c <;> cases oY c <;> rfl
theorem Fp(c:Nat):FP 368 [u8 c] (bl (d6 c)):=by
 refine ah func368 ?_;refine ae ?_;exact congrArg bl (Q6 c)
theorem No(c:Nat):FP 395 [u8 c] (bl (oY c)):=by
 refine ah func395 ?_;refine ae ?_;exact congrArg bl (Fz c)
theorem Kg(c:Nat):FP 369 [u8 c] (bl (jn c)):=by
 refine ah func369 ?_;refine gc (Fp c) ?_;refine bw (fun _=>(No c)) ?_;refine ae ?_;exact congrArg bl (vR c)
theorem Ca(c:Nat):FP 284 [u8 c] (bl (d6 c)):=by
 refine ah func284 ?_;refine ae ?_;exact congrArg bl (QC c)
theorem O2(c:Nat):FP 286 [u8 c] (bl (oY c)):=by
 refine ah func286 ?_;refine ae ?_;exact congrArg bl (Fz c)
theorem GY(s:ByteArray)(hs:s.size<=281474976710656):FP 313 [.v (.string s)] (i64 (d8 s)):=by
 refine ah func313 ?_;refine gs (dK rfl rfl rfl (fun h=>sD (.opt rfl (o1 h)) (.const _) T9 rfl oz (by have:=Bp h;omega) rfl)) ?_;refine bw (fun _=>(Fp (dt s 0))) ?_;refine gC (fun t11=>?_) (fun t11=>?_)
 ·have h0:d8 s=0:=Np t11;refine ae ?_;rw[h0];rfl
 obtain⟨h0,h1⟩:=Id t11;refine aI [0] [] (fun(n:Nat)=>[(3,some (i64 n))]) (fun _=>[]) (fun n=>1<=n/\n<=s.size/\et s 1 (s.size-1)=et s n (s.size-n)) (fun n=>s.size-n) 1 ⟨le_refl _,h0,rfl⟩ ?_;rintro n ⟨hn1,hn,hw⟩ K1 J1;refine gs (dK rfl rfl rfl (fun h=>sD (.opt rfl (o1 h)) (.opt rfl (o1 h)) T9 rfl oz (by have:=aU h;omega) rfl)) ?_;refine bw (fun _=>(Kg (dt s n))) ?_;refine gC (fun t21=>?_) (fun t21=>?_)
 ·have h2:n<s.size/\jn (dt s n)=true:=MX t21;refine ga aG ?_;exact aE J1 (n+1) ⟨by omega,by omega,by rw[hw,show s.size-n=(s.size-(n+1))+1 by omega];simp only[et,h2.2,if_true]⟩
 have h2:n<s.size->jn (dt s n)=false:=QN t21
 have h3:d8 s=n:=by
  unfold d8;rw[if_pos ⟨h0,h1⟩,hw];rcases lt_or_ge n s.size with h |h
  ·rw[show s.size-n=(s.size-(n+1))+1 by omega];simp only[et,h2 h,Bool.false_eq_true,if_false]
  ·rw[show s.size-n=0 by omega];rfl
 refine ae ?_;rw[h3]
theorem r6(s:ByteArray)(hs:s.size<=281474976710656):FP 211 [.v (.string s)] (bl (gp s)):=by
 refine ah func211 ?_;refine gc (GY s hs) ?_;refine ae ?_;exact congrArg bl (OA s)
theorem tR(s:ByteArray)(i:Nat):FP 285 [.v (.string s),i64 i] (u8 (dt s i)):=by
 refine ah func285 ?_;refine gC (fun t8=>?_) (fun t8=>?_)
 ·have h0:=aU t8;refine gs (sD (.tmp rfl) (.tmp rfl) T9 rfl oz oz rfl) ?_;refine ae ?_;rfl
 have h0:=rV t8;refine ae ?_;rw[CR oz];rfl
theorem O6(s:ByteArray)(hs:s.size<=281474976710656):FP 185 [.v (.string s),i64 0] (i64 ((if d6 (dt s 0)then et s 0 s.size else 0:Nat))):=by
 refine ah func185 ?_;refine gc (tR s 0) ?_;refine gc (Ca (dt s 0)) ?_;refine gC (fun t9=>?_) (fun t9=>?_)
 ·have h0 : d6 (dt s 0) = false := by simpa using t9
  refine ae ?_;rw[h0];rfl
 have h0:d6 (dt s 0)=true:=by simpa using t9
 refine aI [0] [] (fun(n:Nat)=>[(1,some (i64 n))]) (fun _=>[]) (fun n=>n<=s.size/\et s 0 s.size=et s n (s.size-n)) (fun n=>s.size-n) 0 ⟨zero_le _,rfl⟩ ?_;rintro n ⟨hn,hw⟩ K1 J1;refine gc (tR s n) ?_;refine gc (Ca (dt s n)) ?_;refine bw (fun _=>(tR s n)) ?_;refine bw (fun _=>(O2 (dt s n))) ?_;refine bw (fun _=>(tR s n)) ?_;refine gC (fun t26=>?_) (fun t26=>?_)
 ·have h1:jn (dt s n)=true:=(vR _).symm.trans t26
  have h2:n<s.size:=by
   rcases lt_or_ge n s.size with h |h
   ·exact h
   ·rw[CR h]at h1;cases h1
  refine ga aG ?_;exact aE J1 (n+1) ⟨by omega,by rw[hw,show s.size-n=(s.size-(n+1))+1 by omega];simp only[et,h1,if_true]⟩
 have h1:jn (dt s n)=false:=(vR _).symm.trans t26
 have h2:et s 0 s.size=n:=by
  rw[hw];rcases lt_or_ge n s.size with h |h
  ·rw[show s.size-n=(s.size-(n+1))+1 by omega];simp only[et,h1,Bool.false_eq_true,if_false]
  ·rw[show s.size-n=0 by omega];rfl
 refine ae ?_;rw[h0,h2];rfl
theorem pU(s:ByteArray)(hs:s.size<=281474976710656):FP 95 [.v (.string s)] (bl (gp s)):=by
 refine ah func95 ?_;refine bw (fun _=>(O6 s hs)) ?_;refine ae ?_;exact congrArg bl (It s)
theorem oX(i:Int)(n:Nat):FP 315 [i64 i,i64 n] (bl (bh i n)):=by
 refine ah func315 ?_;refine ae ?_;exact congrArg bl (EI i n)
theorem Le(bs:List Bd)(hbs:∀b∈bs,b.ok)(hl:bs.length<=281474976710656):FP 212 [.lst 2 (bs.map Bd.av)] (ba (eh bs.length (dO bs))):=by
 refine ah func212 ?_;refine gl ?_;refine aI [0,11,12] [] (fun(i:Nat)=>[(13,some (i64 i))]) (fun _=>[]) (fun i=>i<=bs.length/\∀j,j<i->dO bs j=0) (fun i=>bs.length-i) 0 ⟨zero_le _,fun j h=>by omega⟩ ?_;rintro i ⟨hi,hj⟩ K1 J1;refine gC (fun t14=>?_) (fun t14=>?_)
 ·have hin:=aU t14;obtain⟨b,hb⟩:=ay hin;have hbd:bs.getD i default=b:=aL hb;have hbo:=hbs b (mem_of_getElem? hb);have hbdup:=lD Bd.name hb;refine gi (az hb) ?_;refine gc (r6 b.name hbo.name) ?_;refine gC (fun t21=>?_) (fun t21=>?_)
  ·have h1:=da t21;have e1:dO bs i = 5:=by unfold dO; rw [hbd,if_pos h1]
   refine ae ?_;rw[dG hin hj (by rw[e1];decide),e1];rfl
  have h1:=cV t21;refine gs (cc (.tmp rfl) (.none _) (.some _ (.tmp rfl) oz) T22 rfl T120 rfl oz (by simp only[length_map];omega) rfl) ?_;refine ge rfl ?_;refine aI [0,3,4,11,12,13] [4] (fun(k:Nat)=>[(25,some (.lst 2 ((bs.take i).map Bd.av))),(26,some (i64 i)),(27,some (i64 k))]) (fun _=>[]) (fun k=>k<=i/\(bs.take k).any (fun y=>df y.name b.name)=false) (fun k=>i-k) 0 ⟨zero_le _,rfl⟩ ?_ (h1:=(.cons rfl (Sub.of (pF 2 Bd.av bs i)) (.cons rfl (Sub.int (by simp;omega)) (.k .nil))));rintro k ⟨hk,hd⟩ K2 J2;refine gC (fun t28=>?_) (fun t28=>?_)
  ·have hkn:=aU t28;obtain ⟨y,hy'⟩:∃ y,(bs.take i)[k]? = some y:=ay (by simp; omega);have hy:=(qB hy').1;refine gi (az hy') ?_;refine gC (fun t35=>?_) (fun t35=>?_)
   ·have h2:df y.name b.name = true:=t35;have e1:dO bs i = 6:=by unfold dO; rw [hbd,if_neg (by rw [h1]; decide),if_pos (by rw [hbdup]; exact jN hy hkn h2)]
    refine ae ?_;rw[dG hin hj (by rw[e1];decide),e1];rfl
   have h2:df y.name b.name=false:=t35;refine ga aG ?_;exact aE J2 (k+1) ⟨hkn,js hy hd h2⟩
  have hkn:=a6 hk t28;subst hkn;have hnd:¬fw (bs.map Bd.name) k=true:=by rw[hbdup,hd];decide
  refine gl ?_;refine gC (fun t41=>?_) (fun t41=>?_)
  ·have h3:8 < b.pts.length:=gX t41;have e1:dO bs k = 4:=by unfold dO; rw [hbd,if_neg (by rw [h1]; decide),if_neg hnd,if_pos h3]
   refine ae ?_;rw[dG hin hj (by rw[e1];decide),e1];rfl
  have h3:b.pts.length<=8:=fv t41;have e1:dO bs k=eh b.pts.length (dH b.pts):=by unfold dO;rw[hbd,if_neg (by rw[h1];decide),if_neg hnd,if_neg oz]
  refine gl ?_;refine aI [0,4,11,12,13,44,45] [4] (fun(p:Nat)=>[(46,some (i64 p))]) (fun _=>[]) (fun p=>p<=b.pts.length/\∀j,j<p->dH b.pts j=0) (fun p=>b.pts.length-p) 0 ⟨zero_le _,fun j h=>by omega⟩ ?_;rintro p ⟨hp,hpj⟩ K3 J3;refine gC (fun t47=>?_) (fun t47=>?_)
  ·have hpn:=aU t47;obtain⟨m,hm⟩:=ay hpn;have hmd:b.pts.getD p default=m:=aL hm;have hmm:=mem_of_getElem? hm;have hmdup:=lD Mk.name hm;have hmo:=hbo.pts m hmm;refine gi (az hm) ?_;refine gc (r6 m.name (hbo.names m hmm)) ?_;refine gC (fun t54=>?_) (fun t54=>?_)
   ·have h4:=da t54;have e2:dH b.pts p = 5:=by unfold dH; rw [hmd,if_pos h4]
    have e3:dO bs k=5:=by rw[e1,dG hpn hpj (by rw[e2];decide),e2]
    refine ae ?_;rw[dG hin hj (by rw[e3];decide),e3];rfl
   have h4:=cV t54;refine gs (cc (.tmp rfl) (.none _) (.some _ (.tmp rfl) oz) T118 rfl T122 rfl oz (by simp only[length_map];omega) rfl) ?_;refine ge rfl ?_;refine aI [0,4,8,11,12,13,44,45,46] [4,8] (fun(q:Nat)=>[(59,some (.lst 7 ((b.pts.take p).map Mk.av))),(60,some (i64 p)),(61,some (i64 q))]) (fun _=>[]) (fun q=>q<=p/\(b.pts.take q).any (fun y=>df y.name m.name)=false) (fun q=>p-q) 0 ⟨zero_le _,rfl⟩ ?_ (h1:=(.cons rfl (Sub.of (pF 7 Mk.av b.pts p)) (.cons rfl (Sub.int (by simp;omega)) (.k .nil))));rintro q ⟨hq,hqd⟩ K4 J4;refine gC (fun t62=>?_) (fun t62=>?_)
   ·have hqn:=aU t62;obtain ⟨y,hy'⟩:∃ y,(b.pts.take p)[q]? = some y:=ay (by simp; omega);have hy:=(qB hy').1;refine gi (az hy') ?_;refine gC (fun t69=>?_) (fun t69=>?_)
    ·have h5:df y.name m.name = true:=t69;have e2:dH b.pts p = 6:=by unfold dH; rw [hmd,if_neg (by rw [h4]; decide),if_pos (by rw [hmdup]; exact jN hy hqn h5)]
     have e3:dO bs k=6:=by rw[e1,dG hpn hpj (by rw[e2];decide),e2]
     refine ae ?_;rw[dG hin hj (by rw[e3];decide),e3];rfl
    have h5:df y.name m.name=false:=t69;refine ga aG ?_;exact aE J4 (q+1) ⟨hqn,js hy hqd h5⟩
   have hqn:=a6 hq t62;subst hqn;have hmnd:¬fw (b.pts.map Mk.name) q=true:=by rw[hmdup,hqd];decide
   refine gc (qT m.x hmo.x) ?_;refine bw (fun _=>(qT m.y hmo.y)) ?_;refine gC (fun t81=>?_) (fun t81=>?_)
   ·have h6:=mb t81;have e2:dH b.pts q = 3:=by unfold dH; rw [hmd,if_neg (by rw [h4]; decide),if_neg hmnd,if_neg (by rintro ⟨g1,g2⟩; rcases h6 with g | g; (rw [g1] at g; cases g); (rw [g2] at g; cases g))]
    have e3:dO bs k=3:=by rw[e1,dG hpn hpj (by rw[e2];decide),e2]
    refine ae ?_;rw[dG hin hj (by rw[e3];decide),e3];rfl
   have h6:=mD t81;have e2:dH b.pts q=0:=by unfold dH;rw[hmd,if_neg (by rw[h4];decide),if_neg hmnd,if_pos h6]
   refine ga aG ?_;exact aE J3 (q+1) ⟨hpn,fun j h9=>by rcases lt_or_ge j q with g |g;exact hpj j g;(have:j=q:=by omega);subst this;exact e2⟩
  have hpn:=a6 hp t47;subst hpn;have e2:dO bs k=0:=e1.trans (lM hpj);refine ga aG ?_;exact aE J1 (k+1) ⟨hin,fun j h9=>by rcases lt_or_ge j k with g |g;exact hj j g;(have:j=k:=by omega);subst this;exact e2⟩
 have hin:=a6 hi t14;subst hin;refine ae ?_;rw[lM hj];rfl
theorem Nx(l:Li)(hl:l.ok)(j:Jt):FP 314 [l.av,j.av] (ba (dJ l j)):=by
 refine ah func314 ?_;refine gC (fun t15=>?_) (fun t15=>?_)
 ·have h1:=Fm t15;refine ae ?_;unfold dJ;rw[if_pos h1];rfl
 have h1:=EO t15;refine gl ?_;refine gc (oX j.a l.bo.length) ?_;refine bH ?_;refine bw (fun _=>(oX j.b l.bo.length)) ?_;refine gC (fun t32=>?_) (fun t32=>?_)
 ·have h2:=mb t32;refine ae ?_;unfold dJ;rw[if_neg h1,if_pos h2];rfl
 have h2:=mD t32;have h2n:¬(bh j.a l.bo.length=false\/bh j.b l.bo.length=false):=by rw[h2.1,h2.2];simp
 obtain⟨A,hA,pA,mA,zA0⟩:=nT h2.1;obtain⟨B,hB,pB,mB,zB0⟩:=nT h2.2;refine gC (fun t38=>?_) (fun t38=>?_)
 ·have h3:=cP t38;refine ae ?_;unfold dJ;rw[if_neg h1,if_neg h2n,if_pos h3];rfl
 have h3:=dN t38;refine gi (az hB) ?_;refine gi (az hA) ?_;refine gl ?_;refine gc (oX j.point A.pts.length) ?_;refine bH ?_;refine bw (fun _=>(oX j.on B.pts.length)) ?_;refine gD ?_;refine gC (fun t66=>?_) (fun t66=>?_)
 ·have h4:=mb t66;refine ae ?_;unfold dJ;rw[if_neg h1,if_neg h2n,if_neg h3,pA,pB,if_pos h4];rfl
 have h4:=mD t66;have h4n:¬(bh j.point A.pts.length=false\/bh j.on B.pts.length=false):=by rw[h4.1,h4.2];simp
 refine gC (fun t70=>?_) (fun t70=>?_)
 ·have h5:=cP t70;refine gC (fun t73=>?_) (fun t73=>?_)
  ·have h6:=pR t73;refine ae ?_;unfold dJ;rw[if_neg h1,if_neg h2n,if_neg h3,pA,pB,if_neg h4n,if_pos h5,if_pos h6];rfl
  have h6:=xd t73;refine ae ?_;unfold dJ;rw[if_neg h1,if_neg h2n,if_neg h3,pA,pB,if_neg h4n,if_pos h5,if_neg (by rw[h6];simp)];rfl
 have h5:=dN t70;refine gl ?_;refine gc (oX j.to B.pts.length) ?_;refine gC (fun t80=>?_) (fun t80=>?_)
 ·have h6:=da t80;refine ae ?_;unfold dJ;rw[if_neg h1,if_neg h2n,if_neg h3,pA,pB,if_neg h4n,if_neg h5,if_pos h6];rfl
 have h6:=cV t80;obtain⟨m1,g1,d1,mm1,z1⟩:=rW h4.2;obtain⟨m2,g2,d2,mm2,z2⟩:=rW h6;have mo1:=(hl.bo B mB).pts m1 mm1;have mo2:=(hl.bo B mB).pts m2 mm2;refine gi (az g1) ?_;refine gi (az g2) ?_;refine gD ?_;refine gc (DQ m1.x m2.x mo1.x mo2.x) ?_;refine bw (fun _=>(DQ m1.y m2.y mo1.y mo2.y)) ?_;refine gC (fun t105=>?_) (fun t105=>?_)
 ·have h7:=CS t105;refine ae ?_;unfold dJ;rw[if_neg h1,if_neg h2n,if_neg h3,pA,pB,if_neg h4n,if_neg h5,if_neg (by rw[h6];decide),d1,d2,if_pos h7];rfl
 have h7:=Gz t105;refine ae ?_;unfold dJ;rw[if_neg h1,if_neg h2n,if_neg h3,pA,pB,if_neg h4n,if_neg h5,if_neg (by rw[h6];decide),d1,d2,if_neg h7];rfl
theorem NB(l:Li)(hl:l.ok):FP 213 [l.av] (ba (dX l)):=by
 have hlj:=hl.lj;refine ah func213 ?_;refine gl ?_;refine gC (fun t11=>?_) (fun t11=>?_)
 ·have h0:16<l.jo.length:=gX t11;refine ae ?_;unfold dX;rw[if_pos h0];rfl
 have h0:l.jo.length<=16:=fv t11;have e0:dX l=eh l.jo.length (fg l):=by unfold dX;rw[if_neg oz]
 refine gl ?_;refine aI [1,14,15] [1] (fun(i:Nat)=>[(16,some (i64 i))]) (fun _=>[]) (fun i=>i<=l.jo.length/\∀j,j<i->fg l j=0) (fun i=>l.jo.length-i) 0 ⟨zero_le _,fun j h=>by omega⟩ ?_;rintro i ⟨hi,hj⟩ K1 J1;refine gC (fun t17=>?_) (fun t17=>?_)
 ·have hin:=aU t17;obtain⟨b,hb⟩:=ay hin;have hbd:l.jo.getD i default=b:=aL hb;have hbdup:=lD Jt.name hb;refine gi (az hb) ?_;refine gc (r6 b.name (hl.jnames b (mem_of_getElem? hb))) ?_;refine gC (fun t24=>?_) (fun t24=>?_)
  ·have h1:=da t24;have e1:fg l i = 5:=by unfold fg; rw [hbd,if_pos h1]
   refine ae ?_;rw[e0,dG hin hj (by rw[e1];decide),e1];rfl
  have h1:=cV t24;refine gs (cc (.tmp rfl) (.none _) (.some _ (.tmp rfl) oz) T23 rfl T75 rfl oz (by simp only[length_map];omega) rfl) ?_;refine ge rfl ?_;refine aI [1,3,4,14,15,16] [1,4] (fun(k:Nat)=>[(29,some (.lst 7 ((l.jo.take i).map Jt.av))),(30,some (i64 i)),(31,some (i64 k))]) (fun _=>[]) (fun k=>k<=i/\(l.jo.take k).any (fun y=>df y.name b.name)=false) (fun k=>i-k) 0 ⟨zero_le _,rfl⟩ ?_ (h1:=(.cons rfl (Sub.of (pF 7 Jt.av l.jo i)) (.cons rfl (Sub.int (by simp;omega)) (.k .nil))));rintro k ⟨hk,hd⟩ K2 J2;refine gC (fun t32=>?_) (fun t32=>?_)
  ·have hkn:=aU t32;obtain ⟨y,hy'⟩:∃ y,(l.jo.take i)[k]? = some y:=ay (by simp; omega);have hy:=(qB hy').1;refine gi (az hy') ?_;refine gC (fun t39=>?_) (fun t39=>?_)
   ·have h2:df y.name b.name = true:=t39;have e1:fg l i = 6:=by unfold fg; rw [hbd,if_neg (by rw [h1]; decide),if_pos (by rw [hbdup]; exact jN hy hkn h2)]
    refine ae ?_;rw[e0,dG hin hj (by rw[e1];decide),e1];rfl
   have h2:df y.name b.name=false:=t39;refine ga aG ?_;exact aE J2 (k+1) ⟨hkn,js hy hd h2⟩
  have hkn:=a6 hk t32;subst hkn;have hnd:¬fw (l.jo.map Jt.name) k=true:=by rw[hbdup,hd];decide
  have e1:fg l k=dJ l b:=by unfold fg;rw[hbd,if_neg (by rw[h1];decide),if_neg hnd]
  refine gc (Nx l hl b) ?_;refine gC (fun t46=>?_) (fun t46=>?_)
  ·have h3:=cq t46;refine ae ?_;rw[e0,dG hin hj (by rw[e1];exact h3),e1]
  have h3:=b9 t46;refine ga aG ?_;exact aE J1 (k+1) ⟨hin,fun j h9=>by rcases lt_or_ge j k with g |g;exact hj j g;(have:j=k:=by omega);subst this;exact e1.trans h3⟩
 have hin:=a6 hi t17;subst hin;refine ae ?_;rw[e0,lM hj];rfl
theorem HU(l:Li)(hl:l.ok):FP 214 [l.av] (ba (ft l)):=by
 have hld:=hl.ld;refine ah func214 ?_;refine gl ?_;refine gC (fun t12=>?_) (fun t12=>?_)
 ·have h0:2<l.dv.length:=gX t12;refine ae ?_;unfold ft;rw[if_pos h0];rfl
 have h0:l.dv.length<=2:=fv t12;have e0:ft l=eh l.dv.length (dw l):=by unfold ft;rw[if_neg oz]
 refine gl ?_;refine aI [1,15,16] [1] (fun(i:Nat)=>[(17,some (i64 i))]) (fun _=>[]) (fun i=>i<=l.dv.length/\∀j,j<i->dw l j=0) (fun i=>l.dv.length-i) 0 ⟨zero_le _,fun j h=>by omega⟩ ?_;rintro i ⟨hi,hj⟩ K1 J1;refine gC (fun t18=>?_) (fun t18=>?_)
 ·have hin:=aU t18;obtain⟨b,hb⟩:=ay hin;have hbd:l.dv.getD i default=b:=aL hb;have hbdup:=lD Dr.name hb;refine gi (az hb) ?_;refine gc (r6 b.name (hl.dnames b (mem_of_getElem? hb))) ?_;refine gC (fun t25=>?_) (fun t25=>?_)
  ·have h1:=da t25;have e1:dw l i = 5:=by unfold dw; rw [hbd,if_pos h1]
   refine ae ?_;rw[e0,dG hin hj (by rw[e1];decide),e1];rfl
  have h1:=cV t25;refine gs (cc (.tmp rfl) (.none _) (.some _ (.tmp rfl) oz) T24 rfl T94 rfl oz (by simp only[length_map];omega) rfl) ?_;refine ge rfl ?_;refine aI [1,3,4,15,16,17] [1,4] (fun(k:Nat)=>[(30,some (.lst 2 ((l.dv.take i).map Dr.av))),(31,some (i64 i)),(32,some (i64 k))]) (fun _=>[]) (fun k=>k<=i/\(l.dv.take k).any (fun y=>df y.name b.name)=false) (fun k=>i-k) 0 ⟨zero_le _,rfl⟩ ?_ (h1:=(.cons rfl (Sub.of (pF 2 Dr.av l.dv i)) (.cons rfl (Sub.int (by simp;omega)) (.k .nil))));rintro k ⟨hk,hd⟩ K2 J2;refine gC (fun t33=>?_) (fun t33=>?_)
  ·have hkn:=aU t33;obtain ⟨y,hy'⟩:∃ y,(l.dv.take i)[k]? = some y:=ay (by simp; omega);have hy:=(qB hy').1;refine gi (az hy') ?_;refine gC (fun t40=>?_) (fun t40=>?_)
   ·have h2:df y.name b.name = true:=t40;have e1:dw l i = 6:=by unfold dw; rw [hbd,if_neg (by rw [h1]; decide),if_pos (by rw [hbdup]; exact jN hy hkn h2)]
    refine ae ?_;rw[e0,dG hin hj (by rw[e1];decide),e1];rfl
   have h2:df y.name b.name=false:=t40;refine ga aG ?_;exact aE J2 (k+1) ⟨hkn,js hy hd h2⟩
  have hkn:=a6 hk t33;subst hkn;have hnd:¬fw (l.dv.map Dr.name) k=true:=by rw[hbdup,hd];decide
  refine gl ?_;refine gc (oX b.body l.bo.length) ?_;refine gC (fun t49=>?_) (fun t49=>?_)
  ·have h3:=da t49;have e1:dw l k = 9:=by unfold dw; rw [hbd,if_neg (by rw [h1]; decide),if_neg hnd,if_pos h3]
   refine ae ?_;rw[e0,dG hin hj (by rw[e1];decide),e1];rfl
  have h3:=cV t49;refine gC (fun t53=>?_) (fun t53=>?_)
  ·have h4:=cP t53;have e1:dw l k = 7:=by unfold dw; rw [hbd,if_neg (by rw [h1]; decide),if_neg hnd,if_neg (by rw [h3]; decide),if_pos h4]
   refine ae ?_;rw[e0,dG hin hj (by rw[e1];decide),e1];rfl
  have h4:=dN t53;have e1:dw l k=if(l.dv.take k).any (fun d=>decide (d.body=b.body))=true then 6 else 0:=by unfold dw;rw[hbd,if_neg (by rw[h1];decide),if_neg hnd,if_neg (by rw[h3];decide),if_neg h4]
  refine gs (cc (.tmp rfl) (.none _) (.some _ (.tmp rfl) oz) T24 rfl T94 rfl oz (by simp only[length_map];omega) rfl) ?_;refine ge rfl ?_;refine aI [1,4,15,16,17] [1,4] (fun(q:Nat)=>[(58,some (.lst 2 ((l.dv.take k).map Dr.av))),(59,some (i64 k)),(60,some (i64 q))]) (fun _=>[]) (fun q=>q<=k/\(l.dv.take q).any (fun d=>decide (d.body=b.body))=false) (fun q=>k-q) 0 ⟨zero_le _,rfl⟩ ?_ (h1:=(.cons rfl (Sub.of (pF 2 Dr.av l.dv k)) (.cons rfl (Sub.int (by simp;omega)) (.k .nil))));rintro q ⟨hq,hqd⟩ K3 J3;refine gC (fun t61=>?_) (fun t61=>?_)
  ·have hqn:=aU t61;obtain ⟨y,hy'⟩:∃ y,(l.dv.take k)[q]? = some y:=ay (by simp; omega);have hy:=(qB hy').1;refine gi (az hy') ?_;refine gC (fun t68=>?_) (fun t68=>?_)
   ·have h5:decide (y.body = b.body) = true:=decide_eq_true (cP t68);have e2:dw l k = 6:=by rw [e1,if_pos (jN hy hqn h5)]
    refine ae ?_;rw[e0,dG hin hj (by rw[e2];decide),e2];rfl
   have h5:decide (y.body=b.body)=false:=decide_eq_false (dN t68);refine ga aG ?_;exact aE J3 (q+1) ⟨hqn,js hy hqd h5⟩
  have hqn:=a6 hq t61;subst hqn;have e2:dw l q=0:=by rw[e1,hqd];rfl
  refine ga aG ?_;exact aE J1 (q+1) ⟨hin,fun j h9=>by rcases lt_or_ge j q with g |g;exact hj j g;(have:j=q:=by omega);subst this;exact e2⟩
 have hin:=a6 hi t18;subst hin;refine ae ?_;rw[e0,lM hj];rfl
theorem DT(l:Li)(hl:l.ok):FP 118 [l.av] (ba (aD l)):=by
 have hlb:=hl.lb;refine ah func118 ?_;refine gc (r6 l.name hl.name) ?_;refine gC (fun t8=>?_) (fun t8=>?_)
 ·have h1:=da t8;refine ae ?_;unfold aD;rw[if_pos h1];rfl
 have h1:=cV t8;refine gl ?_;refine gC (fun t13=>?_) (fun t13=>?_)
 ·have h2:=CC t13;refine ae ?_;unfold aD;rw[if_neg (by rw[h1];decide),if_pos h2];rfl
 have h2:=zC t13;refine gl ?_;refine gC (fun t18=>?_) (fun t18=>?_)
 ·have h3:8<l.bo.length:=gX t18;refine ae ?_;unfold aD;rw[if_neg (by rw[h1];decide),if_neg h2,if_pos h3];rfl
 have h3:l.bo.length<=8:=fv t18;have e0:aD l=if gn l≠0 then gn l else if dX l≠0 then dX l else ft l:=by unfold aD;rw[if_neg (by rw[h1];decide),if_neg h2,if_neg oz]
 refine gc (Le l.bo hl.bo hlb) ?_;refine gC (fun t24=>?_) (fun t24=>?_)
 ·have h4:gn l≠0:=cq t24;refine ae ?_;rw[e0,if_pos h4];rfl
 have h4:gn l=0:=b9 t24;refine gc (NB l hl) ?_;refine gC (fun t29=>?_) (fun t29=>?_)
 ·have h5:=cq t29;refine ae ?_;rw[e0,if_neg (by rw[h4];simp),if_pos h5]
 have h5:=b9 t29;refine gc (HU l hl) ?_;refine ae ?_;rw[e0,if_neg (by rw[h4];simp),if_neg (by rw[h5];simp)]
theorem yH(d:Nat)(hd:Nat.blt d 1000=true)(l:Li)(hl:l.bo.length<=1000)(b:Nat)(hb:b<l.bo.length) :
  Con prog 131 [l.av,i64 b] [] (.ms d 1 0 l.bo.length) [(d,some (.row 1 ((cC l.bo.length b).map bl)))]:=by
 refine gF func131 (fun k z h=>by cases h) ?_;refine gl ?_;refine gs (fJ (.tmp rfl) T218 rfl T4 rfl rfl oz (by dsimp only;omega) rfl) ?_;refine gs (kg (.tmp rfl) (.tmp rfl) T218 rfl T4 rfl oz oz rfl) ?_;refine gs (cW (.tmp rfl) rfl (by rw[getElem?_replicate,if_pos (by simp;omega)]) rfl (.const _) rfl rfl T4 rfl rfl) ?_ (3,0);refine gW (Wk.of (sl:=[(5,some (.ms 9 1 0 l.bo.length))]) (hp:=[(9,some (.row 1 ((cC l.bo.length b).map bl)))]) (.cons rfl (Sub.of (by rw[toNat_natCast])) .nil) (.cons rfl (BlkSub.of (by unfold cC;simp only[map_set,map_replicate,Nat.zero_add,toNat_natCast];rfl)) .nil)) ?_ (3,0);refine gW (Wk.rk (k:=9) (d:=900) rfl rfl) ?_;refine gR ?_;exact ak.own1 rfl hd rfl
theorem Hs(l:Li)(hl:l.bo.length<=1000)(b:Nat)(hb:b<l.bo.length):FP 131 [l.av,i64 b] (.lst 1 ((cC l.bo.length b).map bl)):=by
 have h:=Con.freeze (by rw[length_map,gx];omega) (yH 0 rfl l hl b hb);rw[drop_zero,take_of_length_le (by rw[length_map,gx];exact le_refl _)]at h;exact h
theorem Lg(l:Li)(hl:l.ok)(b:Int):FP 333 [l.av,i64 b] (bl (kU l b)):=by
 have hld:=hl.ld;refine ah func333 ?_;refine gl ?_;refine aI [1,8,9] [] (fun(i:Nat)=>[(10,some (i64 i))]) (fun _=>[]) (fun i=>i<=l.dv.length/\(l.dv.take i).any (fun d=>decide (d.body=b))=false) (fun i=>l.dv.length-i) 0 ⟨zero_le _,rfl⟩ ?_;rintro i ⟨hi,hj⟩ K1 J1;refine gC (fun t11=>?_) (fun t11=>?_)
 ·have hin:=aU t11;obtain⟨d,hd⟩:=ay hin;refine gi (az hd) ?_;refine gC (fun t17=>?_) (fun t17=>?_)
  ·have h1:d.body=b:=cP t17;refine ae ?_;unfold kU;rw[List.any_eq_true.2 ⟨d,mem_of_getElem? hd,decide_eq_true h1⟩];rfl
  have h1:d.body≠b:=dN t17;refine ga aG ?_;exact aE J1 (i+1) ⟨hin,js hd hj (decide_eq_false h1)⟩
 have hin:=a6 hi t11;subst hin;rw[take_length]at hj;refine ae ?_;unfold kU;rw[hj];rfl
theorem Gj(l:Li)(hl:l.ok)(hli:aD l=0)(kind body:Int)(oth:List Bool)(ho:oth.length=l.bo.length):FP 236 [l.av,i64 kind,i64 body,.lst 1 (oth.map bl)] (i64 (bM l kind body oth)):=by
 have hlj:=hl.lj;refine ah func236 ?_;refine gl ?_;refine aI [1,2,3,12,13] [] (fun(i:Nat)=>[(14,some (i64 i))]) (fun _=>[]) (fun i=>i<=l.jo.length/\∀j,j<i->(!jV kind body oth (l.jo.getD j default))=true) (fun i=>l.jo.length-i) 0 ⟨zero_le _,fun j h=>by omega⟩ ?_;rintro i ⟨hi,hj⟩ K1 J1;refine gC (fun t15=>?_) (fun t15=>?_)
 ·have hin:=aU t15;obtain⟨j,hjt⟩:=ay hin;have hjd:l.jo.getD i default=j:=aL hjt;obtain⟨i1,i2,_⟩:=ee hli hjt;have b1:=dT i1;have b2:=dT i2;obtain⟨va,hva⟩:∃v,oth[j.a.toNat]?=some v:=ay oz;obtain⟨vb,hvb⟩:∃v,oth[j.b.toNat]?=some v:=ay oz;have ea:kn oth j.a=va:=aL hva;have eb:kn oth j.b=vb:=aL hvb;refine gi (az hjt) ?_;refine kA (fun _=>(f8 (n:=j.b.toNat) oz hvb)) ?_;refine kA (fun _=>(f8 (n:=j.a.toNat) oz hva)) ?_;refine gC (fun t48=>?_) (fun t48=>?_)
  ·have h2 : jV kind body oth j = true := by rw [<- C3 (va := va) (vb := vb) ea eb]; exact t48
   refine ae ?_;unfold bM;rw[gS hin hj (by rw[hjd,h2];rfl)];rfl
  have h2:jV kind body oth j=false:=by rw[<- C3 (va:=va) (vb:=vb) ea eb];exact t48
  refine ga aG ?_;exact aE J1 (i+1) ⟨hin,fun k h9=>by rcases lt_or_ge k i with g |g;exact hj k g;(have:k=i:=by omega);subst this;rw[hjd,h2];rfl⟩
 have hin:=a6 hi t15;subst hin;refine ae ?_;unfold bM;rw[iN hj];rfl
theorem Rc(l:Li)(hl:l.ok)(kw:List Bool)(b:Nat)(hb:b<kw.length):FP 237 [l.av,.lst 1 (kw.map bl),i64 b] (bl (dL l kw b)):=by
 obtain⟨v,hv⟩:=ay hb;have ev:kn kw (b:Int)=v:=aL (by rw[toNat_natCast];exact hv);refine ah func237 ?_;refine gi (az hv) ?_;refine bw (fun _=>(Lg l hl b)) ?_;refine ae ?_;unfold dL;rw[ev];exact congrArg bl (gN _ _)
theorem qe{l:Li}{kw:List Bool}(hl:l.ok)(hli:aD l=0)(kind body:Int)(hk:kw.length=l.bo.length) :
  Con prog 236 [l.av,i64 kind,i64 body,.ms 1000 1 0 kw.length] [(1000,some (.row 1 (kw.map bl)))] (i64 (bM l kind body kw)) [(1000,some (.row 1 (kw.map bl)))]:=by
 refine Con.borrow (args:=[l.av,i64 kind,i64 body,.lst 1 (kw.map bl)]) 1000 1 (kw.map bl) rfl rfl rfl ?_ rfl (fun k' x h=>by cases h) (Gj l hl hli kind body kw hk);intro j x' hj
 match j,hj with
 |0,hj=>cases hj;exact .inl rfl
 |1,hj=>cases hj;exact .inl rfl
 |2,hj=>cases hj;exact .inl rfl
 |3,hj=>cases hj;exact .inr ⟨0,kw.length,rfl,by simp,by rw[drop_zero,take_of_length_le (by simp)];rfl⟩
theorem yL{l:Li}{kw:List Bool}(hl:l.ok)(b:Nat)(hb:b<kw.length) :
  Con prog 237 [l.av,.ms 1000 1 0 kw.length,i64 b] [(1000,some (.row 1 (kw.map bl)))] (bl (dL l kw b)) [(1000,some (.row 1 (kw.map bl)))]:=by
 refine Con.borrow (args:=[l.av,.lst 1 (kw.map bl),i64 b]) 1000 1 (kw.map bl) rfl rfl rfl ?_ rfl (fun k' x h=>by cases h) (Rc l hl kw b hb);intro j x' hj
 match j,hj with
 |0,hj=>cases hj;exact .inl rfl
 |1,hj=>cases hj;exact .inr ⟨0,kw.length,rfl,by simp,by rw[drop_zero,take_of_length_le (by simp)];rfl⟩
 |2,hj=>cases hj;exact .inl rfl
theorem MI(l:Li)(hl:l.ok)(hli:aD l=0)(kw:List Bool)(hk:kw.length=l.bo.length):Con prog 132 [l.av,.ms 1000 1 0 kw.length] [(1000,some (.row 1 (kw.map bl)))] (.tup [((dk l kw).getD default).av,bl (dk l kw).isSome]) [(1000,some (.row 1 (kw.map bl)))]:=by
 have hld:=hl.ld;refine gF func132 (fun k z h=>bf h) ?_;refine gl ?_;refine aI [2,4,10,11] [2,4,1000] (fun(i:Nat)=>[(1,some (.ms 1000 1 0 kw.length)),(12,some (i64 i))]) (fun _=>[]) (fun i=>i<=l.dv.length/\∀j,j<i->(!eW l kw j)=true) (fun i=>l.dv.length-i) 0 ⟨zero_le _,fun j h=>by omega⟩ ?_;rintro i ⟨hi,hj⟩ K1 J1;refine gC (fun t13=>?_) (fun t13=>?_)
 ·have hin:=aU t13;obtain ⟨d,hd⟩:=ay hin;have hdd:l.dv.getD i default = d:=aL hd;have hb:=dT (ku hli hd);obtain ⟨v,hv⟩:∃ v,kw[d.body.toNat]? = some v:=ay oz;have ev:kn kw d.body = v:=aL hv;refine gi (az hd) ?_;refine gs (kg (.tmp rfl) (.tmp rfl) T218 rfl T4 rfl oz oz rfl) ?_;refine gs (dD (.tmp rfl) rfl (by rw [Nat.zero_add,getElem?_map,hv]; rfl) T4 rfl rfl rfl) ?_;refine gC (fun t21=>?_) (fun t21=>?_)
  ·have h2 : eW l kw i = false := by unfold eW; rw [hdd, ev, t21]; rfl
   refine ga aG ?_;exact aE J1 (i+1) ⟨hin,fun k h9=>by rcases lt_or_ge k i with g |g;exact hj k g;(have:k=i:=by omega);subst this;rw[h2];rfl⟩
  have hv0:v=false:=t21;refine gt (kW (qe hl hli 0 d.body hk) (.cons (.tmp rfl) (.cons (.const _) (be rfl rfl))) rfl rfl rfl) ?_;refine gC (fun t28=>?_) (fun t28=>?_)
  ·have h2 : eW l kw i = true := by unfold eW; rw [hdd, ev, hv0, decide_eq_true (Ga t28)]; rfl
   have hg:dk l kw=some ⟨0,[d.body],[bM l 0 d.body kw],i⟩:=by unfold dk;rw[gS hin hj (by rw[h2];rfl),<- hdd];rfl
   refine gR ?_;rw[hg];exact ak.keep (aZ rfl)
  have h2:eW l kw i=false:=by unfold eW;rw[hdd,decide_eq_false (A8 t28),Bool.and_false]
  refine ga aG ?_;exact aE J1 (i+1) ⟨hin,fun k h9=>by rcases lt_or_ge k i with g |g;exact hj k g;(have:k=i:=by omega);subst this;rw[h2];rfl⟩
 have hin:=a6 hi t13;subst hin;have hg:dk l kw=none:=by unfold dk;rw[iN hj];rfl
 refine gR ?_;exact ak.sub (ak.keep (aZ rfl)) (by rw[hg];exact Sub.tup (.cons oL (.cons (.refl _) .nil)))
theorem QA(l:Li)(hl:l.ok)(hli:aD l=0)(kw:List Bool)(hk:kw.length=l.bo.length):Con prog 133 [l.av,.ms 1000 1 0 kw.length] [(1000,some (.row 1 (kw.map bl)))] (.tup [((cF l kw).getD default).av,bl (cF l kw).isSome]) [(1000,some (.row 1 (kw.map bl)))]:=by
 have h8:=(c9 hli).2.2.2.1;refine gF func133 (fun k z h=>bf h) ?_;refine gl ?_;refine aI [2,4,12,13] [2,4,1000] (fun(i:Nat)=>[(1,some (.ms 1000 1 0 kw.length)),(14,some (i64 i))]) (fun _=>[]) (fun i=>i<=l.bo.length/\∀j,j<i->(fQ l kw j).isNone=true) (fun i=>l.bo.length-i) 0 ⟨zero_le _,fun j h=>by omega⟩ ?_;rintro i ⟨hi,hj⟩ K1 J1;refine gC (fun t15=>?_) (fun t15=>?_)
 ·have hin:=aU t15;refine ga aG ?_;refine aI [2,4,6,12,13,14] [2,4,1000] (fun (k:Nat)=>[(1,some (.ms 1000 1 0 kw.length)),(7,some (i64 (i + 1 + k:Nat)))]) (fun _=>[]) (fun k=>i + 1 + k <= l.bo.length /\ ∀ j,j < k -> (!dj l kw i (i + 1 + j)) = true) (fun k=>l.bo.length - k) 0 ⟨by omega,fun j h=>by omega⟩ ?_;rintro k ⟨hkl,hkj⟩ K2 J2;refine gl ?_;refine gC (fun t23=>?_) (fun t23=>?_)
  ·have hkn:i+1+k<l.bo.length:=aU t23;refine gt (kW (yL hl i oz) (aB rfl rfl rfl) rfl rfl rfl) ?_;refine gu (dK rfl rfl rfl (fun h=>kW (yL hl (i+1+k) oz) (.cons (.opt rfl (o1 h)) (.cons (.opt rfl (o1 h)) (.cons (.opt rfl (o1 h)) .nil))) rfl rfl rfl)) ?_;refine gC (fun t37=>?_) (fun t37=>?_)
   ·have h2 : dj l kw i (i + 1 + k) = false := by unfold dj; rw [show (dL l kw i && dL l kw ((i + 1 + k : Nat) : Int)) = false from by rcases mb t37 with g | g; (rw [g]; rfl); (rw [g, Bool.and_false])]; rfl
    refine ga aG ?_;exact aE J2 (k+1) ⟨by omega,fun j h9=>by rcases lt_or_ge j k with g |g;exact hkj j g;(have:j=k:=by omega);subst this;rw[h2];rfl⟩
   have hff:=mD t37;refine gt (kW (qe hl hli 0 i hk) (.cons (.tmp rfl) (.cons (.const _) (be rfl rfl))) rfl rfl rfl) ?_;refine gt (kW (qe hl hli 0 (i+1+k:Nat) hk) (.cons (.tmp rfl) (.cons (.const _) (be rfl rfl))) rfl rfl rfl) ?_;refine gc (Hs l oz (i+1+k) hkn) ?_;refine gc (Gj l hl hli 0 i (cC l.bo.length ((i+1+k:Nat):Int)) (gx _ _)) ?_;refine gD ?_;refine gC (fun t61=>?_) (fun t61=>?_)
   ·have h2 : dj l kw i (i + 1 + k) = true := by unfold dj; rw [hff.1, hff.2]; exact (uP.symm.trans t61)
    have hat:fQ l kw i=some (i+1+k):=by unfold fQ;rw[gS oz hkj (by rw[h2];rfl),Option.map_some];congr 1;omega
    have hg:cF l kw=some (jO l kw i (i+1+k)):=by unfold cF;rw[gS hin hj (by rw[hat];rfl),Option.map_some,hat]
    refine gR ?_;rw[hg];exact ak.keep (aZ rfl)
   have h2:dj l kw i (i+1+k)=false:=by unfold dj;rw[show(decide (0<=bM l 0 i kw)&&decide (0<=bM l 0 ((i+1+k:Nat):Int) kw)&&decide (0<=bM l 0 i (cC l.bo.length ((i+1+k:Nat):Int))))=false from uP.symm.trans t61,Bool.and_false]
   refine ga aG ?_;exact aE J2 (k+1) ⟨by omega,fun j h9=>by rcases lt_or_ge j k with g |g;exact hkj j g;(have:j=k:=by omega);subst this;rw[h2];rfl⟩
  have hkn:¬i+1+k<l.bo.length:=fun h=>by have h1:=rV t23;omega
  have hat:fQ l kw i=none:=by unfold fQ;rw[show l.bo.length-(i+1)=k by omega,iN hkj];rfl
  refine ga aG ?_;exact aE J1 (i+1) ⟨hin,fun j h9=>by rcases lt_or_ge j i with g |g;exact hj j g;(have:j=i:=by omega);subst this;rw[hat];rfl⟩
 have hin:=a6 hi t15;have hg:cF l kw=none:=by unfold cF;rw[<- hin,iN hj];rfl
 refine gR ?_;exact ak.sub (ak.keep (aZ rfl)) (by rw[hg];exact Sub.tup (.cons oL (.cons (.refl _) .nil)))
theorem KX(l:Li)(hl:l.ok)(hli:aD l=0)(kw:List Bool)(hk:kw.length=l.bo.length):Con prog 134 [l.av,.ms 1000 1 0 kw.length] [(1000,some (.row 1 (kw.map bl)))] (.tup [((dW l kw).getD default).av,bl (dW l kw).isSome]) [(1000,some (.row 1 (kw.map bl)))]:=by
 have h8:=(c9 hli).2.2.2.1;refine gF func134 (fun k z h=>bf h) ?_;refine gl ?_;refine aI [2,4,11,12] [2,4,1000] (fun(i:Nat)=>[(1,some (.ms 1000 1 0 kw.length)),(13,some (i64 i))]) (fun _=>[]) (fun i=>i<=l.bo.length/\∀j,j<i->(!eL l kw j)=true) (fun i=>l.bo.length-i) 0 ⟨zero_le _,fun j h=>by omega⟩ ?_;rintro i ⟨hi,hj⟩ K1 J1;refine gC (fun t14=>?_) (fun t14=>?_)
 ·have hin:=aU t14;refine gt (kW (yL hl i oz) (aB rfl rfl rfl) rfl rfl rfl) ?_;refine gC (fun t20=>?_) (fun t20=>?_)
  ·have h2 : eL l kw i = false := by unfold eL; rw [da t20]; rfl
   refine ga aG ?_;exact aE J1 (i+1) ⟨hin,fun k h9=>by rcases lt_or_ge k i with g |g;exact hj k g;(have:k=i:=by omega);subst this;rw[h2];rfl⟩
  have hf:=cV t20;refine gt (kW (qe hl hli 0 i hk) (.cons (.tmp rfl) (.cons (.const _) (be rfl rfl))) rfl rfl rfl) ?_;refine gt (kW (qe hl hli 1 i hk) (.cons (.tmp rfl) (.cons (.const _) (be rfl rfl))) rfl rfl rfl) ?_;refine gD ?_;refine gC (fun t34=>?_) (fun t34=>?_)
  ·have h2 : eL l kw i = false := by unfold eL; rw [Gl t34, Bool.and_false]
   refine ga aG ?_;exact aE J1 (i+1) ⟨hin,fun k h9=>by rcases lt_or_ge k i with g |g;exact hj k g;(have:k=i:=by omega);subst this;rw[h2];rfl⟩
  obtain⟨p0,s0⟩:=Cv t34;have s1:=(lR (l:=l) (kind:=1) (body:=i) (oth:=kw)).2;have h2:eL l kw i=true:=by unfold eL;rw[hf,decide_eq_true p0,decide_eq_true s0];rfl
  obtain⟨j,hjt⟩:∃j,l.jo[(bM l 1 i kw).toNat]?=some j:=ay oz;have hjd:l.jo.getD (bM l 1 i kw).toNat default=j:=aL hjt;have hg:dW l kw=some (ii l kw i):=by unfold dW;rw[gS hin hj (by rw[h2];rfl),Option.map_some]
  refine gi (f8 (n:=(bM l 1 i kw).toNat) oz hjt) ?_;refine gC (fun t42=>?_) (fun t42=>?_)
  ·have hji:j.a=i:=cP t42;refine gR ?_;rw[hg];unfold ii;rw[hjd];simp only[Option.getD_some,if_pos hji]
   exact ak.keep (aZ rfl)
  have hji:j.a≠i:=dN t42;refine gR ?_;rw[hg];unfold ii;rw[hjd];simp only[Option.getD_some,if_neg hji]
  exact ak.keep (aZ rfl)
 have hin:=a6 hi t14;have hg:dW l kw=none:=by unfold dW;rw[<- hin,iN hj];rfl
 refine gR ?_;exact ak.sub (ak.keep (aZ rfl)) (by rw[hg];exact Sub.tup (.cons oL (.cons (.refl _) .nil)))
theorem xS{k:List Bool}{bs:List Int}{q:Nat}{x:Int}(h:bs[q]?=some x):bj k (bs.drop q)=bj (k.set x.toNat true) (bs.drop (q+1)):=by
 have hi:=(List.getElem?_eq_some_iff.1 h).1;rw[List.drop_eq_getElem_cons hi,(List.getElem?_eq_some_iff.1 h).2];rfl
theorem OE{l:Li}{n:Nat}{kw:List Bool}{out:List Gr}{g:Gr}(h:bS l kw=some g):cg l (n+1) kw out=cg l n (bj kw g.bo) (out++[g]):=by
 show(match bS l kw with |none=>_ |some g=>_)=_;rw[h]
theorem Rg{l:Li}{n:Nat}{kw:List Bool}{out:List Gr}(h:bS l kw=none):cg l n kw out=(kw,out):=by
 cases n with
 |zero=>rfl
 |succ n=>show(match bS l kw with |none=>_ |some g=>_)=_;rw[h]
theorem vX{α:Type}{o:Option α}(h:o.isSome=false):o=none:=by cases o <;> simp_all
theorem Fe{α:Type}{a b:Option α}(h:a.isSome=true):a=a.or b:=by cases a <;> simp_all
theorem M1{l:Li}{kw:List Bool}(h:(dk l kw).or (cF l kw)=none):bS l kw=dW l kw:=by
 unfold bS;rw[<- Option.or_assoc,h];rfl
theorem IM{l:Li}{kw:List Bool}(h:((dk l kw).or (cF l kw)).isSome=true):bS l kw=(dk l kw).or (cF l kw):=by
 unfold bS;rw[<- Option.or_assoc];exact(Fe h).symm
theorem zw(l:Li)(hl:l.ok)(hli:aD l=0):FP 60 [l.av] (.lst 4 ((bZ l).map Gr.av)):=by
 have h8:=(c9 hli).2.2.2.1;have h0:=(c9 hli).2.2.2.2;refine ah func60 ?_;refine gt (aA (yH 900 rfl l oz 0 oz) (.cons (.tmp rfl) (.cons (.const _) .nil)) aC rfl rfl) ?_;refine gl ?_;refine gW (Wk.virt 901 4 rfl) ?_;refine gV [1,13] [1] (fun(i:Nat)(kw:List Bool)(out:List Gr)=>[(3,some (.ms 900 1 0 kw.length)),(4,some (.ms 901 4 0 out.length)),(14,some (i64 i))]) (fun _ kw out=>[(900,some (.row 1 (kw.map bl))),(901,some (.row 4 (out.map Gr.av)))]) (fun i kw out=>i<=l.bo.length/\kw.length=l.bo.length/\out.length<=i/\cg l (l.bo.length-i) kw out=cg l l.bo.length (cC l.bo.length 0) []) (fun i _ _=>l.bo.length-i) 0 (cC l.bo.length 0) ([]) ⟨zero_le _,gx _ _,le_refl _,rfl⟩ ?_ (h1:=(.cons rfl (Sub.of (by rw[gx])) (.k (.k .nil))))
 rintro i kw out ⟨hi,hk,hol,hff⟩ K1 J1;refine gC (fun t15=>?_) (fun t15=>?_) (st2:=(18,0))
 ·have hin:=aU t15;have hd1:=Con.rekey1 900 rfl rfl rfl (MI l hl hli kw hk);have hp1:=Con.rekey1 900 rfl rfl rfl (QA l hl hli kw hk);have hs1:=Con.rekey1 900 rfl rfl rfl (KX l hl hli kw hk);refine gt (aA hd1 (be rfl rfl) aC rfl rfl) ?_;refine xK [1,5,13,14] [1,900,901] (fun(o:Option Gr)=>[(3,some (.ms 900 1 0 kw.length)),(4,some (.ms 901 4 0 out.length)),(6,some (bl o.isSome))]) (fun o=>[(5,some (.box (o.getD default).av.cells))]) (fun o=>o=(dk l kw).or (cF l kw)) ?_ ?_
  ·intro K2 J2;refine gC (fun t23=>?_) (fun t23=>?_)
   ·refine gt (aA hp1 (be rfl rfl) aC rfl rfl) ?_;exact ow J2 (cF l kw) (by rw[vX (da t23)];rfl)
   exact ow J2 (dk l kw) (Fe (cV t23))
  rintro o ho;refine xK [1,5,13,14] [1,900,901] (fun(og:Option Gr)=>[(3,some (.ms 900 1 0 kw.length)),(4,some (.ms 901 4 0 out.length)),(6,some (bl og.isSome))]) (fun og=>[(5,some (.box (og.getD default).av.cells))]) (fun og=>og=bS l kw) ?_ ?_
  ·intro K3 J3;refine gC (fun t31=>?_) (fun t31=>?_)
   ·refine gt (aA hs1 (be rfl rfl) aC rfl rfl) ?_;exact ow J3 (dW l kw) (by have:=vX (da t31);rw[ho]at this;exact(M1 this).symm)
   exact ow J3 o (by rw[ho];exact(IM (by rw[<- ho];exact cV t31)).symm)
  rintro og hog;refine gC (fun t39=>?_) (fun t39=>?_) (st1:=(18,0))
  ·have hn : bS l kw = none := by rw [<- hog]; exact vX (da t39)
   have hfin:bZ l=out:=by unfold bZ;rw[<- hff,Rg hn]
   refine gW ((Wk.freeze (k:=901) rfl).trans<|Wk.of (sl:=[(4,some (.lst 4 ((bZ l).map Gr.av)))]) (hp:=[]) (.cons rfl (Sub.of (by rw[hfin,bB (by rw[length_map])])) .nil) .nil) ?_;refine ae ?_;rfl
  obtain⟨g,hg⟩:∃g,og=some g:=Option.isSome_iff_exists.1 (cV t39);have hng:bS l kw=some g:=by rw[<- hog,hg]
  have hgo:=sG hli hng;subst hg;refine gs (bU (.tmp rfl) rfl (by rw[length_map]) (.tmp rfl) T32 rfl T53 rfl rfl (by dsimp only;simp only[length_cons,length_nil];omega) rfl rfl) ?_ (12,0);refine gW (Wk.of (sl:=[(1,some (.ptr 1 0)),(3,some (.ms 900 1 0 kw.length)),(4,some (.ms 43 4 0 (out++[g]).length)),(5,some (.ptr 5 0)),(13,some (i64 l.bo.length)),(14,some (i64 i))]) (hp:=[(1,some (.box l.av.cells)),(5,some (.box g.av.cells)),(900,some (.row 1 (kw.map bl))),(43,some (.row 4 ((out++[g]).map Gr.av)))]) (.k (.k (.cons rfl (Sub.of (by rw[length_append];rfl)) (.k (.k (.k .nil)))))) (.k (.k (.k (.cons rfl (BlkSub.of (by rw[map_append];rfl)) .nil))))) ?_ (12,0)
  refine gW (Wk.rk (k:=43) (d:=901) rfl rfl) ?_;refine gl ?_;refine fp [1,13,14,45,46] [1,901] (fun(q:Nat)(kk:List Bool)=>[(3,some (.ms 900 1 0 kk.length)),(4,some (.ms 901 4 0 (out++[g]).length)),(47,some (i64 q))]) (fun _ kk=>[(900,some (.row 1 (kk.map bl)))]) (fun q kk=>q<=g.bo.length/\kk.length=l.bo.length/\bj kk (g.bo.drop q)=bj kw g.bo) (fun q _=>g.bo.length-q) 0 kw ⟨zero_le _,hk,rfl⟩ ?_;rintro q kk ⟨hq,hkk,hmk⟩ K4 J4;refine gC (fun t48=>?_) (fun t48=>?_)
  ·have hqn:=aU t48;obtain⟨x,hx⟩:=ay hqn;have hxb:=hgo.b x (mem_of_getElem? hx);obtain⟨v,hv⟩:∃v,kk[x.toNat]?=some v:=ay oz;refine gi (az hx) ?_;refine gs (kg (.tmp rfl) (.tmp rfl) T218 rfl T4 rfl oz oz rfl) ?_;refine gs (cW (.tmp rfl) rfl (by rw[Nat.zero_add,getElem?_map,hv];rfl) rfl (.const _) rfl rfl T4 rfl rfl) ?_;refine ga (yo (by have:=hgo.lb;unfold aO;omega)) ?_;exact fi J4 (q+1) (kk.set x.toNat true) ⟨hqn,by rw[length_set];exact hkk,by rw[<- xS hx];exact hmk⟩ (hw:=Wk.of (.cons rfl (Sub.of (by rw[length_set])) (.k (.k (.k (.k (.k (.k (.k .nil)))))))) (.cons rfl (BlkSub.of (by rw[map_set,Nat.zero_add];rfl)) (.k (.k .nil))))
  have hqn:=a6 hq t48;have hmk2:kk=bj kw g.bo:=by rw[hqn,drop_length]at hmk;exact hmk
  refine ga aG ?_;exact fL J1 (i+1) kk (out++[g]) ⟨hin,hkk,by rw[length_append];simp only[length_cons,length_nil];omega,by rw[hmk2,<- OE hng,<- hff];congr 1;omega⟩
 have hin:=a6 hi t15;have hfin:bZ l=out:=by unfold bZ;rw[<- hff,show l.bo.length-i=0 by omega];rfl
 refine gW ((Wk.freeze (k:=901) rfl).trans<|Wk.of (sl:=[(4,some (.lst 4 ((bZ l).map Gr.av)))]) (hp:=[]) (.cons rfl (Sub.of (by rw[hfin,bB (by rw[length_map])])) .nil) .nil) ?_;refine ae ?_;rfl
theorem F8{α:Type}{f:List Bool->α->List Bool}{k:List Bool}{l:List α}{i:Nat}{x:α}(h:l[i]?=some x):(l.drop i).foldl f k=(l.drop (i+1)).foldl f (f k x):=by
 have hi:=(List.getElem?_eq_some_iff.1 h).1;rw[List.drop_eq_getElem_cons hi,(List.getElem?_eq_some_iff.1 h).2];rfl
def fP(k:List Bool)(i:Nat):List Int:=((List.range i).filter (fun j=>!k.getD j false)).map (fun j:Nat=>((j:Nat):Int))
theorem D0{k:List Bool}{i:Nat}(h:k.getD i false=false):fP k (i+1)=fP k i++[(i:Int)]:=by
 unfold fP;rw[List.range_succ,List.filter_append,map_append,List.filter_cons,h];rfl
theorem E3{k:List Bool}{i:Nat}(h:k.getD i false=true):fP k (i+1)=fP k i:=by
 unfold fP;rw[List.range_succ,List.filter_append,map_append,List.filter_cons,h];simp
theorem s6(k:List Bool)(i:Nat):(fP k i).length<=i:=by
 unfold fP;rw[length_map];exact le_trans (List.length_filter_le _ _) (by simp)
theorem oN{α:Type}{f:α->List Int}:∀(gs:List α)(k:List Bool),(gs.foldl (fun k g=>bj k (f g)) k).length=k.length
 |[],k=>rfl
 |g::gs,k=>by rw[List.foldl_cons,oN gs,jh]
theorem Jz(l:Li):(eM (bN l)).length<=l.bo.length:=by
 have h:=s6 (bN l) (bN l).length;have e:(bN l).length=l.bo.length:=by unfold bN;rw[oN,gx]
 rw[e]at h;unfold eM;rw[e];exact h
theorem Pg(l:Li):(eM (ez l)).length<=l.jo.length:=by
 have h:=s6 (ez l) (ez l).length;have e:(ez l).length=l.jo.length:=by unfold ez;rw[oN,length_replicate]
 rw[e]at h;unfold eM;rw[e];exact h
theorem Iz(l:Li)(hl:l.ok)(hli:aD l=0):FP 59 [l.av] (.tup [.lst 1 ((eM (bN l)).map i64),.lst 1 ((eM (ez l)).map i64)]):=by
 have h8:=(c9 hli).2.2.2.1;have h0:=(c9 hli).2.2.2.2;have hj16:l.jo.length<=16:=by have:=(c9 hli).2.1;unfold dX at this;split at this;cases this;omega
 obtain⟨hgo,hgl⟩:=qI hli;refine ah func59 ?_;refine gt (aA (yH 900 rfl l oz 0 oz) (.cons (.tmp rfl) (.cons (.const _) .nil)) aC rfl rfl) ?_;refine gl ?_;refine gs (fJ (.tmp rfl) T218 rfl T4 rfl rfl oz (by dsimp only;omega) rfl) ?_;refine gD ?_ (2,0);refine gW (Wk.of (sl:=[(1,some (.ptr 1 0)),(2,some (nS)),(3,some (nS)),(4,some (.ms 900 1 0 (cC l.bo.length 0).length)),(5,some (.ms 21 1 0 (List.replicate l.jo.length false).length))]) (hp:=[(1,some (.box l.av.cells)),(900,some (.row 1 ((cC l.bo.length 0).map bl))),(21,some (.row 1 ((List.replicate l.jo.length false).map bl)))]) (.k (.k (.k (.cons rfl (Sub.of (by rw[gx])) (.cons rfl (Sub.of (by rw[length_replicate,toNat_natCast])) .nil))))) (.k (.k (.cons rfl (BlkSub.of (by rw[map_replicate,toNat_natCast];rfl)) .nil)))) ?_ (2,0)
 refine gW (Wk.rk (k:=21) (d:=901) rfl rfl) ?_;refine gc (zw l hl hli) ?_;refine gl ?_;refine gV [1,2,3,23,24] [1] (fun(i:Nat)(k1 k2:List Bool)=>[(4,some (.ms 900 1 0 k1.length)),(5,some (.ms 901 1 0 k2.length)),(25,some (i64 i))]) (fun _ k1 k2=>[(900,some (.row 1 (k1.map bl))),(901,some (.row 1 (k2.map bl)))]) (fun i k1 k2=>i<=(bZ l).length/\k1.length=l.bo.length/\k2.length=l.jo.length/\((bZ l).drop i).foldl (fun k g=>bj k g.bo) k1=bN l/\((bZ l).drop i).foldl (fun k g=>bj k g.jo) k2=ez l) (fun i _ _=>(bZ l).length-i) 0 (cC l.bo.length 0) (List.replicate l.jo.length false) ⟨zero_le _,gx _ _,length_replicate,rfl,rfl⟩ ?_
 rintro i k1 k2 ⟨hi,hk1,hk2,hf1,hf2⟩ K1 J1;refine gC (fun t26=>?_) (fun t26=>?_)
 ·have hin:=aU t26;obtain⟨g,hg⟩:=ay hin;have hgk:=hgo g (mem_of_getElem? hg);have hlb:=hgk.lb;have hlj:=hgk.lj;refine gi (az hg) ?_;refine gl ?_;refine fp [1,2,3,7,23,24,25,30,31] [1,7,901] (fun(q:Nat)(kk:List Bool)=>[(4,some (.ms 900 1 0 kk.length)),(5,some (.ms 901 1 0 k2.length)),(32,some (i64 q))]) (fun _ kk=>[(900,some (.row 1 (kk.map bl)))]) (fun q kk=>q<=g.bo.length/\kk.length=l.bo.length/\bj kk (g.bo.drop q)=bj k1 g.bo) (fun q _=>g.bo.length-q) 0 k1 ⟨zero_le _,hk1,rfl⟩ ?_;rintro q kk ⟨hq,hkk,hmk⟩ K2 J2;refine gC (fun t33=>?_) (fun t33=>?_)
  ·have hqn:=aU t33;obtain⟨x,hx⟩:=ay hqn;have hxb:=hgk.b x (mem_of_getElem? hx);obtain⟨v,hv⟩:∃v,kk[x.toNat]?=some v:=ay oz;refine gi (az hx) ?_;refine gs (kg (.tmp rfl) (.tmp rfl) T218 rfl T4 rfl oz oz rfl) ?_;refine gs (cW (.tmp rfl) rfl (by rw[Nat.zero_add,getElem?_map,hv];rfl) rfl (.const _) rfl rfl T4 rfl rfl) ?_;refine ga aG ?_;exact fi J2 (q+1) (kk.set x.toNat true) ⟨hqn,by rw[length_set];exact hkk,by rw[<- xS hx];exact hmk⟩ (hw:=Wk.of (.cons rfl (Sub.of (by rw[length_set])) (.k (.k (.k (.k (.k (.k (.k (.k (.k (.k (.k .nil)))))))))))) (.cons rfl (BlkSub.of (by rw[map_set,Nat.zero_add];rfl)) (.k (.k (.k .nil)))))
  have hqn:=a6 hq t33;have hmk2:kk=bj k1 g.bo:=by rw[hqn,drop_length]at hmk;exact hmk
  refine gl ?_;refine fp [1,2,3,23,24,25,41,42] [1,900] (fun(p:Nat)(jj:List Bool)=>[(4,some (.ms 900 1 0 kk.length)),(5,some (.ms 901 1 0 jj.length)),(43,some (i64 p))]) (fun _ jj=>[(901,some (.row 1 (jj.map bl)))]) (fun p jj=>p<=g.jo.length/\jj.length=l.jo.length/\bj jj (g.jo.drop p)=bj k2 g.jo) (fun p _=>g.jo.length-p) 0 k2 ⟨zero_le _,hk2,rfl⟩ ?_;rintro p jj ⟨hp,hjj,hmj⟩ K3 J3;refine gC (fun t44=>?_) (fun t44=>?_)
  ·have hpn:=aU t44;obtain⟨x,hx⟩:=ay hpn;have hxb:=hgk.j x (mem_of_getElem? hx);obtain⟨v,hv⟩:∃v,jj[x.toNat]?=some v:=ay oz;refine gi (az hx) ?_;refine gs (kg (.tmp rfl) (.tmp rfl) T218 rfl T4 rfl oz oz rfl) ?_;refine gs (cW (.tmp rfl) rfl (by rw[Nat.zero_add,getElem?_map,hv];rfl) rfl (.const _) rfl rfl T4 rfl rfl) ?_;refine ga aG ?_;exact fi J3 (p+1) (jj.set x.toNat true) ⟨hpn,by rw[length_set];exact hjj,by rw[<- xS hx];exact hmj⟩ (hw:=Wk.of (.k (.cons rfl (Sub.of (by rw[length_set])) (.k (.k (.k (.k (.k (.k (.k (.k (.k .nil))))))))))) (.cons rfl (BlkSub.of (by rw[map_set,Nat.zero_add];rfl)) (.k (.k .nil))))
  have hpn:=a6 hp t44;have hmj2:jj=bj k2 g.jo:=by rw[hpn,drop_length]at hmj;exact hmj
  refine ga aG ?_;exact fL J1 (i+1) kk jj ⟨hin,hkk,hjj,by rw[hmk2,<- hf1,F8 hg],by rw[hmj2,<- hf2,F8 hg]⟩
 have hin:=a6 hi t26;have e1:k1=bN l:=by rw[hin,drop_length]at hf1;exact hf1
 have e2:k2=ez l:=by rw[hin,drop_length]at hf2;exact hf2
 refine gW (Wk.virt 902 1 rfl) ?_;refine aI [3,53] [900,901] (fun(i:Nat)=>[(2,some (.ms 902 1 0 (fP k1 i).length)),(5,some (.ms 901 1 0 k2.length)),(52,some (.ms 900 1 0 k1.length)),(54,some (i64 i))]) (fun i=>[(902,some (.row 1 ((fP k1 i).map i64)))]) (fun i=>i<=k1.length) (fun i=>k1.length-i) 0 (zero_le _) ?_;rintro i ha K4 J4;refine gC (fun t55=>?_) (fun t55=>?_) (st2:=(22,0))
 ·have hin6:=aU t55;obtain ⟨v,hv⟩:=ay hin6;have hvd:k1.getD i false = v:=aL hv;have hul:=s6 k1 i;refine gs (kg (.tmp rfl) (.tmp rfl) T218 rfl T4 rfl oz oz rfl) ?_;refine gs (dD (.tmp rfl) rfl (by rw [Nat.zero_add,toNat_natCast,getElem?_map,hv]; rfl) T4 rfl rfl rfl) ?_;refine gC (fun t60=>?_) (fun t60=>?_)
  ·have hu := D0 (k := k1) (i := i) (by rw [hvd]; exact da t60);refine gs (bU (.tmp rfl) rfl (by rw [length_map]) (.tmp rfl) T39 rfl T3 rfl rfl (by dsimp only; simp only [length_cons,length_nil]; omega) rfl rfl) ?_ (21,0);refine gW (Wk.of (sl:=[(2,some (.ms 64 1 0 (fP k1 (i + 1)).length)),(3,some (nS)),(5,some (.ms 901 1 0 k2.length)),(52,some (.ms 900 1 0 k1.length)),(53,some (i64 k1.length)),(54,some (i64 i))]) (hp:=[(900,some (.row 1 (k1.map bl))),(901,some (.row 1 (k2.map bl))),(64,some (.row 1 ((fP k1 (i + 1)).map i64)))]) (.cons rfl (Sub.of (by rw [hu,length_append]; rfl)) (.k (.k (.k (.k (.k .nil)))))) (.k (.k (.cons rfl (BlkSub.of (by rw [hu,map_append]; rfl)) .nil)))) ?_ (21,0)
   refine gW (Wk.rk (k:=64) (d:=902) rfl rfl) ?_;refine ga aG ?_;exact aE J4 (i+1) hin6 (hw:=Wk.of (.cons rfl (Sub.of (by first |rw[hu];done |rfl)) (.k (.k (.k (.k (.k .nil)))))) (.cons rfl (BlkSub.of (by first |rw[hu];done |rfl)) (.k (.k .nil))))
  have hu:=E3 (k:=k1) (i:=i) (by rw[hvd];exact cV t60);refine ga aG ?_;exact aE J4 (i+1) hin6 (hw:=Wk.of (.cons rfl (Sub.of (by first |rw[hu];done |rfl)) (.k (.k (.k (.k (.k .nil)))))) (.cons rfl (BlkSub.of (by first |rw[hu];done |rfl)) (.k (.k .nil))))
 have hin6:=a6 ha t55;refine gW ((Wk.freeze (k:=902) rfl).trans<|Wk.of (sl:=[(2,some (.lst 1 ((eM (bN l)).map i64))),(3,some (nS)),(5,some (.ms 901 1 0 k2.length))]) (hp:=[(901,some (.row 1 (k2.map bl)))]) (.cons rfl (Sub.of (by rw[bB (by rw[length_map]),hin6,e1];rfl)) (.k (.k .nil))) (.k .nil)) ?_;refine gW (Wk.virt 902 1 rfl) ?_;refine aI [2,67] [901] (fun(i:Nat)=>[(3,some (.ms 902 1 0 (fP k2 i).length)),(66,some (.ms 901 1 0 k2.length)),(68,some (i64 i))]) (fun i=>[(902,some (.row 1 ((fP k2 i).map i64)))]) (fun i=>i<=k2.length) (fun i=>k2.length-i) 0 (zero_le _) ?_;rintro i hb K5 J5;refine gC (fun t69=>?_) (fun t69=>?_) (st2:=(28,0))
 ·have hin8:=aU t69;obtain ⟨v,hv⟩:=ay hin8;have hvd:k2.getD i false = v:=aL hv;have hul:=s6 k2 i;refine gs (kg (.tmp rfl) (.tmp rfl) T218 rfl T4 rfl oz oz rfl) ?_;refine gs (dD (.tmp rfl) rfl (by rw [Nat.zero_add,toNat_natCast,getElem?_map,hv]; rfl) T4 rfl rfl rfl) ?_;refine gC (fun t74=>?_) (fun t74=>?_)
  ·have hu := D0 (k := k2) (i := i) (by rw [hvd]; exact da t74);refine gs (bU (.tmp rfl) rfl (by rw [length_map]) (.tmp rfl) T39 rfl T3 rfl rfl (by dsimp only; simp only [length_cons,length_nil]; omega) rfl rfl) ?_ (27,0);refine gW (Wk.of (sl:=[(2,some (.lst 1 ((eM (bN l)).map i64))),(3,some (.ms 78 1 0 (fP k2 (i + 1)).length)),(66,some (.ms 901 1 0 k2.length)),(67,some (i64 k2.length)),(68,some (i64 i))]) (hp:=[(901,some (.row 1 (k2.map bl))),(78,some (.row 1 ((fP k2 (i + 1)).map i64)))]) (.k (.cons rfl (Sub.of (by rw [hu,length_append]; rfl)) (.k (.k (.k .nil))))) (.k (.cons rfl (BlkSub.of (by rw [hu,map_append]; rfl)) .nil))) ?_ (27,0)
   refine gW (Wk.rk (k:=78) (d:=902) rfl rfl) ?_;refine ga aG ?_;exact aE J5 (i+1) hin8 (hw:=Wk.of (.cons rfl (Sub.of (by first |rw[hu];done |rfl)) (.k (.k (.k (.k .nil))))) (.cons rfl (BlkSub.of (by first |rw[hu];done |rfl)) (.k .nil)))
  have hu:=E3 (k:=k2) (i:=i) (by rw[hvd];exact cV t74);refine ga aG ?_;exact aE J5 (i+1) hin8 (hw:=Wk.of (.cons rfl (Sub.of (by first |rw[hu];done |rfl)) (.k (.k (.k (.k .nil))))) (.cons rfl (BlkSub.of (by first |rw[hu];done |rfl)) (.k .nil)))
 have hin8:=a6 hb t69;refine gW ((Wk.freeze (k:=902) rfl).trans<|Wk.of (sl:=[(2,some (.lst 1 ((eM (bN l)).map i64))),(3,some (.lst 1 ((eM (ez l)).map i64)))]) (hp:=[]) (.k (.cons rfl (Sub.of (by rw[bB (by rw[length_map]),hin8,e2];rfl)) .nil)) .nil) ?_;refine bi ?_;rfl
theorem Br(l:Li)(hl:l.ok)(hli:aD l=0):FP 15 [l.av] (.tup [.lst 4 ((ax l).map Gr.av),i64 (co l)]):=by
 have h8:=(c9 hli).2.2.2.1;have hj16:l.jo.length<=16:=by have:=(c9 hli).2.1;unfold dX at this;split at this;cases this;omega
 have u1:=Jz l;have u2:=Pg l;refine ah func15 ?_;refine gc (Iz l hl hli) ?_;refine gl ?_;refine gl ?_;refine ga (cG oz) ?_;refine gC (fun t16=>?_) (fun t16=>?_)
 ·have h1:0 < (eM (bN l)).length + (eM (ez l)).length:=gX t16;have hE:co l = 7:=by unfold co; rw [if_neg oz]
  refine gR ?_;exact cT (by unfold ax;rw[if_neg (by rw[hE];decide),hE];exact Sub.tup (.cons (.nil _ _ _) (.cons (.refl _) .nil)))
 have h1:(eM (bN l)).length+(eM (ez l)).length<=0:=fv t16;have hE:co l=0:=by unfold co;rw[if_pos oz]
 refine gc (zw l hl hli) ?_;refine bi ?_;unfold ax;rw[if_pos hE,hE];rfl
variable{P:Program}{N:Nat}{R:Array Oper}{s:AS}{pos:String}{after:Array Edge}
theorem yt{d:Nat}{x:Operand}{n:Nat}{z:Value}{T E t:TypeId}{ti te:TI}(hx:Ev s x (.v (.int .i64 n)))
    (hT:ao P T=some ti) (hk:ti.k=.slice E) (hE:ao P E=some te) (hz:te.zero=[z]) (hz1:z.oneCell'=true) (hs:Nat.beq te.size 1=true) (hbb:Nat.blt 0 te.bytes=true)
    (hb:(n:Int)*te.bytes<=281474976710656) (hN:Nat.blt d N=true) :
    Step P N R s ⟨some d,.makeSlice T x x,t,pos,after,none⟩
      ⟨some (.ms d 1 0 n),[(d,some (.vec (List.replicate n z)))],ai x,[]⟩ :=
  rm rfl rfl hN (by simp) fun s' hag hfr C m a w hr => by
    have hxv:=mW hr (hx.agree hag (fun _ h=>h));have hs:=eq_of_beq_eq_true hs;rw[Nat.blt_eq]at hbb;obtain⟨d2,h3,h4,-,-⟩:=dF hT w;obtain rfl:=gH (h4.trans hk);obtain⟨zv,h5,h6⟩:=qz hE w;obtain⟨ie,h7,h8,-⟩:=FX hE w;have h6':zv.cells.toList=[z]:=h6.trans hz;have hzc:zv.cells=#[z]:=by rw[<- Array.toArray_toList (xs:=zv.cells),h6']
    have hnb:(n:Int)<=281474976710656:=by
      have:(n:Int)*1<=n*te.bytes:=Int.mul_le_mul_of_nonneg_left oz oz;omega
    have hw1:IntKind.i64.wrap (n:Int)=n:=IntWalk.i64_in n oz;obtain⟨zero,hzero⟩:∃zero:Array Value,zero=(if n*te.size=0 then #[]else zv.cells):=⟨_,rfl⟩
    refine⟨.slice (some ⟨w.heap.size,0,none⟩) n n,(Array.range (n*te.size)).map (zero[· % zero.size]!),E,w.drawn,?_,?_,?_,?_⟩
    · have hmk:(Instr.makeSlice T (.int .i64 n) (.int .i64 n)).run P w =
          .ok (.slice (some ⟨w.heap.size,0,none⟩) n n) { w with heap:=w.heap.push (.cells ((Array.range (n*te.size)).map (zero[· % zero.size]!)) E) }:=by
        have hc:¬(((n:Int)<0\/281474976710656<(ie.bytes:Int)*n)\/(n:Int)<0):=by
          rw[h8,Int.mul_comm];omega
        simp only[Instr.makeSlice,Sem.run_bind,h3,Result.andThen_ok,asInt,asIntOf,Sem.run_pure,h7,hw1];rw[if_neg (by simpa using hc)];simp only[Sem.run_bind,run_askRoom,Result.andThen_ok,fH hE,toNat_natCast]
        by_cases h0:n*te.size=0
        · rw[if_pos h0]at hzero ⊢
          subst hzero;simp only[Sem.run_bind,Sem.run_pure,Result.andThen_ok,newRow,run_newObj]
        · rw[if_neg h0]at hzero ⊢
          subst hzero;simp only[Sem.run_bind,Sem.run_pure,Result.andThen_ok,h5,newRow,run_newObj]
      simp only[execOp,hxv,Sem.run_bind,hmk,Result.andThen_ok,Sem.run_pure]
    · exact fun h=>h
    · intro g S m' w' hg hS hm hw
      refine .vec hw ?_ (fun v hv=>by rw[List.eq_of_mem_replicate hv];exact hz1);apply List.ext_getElem?;intro j;rw[Array.getElem?_toList,getElem?_replicate]
      by_cases hj:j<n
      · have hpos : ¬ n * te.size = 0 := by rw [hs]; omega
        rw[if_neg hpos,hzc]at hzero;subst hzero;rw[if_pos hj];simp only[Array.getElem?_map,Array.getElem?_range,show j<n*te.size by rw[hs];omega,if_true,Option.map_some,Option.some.injEq];simp[Nat.mod_one]
      · rw[if_neg hj,Array.getElem?_eq_none (by simp[hs];omega)]
    · intro g S m' hm hS
      have:=Rep.ms (g:=g) (S:=S) (m:=m') (k:=d) (sz:=1) (off:=0) (len:=n) (cap:=n) hm (le_refl _) (by simpa[hs]using hS);simpa using this
theorem tE{x y:Operand}{k i:Nat}{vs:List Value}{v:Value}{T t:TypeId}{ti:TI}
  (hx:Ev s x (.eptr k 1 i 0)) (hk:s.blk k=some (.vec vs)) (hi:i<vs.length) (hy:Ev s y (.v v)) (hv:v.oneCell'=true) (hT:ao P T=some ti) (hsz:Nat.beq ti.size 1=true) :
  Step P N R s ⟨none,.store T x y,t,pos,after,none⟩ ⟨none,[(k,some (.vec (vs.set i v)))],ai x++ai y,[k]⟩ :=
 yO rfl rfl (by simp) hk fun s' hag C m a w hr => by
  have hsz:=eq_of_beq_eq_true hsz;obtain⟨b,hm,hxv⟩:=uJ hr (hx.agree hag (fun _ h=>List.mem_append.2 (.inl h)));have hyv:=mW hr (hy.agree hag (fun _ h=>List.mem_append.2 (.inr h)));have hb:=hr.heap.blk k _ ((hag.2 k (by simp)).trans hk);rw[hm]at hb;cases hb with
  | @vec _ _ c t2 hw hc h1 =>
   have hcs:c.size=vs.length:=by rw[<- hc];simp
   have hvc:v.cells=#[v]:=by cases v <;> simp_all [Value.cells,Value.oneCell']
   refine⟨b,c,(over c.toList i v.cells.toList).toArray,t2,hm,hw,?_,?_,?_⟩
   ·simp[over,hvc];omega
   ·have hrun := wE (P := P) (off := i) (v := v) hT hw (by rw[hvc,hsz];rfl) oz (by rw[hvc];simpa using hv);simp[execOp,Instr.storeAt,hxv,Instr.sureAddr,hyv,hrun]
   ·intro g S w' hg hS hw';refine .vec hw' ?_ (fun u hu=>?_)
    ·rw[hc,hvc];unfold over;rw[List.set_eq_take_append_cons_drop,if_pos hi];simp
    ·rcases List.mem_or_eq_of_mem_set hu with h9 |h9
     ·exact h1 u h9
     ·rw[h9];exact hv
inductive Lent(H:Hp)(hid:List Nat):AV->AV->Prop
  |same {x:AV} (h:x.nm=[]):Lent H hid x x
  |ms {k off len:Nat} {vs:List Value} (hk:lk H k=some (.vec vs)) (hh:k∉hid) (hl:off+len<=vs.length) (hm:vs.length<=aO):Lent H hid (.ms k 1 off len) (.lst 1 (((vs.drop off).take len).map .v))
theorem FL{g:Nat->Array Value->Prop}{S:Nat->Nat->Prop}{m:Nat->Option Nat}{u y:Value}(h:Rep g S m u (.v y)):u=y:=by cases h;rfl
theorem td{m:Nat->Option Nat}{b:Nat}:¬aS [] m b:=by rintro⟨k,x,h,_⟩;cases h
def nF(ext:Nat->Prop)(H:Hp)(hid:List Nat)(m:Nat->Option Nat)(b:Nat):Prop:=ext b\/∃k z,k∈hid/\lk H k=some z/\m k=some b
theorem GN{ext:Nat->Prop}{H:Hp}{hid:List Nat}{m m2:Nat->Option Nat}{w:World}{b:Nat}{cs:Array Value}(h:Im ext H m w b cs):Im (nF ext H hid m) [] m2 w b cs :=
 ⟨fun h'=>h'.elim h.1 (fun⟨k,z,_,hz,hb⟩=>h.2.1 ⟨k,z,hz,hb⟩),td,h.2.2⟩
theorem BW{ext:Nat->Prop}{H:Hp}{hid:List Nat}{m:Nat->Option Nat}{w:World}(hh:HeapRel ext H m w){k b:Nat}{z:Blk}(hk:lk H k=some z)(hb:m k=some b)(hn:k∉hid):¬nF ext H hid m b:=by
 rintro(h |⟨k',z',h1,h2,h3⟩)
 ·exact(hh.sep k z b hk hb).1 h
 ·have:=hh.inj k k' z z' b hk h2 hb h3;subst this;exact hn h1
theorem Lent.rep{ext:Nat->Prop}{H:Hp}{hid:List Nat}{m:Nat->Option Nat}{w:World}(hh:HeapRel ext H m w){x x':AV}(h:Lent H hid x x') :
  ∀{v:Value},Rep (Im ext H m w) (Sz w) m v x->∀m2:Nat->Option Nat,Rep (Im (nF ext H hid m) [] m w) (Sz w) m2 v x':=by
 cases h with
 |same hn=>intro v hv m2;exact(gy hn hv).mono (fun _ _ h=>GN h) (fun _ _ h=>h) (fun _ _ _ h=>h)
 | @ms k off len vs hk hnh hl hm =>
  intro v hr m2;have hb:=hh.blk k _ hk;cases hr with
  |ms0 a=>simp only[List.take_zero];exact .lst0 _ _ _
  | @ms _ _ _ _ _ cap b hmk hc hS =>
   rw[hmk]at hb;cases hb with
   | @vec _ _ c t hw hcv h1 =>
    have hcs:c.size=vs.length:=by rw[<- hcv];simp
    have hlen:(((vs.drop off).take len).map AV.v).length=len:=by rw[length_map,length_take,List.length_drop];omega
    have he':∀(i:Nat)(e:AV),(((vs.drop off).take len).map AV.v)[i]?=some e->∃u,e=.v u/\c[off+i]?=some u/\u∈vs:=by
     intro i e he;rw[getElem?_map,map_eq_some_iff]at he;obtain⟨u,he,rfl⟩:=he;rw[getElem?_take]at he;split at he
     ·rw[getElem?_drop]at he;exact⟨u,rfl,by rw[<- Array.getElem?_toList,hcv];exact he,mem_of_getElem? he⟩
     ·cases he
    have:=Rep.lst (g:=Im (nF ext H hid m) [] m w) (S:=Sz w) (m:=m2) (b:=b) (off:=off) (cap:=cap) (sz:=1) (es:=((vs.drop off).take len).map AV.v) (cs:=c) (fun i j=>c.getD (off+i) undef)
     ⟨BW hh hk hmk hnh,td,t,(0,0),hw⟩ oz oz ?_ ?_ ?_ ?_
    ·rw[hlen]at this;simpa using this
    ·intro i e he;obtain⟨u,rfl,_⟩:=he' i e he;rfl
    ·intro i j e x he hx;obtain⟨u,rfl,_,hm⟩:=he' i e he;cases j with
     |zero=>cases hx;exact h1 u hm
     |succ j=>cases hx
    ·intro i j e x he hx;obtain⟨u,rfl,hu,_⟩:=he' i e he;cases j with
     |zero=>rw[Nat.mul_one,Nat.add_zero,getD_eq_getD_getElem?,hu];rfl
     |succ j=>cases hx
    ·intro i j e x he hx;obtain⟨u,rfl,hu,_⟩:=he' i e he;cases j with
     |zero=>cases hx;rw[getD_eq_getD_getElem?,hu];exact .v _
     |succ j=>cases hx
def EK:AV->Bool
  | .v (.int _ _)=>true
  |_=>false
def Fq:AV->Bool
  | .v (.int _ _)=>false
  | .v _=>true
  | .lst _ _=>true
  | .ms _ _ _ _=>true
  |_=>false
mutual
def AV.li:AV->Bool
  | .v _=>true
  | .agg cs=>AV.lis cs
  | .tup cs=>AV.lis cs
  | .lst sz es=>Nat.beq sz 1&&es.all EK
  |_=>false
def AV.lis:List AV->Bool
  |[]=>true
  |x::l=>x.li&&AV.lis l
end
theorem AV.lis_mem:∀{l:List AV}{c:AV},AV.lis l=true->c∈l->c.li=true
 |x::l,c,h,hc=>by
  simp only[AV.lis,and_eq_true]at h;rcases List.mem_cons.1 hc with rfl |hc
  ·exact h.1
  ·exact AV.lis_mem h.2 hc
theorem P7{g:Nat->Array Value->Prop}{S:Nat->Nat->Prop}{m:Nat->Option Nat}{u:Value}{x:AV}(hx:Fq x=true)(h:Rep g S m u x)(kk:IntKind)(z:Int):u≠.int kk z:=by
 rintro rfl;cases h <;> cases hx
theorem P9{g g':Nat->Array Value->Prop}{S S':Nat->Nat->Prop}{m m':Nat->Option Nat}{v:Value}{x:AV}(hx:x.li=true)
  (hg:∀b cs (o:Nat)(kk:IntKind)(z:Int),cs[o]?=some (.int kk z)->g b cs->g' b cs) (h:Rep g S m v x):Rep g' S' m' v x:=by
 induction h with
 |v=>exact .v _
 |agg hn h1 hr ih=>exact .agg hn h1 (fun j u c hu hc=>ih j u c hu hc (AV.lis_mem hx (mem_of_getElem? hc)))
 |tup hn hr ih=>exact .tup hn (fun j u c hu hc=>ih j u c hu hc (AV.lis_mem hx (mem_of_getElem? hc)))
 |lst0 a cap sz=>exact .lst0 _ _ _
 | @lst _ b off cap sz es cs u hb hc hl hs h1 hu hr _ =>
  simp only[AV.li,and_eq_true]at hx;have hsz:=eq_of_beq_eq_true hx.1;subst hsz
  match es,hx,hc,hl,hs,h1,hu,hr with
  |[],_,_,_,_,_,_,_=>exact .lst0 _ _ _
  |e::es,hx,hc,hl,hs,h1,hu,hr =>
   have hcell:∀(i j:Nat)(e' c:AV),(e::es)[i]?=some e'->e'.cells[j]?=some c->∃kk z,c=.v (.int kk z):=by
    intro i j e' c he hc';have h9:=List.all_eq_true.1 hx.2 e' (mem_of_getElem? he);cases e' with
    |v y=>cases y with
     |int kk z =>
      cases j with
      |zero=>cases hc';exact⟨_,_,rfl⟩
      |succ j=>cases hc'
     |_=>cases h9
    |_=>cases h9
   have he0:∃kk z,e=.v (.int kk z):=by
    have h9:=List.all_eq_true.1 hx.2 e (by simp);cases e with
    |v y=>cases y with
     |int kk z=>exact⟨_,_,rfl⟩
     |_=>cases h9
    |_=>cases h9
   obtain⟨kk,z,rfl⟩:=he0;have h8:=hu 0 0 _ _ rfl rfl;have h7:=hr 0 0 _ _ rfl rfl;have h6:u 0 0=.int kk z:=FL h7;rw[h6]at h8;refine .lst u (hg b cs _ kk z h8 hb) hc hl hs h1 hu (fun i j e' c he hc'=>?_);obtain⟨k2,z2,rfl⟩:=hcell i j e' c he hc';rw[FL (hr i j _ _ he hc')];exact .v _
 |_=>cases hx
theorem Con.lend{f:FuncId}{k:Nat}{cs:List AV}{cs':Value->List AV}{H:Hp}{r:AV}(hid:List Nat)(j0:Nat)(hk:lk H k=some (.box cs))(hkh:k∉hid)
  (hc:∀v:Value,v.oneCell'=true->(cs' v).length=cs.length/\(∀(j:Nat)(x:AV),(cs' v)[j]?=some x->x.one=true) /\
   ∀(j:Nat)(x x':AV),cs[j]?=some x->(cs' v)[j]?=some x'->(j=j0/\x'=.v v)\/Lent H hid x x')
  (hj:j0<cs.length)
  (hH:∀k z,lk H k=some z->k∈hid\/(∃cs,z=.box cs/\cs.all Fq=true)\/∃vs,z=.vec vs/\∀v∈vs,∀kk z,v≠.int kk z) (hr:r.li=true) (h:∀v:Value,gB P f [.iptr (cs' v)] r):Con P f [.ptr k 0] H r H:=by
 refine⟨(h undef).ok,?_⟩;intro ext m w vs hext hheap hvs hrep;have hsz:0<vs.size:=by rw[hvs];exact Nat.one_pos
 have hr0:=hrep 0 vs[0] _ (Array.getElem?_eq_getElem hsz) rfl;have hb:=hheap.blk k _ hk;generalize hv0:vs[0]=v0 at hr0;cases hr0 with
 | @ptr _ _ _ b hmk =>
  rw[hmk]at hb;cases hb with
  | @box _ _ c t hw hn h1 hrr =>
   have hj0:j0<c.size:=by omega
   have hx0:=getElem?_eq_getElem (l:=cs) (i:=j0) oz;have hone:(c[j0]).oneCell'=true:=(hrr j0 _ _ (Array.getElem?_eq_getElem hj0) hx0).one (h1 j0 _ hx0);obtain⟨g1,g2,g3⟩:=hc c[j0] hone
   have hext':∀b,nF ext H hid m b->b<w.heap.size:=by
    rintro b (h9 |⟨k',z',_,h2,h3⟩)
    ·exact hext b h9
    ·exact(hheap.sep k' z' b h2 h3).2
   have hcall := (h c[j0]).ret (nF ext H hid m) m w vs hext' ⟨fun k z hz => by (cases hz), fun k k' x x' b hx => by (cases hx), fun k x b hx => by (cases hx)⟩ (by rw [hvs]; rfl) (by
    intro j v x hv hx
    match j,hx with
    |0,hx =>
     cases hx;rw[Array.getElem?_eq_getElem hsz,hv0]at hv;cases hv;refine .iptr (cs:=c) (fun j=>c.getD j undef) ⟨BW hheap hk hmk hkh,td,t,(0,0),hw⟩ g2 ?_ ?_
     ·intro j x hx;have hlt:j < c.size:=by rw [hn,<- g1]; exact (List.getElem?_eq_some_iff.1 hx).1
      rw[Nat.zero_add,getD_eq_getD_getElem?,Array.getElem?_eq_getElem hlt];rfl
     ·intro j x hx;have hlt:j < c.size:=by rw [hn,<- g1]; exact (List.getElem?_eq_some_iff.1 hx).1
      obtain⟨y,hy⟩:=gO g1 hx;have hcv:c[j]?=some (c.getD j undef):=by rw[getD_eq_getD_getElem?,Array.getElem?_eq_getElem hlt];rfl
      rcases g3 j y x hy hx with⟨rfl,rfl⟩ |hl
      ·have : c.getD j undef = c[j] := by rw [Array.getElem?_eq_getElem hlt] at hcv; exact (Option.some.inj hcv).symm
       rw[this];exact .v _
      ·exact hl.rep hheap (hrr j _ y hcv hy) cK)
   refine Calls.mono hcall ?_;rintro e w' ⟨v,m',rfl,hf,hh,hnew,hkeep,hres⟩;have hkeepB:∀b,b<w.heap.size->w'.heap[b]?=w.heap[b]? := fun b hb=>hf.keep b hb td
   have hframe:Frame (aS H m) w w':=⟨hf.os,hf.tape,hf.output,hf.size,hf.sz,fun b hb _=>hkeepB b hb⟩
   have him:=dU (ext:=ext) hframe (hp':=H) (m':=m) (fun k x b hk hb=>.inl ⟨k,x,hk,hb⟩);refine⟨v,m,rfl,hframe,⟨?_,hheap.inj,?_⟩,fun k x b hk hb=>.inl ⟨k,x,hk,hb⟩,fun _ _ _ _ _=>rfl,?_⟩
   ·intro k z hz;exact BlkRep.mono (w:=w) him hf.sz (fun _ _ _ h=>h) rfl (fun b hb=>hkeepB b (hheap.sep k z b hz hb).2) (hheap.blk k z hz)
   ·intro k z b hz hb;have:=hheap.sep k z b hz hb;exact⟨this.1,lt_of_lt_of_le this.2 hf.size⟩
   ·refine P9 hr ?_ hres;rintro b2 cs2 o kk z ho ⟨g1,g2,t2,fl,g3⟩;refine⟨fun h9=>g1 (.inl h9),?_,t2,fl,g3⟩;rintro⟨k2,y,hk2,hb2⟩;have hlt:=fun b hb=>(hheap.sep k2 _ b hk2 hb).2
    have h3:=hheap.blk k2 _ hk2;rw[hb2]at h3;rcases hH k2 y hk2 with h9 |⟨cl,rfl,hcl⟩ |⟨vs2,rfl,hvl⟩
    ·exact g1 (.inr ⟨k2,y,h9,hk2,hb2⟩)
    ·cases h3 with
     | @box _ _ c2 t' hw2 hn2 h12 hrr2 =>
      have hcc:c2=cs2:=by
       rw[hkeepB b2 (hlt b2 hb2),hw2]at g3
       injection g3 with g3
       injection g3
      subst hcc;have ho':o<c2.size:=(Array.getElem?_eq_some_iff.1 ho).1;have hx:=getElem?_eq_getElem (l:=cl) (i:=o) oz;exact P7 (List.all_eq_true.1 hcl _ (mem_of_getElem? hx)) (hrr2 o _ _ ho hx) kk z rfl
    ·cases h3 with
     | @vec _ _ c2 t' hw2 hc2 h12 =>
      have hcc:c2=cs2:=by
       rw[hkeepB b2 (hlt b2 hb2),hw2]at g3
       injection g3 with g3
       injection g3
      subst hcc;have:Value.int kk z∈vs2:=by rw[<- hc2];exact Array.mem_toList_iff.2 (Array.mem_of_getElem? ho)
      exact hvl _ this kk z rfl
end Go.Lw
