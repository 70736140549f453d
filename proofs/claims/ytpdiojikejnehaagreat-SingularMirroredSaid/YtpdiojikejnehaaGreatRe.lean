/- SingularMirrored: for any linkage and any turns the law returns true and leaves its arguments as they were. No other condition. Part 5 of 8: what the later parts need -/
import Derived.Test.YtpdiojikejnehaaGreatRd
set_option linter.unusedVariables false
open List (mem_append foldl_cons map_map range_succ)
open List renaming mem_of_getElem? → Xx, map_cons → Yi, mem_cons → X6, length_cons → XK, length_append → XZ, length_nil → XM, getD_eq_getElem?_getD → Xy, all_eq_true → X9, getElem?_take → X0, getElem?_drop → Ya, getElem?_map → XE, getElem?_eq_getElem → XC, getElem?_replicate → X1, map_append → XQ, length_take → XO, take_of_length_le → XR, drop_zero → Yh, take_length → XP, not_mem_nil → XV, length_map → XA, length_replicate → X5, map_replicate → Yc, map_set → Yg, length_set → Yj
open Nat renaming eq_of_beq_eq_true → XG, le_refl → XD, lt_of_lt_of_le → XS, lt_or_ge → XH, le_trans → XW, zero_le → XJ
open Option renaming map_eq_some_iff → XB
open Bool renaming and_eq_true → XF
open Array renaming getD_eq_getD_getElem? → XI
open Int renaming toNat_natCast → X3
open Go.Proofs.Tryz
namespace Go.Lw
open Go.Proofs
theorem pF(ts:LL)(m r:Nat)(ht:kS ts m r)(hm:m<=5)(hml:m<=ts.length)(k:Nat):∀(j:Nat)(a b:List Rat)(e f:Nat),j<=m->j<=k->Nl j a->Nl j b->Cb e a->Cb f b->e+f+eB r j<4398046511104 ->
  FP 238 [aY ts,nA a,nA b] (nA (pT ts k a b)):=by
 induction k using Nat.strongRecOn
 rename_i k ih;intro j a b e f hj hjk ha hb ca cb hs;have hla:=ha.len5 oz;have hlb:=hb.len5 oz;refine aj func238 ?_;refine gl ?_;refine gl ?_;refine JZ [3] [3] (fun(x y:List Rat)(e1 f1:Nat)=>[(1,some (nA x)),(2,some (nA y))]) (fun _ _ _ _=>[]) (fun x y e1 f1=>y.length<=x.length/\Nl j x/\Nl j y/\Cb e1 x/\Cb f1 y/\e1+f1=e+f/\pT ts k a b=pT ts k x y) ?_ ?_
 ·intro K1 J1;refine gC (fun t18=>?_) (fun t18=>?_)
  ·have h1 : a.length < b.length := by have := t18; simp only [aa, decide_eq_true_eq] at this; omega
   exact ES J1 b a f e ⟨by omega,hb,ha,cb,ca,by omega,AU ts k a b h1⟩
  have h1:b.length<=a.length:=by have:=t18;simp only[aa,decide_eq_false_iff_not]at this;omega
  exact ES J1 a b e f ⟨h1,ha,hb,ca,cb,rfl,rfl⟩
 rintro x y e1 f1 ⟨hyx,hx,hy,cx,cy,hef,hp⟩;have hlx:=hx.len5 oz;have hly:=hy.len5 oz;have qx:∀q∈x,Qs q:=fun q hq=>cx.qs oz hq
 have qy:∀q∈y,Qs q:=fun q hq=>cy.qs oz hq
 rw[hp];refine gc (HD x qx oz) ?_;refine b7 (fun _=>(HD y qy oz)) ?_;refine gC (fun t21=>?_) (fun t21=>?_)
 ·have h1:bH x=true\/bH y=true:=by
   have:=t21;cases hz:bH x
   ·rw[hz]at this;exact .inr this
   ·exact .inl rfl
  refine gR ?_;exact l0 (by rw[Tu hyx h1];exact Sub.nil _ _ _)
 have h1:¬(bH x=true\/bH y=true):=by
  have:=t21;cases hz:bH x
  ·rw[hz]at this;intro h;rcases h with h |h;cases h;(rw[show bH y=false from this]at h;cases h)
  ·rw[hz]at this;cases this
 refine gl ?_;refine gC (fun t28=>?_) (fun t28=>?_)
 ·have h2 : x.length = 1 := by have := t28; simp only [aa, beq_iff_eq] at this; omega
  obtain⟨p,rfl⟩:=List.length_eq_one_iff.1 h2;have h3:y≠[]:=fun h=>h1 (.inr (by rw[h];rfl))
  obtain⟨q,rfl⟩:∃q,y=[q]:=List.length_eq_one_iff.1 (by have:=List.length_pos_iff.2 h3;simp at hyx;omega);refine gi rfl ?_;refine gi rfl ?_;refine gc (HP (rt p) (rt q) (qx p (by simp)).ok (qy q (by simp)).ok) ?_;refine gD ?_;refine af ?_;rw[On h1,bV,bV];rfl
 have h2:x.length≠1:=by have:=t28;simp only[aa,beq_eq_false_iff_ne,ne_eq]at this;omega
 have h3:x≠[]:=fun h=>h1 (.inl (by rw[h];rfl))
 obtain⟨i,hij,hxl⟩:∃i,i+1<=j/\x.length=2^(i+1):=by
  rcases Ad hx with h |h |h
  ·exact absurd (List.length_eq_zero_iff.1 h) h3
  ·exact absurd h h2
  ·exact h
 obtain⟨k',rfl⟩:∃k',k=k'+1:=⟨k-1,by omega⟩
 have hp2:=Nat.two_pow_pos i;have hpi:2^i<=32:=cM (b:=5) oz;have hps:2^(i+1)=2*2^i:=by rw[Nat.pow_succ];omega
 have hes:eB r (i+1)<=eB r j:=ig r hij;have hee:eB r (i+1)=2*eB r i+r+2:=rfl;have n1:Nl i (x.take (2^i)):=.inr ⟨i,XD _,kg hxl⟩;have n2:Nl i (x.drop (2^i)):=.inr ⟨i,XD _,kt hxl⟩;refine gl ?_;refine gs (kq (.tmp rfl) (.const _) oz (show _=((2^i:Nat):Int) by rw[nU oz,hxl,lI]) rfl) ?_;refine gs (eW (.tmp rfl) (.none _) (.some _ (.tmp rfl) oz) T67 rfl T45 rfl oz (by simp only[XA];omega) rfl) ?_;refine gs (eW (.tmp rfl) (.some _ (.tmp rfl) oz) (.none _) T67 rfl T45 rfl (by simp only[XA];omega) oz rfl) ?_;refine gD ?_ (9,0);refine gW (Wk.of (sl:=[(1,some (nA x)),(2,some (nA y)),(3,some (.ptr 3 0)),(7,some (i64 ((2^i:Nat):Int))),(8,some (nA (x.take (2^i)))),(9,some (nA (x.drop (2^i))))]) (hp:=[(3,some (.box [.lst 1 (ts.map nA)]))]) (.k (.k (.k (.k (.cons rfl (Sub.of (qY x (2^i))) (.cons rfl (Sub.of (tD x (2^i))) .nil)))))) (.k .nil)) ?_;refine gl ?_;refine gC (fun t52=>?_) (fun t52=>?_)
 ·have h4 : y.length <= 2 ^ i := by have := t52; simp only [aa, decide_eq_true_eq] at this; omega
  have n3:Nl i y:=QB hy h4;have s1:=fY ts m ht.1 i k' _ _ oz oz n1 n3;have s2:=fY ts m ht.1 i k' _ _ oz oz n2 n3;refine gc (ih k' oz i _ _ e1 f1 oz oz n1 n3 cx.take cy oz) ?_;refine gc (ih k' oz i _ _ e1 f1 oz oz n2 n3 cx.drop cy oz) ?_;refine gc (x6 _ _ (2^i) s1.1.le s2.1.le oz) ?_;refine gD ?_;refine af ?_;rw[Ur hxl h4 h1]
 have h4:¬y.length<=2^i:=by have:=t52;simp only[aa,decide_eq_false_iff_not]at this;omega
 have hyl:=S0 hy h4 oz;have n3:Nl i (y.take (2^i)):=.inr ⟨i,XD _,kg hyl⟩;have n4:Nl i (y.drop (2^i)):=.inr ⟨i,XD _,kt hyl⟩;have nd:=ht.1 i oz;have cd:=ht.2.cb i;have s1:=fY ts m ht.1 i k' _ _ oz oz n1 n3;have s2:=fY ts m ht.1 i k' _ _ oz oz n2 n4;have s3:=fY ts m ht.1 i k' _ _ oz oz s2.1 nd;have s4:=fY ts m ht.1 i k' _ _ oz oz n1 n4;have s5:=fY ts m ht.1 i k' _ _ oz oz n2 n3;have c1:=Cb.mul ht (k:=k') (show i<=m by omega) oz n1 n3 cx.take cy.take;have c2:=Cb.mul ht (k:=k') (show i<=m by omega) oz n2 n4 cx.drop cy.drop;have c3:=Cb.mul ht (k:=k') (show i<=m by omega) oz s2.1 nd c2 cd;have c4:=Cb.mul ht (k:=k') (show i<=m by omega) oz n1 n4 cx.take cy.drop;have c5:=Cb.mul ht (k:=k') (show i<=m by omega) oz n2 n3 cx.drop cy.take;have hpT:=NB (ts:=ts) (k:=k') hxl h4 hyx h1;refine gs (eW (.tmp rfl) (.none _) (.some _ (.tmp rfl) oz) T67 rfl T45 rfl oz (by simp only[XA];omega) rfl) ?_;refine gs (eW (.tmp rfl) (.some _ (.tmp rfl) oz) (.none _) T67 rfl T45 rfl (by simp only[XA];omega) oz rfl) ?_;refine gD ?_ (12,0);refine gW (Wk.of (sl:=[(1,some (nA x)),(3,some (.ptr 3 0)),(7,some (i64 ((2^i:Nat):Int))),(8,some (nA (x.take (2^i)))),(9,some (nA (x.drop (2^i)))),(10,some (nA (y.take (2^i)))),(11,some (nA (y.drop (2^i))))]) (hp:=[(3,some (.box [.lst 1 (ts.map nA)]))]) (.k (.k (.k (.k (.k (.cons rfl (Sub.of (qY y (2^i))) (.cons rfl (Sub.of (tD y (2^i))) .nil))))))) (.k .nil)) ?_;refine gc (sT qA x oz) ?_;refine ga (show _=(i:Int) by rw[hxl,tY,eg oz];omega) ?_;refine gi (z7 (j:=i) oz) ?_;refine gD ?_;refine gc (ih k' oz i _ _ e1 f1 oz oz n1 n3 cx.take cy.take oz) ?_;refine gc (ih k' oz i _ _ e1 f1 oz oz n2 n4 cx.drop cy.drop oz) ?_;refine gc (ih k' oz i _ _ _ _ oz oz s2.1 nd c2 cd oz) ?_;refine gc (oH _ _ (fun q hq=>c1.qs oz hq) (fun q hq=>c3.qs oz hq) (by have:=s1.1.le;omega) (by have:=s3.1.le;omega)) ?_;refine gD ?_;refine gc (ih k' oz i _ _ e1 f1 oz oz n1 n4 cx.take cy.drop oz) ?_;refine gc (ih k' oz i _ _ e1 f1 oz oz n2 n3 cx.drop cy.take oz) ?_;refine gc (oH _ _ (fun q hq=>c4.qs oz hq) (fun q hq=>c5.qs oz hq) (by have:=s4.1.le;omega) (by have:=s5.1.le;omega)) ?_;refine gc (x6 _ _ (2^i) (by have:=s1.1.le;have:=s3.1.le;rw[fW];omega) (by have:=s4.1.le;have:=s5.1.le;rw[fW];omega) oz) ?_;refine gD ?_;refine af ?_;rw[hpT]
theorem Be(ts:LL)(m r:Nat)(ht:kS ts m r)(hm:m<=5)(hml:m<=ts.length)(i:Nat)(a:List Rat)(e:Nat)(hi:i+1<=m)(hal:a.length=2^(i+1))(ca:Cb e a)(hs:4*e+3*eB r i+r+1<4398046511104) :
  FP 319 [aY ts,nA a] (nA (ii ts i a)):=by
 have hp2:=Nat.two_pow_pos i;have hpi:2^i<=32:=cM (b:=5) oz;have hps:2^(i+1)=2*2^i:=by rw[Nat.pow_succ];omega
 have n1:Nl i (a.take (2^i)):=.inr ⟨i,XD _,kg hal⟩;have n2:Nl i (a.drop (2^i)):=.inr ⟨i,XD _,kt hal⟩;have nd:=ht.1 i oz;have cd:=ht.2.cb i;have s1:=fY ts m ht.1 i i _ _ oz oz n1 n1;have s2:=fY ts m ht.1 i i _ _ oz oz n2 n2;have s3:=fY ts m ht.1 i i _ _ oz oz s2.1 nd;have c1:=Cb.mul ht (k:=i) (show i<=m by omega) oz n1 n1 ca.take ca.take;have c2:=Cb.mul ht (k:=i) (show i<=m by omega) oz n2 n2 ca.drop ca.drop;have c3:=Cb.mul ht (k:=i) (show i<=m by omega) oz s2.1 nd c2 cd;refine aj func319 ?_;refine gl ?_;refine gs (kq (.tmp rfl) (.const _) oz (show _=((2^i:Nat):Int) by rw[nU oz,hal,lI]) rfl) ?_;refine gs (eW (.tmp rfl) (.none _) (.some _ (.tmp rfl) oz) T67 rfl T45 rfl oz (by simp only[XA];omega) rfl) ?_;refine gs (eW (.tmp rfl) (.some _ (.tmp rfl) oz) (.none _) T67 rfl T45 rfl (by simp only[XA];omega) oz rfl) ?_;refine gD ?_ (3,0);refine gW (Wk.of (sl:=[(1,some (nA a)),(2,some (.ptr 2 0)),(6,some (nA (a.take (2^i)))),(7,some (nA (a.drop (2^i))))]) (hp:=[(2,some (.box [.lst 1 (ts.map nA)]))]) (.k (.k (.cons rfl (Sub.of (qY a (2^i))) (.cons rfl (Sub.of (tD a (2^i))) .nil)))) (.k .nil)) ?_;refine gc (pF ts m r ht hm hml i i _ _ e e oz oz n1 n1 ca.take ca.take oz) ?_;refine gc (pF ts m r ht hm hml i i _ _ e e oz oz n2 n2 ca.drop ca.drop oz) ?_;refine gc (sT qA a oz) ?_;refine ga (show _=(i:Int) by rw[hal,tY,eg oz];omega) ?_;refine gi (z7 (j:=i) oz) ?_;refine gc (pF ts m r ht hm hml i i _ _ _ _ oz oz s2.1 nd c2 cd oz) ?_;refine gc (uf _ (fun q hq=>c3.qs oz hq) (by have:=s3.1.le;omega)) ?_;refine gc (oH _ _ (fun q hq=>c1.qs oz hq) (fun q hq=>c3.minus.qs oz hq) (by have:=s1.1.le;omega) (by have:=s3.1.le;rw[jD];omega)) ?_;refine gD ?_;refine af ?_;rfl
theorem oN(ts:LL)(m r:Nat)(ht:kS ts m r)(hm:m<=5)(hml:m<=ts.length)(j:Nat):∀(a:List Rat)(e:Nat),j<=m->Nl j a->Cb e a->sB r j e<4398046511104 ->
  FP 230 [aY ts,nA a] (i64 (T.sgn (ax ts) j (ae j a))):=by
 induction j using Nat.strongRecOn
 rename_i j ih;intro a e hj ha ca hs;have hse:=uq r j e;have qa:∀q∈a,Qs q:=fun q hq=>ca.qs oz hq
 obtain⟨s,hsa⟩:∃s,s=sh j (ae j a):=⟨_,rfl⟩
 have hsd:ae j s=ae j a:=by rw[hsa,bg]
 have hsn:Nl j s:=by rw[hsa];exact eQ j _
 have cs:Cb e s:=by rw[hsa];exact ca.sh ha
 have hls:=hsn.len5 oz;rw[<- hsd];refine aj func230 ?_;refine gc (hsa▸lC a oz ha qa) ?_;refine gl ?_;refine gC (fun t12=>?_) (fun t12=>?_)
 ·have h1 : s=[] := List.length_eq_zero_iff.1 (by have := t12;simp only[aa,beq_iff_eq]at this;omega);refine af ?_;rw[h1,iW,T.sgn_zero];rfl
 have h1:s.length≠0:=by have:=t12;simp only[aa,beq_eq_false_iff_ne,ne_eq]at this;omega
 refine gl ?_;refine gC (fun t15=>?_) (fun t15=>?_)
 ·have h2 : s.length = 1 := by have := t15; simp only [aa, beq_iff_eq] at this; omega
  obtain⟨q,rfl⟩:=List.length_eq_one_iff.1 h2;refine gi rfl ?_;refine gc (vf (rt q) (cs.qs oz (by simp:q∈[q])).ok) ?_;refine af ?_;rw[kN,T.sgn_ofQ,bV]
 have h2:s.length≠1:=by have:=t15;simp only[aa,beq_eq_false_iff_ne,ne_eq]at this;omega
 obtain⟨i,hij,hsl⟩:∃i,i+1<=j/\s.length=2^(i+1):=by
  rcases Ad hsn with h |h |h
  ·exact absurd h h1
  ·exact absurd h h2
  ·exact h
 have hp2:=Nat.two_pow_pos i;have hpi:2^i<=32:=cM (b:=5) oz;have hps:2^(i+1)=2*2^i:=by rw[Nat.pow_succ];omega
 have n1:Nl i (s.take (2^i)):=.inr ⟨i,XD _,kg hsl⟩;have n2:Nl i (s.drop (2^i)):=.inr ⟨i,XD _,kt hsl⟩;have nd:=ht.1 i oz;have cd:=ht.2.cb i;obtain⟨nn,dn,cn⟩:=vj ht oz hsl cs;have b1:sB r i (4*e+3*eB r i+r+1)<=sB r j e:=wj r e hij;have b2:sB r i e<=sB r i (4*e+3*eB r i+r+1):=ut r i oz;have b3:sB r i r<=sB r i (4*e+3*eB r i+r+1):=ut r i oz;have b4:=uq r i (4*e+3*eB r i+r+1);have k1:=ih i oz (s.take (2^i)) e oz n1 cs.take oz;have k2:=ih i oz (s.drop (2^i)) e oz n2 cs.drop oz;have k3:=ih i oz _ r oz nd cd oz;have k4:=ih i oz _ _ oz nn cn oz
 have hres:T.sgn (ax ts) j (ae j s)=T.sgn3 (T.sgn (ax ts) i (ae i (s.take (2^i)))) (T.sgn (ax ts) i (ae i (s.drop (2^i)))) (T.sgn (ax ts) i (ae i (ts.getD i []))) (T.sgn (ax ts) i (ae i (ii ts i s))):=by
  rw[xm _ oz hij,dn];rfl
 have v1:=T.sgn_cases (ax ts) i (ae i (s.take (2^i)));have v4:=T.sgn_cases (ax ts) i (ae i (ii ts i s));refine gl ?_;refine gs (kq (.tmp rfl) (.const _) oz (show _=((2^i:Nat):Int) by rw[nU oz,hsl,lI]) rfl) ?_;refine gs (eW (.tmp rfl) (.none _) (.some _ (.tmp rfl) oz) T67 rfl T45 rfl oz (by simp only[XA];omega) rfl) ?_;refine gc (by have h9:=k1;rw[<- qY]at h9;exact h9) ?_;refine gs (eW (.tmp rfl) (.some _ (.tmp rfl) oz) (.none _) T67 rfl T45 rfl (by simp only[XA];omega) oz rfl) ?_;refine gc (by have h9:=k2;rw[<- tD]at h9;exact h9) ?_;refine gD ?_;refine gc (sT qA s oz) ?_;refine ga (show _=(i:Int) by rw[hsl,tY,eg oz];omega) ?_;refine gi (z7 (j:=i) oz) ?_;refine gc k3 ?_;refine gD ?_;refine gC (fun t42=>?_) (fun t42=>?_)
 ·have e1 : T.sgn (ax ts) i (ae i (ts.getD i [])) = 0 := by simpa [aa] using t42
  refine af ?_;rw[hres];unfold T.sgn3;rw[Yl e1]
 have e1:¬T.sgn (ax ts) i (ae i (ts.getD i []))=0:=by simpa[aa]using t42
 refine gC (fun t44=>?_) (fun t44=>?_)
 ·have e2:T.sgn (ax ts) i (ae i (s.take (2^i)))=T.sgn (ax ts) i (ae i (s.drop (2^i)))\/T.sgn (ax ts) i (ae i (s.drop (2^i)))=0:=RN t44;refine af ?_;rw[hres];unfold T.sgn3;rw[Yk e1,Yl e2]
 have e2:¬(T.sgn (ax ts) i (ae i (s.take (2^i)))=T.sgn (ax ts) i (ae i (s.drop (2^i)))\/T.sgn (ax ts) i (ae i (s.drop (2^i)))=0):=U1 t44;refine gC (fun t53=>?_) (fun t53=>?_)
 ·have e3 : T.sgn (ax ts) i (ae i (s.take (2 ^ i))) = 0 := by simpa [aa] using t53
  refine af ?_;rw[hres];unfold T.sgn3;rw[Yk e1,Yk e2,Yl e3]
 have e3:¬T.sgn (ax ts) i (ae i (s.take (2^i)))=0:=by simpa[aa]using t53
 refine gc (Be ts m r ht hm hml i s e oz hsl cs oz) ?_;refine gc k4 ?_;refine ga (UN v1 v4) ?_;refine gD ?_;refine af ?_;rw[hres];unfold T.sgn3;rw[Yk e1,Yk e2,Yk e3];rfl
theorem qN(rs:List (List Rt))(r:Nat)(h:TR rs r):FP 144 [dI rs] (br (bC rs)):=by
 have hll:=h.ll;have hr:=h.le;refine aj func144 ?_;refine gl ?_;refine gC (fun t10=>?_) (fun t10=>?_)
 ·have h5 : 5 < rs.length := by have := t10; simp only [aa, decide_eq_true_eq] at this; omega
  refine af ?_;rw[Pa h5];rfl
 have h5:rs.length<=5:=by have:=t10;simp only[aa,decide_eq_false_iff_not]at this;omega
 refine gl ?_;refine aW [1,13,14] [1] (fun(k:Nat)=>[(15,some (i64 k))]) (fun _=>[]) (fun k=>k<=rs.length/\∀j,j<k->jM rs j) (fun k=>rs.length-k) 0 ⟨XJ _,fun j hj=>by omega⟩ ?_;rintro k ⟨hk,hj⟩ K1 J1;refine gC (fun t16=>?_) (fun t16=>?_)
 ·have hin : k < rs.length := by simpa [aa] using t16
  obtain⟨d,hd⟩:=aw hin;have hdm:=Xx hd;have hdl:=h.len d hdm;refine gi (aE hd) ?_;refine gl ?_;refine gs (iU (.const _) (.tmp rfl) oz (rW oz) rfl) ?_;refine gC (fun t24=>?_) (fun t24=>?_)
  ·have h1 : d.length ≠ 2 ^ k := by have := t24; simp only [aa, bne_iff_ne, ne_eq] at this; omega
   refine af ?_;rw[M9 h5 hd hj h1];rfl
  have h1:d.length=2^k:=by have:=t24;simp only[aa,bne_eq_false_iff_eq]at this;omega
  have htl:(rs.take k).length=k:=by simp;omega
  have hnu:=Eh (rs.take k) d (h.ok d hdm) hdl oz;rw[htl]at hnu;refine gs (eW (.tmp rfl) (.none _) (.some _ (.tmp rfl) oz) T35 rfl T67 rfl oz (by simp only[XA];omega) rfl) ?_ (9,0);refine gW (Wk.of (sl:=[(1,some (.ptr 1 0)),(3,some (i64 k)),(4,some (nR d)),(5,some (.ptr 5 0)),(13,some (.lst 1 (rs.map nR))),(14,some (i64 rs.length)),(15,some (i64 k))]) (hp:=[(1,some (.box [.lst 1 (rs.map nR)])),(5,some (.box [.lst 1 ((rs.take k).map nR)]))]) aZ (.k (.cons rfl (BlkSub.bL (.cons (.of (LV nR rs k)) .nil) rfl) .nil))) ?_;refine gc hnu ?_;refine gC (fun t35=>?_) (fun t35=>?_)
  ·have h2:=cU t35;refine af ?_;rw[RK h5 hd hj h1 h2]
  have h2:=cS t35;have hts:=Of (ts:=llq rs) (fun j hjk=>(hj j hjk).nl) h.rb;have hq:=yG h2 (h.ok d hdm);have hcb:Cb r (lq d):=by have:=h.rb.cb k;rw[wQ,Xy,hd]at this;exact this
  have hsg:FP 230 [dI (rs.take k),nR d] (i64 (T.sgn (ax (llq rs)) k (ae k (lq d)))):=by
   have h9:=oN ((llq rs).take k) k r hts oz (by simp;omega) k (lq d) r (XD _) hq.2 hcb (pY (XD k) (by have:=h.three;omega) hr (by have:=kE k;omega));rw[T.sgn_congr k (fun j hjk=>Mh hjk)]at h9;rw[K0 h.ok oz hj,hq.1,eZ];rw[<- hq.1];exact h9
  refine gc hsg ?_;refine gC (fun t40=>?_) (fun t40=>?_)
  ·have h3 : T.sgn (ax (llq rs)) k (ae k (lq d)) < 0 := by simpa [aa] using t40
   refine af ?_;rw[Um h5 hd hj h1 h2 h3];rfl
  have h3:¬T.sgn (ax (llq rs)) k (ae k (lq d))<0:=by simpa[aa]using t40
  refine ga aN ?_;exact aO J1 (k+1) ⟨hin,fun j hjk=>by rcases XH j k with h9 |h9;exact hj j h9;(have:j=k:=by omega);subst this;exact L5 hd h1 h2 h3⟩
 have hin:k=rs.length:=by have:rs.length<=k:=(by simpa[aa]using t16);omega
 subst hin;refine af ?_;rw[Uw h5 hj];rfl
theorem l9(rs:List (List Rt))(r:Nat)(h:TR rs r)(xs:List (List Rt))(hx:∀a∈xs,(∀x∈a,x.ok)/\a.length<=281474976710656)(hl:xs.length<=281474976710656):FP 229 [dI rs,.lst 1 (xs.map nR)] (br (bN rs xs)):=by
 refine aj func229 ?_;refine gc (qN rs r h) ?_;refine gC (fun t12=>?_) (fun t12=>?_)
 ·have h1:=cU t12;refine af ?_;rw[Sr h1]
 have h1:=cS t12;refine gl ?_;refine aW [2,14,15] [2] (fun(i:Nat)=>[(16,some (i64 i))]) (fun _=>[]) (fun i=>i<=xs.length/\∀x∈xs.take i,cG rs.length x=0) (fun i=>xs.length-i) 0 ⟨XJ _,fun x hx=>by simp at hx⟩ ?_;rintro i ⟨hi,hj⟩ K1 J1;refine gC (fun t17=>?_) (fun t17=>?_)
 ·have hin : i < xs.length := by simpa [aa] using t17
  obtain⟨a,ha⟩:=aw hin;have hok:=hx a (Xx ha);refine gi (aE ha) ?_;refine gc (Eh rs a hok.1 hok.2 h.ll) ?_;refine gC (fun t24=>?_) (fun t24=>?_)
  ·have h2:=cU t24;refine af ?_;rw[GK h1 ha hj h2]
  have h2:=cS t24;refine ga aN ?_;exact aO J1 (i+1) ⟨hin,fun x hx=>by rw[dR ha]at hx;rcases List.mem_append.1 hx with h9 |h9;exact hj x h9;(rw[List.mem_singleton.1 h9];exact h2)⟩
 have hin:i=xs.length:=by have:xs.length<=i:=(by simpa[aa]using t17);omega
 subst hin;rw[XP]at hj;refine af ?_;rw[vk h1 hj];rfl
theorem VK(rs:List (List Rt))(r:Nat)(h:TR rs r)(a:List Rt)(e:Nat)(ha:NR a e):FP 307 [dI rs,nR a] (bl (decide (bN rs [a]=0))):=by
 refine aj func307 ?_;refine gc (l9 rs r h [a] (fun x hx=>by rw[List.mem_singleton.1 hx];exact⟨ha.ok,ha.len⟩) (by simp)) ?_;refine af ?_;rw[xU];rfl
theorem F2(rs:List (List Rt))(r:Nat)(h:TR rs r)(a:List Rt)(e:Nat)(ha:NR a e)(he:e<=lm rs.length) :
  FP 147 [dI rs,nR a] (.tup [nA (if bN rs [a]=0 then sh rs.length (T.neg rs.length (ae rs.length (lq a)))else[]),br (bN rs [a])]):=by
 have hlm:=lJ rs.length;refine aj func147 ?_;refine gc (l9 rs r h [a] (fun x hx=>by rw[List.mem_singleton.1 hx];exact⟨ha.ok,ha.len⟩) (by simp)) ?_;refine gC (fun t12=>?_) (fun t12=>?_) (st2:=(77777,0))
 ·have h1:=cU t12;refine gR ?_;exact dF (by rw[Yk h1];exact Sub.tup (.cons (.nil _ _ _) (.cons (.refl _) .nil)))
 have h1:=cS t12;obtain⟨h2,h3⟩:=ox h1;obtain⟨tw,_⟩:=df h h2;obtain⟨e1,na⟩:=ha.num (h3 a (by simp));have h5:rs.length<=5:=by have:=tw.five;rwa [XA]at this
 have hl:=na.len5 h5;have qa:∀q∈lq a,Qs q:=fun q hq=>ha.cb.qs oz hq
 have qm:∀q∈ee (lq a),Qs q:=fun q hq=>ha.cb.minus.qs oz hq
 have nm:=ri na;refine gW (Wk.of (sl:=[(1,some (nA (lq a))),(2,some (.ptr 2 0)),(6,some (br (bN rs [a])))]) (hp:=[(2,some (.box [.lst 1 (rs.map nR)]))]) (.cons rfl (Sub.of e1) (.k (.k .nil))) (.k .nil)) ?_;refine gc (uf _ qa oz) ?_;refine gc (lC _ h5 nm qm) ?_;refine bp ?_;rw[Yl h1,h1,nI];rfl
theorem LJ(rs:List (List Rt))(r:Nat)(h:TR rs r)(a b:List Rt)(e f:Nat)(ha:NR a e)(hb:NR b f)(he:e+f<=lm rs.length) :
  FP 356 [dI rs,nR a,nR b] (.tup [nA (if bN rs [a,b]=0 then sh rs.length (T.add rs.length (ae rs.length (lq a)) (ae rs.length (lq b)))else[]),br (bN rs [a,b])]):=by
 have hlm:=lJ rs.length;refine aj func356 ?_;refine gc (l9 rs r h [a,b] (tm ha hb) (by simp)) ?_;refine gC (fun t15=>?_) (fun t15=>?_) (st2:=(77777,0))
 ·have h1:=cU t15;refine gR ?_;exact dF (by rw[Yk h1];exact Sub.tup (.cons (.nil _ _ _) (.cons (.refl _) .nil)))
 have h1:=cS t15;obtain⟨h2,h3⟩:=ox h1;obtain⟨tw,e0⟩:=df h h2;obtain⟨e1,na⟩:=ha.num (h3 a (by simp));obtain⟨e2,nb⟩:=hb.num (h3 b (by simp));have h5:rs.length<=5:=by have:=tw.five;rwa [XA]at this
 have hla:=na.len5 h5;have hlb:=nb.len5 h5;have qa:∀q∈lq a,Qs q:=fun q hq=>ha.cb.qs oz hq
 have qb:∀q∈lq b,Qs q:=fun q hq=>hb.cb.qs oz hq
 have qp:∀q∈dH (lq a) (lq b),Qs q:=fun q hq=>(ha.cb.plus hb.cb).qs oz hq
 have np:=uw na nb;refine gW (Wk.of (sl:=[(1,some (nA (lq a))),(2,some (nA (lq b))),(3,some (.ptr 3 0)),(8,some (br (bN rs [a,b])))]) (hp:=[(3,some (.box [.lst 1 (rs.map nR)]))]) (.cons rfl (Sub.of e1) (.cons rfl (Sub.of e2) (.k (.k .nil)))) (.k .nil)) ?_;refine gc (oH _ _ qa qb oz oz) ?_;refine gc (lC _ h5 np qp) ?_;refine bp ?_;rw[Yl h1,h1,kR];rfl
theorem PL(rs:List (List Rt))(r:Nat)(h:TR rs r)(a b:List Rt)(e f:Nat)(ha:NR a e)(hb:NR b f)(he:e+f<=lm rs.length) :
  FP 176 [dI rs,nR a,nR b] (.tup [nA (if bN rs [a,b]=0 then sh rs.length (T.add rs.length (ae rs.length (lq a)) (T.neg rs.length (ae rs.length (lq b))))else[]),br (bN rs [a,b])]):=by
 have hlm:=lJ rs.length;refine aj func176 ?_;refine gc (l9 rs r h [a,b] (tm ha hb) (by simp)) ?_;refine gC (fun t15=>?_) (fun t15=>?_) (st2:=(77777,0))
 ·have h1:=cU t15;refine gR ?_;exact dF (by rw[Yk h1];exact Sub.tup (.cons (.nil _ _ _) (.cons (.refl _) .nil)))
 have h1:=cS t15;obtain⟨h2,h3⟩:=ox h1;obtain⟨tw,e0⟩:=df h h2;obtain⟨e1,na⟩:=ha.num (h3 a (by simp));obtain⟨e2,nb⟩:=hb.num (h3 b (by simp));have h5:rs.length<=5:=by have:=tw.five;rwa [XA]at this
 have hla:=na.len5 h5;have hlb:=nb.len5 h5;have qa:∀q∈lq a,Qs q:=fun q hq=>ha.cb.qs oz hq
 have qb:∀q∈lq b,Qs q:=fun q hq=>hb.cb.qs oz hq
 have qm:∀q∈ee (lq b),Qs q:=fun q hq=>hb.cb.minus.qs oz hq
 have qp:∀q∈dH (lq a) (ee (lq b)),Qs q:=fun q hq=>(ha.cb.plus hb.cb.minus).qs oz hq
 have np:=uw na (ri nb);refine gW (Wk.of (sl:=[(1,some (nA (lq a))),(2,some (nA (lq b))),(3,some (.ptr 3 0)),(8,some (br (bN rs [a,b])))]) (hp:=[(3,some (.box [.lst 1 (rs.map nR)]))]) (.cons rfl (Sub.of e1) (.cons rfl (Sub.of e2) (.k (.k .nil)))) (.k .nil)) ?_;refine gc (uf _ qb oz) ?_;refine gc (oH _ _ qa qm oz (by rw[jD];omega)) ?_;refine gc (lC _ h5 np qp) ?_;refine bp ?_;rw[Yl h1,h1,kR,nI];rfl
theorem PH(rs:List (List Rt))(r:Nat)(h:TR rs r)(a b:List Rt)(e f:Nat)(ha:NR a e)(hb:NR b f)(he:e+f<=lm rs.length) :
  FP 127 [dI rs,nR a,nR b] (.tup [nA (if bN rs [a,b]=0 then sh rs.length (T.mul (ax (llq rs)) rs.length (ae rs.length (lq a)) (ae rs.length (lq b)))else[]),br (bN rs [a,b])]):=by
 have hr:=h.le;have hlm:=lJ rs.length;refine aj func127 ?_;refine gc (l9 rs r h [a,b] (tm ha hb) (by simp)) ?_;refine gC (fun t15=>?_) (fun t15=>?_) (st2:=(77777,0))
 ·have h1:=cU t15;refine gR ?_;exact dF (by rw[Yk h1];exact Sub.tup (.cons (.nil _ _ _) (.cons (.refl _) .nil)))
 have h1:=cS t15;obtain⟨h2,h3⟩:=ox h1;obtain⟨tw,e0⟩:=df h h2;obtain⟨e1,na⟩:=ha.num (h3 a (by simp));obtain⟨e2,nb⟩:=hb.num (h3 b (by simp));have hlen:(llq rs).length=rs.length:=XA _;have h5:rs.length<=5:=by have:=tw.five;omega
 have hla:=na.len5 h5;have hlb:=nb.len5 h5;have htw:=tw.ok;rw[hlen]at htw;have hE:=Vl r h5;have np:=fY (llq rs) rs.length htw.1 rs.length rs.length _ _ (XD _) (XD _) na nb;have cp:=Cb.mul htw (k:=rs.length) (XD rs.length) (XD _) na nb ha.cb hb.cb;have hti:=pF (llq rs) rs.length r htw h5 oz rs.length rs.length _ _ e f (XD _) (XD _) na nb ha.cb hb.cb oz;refine gW (Wk.of (sl:=[(1,some (nA (lq a))),(2,some (nA (lq b))),(3,some (.ptr 3 0)),(8,some (br (bN rs [a,b])))]) (hp:=[(3,some (.box [.lst 1 ((llq rs).map nA)]))]) (.cons rfl (Sub.of e1) (.cons rfl (Sub.of e2) (.k (.k .nil)))) (.cons rfl (BlkSub.bL (.cons (.of (mJ e0)) .nil) rfl) .nil)) ?_;refine gc hti ?_;refine gc (lC _ h5 np.1 (fun q hq=>cp.qs oz hq)) ?_;refine bp ?_;rw[Yl h1,h1,np.2];rfl
theorem N7(rs:List (List Rt))(r:Nat)(h:TR rs r)(a b:List Rt)(e f:Nat)(ha:NR a e)(hb:NR b f)(he:e+f+1<=lm rs.length) :
  FP 128 [dI rs,nR a,nR b] (.tup [i64 (if bN rs [a,b]=0 then T.sgn (ax (llq rs)) rs.length (T.add rs.length (ae rs.length (lq a)) (T.neg rs.length (ae rs.length (lq b))))else 0),br (bN rs [a,b])]):=by
 have hr:=h.le;have hlm:=lJ rs.length;refine aj func128 ?_;refine gc (l9 rs r h [a,b] (tm ha hb) (by simp)) ?_;refine gC (fun t15=>?_) (fun t15=>?_) (st2:=(77777,0))
 ·have h1:=cU t15;refine bp ?_;rw[Yk h1];rfl
 have h1:=cS t15;obtain⟨h2,h3⟩:=ox h1;obtain⟨tw,e0⟩:=df h h2;obtain⟨e1,na⟩:=ha.num (h3 a (by simp));obtain⟨e2,nb⟩:=hb.num (h3 b (by simp));have hlen:(llq rs).length=rs.length:=XA _;have h5:rs.length<=5:=by have:=tw.five;omega
 have hla:=na.len5 h5;have hlb:=nb.len5 h5;have htw:=tw.ok;rw[hlen]at htw;have qa:∀q∈lq a,Qs q:=fun q hq=>ha.cb.qs oz hq
 have qb:∀q∈lq b,Qs q:=fun q hq=>hb.cb.qs oz hq
 have qm:∀q∈ee (lq b),Qs q:=fun q hq=>hb.cb.minus.qs oz hq
 have np:=uw na (ri nb);have hsg:=oN (llq rs) rs.length r htw h5 oz rs.length _ _ (XD _) np (ha.cb.plus hb.cb.minus) (pY (XD rs.length) (by have:=tw.three;omega) hr oz);refine gW (Wk.of (sl:=[(1,some (nA (lq a))),(2,some (nA (lq b))),(3,some (.ptr 3 0)),(8,some (br (bN rs [a,b])))]) (hp:=[(3,some (.box [.lst 1 ((llq rs).map nA)]))]) (.cons rfl (Sub.of e1) (.cons rfl (Sub.of e2) (.k (.k .nil)))) (.cons rfl (BlkSub.bL (.cons (.of (mJ e0)) .nil) rfl) .nil)) ?_;refine gc (uf _ qb oz) ?_;refine gc (oH _ _ qa qm oz (by rw[jD];omega)) ?_;refine gc hsg ?_;refine gD ?_;refine bp ?_;rw[Yl h1,h1,kR,nI];rfl
theorem N8(rs:List (List Rt))(r:Nat)(h:TR rs r)(a:List Rt)(e:Nat)(ha:NR a e)(he:e<=lm rs.length) :
  FP 116 [dI rs,nR a] (.tup [i64 (if bN rs [a]=0 then T.sgn (ax (llq rs)) rs.length (ae rs.length (lq a))else 0),br (bN rs [a])]):=by
 have hr:=h.le;have hlm:=lJ rs.length;refine aj func116 ?_;refine gc (l9 rs r h [a] (fun x hx=>by rw[List.mem_singleton.1 hx];exact⟨ha.ok,ha.len⟩) (by simp)) ?_;refine gC (fun t12=>?_) (fun t12=>?_) (st2:=(77777,0))
 ·have h1:=cU t12;refine bp ?_;rw[Yk h1];rfl
 have h1:=cS t12;obtain⟨h2,h3⟩:=ox h1;obtain⟨tw,e0⟩:=df h h2;obtain⟨e1,na⟩:=ha.num (h3 a (by simp));have hlen:(llq rs).length=rs.length:=XA _;have h5:rs.length<=5:=by have:=tw.five;omega
 have htw:=tw.ok;rw[hlen]at htw;have hsg:=oN (llq rs) rs.length r htw h5 oz rs.length _ _ (XD _) na ha.cb (pY (XD rs.length) (by have:=tw.three;omega) hr oz);refine gW (Wk.of (sl:=[(1,some (nA (lq a))),(2,some (.ptr 2 0)),(6,some (br (bN rs [a])))]) (hp:=[(2,some (.box [.lst 1 ((llq rs).map nA)]))]) (.cons rfl (Sub.of e1) (.k (.k .nil))) (.cons rfl (BlkSub.bL (.cons (.of (mJ e0)) .nil) rfl) .nil)) ?_;refine gc hsg ?_;refine bp ?_;rw[Yl h1,h1];rfl
theorem OT(x:Rt)(hx:x.ok)(hs:Qs x.q):FP 165 [x.av] (nA (sh 0 (x.q:Rat))):=by
 have hadd:=ni x (rt 0) hx Qs.zero.ok;rw[rE]at hadd;refine aj func165 ?_;refine gc (Con.sA (.cons (.refl _) (.cons jx .nil)) hadd) ?_;refine gc (lC (n:=0) [x.q] oz (.inr ⟨0,XD _,rfl⟩) (fun q hq=>by rw[List.mem_singleton.1 hq];exact hs)) ?_;refine af ?_;rfl
theorem yg{p q:Rat}(hp:Qs p)(hq:Qs q):FP 231 [qA p,qA q] (qA (p+q)):=by
 have h:=ni (rt p) (rt q) hp.ok hq.ok;rw[bV,bV]at h;exact h
theorem xG{p q:Rat}(hp:Qs p)(hq:Qs q):FP 262 [qA p,qA q] (qA (p-q)):=by
 have h:=LE (rt p) (rt q) hp.ok hq.ok;rw[bV,bV]at h;exact h
theorem tA{p q:Rat}(hp:Qs p)(hq:Qs q):FP 286 [qA p,qA q] (qA (p*q)):=by
 have h:=HP (rt p) (rt q) hp.ok hq.ok;rw[bV,bV]at h;exact h
theorem So{p q:Rat}(hp:Qs p)(hq:Qs q):FP 385 [qA p,qA q] (.tup [qA (p/q),br (if q=0 then 8 else 0)]):=by
 have h:=Dy (rt p) (rt q) hp.ok hq.ok;rw[bV,bV]at h;exact h
theorem RQ{p:Rat}(hp:Qs p):FP 121 [qA p] (qA (-p)):=by
 have h:=uh (rt p) hp.ok;rw[bV]at h;exact h
theorem Nw{p:Rat}(hp:Qs p):FP 209 [qA p] (i64 (bK p)):=by
 have h:=vf (rt p) hp.ok;rw[bV]at h;exact h
theorem tB(x:Tn)(hx:x.t.ok):FP 105 [x.av] (br x.err):=by
 refine aj func105 ?_;refine gc (s9 x.t hx) ?_;refine b7 (fun _=>(vf x.t hx)) ?_;refine gC (fun t16=>?_) (fun t16=>?_)
 ·have h0:=Tn.err_yes t16;refine af ?_;rw[h0];rfl
 have h0:=Tn.err_no t16;refine af ?_;rw[h0];rfl
theorem Dm{p q:Rat}(hp:Qs p)(hq:Qs q):FP 353 [qA p,qA q] (qA (p/q)):=by
 refine aj func353 ?_;refine gc (So hp hq) ?_;refine gC (fun t14=>?_) (fun t14=>?_)
 ·have h0:q=0:=by
   have:=cU t14
   by_cases h:q=0
   ·exact h
   ·rw[Yk h]at this;exact absurd rfl this
  refine gR ?_;exact l0 (by rw[h0,Qy];exact jx)
 refine af ?_;rfl
theorem IC(half:Bool){t:Rat}{e:Nat}(ht:Qb e t)(he:e<=1000000):FP 256 [Tn.av ⟨rt t,half⟩] (.tup [qA (de half t),qA (db half t)]):=by
 have qt:Qs t:=ht.qs oz;have m2:=ht.mul ht;have one:Qb 1 (((1:Int):Rat)):=Qb.one;have d:=one.add m2;refine aj func256 ?_;refine gC (fun t8=>?_) (fun t8=>?_)
 ·have h0:half=true:=t8;refine gc (kA (-1) oz) ?_;refine gR ?_;exact dF (by subst h0;exact Sub.tup (.cons (.refl _) (.cons jx .nil)))
 have h0:half=false:=t8;refine gc (kA 1 oz) ?_;refine gc (tA qt qt) ?_;refine gD ?_;refine gc (yg (one.qs oz) (m2.qs oz)) ?_;refine gc (xG (one.qs oz) (m2.qs oz)) ?_;refine gc (Dm ((one.sub m2).qs oz) (d.qs oz)) ?_;refine gc (yg qt qt) ?_;refine gc (Dm ((ht.add ht).qs oz) (d.qs oz)) ?_;refine gD ?_;refine bp ?_;subst h0;rfl
theorem AA(x:Tn)(hx:x.t.ok){e:Nat}(hq:Qb e x.t.q)(he:e<=1000000):FP 148 [x.av] (.tup [qA (if x.err=0 then de x.half x.t.q else 0),br x.err]):=by
 refine aj func148 ?_;refine gc (tB x hx) ?_;refine gC (fun t10=>?_) (fun t10=>?_)
 ·have h1:=cU t10;refine gR ?_;exact dF (by rw[Yk h1];exact Sub.tup (.cons jx (.cons (.refl _) .nil)))
 have h1:=cS t10;have hd:=IC x.half hq he;rw[<- Rt.eq_rt hx (Tn.ok_valid h1)]at hd;refine gc hd ?_;refine bp ?_;rw[Yl h1,h1];rfl
theorem GJ(x:Tn)(hx:x.t.ok){e:Nat}(hq:Qb e x.t.q)(he:e<=1000000):FP 149 [x.av] (.tup [qA (if x.err=0 then db x.half x.t.q else 0),br x.err]):=by
 refine aj func149 ?_;refine gc (tB x hx) ?_;refine gC (fun t10=>?_) (fun t10=>?_)
 ·have h1:=cU t10;refine gR ?_;exact dF (by rw[Yk h1];exact Sub.tup (.cons jx (.cons (.refl _) .nil)))
 have h1:=cS t10;have hd:=IC x.half hq he;rw[<- Rt.eq_rt hx (Tn.ok_valid h1)]at hd;refine gc hd ?_;refine bp ?_;rw[Yl h1,h1];rfl
theorem x7{ts:LL}{r e f:Nat}(tw:Tw ts r){a b:List Rat}(ha:Nm ts.length e a)(hb:Nm ts.length f b)(he:e+f<=lm ts.length) :
  FP 356 [aY ts,nA a,nA b] (.tup [nA (sh ts.length (T.add ts.length (ae ts.length a) (ae ts.length b))),.v .nilIface]):=by
 have h:=LJ (ts.map (List.map rt)) r tw.tr (a.map rt) (b.map rt) e f (ha.rt oz) (hb.rt oz) (by rw[XA];exact he);have h0:bN (ts.map (List.map rt)) [a.map rt,b.map rt]=0:=tl tw ha hb;rw[h0,Yl rfl,j7,eZ,eZ,eA,eA,XA]at h;exact h
theorem ou{ts:LL}{r e f:Nat}(tw:Tw ts r){a b:List Rat}(ha:Nm ts.length e a)(hb:Nm ts.length f b)(he:e+f<=lm ts.length) :
  FP 176 [aY ts,nA a,nA b] (.tup [nA (sh ts.length (T.add ts.length (ae ts.length a) (T.neg ts.length (ae ts.length b)))),.v .nilIface]):=by
 have h:=PL (ts.map (List.map rt)) r tw.tr (a.map rt) (b.map rt) e f (ha.rt oz) (hb.rt oz) (by rw[XA];exact he);have h0:bN (ts.map (List.map rt)) [a.map rt,b.map rt]=0:=tl tw ha hb;rw[h0,Yl rfl,j7,eZ,eZ,eA,eA,XA]at h;exact h
theorem Bs{ts:LL}{r e f:Nat}(tw:Tw ts r){a b:List Rat}(ha:Nm ts.length e a)(hb:Nm ts.length f b)(he:e+f<=lm ts.length) :
  FP 127 [aY ts,nA a,nA b] (.tup [nA (sh ts.length (T.mul (ax ts) ts.length (ae ts.length a) (ae ts.length b))),.v .nilIface]):=by
 have h:=PH (ts.map (List.map rt)) r tw.tr (a.map rt) (b.map rt) e f (ha.rt oz) (hb.rt oz) (by rw[XA];exact he);have h0:bN (ts.map (List.map rt)) [a.map rt,b.map rt]=0:=tl tw ha hb;rw[h0,Yl rfl,j7,eZ,eZ,rj,eA,eA,XA]at h;exact h
theorem Cc{ts:LL}{r e f:Nat}(tw:Tw ts r){a b:List Rat}(ha:Nm ts.length e a)(hb:Nm ts.length f b)(he:e+f+1<=lm ts.length) :
  FP 128 [aY ts,nA a,nA b] (.tup [i64 (T.sgn (ax ts) ts.length (T.add ts.length (ae ts.length a) (T.neg ts.length (ae ts.length b)))),.v .nilIface]):=by
 have h:=N7 (ts.map (List.map rt)) r tw.tr (a.map rt) (b.map rt) e f (ha.rt oz) (hb.rt oz) (by rw[XA];exact he);have h0:bN (ts.map (List.map rt)) [a.map rt,b.map rt]=0:=tl tw ha hb;rw[h0,Yl rfl,j7,eZ,eZ,rj,eA,eA,XA]at h;exact h
theorem qU{ts:LL}{r e:Nat}(tw:Tw ts r){a:List Rat}(ha:Nm ts.length e a)(he:e<=lm ts.length) :
  FP 116 [aY ts,nA a] (.tup [i64 (T.sgn (ax ts) ts.length (ae ts.length a)),.v .nilIface]):=by
 have h:=N8 (ts.map (List.map rt)) r tw.tr (a.map rt) e (ha.rt he) (by rw[XA];exact he);have h0:bN (ts.map (List.map rt)) [a.map rt]=0:=Bg tw ha;rw[h0,Yl rfl,j7,eZ,rj,eA,XA]at h;exact h
theorem x4{ts:LL}{r e:Nat}(tw:Tw ts r){a:List Rat}(ha:Nm ts.length e a)(he:e<=lm ts.length) :
  FP 147 [aY ts,nA a] (.tup [nA (sh ts.length (T.neg ts.length (ae ts.length a))),.v .nilIface]):=by
 have h:=F2 (ts.map (List.map rt)) r tw.tr (a.map rt) e (ha.rt he) (by rw[XA];exact he);have h0:bN (ts.map (List.map rt)) [a.map rt]=0:=Bg tw ha;rw[h0,Yl rfl,j7,eZ,eA,XA]at h;exact h
theorem QZ{ts:LL}{r:Nat}(tw:Tw ts r):FP 144 [aY ts] (.v .nilIface):=by
 have h:=qN (ts.map (List.map rt)) r tw.tr;rw[tw.chk,j7]at h;exact h
theorem lT{q:Rat}(h:Qs q):FP 165 [qA q] (nA (sh 0 (q:Rat))):=by
 have h1:=OT (rt q) h.ok (by rw[bV];exact h);rw[bV]at h1;exact h1
theorem uZ{ts:LL}{r e:Nat}(tw:Tw ts r)(ls:LL)(hl:∀l∈ls,Nm ts.length e l)(he:e<=lm ts.length)(hn:ls.length<=1000):FP 190 [aY ts,.lst 1 (ls.map nA)] (.v .nilIface):=by
 refine aj func190 ?_;refine gc (QZ tw) ?_;refine gC (fun t13=>?_) (fun t13=>?_) (st1:=(3,0));cases t13;refine gl ?_;refine aW [2,15,16] [2] (fun(i:Nat)=>[(17,some (i64 i))]) (fun _=>[]) (fun i=>i<=ls.length) (fun i=>ls.length-i) 0 (XJ _) ?_;rintro i hi K1 J1;refine gC (fun t18=>?_) (fun t18=>?_)
 ·have hin : i < ls.length := by simpa [aa] using t18
  obtain⟨l,hll⟩:=aw hin;have hok:=hl l (Xx hll);refine gi (aE hll) ?_;refine gc (x4 tw hok he) ?_;refine gC (fun t28=>?_) (fun t28=>?_) (st1:=(9,0));cases t28;refine ga aN ?_;exact aO J1 (i+1) hin
 have hin:i=ls.length:=by have:ls.length<=i:=(by simpa[aa]using t18);omega
 refine af ?_
 first |rfl |(simp;done)
theorem my{ts:LL}{r e:Nat}(tw:Tw ts r)(ps:List (List Rat×List Rat))(hl:∀p∈ps,Nm ts.length e p.1/\Nm ts.length e p.2)(he:e<=lm ts.length)(hn:ps.length<=500):FP 171 [aY ts,.lst 2 (ps.map fun p=>aM p.1 p.2)] (.v .nilIface):=by
 refine aj func171 ?_;refine gl ?_;refine gW (Wk.virt 900 1 rfl) ?_;refine aW [2,8,9] [2] (fun(i:Nat)=>[(5,some (.ms 900 1 0 (2*i))),(10,some (i64 i))]) (fun i=>[(900,some (.row 1 ((iw (ps.take i)).map nA)))]) (fun i=>i<=ps.length) (fun i=>ps.length-i) 0 (XJ _) ?_;rintro i hi K1 J1;refine gC (fun t11=>?_) (fun t11=>?_) (st2:=(7,0))
 ·have hin : i < ps.length := by simpa [aa] using t11
  obtain⟨p,hp⟩:=aw hin;have hfl:(iw (ps.take i)).length=2*i:=by rw[vc,XO];omega
  refine gi (aE hp) ?_;refine gs (bX (.tmp rfl) rfl (by rw[XA,hfl]) (.tmp rfl) T35 rfl T67 rfl rfl (by simp;omega) rfl rfl) ?_ (6,0);refine gW (Wk.of (sl:=[(2,some (.ptr 2 0)),(5,some (.ms 20 1 0 (2*i+2))),(8,some (.lst 2 (ps.map fun p=>aM p.1 p.2))),(9,some (i64 ps.length)),(10,some (i64 i))]) (hp:=[(2,some (.box [.lst 1 (ts.map nA)])),(20,some (.row 1 ((iw (ps.take (i+1))).map nA)))]) aZ (.k (.cons rfl (BlkSub.of (by rw[dR hp,JM,XQ];rfl)) .nil))) ?_ (6,0);refine gW (Wk.rk (k:=20) (d:=900) rfl rfl) ?_;refine ga aN ?_;exact aO J1 (i+1) hin
 have hin:i=ps.length:=by have:ps.length<=i:=(by simpa[aa]using t11);omega
 subst hin;refine gW ((Wk.freeze (k:=900) rfl).trans<|Wk.of (sl:=[(2,some (.ptr 2 0)),(5,some (.lst 1 ((iw ps).map nA)))]) (hp:=[(2,some (.box [.lst 1 (ts.map nA)]))]) (.k (.cons rfl (Sub.of (by rw[bJ (by rw[XA,vc,XO];omega),XP])) .nil)) (.k .nil)) ?_;refine gc (uZ tw (iw ps) (DM hl) he (by rw[vc];omega)) ?_;refine af ?_
 first |rfl |(simp;done)
theorem Bj(R:List AV)(a:List Rat):Con prog 357 [.ptr 1000 0,nA a,.v .nilIface] [(1000,some (.box [.lst 1 R,.v .nilIface]))] (nA a) [(1000,some (.box [.lst 1 R,.v .nilIface]))]:=by
 refine gF func357 (fun k z h=>bD h) ?_;refine gC (fun t11=>?_) (fun t11=>?_) (st2:=(77777,0))
 ·refine gR ?_;exact az.keep (bj rfl)
 cases t11
theorem wB{ts:LL}{r e f:Nat}(tw:Tw ts r){a b:List Rat}(ha:Nm ts.length e a)(hb:Nm ts.length f b)(he:e+f<=lm ts.length) :
  Con prog 285 [.ptr 1000 0,nA a,nA b] [(1000,some (fX ts))] (nA (sh ts.length (T.add ts.length (ae ts.length a) (ae ts.length b)))) [(1000,some (fX ts))]:=by
 refine gF func285 (fun k z h=>bD h) ?_;refine gc (x7 tw ha hb he) ?_;refine gt (aH (Bj _ _) (aJ rfl rfl rfl) aI rfl rfl) ?_;refine gR ?_;exact az.keep (bj rfl)
theorem xn{ts:LL}{r e f:Nat}(tw:Tw ts r){a b:List Rat}(ha:Nm ts.length e a)(hb:Nm ts.length f b)(he:e+f<=lm ts.length) :
  Con prog 283 [.ptr 1000 0,nA a,nA b] [(1000,some (fX ts))] (nA (sh ts.length (T.add ts.length (ae ts.length a) (T.neg ts.length (ae ts.length b))))) [(1000,some (fX ts))]:=by
 refine gF func283 (fun k z h=>bD h) ?_;refine gc (ou tw ha hb he) ?_;refine gt (aH (Bj _ _) (aJ rfl rfl rfl) aI rfl rfl) ?_;refine gR ?_;exact az.keep (bj rfl)
theorem lK{ts:LL}{r e f:Nat}(tw:Tw ts r){a b:List Rat}(ha:Nm ts.length e a)(hb:Nm ts.length f b)(he:e+f<=lm ts.length) :
  Con prog 280 [.ptr 1000 0,nA a,nA b] [(1000,some (fX ts))] (nA (sh ts.length (T.mul (ax ts) ts.length (ae ts.length a) (ae ts.length b)))) [(1000,some (fX ts))]:=by
 refine gF func280 (fun k z h=>bD h) ?_;refine gc (Bs tw ha hb he) ?_;refine gt (aH (Bj _ _) (aJ rfl rfl rfl) aI rfl rfl) ?_;refine gR ?_;exact az.keep (bj rfl)
theorem B7{ts:LL}{r e f:Nat}(tw:Tw ts r){a b c d:List Rat}(ha:Nm ts.length e a)(hb:Nm ts.length e b)(hc:Nm ts.length f c)(hd:Nm ts.length f d)(he:2*(e+f+kB r ts.length)<=lm ts.length) :
  Con prog 177 [.ptr 1000 0,aM a b,aM c d] [(1000,some (fX ts))] (nA (sh ts.length (nT ts (ae ts.length a) (ae ts.length b) (ae ts.length c) (ae ts.length d)))) [(1000,some (fX ts))]:=by
 refine gF func177 (fun k z h=>bD h) ?_;refine gt (aH (lK tw ha hc oz) (aJ rfl rfl rfl) aI rfl rfl) ?_;refine gt (aH (lK tw hb hd oz) (aJ rfl rfl rfl) aI rfl rfl) ?_;refine gt (aH (Br▸wB tw (ha.mul tw rfl hc) (hb.mul tw rfl hd) oz) (aJ rfl rfl rfl) aI rfl rfl) ?_;refine gD ?_;refine gR ?_;exact az.keep (bj rfl)
theorem Ix{ts:LL}{r e f:Nat}(tw:Tw ts r){a b c d:List Rat}(ha:Nm ts.length e a)(hb:Nm ts.length e b)(hc:Nm ts.length f c)(hd:Nm ts.length f d)(he:2*(e+f+kB r ts.length)<=lm ts.length) :
  Con prog 175 [.ptr 1000 0,aM a b,aM c d] [(1000,some (fX ts))] (nA (sh ts.length (nK ts (ae ts.length a) (ae ts.length b) (ae ts.length c) (ae ts.length d)))) [(1000,some (fX ts))]:=by
 refine gF func175 (fun k z h=>bD h) ?_;refine gt (aH (lK tw ha hd oz) (aJ rfl rfl rfl) aI rfl rfl) ?_;refine gt (aH (lK tw hb hc oz) (aJ rfl rfl rfl) aI rfl rfl) ?_;refine gt (aH (yT▸xn tw (ha.mul tw rfl hd) (hb.mul tw rfl hc) oz) (aJ rfl rfl rfl) aI rfl rfl) ?_;refine gD ?_;refine gR ?_;exact az.keep (bj rfl)
def T.inv(r:(k:Nat)->T k):(k:Nat)->T k->T k
  |0,q=>(1:Rat)/q
  |k+1,x =>
    if T.isZ k x.2=true then(T.inv r k x.1,T.zero k)
    else if T.sgn r k (T.norm r k x)=0 then(T.inv r k (T.add k x.1 x.1),T.zero k)
    else(T.mul r k x.1 (T.inv r k (T.norm r k x)),T.mul r k (T.neg k x.2) (T.inv r k (T.norm r k x)))
theorem T.inv_low(r:(k:Nat)->T k)(k:Nat)(x:T k):T.inv r (k+1) (x,T.zero k)=(T.inv r k x,T.zero k):=by
 have h:=(T.isZ_iff k (T.zero k)).2 rfl
 conv=>lhs;unfold T.inv
 simp only[Yl h]
theorem uI(r:(k:Nat)->T k){i j:Nat}{s L:List Rat}(hs:s.length<=2^i)(hL:L.length<=2^i)(h:ae i L=T.inv r i (ae i s))(hij:i<=j):ae j L=T.inv r j (ae j s):=by
  induction j with
  | zero => have : i = 0 := by omega
            subst this;exact h
  |succ j ih =>
    by_cases h':i=j+1
    · rw[<- h'];exact h
    · rw[ip (XW hs (cM oz)),ip (XW hL (cM oz)),T.inv_low,ih oz]
def iB(r:Nat):Nat->Nat->Nat
  |0,e=>e
  |j+1,e=>e+iB r j (4*e+3*eB r j+r+1)+eB r (j+1)
theorem zY(r:Nat):∀j e,e<=iB r j e
 |0,e=>XD _
 |j+1,e=>by simp only[iB];omega
theorem vD(r:Nat):∀j {e f:Nat},e<=f->iB r j e<=iB r j f
 |0,e,f,h=>h
 |j+1,e,f,h=>by
  have:=vD r j (e:=4*e+3*eB r j+r+1) (f:=4*f+3*eB r j+r+1) oz;simp only[iB];omega
theorem N9(r j e:Nat):iB r j e<=iB r (j+1) e:=by
 have:=vD r j (e:=e) (f:=4*e+3*eB r j+r+1) oz;simp only[iB];omega
theorem zF(r e:Nat){i j:Nat}(h:i<=j):iB r i e<=iB r j e:=by
  induction j with
  | zero => have : i = 0 := by omega
            subst this;exact XD _
  |succ j ih =>
    by_cases hij:i=j+1
    · rw[hij];exact XD _
    · exact XW (ih oz) (N9 r j e)
theorem Rv(r e:Nat){j:Nat}(h:j<=1):iB r j e<=5*e+2*eB r j:=by
 match j,h with
 |0,_=>simp only[iB,eB];omega
 |1,_=>simp only[iB,eB];omega
theorem ER{r:(k:Nat)->T k}{n:Nat}(h:Sg (E r n) (sg r n))(hd:0<=sg r n (bG r n)){x y:E r n}(hz:sg r (n+1) (bI x y)≠0)(hN:sg r n (a5 x y)=0):sg r n (x+x)≠0:=by
 have hx:sg r n x≠0:=by
  intro hx;rw[kM,hN,hx]at hz;have h1:sg r n (x*x)=0:=by rw[h.mul,hx];simp
  have h2:=h.zadd (y:=-(y*y*bG r n)) h1;unfold a5 at hN;rw[h2,h.neg,h.mul,h.mul]at hN;unfold T.sgn3 at hz;have c1:=h.cs y;have c2:=h.cs (bG r n);rcases c1 with e |e |e <;> rcases c2 with e' |e' |e' <;> rw[e,e']at hN <;> rw[e,e']at hz <;> first |omega |(simp at hz) |(simp at hN)
 rcases h.cs x with e |e |e
 ·have := h.padd (x := -x) (y := -x) (by rw[h.neg,e];rfl) (by rw[h.neg,e];decide);rw[show -x+-x=-(x+x) by grind,h.neg]at this;omega
 ·exact absurd e hx
 ·have:=h.padd (x:=x) (y:=x) e oz;omega
theorem Cb.inv1{e:Nat}{q:Rat}(h:Cb e [q])(hq:q≠0):Cb e [(1:Rat)/q]:=by
 obtain⟨D,N,⟨h0,h1⟩,h2,h3⟩:=h;obtain⟨n,hn,hl⟩:=h1 q (by simp)
 have hD:((D:Int):Rat)≠0:=by
  intro h9;have:(D:Int)=0:=Rat.intCast_eq_zero_iff.1 h9;omega
 have hn0:n≠0:=by
  rintro rfl;rw[show((0:Int):Rat)=0 from rfl]at hn;rcases Rat.mul_eq_zero.1 hn with h9 |h9
  ·exact hq h9
  ·exact hD h9
 have hnq:((n:Int):Rat)≠0:=fun h9=>hn0 (Rat.intCast_eq_zero_iff.1 h9)
 refine⟨n.natAbs,D,⟨by omega,?_⟩,XW hl h3,h2⟩;intro x hx;rw[List.mem_singleton.1 hx];have key:(1:Rat)/q*(n:Rat)=((D:Int):Rat):=by rw[<- hn];grind
 rcases Int.natAbs_eq n with e9 |e9
 ·refine⟨D,?_,by simp⟩;rw[<- e9];exact key
 ·refine ⟨-(D : Int), ?_, by simp⟩;rw [Rat.intCast_neg,<- key]
  conv=>rhs;rw[e9]
  rw[Rat.intCast_neg];grind
theorem EH{e n:Nat}{s:List Rat}(h:Cb e s):Cb e (fy (s.take n) (ee (s.drop n)) n):=by
 obtain⟨D,N,h1,h2,h3⟩:=h;exact⟨D,N,(h1.sub (fun q hq=>List.mem_of_mem_take hq)).join (h1.sub (fun q hq=>List.mem_of_mem_drop hq)).minus,h2,h3⟩
theorem CW:∀{j i:Nat}{x:T j},(sh j x).length=2^(i+1)->i+1<=j->T.isZ i (ae i ((sh j x).drop (2^i)))=false
 |0,i,x,_,h=>by omega
 |j+1,i,x,hl,h=>by
  cases hz:T.isZ j x.2
  ·have h1:=KY hz;rw[h1]at hl
   have e:i=j:=by
    rcases Nat.lt_trichotomy i j with h9 |h9 |h9
    ·have := Nat.pow_lt_pow_right (a := 2) oz (show i+1<j+1 by omega);omega
    ·exact h9
    ·omega
   subst e;have h2:ae (i+1) (sh (i+1) x)=x:=bg (i+1) x;have h3:ae i ((sh (i+1) x).drop (2^i))=x.2:=congrArg Prod.snd h2;rw[h3];exact hz
  ·have h1:sh (j+1) x=sh j x.1:=by
    conv=>lhs;unfold sh
    rw[Yl hz]
   rw[h1]at hl ⊢;have h2:=(eQ j x.1).le
   have h3:i+1<=j:=by
    rcases XH j (i+1)with h9 |h9
    ·have:=Nat.pow_lt_pow_right (a:=2) oz h9;omega
    ·exact h9
   exact CW hl h3
theorem Hg(r:(k:Nat)->T k){i:Nat}{x:T (i+1)}(hz:T.isZ i x.2=false)(h0:T.sgn r i (T.norm r i x)=0):T.inv r (i+1) x=(T.inv r i (T.add i x.1 x.1),T.zero i):=by
 conv=>lhs;unfold T.inv
 rw[Yk (by rw[hz];decide),Yl h0]
theorem Jp(r:(k:Nat)->T k){i:Nat}{x:T (i+1)}(hz:T.isZ i x.2=false)(h0:T.sgn r i (T.norm r i x)≠0) :
  T.inv r (i+1) x=(T.mul r i x.1 (T.inv r i (T.norm r i x)),T.mul r i (T.neg i x.2) (T.inv r i (T.norm r i x))):=by
 conv=>lhs;unfold T.inv
 rw[Yk (by rw[hz];decide),Yk h0]
theorem mul_low(r:(k:Nat)->T k)(i:Nat)(x y w:T i):T.mul r (i+1) (x,y) (w,T.zero i)=(T.mul r i x w,T.mul r i y w):=by
 show(T.add i (T.mul r i x w) (T.mul r i (T.mul r i y (T.zero i)) (r i)),T.add i (T.mul r i x (T.zero i)) (T.mul r i y w))=_;rw[T.mul_zero,T.zero_mul,T.mul_zero,T.add_zero,T.zero_add]
theorem yy{n e:Nat}{l:List Rat}(h:Nm n e l)(he:e<=4398046511103):NR (l.map rt) e:=by
 refine⟨?_,by have:=h.nl.len5 h.five;rw[XA];omega,by rw[eA];exact h.cb⟩;intro x hx;obtain⟨q,hq,rfl⟩:=List.mem_map.1 hx;exact(h.cb.qs oz hq).ok
theorem WP{ts:LL}{j e:Nat}{a:List Rat}{q:Rat}(h5:j<=5)(ha:Nl j a)(ca:Cb e a)(he:e<4398046511104)(hs:sh j (ae j a)=[q])(hq:q≠0) :
  FP 358 [aY ts,nA a] (nA [1/q]):=by
 have qa:∀q∈a,Qs q:=fun q hq=>ca.qs he hq
 have cs:=ca.sh ha;rw[hs]at cs;have qq:Qs q:=cs.qs he (by simp);have hsh:=lC a h5 ha qa;rw[hs]at hsh;have hdv:=Dy (rt 1) (rt q) (Qb.one.qs oz).ok qq.ok;rw[bV,bV,Yk hq]at hdv;refine aj func358 ?_;refine gc hsh ?_;refine gl ?_;refine gC (fun t13=>?_) (fun t13=>?_) (st2:=(77777,0))
 ·refine gc (kA 1 oz) ?_;refine gi rfl ?_;refine gc hdv ?_;refine gD ?_;refine af ?_;rfl
 cases t13
theorem Vt{ts:LL}{m r:Nat}(ht:kS ts m r)(hm:m<=5)(hml:m<=ts.length){j e i:Nat}{a s L:List Rat}(h5:j<=5)(ha:Nl j a)(ca:Cb e a)(he:4*e+3*eB r i+r+1<4398046511104)(hs:sh j (ae j a)=s)(hi:i+1<=m)
  (hsl:s.length=2^(i+1)) (hb:sB r i (4*e+3*eB r i+r+1)<4398046511104) (h0:T.sgn (ax ts) i (ae i (ii ts i s))=0)
  (hL:FP 358 [aY ts,nA (dH (s.take (2^i)) (s.take (2^i)))] (nA L)):FP 358 [aY ts,nA a] (nA L):=by
 have qa:∀q∈a,Qs q:=fun q hq=>ca.qs oz hq
 have cs:=ca.sh ha;have hsh:=lC a h5 ha qa;rw[hs]at cs hsh;have hp2:=Nat.two_pow_pos i;have hpi:2^i<=32:=cM (b:=5) oz;have hps:2^(i+1)=2*2^i:=by rw[Nat.pow_succ];omega
 obtain⟨nn,dn,cn⟩:=vj ht oz hsl cs;have k4:=oN ts m r ht hm hml i _ _ oz nn cn hb;have qs:∀q∈s.take (2^i),Qs q:=fun q hq=>cs.take.qs oz hq
 refine aj func358 ?_;refine gc hsh ?_;refine gl ?_;refine gC (fun t13=>?_) (fun t13=>?_) (st1:=(3,0));exact absurd t13 (by simp only[aa,beq_iff_eq];omega);refine gl ?_;refine gs (kq (.tmp rfl) (.const _) oz (show _=((2^i:Nat):Int) by rw[nU oz,hsl,lI]) rfl) ?_;refine gc (Be ts m r ht hm hml i s e oz hsl cs oz) ?_;refine gc k4 ?_;refine gC (fun t33=>?_) (fun t33=>?_) (st2:=(77777,0))
 ·refine gs (eW (.tmp rfl) (.none _) (.some _ (.tmp rfl) oz) T67 rfl T45 rfl oz (by simp only[XA];omega) rfl) ?_;refine gs (eW (.tmp rfl) (.none _) (.some _ (.tmp rfl) oz) T67 rfl T45 rfl oz (by simp only[XA];omega) rfl) ?_;refine gc (by have h9:=oH _ _ qs qs (by simp;omega) (by simp;omega);rw[<- qY]at h9;exact h9) ?_;refine gc hL ?_;refine gD ?_;refine af ?_;rfl
 exact absurd t33 (by rw[h0];decide)
theorem NW{ts:LL}{m r:Nat}(ht:kS ts m r)(hm:m<=5)(hml:m<=ts.length){j e f i:Nat}{a s L:List Rat}(h5:j<=5)(ha:Nl j a)(ca:Cb e a)(he:4*e+3*eB r i+r+1<4398046511104)(hs:sh j (ae j a)=s)(hi:i+1<=m)
  (hsl:s.length=2^(i+1)) (hb:sB r i (4*e+3*eB r i+r+1)<4398046511104) (h0:T.sgn (ax ts) i (ae i (ii ts i s))≠0)
  (hL:FP 358 [aY ts,nA (ii ts i s)] (nA L)) (nL:Nl i L) (cL:Cb f L) (hf:e+f+eB r (i+1)<4398046511104) :
  FP 358 [aY ts,nA a] (nA (pT ts (i+1) (fy (s.take (2^i)) (ee (s.drop (2^i))) (2^i)) L)):=by
 have qa:∀q∈a,Qs q:=fun q hq=>ca.qs oz hq
 have cs:=ca.sh ha;have hsh:=lC a h5 ha qa;rw[hs]at cs hsh;have hp2:=Nat.two_pow_pos i;have hpi:2^i<=32:=cM (b:=5) oz;have hps:2^(i+1)=2*2^i:=by rw[Nat.pow_succ];omega
 obtain⟨nn,dn,cn⟩:=vj ht oz hsl cs;have k4:=oN ts m r ht hm hml i _ _ oz nn cn hb;have qy:∀q∈s.drop (2^i),Qs q:=fun q hq=>cs.drop.qs oz hq
 have lx:(s.take (2^i)).length=2^i:=kg hsl;have ly:(s.drop (2^i)).length=2^i:=kt hsl;have nj:Nl (i+1) (fy (s.take (2^i)) (ee (s.drop (2^i))) (2^i)):=.inr ⟨i+1,XD _,by rw[pP oz (by rw[jD];omega)];omega⟩;have cj:Cb e (fy (s.take (2^i)) (ee (s.drop (2^i))) (2^i)):=EH cs;have hti:=pF ts m r ht hm hml (i+1) (i+1) _ _ e f hi (XD _) nj (nL.mono oz) cj cL hf;refine aj func358 ?_;refine gc hsh ?_;refine gl ?_;refine gC (fun t13=>?_) (fun t13=>?_) (st1:=(3,0));exact absurd t13 (by simp only[aa,beq_iff_eq];omega);refine gl ?_;refine gs (kq (.tmp rfl) (.const _) oz (show _=((2^i:Nat):Int) by rw[nU oz,hsl,lI]) rfl) ?_;refine gc (Be ts m r ht hm hml i s e oz hsl cs oz) ?_;refine gc k4 ?_;refine gC (fun t33=>?_) (fun t33=>?_) (st1:=(8,0));exact absurd t33 (by simp only[aa,beq_iff_eq];omega);refine gs (eW (.tmp rfl) (.none _) (.some _ (.tmp rfl) oz) T67 rfl T45 rfl oz (by simp only[XA];omega) rfl) ?_;refine gs (eW (.tmp rfl) (.some _ (.tmp rfl) oz) (.none _) T67 rfl T45 rfl (by simp only[XA];omega) oz rfl) ?_;refine gc (by have h9:=uf _ qy oz;rw[<- tD]at h9;exact h9) ?_;refine gc (by have h9:=x6 (s.take (2^i)) (ee (s.drop (2^i))) (2^i) oz (by rw[jD];omega) oz;rw[<- qY]at h9;exact h9) ?_;refine gc hL ?_;refine gc hti ?_;refine gD ?_;refine af ?_;rfl
theorem Sh{ts:LL}{m r:Nat}(ht:kS ts m r)(hp:fc (ax ts) m)(hm:m<=5)(hml:m<=ts.length)(j:Nat):∀(a:List Rat)(e:Nat),j<=m->Nl j a->Cb e a->T.sgn (ax ts) j (ae j a)≠0 ->
  sB r j e<4398046511104->iB r j e<4398046511104->∃L,FP 358 [aY ts,nA a] (nA L)/\Nl j L/\Cb (iB r j e) L/\ae j L=T.inv (ax ts) j (ae j a):=by
 induction j using Nat.strongRecOn
 rename_i j ih;intro a e hj ha ca h0 hs hi;have hse:=uq r j e;have cs:=ca.sh ha;have hsn:=eQ j (ae j a);have hsd:=bg j (ae j a);have hle:=zY r j e;obtain⟨s,hsa⟩:∃s,sh j (ae j a)=s:=⟨_,rfl⟩
 rcases Ad hsn with h |h |⟨i,hij,h⟩
 ·exfalso;have h1:=List.length_eq_zero_iff.1 h;rw[h1,iW]at hsd;rw[<- hsd,T.sgn_zero]at h0;exact h0 rfl
 ·obtain ⟨q, hq⟩:=List.length_eq_one_iff.1 h;rw [hq,kN] at hsd;rw [<- hsd,T.sgn_ofQ] at h0;have q0:q ≠ 0:=by rintro rfl; exact h0 rfl
  refine⟨[1/q],WP oz ha ca oz hq q0,.inr ⟨0,by omega,rfl⟩,(Cb.inv1 (hq▸cs) q0).mono hle,?_⟩;rw[<- hsd,<- kN j q];exact uI (ax ts) (i:=0) (s:=[q]) (L:=[1/q]) (by simp) (by simp) rfl oz
 ·have hz:=CW h hij;rw [hsa] at h cs hsd hsn hz;obtain ⟨nn,dn,cn⟩:=vj ht oz h cs;have hsl:s.length <= 2 ^ (i + 1):=by omega
  have b1:sB r i (4*e+3*eB r i+r+1)<=sB r j e:=wj r e hij;have b2:=uq r i (4*e+3*eB r i+r+1);have b3:iB r (i+1) e<=iB r j e:=zF r e hij;have b4:iB r (i+1) e=e+iB r i (4*e+3*eB r i+r+1)+eB r (i+1):=rfl;have lx:(s.take (2^i)).length=2^i:=kg h;have ly:(s.drop (2^i)).length=2^i:=kt h;have hpi:2^i<=2^(i+1):=Nat.pow_le_pow_right oz oz;rw[<- hsd]at h0 ⊢
  by_cases hN:T.sgn (ax ts) i (ae i (ii ts i s))=0
  ·have hS:=ep (ax ts) i (fun k hk=>hp k oz)
   have hx:T.sgn (ax ts) i (ae i (dH (s.take (2^i)) (s.take (2^i))))≠0:=by
    rw[kR];rw[xm (ax ts) hsl hij]at h0;rw[dn]at hN;exact ER hS (hp i oz) (x:=ae i (s.take (2^i))) (y:=ae i (s.drop (2^i))) h0 hN
   have np:Nl i (dH (s.take (2^i)) (s.take (2^i))):=.inr ⟨i,XD _,by rw[fW];omega⟩;have b5:=ut r i (e:=e+e+1) (f:=4*e+3*eB r i+r+1) oz;have b6:=vD r i (e:=e+e+1) (f:=4*e+3*eB r i+r+1) oz;obtain⟨L,k1,k2,k3,k4⟩:=ih i oz _ _ oz np (cs.take.plus cs.take) hx oz oz;refine⟨L,Vt ht hm hml oz ha ca oz hsa oz h oz hN k1,k2.mono oz,k3.mono oz,?_⟩;refine uI (ax ts) (i:=i+1) hsl (XW k2.le hpi) ?_ hij;rw[Hg (ax ts) hz (by rw[<- dn];exact hN),ip k2.le,k4,kR];rfl
  ·obtain⟨L,k1,k2,k3,k4⟩:=ih i oz _ _ oz nn cn hN oz oz;have nj:Nl (i+1) (fy (s.take (2^i)) (ee (s.drop (2^i))) (2^i)):=.inr ⟨i+1,XD _,by rw[pP oz (by rw[jD];omega),Nat.pow_succ];omega⟩;have s1:=fY ts m ht.1 (i+1) (i+1) _ _ oz (XD _) nj (k2.mono oz);have c1:=Cb.mul ht (k:=i+1) (show i+1<=m by omega) (XD _) nj (k2.mono oz) (EH cs) k3;refine⟨_,NW ht hm hml oz ha ca oz hsa oz h oz hN k1 k2 k3 oz,s1.1.mono hij,c1.mono oz,?_⟩;refine uI (ax ts) (i:=i+1) hsl s1.1.le ?_ hij;rw[Jp (ax ts) hz (by rw[<- dn];exact hN),s1.2,xX oz,ip k2.le,mul_low,nI,k4,dn];rfl
theorem NG{ts:LL}{r e f:Nat}(tw:Tw ts r){a b:List Rat}(ha:Nm ts.length e a)(hb:Nm ts.length f b)(he:e<=4398046511103)(hf:f<=4398046511103):FP 229 [aY ts,.lst 1 [nA a,nA b]] (.v .nilIface):=by
 have hck:=l9 (ts.map (List.map rt)) r tw.tr [a.map rt,b.map rt] (tm (yy ha he) (yy hb hf)) (by simp);have hc0:bN (ts.map (List.map rt)) [a.map rt,b.map rt]=0:=tl tw ha hb;rw[hc0,j7]at hck;rw[show[nA a,nA b]=[a.map rt,b.map rt].map nR by simp[eZ]];exact hck
theorem xS{ts:LL}{r f j:Nat}(tw:Tw ts r){b:List Rat}(hb:Nm ts.length f b)(hj:j<=ts.length)(nb:Nl j b)(h0:T.sgn (ax ts) ts.length (ae ts.length b)≠0)(hf:f<=lm ts.length)(hi:iB r j f<4398046511104) :
  ∃L,FP 358 [aY ts,nA b] (nA L)/\Nl ts.length L/\Cb (iB r j f) L/\ae ts.length L=T.inv (ax ts) ts.length (ae ts.length b):=by
 rw[xm (ax ts) nb.le hj]at h0;obtain⟨L,k1,k2,k3,k4⟩:=Sh tw.ok tw.pos tw.five (XD _) j b f hj nb hb.cb h0 (pY hj tw.three tw.le hf) hi;exact⟨L,k1,k2.mono hj,k3,uI (ax ts) nb.le k2.le k4 hj⟩
theorem Ax{ts:LL}{r e f j:Nat}(tw:Tw ts r){a b:List Rat}(ha:Nm ts.length e a)(hb:Nm ts.length f b)(hj:j<=ts.length)(nb:Nl j b)(h0:T.sgn (ax ts) ts.length (ae ts.length b)≠0)(hf:f<=lm ts.length)(he:e+iB r j f+eB r ts.length<=200000000000) :
  FP 281 [aY ts,nA a,nA b] (.tup [nA (sh ts.length (T.mul (ax ts) ts.length (ae ts.length a) (T.inv (ax ts) ts.length (ae ts.length b)))),.v .nilIface]):=by
 have hlm:=lJ ts.length;have h5:=tw.five;have h3:=tw.three;have hfe:=zY r j f;have hsB:=pY (XD ts.length) h3 tw.le hf;have hsg:=oN ts ts.length r tw.ok h5 (XD _) ts.length _ _ (XD _) hb.nl hb.cb hsB;obtain⟨L,k1,k2,k3,k4⟩:=xS tw hb hj nb h0 hf oz;have hti:=pF ts ts.length r tw.ok h5 (XD _) ts.length ts.length _ _ _ _ (XD _) (XD _) ha.nl k2 ha.cb k3 oz;have s1:=fY ts ts.length tw.ok.1 ts.length ts.length _ _ (XD _) (XD _) ha.nl k2;have c1:=Cb.mul tw.ok (k:=ts.length) (XD _) (XD _) ha.nl k2 ha.cb k3;have hsh:=lC _ h5 s1.1 (fun q hq=>c1.qs oz hq);rw[s1.2,k4]at hsh;refine aj func281 ?_;refine gc (NG tw ha hb oz oz) ?_;refine gC (fun t15=>?_) (fun t15=>?_) (st1:=(3,0));cases t15;refine gc hsg ?_;refine gC (fun t20=>?_) (fun t20=>?_) (st1:=(5,0));exact absurd t20 (by simp only[aa,beq_iff_eq];omega);refine gc k1 ?_;refine gc hti ?_;refine gc hsh ?_;refine gD ?_;refine bp ?_;rfl
theorem A7{ts:LL}{r e f j:Nat}(tw:Tw ts r){a b:List Rat}(ha:Nm ts.length e a)(hb:Nm ts.length f b)(hj:j<=ts.length)(nb:Nl j b)(h0:T.sgn (ax ts) ts.length (ae ts.length b)≠0)(hf:f<=lm ts.length)(he:e+iB r j f+eB r ts.length<=200000000000) :
  Nm ts.length (e+iB r j f+eB r ts.length) (sh ts.length (T.mul (ax ts) ts.length (ae ts.length a) (T.inv (ax ts) ts.length (ae ts.length b)))):=by
 obtain⟨L,k1,k2,k3,k4⟩:=xS tw hb hj nb h0 hf oz;have s1:=fY ts ts.length tw.ok.1 ts.length ts.length _ _ (XD _) (XD _) ha.nl k2;have c1:=Cb.mul tw.ok (k:=ts.length) (XD _) (XD _) ha.nl k2 ha.cb k3;refine⟨tw.five,eQ _ _,?_⟩;rw[<- k4,<- s1.2];exact c1.sh s1.1
def cw(k:Nat):List Rat:=(List.replicate (2^(k+1)) 0).set (2^k) 1
def aR(ts:LL)(a:List Rat):LL:=ts++[bT a (2^ts.length)]
theorem Ov(k:Nat):BlkSub (.row 3 ((List.replicate (2^(k+1)) (.agg [.v (.bool false),nS,nS])).set (2^k) (qA 1))) (.row 3 ((cw k).map qA)):=by
 unfold cw;refine .row ?_ ?_
 ·simp
 ·intro i e e' he he';rw[Yg,Yc]at he';rw[List.getElem?_set]at he he';split at he
  ·rename_i h1;rw[Yl h1]at he';split at he
   ·rename_i h2;rw[X5]at h2;rw[X5,Yl h2]at he';cases he;cases he'
    exact kC.refl (F6 1)
   ·cases he
  ·rename_i h1;rw[Yk h1]at he';rw[X1]at he he';split at he
   ·rename_i h2;rw[Yl h2]at he';cases he;cases he'
    exact qZ
   ·cases he
theorem Ai(k:Nat):(cw k).length=2^(k+1):=by simp[cw]
theorem PA{k:Nat}(hk:k<=5):IntKind.i64.wrap ((2:Int)*2^(min (k:Int).toNat IntKind.i64.bits))=((2^(k+1):Nat):Int):=by
 have h:k=0\/k=1\/k=2\/k=3\/k=4\/k=5:=by omega
 rcases h with rfl |rfl |rfl |rfl |rfl |rfl <;> rfl
theorem VT(d:Nat)(hd:Nat.blt d 1000=true)(k:Nat)(hk:k<=5):Con prog 279 [i64 k] [] (.ms d 3 0 (2^(k+1))) [(d,some (.row 3 ((cw k).map qA)))]:=by
 have hp:2^(k+1)<=64:=cM (b:=6) oz;have hp2:2^k<2^(k+1):=Nat.pow_lt_pow_right oz oz;have hp0:=Nat.two_pow_pos k;refine gF func279 (fun k z h=>by cases h) ?_;refine gs (iU (.const _) (.tmp rfl) oz (PA hk) rfl) ?_;refine gs (gV (.tmp rfl) T67 rfl T45 rfl rfl oz (by dsimp only;omega) rfl) ?_;refine gs (iU (.const _) (.tmp rfl) oz (rW oz) rfl) ?_;refine gc (kA 1 oz) ?_;refine gs (b8 (n:=2^k) (.tmp rfl) (.tmp rfl) T67 rfl T45 rfl oz oz rfl) ?_;refine gs (dT (.tmp rfl) rfl (by rw[X1,Yl oz]) rfl (.tmp rfl) rfl rfl T45 rfl rfl) ?_;refine gD ?_ (3,0);refine gW (Wk.of (sl:=[(3,some (.ms 6 3 0 (2^(k+1))))]) (hp:=[(6,some (.row 3 ((cw k).map qA)))]) (.cons rfl (Sub.of (congrArg (AV.ms 6 3 0) (X3 _))) .nil) (.cons rfl (Ov k) .nil)) ?_;refine gR ?_;exact az.own1 rfl hd rfl
theorem P5(k:Nat)(hk:k<=5):FP 279 [i64 k] (nA (cw k)):=by
 have h:=Con.freeze (by rw[XA,Ai];omega) (VT 0 rfl k hk);rw[Yh,XR (by rw[XA,Ai];exact XD _)]at h;exact h
theorem U4{ts:LL}{r e:Nat}(tw:Tw ts r){a:List Rat}(ha:Nm ts.length e a)(he:e<=4398046511103):FP 229 [aY ts,.lst 1 [nA a]] (.v .nilIface):=by
 have hx:=yy ha he;have hck:=l9 (ts.map (List.map rt)) r tw.tr [a.map rt] (fun x h=>by rw[List.mem_singleton.1 h];exact⟨hx.ok,hx.len⟩) (by simp);have hc0:bN (ts.map (List.map rt)) [a.map rt]=0:=Bg tw ha;rw[hc0,j7]at hck;rw[show[nA a]=[a.map rt].map nR by simp[eZ]];exact hck
theorem SZ{ts:LL}{r e:Nat}(tw:Tw ts r){a:List Rat}(ha:Nm ts.length e a)(he:e<=4398046511103):FP 277 [aY ts,nA a] (.tup [nA (bT a (2^ts.length)),.v .nilIface]):=by
 have h5:=tw.five;have hl:=ha.nl.le;have hp:2^ts.length<=32:=cM (b:=5) oz;have qa:∀q∈a,Qs q:=fun q hq=>ha.cb.qs oz hq
 refine aj func277 ?_;refine gc (U4 tw ha he) ?_;refine gC (fun t12=>?_) (fun t12=>?_) (st1:=(3,0));cases t12;refine gc (Bp a qa oz) ?_;refine gl ?_;refine gs (iU (.const _) (.tmp rfl) oz (rW oz) rfl) ?_;refine gc (Cj a (2^ts.length) hl oz) ?_;refine gD ?_;refine bp ?_;rfl
theorem CD{ts:LL}{r e:Nat}(tw:Tw ts r){a:List Rat}(ha:Nm ts.length e a)(he:e<=lm ts.length)(hs:0<=T.sgn (ax ts) ts.length (ae ts.length a)) :
  FP 161 [aY ts,nA a] (.tup [aY (aR ts a),nA (cw ts.length),.v .nilIface]):=by
 have h3:=tw.three;have h5:=tw.five;have hlm:=lJ ts.length;have hl:=ha.nl.le;have nw:Nl ts.length (bT a (2^ts.length)):=.inr ⟨_,XD _,fS hl⟩;have hsg:=oN ts ts.length r tw.ok h5 (XD _) ts.length _ _ (XD _) nw ha.cb.wide (pY (XD ts.length) h3 tw.le he);rw[qM]at hsg;have hqs:=tw.rb.qs tw.le;refine aj func161 ?_;refine gc (SZ tw ha oz) ?_;refine gC (fun t18=>?_) (fun t18=>?_) (st1:=(3,0));cases t18;refine gc hsg ?_;refine gC (fun t23=>?_) (fun t23=>?_) (st1:=(5,0));exact absurd t23 (by simp only[aa,decide_eq_true_eq];omega);refine gl ?_;refine gC (fun t30=>?_) (fun t30=>?_) (st1:=(7,0));exact absurd t30 (by simp only[aa,decide_eq_true_eq];omega);refine gl ?_;refine gW (Wk.virt 900 1 rfl) ?_;refine aW [2,4,7,9,38,39] [2,4] (fun(i:Nat)=>[(40,some (i64 i))]) (fun i=>[(9,some (.box [.ms 900 1 0 i])),(900,some (.row 1 ((ts.take i).map nA)))]) (fun i=>i<=ts.length) (fun i=>ts.length-i) 0 (XJ _) ?_ (h2:=(.cons rfl (BlkSub.bL (.cons (.nM _ _ _) .nil) rfl) (.k .nil)));rintro i hi K1 J1;refine gC (fun t41=>?_) (fun t41=>?_)
 ·have hin:=a6 t41;obtain⟨d,hd⟩:=aw hin
  have hdl:d.length<=32:=by
   have h9:=tw.len i hin;rw[aq hd]at h9;have:2^i<=32:=cM (b:=5) oz;omega
  refine gi (aE hd) ?_;refine gc (Bp d (hqs d (Xx hd)) oz) ?_;refine gs (bX (.tmp rfl) rfl (by rw[XA,XO];omega) (.tmp rfl) T35 rfl T67 rfl rfl (by simp only[XK,XM];omega) rfl rfl) ?_;refine gD ?_ (13,0);refine gW (Wk.of (sl:=[(2,some (.ptr 2 0)),(4,some (.ptr 4 0)),(7,some (nA (bT a (2^ts.length)))),(9,some (.ptr 9 0)),(38,some (.lst 1 (ts.map nA))),(39,some (i64 ts.length)),(40,some (i64 i))]) (hp:=[(2,some (.box [.lst 1 (ts.map nA)])),(4,some (.box [nS])),(9,some (.box [.ms 49 1 0 (i+1)])),(49,some (.row 1 ((ts.take (i+1)).map nA)))]) aZ (.k (.k (.k (.cons rfl (BlkSub.of (by rw[dR hd,XQ];rfl)) .nil))))) ?_ (13,0)
  refine gW (Wk.rk (k:=49) (d:=900) rfl rfl) ?_;refine ga aN ?_;exact aO J1 (i+1) hin
 have hin:=bc hi t41;subst hin;refine gs (bX (.tmp rfl) rfl (by rw[XA,XO];omega) (.tmp rfl) T35 rfl T67 rfl rfl (by simp only[XK,XM];omega) rfl rfl) ?_ (15,0);refine gW ((Wk.freeze (k:=56) rfl).trans<|Wk.of (sl:=[(2,some (.ptr 2 0)),(4,some (.ptr 4 0)),(9,some (.ptr 9 0))]) (hp:=[(2,some (.box [.lst 1 (ts.map nA)])),(4,some (.box [nS])),(9,some (.box [.lst 1 ((aR ts a).map nA)]))]) aZ (.k (.k (.cons rfl (BlkSub.bL (.cons (Sub.of (by rw[bJ (by simp)];unfold aR;simp)) .nil) rfl) .nil)))) ?_;refine gl ?_;refine gc (P5 ts.length oz) ?_;refine gD ?_;refine wt ?_;rfl
theorem BQ{ts:LL}{r:Nat}(tw:Tw ts r):FP 154 [aY ts] (aY ts):=by
 have h3:=tw.three;have hqs:=tw.rb.qs tw.le;refine aj func154 ?_;refine gl ?_;refine gW (Wk.virt 900 1 rfl) ?_;refine aW [2,3,10,11] [2] (fun(i:Nat)=>[(12,some (i64 i))]) (fun i=>[(3,some (.box [.ms 900 1 0 i])),(900,some (.row 1 ((ts.take i).map nA)))]) (fun i=>i<=ts.length) (fun i=>ts.length-i) 0 (XJ _) ?_ (h2:=(.cons rfl (BlkSub.bL (.cons (.nM _ _ _) .nil) rfl) (.k .nil)));rintro i hi K1 J1;refine gC (fun t13=>?_) (fun t13=>?_) (st2:=(13,0))
 ·have hin:=a6 t13;obtain⟨d,hd⟩:=aw hin
  have hdl:d.length<=32:=by
   have h9:=tw.len i hin;rw[aq hd]at h9;have:2^i<=32:=cM (b:=5) oz;omega
  have hdq:=hqs d (Xx hd);refine gi (aE hd) ?_;refine gl ?_;refine gW (Wk.virt 901 3 rfl) ?_;refine aW [2,3,10,11,12,16,17] [2,3,900] (fun(j:Nat)=>[(6,some (.ms 901 3 0 j)),(18,some (i64 j))]) (fun j=>[(901,some (.row 3 ((d.take j).map qA)))]) (fun j=>j<=d.length) (fun j=>d.length-j) 0 (XJ _) ?_;rintro j hj K2 J2;refine gC (fun t19=>?_) (fun t19=>?_) (st2:=(11,0))
  ·have hjn:=a6 t19;obtain ⟨q,hq⟩:=aw hjn;have hadd:=ni (rt q) (rt 0) (hdq q (Xx hq)).ok Qs.zero.ok;rw [rE,bV] at hadd;refine gi (aE hq) ?_;refine gc (Con.sA (.cons (.refl _) (.cons jx .nil)) hadd) ?_;refine gs (bX (.tmp rfl) rfl (by rw [XA,XO]; omega) (.tmp rfl) T67 rfl T45 rfl rfl (by simp only [XK,XM]; omega) rfl rfl) ?_ (10,0);refine gW (Wk.of (sl:=[(2,some (.ptr 2 0)),(3,some (.ptr 3 0)),(10,some (.lst 1 (ts.map nA))),(11,some (i64 ts.length)),(12,some (i64 i)),(6,some (.ms 27 3 0 (j + 1))),(16,some (nA d)),(17,some (i64 d.length)),(18,some (i64 j))]) (hp:=[(2,some (.box [nS])),(3,some (.box [.ms 900 1 0 i])),(900,some (.row 1 ((ts.take i).map nA))),(27,some (.row 3 ((d.take (j + 1)).map qA)))]) aZ (.k (.k (.k (.cons rfl (BlkSub.of (by rw [dR hq,XQ]; rfl)) .nil))))) ?_ (10,0)
   refine gW (Wk.rk (k:=27) (d:=901) rfl rfl) ?_;refine ga aN ?_;exact aO J2 (j+1) hjn
  have hjn:=bc hj t19;subst hjn;refine gW ((Wk.freeze (k:=901) rfl).trans<|Wk.of (sl:=[(2,some (.ptr 2 0)),(3,some (.ptr 3 0)),(10,some (.lst 1 (ts.map nA))),(11,some (i64 ts.length)),(12,some (i64 i)),(6,some (nA d))]) (hp:=[(2,some (.box [nS])),(3,some (.box [.ms 900 1 0 i])),(900,some (.row 1 ((ts.take i).map nA)))]) (.k (.k (.k (.k (.k (.cons rfl (Sub.of (by rw[bJ (by simp)];simp[nA])) .nil)))))) (.k (.k (.k .nil)))) ?_
  refine gs (bX (.tmp rfl) rfl (by rw[XA,XO];omega) (.tmp rfl) T35 rfl T67 rfl rfl (by simp only[XK,XM];omega) rfl rfl) ?_ (12,0);refine gW (Wk.of (sl:=[(2,some (.ptr 2 0)),(3,some (.ptr 3 0)),(10,some (.lst 1 (ts.map nA))),(11,some (i64 ts.length)),(12,some (i64 i))]) (hp:=[(2,some (.box [nS])),(3,some (.box [.ms 33 1 0 (i+1)])),(33,some (.row 1 ((ts.take (i+1)).map nA)))]) aZ (.k (.k (.cons rfl (BlkSub.of (by rw[dR hd,XQ];rfl)) .nil)))) ?_ (12,0);refine gW (Wk.rk (k:=33) (d:=900) rfl rfl) ?_;refine ga aN ?_;exact aO J1 (i+1) hin
 have hin:=bc hi t13;subst hin;refine gW ((Wk.freeze (k:=900) rfl).trans<|Wk.of (sl:=[(2,some (.ptr 2 0)),(3,some (.ptr 3 0))]) (hp:=[(2,some (.box [nS])),(3,some (.box [.lst 1 (ts.map nA)]))]) aZ (.k (.cons rfl (BlkSub.bL (.cons (Sub.of (by rw[bJ (by simp)];simp)) .nil) rfl) .nil))) ?_;refine af ?_;rfl
abbrev dP(l:Li)(kw driven:List Bool)(r:List AV):List AV:=l.av.cells++(.lst 1 (kw.map bl) :: .lst 1 (driven.map bl)::r)
theorem K9(j:Jt)(b:Int):FP 409 [j.av,i64 b] (i64 (j4 j b)):=by
 refine aj func409 ?_;refine gC (fun t6=>?_) (fun t6=>?_)
 ·have h1:b=j.a:=cH t6;refine af ?_;unfold j4;rw[Yl h1]
 have h1:b≠j.a:=dm t6;refine gC (fun t12=>?_) (fun t12=>?_)
 ·have h2:b=j.b:=cH t12;refine af ?_;unfold j4;rw[Yk h1,Yl h2]
 have h2:b≠j.b:=dm t12;refine af ?_;unfold j4;rw[Yk h1,Yk h2];rfl
theorem LZ(j:Jt)(kind body:Int)(f:FuncId)(pre caps:List AV)(p:Int->Bool)(hp:0<=j4 j body->FP f (pre++[i64 (j4 j body)]++caps) (bl (p (j4 j body)))) :
  FP 408 [j.av,.iptr [i64 body],.iptr [i64 kind],.iptr [.cl f pre caps]] (bl (v8 kind body p j)):=by
 refine aj func408 ?_;refine gc (K9 j body) ?_;refine b7 (fun h=>(hp (Ty h))) ?_;refine af ?_;exact congrArg bl UW
theorem Ud(bs:List Jt)(hl:bs.length<=281474976710656)(f:FuncId)(pre caps:List AV)(ok:Nat->Bool)
  (hf:∀(i:Nat)(b:Jt),bs[i]?=some b->(∀j,j<i->ok j=true)->FP f (pre++[b.av]++caps) (bl (!ok i))) :
  FP 407 [.lst 7 (bs.map Jt.av),.cl f pre caps] (i64 (jA (cC bs.length ok))):=by
 refine aj func407 ?_;refine gl ?_;refine aW [0,1,7] [] (fun(i:Nat)=>[(8,some (i64 i))]) (fun _=>[]) (fun i=>i<=bs.length/\∀j,j<i->ok j=true) (fun i=>bs.length-i) 0 ⟨XJ _,fun j h=>by omega⟩ ?_;rintro i ⟨hi,hj⟩ K1 J1;refine gC (fun t9=>?_) (fun t9=>?_)
 ·have hin:=a6 t9;obtain⟨b,hb⟩:=aw hin;refine gi (aE hb) ?_;refine gc (hf i b hb hj) ?_;refine gC (fun t16=>?_) (fun t16=>?_)
  ·have h2:=dg t16;refine af ?_;rw[gH hin hj h2];rfl
  have h2:=da t16;refine ga aN ?_;exact aO J1 (i+1) ⟨hin,fun j h9=>by rcases XH j i with g |g;exact hj j g;(have:j=i:=by omega);subst this;exact h2⟩
 have hin:=bc hi t9;subst hin;refine af ?_;rw[fM hj];rfl
theorem IN(l:Li)(hl:l.ok)(hli:aA l=0)(Fd:List AV)(kind body:Int)(f:FuncId)(pre caps:List AV)(p:Int->Bool)
  (hp:∀o:Int,0<=o->o<l.bo.length->FP f (pre++[i64 o]++caps) (bl (p o))) :
  FP 400 [.iptr (l.av.cells++Fd),i64 kind,i64 body,.cl f pre caps] (i64 (gJ l kind body p)):=by
 refine aj func400 ?_ (1,0);refine gW ((Wk.freezeB (k:=7) rfl rfl).trans<|(Wk.freezeB (k:=5) rfl rfl).trans<|(Wk.freezeB (k:=6) rfl rfl).trans<|Wk.o (sl:=[(0,some (.iptr (l.av.cells++Fd))),(5,some (.iptr [i64 kind])),(6,some (.iptr [i64 body])),(7,some (.iptr [.cl f pre caps]))]) (hp:=[])) ?_;refine gc (Con.sA (.cons (.refl _) (.cons (sW rfl) .nil)) (Ud l.jo hl.lj 408 [] [.iptr [i64 body],.iptr [i64 kind],.iptr [.cl f pre caps]] (fun i=>!v8 kind body p (l.jo.getD i default)) (fun i b hb hj=>by rw[Bool.not_not,aq hb];exact LZ b kind body f pre caps p (fun h=>hp _ h (WS hli hb body))))) ?_;refine af ?_;rfl
theorem OZ(l:Li)(kw driven:List Bool)(r:List AV)(b:Int)(h0:0<=b)(h1:b<kw.length):FP 405 [.iptr (dP l kw driven r),i64 b] (bl (kn kw b)):=by
 obtain⟨v,hv⟩:∃v,kw[b.toNat]?=some v:=aw oz;have ev:kn kw b=v:=aq hv;refine aj func405 ?_;refine gi (f6 (n:=b.toNat) oz hv) ?_;refine af ?_;rw[ev]
theorem Gj(l:Li)(hl:l.ok)(hli:aA l=0)(kw driven:List Bool)(hk:kw.length=l.bo.length)(r:List AV)(kind body:Int) :
  FP 398 [.iptr (dP l kw driven r),i64 kind,i64 body] (i64 (gJ l kind body (kn kw))):=by
 refine aj func398 ?_;refine gc (IN l hl hli _ kind body 405 [.iptr (dP l kw driven r)] [] (kn kw) (fun o h0 h1=>OZ l kw driven r o h0 oz)) ?_;refine af ?_;rfl
theorem OY(o j:Int):FP 401 [i64 o,.iptr [i64 j]] (bl (decide (o=j))):=by
 refine aj func401 ?_;refine af ?_;exact congrArg bl oT
theorem RA(l:Li)(kw driven:List Bool)(hd:driven.length=kw.length)(r:List AV)(b:Int)(h0:0<=b)(h1:b<kw.length) :
  FP 402 [.iptr (dP l kw driven r),i64 b] (bl (!kn kw b&&!kn driven b)):=by
 obtain⟨v,hv⟩:∃v,kw[b.toNat]?=some v:=aw oz;have ev:kn kw b=v:=aq hv;obtain⟨u,hu⟩:∃u,driven[b.toNat]?=some u:=aw oz;have eu:kn driven b=u:=aq hu;refine aj func402 ?_;refine gi (f6 (n:=b.toNat) oz hv) ?_;refine oO (fun _=>(f6 (n:=b.toNat) oz hu)) ?_;refine af ?_;rw[ev,eu];exact congrArg bl (iC _ _)
theorem NT(l:Li)(hl:l.ok)(hli:aA l=0)(kw driven:List Bool)(hk:kw.length=l.bo.length)(r:List AV) :
  FP 376 [.iptr (dP l kw driven r)] (.tup [((driverG l kw).getD default).av,bl (driverG l kw).isSome]):=by
 have hld:=hl.ld;refine aj func376 ?_;refine gl ?_;refine aW [0,2,11,12] [2] (fun(i:Nat)=>[(13,some (i64 i))]) (fun _=>[]) (fun i=>i<=l.dv.length/\∀j,j<i->(!drHit l kw j)=true) (fun i=>l.dv.length-i) 0 ⟨XJ _,fun j h=>by omega⟩ ?_;rintro i ⟨hi,hj⟩ K1 J1;refine gC (fun t14=>?_) (fun t14=>?_)
 ·have hin:=a6 t14;obtain⟨d,hd⟩:=aw hin;have hdd:l.dv.getD i default=d:=aq hd;have hb:=cW (lc hli hd);obtain⟨v,hv⟩:∃v,kw[d.body.toNat]?=some v:=aw oz;have ev:kn kw d.body=v:=aq hv;have ej:gJ l 0 d.body (kn kw)=jointI l 0 d.body kw:=B6 hli (fun o _ _=>rfl);refine gi (aE hd) ?_;refine gi (f6 (n:=d.body.toNat) oz hv) ?_;refine gD ?_;refine gC (fun t25=>?_) (fun t25=>?_)
  ·have h2 : drHit l kw i = false := by unfold drHit; rw [hdd, ev, t25]; rfl
   refine ga aN ?_;exact aO J1 (i+1) ⟨hin,fun k h9=>by rcases XH k i with g |g;exact hj k g;(have:k=i:=by omega);subst this;rw[h2];rfl⟩
  have hv0:v=false:=t25;refine gc (show gO _ _ _ (i64 (jointI l 0 d.body kw)) by rw[<- ej];exact Gj l hl hli kw driven hk r 0 d.body) ?_;refine gC (fun t31=>?_) (fun t31=>?_)
  ·have h2 : drHit l kw i = true := by unfold drHit; rw [hdd, ev, hv0, decide_eq_true (Gi t31)]; rfl
   have hg:driverG l kw=some ⟨0,[d.body],[jointI l 0 d.body kw],i⟩:=by unfold driverG;rw[gH hin hj (by rw[h2];rfl),<- hdd];rfl
   refine bp ?_;rw[hg];rfl
  have h2:drHit l kw i=false:=by unfold drHit;rw[hdd,decide_eq_false (Ji t31),Bool.and_false]
  refine ga aN ?_;exact aO J1 (i+1) ⟨hin,fun k h9=>by rcases XH k i with g |g;exact hj k g;(have:k=i:=by omega);subst this;rw[h2];rfl⟩
 have hin:=bc hi t14;subst hin;have hg:driverG l kw=none:=by unfold driverG;rw[fM hj];rfl
 refine gR ?_;exact az.sub az.pure (by rw[hg];exact Sub.tup (.cons rz (.cons (.refl _) .nil)))
theorem xZ(l:Li)(hli:aA l=0)(kw:List Bool)(hk:kw.length=l.bo.length)(r:List AV)(b:Nat)(h1:b<l.bo.length) :
  FP 402 [.iptr (dP l kw (bZ l) r),i64 b] (bl (freeB l kw b)):=by
 have h:=RA l kw (bZ l) (by rw[sY,hk]) r b oz oz;rw[Qq hli oz]at h;exact h
theorem xr(l:Li)(hl:l.ok)(hli:aA l=0)(kw:List Bool)(hk:kw.length=l.bo.length)(r:List AV)(kind body:Int) :
  FP 398 [.iptr (dP l kw (bZ l) r),i64 kind,i64 body] (i64 (jointI l kind body kw)):=by
 have h:=Gj l hl hli kw (bZ l) hk r kind body;rw[B6 hli (fun o _ _=>rfl)]at h;exact h
theorem U7(l:Li)(hl:l.ok)(hli:aA l=0)(kw:List Bool)(hk:kw.length=l.bo.length)(r:List AV) :
  FP 378 [.iptr (dP l kw (bZ l) r)] (.tup [((singleG l kw).getD default).av,bl (singleG l kw).isSome]):=by
 have h8:=(cK hli).2.2.2.1;refine aj func378 ?_;refine gl ?_;refine aW [0,2,12,13] [2] (fun(i:Nat)=>[(14,some (i64 i))]) (fun _=>[]) (fun i=>i<=l.bo.length/\∀j,j<i->(!sgHit l kw j)=true) (fun i=>l.bo.length-i) 0 ⟨XJ _,fun j h=>by omega⟩ ?_;rintro i ⟨hi,hj⟩ K1 J1;refine gC (fun t15=>?_) (fun t15=>?_)
 ·have hin:=a6 t15;refine gc (xZ l hli kw hk r i hin) ?_;refine gC (fun t20=>?_) (fun t20=>?_)
  ·have h2 : sgHit l kw i = false := by unfold sgHit; rw [dg t20]; rfl
   refine ga aN ?_;exact aO J1 (i+1) ⟨hin,fun k h9=>by rcases XH k i with g |g;exact hj k g;(have:k=i:=by omega);subst this;rw[h2];rfl⟩
  have hf:=da t20;refine gc (xr l hl hli kw hk r 0 i) ?_;refine gc (xr l hl hli kw hk r 1 i) ?_;refine gC (fun t32=>?_) (fun t32=>?_)
  ·have h2 : sgHit l kw i = false := by unfold sgHit; rw [Iy t32, Bool.and_false]
   refine ga aN ?_;exact aO J1 (i+1) ⟨hin,fun k h9=>by rcases XH k i with g |g;exact hj k g;(have:k=i:=by omega);subst this;rw[h2];rfl⟩
  obtain⟨p0,s0⟩:=EQ t32;have s1:=(mZ (l:=l) (kind:=1) (body:=i) (oth:=kw)).2;have h2:sgHit l kw i=true:=by unfold sgHit;rw[hf,decide_eq_true p0,decide_eq_true s0];rfl
  obtain⟨j,hjt⟩:∃j,l.jo[(jointI l 1 i kw).toNat]?=some j:=aw oz;have hjd:l.jo.getD (jointI l 1 i kw).toNat default=j:=aq hjt;have hg:singleG l kw=some (sgG l kw i):=by unfold singleG;rw[gH hin hj (by rw[h2];rfl),Option.map_some]
  refine gi (f6 (n:=(jointI l 1 i kw).toNat) oz hjt) ?_;refine gC (fun t43=>?_) (fun t43=>?_)
  ·have hji:j.a=i:=cH t43;refine bp ?_;rw[hg];unfold sgG;rw[hjd];simp only[Option.getD_some,Yl hji];rfl
  have hji:j.a≠i:=dm t43;refine bp ?_;rw[hg];unfold sgG;rw[hjd];simp only[Option.getD_some,Yk hji];rfl
 have hin:=bc hi t15;subst hin;have hg:singleG l kw=none:=by unfold singleG;rw[fM hj];rfl
 refine gR ?_;exact az.sub az.pure (by rw[hg];exact Sub.tup (.cons rz (.cons (.refl _) .nil)))
theorem WZ(Fd:List AV):FP 399 [.iptr Fd] (.fn 406 [.iptr [.iptr Fd]]):=by
 refine aj func399 ?_ (1,0);refine gW ((Wk.freezeB (k:=1) rfl rfl).trans<|Wk.o (sl:=[(1,some (.iptr [.iptr Fd]))]) (hp:=[])) ?_;refine af ?_;rfl
def xK:Code->Option (Array Tmp×Code×Code)
  | .rangeFunc _ ps x y=>some (ps,x,y)
  | .seq a b=>match xK a with
    |some r=>some r
    |none=>xK b
  | .block _ c=>xK c
  |_=>none
def Gk(n:Nat)(o:Option Code):LpD:=match o with
  |some c=>match xK c with
    |some (ps,x,y)=>⟨ps,x,y,n⟩
    |none=>⟨#[],.skip,.skip,0⟩
  |none=>⟨#[],.skip,.skip,0⟩
def Ej(D:LpD)(Fd:List AV)(h:Bool):Blk:=.loop D (match h with |true=>.done |false=>.ready) (match h with |true=>some .ret |false=>none) [(1,some (.iptr [.iptr Fd])),(2,some (.ptr 1001 0)),(3,some (.ptr 1002 0))]
def AR(g:Gr):Blk:=.box [i64 g.kind,.lst 1 (g.bo.map i64),.lst 1 (g.jo.map i64),i64 g.driver]
def zH(h:Bool):Blk:=.box [bl h]
def fD(D:LpD)(Fd:List AV)(h:Bool)(g:Gr):Hp:=[(1000,some (Ej D Fd h)),(1001,some (AR g)),(1002,some (zH h))]
theorem Ed{D:LpD}{Fd:List AV}{h:Bool}{g:Gr}{k:Nat}{z:Blk}(hz:lk (fD D Fd h g) k=some z):1000<=k:=by
 unfold fD at hz;simp only[aT]at hz;split at hz
 ·omega
 ·split at hz
  ·omega
  ·split at hz
   ·omega
   ·cases hz
theorem QN{D:LpD}{Fd:List AV}{s:AS}(hs:∀k z,lk (fD D Fd false default) k=some z->s.blk k=some z) :
  ∀k∈(fD D Fd false default++dp (fD D Fd false default)).map (·.1),k∈(fD D Fd false default).map (·.1)/\lk (fD D Fd false default++dp (fD D Fd false default)) k=s.blk k:=by
 intro k hk
 have hk':k=1000\/k=1001\/k=1002:=by
  simp[fD,dp]at hk;omega
 rcases hk' with rfl |rfl |rfl
 ·exact⟨by simp[fD],(hs _ _ rfl).symm⟩
 ·exact⟨by simp[fD],(hs _ _ rfl).symm⟩
 ·exact⟨by simp[fD],(hs _ _ rfl).symm⟩
theorem EG{l:Li}{kw:List Bool}{i k:Nat}(h:cond (freeB l kw i) (freeB l kw k) false=false):prHit l kw i k=false:=by
 rw[iC]at h;unfold prHit;rw[h];rfl
theorem Md{H R:Hp}{k:Nat}{z:Blk}(h:lk H k=some z):lk (H++R) k=some z:=by rw[nG,Yl (mX h)];exact h
theorem Lm{a b:Bool}(h:cond a b false=true):a=true:=by cases a <;> simp_all
theorem Bc{a b:Bool}(h:cond a b false=true):b=true:=by cases a <;> simp_all
theorem Vs(D:LpD)(l:Li)(hl:l.ok)(hli:aA l=0)(kw:List Bool)(hk:kw.length=l.bo.length)(r:List AV)
  (hy:∀i k:Nat,i<k->k<l.bo.length->freeB l kw i=true->freeB l kw k=true ->
   uH prog 1000 [i64 i,i64 k] (fD D (dP l kw (bZ l) r) false default) (bl (!prHit l kw i k)) (fD D (dP l kw (bZ l) r) (prHit l kw i k) (cond (prHit l kw i k) (prG l kw i k) default))) :
  Con prog 406 [.yl 1000,.iptr [.iptr (dP l kw (bZ l) r)]] (fD D (dP l kw (bZ l) r) false default) (.tup []) (fD D (dP l kw (bZ l) r) (pairG l kw).isSome ((pairG l kw).getD default)):=by
 have h8:=(cK hli).2.2.2.1;refine gF func406 (fun k z h=>Ed h) ?_;refine gl ?_;refine aW [0,1,10] [1000,1001,1002] (fun(i:Nat)=>[(11,some (i64 i))]) (fun _=>[]) (fun i=>i<=l.bo.length/\∀j,j<i->(prAt l kw j).isNone=true) (fun i=>l.bo.length-i) 0 ⟨XJ _,fun j h=>by omega⟩ ?_;rintro i ⟨hi,hj⟩ K1 J1;refine gC (fun t12=>?_) (fun t12=>?_)
 ·have hin:=a6 t12;refine ga aN ?_;refine aW [0,1,3,10,11] [] (fun (k:Nat)=>[(4,some (i64 (i + 1 + k:Nat)))]) (fun _=>[(1000,some (Ej D (dP l kw (bZ l) r) false)),(1001,some (AR default)),(1002,some (zH false))]) (fun k=>i + 1 + k <= l.bo.length /\ ∀ j,j < k -> (!prHit l kw i (i + 1 + j)) = true) (fun k=>l.bo.length - k) 0 ⟨by omega,fun j h=>by omega⟩ ?_;rintro k ⟨hkl,hkj⟩ K2 J2;refine gl ?_;refine gC (fun t23=>?_) (fun t23=>?_)
  ·have hkn:i + 1 + k < l.bo.length:=a6 t23;refine gc (xZ l hli kw hk r i hin) ?_;refine b7 (fun _=>(xZ l hli kw hk r (i + 1 + k) hkn)) ?_;refine gs (P6 rfl rfl rfl (by intro hb; have h0:prHit l kw i (i + 1 + k) = false:=EG (by simpa using hb); simp only [h0,cond_false]; exact QN (by intro k z h; exact h)) (fun hb=>RC (k:=1000) (.opt rfl (by rw [hb]; rfl)) (hy i (i + 1 + k) oz hkn (Lm hb) (Bc hb)) (.cons (.opt rfl (by rw [hb]; rfl)) (.cons (.opt rfl (by rw [hb]; rfl)) .nil)) (by intro k z h; exact h) rfl rfl)) ?_;refine gC (fun t40=>?_) (fun t40=>?_)
   ·have h2 : prHit l kw i (i + 1 + k) = true := by have h9 := Bc t40; rw [Bool.not_not] at h9; exact h9
    have hat:prAt l kw i=some (i+1+k):=by unfold prAt;rw[gH oz hkj (by rw[h2];rfl),Option.map_some];congr 1;omega
    have hg:pairG l kw=some (prG l kw i (i+1+k)):=by unfold pairG;rw[gH hin hj (by rw[hat];rfl),Option.map_some,hat]
    refine gR ?_;simp only[hg,h2,Option.isSome_some,Option.getD_some,cond_true];exact az.keep (fun k z h=>Md h)
   have h2:prHit l kw i (i+1+k)=false:=by cases hc:cond (freeB l kw i) (freeB l kw ((i+1+k:Nat):Int)) false with |false=>exact EG hc |true=>rw[hc,Bool.not_not]at t40;exact t40
   refine ga aN ?_;exact aO J2 (k+1) ⟨by omega,fun j h9=>by rcases XH j k with g |g;exact hkj j g;(have:j=k:=by omega);subst this;rw[h2];rfl⟩ (hw:=Wk.of aZ (.cons rfl (BlkSub.of (by rw[h2])) (.cons rfl (BlkSub.of (by rw[h2];rfl)) (.cons rfl (BlkSub.of (by rw[h2])) .nil))))
  have hkn:¬i+1+k<l.bo.length:=fun h=>by have h1:=tH t23;omega
  have hat:prAt l kw i=none:=by unfold prAt;rw[show l.bo.length-(i+1)=k by omega,fM hkj];rfl
  refine ga aN ?_;exact aO J1 (i+1) ⟨hin,fun j h9=>by rcases XH j i with g |g;exact hj j g;(have:j=i:=by omega);subst this;rw[hat];rfl⟩
 have hin:=bc hi t12;have hg:pairG l kw=none:=by unfold pairG;rw[<- hin,fM hj];rfl
 refine gR ?_;simp only[hg,Option.isSome_none,Option.getD_none];exact az.keep (fun k z h=>h)
variable{P:Program}
mutual
def AV.pm(σ:Nat->Nat):AV->AV
  | .ms k sz off len=>.ms (σ k) sz off len
  | .ptr k off=>.ptr (σ k) off
  | .eptr k sz i off=>.eptr (σ k) sz i off
  | .yl k=>.yl (σ k)
  | .agg cs=>.agg (AV.pms σ cs)
  | .tup cs=>.tup (AV.pms σ cs)
  | .fn f cs=>.fn f (AV.pms σ cs)
  | .opt b x=>.opt b (AV.pm σ x)
  | .v x=>.v x
  | .lst sz l=>.lst sz l
  | .iptr l=>.iptr l
  | .cl f cs ds=>.cl f cs ds
def AV.pms(σ:Nat->Nat):List AV->List AV
  |[]=>[]
  |x::l=>AV.pm σ x::AV.pms σ l
end
theorem AV.pms_eq(σ:Nat->Nat):∀l,AV.pms σ l=l.map (AV.pm σ)
 |[]=>rfl
 |x::l=>by simp only[AV.pms,Yi,AV.pms_eq σ l]
theorem AV.pm_one(σ:Nat->Nat)(x:AV)(h:x.one=true):(x.pm σ).one=true:=by
 cases x <;> simp only[AV.pm] <;> exact h
mutual
theorem AV.pm_pm{σ:Nat->Nat}(hσ:∀k,σ (σ k)=k):∀x:AV,(x.pm σ).pm σ=x
 | .ms k sz off len=>by simp only[AV.pm,hσ]
 | .ptr k off=>by simp only[AV.pm,hσ]
 | .eptr k sz i off=>by simp only[AV.pm,hσ]
 | .yl k=>by simp only[AV.pm,hσ]
 | .agg cs=>by simp only[AV.pm];rw[AV.pms_pms hσ cs]
 | .tup cs=>by simp only[AV.pm];rw[AV.pms_pms hσ cs]
 | .fn f cs=>by simp only[AV.pm];rw[AV.pms_pms hσ cs]
 | .opt b x=>by simp only[AV.pm];rw[AV.pm_pm hσ x]
 | .v x=>by simp only[AV.pm]
 | .lst sz l=>by simp only[AV.pm]
 | .iptr l=>by simp only[AV.pm]
 | .cl f cs ds=>by simp only[AV.pm]
theorem AV.pms_pms{σ:Nat->Nat}(hσ:∀k,σ (σ k)=k):∀l:List AV,AV.pms σ (AV.pms σ l)=l
 |[]=>by simp only[AV.pms]
 |x::l=>by simp only[AV.pms];rw[AV.pm_pm hσ x,AV.pms_pms hσ l]
end
theorem wO{g:Nat->Array Value->Prop}{S:Nat->Nat->Prop}{σ:Nat->Nat}(hσ:∀k,σ (σ k)=k){m:Nat->Option Nat}{v:Value}{x:AV}(h:Rep g S m v x):Rep g S (fun k=>m (σ k)) v (x.pm σ):=by
 induction h with
 |v x=>exact .v x
 |lst0 a cap sz'=>exact .lst0 a cap sz'
 |lst u hb hc hl hs ho hu hr _=>exact .lst u hb hc hl hs ho hu hr
 |iptr u hb ho hu hr _=>exact .iptr u hb ho hu hr
 |cl a b c d _ _=>exact .cl a b c d
 |ptr hm=>exact .ptr (by simp only[hσ];exact hm)
 |eptr hm=>exact .eptr (by simp only[hσ];exact hm)
 |yl hm=>exact .yl (by simp only[hσ];exact hm)
 |ms0 a k sz off=>exact .ms0 _ _ _ _
 |ms hm hc hS=>exact .ms (by simp only[hσ];exact hm) hc hS
 |opt h h' ih=>exact .opt ih h'
 |agg hn h1 hr ih =>
  simp only[AV.pm,AV.pms_eq];refine .agg (by simpa using hn) ?_ ?_
  ·intro j c hc;simp only[XE,XB]at hc;obtain⟨y,hy,rfl⟩:=hc;exact AV.pm_one _ _ (h1 j y hy)
  ·intro j u c hu hc;simp only[XE,XB]at hc;obtain⟨y,hy,rfl⟩:=hc;exact ih j u y hu hy
 |tup hn hr ih =>
  simp only[AV.pm,AV.pms_eq];refine .tup (by simpa using hn) ?_;intro j u c hu hc;simp only[XE,XB]at hc;obtain⟨y,hy,rfl⟩:=hc;exact ih j u y hu hy
 |fn hn hr ih =>
  simp only[AV.pm,AV.pms_eq];refine .fn (by simpa using hn) ?_;intro j u c hu hc;simp only[XE,XB]at hc;obtain⟨y,hy,rfl⟩:=hc;exact ih j u y hu hy
theorem KU{g:Nat->Array Value->Prop}{S:Nat->Nat->Prop}{σ:Nat->Nat}(hσ:∀k,σ (σ k)=k){m:Nat->Option Nat}{w:World}{o:Option Nat}{x:Blk}(h:BlkRep g S m w o x) :
  BlkRep g S (fun k=>m (σ k)) w o (x.map (AV.pm σ)):=by
 cases x with
 |row sz es=>exact h.mono (fun _ _ h=>h) (fun _ _ h=>h) (fun _ _ hk=>hk.elim) rfl (fun _ _=>rfl)
 |vec vs=>exact h.mono (fun _ _ h=>h) (fun _ _ h=>h) (fun _ _ hk=>hk.elim) rfl (fun _ _=>rfl)
 |loop=>exact h.mapLoop _ (fun _ _ _ _ h=>wO hσ h)
 |box cs =>
  cases h with
  |box hw hn h1 hrr =>
   refine .box hw (by simpa using hn) ?_ ?_
   ·intro j x hx;simp only[XE,XB]at hx;obtain⟨y,hy,rfl⟩:=hx;exact AV.pm_one _ _ (h1 j y hy)
   ·intro j u x hu hx;simp only[XE,XB]at hx;obtain⟨y,hy,rfl⟩:=hx;exact wO hσ (hrr j u y hu hy)
theorem yM{σ:Nat->Nat}(hσ:∀k,σ (σ k)=k):∀sl:bO,jm (AV.pm σ) (jm (AV.pm σ) sl)=sl
 |[]=>rfl
 |(t,none)::l=>by simp only[jm,yM hσ l]
 |(t,some x)::l=>by simp only[jm,yM hσ l,AV.pm_pm hσ x]
theorem Blk.pm_pm{σ:Nat->Nat}(hσ:∀k,σ (σ k)=k)(x:Blk):(x.map (AV.pm σ)).map (AV.pm σ)=x:=by
 cases x with
 |row sz es=>rfl
 |vec vs=>rfl
 |loop d st pe sl=>simp only[Blk.map,yM hσ]
 |box cs =>
  simp only[Blk.map];rw[<- AV.pms_eq,<- AV.pms_eq,AV.pms_pms hσ]
def jE(σ:Nat->Nat):Hp->Hp
  |[]=>[]
  |(k,x)::l=>(σ k,match x with |some b=>some (b.map (AV.pm σ)) |none=>none)::jE σ l
theorem lH{σ:Nat->Nat}(hσ:∀k,σ (σ k)=k):∀(H:Hp)(k:Nat),lk (jE σ H) k=(lk H (σ k)).map (Blk.map (AV.pm σ))
 |[],k=>rfl
 |(k',x)::l,k=>by
  simp only[jE,aT,lH hσ l k]
  by_cases h:k=σ k'
  ·rw[Yl h,Yl (by rw[h,hσ])];cases x <;> rfl
  ·rw[Yk h,Yk (fun e=>h (by rw[<- e,hσ]))]
theorem z4{σ:Nat->Nat}(hσ:∀k,σ (σ k)=k)(H:Hp)(m:Nat->Option Nat):a9 (jE σ H) (fun k=>m (σ k))=a9 H m:=by
 funext b;apply propext;constructor
 ·rintro⟨k,z,hz,hb⟩;rw[lH hσ,XB]at hz;obtain⟨y,hy,rfl⟩:=hz;exact⟨σ k,y,hy,hb⟩
 ·rintro⟨k,y,hy,hb⟩;exact⟨σ k,y.map (AV.pm σ),by rw[lH hσ,hσ,hy];rfl,by simp only[hσ];exact hb⟩
theorem C6{σ:Nat->Nat}(hσ:∀k,σ (σ k)=k){ext:Nat->Prop}{H:Hp}{m:Nat->Option Nat}{w:World}(h:HeapRel ext H m w):HeapRel ext (jE σ H) (fun k=>m (σ k)) w:=by
 have e:Im ext (jE σ H) (fun k=>m (σ k)) w=Im ext H m w:=by funext b cs;simp only[Im,z4 hσ]
 refine⟨?_,?_,?_⟩
 ·intro k z hz;rw[lH hσ,XB]at hz;obtain⟨y,hy,rfl⟩:=hz;rw[e];exact KU hσ (h.blk _ y hy)
 ·intro k k' z z' b hz hz' hb hb';rw[lH hσ,XB]at hz hz';obtain⟨y,hy,_⟩:=hz;obtain⟨y',hy',_⟩:=hz';have:=h.inj _ _ y y' b hy hy' hb hb';rw[<- hσ k,this,hσ]
 ·intro k z b hz hb;rw[lH hσ,XB]at hz;obtain⟨y,hy,_⟩:=hz;exact h.sep _ y b hy hb
theorem Con.pm{σ:Nat->Nat}(hσ:∀k,σ (σ k)=k){f:FuncId}{args:List AV}{H H':Hp}{r:AV}(h:Con P f args H r H'):Con P f (args.map (AV.pm σ)) (jE σ H) (r.pm σ) (jE σ H'):=by
 refine⟨h.ok,?_⟩;intro ext m w vs hext hheap hvs hrep
 have hlk:∀k,lk (jE σ (jE σ H)) k=lk H k:=by
  intro k;rw[lH hσ,lH hσ,hσ];cases lk H k with
  |none=>rfl
  |some y=>simp only[Option.map_some,Blk.pm_pm hσ]
 have hh:=HeapRel.congr hlk (C6 hσ hheap);have em:(fun k=>(fun k=>m (σ k)) (σ k))=m:=by funext k;simp only[hσ]
 have eo:a9 (jE σ H) m=a9 H (fun k=>m (σ k)):=by
  have:=z4 hσ H (fun k=>m (σ k));rw[em]at this;exact this
 have ei:Im ext (jE σ H) m w=Im ext H (fun k=>m (σ k)) w:=by funext b cs;simp only[Im,eo]
 refine Calls.mono (h.ret ext (fun k=>m (σ k)) w vs hext hh (by simpa using hvs) (fun j v x hv hx=>?_)) ?_
 ·have h1 := hrep j v (x.pm σ) hv (by simp[hx]);have h2:=wO hσ h1;rw[AV.pm_pm hσ,ei]at h2;exact h2
 ·rintro e w' ⟨v,m',rfl,hf,hh',hn,hk,hrr⟩;refine⟨v,fun k=>m' (σ k),rfl,eo▸hf,C6 hσ hh',?_,?_,?_⟩
  ·intro k x b hx hb;rw[lH hσ,XB]at hx;obtain⟨y,hy,_⟩:=hx;rw[eo];exact hn _ y b hy hb
  ·intro k x y hx hy;rw[lH hσ,XB]at hx hy;obtain⟨x',hx',_⟩:=hx;obtain⟨y',hy',_⟩:=hy;have:=hk _ x' y' hx' hy';simpa only[hσ]using this
  ·have e2 : Im ext (jE σ H') (fun k => m' (σ k)) w' = Im ext H' m' w' := by funext b cs; simp only [Im, z4 hσ]
   rw[e2];exact wO hσ hrr
end Go.Lw
namespace Go.Lw
open Go.Proofs
theorem gZ{P:Program}{N:Nat}{Q:Exit->AS->Prop}{c:Code}{s:AS}(h:Gd P N Q (.code c [] s)):bQ P N c Q s:=h
theorem W8{P:Program}{N:Nat}{Q:Exit->AS->Prop}{c:Code}{s s':AS}(hw:Wk s s')(h:j6 P N c Q s'):j6 P N c Q s:=by
 intro C m a w n hro hN hr;obtain⟨m',hr'⟩:=hw C m a w hr;exact h C m' a w n hro hN hr'
def uQ(k:Nat):Nat:=bif Nat.beq k 1000 then 900 else bif Nat.beq k 900 then 1000 else bif Nat.beq k 1001 then 2 else bif Nat.beq k 2 then 1001 else bif Nat.beq k 1002 then 3 else bif Nat.beq k 3 then 1002 else k
theorem nb{a b:Nat}(h:¬a=b):Nat.beq a b=false:=by
 cases h1:Nat.beq a b
 ·rfl
 ·exact absurd (XG h1) h
theorem UE(k:Nat):uQ (uQ k)=k:=by
 by_cases h1:k=1000
 ·subst h1;rfl
 by_cases h2:k=900
 ·subst h2;rfl
 by_cases h3:k=1001
 ·subst h3;rfl
 by_cases h4:k=2
 ·subst h4;rfl
 by_cases h5:k=1002
 ·subst h5;rfl
 by_cases h6:k=3
 ·subst h6;rfl
 have e:uQ k=k:=by simp only[uQ,nb h1,nb h2,nb h3,nb h4,nb h5,nb h6,cond_false]
 rw[e,e]
theorem OP(l:Li)(hl:l.ok)(hli:aA l=0)(kw:List Bool)(hk:kw.length=l.bo.length)(r:List AV) :
  FP 377 [.iptr (dP l kw (bZ l) r)] (.tup [((pairG l kw).getD default).av,bl (pairG l kw).isSome]):=by
 refine F0 (rs:=Tryz.f377.results.toList) func377 rfl rfl (by simp) rfl (fun k z h=>by cases h) ?_;refine BT (gZ (go ?_));refine W8 (s':=⟨[(1,some (.iptr [.iptr (dP l kw (bZ l) r)])),(2,some (.ptr 2 0)),(3,some (.ptr 3 0))],[(2,some (AR default)),(3,some (zH false))]⟩) ((Wk.freezeB (k:=1) rfl rfl).trans (Wk.of (.k (.k (.k .nil))) (.cons rfl (BlkSub.bL (.cons (.refl _) (.cons (.nil _ _ _) (.cons (.nil _ _ _) (.cons (.refl _) .nil)))) rfl) (.k .nil)))) ?_;refine UO ?_;refine BT (gZ (go ?_));refine gc (WZ (dP l kw (bZ l) r)) ?_;refine Ul ?_
 have hy:∀i k:Nat,i<k->k<l.bo.length->freeB l kw i=true->freeB l kw k=true ->
   uH prog 1000 [i64 i,i64 k] (fD (Gk Tryz.f377.ntmps Tryz.f377.body) (dP l kw (bZ l) r) false default) (bl (!prHit l kw i k)) (fD (Gk Tryz.f377.ntmps Tryz.f377.body) (dP l kw (bZ l) r) (prHit l kw i k) (cond (prHit l kw i k) (prG l kw i k) default)):=by
  intro i k hik hkn hfi hfk;refine Ww (k:=1000) (fun k z h=>Ed h) rfl rfl (by intro p hp;have h9:p∈[11,12]:=hp;have h8:p=11\/p=12:=(by simpa using h9);show p<42;rcases h8 with h7 |h7 <;> (rw[h7];decide)) ?_;refine gZ (go ?_);refine⟨rfl,_,_,rfl,?_⟩;have hJ:gJ l 0 i (fun o=>decide (o=(k:Int)))=jointI l 0 i (cF l.bo.length k):=B6 hli (fun o h0 h1=>(oq h0 oz oz).symm);refine gZ (go ?_);refine gc (xr l hl hli kw hk r 0 i) ?_;refine gc (xr l hl hli kw hk r 0 k) ?_;refine gD ?_ (5,0);refine gW (Wk.freezeB (k:=5) rfl rfl) ?_;refine gc (r:=i64 (jointI l 0 i (cF l.bo.length k))) (by rw[<- hJ];exact Con.sA (.cons (.refl _) (.cons (.refl _) (.cons (.refl _) (.cons (sW rfl) .nil)))) (IN l hl hli _ 0 i 401 [] [.iptr [i64 k]] (fun o=>decide (o=(k:Int))) (fun o h0 h1=>OY o k))) ?_;refine gC (fun ht=>?_) (fun ht=>?_)
  ·have h2 : prHit l kw i k = true := by unfold prHit; rw [hfi, hfk]; exact (w9.symm.trans ht)
   rw[h2];exact⟨_,_,rfl,az.keep (by intro q z h;simp only[fD,aT]at h;split at h;(subst_vars;exact h);split at h;(subst_vars;exact h);split at h;(subst_vars;exact h);cases h)⟩
  ·have h2 : prHit l kw i k = false := by unfold prHit; rw [hfi, hfk]; exact (w9.symm.trans ht)
   rw[h2];exact⟨_,_,rfl,az.keep (by intro q z h;simp only[fD,aT]at h;split at h;(subst_vars;exact h);split at h;(subst_vars;exact h);split at h;(subst_vars;exact h);cases h)⟩
 have hcon:=Con.pm UE (Vs _ l hl hli kw hk r hy);cases hg:pairG l kw with
 |none =>
  rw[hg]at hcon;refine GA (k:=900) (sl0:=[(1,some (.iptr [.iptr (dP l kw (bZ l) r)])),(2,some (.ptr 2 0)),(3,some (.ptr 3 0))]) (.tmp rfl) (by intro t x h;simp only[aT]at h;split at h;(subst_vars;exact h);split at h;(subst_vars;exact h);split at h;(subst_vars;exact h);cases h) rfl rfl hcon (fun k' z h=>h) rfl rfl rfl rfl (by intro h;cases h) (.inl ⟨rfl,?_⟩);refine BT (gZ (go ?_));refine bQ.out (gZ (go ?_));refine gR ?_;exact az.sub az.pure (Sub.tup (.cons rz (.cons (.refl _) .nil)))
 |some g =>
  rw[hg]at hcon;refine GA (k:=900) (sl0:=[(1,some (.iptr [.iptr (dP l kw (bZ l) r)])),(2,some (.ptr 2 0)),(3,some (.ptr 3 0))]) (.tmp rfl) (by intro t x h;simp only[aT]at h;split at h;(subst_vars;exact h);split at h;(subst_vars;exact h);split at h;(subst_vars;exact h);cases h) rfl rfl hcon (fun k' z h=>h) rfl rfl rfl rfl (by intro h;cases h) (.inr ⟨rfl,?_⟩);exact(bp (P:=prog) (N:=Tryz.f377.ntmps) (e:=.ret) rfl)
theorem zP{α:Type}{o:Option α}(h:o.isSome=true):∃x,o=some x:=by cases o <;> simp_all
theorem zT{α:Type}{o:Option α}(h:o.isSome=false):o=none:=by cases o <;> simp_all
theorem Ua(l:Li)(hl:l.ok)(hli:aA l=0)(kw:List Bool)(hk:kw.length=l.bo.length)(r:List AV) :
  FP 339 [.iptr (dP l kw (bZ l) r)] (.tup [((nextG l kw).getD default).av,bl (nextG l kw).isSome]):=by
 refine aj func339 ?_;refine gc (NT l hl hli kw (bZ l) hk r) ?_;refine gC (fun t13=>?_) (fun t13=>?_)
 ·obtain⟨g,hg⟩:=zP t13;refine bp ?_;unfold nextG;rw[hg];rfl
 have hg:=zT t13;refine gc (OP l hl hli kw hk r) ?_;refine gC (fun t20=>?_) (fun t20=>?_)
 ·obtain⟨g,hg2⟩:=zP t20;refine bp ?_;unfold nextG;rw[hg,hg2];rfl
 have hg2:=zT t20;refine gc (U7 l hl hli kw hk r) ?_;refine bp ?_;unfold nextG;rw[hg,hg2];rfl
theorem p5{ts:LL}{r e:Nat}(tw:Tw ts r){a b c d:List Rat}(ha:Nm ts.length e a)(hb:Nm ts.length e b)(hc:Nm ts.length e c)(hd:Nm ts.length e d)(he:2*e<=lm ts.length) :
  Con prog 173 [.ptr 1000 0,aM a b,aM c d] [(1000,some (fX ts))] (aM (sh ts.length (subT ts (ae ts.length a) (ae ts.length c))) (sh ts.length (subT ts (ae ts.length b) (ae ts.length d)))) [(1000,some (fX ts))]:=by
 refine gF func173 (fun k z h=>bD h) ?_;refine gt (aH (xn tw ha hc oz) (aJ rfl rfl rfl) aI rfl rfl) ?_;refine gt (aH (xn tw hb hd oz) (aJ rfl rfl rfl) aI rfl rfl) ?_;refine gD ?_;refine gR ?_;exact az.keep (bj rfl)
theorem v9(R:List AV)(a:List Rat):Con prog 284 [.ptr 1000 0,nA a] [(1000,some (.box [.lst 1 R,.v .nilIface]))] (.tup [nA a,.v .nilIface]) [(1000,some (.box [.lst 1 R,.v .nilIface]))]:=by
 refine gF func284 (fun k z h=>bD h) ?_;refine gC (fun t10=>?_) (fun t10=>?_) (st1:=(2,0));cases t10;refine gR ?_;show az _ (AV.tup [nA a,.v .nilIface]) _ _;exact az.keep (bj rfl)
theorem wC(R:List AV)(a b:List Rat):Con prog 172 [.ptr 1000 0,aM a b] [(1000,some (.box [.lst 1 R,.v .nilIface]))] (.tup [aM a b,.v .nilIface]) [(1000,some (.box [.lst 1 R,.v .nilIface]))]:=by
 refine gF func172 (fun k z h=>bD h) ?_;refine gC (fun t10=>?_) (fun t10=>?_) (st1:=(2,0));cases t10;refine gR ?_;show az _ (AV.tup [aM a b,.v .nilIface]) _ _;exact az.keep (bj rfl)
theorem Co{ts:LL}{r e:Nat}(tw:Tw ts r){a b c d p q:List Rat}(ha:Nm ts.length e a)(hb:Nm ts.length e b)(hc:Nm ts.length e c)(hd:Nm ts.length e d)(hp:Nm ts.length e p)(hq:Nm ts.length e q)
  (he:8*e+4+2*kB r ts.length<=lm ts.length) :
  Con prog 332 [.ptr 1000 0,aM a b,aM c d,aM p q] [(1000,some (fX ts))] (nA (sh ts.length (nC ts (ae ts.length a) (ae ts.length b) (ae ts.length c) (ae ts.length d) (ae ts.length p) (ae ts.length q)))) [(1000,some (fX ts))]:=by
 refine gF func332 (fun k z h=>bD h) ?_;refine gt (aH (p5 tw hc hd ha hb oz) (aJ rfl rfl rfl) aI rfl rfl) ?_;refine gt (aH (p5 tw hp hq ha hb oz) (aJ rfl rfl rfl) aI rfl rfl) ?_;refine gt (aH (CX▸Ix tw (hc.sub ha) (hd.sub hb) (hp.sub ha) (hq.sub hb) oz) (aJ rfl rfl rfl) aI rfl rfl) ?_;refine gD ?_;refine gR ?_;exact az.keep (bj rfl)
theorem Dw{ts:LL}{r e:Nat}(tw:Tw ts r){a b c d:List Rat}(ha:Nm ts.length e a)(hb:Nm ts.length e b)(hc:Nm ts.length e c)(hd:Nm ts.length e d)(he:e<=lm ts.length)(f:FuncId)(v:List Rat)
  (hf:Con prog f [.ptr 1000 0,aM a b,aM c d] [(1000,some (fX ts))] (nA v) [(1000,some (fX ts))]) :
  FP 174 [aY ts,aM a b,aM c d,.fn f []] (.tup [nA v,.v .nilIface]):=by
 refine aj func174 ?_;refine gc (my (e:=e) tw [(a,b),(c,d)] (by simp only[X6,XV,or_false];rintro p (rfl |rfl);exact⟨ha,hb⟩;exact⟨hc,hd⟩) he (by simp)) ?_;refine gC (fun t18=>?_) (fun t18=>?_) (st1:=(3,0));cases t18;refine gs (vK (.tmp rfl) (show Con prog f ([.ptr 22 0,aM a b,aM c d]++[]) [(22,some (fX ts))] (nA v) [(22,some (fX ts))]from Con.rB 22 rfl rfl rfl rfl hf) (aJ rfl rfl rfl) aI rfl rfl) ?_;refine gt (aH (Con.rB 22 rfl rfl rfl rfl (v9 _ _)) (bB rfl rfl) aI rfl rfl) ?_;refine bp ?_;rfl
theorem um{ts:LL}{r e:Nat}(tw:Tw ts r){a b c d:List Rat}(ha:Nm ts.length e a)(hb:Nm ts.length e b)(hc:Nm ts.length e c)(hd:Nm ts.length e d)(he:2*(e+e+kB r ts.length)<=lm ts.length) :
  FP 80 [aY ts,aM a b,aM c d] (.tup [nA (sh ts.length (nT ts (ae ts.length a) (ae ts.length b) (ae ts.length c) (ae ts.length d))),.v .nilIface]):=by
 refine aj func80 ?_;refine gc (Con.sA (.cons (.refl _) (.cons (.refl _) (.cons (.refl _) (.cons (Sub.fn0 _) .nil)))) (Dw tw ha hb hc hd oz _ _ (B7 tw ha hb hc hd he))) ?_;refine bp ?_
 first |rfl |(simp;done)
theorem M5{ts:LL}{r e:Nat}(tw:Tw ts r){a b c d p q:List Rat}(ha:Nm ts.length e a)(hb:Nm ts.length e b)(hc:Nm ts.length e c)(hd:Nm ts.length e d)(hp:Nm ts.length e p)(hq:Nm ts.length e q)
  (he:8*e+10+2*kB r ts.length<=lm ts.length) :
  FP 311 [aY ts,aM a b,aM c d,aM p q] (.tup [i64 (T.sgn (ax ts) ts.length (nC ts (ae ts.length a) (ae ts.length b) (ae ts.length c) (ae ts.length d) (ae ts.length p) (ae ts.length q))),.v .nilIface]):=by
 have ho:=Iv tw ha hb hc hd hp hq;refine aj func311 ?_;refine gc (my (e:=e) tw [(a,b),(c,d),(p,q)] (by simp only[X6,XV,or_false];rintro x (rfl |rfl |rfl);exact⟨ha,hb⟩;exact⟨hc,hd⟩;exact⟨hp,hq⟩) oz (by simp)) ?_;refine gC (fun t21=>?_) (fun t21=>?_) (st1:=(3,0));cases t21;refine gt (aH (Con.rB 25 rfl rfl rfl rfl (Co tw ha hb hc hd hp hq oz)) (.cons (.tmp rfl) (.cons (.tmp rfl) (.cons (.tmp rfl) (.cons (.tmp rfl) .nil)))) aI rfl rfl) ?_;refine gt (aH (Con.rB 25 rfl rfl rfl rfl (v9 _ _)) (bB rfl rfl) aI rfl rfl) ?_;refine gC (fun t37=>?_) (fun t37=>?_) (st1:=(7,0));cases t37;refine gc (qU tw ho oz) ?_;refine bp ?_;rw[bg]
theorem N5{ts:LL}{r e:Nat}(tw:Tw ts r){a b c d:List Rat}(ha:Nm ts.length e a)(hb:Nm ts.length e b)(hc:Nm ts.length e c)(hd:Nm ts.length e d)(he:2*e+1<=lm ts.length) :
  FP 310 [aY ts,aM a b,aM c d] (.tup [bl (decide (T.sgn (ax ts) ts.length (subT ts (ae ts.length a) (ae ts.length c))=0/\T.sgn (ax ts) ts.length (subT ts (ae ts.length b) (ae ts.length d))=0)),.v .nilIface]):=by
 refine aj func310 ?_;refine gc (my (e:=e) tw [(a,b),(c,d)] (by simp only[X6,XV,or_false];rintro p (rfl |rfl);exact⟨ha,hb⟩;exact⟨hc,hd⟩) oz (by simp)) ?_;refine gC (fun t18=>?_) (fun t18=>?_) (st1:=(3,0));cases t18;refine gc (Cc tw ha hc oz) ?_;refine gC (fun t30=>?_) (fun t30=>?_) (st1:=(6,0));cases t30;refine gc (Cc tw hb hd oz) ?_;refine bp ?_;rw[<- QU];rfl
theorem FH{ts:LL}{r e:Nat}(tw:Tw ts r){a b c d:List Rat}(ha:Nm ts.length e a)(hb:Nm ts.length e b)(hc:Nm ts.length e c)(hd:Nm ts.length e d)(he:2*(e+e+kB r ts.length)<=lm ts.length) :
  FP 191 [aY ts,nA a,nA b,aM c d] (.tup [aM (sh ts.length (rZ ts (ae ts.length a) (ae ts.length b) (ae ts.length c) (ae ts.length d))) (sh ts.length (tE ts (ae ts.length a) (ae ts.length b) (ae ts.length c) (ae ts.length d))),.v .nilIface]):=by
 refine aj func191 ?_;refine gc (uZ (e:=e) tw [a,b,c,d] (by simp only[X6,XV,or_false];rintro x (rfl |rfl |rfl |rfl) <;> assumption) oz (by simp)) ?_;refine gC (fun t22=>?_) (fun t22=>?_) (st1:=(3,0));cases t22;refine gt (aH (Con.rB 27 rfl rfl rfl rfl (lK tw ha hc oz)) (aJ rfl rfl rfl) aI rfl rfl) ?_;refine gt (aH (Con.rB 27 rfl rfl rfl rfl (lK tw hb hd oz)) (aJ rfl rfl rfl) aI rfl rfl) ?_;refine gt (aH (Con.rB 27 rfl rfl rfl rfl (yT▸xn tw (ha.mul tw rfl hc) (hb.mul tw rfl hd) oz)) (aJ rfl rfl rfl) aI rfl rfl) ?_;refine gt (aH (Con.rB 27 rfl rfl rfl rfl (lK tw hb hc oz)) (aJ rfl rfl rfl) aI rfl rfl) ?_;refine gt (aH (Con.rB 27 rfl rfl rfl rfl (lK tw ha hd oz)) (aJ rfl rfl rfl) aI rfl rfl) ?_;refine gt (aH (Con.rB 27 rfl rfl rfl rfl (Br▸wB tw (hb.mul tw rfl hc) (ha.mul tw rfl hd) oz)) (aJ rfl rfl rfl) aI rfl rfl) ?_;refine gt (aH (Con.rB 27 rfl rfl rfl rfl (wC _ _ _)) (bB rfl rfl) aI rfl rfl) ?_;refine gD ?_;refine bp ?_;rfl
theorem Wt{ts:LL}{r e:Nat}(tw:Tw ts r){a b c d:List Rat}(ha:Nm ts.length e a)(hb:Nm ts.length e b)(hc:Nm ts.length e c)(hd:Nm ts.length e d)(he:2*e<=lm ts.length) :
  FP 192 [aY ts,aM a b,aM c d] (.tup [aM (sh ts.length (T.add ts.length (ae ts.length a) (ae ts.length c))) (sh ts.length (T.add ts.length (ae ts.length b) (ae ts.length d))),.v .nilIface]):=by
 refine aj func192 ?_;refine gc (my (e:=e) tw [(a,b),(c,d)] (by simp only[X6,XV,or_false];rintro p (rfl |rfl);exact⟨ha,hb⟩;exact⟨hc,hd⟩) oz (by simp)) ?_;refine gC (fun t16=>?_) (fun t16=>?_) (st1:=(3,0));cases t16;refine gt (aH (Con.rB 21 rfl rfl rfl rfl (wB tw ha hc oz)) (aJ rfl rfl rfl) aI rfl rfl) ?_;refine gt (aH (Con.rB 21 rfl rfl rfl rfl (wB tw hb hd oz)) (aJ rfl rfl rfl) aI rfl rfl) ?_;refine gt (aH (Con.rB 21 rfl rfl rfl rfl (wC _ _ _)) (bB rfl rfl) aI rfl rfl) ?_;refine gD ?_;refine bp ?_;rfl
theorem xp{x y:Rat}(hx:Qs x)(hy:Qs y):FP 153 [qA x,qA y] (aM (sh 0 (x:Rat)) (sh 0 (y:Rat))):=by
 refine aj func153 ?_;refine gc (lT hx) ?_;refine gc (lT hy) ?_;refine gD ?_;refine af ?_
 first |rfl |(simp;done)
theorem vF{ts:LL}{r e:Nat}(tw:Tw ts r){a b c d:List Rat}(ha:Nm ts.length e a)(hb:Nm ts.length e b)(hc:Nm ts.length e c)(hd:Nm ts.length e d){x y:Rat}(hx:Qb e x)(hy:Qb e y)(he:8*e+4*kB r ts.length+4<=lm ts.length) :
  FP 89 [aY ts,.agg [nA a,nA b,nA c,nA d],qA x,qA y] (.tup [aM (sh ts.length (rY ts (ae ts.length a) (ae ts.length b) (ae ts.length c) x y)) (sh ts.length (sE ts (ae ts.length a) (ae ts.length b) (ae ts.length d) x y)),.v .nilIface]):=by
 have hlm:=lJ ts.length;have nx:=Nm.ofQ ha.five (Cb.one hx);have ny:=Nm.ofQ ha.five (Cb.one hy);have nX:=xe tw ha hb nx ny;have nY:=xC tw ha hb nx ny;have z1:e<=2*(e+e+kB r ts.length)+1:=by omega
 have z2:2*(2*(e+e+kB r ts.length)+1)<=lm ts.length:=Tx he;have hadd:=Wt tw nX nY (hc.mono z1) (hd.mono z1) z2;refine aj func89 ?_;refine gc (uZ (e:=e) tw [a,b,c,d] (by simp only[X6,XV,or_false];rintro x (rfl |rfl |rfl |rfl) <;> assumption) oz (by simp)) ?_;refine gC (fun t25=>?_) (fun t25=>?_) (st1:=(3,0));cases t25;refine gc (xp (hx.qs oz) (hy.qs oz)) ?_;refine gc (FH tw ha hb nx ny oz) ?_;refine gD ?_;refine gC (fun t41=>?_) (fun t41=>?_) (st1:=(6,0));cases t41;refine gc hadd ?_;refine bp ?_;rw[zW,zy];rfl
def u8(n:Nat):AV:=.v (.int .u8 n)
theorem tL{p q:Bool}{a b:Nat}{c:Nat}(hp:p=decide (a<=c))(hq:q=decide (c<=b)):cond p q false=decide (a<=c/\c<=b):=by
 subst hp;subst hq
 by_cases h:a<=c
 ·simp[h]
 ·simp[h]
theorem rK(c k:Nat):aa .geq (c:Int) (k:Int)=decide (k<=c):=by simp only[aa,decide_eq_decide];omega
theorem ue(c k:Nat):aa .leq (c:Int) (k:Int)=decide (c<=k):=by simp only[aa,decide_eq_decide];omega
theorem Vn(c:Nat):cond (cond (aa .geq (c:Int) 97) (aa .leq (c:Int) 122) false) true (cond (aa .geq (c:Int) 65) (aa .leq (c:Int) 90) false)=eL c:=by
 have e1:cond (aa .geq (c:Int) 97) (aa .leq (c:Int) 122) false=decide (97<=c/\c<=122):=tL (rK c 97) (ue c 122);have e2:cond (aa .geq (c:Int) 65) (aa .leq (c:Int) 90) false=decide (65<=c/\c<=90):=tL (rK c 65) (ue c 90);rw[e1,e2];unfold eL;cases decide (97<=c/\c<=122) <;> rfl
theorem Uk(c:Nat):cond (cond (aa .geq (c:Int) 65) (aa .leq (c:Int) 90) false) true (cond (aa .geq (c:Int) 97) (aa .leq (c:Int) 122) false)=eL c:=by
 have e1:cond (aa .geq (c:Int) 97) (aa .leq (c:Int) 122) false=decide (97<=c/\c<=122):=tL (rK c 97) (ue c 122);have e2:cond (aa .geq (c:Int) 65) (aa .leq (c:Int) 90) false=decide (65<=c/\c<=90):=tL (rK c 65) (ue c 90);rw[e1,e2];unfold eL;cases decide (97<=c/\c<=122) <;> cases decide (65<=c/\c<=90) <;> rfl
theorem FN(c:Nat):cond (aa .geq (c:Int) 48) (aa .leq (c:Int) 57) false=pL c:=tL (rK c 48) (ue c 57)
theorem zi(c:Nat):cond (cond (eL c) true (pL c)) true (aa .eql (c:Int) 95)=kv c:=by
 unfold kv
 have:aa .eql (c:Int) 95=decide (c=95):=by
  rw[Bool.eq_iff_iff];simp only[aa,beq_iff_eq,decide_eq_true_eq];omega
 rw[this];cases eL c <;> cases pL c <;> rfl
theorem EV(c:Nat):FP 363 [u8 c] (bl (eL c)):=by
 refine aj func363 ?_;refine af ?_;exact congrArg bl (Vn c)
theorem WF(c:Nat):FP 390 [u8 c] (bl (pL c)):=by
 refine aj func390 ?_;refine af ?_;exact congrArg bl (FN c)
theorem Wj(c:Nat):FP 364 [u8 c] (bl (kv c)):=by
 refine aj func364 ?_;refine gc (EV c) ?_;refine b7 (fun _=>(WF c)) ?_;refine af ?_;exact congrArg bl (zi c)
theorem Fx(c:Nat):FP 315 [u8 c] (bl (eL c)):=by
 refine aj func315 ?_;refine af ?_;exact congrArg bl (Uk c)
theorem MN(c:Nat):FP 317 [u8 c] (bl (pL c)):=by
 refine aj func317 ?_;refine af ?_;exact congrArg bl (FN c)
theorem No(s:ByteArray)(hs:s.size<=281474976710656):FP 300 [.v (.string s)] (i64 (fe s)):=by
 refine aj func300 ?_;refine gs (fq rfl rfl rfl (fun h=>uP (.opt rfl (o1 h)) (.const _) T9 rfl oz (by have:=HT h;omega) rfl)) ?_;refine b7 (fun _=>(EV (dX s 0))) ?_;refine gC (fun t11=>?_) (fun t11=>?_)
 ·have h0:fe s=0:=Rh t11;refine af ?_;rw[h0];rfl
 obtain⟨h0,h1⟩:=LH t11;refine aW [0] [] (fun(n:Nat)=>[(3,some (i64 n))]) (fun _=>[]) (fun n=>1<=n/\n<=s.size/\fw s 1 (s.size-1)=fw s n (s.size-n)) (fun n=>s.size-n) 1 ⟨XD _,h0,rfl⟩ ?_;rintro n ⟨hn1,hn,hw⟩ K1 J1;refine gs (fq rfl rfl rfl (fun h=>uP (.opt rfl (o1 h)) (.opt rfl (o1 h)) T9 rfl oz (by have:=a6 h;omega) rfl)) ?_;refine b7 (fun _=>(Wj (dX s n))) ?_;refine gC (fun t21=>?_) (fun t21=>?_)
 ·have h2:n<s.size/\kv (dX s n)=true:=Rq t21;refine ga aN ?_;exact aO J1 (n+1) ⟨by omega,by omega,by rw[hw,show s.size-n=(s.size-(n+1))+1 by omega];simp only[fw,h2.2,if_true]⟩
 have h2:n<s.size->kv (dX s n)=false:=Ma t21
 have h3:fe s=n:=by
  unfold fe;rw[Yl ⟨h0,h1⟩,hw];rcases XH n s.size with h |h
  ·rw[show s.size-n=(s.size-(n+1))+1 by omega];simp only[fw,h2 h,Bool.false_eq_true,if_false]
  ·rw[show s.size-n=0 by omega];rfl
 refine af ?_;rw[h3]
theorem s8(s:ByteArray)(hs:s.size<=281474976710656):FP 204 [.v (.string s)] (bl (gL s)):=by
 refine aj func204 ?_;refine gc (No s hs) ?_;refine af ?_;exact congrArg bl (V3 s)
theorem vo(s:ByteArray)(i:Nat):FP 316 [.v (.string s),i64 i] (u8 (dX s i)):=by
 refine aj func316 ?_;refine gC (fun t8=>?_) (fun t8=>?_)
 ·have h0:=a6 t8;refine gs (uP (.tmp rfl) (.tmp rfl) T9 rfl oz oz rfl) ?_;refine af ?_;rfl
 have h0:=tH t8;refine af ?_;rw[EO oz];rfl
theorem ON(s:ByteArray)(hs:s.size<=281474976710656):FP 225 [.v (.string s),i64 0] (i64 ((if eL (dX s 0)then fw s 0 s.size else 0:Nat))):=by
 refine aj func225 ?_;refine gc (vo s 0) ?_;refine gc (Fx (dX s 0)) ?_;refine gC (fun t9=>?_) (fun t9=>?_)
 ·have h0 : eL (dX s 0) = false := by simpa using t9
  refine af ?_;rw[h0];rfl
 have h0:eL (dX s 0)=true:=by simpa using t9
 refine aW [0] [] (fun(n:Nat)=>[(1,some (i64 n))]) (fun _=>[]) (fun n=>n<=s.size/\fw s 0 s.size=fw s n (s.size-n)) (fun n=>s.size-n) 0 ⟨XJ _,rfl⟩ ?_;rintro n ⟨hn,hw⟩ K1 J1;refine gc (vo s n) ?_;refine gc (Fx (dX s n)) ?_;refine b7 (fun _=>(vo s n)) ?_;refine b7 (fun _=>(MN (dX s n))) ?_;refine b7 (fun _=>(vo s n)) ?_;refine gC (fun t26=>?_) (fun t26=>?_)
 ·have h1:kv (dX s n)=true:=(zi _).symm.trans t26
  have h2:n<s.size:=by
   rcases XH n s.size with h |h
   ·exact h
   ·rw[EO h]at h1;cases h1
  refine ga aN ?_;exact aO J1 (n+1) ⟨by omega,by rw[hw,show s.size-n=(s.size-(n+1))+1 by omega];simp only[fw,h1,if_true]⟩
 have h1:kv (dX s n)=false:=(zi _).symm.trans t26
 have h2:fw s 0 s.size=n:=by
  rw[hw];rcases XH n s.size with h |h
  ·rw[show s.size-n=(s.size-(n+1))+1 by omega];simp only[fw,h1,Bool.false_eq_true,if_false]
  ·rw[show s.size-n=0 by omega];rfl
 refine af ?_;rw[h0,h2];rfl
theorem sL(s:ByteArray)(hs:s.size<=281474976710656):FP 111 [.v (.string s)] (bl (gL s)):=by
 refine aj func111 ?_;refine b7 (fun _=>(ON s hs)) ?_;refine af ?_;exact congrArg bl (Wd s)
theorem re(i:Int)(n:Nat):FP 302 [i64 i,i64 n] (bl (bu i n)):=by
 refine aj func302 ?_;refine af ?_;exact congrArg bl (HN i n)
theorem TB(bs:List Bd)(hbs:∀b∈bs,b.ok)(hl:bs.length<=281474976710656):FP 205 [.lst 2 (bs.map Bd.av)] (br (fh bs.length (dG bs))):=by
 refine aj func205 ?_;refine gl ?_;refine aW [0,11,12] [] (fun(i:Nat)=>[(13,some (i64 i))]) (fun _=>[]) (fun i=>i<=bs.length/\∀j,j<i->dG bs j=0) (fun i=>bs.length-i) 0 ⟨XJ _,fun j h=>by omega⟩ ?_;rintro i ⟨hi,hj⟩ K1 J1;refine gC (fun t14=>?_) (fun t14=>?_)
 ·have hin:=a6 t14;obtain⟨b,hb⟩:=aw hin;have hbd:bs.getD i default=b:=aq hb;have hbo:=hbs b (Xx hb);have hbdup:=nH Bd.name hb;refine gi (aE hb) ?_;refine gc (s8 b.name hbo.name) ?_;refine gC (fun t21=>?_) (fun t21=>?_)
  ·have h1:=dg t21;have e1:dG bs i = 5:=by unfold dG; rw [hbd,Yl h1]
   refine af ?_;rw[en hin hj (by rw[e1];decide),e1];rfl
  have h1:=da t21;refine gs (eW (.tmp rfl) (.none _) (.some _ (.tmp rfl) oz) T22 rfl T173 rfl oz (by simp only[XA];omega) rfl) ?_;refine ge rfl ?_;refine aW [0,3,4,11,12,13] [4] (fun(k:Nat)=>[(25,some (.lst 2 ((bs.take i).map Bd.av))),(26,some (i64 i)),(27,some (i64 k))]) (fun _=>[]) (fun k=>k<=i/\(bs.take k).any (fun y=>dS y.name b.name)=false) (fun k=>i-k) 0 ⟨XJ _,rfl⟩ ?_ (h1:=(.cons rfl (Sub.of (tT 2 Bd.av bs i)) (.cons rfl (Sub.int (by simp;omega)) (.k .nil))));rintro k ⟨hk,hd⟩ K2 J2;refine gC (fun t28=>?_) (fun t28=>?_)
  ·have hkn:=a6 t28;obtain ⟨y,hy'⟩:∃ y,(bs.take i)[k]? = some y:=aw (by simp; omega);have hy:=(sO hy').1;refine gi (aE hy') ?_;refine gC (fun t35=>?_) (fun t35=>?_)
   ·have h2:dS y.name b.name = true:=t35;have e1:dG bs i = 6:=by unfold dG; rw [hbd,Yk (by rw [h1]; decide),Yl (by rw [hbdup]; exact lB hy hkn h2)]
    refine af ?_;rw[en hin hj (by rw[e1];decide),e1];rfl
   have h2:dS y.name b.name=false:=t35;refine ga aN ?_;exact aO J2 (k+1) ⟨hkn,kG hy hd h2⟩
  have hkn:=bc hk t28;subst hkn;have hnd:¬gE (bs.map Bd.name) k=true:=by rw[hbdup,hd];decide
  refine gl ?_;refine gC (fun t41=>?_) (fun t41=>?_)
  ·have h3:8 < b.pts.length:=jI t41;have e1:dG bs k = 4:=by unfold dG; rw [hbd,Yk (by rw [h1]; decide),Yk hnd,Yl h3]
   refine af ?_;rw[en hin hj (by rw[e1];decide),e1];rfl
  have h3:b.pts.length<=8:=gX t41;have e1:dG bs k=fh b.pts.length (dC b.pts):=by unfold dG;rw[hbd,Yk (by rw[h1];decide),Yk hnd,Yk oz]
  refine gl ?_;refine aW [0,4,11,12,13,44,45] [4] (fun(p:Nat)=>[(46,some (i64 p))]) (fun _=>[]) (fun p=>p<=b.pts.length/\∀j,j<p->dC b.pts j=0) (fun p=>b.pts.length-p) 0 ⟨XJ _,fun j h=>by omega⟩ ?_;rintro p ⟨hp,hpj⟩ K3 J3;refine gC (fun t47=>?_) (fun t47=>?_)
  ·have hpn:=a6 t47;obtain⟨m,hm⟩:=aw hpn;have hmd:b.pts.getD p default=m:=aq hm;have hmm:=Xx hm;have hmdup:=nH Mk.name hm;have hmo:=hbo.pts m hmm;refine gi (aE hm) ?_;refine gc (s8 m.name (hbo.names m hmm)) ?_;refine gC (fun t54=>?_) (fun t54=>?_)
   ·have h4:=dg t54;have e2:dC b.pts p = 5:=by unfold dC; rw [hmd,Yl h4]
    have e3:dG bs k=5:=by rw[e1,en hpn hpj (by rw[e2];decide),e2]
    refine af ?_;rw[en hin hj (by rw[e3];decide),e3];rfl
   have h4:=da t54;refine gs (eW (.tmp rfl) (.none _) (.some _ (.tmp rfl) oz) T171 rfl T175 rfl oz (by simp only[XA];omega) rfl) ?_;refine ge rfl ?_;refine aW [0,4,8,11,12,13,44,45,46] [4,8] (fun(q:Nat)=>[(59,some (.lst 7 ((b.pts.take p).map Mk.av))),(60,some (i64 p)),(61,some (i64 q))]) (fun _=>[]) (fun q=>q<=p/\(b.pts.take q).any (fun y=>dS y.name m.name)=false) (fun q=>p-q) 0 ⟨XJ _,rfl⟩ ?_ (h1:=(.cons rfl (Sub.of (tT 7 Mk.av b.pts p)) (.cons rfl (Sub.int (by simp;omega)) (.k .nil))));rintro q ⟨hq,hqd⟩ K4 J4;refine gC (fun t62=>?_) (fun t62=>?_)
   ·have hqn:=a6 t62;obtain ⟨y,hy'⟩:∃ y,(b.pts.take p)[q]? = some y:=aw (by simp; omega);have hy:=(sO hy').1;refine gi (aE hy') ?_;refine gC (fun t69=>?_) (fun t69=>?_)
    ·have h5:dS y.name m.name = true:=t69;have e2:dC b.pts p = 6:=by unfold dC; rw [hmd,Yk (by rw [h4]; decide),Yl (by rw [hmdup]; exact lB hy hqn h5)]
     have e3:dG bs k=6:=by rw[e1,en hpn hpj (by rw[e2];decide),e2]
     refine af ?_;rw[en hin hj (by rw[e3];decide),e3];rfl
    have h5:dS y.name m.name=false:=t69;refine ga aN ?_;exact aO J4 (q+1) ⟨hqn,kG hy hqd h5⟩
   have hqn:=bc hq t62;subst hqn;have hmnd:¬gE (b.pts.map Mk.name) q=true:=by rw[hmdup,hqd];decide
   refine gc (s9 m.x hmo.x) ?_;refine b7 (fun _=>(s9 m.y hmo.y)) ?_;refine gC (fun t81=>?_) (fun t81=>?_)
   ·have h6:=oU t81;have e2:dC b.pts q = 3:=by unfold dC; rw [hmd,Yk (by rw [h4]; decide),Yk hmnd,Yk (by rintro ⟨g1,g2⟩; rcases h6 with g | g; (rw [g1] at g; cases g); (rw [g2] at g; cases g))]
    have e3:dG bs k=3:=by rw[e1,en hpn hpj (by rw[e2];decide),e2]
    refine af ?_;rw[en hin hj (by rw[e3];decide),e3];rfl
   have h6:=od t81;have e2:dC b.pts q=0:=by unfold dC;rw[hmd,Yk (by rw[h4];decide),Yk hmnd,Yl h6]
   refine ga aN ?_;exact aO J3 (q+1) ⟨hpn,fun j h9=>by rcases XH j q with g |g;exact hpj j g;(have:j=q:=by omega);subst this;exact e2⟩
  have hpn:=bc hp t47;subst hpn;have e2:dG bs k=0:=e1.trans (kU hpj);refine ga aN ?_;exact aO J1 (k+1) ⟨hin,fun j h9=>by rcases XH j k with g |g;exact hj j g;(have:j=k:=by omega);subst this;exact e2⟩
 have hin:=bc hi t14;subst hin;refine af ?_;rw[kU hj];rfl
theorem Wq(l:Li)(hl:l.ok)(j:Jt):FP 301 [l.av,j.av] (br (dN l j)):=by
 refine aj func301 ?_;refine gC (fun t15=>?_) (fun t15=>?_)
 ·have h1:=CT t15;refine af ?_;unfold dN;rw[Yl h1];rfl
 have h1:=Eo t15;refine gl ?_;refine gc (re j.a l.bo.length) ?_;refine cQ ?_;refine b7 (fun _=>(re j.b l.bo.length)) ?_;refine gC (fun t32=>?_) (fun t32=>?_)
 ·have h2:=oU t32;refine af ?_;unfold dN;rw[Yk h1,Yl h2];rfl
 have h2:=od t32;have h2n:¬(bu j.a l.bo.length=false\/bu j.b l.bo.length=false):=by rw[h2.1,h2.2];simp
 obtain⟨A,hA,pA,mA,zA0⟩:=qO h2.1;obtain⟨B,hB,pB,mB,zB0⟩:=qO h2.2;refine gC (fun t38=>?_) (fun t38=>?_)
 ·have h3:=cH t38;refine af ?_;unfold dN;rw[Yk h1,Yk h2n,Yl h3];rfl
 have h3:=dm t38;refine gi (aE hB) ?_;refine gi (aE hA) ?_;refine gl ?_;refine gc (re j.point A.pts.length) ?_;refine cQ ?_;refine b7 (fun _=>(re j.on B.pts.length)) ?_;refine gD ?_;refine gC (fun t66=>?_) (fun t66=>?_)
 ·have h4:=oU t66;refine af ?_;unfold dN;rw[Yk h1,Yk h2n,Yk h3,pA,pB,Yl h4];rfl
 have h4:=od t66;have h4n:¬(bu j.point A.pts.length=false\/bu j.on B.pts.length=false):=by rw[h4.1,h4.2];simp
 refine gC (fun t70=>?_) (fun t70=>?_)
 ·have h5:=cH t70;refine gC (fun t73=>?_) (fun t73=>?_)
  ·have h6:=mR t73;refine af ?_;unfold dN;rw[Yk h1,Yk h2n,Yk h3,pA,pB,Yk h4n,Yl h5,Yl h6];rfl
  have h6:=ui t73;refine af ?_;unfold dN;rw[Yk h1,Yk h2n,Yk h3,pA,pB,Yk h4n,Yl h5,Yk (by rw[h6];simp)];rfl
 have h5:=dm t70;refine gl ?_;refine gc (re j.to B.pts.length) ?_;refine gC (fun t80=>?_) (fun t80=>?_)
 ·have h6:=dg t80;refine af ?_;unfold dN;rw[Yk h1,Yk h2n,Yk h3,pA,pB,Yk h4n,Yk h5,Yl h6];rfl
 have h6:=da t80;obtain⟨m1,g1,d1,mm1,z1⟩:=uu h4.2;obtain⟨m2,g2,d2,mm2,z2⟩:=uu h6;have mo1:=(hl.bo B mB).pts m1 mm1;have mo2:=(hl.bo B mB).pts m2 mm2;refine gi (aE g1) ?_;refine gi (aE g2) ?_;refine gD ?_;refine gc (Ex m1.x m2.x mo1.x mo2.x) ?_;refine b7 (fun _=>(Ex m1.y m2.y mo1.y mo2.y)) ?_;refine gC (fun t105=>?_) (fun t105=>?_)
 ·have h7:=E8 t105;refine af ?_;unfold dN;rw[Yk h1,Yk h2n,Yk h3,pA,pB,Yk h4n,Yk h5,Yk (by rw[h6];decide),d1,d2,Yl h7];rfl
 have h7:=G8 t105;refine af ?_;unfold dN;rw[Yk h1,Yk h2n,Yk h3,pA,pB,Yk h4n,Yk h5,Yk (by rw[h6];decide),d1,d2,Yk h7];rfl
theorem Kj(l:Li)(hl:l.ok):FP 206 [l.av] (br (d6 l)):=by
 have hlj:=hl.lj;refine aj func206 ?_;refine gl ?_;refine gC (fun t11=>?_) (fun t11=>?_)
 ·have h0:16<l.jo.length:=jI t11;refine af ?_;unfold d6;rw[Yl h0];rfl
 have h0:l.jo.length<=16:=gX t11;have e0:d6 l=fh l.jo.length (fK l):=by unfold d6;rw[Yk oz]
 refine gl ?_;refine aW [1,14,15] [1] (fun(i:Nat)=>[(16,some (i64 i))]) (fun _=>[]) (fun i=>i<=l.jo.length/\∀j,j<i->fK l j=0) (fun i=>l.jo.length-i) 0 ⟨XJ _,fun j h=>by omega⟩ ?_;rintro i ⟨hi,hj⟩ K1 J1;refine gC (fun t17=>?_) (fun t17=>?_)
 ·have hin:=a6 t17;obtain⟨b,hb⟩:=aw hin;have hbd:l.jo.getD i default=b:=aq hb;have hbdup:=nH Jt.name hb;refine gi (aE hb) ?_;refine gc (s8 b.name (hl.jnames b (Xx hb))) ?_;refine gC (fun t24=>?_) (fun t24=>?_)
  ·have h1:=dg t24;have e1:fK l i = 5:=by unfold fK; rw [hbd,Yl h1]
   refine af ?_;rw[e0,en hin hj (by rw[e1];decide),e1];rfl
  have h1:=da t24;refine gs (eW (.tmp rfl) (.none _) (.some _ (.tmp rfl) oz) T23 rfl T75 rfl oz (by simp only[XA];omega) rfl) ?_;refine ge rfl ?_;refine aW [1,3,4,14,15,16] [1,4] (fun(k:Nat)=>[(29,some (.lst 7 ((l.jo.take i).map Jt.av))),(30,some (i64 i)),(31,some (i64 k))]) (fun _=>[]) (fun k=>k<=i/\(l.jo.take k).any (fun y=>dS y.name b.name)=false) (fun k=>i-k) 0 ⟨XJ _,rfl⟩ ?_ (h1:=(.cons rfl (Sub.of (tT 7 Jt.av l.jo i)) (.cons rfl (Sub.int (by simp;omega)) (.k .nil))));rintro k ⟨hk,hd⟩ K2 J2;refine gC (fun t32=>?_) (fun t32=>?_)
  ·have hkn:=a6 t32;obtain ⟨y,hy'⟩:∃ y,(l.jo.take i)[k]? = some y:=aw (by simp; omega);have hy:=(sO hy').1;refine gi (aE hy') ?_;refine gC (fun t39=>?_) (fun t39=>?_)
   ·have h2:dS y.name b.name = true:=t39;have e1:fK l i = 6:=by unfold fK; rw [hbd,Yk (by rw [h1]; decide),Yl (by rw [hbdup]; exact lB hy hkn h2)]
    refine af ?_;rw[e0,en hin hj (by rw[e1];decide),e1];rfl
   have h2:dS y.name b.name=false:=t39;refine ga aN ?_;exact aO J2 (k+1) ⟨hkn,kG hy hd h2⟩
  have hkn:=bc hk t32;subst hkn;have hnd:¬gE (l.jo.map Jt.name) k=true:=by rw[hbdup,hd];decide
  have e1:fK l k=dN l b:=by unfold fK;rw[hbd,Yk (by rw[h1];decide),Yk hnd]
  refine gc (Wq l hl b) ?_;refine gC (fun t46=>?_) (fun t46=>?_)
  ·have h3:=cU t46;refine af ?_;rw[e0,en hin hj (by rw[e1];exact h3),e1]
  have h3:=cS t46;refine ga aN ?_;exact aO J1 (k+1) ⟨hin,fun j h9=>by rcases XH j k with g |g;exact hj j g;(have:j=k:=by omega);subst this;exact e1.trans h3⟩
 have hin:=bc hi t17;subst hin;refine af ?_;rw[e0,kU hj];rfl
theorem LN(l:Li)(hl:l.ok):FP 207 [l.av] (br (fu l)):=by
 have hld:=hl.ld;refine aj func207 ?_;refine gl ?_;refine gC (fun t12=>?_) (fun t12=>?_)
 ·have h0:2<l.dv.length:=jI t12;refine af ?_;unfold fu;rw[Yl h0];rfl
 have h0:l.dv.length<=2:=gX t12;have e0:fu l=fh l.dv.length (dM l):=by unfold fu;rw[Yk oz]
 refine gl ?_;refine aW [1,15,16] [1] (fun(i:Nat)=>[(17,some (i64 i))]) (fun _=>[]) (fun i=>i<=l.dv.length/\∀j,j<i->dM l j=0) (fun i=>l.dv.length-i) 0 ⟨XJ _,fun j h=>by omega⟩ ?_;rintro i ⟨hi,hj⟩ K1 J1;refine gC (fun t18=>?_) (fun t18=>?_)
 ·have hin:=a6 t18;obtain⟨b,hb⟩:=aw hin;have hbd:l.dv.getD i default=b:=aq hb;have hbdup:=nH Dr.name hb;refine gi (aE hb) ?_;refine gc (s8 b.name (hl.dnames b (Xx hb))) ?_;refine gC (fun t25=>?_) (fun t25=>?_)
  ·have h1:=dg t25;have e1:dM l i = 5:=by unfold dM; rw [hbd,Yl h1]
   refine af ?_;rw[e0,en hin hj (by rw[e1];decide),e1];rfl
  have h1:=da t25;refine gs (eW (.tmp rfl) (.none _) (.some _ (.tmp rfl) oz) T24 rfl T185 rfl oz (by simp only[XA];omega) rfl) ?_;refine ge rfl ?_;refine aW [1,3,4,15,16,17] [1,4] (fun(k:Nat)=>[(30,some (.lst 2 ((l.dv.take i).map Dr.av))),(31,some (i64 i)),(32,some (i64 k))]) (fun _=>[]) (fun k=>k<=i/\(l.dv.take k).any (fun y=>dS y.name b.name)=false) (fun k=>i-k) 0 ⟨XJ _,rfl⟩ ?_ (h1:=(.cons rfl (Sub.of (tT 2 Dr.av l.dv i)) (.cons rfl (Sub.int (by simp;omega)) (.k .nil))));rintro k ⟨hk,hd⟩ K2 J2;refine gC (fun t33=>?_) (fun t33=>?_)
  ·have hkn:=a6 t33;obtain ⟨y,hy'⟩:∃ y,(l.dv.take i)[k]? = some y:=aw (by simp; omega);have hy:=(sO hy').1;refine gi (aE hy') ?_;refine gC (fun t40=>?_) (fun t40=>?_)
   ·have h2:dS y.name b.name = true:=t40;have e1:dM l i = 6:=by unfold dM; rw [hbd,Yk (by rw [h1]; decide),Yl (by rw [hbdup]; exact lB hy hkn h2)]
    refine af ?_;rw[e0,en hin hj (by rw[e1];decide),e1];rfl
   have h2:dS y.name b.name=false:=t40;refine ga aN ?_;exact aO J2 (k+1) ⟨hkn,kG hy hd h2⟩
  have hkn:=bc hk t33;subst hkn;have hnd:¬gE (l.dv.map Dr.name) k=true:=by rw[hbdup,hd];decide
  refine gl ?_;refine gc (re b.body l.bo.length) ?_;refine gC (fun t49=>?_) (fun t49=>?_)
  ·have h3:=dg t49;have e1:dM l k = 9:=by unfold dM; rw [hbd,Yk (by rw [h1]; decide),Yk hnd,Yl h3]
   refine af ?_;rw[e0,en hin hj (by rw[e1];decide),e1];rfl
  have h3:=da t49;refine gC (fun t53=>?_) (fun t53=>?_)
  ·have h4:=cH t53;have e1:dM l k = 7:=by unfold dM; rw [hbd,Yk (by rw [h1]; decide),Yk hnd,Yk (by rw [h3]; decide),Yl h4]
   refine af ?_;rw[e0,en hin hj (by rw[e1];decide),e1];rfl
  have h4:=dm t53;have e1:dM l k=if(l.dv.take k).any (fun d=>decide (d.body=b.body))=true then 6 else 0:=by unfold dM;rw[hbd,Yk (by rw[h1];decide),Yk hnd,Yk (by rw[h3];decide),Yk h4]
  refine gs (eW (.tmp rfl) (.none _) (.some _ (.tmp rfl) oz) T24 rfl T185 rfl oz (by simp only[XA];omega) rfl) ?_;refine ge rfl ?_;refine aW [1,4,15,16,17] [1,4] (fun(q:Nat)=>[(58,some (.lst 2 ((l.dv.take k).map Dr.av))),(59,some (i64 k)),(60,some (i64 q))]) (fun _=>[]) (fun q=>q<=k/\(l.dv.take q).any (fun d=>decide (d.body=b.body))=false) (fun q=>k-q) 0 ⟨XJ _,rfl⟩ ?_ (h1:=(.cons rfl (Sub.of (tT 2 Dr.av l.dv k)) (.cons rfl (Sub.int (by simp;omega)) (.k .nil))));rintro q ⟨hq,hqd⟩ K3 J3;refine gC (fun t61=>?_) (fun t61=>?_)
  ·have hqn:=a6 t61;obtain ⟨y,hy'⟩:∃ y,(l.dv.take k)[q]? = some y:=aw (by simp; omega);have hy:=(sO hy').1;refine gi (aE hy') ?_;refine gC (fun t68=>?_) (fun t68=>?_)
   ·have h5:decide (y.body = b.body) = true:=decide_eq_true (cH t68);have e2:dM l k = 6:=by rw [e1,Yl (lB hy hqn h5)]
    refine af ?_;rw[e0,en hin hj (by rw[e2];decide),e2];rfl
   have h5:decide (y.body=b.body)=false:=decide_eq_false (dm t68);refine ga aN ?_;exact aO J3 (q+1) ⟨hqn,kG hy hqd h5⟩
  have hqn:=bc hq t61;subst hqn;have e2:dM l q=0:=by rw[e1,hqd];rfl
  refine ga aN ?_;exact aO J1 (q+1) ⟨hin,fun j h9=>by rcases XH j q with g |g;exact hj j g;(have:j=q:=by omega);subst this;exact e2⟩
 have hin:=bc hi t18;subst hin;refine af ?_;rw[e0,kU hj];rfl
theorem uY(l:Li)(hl:l.ok):FP 104 [l.av] (br (aA l)):=by
 have hlb:=hl.lb;refine aj func104 ?_;refine gc (s8 l.name hl.name) ?_;refine gC (fun t8=>?_) (fun t8=>?_)
 ·have h1:=dg t8;refine af ?_;unfold aA;rw[Yl h1];rfl
 have h1:=da t8;refine gl ?_;refine gC (fun t13=>?_) (fun t13=>?_)
 ·have h2:=H4 t13;refine af ?_;unfold aA;rw[Yk (by rw[h1];decide),Yl h2];rfl
 have h2:=Dd t13;refine gl ?_;refine gC (fun t18=>?_) (fun t18=>?_)
 ·have h3:8<l.bo.length:=jI t18;refine af ?_;unfold aA;rw[Yk (by rw[h1];decide),Yk h2,Yl h3];rfl
 have h3:l.bo.length<=8:=gX t18;have e0:aA l=if fQ l≠0 then fQ l else if d6 l≠0 then d6 l else fu l:=by unfold aA;rw[Yk (by rw[h1];decide),Yk h2,Yk oz]
 refine gc (TB l.bo hl.bo hlb) ?_;refine gC (fun t24=>?_) (fun t24=>?_)
 ·have h4:fQ l≠0:=cU t24;refine af ?_;rw[e0,Yl h4];rfl
 have h4:fQ l=0:=cS t24;refine gc (Kj l hl) ?_;refine gC (fun t29=>?_) (fun t29=>?_)
 ·have h5:=cU t29;refine af ?_;rw[e0,Yk (by rw[h4];simp),Yl h5]
 have h5:=cS t29;refine gc (LN l hl) ?_;refine af ?_;rw[e0,Yk (by rw[h4];simp),Yk (by rw[h5];simp)]
theorem Bo(d:Nat)(hd:Nat.blt d 1000=true)(l:Li)(hl:l.bo.length<=1000)(b:Nat)(hb:b<l.bo.length) :
  Con prog 135 [l.av,i64 b] [] (.ms d 1 0 l.bo.length) [(d,some (.row 1 ((cF l.bo.length b).map bl)))]:=by
 refine gF func135 (fun k z h=>by cases h) ?_;refine gl ?_;refine gs (gV (.tmp rfl) T219 rfl T4 rfl rfl oz (by dsimp only;omega) rfl) ?_;refine gs (lW (.tmp rfl) (.tmp rfl) T219 rfl T4 rfl oz oz rfl) ?_;refine gs (dT (.tmp rfl) rfl (by rw[X1,Yl (by simp;omega)]) rfl (.const _) rfl rfl T4 rfl rfl) ?_ (3,0);refine gW (Wk.of (sl:=[(5,some (.ms 9 1 0 l.bo.length))]) (hp:=[(9,some (.row 1 ((cF l.bo.length b).map bl)))]) (.cons rfl (Sub.of (by rw[X3])) .nil) (.cons rfl (BlkSub.of (by unfold cF;simp only[Yg,Yc,Nat.zero_add,X3];rfl)) .nil)) ?_ (3,0);refine gW (Wk.rk (k:=9) (d:=900) rfl rfl) ?_;refine gR ?_;exact az.own1 rfl hd rfl
theorem Mu(l:Li)(hl:l.bo.length<=1000)(b:Nat)(hb:b<l.bo.length):FP 135 [l.av,i64 b] (.lst 1 ((cF l.bo.length b).map bl)):=by
 have h:=Con.freeze (by rw[XA,gT];omega) (Bo 0 rfl l hl b hb);rw[Yh,XR (by rw[XA,gT];exact XD _)]at h;exact h
theorem Me(l:Li)(hl:l.ok)(b:Int):FP 333 [l.av,i64 b] (bl (mx l b)):=by
 have hld:=hl.ld;refine aj func333 ?_;refine gl ?_;refine aW [1,8,9] [] (fun(i:Nat)=>[(10,some (i64 i))]) (fun _=>[]) (fun i=>i<=l.dv.length/\(l.dv.take i).any (fun d=>decide (d.body=b))=false) (fun i=>l.dv.length-i) 0 ⟨XJ _,rfl⟩ ?_;rintro i ⟨hi,hj⟩ K1 J1;refine gC (fun t11=>?_) (fun t11=>?_)
 ·have hin:=a6 t11;obtain⟨d,hd⟩:=aw hin;refine gi (aE hd) ?_;refine gC (fun t17=>?_) (fun t17=>?_)
  ·have h1:d.body=b:=cH t17;refine af ?_;unfold mx;rw[List.any_eq_true.2 ⟨d,Xx hd,decide_eq_true h1⟩];rfl
  have h1:d.body≠b:=dm t17;refine ga aN ?_;exact aO J1 (i+1) ⟨hin,kG hd hj (decide_eq_false h1)⟩
 have hin:=bc hi t11;subst hin;rw[XP]at hj;refine af ?_;unfold mx;rw[hj];rfl
theorem JJ(l:Li)(hl:l.ok)(hli:aA l=0)(kind body:Int)(oth:List Bool)(ho:oth.length=l.bo.length):FP 245 [l.av,i64 kind,i64 body,.lst 1 (oth.map bl)] (i64 (jointI l kind body oth)):=by
 have hlj:=hl.lj;refine aj func245 ?_;refine gl ?_;refine aW [1,2,3,12,13] [] (fun(i:Nat)=>[(14,some (i64 i))]) (fun _=>[]) (fun i=>i<=l.jo.length/\∀j,j<i->(!lQ kind body oth (l.jo.getD j default))=true) (fun i=>l.jo.length-i) 0 ⟨XJ _,fun j h=>by omega⟩ ?_;rintro i ⟨hi,hj⟩ K1 J1;refine gC (fun t15=>?_) (fun t15=>?_)
 ·have hin:=a6 t15;obtain⟨j,hjt⟩:=aw hin;have hjd:l.jo.getD i default=j:=aq hjt;obtain⟨i1,i2,_⟩:=cO hli hjt;have b1:=cW i1;have b2:=cW i2;obtain⟨va,hva⟩:∃v,oth[j.a.toNat]?=some v:=aw oz;obtain⟨vb,hvb⟩:∃v,oth[j.b.toNat]?=some v:=aw oz;have ea:kn oth j.a=va:=aq hva;have eb:kn oth j.b=vb:=aq hvb;refine gi (aE hjt) ?_;refine oO (fun _=>(f6 (n:=j.b.toNat) oz hvb)) ?_;refine oO (fun _=>(f6 (n:=j.a.toNat) oz hva)) ?_;refine gC (fun t48=>?_) (fun t48=>?_)
  ·have h2 : lQ kind body oth j = true := by rw [<- GB (va := va) (vb := vb) ea eb]; exact t48
   refine af ?_;unfold jointI;rw[gH hin hj (by rw[hjd,h2];rfl)];rfl
  have h2:lQ kind body oth j=false:=by rw[<- GB (va:=va) (vb:=vb) ea eb];exact t48
  refine ga aN ?_;exact aO J1 (i+1) ⟨hin,fun k h9=>by rcases XH k i with g |g;exact hj k g;(have:k=i:=by omega);subst this;rw[hjd,h2];rfl⟩
 have hin:=bc hi t15;subst hin;refine af ?_;unfold jointI;rw[fM hj];rfl
theorem Ot(l:Li)(hl:l.ok)(kw:List Bool)(b:Nat)(hb:b<kw.length):FP 246 [l.av,.lst 1 (kw.map bl),i64 b] (bl (freeB l kw b)):=by
 obtain⟨v,hv⟩:=aw hb;have ev:kn kw (b:Int)=v:=aq (by rw[X3];exact hv);refine aj func246 ?_;refine gi (aE hv) ?_;refine b7 (fun _=>(Me l hl b)) ?_;refine af ?_;unfold freeB;rw[ev];exact congrArg bl (iC _ _)
theorem tv{l:Li}{kw:List Bool}(hl:l.ok)(hli:aA l=0)(kind body:Int)(hk:kw.length=l.bo.length) :
  Con prog 245 [l.av,i64 kind,i64 body,.ms 1000 1 0 kw.length] [(1000,some (.row 1 (kw.map bl)))] (i64 (jointI l kind body kw)) [(1000,some (.row 1 (kw.map bl)))]:=by
 refine Con.borrow (args:=[l.av,i64 kind,i64 body,.lst 1 (kw.map bl)]) 1000 1 (kw.map bl) rfl rfl rfl ?_ rfl (fun k' x h=>by cases h) (JJ l hl hli kind body kw hk);intro j x' hj
 match j,hj with
 |0,hj=>cases hj;exact .inl rfl
 |1,hj=>cases hj;exact .inl rfl
 |2,hj=>cases hj;exact .inl rfl
 |3,hj=>cases hj;exact .inr ⟨0,kw.length,rfl,by simp,by rw[Yh,XR (by simp)];rfl⟩
theorem x3{l:Li}{kw:List Bool}(hl:l.ok)(b:Nat)(hb:b<kw.length) :
  Con prog 246 [l.av,.ms 1000 1 0 kw.length,i64 b] [(1000,some (.row 1 (kw.map bl)))] (bl (freeB l kw b)) [(1000,some (.row 1 (kw.map bl)))]:=by
 refine Con.borrow (args:=[l.av,.lst 1 (kw.map bl),i64 b]) 1000 1 (kw.map bl) rfl rfl rfl ?_ rfl (fun k' x h=>by cases h) (Ot l hl kw b hb);intro j x' hj
 match j,hj with
 |0,hj=>cases hj;exact .inl rfl
 |1,hj=>cases hj;exact .inr ⟨0,kw.length,rfl,by simp,by rw[Yh,XR (by simp)];rfl⟩
 |2,hj=>cases hj;exact .inl rfl
theorem VB(l:Li)(hl:l.ok)(hli:aA l=0)(kw:List Bool)(hk:kw.length=l.bo.length):Con prog 136 [l.av,.ms 1000 1 0 kw.length] [(1000,some (.row 1 (kw.map bl)))] (.tup [((driverG l kw).getD default).av,bl (driverG l kw).isSome]) [(1000,some (.row 1 (kw.map bl)))]:=by
 have hld:=hl.ld;refine gF func136 (fun k z h=>bD h) ?_;refine gl ?_;refine aW [2,4,10,11] [2,4,1000] (fun(i:Nat)=>[(1,some (.ms 1000 1 0 kw.length)),(12,some (i64 i))]) (fun _=>[]) (fun i=>i<=l.dv.length/\∀j,j<i->(!drHit l kw j)=true) (fun i=>l.dv.length-i) 0 ⟨XJ _,fun j h=>by omega⟩ ?_;rintro i ⟨hi,hj⟩ K1 J1;refine gC (fun t13=>?_) (fun t13=>?_)
 ·have hin:=a6 t13;obtain ⟨d,hd⟩:=aw hin;have hdd:l.dv.getD i default = d:=aq hd;have hb:=cW (lc hli hd);obtain ⟨v,hv⟩:∃ v,kw[d.body.toNat]? = some v:=aw oz;have ev:kn kw d.body = v:=aq hv;refine gi (aE hd) ?_;refine gs (lW (.tmp rfl) (.tmp rfl) T219 rfl T4 rfl oz oz rfl) ?_;refine gs (ez (.tmp rfl) rfl (by rw [Nat.zero_add,XE,hv]; rfl) T4 rfl rfl rfl) ?_;refine gC (fun t21=>?_) (fun t21=>?_)
  ·have h2 : drHit l kw i = false := by unfold drHit; rw [hdd, ev, t21]; rfl
   refine ga aN ?_;exact aO J1 (i+1) ⟨hin,fun k h9=>by rcases XH k i with g |g;exact hj k g;(have:k=i:=by omega);subst this;rw[h2];rfl⟩
  have hv0:v=false:=t21;refine gt (mF (tv hl hli 0 d.body hk) (.cons (.tmp rfl) (.cons (.const _) (bB rfl rfl))) rfl rfl rfl) ?_;refine gC (fun t28=>?_) (fun t28=>?_)
  ·have h2 : drHit l kw i = true := by unfold drHit; rw [hdd, ev, hv0, decide_eq_true (Gi t28)]; rfl
   have hg:driverG l kw=some ⟨0,[d.body],[jointI l 0 d.body kw],i⟩:=by unfold driverG;rw[gH hin hj (by rw[h2];rfl),<- hdd];rfl
   refine gR ?_;rw[hg];exact az.keep (bj rfl)
  have h2:drHit l kw i=false:=by unfold drHit;rw[hdd,decide_eq_false (Ji t28),Bool.and_false]
  refine ga aN ?_;exact aO J1 (i+1) ⟨hin,fun k h9=>by rcases XH k i with g |g;exact hj k g;(have:k=i:=by omega);subst this;rw[h2];rfl⟩
 have hin:=bc hi t13;subst hin;have hg:driverG l kw=none:=by unfold driverG;rw[fM hj];rfl
 refine gR ?_;exact az.sub (az.keep (bj rfl)) (by rw[hg];exact Sub.tup (.cons rz (.cons (.refl _) .nil)))
theorem TO(l:Li)(hl:l.ok)(hli:aA l=0)(kw:List Bool)(hk:kw.length=l.bo.length):Con prog 137 [l.av,.ms 1000 1 0 kw.length] [(1000,some (.row 1 (kw.map bl)))] (.tup [((pairG l kw).getD default).av,bl (pairG l kw).isSome]) [(1000,some (.row 1 (kw.map bl)))]:=by
 have h8:=(cK hli).2.2.2.1;refine gF func137 (fun k z h=>bD h) ?_;refine gl ?_;refine aW [2,4,12,13] [2,4,1000] (fun(i:Nat)=>[(1,some (.ms 1000 1 0 kw.length)),(14,some (i64 i))]) (fun _=>[]) (fun i=>i<=l.bo.length/\∀j,j<i->(prAt l kw j).isNone=true) (fun i=>l.bo.length-i) 0 ⟨XJ _,fun j h=>by omega⟩ ?_;rintro i ⟨hi,hj⟩ K1 J1;refine gC (fun t15=>?_) (fun t15=>?_)
 ·have hin:=a6 t15;refine ga aN ?_;refine aW [2,4,6,12,13,14] [2,4,1000] (fun (k:Nat)=>[(1,some (.ms 1000 1 0 kw.length)),(7,some (i64 (i + 1 + k:Nat)))]) (fun _=>[]) (fun k=>i + 1 + k <= l.bo.length /\ ∀ j,j < k -> (!prHit l kw i (i + 1 + j)) = true) (fun k=>l.bo.length - k) 0 ⟨by omega,fun j h=>by omega⟩ ?_;rintro k ⟨hkl,hkj⟩ K2 J2;refine gl ?_;refine gC (fun t23=>?_) (fun t23=>?_)
  ·have hkn:i+1+k<l.bo.length:=a6 t23;refine gt (mF (x3 hl i oz) (aJ rfl rfl rfl) rfl rfl rfl) ?_;refine gu (fq rfl rfl rfl (fun h=>mF (x3 hl (i+1+k) oz) (.cons (.opt rfl (o1 h)) (.cons (.opt rfl (o1 h)) (.cons (.opt rfl (o1 h)) .nil))) rfl rfl rfl)) ?_;refine gC (fun t37=>?_) (fun t37=>?_)
   ·have h2 : prHit l kw i (i + 1 + k) = false := by unfold prHit; rw [show (freeB l kw i && freeB l kw ((i + 1 + k : Nat) : Int)) = false from by rcases oU t37 with g | g; (rw [g]; rfl); (rw [g, Bool.and_false])]; rfl
    refine ga aN ?_;exact aO J2 (k+1) ⟨by omega,fun j h9=>by rcases XH j k with g |g;exact hkj j g;(have:j=k:=by omega);subst this;rw[h2];rfl⟩
   have hff:=od t37;refine gt (mF (tv hl hli 0 i hk) (.cons (.tmp rfl) (.cons (.const _) (bB rfl rfl))) rfl rfl rfl) ?_;refine gt (mF (tv hl hli 0 (i+1+k:Nat) hk) (.cons (.tmp rfl) (.cons (.const _) (bB rfl rfl))) rfl rfl rfl) ?_;refine gc (Mu l oz (i+1+k) hkn) ?_;refine gc (JJ l hl hli 0 i (cF l.bo.length ((i+1+k:Nat):Int)) (gT _ _)) ?_;refine gD ?_;refine gC (fun t61=>?_) (fun t61=>?_)
   ·have h2 : prHit l kw i (i + 1 + k) = true := by unfold prHit; rw [hff.1, hff.2]; exact (w9.symm.trans t61)
    have hat:prAt l kw i=some (i+1+k):=by unfold prAt;rw[gH oz hkj (by rw[h2];rfl),Option.map_some];congr 1;omega
    have hg:pairG l kw=some (prG l kw i (i+1+k)):=by unfold pairG;rw[gH hin hj (by rw[hat];rfl),Option.map_some,hat]
    refine gR ?_;rw[hg];exact az.keep (bj rfl)
   have h2:prHit l kw i (i+1+k)=false:=by unfold prHit;rw[show(decide (0<=jointI l 0 i kw)&&decide (0<=jointI l 0 ((i+1+k:Nat):Int) kw)&&decide (0<=jointI l 0 i (cF l.bo.length ((i+1+k:Nat):Int))))=false from w9.symm.trans t61,Bool.and_false]
   refine ga aN ?_;exact aO J2 (k+1) ⟨by omega,fun j h9=>by rcases XH j k with g |g;exact hkj j g;(have:j=k:=by omega);subst this;rw[h2];rfl⟩
  have hkn:¬i+1+k<l.bo.length:=fun h=>by have h1:=tH t23;omega
  have hat:prAt l kw i=none:=by unfold prAt;rw[show l.bo.length-(i+1)=k by omega,fM hkj];rfl
  refine ga aN ?_;exact aO J1 (i+1) ⟨hin,fun j h9=>by rcases XH j i with g |g;exact hj j g;(have:j=i:=by omega);subst this;rw[hat];rfl⟩
 have hin:=bc hi t15;have hg:pairG l kw=none:=by unfold pairG;rw[<- hin,fM hj];rfl
 refine gR ?_;exact az.sub (az.keep (bj rfl)) (by rw[hg];exact Sub.tup (.cons rz (.cons (.refl _) .nil)))
theorem SQ(l:Li)(hl:l.ok)(hli:aA l=0)(kw:List Bool)(hk:kw.length=l.bo.length):Con prog 138 [l.av,.ms 1000 1 0 kw.length] [(1000,some (.row 1 (kw.map bl)))] (.tup [((singleG l kw).getD default).av,bl (singleG l kw).isSome]) [(1000,some (.row 1 (kw.map bl)))]:=by
 have h8:=(cK hli).2.2.2.1;refine gF func138 (fun k z h=>bD h) ?_;refine gl ?_;refine aW [2,4,11,12] [2,4,1000] (fun(i:Nat)=>[(1,some (.ms 1000 1 0 kw.length)),(13,some (i64 i))]) (fun _=>[]) (fun i=>i<=l.bo.length/\∀j,j<i->(!sgHit l kw j)=true) (fun i=>l.bo.length-i) 0 ⟨XJ _,fun j h=>by omega⟩ ?_;rintro i ⟨hi,hj⟩ K1 J1;refine gC (fun t14=>?_) (fun t14=>?_)
 ·have hin:=a6 t14;refine gt (mF (x3 hl i oz) (aJ rfl rfl rfl) rfl rfl rfl) ?_;refine gC (fun t20=>?_) (fun t20=>?_)
  ·have h2 : sgHit l kw i = false := by unfold sgHit; rw [dg t20]; rfl
   refine ga aN ?_;exact aO J1 (i+1) ⟨hin,fun k h9=>by rcases XH k i with g |g;exact hj k g;(have:k=i:=by omega);subst this;rw[h2];rfl⟩
  have hf:=da t20;refine gt (mF (tv hl hli 0 i hk) (.cons (.tmp rfl) (.cons (.const _) (bB rfl rfl))) rfl rfl rfl) ?_;refine gt (mF (tv hl hli 1 i hk) (.cons (.tmp rfl) (.cons (.const _) (bB rfl rfl))) rfl rfl rfl) ?_;refine gD ?_;refine gC (fun t34=>?_) (fun t34=>?_)
  ·have h2 : sgHit l kw i = false := by unfold sgHit; rw [Iy t34, Bool.and_false]
   refine ga aN ?_;exact aO J1 (i+1) ⟨hin,fun k h9=>by rcases XH k i with g |g;exact hj k g;(have:k=i:=by omega);subst this;rw[h2];rfl⟩
  obtain⟨p0,s0⟩:=EQ t34;have s1:=(mZ (l:=l) (kind:=1) (body:=i) (oth:=kw)).2;have h2:sgHit l kw i=true:=by unfold sgHit;rw[hf,decide_eq_true p0,decide_eq_true s0];rfl
  obtain⟨j,hjt⟩:∃j,l.jo[(jointI l 1 i kw).toNat]?=some j:=aw oz;have hjd:l.jo.getD (jointI l 1 i kw).toNat default=j:=aq hjt;have hg:singleG l kw=some (sgG l kw i):=by unfold singleG;rw[gH hin hj (by rw[h2];rfl),Option.map_some]
  refine gi (f6 (n:=(jointI l 1 i kw).toNat) oz hjt) ?_;refine gC (fun t42=>?_) (fun t42=>?_)
  ·have hji:j.a=i:=cH t42;refine gR ?_;rw[hg];unfold sgG;rw[hjd];simp only[Option.getD_some,Yl hji]
   exact az.keep (bj rfl)
  have hji:j.a≠i:=dm t42;refine gR ?_;rw[hg];unfold sgG;rw[hjd];simp only[Option.getD_some,Yk hji]
  exact az.keep (bj rfl)
 have hin:=bc hi t14;have hg:singleG l kw=none:=by unfold singleG;rw[<- hin,fM hj];rfl
 refine gR ?_;exact az.sub (az.keep (bj rfl)) (by rw[hg];exact Sub.tup (.cons rz (.cons (.refl _) .nil)))
theorem B9{k:List Bool}{bs:List Int}{q:Nat}{x:Int}(h:bs[q]?=some x):bA k (bs.drop q)=bA (k.set x.toNat true) (bs.drop (q+1)):=by
 have hi:=(List.getElem?_eq_some_iff.1 h).1;rw[List.drop_eq_getElem_cons hi,(List.getElem?_eq_some_iff.1 h).2];rfl
theorem UL{l:Li}{n:Nat}{kw:List Bool}{out:List Gr}{g:Gr}(h:nextG l kw=some g):findFrom l (n+1) kw out=findFrom l n (bA kw g.bo) (out++[g]):=by
 show(match nextG l kw with |none=>_ |some g=>_)=_;rw[h]
theorem Ml{l:Li}{n:Nat}{kw:List Bool}{out:List Gr}(h:nextG l kw=none):findFrom l n kw out=(kw,out):=by
 cases n with
 |zero=>rfl
 |succ n=>show(match nextG l kw with |none=>_ |some g=>_)=_;rw[h]
theorem zf{α:Type}{o:Option α}(h:o.isSome=false):o=none:=by cases o <;> simp_all
theorem C7{α:Type}{a b:Option α}(h:a.isSome=true):a=a.or b:=by cases a <;> simp_all
theorem PY{l:Li}{kw:List Bool}(h:(driverG l kw).or (pairG l kw)=none):nextG l kw=singleG l kw:=by
 unfold nextG;rw[<- Option.or_assoc,h];rfl
theorem S4{l:Li}{kw:List Bool}(h:((driverG l kw).or (pairG l kw)).isSome=true):nextG l kw=(driverG l kw).or (pairG l kw):=by
 unfold nextG;rw[<- Option.or_assoc];exact(C7 h).symm
theorem GP(l:Li)(hl:l.ok)(hli:aA l=0):FP 59 [l.av] (.lst 4 ((findG l).map Gr.av)):=by
 have h8:=(cK hli).2.2.2.1;have h0:=(cK hli).2.2.2.2;refine aj func59 ?_;refine gt (aH (Bo 900 rfl l oz 0 oz) (.cons (.tmp rfl) (.cons (.const _) .nil)) aI rfl rfl) ?_;refine gl ?_;refine gW (Wk.virt 901 4 rfl) ?_;refine iQ [1,13] [1] (fun(i:Nat)(kw:List Bool)(out:List Gr)=>[(3,some (.ms 900 1 0 kw.length)),(4,some (.ms 901 4 0 out.length)),(14,some (i64 i))]) (fun _ kw out=>[(900,some (.row 1 (kw.map bl))),(901,some (.row 4 (out.map Gr.av)))]) (fun i kw out=>i<=l.bo.length/\kw.length=l.bo.length/\out.length<=i/\findFrom l (l.bo.length-i) kw out=findFrom l l.bo.length (cF l.bo.length 0) []) (fun i _ _=>l.bo.length-i) 0 (cF l.bo.length 0) ([]) ⟨XJ _,gT _ _,XD _,rfl⟩ ?_ (h1:=(.cons rfl (Sub.of (by rw[gT])) (.k (.k .nil))))
 rintro i kw out ⟨hi,hk,hol,hff⟩ K1 J1;refine gC (fun t15=>?_) (fun t15=>?_) (st2:=(18,0))
 ·have hin:=a6 t15;have hd1:=Con.rekey1 900 rfl rfl rfl (VB l hl hli kw hk);have hp1:=Con.rekey1 900 rfl rfl rfl (TO l hl hli kw hk);have hs1:=Con.rekey1 900 rfl rfl rfl (SQ l hl hli kw hk);refine gt (aH hd1 (bB rfl rfl) aI rfl rfl) ?_;refine Av [1,5,13,14] [1,900,901] (fun(o:Option Gr)=>[(3,some (.ms 900 1 0 kw.length)),(4,some (.ms 901 4 0 out.length)),(6,some (bl o.isSome))]) (fun o=>[(5,some (.box (o.getD default).av.cells))]) (fun o=>o=(driverG l kw).or (pairG l kw)) ?_ ?_
  ·intro K2 J2;refine gC (fun t23=>?_) (fun t23=>?_)
   ·refine gt (aH hp1 (bB rfl rfl) aI rfl rfl) ?_;exact qw J2 (pairG l kw) (by rw[zf (dg t23)];rfl)
   exact qw J2 (driverG l kw) (C7 (da t23))
  rintro o ho;refine Av [1,5,13,14] [1,900,901] (fun(og:Option Gr)=>[(3,some (.ms 900 1 0 kw.length)),(4,some (.ms 901 4 0 out.length)),(6,some (bl og.isSome))]) (fun og=>[(5,some (.box (og.getD default).av.cells))]) (fun og=>og=nextG l kw) ?_ ?_
  ·intro K3 J3;refine gC (fun t31=>?_) (fun t31=>?_)
   ·refine gt (aH hs1 (bB rfl rfl) aI rfl rfl) ?_;exact qw J3 (singleG l kw) (by have:=zf (dg t31);rw[ho]at this;exact(PY this).symm)
   exact qw J3 o (by rw[ho];exact(S4 (by rw[<- ho];exact da t31)).symm)
  rintro og hog;refine gC (fun t39=>?_) (fun t39=>?_) (st1:=(18,0))
  ·have hn : nextG l kw = none := by rw [<- hog]; exact zf (dg t39)
   have hfin:findG l=out:=by unfold findG;rw[<- hff,Ml hn]
   refine gW ((Wk.freeze (k:=901) rfl).trans<|Wk.of (sl:=[(4,some (.lst 4 ((findG l).map Gr.av)))]) (hp:=[]) (.cons rfl (Sub.of (by rw[hfin,bJ (by rw[XA])])) .nil) .nil) ?_;refine af ?_;rfl
  obtain⟨g,hg⟩:∃g,og=some g:=Option.isSome_iff_exists.1 (da t39);have hng:nextG l kw=some g:=by rw[<- hog,hg]
  have hgo:=wK hli hng;subst hg;refine gs (bX (.tmp rfl) rfl (by rw[XA]) (.tmp rfl) T32 rfl T53 rfl rfl (by dsimp only;simp only[XK,XM];omega) rfl rfl) ?_ (12,0);refine gW (Wk.of (sl:=[(1,some (.ptr 1 0)),(3,some (.ms 900 1 0 kw.length)),(4,some (.ms 43 4 0 (out++[g]).length)),(5,some (.ptr 5 0)),(13,some (i64 l.bo.length)),(14,some (i64 i))]) (hp:=[(1,some (.box l.av.cells)),(5,some (.box g.av.cells)),(900,some (.row 1 (kw.map bl))),(43,some (.row 4 ((out++[g]).map Gr.av)))]) (.k (.k (.cons rfl (Sub.of (by rw[XZ];rfl)) (.k (.k (.k .nil)))))) (.k (.k (.k (.cons rfl (BlkSub.of (by rw[XQ];rfl)) .nil))))) ?_ (12,0)
  refine gW (Wk.rk (k:=43) (d:=901) rfl rfl) ?_;refine gl ?_;refine gz [1,13,14,45,46] [1,901] (fun(q:Nat)(kk:List Bool)=>[(3,some (.ms 900 1 0 kk.length)),(4,some (.ms 901 4 0 (out++[g]).length)),(47,some (i64 q))]) (fun _ kk=>[(900,some (.row 1 (kk.map bl)))]) (fun q kk=>q<=g.bo.length/\kk.length=l.bo.length/\bA kk (g.bo.drop q)=bA kw g.bo) (fun q _=>g.bo.length-q) 0 kw ⟨XJ _,hk,rfl⟩ ?_;rintro q kk ⟨hq,hkk,hmk⟩ K4 J4;refine gC (fun t48=>?_) (fun t48=>?_)
  ·have hqn:=a6 t48;obtain⟨x,hx⟩:=aw hqn;have hxb:=hgo.b x (Xx hx);obtain⟨v,hv⟩:∃v,kk[x.toNat]?=some v:=aw oz;refine gi (aE hx) ?_;refine gs (lW (.tmp rfl) (.tmp rfl) T219 rfl T4 rfl oz oz rfl) ?_;refine gs (dT (.tmp rfl) rfl (by rw[Nat.zero_add,XE,hv];rfl) rfl (.const _) rfl rfl T4 rfl rfl) ?_;refine ga (Hz (by have:=hgo.lb;unfold a8;omega)) ?_;exact fU J4 (q+1) (kk.set x.toNat true) ⟨hqn,by rw[Yj];exact hkk,by rw[<- B9 hx];exact hmk⟩ (hw:=Wk.of (.cons rfl (Sub.of (by rw[Yj])) (.k (.k (.k (.k (.k (.k (.k .nil)))))))) (.cons rfl (BlkSub.of (by rw[Yg,Nat.zero_add];rfl)) (.k (.k .nil))))
  have hqn:=bc hq t48;have hmk2:kk=bA kw g.bo:=by rw[hqn,List.drop_length]at hmk;exact hmk
  refine ga aN ?_;exact gS J1 (i+1) kk (out++[g]) ⟨hin,hkk,by rw[XZ];simp only[XK,XM];omega,by rw[hmk2,<- UL hng,<- hff];congr 1;omega⟩
 have hin:=bc hi t15;have hfin:findG l=out:=by unfold findG;rw[<- hff,show l.bo.length-i=0 by omega];rfl
 refine gW ((Wk.freeze (k:=901) rfl).trans<|Wk.of (sl:=[(4,some (.lst 4 ((findG l).map Gr.av)))]) (hp:=[]) (.cons rfl (Sub.of (by rw[hfin,bJ (by rw[XA])])) .nil) .nil) ?_;refine af ?_;rfl
theorem GL{α:Type}{f:List Bool->α->List Bool}{k:List Bool}{l:List α}{i:Nat}{x:α}(h:l[i]?=some x):(l.drop i).foldl f k=(l.drop (i+1)).foldl f (f k x):=by
 have hi:=(List.getElem?_eq_some_iff.1 h).1;rw[List.drop_eq_getElem_cons hi,(List.getElem?_eq_some_iff.1 h).2];rfl
def g9(k:List Bool)(i:Nat):List Int:=((List.range i).filter (fun j=>!k.getD j false)).map (fun j:Nat=>((j:Nat):Int))
theorem HZ{k:List Bool}{i:Nat}(h:k.getD i false=false):g9 k (i+1)=g9 k i++[(i:Int)]:=by
 unfold g9;rw[range_succ,List.filter_append,XQ,List.filter_cons,h];rfl
theorem CZ{k:List Bool}{i:Nat}(h:k.getD i false=true):g9 k (i+1)=g9 k i:=by
 unfold g9;rw[range_succ,List.filter_append,XQ,List.filter_cons,h];simp
theorem uX(k:List Bool)(i:Nat):(g9 k i).length<=i:=by
 unfold g9;rw[XA];exact XW (List.length_filter_le _ _) (by simp)
theorem pi{α:Type}{f:α->List Int}:∀(gs:List α)(k:List Bool),(gs.foldl (fun k g=>bA k (f g)) k).length=k.length
 |[],k=>rfl
 |g::gs,k=>by rw[foldl_cons,pi gs,jG]
theorem W3(l:Li):(eH (bS l)).length<=l.bo.length:=by
 have h:=uX (bS l) (bS l).length;have e:(bS l).length=l.bo.length:=by unfold bS;rw[pi,gT]
 rw[e]at h;unfold eH;rw[e];exact h
theorem PO(l:Li):(eH (d8 l)).length<=l.jo.length:=by
 have h:=uX (d8 l) (d8 l).length;have e:(d8 l).length=l.jo.length:=by unfold d8;rw[pi,X5]
 rw[e]at h;unfold eH;rw[e];exact h
theorem JU(l:Li)(hl:l.ok)(hli:aA l=0):FP 58 [l.av] (.tup [.lst 1 ((eH (bS l)).map i64),.lst 1 ((eH (d8 l)).map i64)]):=by
 have h8:=(cK hli).2.2.2.1;have h0:=(cK hli).2.2.2.2;have hj16:l.jo.length<=16:=by have:=(cK hli).2.1;unfold d6 at this;split at this;cases this;omega
 obtain⟨hgo,hgl⟩:=pH hli;refine aj func58 ?_;refine gt (aH (Bo 900 rfl l oz 0 oz) (.cons (.tmp rfl) (.cons (.const _) .nil)) aI rfl rfl) ?_;refine gl ?_;refine gs (gV (.tmp rfl) T219 rfl T4 rfl rfl oz (by dsimp only;omega) rfl) ?_;refine gD ?_ (2,0);refine gW (Wk.of (sl:=[(1,some (.ptr 1 0)),(2,some (nS)),(3,some (nS)),(4,some (.ms 900 1 0 (cF l.bo.length 0).length)),(5,some (.ms 21 1 0 (List.replicate l.jo.length false).length))]) (hp:=[(1,some (.box l.av.cells)),(900,some (.row 1 ((cF l.bo.length 0).map bl))),(21,some (.row 1 ((List.replicate l.jo.length false).map bl)))]) (.k (.k (.k (.cons rfl (Sub.of (by rw[gT])) (.cons rfl (Sub.of (by rw[X5,X3])) .nil))))) (.k (.k (.cons rfl (BlkSub.of (by rw[Yc,X3];rfl)) .nil)))) ?_ (2,0)
 refine gW (Wk.rk (k:=21) (d:=901) rfl rfl) ?_;refine gc (GP l hl hli) ?_;refine gl ?_;refine iQ [1,2,3,23,24] [1] (fun(i:Nat)(k1 k2:List Bool)=>[(4,some (.ms 900 1 0 k1.length)),(5,some (.ms 901 1 0 k2.length)),(25,some (i64 i))]) (fun _ k1 k2=>[(900,some (.row 1 (k1.map bl))),(901,some (.row 1 (k2.map bl)))]) (fun i k1 k2=>i<=(findG l).length/\k1.length=l.bo.length/\k2.length=l.jo.length/\((findG l).drop i).foldl (fun k g=>bA k g.bo) k1=bS l/\((findG l).drop i).foldl (fun k g=>bA k g.jo) k2=d8 l) (fun i _ _=>(findG l).length-i) 0 (cF l.bo.length 0) (List.replicate l.jo.length false) ⟨XJ _,gT _ _,X5,rfl,rfl⟩ ?_
 rintro i k1 k2 ⟨hi,hk1,hk2,hf1,hf2⟩ K1 J1;refine gC (fun t26=>?_) (fun t26=>?_)
 ·have hin:=a6 t26;obtain⟨g,hg⟩:=aw hin;have hgk:=hgo g (Xx hg);have hlb:=hgk.lb;have hlj:=hgk.lj;refine gi (aE hg) ?_;refine gl ?_;refine gz [1,2,3,7,23,24,25,30,31] [1,7,901] (fun(q:Nat)(kk:List Bool)=>[(4,some (.ms 900 1 0 kk.length)),(5,some (.ms 901 1 0 k2.length)),(32,some (i64 q))]) (fun _ kk=>[(900,some (.row 1 (kk.map bl)))]) (fun q kk=>q<=g.bo.length/\kk.length=l.bo.length/\bA kk (g.bo.drop q)=bA k1 g.bo) (fun q _=>g.bo.length-q) 0 k1 ⟨XJ _,hk1,rfl⟩ ?_;rintro q kk ⟨hq,hkk,hmk⟩ K2 J2;refine gC (fun t33=>?_) (fun t33=>?_)
  ·have hqn:=a6 t33;obtain⟨x,hx⟩:=aw hqn;have hxb:=hgk.b x (Xx hx);obtain⟨v,hv⟩:∃v,kk[x.toNat]?=some v:=aw oz;refine gi (aE hx) ?_;refine gs (lW (.tmp rfl) (.tmp rfl) T219 rfl T4 rfl oz oz rfl) ?_;refine gs (dT (.tmp rfl) rfl (by rw[Nat.zero_add,XE,hv];rfl) rfl (.const _) rfl rfl T4 rfl rfl) ?_;refine ga aN ?_;exact fU J2 (q+1) (kk.set x.toNat true) ⟨hqn,by rw[Yj];exact hkk,by rw[<- B9 hx];exact hmk⟩ (hw:=Wk.of (.cons rfl (Sub.of (by rw[Yj])) (.k (.k (.k (.k (.k (.k (.k (.k (.k (.k (.k .nil)))))))))))) (.cons rfl (BlkSub.of (by rw[Yg,Nat.zero_add];rfl)) (.k (.k (.k .nil)))))
  have hqn:=bc hq t33;have hmk2:kk=bA k1 g.bo:=by rw[hqn,List.drop_length]at hmk;exact hmk
  refine gl ?_;refine gz [1,2,3,23,24,25,41,42] [1,900] (fun(p:Nat)(jj:List Bool)=>[(4,some (.ms 900 1 0 kk.length)),(5,some (.ms 901 1 0 jj.length)),(43,some (i64 p))]) (fun _ jj=>[(901,some (.row 1 (jj.map bl)))]) (fun p jj=>p<=g.jo.length/\jj.length=l.jo.length/\bA jj (g.jo.drop p)=bA k2 g.jo) (fun p _=>g.jo.length-p) 0 k2 ⟨XJ _,hk2,rfl⟩ ?_;rintro p jj ⟨hp,hjj,hmj⟩ K3 J3;refine gC (fun t44=>?_) (fun t44=>?_)
  ·have hpn:=a6 t44;obtain⟨x,hx⟩:=aw hpn;have hxb:=hgk.j x (Xx hx);obtain⟨v,hv⟩:∃v,jj[x.toNat]?=some v:=aw oz;refine gi (aE hx) ?_;refine gs (lW (.tmp rfl) (.tmp rfl) T219 rfl T4 rfl oz oz rfl) ?_;refine gs (dT (.tmp rfl) rfl (by rw[Nat.zero_add,XE,hv];rfl) rfl (.const _) rfl rfl T4 rfl rfl) ?_;refine ga aN ?_;exact fU J3 (p+1) (jj.set x.toNat true) ⟨hpn,by rw[Yj];exact hjj,by rw[<- B9 hx];exact hmj⟩ (hw:=Wk.of (.k (.cons rfl (Sub.of (by rw[Yj])) (.k (.k (.k (.k (.k (.k (.k (.k (.k .nil))))))))))) (.cons rfl (BlkSub.of (by rw[Yg,Nat.zero_add];rfl)) (.k (.k .nil))))
  have hpn:=bc hp t44;have hmj2:jj=bA k2 g.jo:=by rw[hpn,List.drop_length]at hmj;exact hmj
  refine ga aN ?_;exact gS J1 (i+1) kk jj ⟨hin,hkk,hjj,by rw[hmk2,<- hf1,GL hg],by rw[hmj2,<- hf2,GL hg]⟩
 have hin:=bc hi t26;have e1:k1=bS l:=by rw[hin,List.drop_length]at hf1;exact hf1
 have e2:k2=d8 l:=by rw[hin,List.drop_length]at hf2;exact hf2
 refine gW (Wk.virt 902 1 rfl) ?_;refine aW [3,53] [900,901] (fun(i:Nat)=>[(2,some (.ms 902 1 0 (g9 k1 i).length)),(5,some (.ms 901 1 0 k2.length)),(52,some (.ms 900 1 0 k1.length)),(54,some (i64 i))]) (fun i=>[(902,some (.row 1 ((g9 k1 i).map i64)))]) (fun i=>i<=k1.length) (fun i=>k1.length-i) 0 (XJ _) ?_;rintro i ha K4 J4;refine gC (fun t55=>?_) (fun t55=>?_) (st2:=(22,0))
 ·have hin6:=a6 t55;obtain ⟨v,hv⟩:=aw hin6;have hvd:k1.getD i false = v:=aq hv;have hul:=uX k1 i;refine gs (lW (.tmp rfl) (.tmp rfl) T219 rfl T4 rfl oz oz rfl) ?_;refine gs (ez (.tmp rfl) rfl (by rw [Nat.zero_add,X3,XE,hv]; rfl) T4 rfl rfl rfl) ?_;refine gC (fun t60=>?_) (fun t60=>?_)
  ·have hu := HZ (k := k1) (i := i) (by rw [hvd]; exact dg t60);refine gs (bX (.tmp rfl) rfl (by rw [XA]) (.tmp rfl) T39 rfl T3 rfl rfl (by dsimp only; simp only [XK,XM]; omega) rfl rfl) ?_ (21,0);refine gW (Wk.of (sl:=[(2,some (.ms 64 1 0 (g9 k1 (i + 1)).length)),(3,some (nS)),(5,some (.ms 901 1 0 k2.length)),(52,some (.ms 900 1 0 k1.length)),(53,some (i64 k1.length)),(54,some (i64 i))]) (hp:=[(900,some (.row 1 (k1.map bl))),(901,some (.row 1 (k2.map bl))),(64,some (.row 1 ((g9 k1 (i + 1)).map i64)))]) (.cons rfl (Sub.of (by rw [hu,XZ]; rfl)) (.k (.k (.k (.k (.k .nil)))))) (.k (.k (.cons rfl (BlkSub.of (by rw [hu,XQ]; rfl)) .nil)))) ?_ (21,0)
   refine gW (Wk.rk (k:=64) (d:=902) rfl rfl) ?_;refine ga aN ?_;exact aO J4 (i+1) hin6 (hw:=Wk.of (.cons rfl (Sub.of (by first |rw[hu];done |rfl)) (.k (.k (.k (.k (.k .nil)))))) (.cons rfl (BlkSub.of (by first |rw[hu];done |rfl)) (.k (.k .nil))))
  have hu:=CZ (k:=k1) (i:=i) (by rw[hvd];exact da t60);refine ga aN ?_;exact aO J4 (i+1) hin6 (hw:=Wk.of (.cons rfl (Sub.of (by first |rw[hu];done |rfl)) (.k (.k (.k (.k (.k .nil)))))) (.cons rfl (BlkSub.of (by first |rw[hu];done |rfl)) (.k (.k .nil))))
 have hin6:=bc ha t55;refine gW ((Wk.freeze (k:=902) rfl).trans<|Wk.of (sl:=[(2,some (.lst 1 ((eH (bS l)).map i64))),(3,some (nS)),(5,some (.ms 901 1 0 k2.length))]) (hp:=[(901,some (.row 1 (k2.map bl)))]) (.cons rfl (Sub.of (by rw[bJ (by rw[XA]),hin6,e1];rfl)) (.k (.k .nil))) (.k .nil)) ?_;refine gW (Wk.virt 902 1 rfl) ?_;refine aW [2,67] [901] (fun(i:Nat)=>[(3,some (.ms 902 1 0 (g9 k2 i).length)),(66,some (.ms 901 1 0 k2.length)),(68,some (i64 i))]) (fun i=>[(902,some (.row 1 ((g9 k2 i).map i64)))]) (fun i=>i<=k2.length) (fun i=>k2.length-i) 0 (XJ _) ?_;rintro i hb K5 J5;refine gC (fun t69=>?_) (fun t69=>?_) (st2:=(28,0))
 ·have hin8:=a6 t69;obtain ⟨v,hv⟩:=aw hin8;have hvd:k2.getD i false = v:=aq hv;have hul:=uX k2 i;refine gs (lW (.tmp rfl) (.tmp rfl) T219 rfl T4 rfl oz oz rfl) ?_;refine gs (ez (.tmp rfl) rfl (by rw [Nat.zero_add,X3,XE,hv]; rfl) T4 rfl rfl rfl) ?_;refine gC (fun t74=>?_) (fun t74=>?_)
  ·have hu := HZ (k := k2) (i := i) (by rw [hvd]; exact dg t74);refine gs (bX (.tmp rfl) rfl (by rw [XA]) (.tmp rfl) T39 rfl T3 rfl rfl (by dsimp only; simp only [XK,XM]; omega) rfl rfl) ?_ (27,0);refine gW (Wk.of (sl:=[(2,some (.lst 1 ((eH (bS l)).map i64))),(3,some (.ms 78 1 0 (g9 k2 (i + 1)).length)),(66,some (.ms 901 1 0 k2.length)),(67,some (i64 k2.length)),(68,some (i64 i))]) (hp:=[(901,some (.row 1 (k2.map bl))),(78,some (.row 1 ((g9 k2 (i + 1)).map i64)))]) (.k (.cons rfl (Sub.of (by rw [hu,XZ]; rfl)) (.k (.k (.k .nil))))) (.k (.cons rfl (BlkSub.of (by rw [hu,XQ]; rfl)) .nil))) ?_ (27,0)
   refine gW (Wk.rk (k:=78) (d:=902) rfl rfl) ?_;refine ga aN ?_;exact aO J5 (i+1) hin8 (hw:=Wk.of (.cons rfl (Sub.of (by first |rw[hu];done |rfl)) (.k (.k (.k (.k .nil))))) (.cons rfl (BlkSub.of (by first |rw[hu];done |rfl)) (.k .nil)))
  have hu:=CZ (k:=k2) (i:=i) (by rw[hvd];exact da t74);refine ga aN ?_;exact aO J5 (i+1) hin8 (hw:=Wk.of (.cons rfl (Sub.of (by first |rw[hu];done |rfl)) (.k (.k (.k (.k .nil))))) (.cons rfl (BlkSub.of (by first |rw[hu];done |rfl)) (.k .nil)))
 have hin8:=bc hb t69;refine gW ((Wk.freeze (k:=902) rfl).trans<|Wk.of (sl:=[(2,some (.lst 1 ((eH (bS l)).map i64))),(3,some (.lst 1 ((eH (d8 l)).map i64)))]) (hp:=[]) (.k (.cons rfl (Sub.of (by rw[bJ (by rw[XA]),hin8,e2];rfl)) .nil)) .nil) ?_;refine bp ?_;rfl
theorem Ru(l:Li)(hl:l.ok)(hli:aA l=0):FP 16 [l.av] (.tup [.lst 4 ((splitG l).map Gr.av),i64 (splitE l)]):=by
 have h8:=(cK hli).2.2.2.1;have hj16:l.jo.length<=16:=by have:=(cK hli).2.1;unfold d6 at this;split at this;cases this;omega
 have u1:=W3 l;have u2:=PO l;refine aj func16 ?_;refine gc (JU l hl hli) ?_;refine gl ?_;refine gl ?_;refine ga (du oz) ?_;refine gC (fun t16=>?_) (fun t16=>?_)
 ·have h1:0 < (eH (bS l)).length + (eH (d8 l)).length:=jI t16;have hE:splitE l = 7:=by unfold splitE; rw [Yk oz]
  refine gR ?_;exact dF (by unfold splitG;rw[Yk (by rw[hE];decide),hE];exact Sub.tup (.cons (.nil _ _ _) (.cons (.refl _) .nil)))
 have h1:(eH (bS l)).length+(eH (d8 l)).length<=0:=gX t16;have hE:splitE l=0:=by unfold splitE;rw[Yl oz]
 refine gc (GP l hl hli) ?_;refine bp ?_;unfold splitG;rw[Yl hE,hE];rfl
variable{P:Program}{N:Nat}{R:Array Oper}{s:AS}{pos:String}{after:Array Edge}
theorem By{d:Nat}{x:Operand}{n:Nat}{z:Value}{T E t:TypeId}{ti te:TI}(hx:Ev s x (.v (.int .i64 n)))
    (hT:aC P T=some ti) (hk:ti.k=.slice E) (hE:aC P E=some te) (hz:te.zero=[z]) (hz1:z.oneCell'=true) (hs:Nat.beq te.size 1=true) (hbb:Nat.blt 0 te.bytes=true)
    (hb:(n:Int)*te.bytes<=281474976710656) (hN:Nat.blt d N=true) :
    Step P N R s ⟨some d,.makeSlice T x x,t,pos,after,none⟩
      ⟨some (.ms d 1 0 n),[(d,some (.vec (List.replicate n z)))],au x,[]⟩ :=
  sN rfl rfl hN (by simp) fun s' hag hfr C m a w hr => by
    have hxv:=mL hr (hx.agree hag (fun _ h=>h));have hs:=XG hs;rw[Nat.blt_eq]at hbb;obtain⟨d2,h3,h4,-,-⟩:=d9 hT w;obtain rfl:=iG (h4.trans hk);obtain⟨zv,h5,h6⟩:=tt hE w;obtain⟨ie,h7,h8,-⟩:=EW hE w;have h6':zv.cells.toList=[z]:=h6.trans hz;have hzc:zv.cells=#[z]:=by rw[<- Array.toArray_toList (xs:=zv.cells),h6']
    have hnb:(n:Int)<=281474976710656:=by
      have:(n:Int)*1<=n*te.bytes:=Int.mul_le_mul_of_nonneg_left oz oz;omega
    have hw1:IntKind.i64.wrap (n:Int)=n:=IntWalk.i64_in n oz;obtain⟨zero,hzero⟩:∃zero:Array Value,zero=(if n*te.size=0 then #[]else zv.cells):=⟨_,rfl⟩
    refine⟨.slice (some ⟨w.heap.size,0,none⟩) n n,(Array.range (n*te.size)).map (zero[· % zero.size]!),E,w.drawn,?_,?_,?_,?_⟩
    · have hmk:(Instr.makeSlice T (.int .i64 n) (.int .i64 n)).run P w =
          .ok (.slice (some ⟨w.heap.size,0,none⟩) n n) { w with heap:=w.heap.push (.cells ((Array.range (n*te.size)).map (zero[· % zero.size]!)) E) }:=by
        have hc:¬(((n:Int)<0\/281474976710656<(ie.bytes:Int)*n)\/(n:Int)<0):=by
          rw[h8,Int.mul_comm];omega
        simp only[Instr.makeSlice,Sem.run_bind,h3,Result.andThen_ok,asInt,asIntOf,Sem.run_pure,h7,hw1];rw[Yk (by simpa using hc)];simp only[Sem.run_bind,run_askRoom,Result.andThen_ok,f8 hE,X3]
        by_cases h0:n*te.size=0
        · rw[Yl h0]at hzero ⊢
          subst hzero;simp only[Sem.run_bind,Sem.run_pure,Result.andThen_ok,newRow,run_newObj]
        · rw[Yk h0]at hzero ⊢
          subst hzero;simp only[Sem.run_bind,Sem.run_pure,Result.andThen_ok,h5,newRow,run_newObj]
      simp only[execOp,hxv,Sem.run_bind,hmk,Result.andThen_ok,Sem.run_pure]
    · exact fun h=>h
    · intro g S m' w' hg hS hm hw
      refine .vec hw ?_ (fun v hv=>by rw[List.eq_of_mem_replicate hv];exact hz1);apply List.ext_getElem?;intro j;rw[Array.getElem?_toList,X1]
      by_cases hj:j<n
      · have hpos : ¬ n * te.size = 0 := by rw [hs]; omega
        rw[Yk hpos,hzc]at hzero;subst hzero;rw[Yl hj];simp only[Array.getElem?_map,Array.getElem?_range,show j<n*te.size by rw[hs];omega,if_true,Option.map_some,Option.some.injEq];simp[Nat.mod_one]
      · rw[Yk hj,Array.getElem?_eq_none (by simp[hs];omega)]
    · intro g S m' hm hS
      have:=Rep.ms (g:=g) (S:=S) (m:=m') (k:=d) (sz:=1) (off:=0) (len:=n) (cap:=n) hm (XD _) (by simpa[hs]using hS);simpa using this
theorem wH{x y:Operand}{k i:Nat}{vs:List Value}{v:Value}{T t:TypeId}{ti:TI}
  (hx:Ev s x (.eptr k 1 i 0)) (hk:s.blk k=some (.vec vs)) (hi:i<vs.length) (hy:Ev s y (.v v)) (hv:v.oneCell'=true) (hT:aC P T=some ti) (hsz:Nat.beq ti.size 1=true) :
  Step P N R s ⟨none,.store T x y,t,pos,after,none⟩ ⟨none,[(k,some (.vec (vs.set i v)))],au x++au y,[k]⟩ :=
 BZ rfl rfl (by simp) hk fun s' hag C m a w hr => by
  have hsz:=XG hsz;obtain⟨b,hm,hxv⟩:=v5 hr (hx.agree hag (fun _ h=>List.mem_append.2 (.inl h)));have hyv:=mL hr (hy.agree hag (fun _ h=>List.mem_append.2 (.inr h)));have hb:=hr.heap.blk k _ ((hag.2 k (by simp)).trans hk);rw[hm]at hb;cases hb with
  | @vec _ _ c t2 hw hc h1 =>
   have hcs:c.size=vs.length:=by rw[<- hc];simp
   have hvc:v.cells=#[v]:=by cases v <;> simp_all [Value.cells,Value.oneCell']
   refine⟨b,c,(over c.toList i v.cells.toList).toArray,t2,hm,hw,?_,?_,?_⟩
   ·simp[over,hvc];omega
   ·have hrun := x5 (P := P) (off := i) (v := v) hT hw (by rw[hvc,hsz];rfl) oz (by rw[hvc];simpa using hv);simp[execOp,Instr.storeAt,hxv,Instr.sureAddr,hyv,hrun]
   ·intro g S w' hg hS hw';refine .vec hw' ?_ (fun u hu=>?_)
    ·rw[hc,hvc];unfold over;rw[List.set_eq_take_append_cons_drop,Yl hi];simp
    ·rcases List.mem_or_eq_of_mem_set hu with h9 |h9
     ·exact h1 u h9
     ·rw[h9];exact hv
inductive Lent(H:Hp)(hid:List Nat):AV->AV->Prop
  |same {x:AV} (h:x.nm=[]):Lent H hid x x
  |ms {k off len:Nat} {vs:List Value} (hk:lk H k=some (.vec vs)) (hh:k∉hid) (hl:off+len<=vs.length) (hm:vs.length<=a8):Lent H hid (.ms k 1 off len) (.lst 1 (((vs.drop off).take len).map .v))
theorem D9{g:Nat->Array Value->Prop}{S:Nat->Nat->Prop}{m:Nat->Option Nat}{u y:Value}(h:Rep g S m u (.v y)):u=y:=by cases h;rfl
theorem uF{m:Nat->Option Nat}{b:Nat}:¬a9 [] m b:=by rintro⟨k,x,h,_⟩;cases h
def pV(ext:Nat->Prop)(H:Hp)(hid:List Nat)(m:Nat->Option Nat)(b:Nat):Prop:=ext b\/∃k z,k∈hid/\lk H k=some z/\m k=some b
theorem L6{ext:Nat->Prop}{H:Hp}{hid:List Nat}{m m2:Nat->Option Nat}{w:World}{b:Nat}{cs:Array Value}(h:Im ext H m w b cs):Im (pV ext H hid m) [] m2 w b cs :=
 ⟨fun h'=>h'.elim h.1 (fun⟨k,z,_,hz,hb⟩=>h.2.1 ⟨k,z,hz,hb⟩),uF,h.2.2⟩
theorem G2{ext:Nat->Prop}{H:Hp}{hid:List Nat}{m:Nat->Option Nat}{w:World}(hh:HeapRel ext H m w){k b:Nat}{z:Blk}(hk:lk H k=some z)(hb:m k=some b)(hn:k∉hid):¬pV ext H hid m b:=by
 rintro(h |⟨k',z',h1,h2,h3⟩)
 ·exact(hh.sep k z b hk hb).1 h
 ·have:=hh.inj k k' z z' b hk h2 hb h3;subst this;exact hn h1
theorem Lent.rep{ext:Nat->Prop}{H:Hp}{hid:List Nat}{m:Nat->Option Nat}{w:World}(hh:HeapRel ext H m w){x x':AV}(h:Lent H hid x x') :
  ∀{v:Value},Rep (Im ext H m w) (Sz w) m v x->∀m2:Nat->Option Nat,Rep (Im (pV ext H hid m) [] m w) (Sz w) m2 v x':=by
 cases h with
 |same hn=>intro v hv m2;exact(iN hn hv).mono (fun _ _ h=>L6 h) (fun _ _ h=>h) (fun _ _ _ h=>h)
 | @ms k off len vs hk hnh hl hm =>
  intro v hr m2;have hb:=hh.blk k _ hk;cases hr with
  |ms0 a=>simp only[List.take_zero];exact .lst0 _ _ _
  | @ms _ _ _ _ _ cap b hmk hc hS =>
   rw[hmk]at hb;cases hb with
   | @vec _ _ c t hw hcv h1 =>
    have hcs:c.size=vs.length:=by rw[<- hcv];simp
    have hlen:(((vs.drop off).take len).map AV.v).length=len:=by rw[XA,XO,List.length_drop];omega
    have he':∀(i:Nat)(e:AV),(((vs.drop off).take len).map AV.v)[i]?=some e->∃u,e=.v u/\c[off+i]?=some u/\u∈vs:=by
     intro i e he;rw[XE,XB]at he;obtain⟨u,he,rfl⟩:=he;rw[X0]at he;split at he
     ·rw[Ya]at he;exact⟨u,rfl,by rw[<- Array.getElem?_toList,hcv];exact he,Xx he⟩
     ·cases he
    have:=Rep.lst (g:=Im (pV ext H hid m) [] m w) (S:=Sz w) (m:=m2) (b:=b) (off:=off) (cap:=cap) (sz:=1) (es:=((vs.drop off).take len).map AV.v) (cs:=c) (fun i j=>c.getD (off+i) undef)
     ⟨G2 hh hk hmk hnh,uF,t,(0,0),hw⟩ oz oz ?_ ?_ ?_ ?_
    ·rw[hlen]at this;simpa using this
    ·intro i e he;obtain⟨u,rfl,_⟩:=he' i e he;rfl
    ·intro i j e x he hx;obtain⟨u,rfl,_,hm⟩:=he' i e he;cases j with
     |zero=>cases hx;exact h1 u hm
     |succ j=>cases hx
    ·intro i j e x he hx;obtain⟨u,rfl,hu,_⟩:=he' i e he;cases j with
     |zero=>rw[Nat.mul_one,Nat.add_zero,XI,hu];rfl
     |succ j=>cases hx
    ·intro i j e x he hx;obtain⟨u,rfl,hu,_⟩:=he' i e he;cases j with
     |zero=>cases hx;rw[XI,hu];exact .v _
     |succ j=>cases hx
def DY:AV->Bool
  | .v (.int _ _)=>true
  |_=>false
def Cp:AV->Bool
  | .v (.int _ _)=>false
  | .v _=>true
  | .lst _ _=>true
  | .ms _ _ _ _=>true
  |_=>false
mutual
def AV.li:AV->Bool
  | .v _=>true
  | .agg cs=>AV.lis cs
  | .tup cs=>AV.lis cs
  | .lst sz es=>Nat.beq sz 1&&es.all DY
  |_=>false
def AV.lis:List AV->Bool
  |[]=>true
  |x::l=>x.li&&AV.lis l
end
theorem AV.lis_mem:∀{l:List AV}{c:AV},AV.lis l=true->c∈l->c.li=true
 |x::l,c,h,hc=>by
  simp only[AV.lis,XF]at h;rcases List.mem_cons.1 hc with rfl |hc
  ·exact h.1
  ·exact AV.lis_mem h.2 hc
theorem Ss{g:Nat->Array Value->Prop}{S:Nat->Nat->Prop}{m:Nat->Option Nat}{u:Value}{x:AV}(hx:Cp x=true)(h:Rep g S m u x)(kk:IntKind)(z:Int):u≠.int kk z:=by
 rintro rfl;cases h <;> cases hx
theorem Lk{g g':Nat->Array Value->Prop}{S S':Nat->Nat->Prop}{m m':Nat->Option Nat}{v:Value}{x:AV}(hx:x.li=true)
  (hg:∀b cs (o:Nat)(kk:IntKind)(z:Int),cs[o]?=some (.int kk z)->g b cs->g' b cs) (h:Rep g S m v x):Rep g' S' m' v x:=by
 induction h with
 |v=>exact .v _
 |agg hn h1 hr ih=>exact .agg hn h1 (fun j u c hu hc=>ih j u c hu hc (AV.lis_mem hx (Xx hc)))
 |tup hn hr ih=>exact .tup hn (fun j u c hu hc=>ih j u c hu hc (AV.lis_mem hx (Xx hc)))
 |lst0 a cap sz=>exact .lst0 _ _ _
 | @lst _ b off cap sz es cs u hb hc hl hs h1 hu hr _ =>
  simp only[AV.li,XF]at hx;have hsz:=XG hx.1;subst hsz
  match es,hx,hc,hl,hs,h1,hu,hr with
  |[],_,_,_,_,_,_,_=>exact .lst0 _ _ _
  |e::es,hx,hc,hl,hs,h1,hu,hr =>
   have hcell:∀(i j:Nat)(e' c:AV),(e::es)[i]?=some e'->e'.cells[j]?=some c->∃kk z,c=.v (.int kk z):=by
    intro i j e' c he hc';have h9:=List.all_eq_true.1 hx.2 e' (Xx he);cases e' with
    |v y=>cases y with
     |int kk z =>
      cases j with
      |zero=>cases hc';exact⟨_,_,rfl⟩
      |succ j=>cases hc'
     |_=>cases h9
    |_=>cases h9
   have he0:∃kk z,e=.v (.int kk z):=by
    have h9:=List.all_eq_true.1 hx.2 e (by simp);cases e with
    |v y=>cases y with
     |int kk z=>exact⟨_,_,rfl⟩
     |_=>cases h9
    |_=>cases h9
   obtain⟨kk,z,rfl⟩:=he0;have h8:=hu 0 0 _ _ rfl rfl;have h7:=hr 0 0 _ _ rfl rfl;have h6:u 0 0=.int kk z:=D9 h7;rw[h6]at h8;refine .lst u (hg b cs _ kk z h8 hb) hc hl hs h1 hu (fun i j e' c he hc'=>?_);obtain⟨k2,z2,rfl⟩:=hcell i j e' c he hc';rw[D9 (hr i j _ _ he hc')];exact .v _
 |_=>cases hx
theorem Con.lend{f:FuncId}{k:Nat}{cs:List AV}{cs':Value->List AV}{H:Hp}{r:AV}(hid:List Nat)(j0:Nat)(hk:lk H k=some (.box cs))(hkh:k∉hid)
  (hc:∀v:Value,v.oneCell'=true->(cs' v).length=cs.length/\(∀(j:Nat)(x:AV),(cs' v)[j]?=some x->x.one=true) /\
   ∀(j:Nat)(x x':AV),cs[j]?=some x->(cs' v)[j]?=some x'->(j=j0/\x'=.v v)\/Lent H hid x x')
  (hj:j0<cs.length)
  (hH:∀k z,lk H k=some z->k∈hid\/(∃cs,z=.box cs/\cs.all Cp=true)\/∃vs,z=.vec vs/\∀v∈vs,∀kk z,v≠.int kk z) (hr:r.li=true) (h:∀v:Value,gO P f [.iptr (cs' v)] r):Con P f [.ptr k 0] H r H:=by
 refine⟨(h undef).ok,?_⟩;intro ext m w vs hext hheap hvs hrep;have hsz:0<vs.size:=by rw[hvs];exact Nat.one_pos
 have hr0:=hrep 0 vs[0] _ (Array.getElem?_eq_getElem hsz) rfl;have hb:=hheap.blk k _ hk;generalize hv0:vs[0]=v0 at hr0;cases hr0 with
 | @ptr _ _ _ b hmk =>
  rw[hmk]at hb;cases hb with
  | @box _ _ c t hw hn h1 hrr =>
   have hj0:j0<c.size:=by omega
   have hx0:=XC (l:=cs) (i:=j0) oz;have hone:(c[j0]).oneCell'=true:=(hrr j0 _ _ (Array.getElem?_eq_getElem hj0) hx0).one (h1 j0 _ hx0);obtain⟨g1,g2,g3⟩:=hc c[j0] hone
   have hext':∀b,pV ext H hid m b->b<w.heap.size:=by
    rintro b (h9 |⟨k',z',_,h2,h3⟩)
    ·exact hext b h9
    ·exact(hheap.sep k' z' b h2 h3).2
   have hcall := (h c[j0]).ret (pV ext H hid m) m w vs hext' ⟨fun k z hz => by (cases hz), fun k k' x x' b hx => by (cases hx), fun k x b hx => by (cases hx)⟩ (by rw [hvs]; rfl) (by
    intro j v x hv hx
    match j,hx with
    |0,hx =>
     cases hx;rw[Array.getElem?_eq_getElem hsz,hv0]at hv;cases hv;refine .iptr (cs:=c) (fun j=>c.getD j undef) ⟨G2 hheap hk hmk hkh,uF,t,(0,0),hw⟩ g2 ?_ ?_
     ·intro j x hx;have hlt:j < c.size:=by rw [hn,<- g1]; exact (List.getElem?_eq_some_iff.1 hx).1
      rw[Nat.zero_add,XI,Array.getElem?_eq_getElem hlt];rfl
     ·intro j x hx;have hlt:j < c.size:=by rw [hn,<- g1]; exact (List.getElem?_eq_some_iff.1 hx).1
      obtain⟨y,hy⟩:=it g1 hx;have hcv:c[j]?=some (c.getD j undef):=by rw[XI,Array.getElem?_eq_getElem hlt];rfl
      rcases g3 j y x hy hx with⟨rfl,rfl⟩ |hl
      ·have : c.getD j undef = c[j] := by rw [Array.getElem?_eq_getElem hlt] at hcv; exact (Option.some.inj hcv).symm
       rw[this];exact .v _
      ·exact hl.rep hheap (hrr j _ y hcv hy) dl)
   refine Calls.mono hcall ?_;rintro e w' ⟨v,m',rfl,hf,hh,hnew,hkeep,hres⟩;have hkeepB:∀b,b<w.heap.size->w'.heap[b]?=w.heap[b]? := fun b hb=>hf.keep b hb uF
   have hframe:Frame (a9 H m) w w':=⟨hf.os,hf.tape,hf.output,hf.size,hf.sz,fun b hb _=>hkeepB b hb⟩
   have him:=eU (ext:=ext) hframe (hp':=H) (m':=m) (fun k x b hk hb=>.inl ⟨k,x,hk,hb⟩);refine⟨v,m,rfl,hframe,⟨?_,hheap.inj,?_⟩,fun k x b hk hb=>.inl ⟨k,x,hk,hb⟩,fun _ _ _ _ _=>rfl,?_⟩
   ·intro k z hz;exact BlkRep.mono (w:=w) him hf.sz (fun _ _ _ h=>h) rfl (fun b hb=>hkeepB b (hheap.sep k z b hz hb).2) (hheap.blk k z hz)
   ·intro k z b hz hb;have:=hheap.sep k z b hz hb;exact⟨this.1,XS this.2 hf.size⟩
   ·refine Lk hr ?_ hres;rintro b2 cs2 o kk z ho ⟨g1,g2,t2,fl,g3⟩;refine⟨fun h9=>g1 (.inl h9),?_,t2,fl,g3⟩;rintro⟨k2,y,hk2,hb2⟩;have hlt:=fun b hb=>(hheap.sep k2 _ b hk2 hb).2
    have h3:=hheap.blk k2 _ hk2;rw[hb2]at h3;rcases hH k2 y hk2 with h9 |⟨cl,rfl,hcl⟩ |⟨vs2,rfl,hvl⟩
    ·exact g1 (.inr ⟨k2,y,h9,hk2,hb2⟩)
    ·cases h3 with
     | @box _ _ c2 t' hw2 hn2 h12 hrr2 =>
      have hcc:c2=cs2:=by
       rw[hkeepB b2 (hlt b2 hb2),hw2]at g3
       injection g3 with g3
       injection g3
      subst hcc;have ho':o<c2.size:=(Array.getElem?_eq_some_iff.1 ho).1;have hx:=XC (l:=cl) (i:=o) oz;exact Ss (List.all_eq_true.1 hcl _ (Xx hx)) (hrr2 o _ _ ho hx) kk z rfl
    ·cases h3 with
     | @vec _ _ c2 t' hw2 hc2 h12 =>
      have hcc:c2=cs2:=by
       rw[hkeepB b2 (hlt b2 hb2),hw2]at g3
       injection g3 with g3
       injection g3
      subst hcc;have:Value.int kk z∈vs2:=by rw[<- hc2];exact Array.mem_toList_iff.2 (Array.mem_of_getElem? ho)
      exact hvl _ this kk z rfl
end Go.Lw
namespace Go.Lw
open Go.Proofs
def bv(xs:List Bool):List Value:=xs.map .bool
theorem gB(xs:List Bool):(bv xs).length=xs.length:=XA _
theorem wP(xs:List Bool)(n:Nat):(bv xs).set n (.bool true)=bv (xs.set n true):=by unfold bv;rw[Yg]
theorem zZ(xs:List Bool):∀v∈bv xs,∀kk z,v≠.int kk z:=by
 intro v hv kk z;obtain⟨b,_,rfl⟩:=List.mem_map.1 hv;exact fun h=>by cases h
theorem vz(xs:List Bool):(bv xs).map AV.v=xs.map bl:=by unfold bv;rw[map_map];rfl
theorem yB(n:Nat):List.replicate n (Value.bool false)=bv (List.replicate n false):=by unfold bv;rw[Yc]
theorem Vk(xs:List Int):(xs.map i64).all DY=true:=by
 rw[X9];intro x hx;obtain⟨b,_,rfl⟩:=List.mem_map.1 hx;rfl
theorem Vu(g:Gr)(b:Bool):(AV.tup [g.av,bl b]).li=true:=by
 simp only[AV.li,AV.lis,Gr.av,Vk];rfl
def oW(l:Li)(n:Nat):Blk:=.box (l.av.cells++[.ms 23 1 0 l.bo.length,.ms 27 1 0 l.bo.length,.ms 31 1 0 l.jo.length,.ms 900 4 0 n])
def mH(l:Li)(kw used:List Bool)(out:List Gr):Hp :=
  [(33,some (oW l out.length)),(23,some (.vec (bv kw))),(27,some (.vec (bv (bZ l)))),(31,some (.vec (bv used))),(900,some (.row 4 (out.map Gr.av)))]
theorem A0{xs:List Bool}{n:Nat}(h:xs.length=n):AV.lst 1 ((((bv xs).drop 0).take n).map .v)=.lst 1 (xs.map bl):=by
 rw[Yh,XR (by rw[gB];omega),vz]
theorem Ig(l:Li)(hl:l.ok)(hli:aA l=0)(kw used:List Bool)(hk:kw.length=l.bo.length)(hu:used.length=l.jo.length)(hm:l.bo.length<=a8/\l.jo.length<=a8)(out:List Gr) :
  Con prog 339 [.ptr 33 0] (mH l kw used out) (.tup [((nextG l kw).getD default).av,bl (nextG l kw).isSome]) (mH l kw used out):=by
 refine Con.lend (cs:=l.av.cells++[.ms 23 1 0 l.bo.length,.ms 27 1 0 l.bo.length,.ms 31 1 0 l.jo.length,.ms 900 4 0 out.length])
  (cs':=fun v=>dP l kw (bZ l) [.lst 1 (used.map bl),.v v]) [900] 7 rfl (by decide) ?_ (by simp[Li.av,AV.cells]) ?_ (Vu _ _) (fun v=>Ua l hl hli kw hk _)
 ·intro v hv;refine⟨rfl,?_,?_⟩
  ·intro j x hx
   match j,hx with
   |0,hx=>cases hx;rfl
   |1,hx=>cases hx;rfl
   |2,hx=>cases hx;rfl
   |3,hx=>cases hx;rfl
   |4,hx=>cases hx;rfl
   |5,hx=>cases hx;rfl
   |6,hx=>cases hx;rfl
   |7,hx=>cases hx;exact hv
   |j+8,hx=>cases hx
  ·intro j x x' hx hx'
   match j,hx,hx' with
   |0,hx,hx'=>cases hx;cases hx';exact .inr (.same rfl)
   |1,hx,hx'=>cases hx;cases hx';exact .inr (.same rfl)
   |2,hx,hx'=>cases hx;cases hx';exact .inr (.same rfl)
   |3,hx,hx'=>cases hx;cases hx';exact .inr (.same rfl)
   |4,hx,hx' =>
    cases hx;cases hx'
    have h:=Lent.ms (H:=mH l kw used out) (hid:=[900]) (k:=23) (off:=0) (len:=l.bo.length) (vs:=bv kw) rfl (by decide) (by rw[gB];omega) (by rw[gB];omega);rw[A0 hk]at h;exact .inr h
   |5,hx,hx' =>
    cases hx;cases hx'
    have h:=Lent.ms (H:=mH l kw used out) (hid:=[900]) (k:=27) (off:=0) (len:=l.bo.length) (vs:=bv (bZ l)) rfl (by decide) (by rw[gB,sY];omega) (by rw[gB,sY];omega);rw[A0 (sY l)]at h;exact .inr h
   |6,hx,hx' =>
    cases hx;cases hx'
    have h:=Lent.ms (H:=mH l kw used out) (hid:=[900]) (k:=31) (off:=0) (len:=l.jo.length) (vs:=bv used) rfl (by decide) (by rw[gB];omega) (by rw[gB];omega);rw[A0 hu]at h;exact .inr h
   |7,hx,hx'=>cases hx;cases hx';exact .inl ⟨rfl,rfl⟩
   |j+8,hx,hx'=>cases hx
 ·intro k z hz;simp only[mH,aT]at hz;split at hz
  ·cases hz;exact .inr (.inl ⟨_,rfl,rfl⟩)
  split at hz
  ·cases hz;exact .inr (.inr ⟨_,rfl,zZ _⟩)
  split at hz
  ·cases hz;exact .inr (.inr ⟨_,rfl,zZ _⟩)
  split at hz
  ·cases hz;exact .inr (.inr ⟨_,rfl,zZ _⟩)
  split at hz
  ·subst_vars;exact .inl (by decide)
  ·cases hz
def qR(l:Li):AV:=if aA l=0 then .iptr (dP l (bS l) (bZ l) [.lst 1 ((d8 l).map bl),.lst 4 ((findG l).map Gr.av)])else .v (.pointer none)
def i9(l:Li)(out:List Gr):List Bool:=out.foldl (fun k g=>bA k g.jo) (List.replicate l.jo.length false)
theorem Ae(l:Li)(out:List Gr):(i9 l out).length=l.jo.length:=by unfold i9;rw[pi,X5]
theorem Mp(l:Li)(out:List Gr)(g:Gr):i9 l (out++[g])=bA (i9 l out) g.jo:=by unfold i9;rw[List.foldl_append];rfl
theorem BU{k:List Bool}{bs:List Int}{i:Nat}{b:Int}(h:bs[i]?=some b):bA k (bs.take (i+1))=(bA k (bs.take i)).set b.toNat true:=by
 unfold bA;rw[dR h,List.foldl_append];rfl
theorem JR{l:Li}(hli:aA l=0){kw:List Bool}{out:List Gr}{g:Gr}(hk:kw.length=l.bo.length)(h:findFrom l (dO kw) kw out=(bS l,findG l))(hg:nextG l kw=some g) :
  findFrom l (dO (bA kw g.bo)) (bA kw g.bo) (out++[g])=(bS l,findG l):=by
 have hlt:=tf hli hk hg;obtain⟨n,hn⟩:∃n,dO kw=n+1:=⟨dO kw-1,by omega⟩
 rw[hn]at h;unfold findFrom at h;rw[hg]at h;rw[<- h];exact Bx hli _ _ _ _ (by rw[jG];exact hk) (XD _) oz
theorem Oy{l:Li}{kw:List Bool}{out:List Gr}(h:findFrom l (dO kw) kw out=(bS l,findG l))(hg:nextG l kw=none):kw=bS l/\out=findG l:=by
 cases hn:dO kw with
 |zero=>rw[hn]at h;exact⟨(Prod.mk.inj h).1,(Prod.mk.inj h).2⟩
 |succ n=>rw[hn]at h;unfold findFrom at h;rw[hg]at h;exact⟨(Prod.mk.inj h).1,(Prod.mk.inj h).2⟩
theorem KM{n:Nat}:dO (cF n 0)<=n:=by
 unfold dO;exact XW List.countP_le_length (Nat.le_of_eq (gT _ _))
theorem Nx{l:Li}(hli:aA l=0):findFrom l (dO (cF l.bo.length 0)) (cF l.bo.length 0) []=(bS l,findG l):=by
 rw[<- Jr];exact Bx hli _ _ _ _ (gT _ _) (XD _) KM
theorem Pc{l:Li}(hli:aA l=0){kw:List Bool}{out:List Gr}(hk:kw.length=l.bo.length)(h:findFrom l (dO kw) kw out=(bS l,findG l)):out.length<=8:=by
 obtain⟨gs,e⟩:=xP (l:=l) (dO kw) kw out;rw[e]at h;have h1:=(pH hli).2;have h2:out++gs=findG l:=(Prod.mk.inj h).2;rw[<- h2,XZ]at h1;omega
theorem Ri(l:Li)(kw used:List Bool)(out:List Gr)(hk:kw.length=l.bo.length)(hu:used.length=l.jo.length)(hm:l.bo.length<=a8/\l.jo.length<=a8) :
  Wk ⟨[(5,some (.ptr 33 0))],mH l kw used out⟩ ⟨[(5,some (.iptr (dP l kw (bZ l) [.lst 1 (used.map bl),.lst 4 (out.map Gr.av)])))],[]⟩:=by
 have hd:=sY l;have q1:.ms 23 1 0 l.bo.length=AV.ms 23 1 0 ((bv kw).map AV.v).length:=by rw[XA,gB,hk]
 refine(Wk.of (sl:=[(5,some (.ptr 33 0))]) (hp:=[(33,some (oW l out.length)),(23,some (.row 1 ((bv kw).map .v))),(27,some (.row 1 ((bv (bZ l)).map .v))),(31,some (.row 1 ((bv used).map .v))),(900,some (.row 4 (out.map Gr.av)))])
  (.k .nil) (.k (.cons rfl (.vecRow (by rw[gB];omega)) (.cons rfl (.vecRow (by rw[gB];omega)) (.cons rfl (.vecRow (by rw[gB];omega)) (.k .nil)))))).trans ?_
 refine(Wk.freeze (k:=23) rfl).trans ?_
 refine(Wk.of (sl:=[(5,some (.ptr 33 0))]) (hp:=[(33,some (.box (l.av.cells++[.lst 1 (kw.map bl),.ms 27 1 0 l.bo.length,.ms 31 1 0 l.jo.length,.ms 900 4 0 out.length]))),(27,some (.row 1 ((bv (bZ l)).map .v))),(31,some (.row 1 ((bv used).map .v))),(900,some (.row 4 (out.map Gr.av)))])
  (.k .nil) (.cons rfl (BlkSub.bL (.cons (.refl _) (.cons (.refl _) (.cons (.refl _) (.cons (.refl _) (.cons (.of ((bJ (by rw[XA,gB,hk])).trans (by rw[vz]))) (.cons (.refl _) (.cons (.refl _) (.cons (.refl _) .nil)))))))) rfl) (.k (.k (.k .nil))))).trans ?_
 refine(Wk.freeze (k:=27) rfl).trans ?_
 refine(Wk.of (sl:=[(5,some (.ptr 33 0))]) (hp:=[(33,some (.box (l.av.cells++[.lst 1 (kw.map bl),.lst 1 ((bZ l).map bl),.ms 31 1 0 l.jo.length,.ms 900 4 0 out.length]))),(31,some (.row 1 ((bv used).map .v))),(900,some (.row 4 (out.map Gr.av)))])
  (.k .nil) (.cons rfl (BlkSub.bL (.cons (.refl _) (.cons (.refl _) (.cons (.refl _) (.cons (.refl _) (.cons (.refl _) (.cons (.of ((bJ (by rw[XA,gB,hd])).trans (by rw[vz]))) (.cons (.refl _) (.cons (.refl _) .nil)))))))) rfl) (.k (.k .nil)))).trans ?_
 refine(Wk.freeze (k:=31) rfl).trans ?_
 refine(Wk.of (sl:=[(5,some (.ptr 33 0))]) (hp:=[(33,some (.box (l.av.cells++[.lst 1 (kw.map bl),.lst 1 ((bZ l).map bl),.lst 1 (used.map bl),.ms 900 4 0 out.length]))),(900,some (.row 4 (out.map Gr.av)))])
  (.k .nil) (.cons rfl (BlkSub.bL (.cons (.refl _) (.cons (.refl _) (.cons (.refl _) (.cons (.refl _) (.cons (.refl _) (.cons (.refl _) (.cons (.of ((bJ (by rw[XA,gB,hu])).trans (by rw[vz]))) (.cons (.refl _) .nil)))))))) rfl) (.k .nil))).trans ?_
 refine(Wk.freeze (k:=900) rfl).trans ?_
 refine(Wk.of (sl:=[(5,some (.ptr 33 0))]) (hp:=[(33,some (.box (dP l kw (bZ l) [.lst 1 (used.map bl),.lst 4 (out.map Gr.av)])))])
  (.k .nil) (.cons rfl (BlkSub.bL (.cons (.refl _) (.cons (.refl _) (.cons (.refl _) (.cons (.refl _) (.cons (.refl _) (.cons (.refl _) (.cons (.refl _) (.cons (.of (bJ (by rw[XA]))) .nil)))))))) rfl) .nil)).trans ?_
 refine(Wk.freezeB (k:=33) rfl rfl).trans ?_;exact Wk.of (.k .nil) .nil
theorem Ki(l:Li)(hl:l.ok):FP 250 [l.av] (.tup [qR l,br (aA l)]):=by
 refine aj func250 ?_;refine gc (uY l hl) ?_;refine gC (fun t17=>?_) (fun t17=>?_)
 ·have h1:=cU t17;refine bp ?_;unfold qR;rw[Yk h1]
 have hli:=cS t17;have h8:=(cK hli).2.2.2.1;have h0:=(cK hli).2.2.2.2;have hj16:l.jo.length<=16:=by have:=(cK hli).2.1;unfold d6 at this;split at this;cases this;omega
 have hld:=hl.ld;have hm:l.bo.length<=a8/\l.jo.length<=a8:=by unfold a8;omega
 refine gl ?_;refine gs (By (.tmp rfl) T219 rfl T4 rfl rfl rfl rfl (by dsimp only;omega) rfl) ?_;refine gl ?_;refine gs (By (.tmp rfl) T219 rfl T4 rfl rfl rfl rfl (by dsimp only;omega) rfl) ?_;refine gl ?_;refine gs (By (.tmp rfl) T219 rfl T4 rfl rfl rfl rfl (by dsimp only;omega) rfl) ?_;refine gD ?_;refine gs (b8 (n:=0) (.tmp rfl) (.const _) T219 rfl T4 rfl rfl oz rfl) ?_;refine gs (wH (.tmp rfl) rfl (by rw[X5];omega) (.const _) rfl T4 rfl) ?_ (6,0);refine gW (Wk.of (sl:=[(1,some (.ptr 1 0)),(5,some (.ptr 33 0))]) (hp:=[(1,some (.box l.av.cells)),(33,some (.box (l.av.cells++[.ms 23 1 0 l.bo.length,.ms 27 1 0 l.bo.length,.ms 31 1 0 l.jo.length,nS]))),(23,some (.vec (bv (cF l.bo.length 0)))),(27,some (.vec (bv (List.replicate l.bo.length false)))),(31,some (.vec (bv (List.replicate l.jo.length false))))]) aZ (.k (.k (.cons rfl (BlkSub.of (by rw[yB,wP];rfl)) (.cons rfl (BlkSub.of (by rw[yB])) (.cons rfl (BlkSub.of (by rw[yB])) .nil)))))) ?_
 refine gl ?_;refine aW [1,5,40,41] [1,23,31] (fun(i:Nat)=>[(42,some (i64 i))]) (fun i=>[(33,some (.box (l.av.cells++[.ms 23 1 0 l.bo.length,.ms 27 1 0 l.bo.length,.ms 31 1 0 l.jo.length,nS]))),(27,some (.vec (bv (bA (List.replicate l.bo.length false) ((l.dv.map Dr.body).take i)))))]) (fun i=>i<=l.dv.length) (fun i=>l.dv.length-i) 0 (XJ _) ?_;rintro i hi K1 J1;refine gC (fun t43=>?_) (fun t43=>?_) (st2:=(11,0))
 ·have hin:=a6 t43;obtain⟨d,hd⟩:=aw hin;have hb:=cW (lc hli hd);have hmt:=BU (k:=List.replicate l.bo.length false) (bs:=l.dv.map Dr.body) (i:=i) (b:=d.body) (by rw[XE,hd];rfl);refine gi (aE hd) ?_;refine gs (b8 (n:=d.body.toNat) (.tmp rfl) (.tmp rfl) T219 rfl T4 rfl oz oz rfl) ?_;refine gs (wH (.tmp rfl) rfl (by rw[gB,jG,X5];omega) (.const _) rfl T4 rfl) ?_;refine gD ?_;refine ga aN ?_;exact aO J1 (i+1) hin (hw:=Wk.of aZ (.k (.cons rfl (BlkSub.of (by rw[wP,hmt])) (.k (.k (.k .nil))))))
 have hin:=bc hi t43;have hall:bA (List.replicate l.bo.length false) ((l.dv.map Dr.body).take i)=bZ l:=by rw[hin];unfold bZ;rw[XR (by rw[XA];omega)]
 refine gW ((Wk.virt 900 4 rfl).trans<|Wk.of (sl:=[(1,some (.ptr 1 0)),(5,some (.ptr 33 0))]) (hp:=[(33,some (oW l 0)),(23,some (.vec (bv (cF l.bo.length 0)))),(27,some (.vec (bv (bZ l)))),(31,some (.vec (bv (List.replicate l.jo.length false)))),(900,some (.row 4 []))]) aZ (.cons rfl (BlkSub.bL (.cons (.refl _) (.cons (.refl _) (.cons (.refl _) (.cons (.refl _) (.cons (.refl _) (.cons (.refl _) (.cons (.refl _) (.cons (Sub.nM _ _ _) .nil)))))))) rfl) (.k (.cons rfl (BlkSub.of (by rw[hall])) (.k (.k .nil)))))) ?_
 refine gt (aH (Ig l hl hli (cF l.bo.length 0) (List.replicate l.jo.length false) (gT _ _) X5 hm []) (cB rfl) (fun k z h=>h) rfl rfl) ?_;refine gz [5,8] [] (fun(kw:List Bool)(out:List Gr)=>[(9,some (bl (nextG l kw).isSome))]) (fun kw out=>[(8,some (.box ((nextG l kw).getD default).av.cells)),(33,some (oW l out.length)),(23,some (.vec (bv kw))),(27,some (.vec (bv (bZ l)))),(31,some (.vec (bv (i9 l out)))),(900,some (.row 4 (out.map Gr.av)))]) (fun kw out=>kw.length=l.bo.length/\findFrom l (dO kw) kw out=(bS l,findG l)) (fun kw _=>dO kw) (cF l.bo.length 0) ([]) ⟨gT _ _,Nx hli⟩ ?_
 rintro kw out ⟨hk,hf⟩ K2 J2;refine gC (fun t59=>?_) (fun t59=>?_) (st1:=(77777,0)) (st2:=(27,0))
 ·obtain ⟨g, hg⟩:=zP t59;have hgo:=wK hli hg;have hout:=Pc hli hk hf;refine gW (Wk.of (sl:=[(5,some (.ptr 33 0)),(8,some (.ptr 8 0))]) (hp:=[(8,some (.box g.av.cells)),(33,some (oW l out.length)),(23,some (.vec (bv kw))),(27,some (.vec (bv (bZ l)))),(31,some (.vec (bv (i9 l out)))),(900,some (.row 4 (out.map Gr.av)))]) aZ (.cons rfl (BlkSub.of (by rw [hg]; rfl)) (.k (.k (.k (.k (.k .nil))))))) ?_;refine gl ?_;refine aW [5,8,66,67] [8,33,27,31,900] (fun (j:Nat)=>[(68,some (i64 j))]) (fun j=>[(23,some (.vec (bv (bA kw (g.bo.take j)))))]) (fun j=>j <= g.bo.length) (fun j=>g.bo.length - j) 0 (XJ _) ?_;rintro j hj K3 J3;refine gC (fun t69=>?_) (fun t69=>?_)
  ·have hin:=a6 t69;obtain⟨b,hb⟩:=aw hin;have hbb:=hgo.b b (Xx hb);have hlb:=hgo.lb;refine gi (aE hb) ?_;refine gs (b8 (n:=b.toNat) (.tmp rfl) (.tmp rfl) T219 rfl T4 rfl oz oz rfl) ?_;refine gs (wH (.tmp rfl) rfl (by rw[gB,jG];omega) (.const _) rfl T4 rfl) ?_;refine ga aN ?_;exact aO J3 (j+1) hin (hw:=Wk.of aZ (.cons rfl (BlkSub.of (by rw[wP,BU hb])) (.k (.k (.k (.k (.k .nil)))))))
  have hin:=bc hj t69;subst hin;refine gl ?_;refine aW [5,8,80,81] [8,33,27,900] (fun(q:Nat)=>[(82,some (i64 q))]) (fun q=>[(23,some (.vec (bv (bA kw g.bo)))),(31,some (.vec (bv (bA (i9 l out) (g.jo.take q)))))]) (fun q=>q<=g.jo.length) (fun q=>g.jo.length-q) 0 (XJ _) ?_ (h2:=(.cons rfl (BlkSub.of (by rw[XP])) (.k .nil)));rintro q hq K4 J4;refine gC (fun t83=>?_) (fun t83=>?_)
  ·have hin:=a6 t83;obtain⟨b,hb⟩:=aw hin;have hbb:=hgo.j b (Xx hb);have hlj:=hgo.lj;refine gi (aE hb) ?_;refine gs (b8 (n:=b.toNat) (.tmp rfl) (.tmp rfl) T219 rfl T4 rfl oz oz rfl) ?_;refine gs (wH (.tmp rfl) rfl (by rw[gB,jG,Ae];omega) (.const _) rfl T4 rfl) ?_;refine ga aN ?_;exact aO J4 (q+1) hin (hw:=Wk.of aZ (.k (.cons rfl (BlkSub.of (by rw[wP,BU hb])) (.k (.k (.k (.k .nil)))))))
  have hin:=bc hq t83;subst hin;refine gs (bX (.tmp rfl) rfl (by rw[XA]) (.tmp rfl) T32 rfl T53 rfl rfl (by simp only[XK,XM];omega) rfl rfl) ?_;refine gD ?_ (25,0);refine gW (Wk.of (sl:=[(5,some (.ptr 33 0)),(8,some (.ptr 8 0))]) (hp:=[(8,some (.box g.av.cells)),(33,some (.box (l.av.cells++[.ms 23 1 0 l.bo.length,.ms 27 1 0 l.bo.length,.ms 31 1 0 l.jo.length,.ms 100 4 0 (out++[g]).length]))),(100,some (.row 4 ((out++[g]).map Gr.av))),(23,some (.vec (bv (bA kw g.bo)))),(27,some (.vec (bv (bZ l)))),(31,some (.vec (bv (i9 l (out++[g])))))]) aZ (.k (.cons rfl (BlkSub.of (by rw[XZ];rfl)) (.cons rfl (BlkSub.of (by rw[XQ];rfl)) (.k (.k (.cons rfl (BlkSub.of (by rw[Mp,XP])) .nil))))))) ?_ (25,0)
  refine gW (Wk.rk (k:=100) (d:=900) rfl rfl) ?_ (26,0);refine gW (Wk.o (sl:=[(5,some (.ptr 33 0)),(103,some (g.av))]) (hp:=[(33,some (oW l (out++[g]).length)),(23,some (.vec (bv (bA kw g.bo)))),(27,some (.vec (bv (bZ l)))),(31,some (.vec (bv (i9 l (out++[g]))))),(900,some (.row 4 ((out++[g]).map Gr.av)))])) ?_;refine gt (aH (Ig l hl hli (bA kw g.bo) (i9 l (out++[g])) (by rw[jG];exact hk) (Ae _ _) hm (out++[g])) (cB rfl) (by intro k z h;simp only[mH,aT]at h;split at h;(subst_vars;exact h);split at h;(subst_vars;exact h);split at h;(subst_vars;exact h);split at h;(subst_vars;exact h);split at h;(subst_vars;exact h);cases h) rfl rfl) ?_;exact fU J2 (bA kw g.bo) (out++[g]) ⟨by rw[jG];exact hk,JR hli hk hf hg⟩ (tf hli hk hg)
 have hg:=zT t59;obtain⟨e1,e2⟩:=Oy hf hg;subst e1 e2;refine gW (Wk.o (sl:=[(5,some (.ptr 33 0))]) (hp:=[(33,some (oW l (findG l).length)),(23,some (.vec (bv (bS l)))),(27,some (.vec (bv (bZ l)))),(31,some (.vec (bv (i9 l (findG l))))),(900,some (.row 4 ((findG l).map Gr.av)))])) ?_ (27,0);refine gW (Ri l (bS l) (i9 l (findG l)) (findG l) hk (Ae _ _) hm) ?_;refine bp ?_;unfold qR;rw[Yl hli,hli];rfl
theorem CV{α:Type}[BEq α][LawfulBEq α]{xs:List α}{b:α}{ok:Nat->Bool}(h:∀i x,xs[i]?=some x->ok i=!(b==x)):decide (0<=jA (cC xs.length ok))=xs.contains b:=by
 cases hf:cC xs.length ok with
 |some i =>
  obtain⟨h1,h2⟩:=ff hf;obtain⟨x,hx⟩:=aw h1;rw[h i x hx]at h2;have:b=x:=by simpa using h2
  subst this;rw[List.contains_iff_mem.2 (Xx hx)];exact decide_eq_true (by show(0:Int)<=(i:Int);omega)
 |none =>
  rw[decide_eq_false (by show ¬(0:Int) <= -1;decide)]
  symm
  rw[<- Bool.not_eq_true,List.contains_iff_mem];intro hm;obtain⟨i,hi⟩:=List.mem_iff_getElem?.1 hm;have hlt:=(List.getElem?_eq_some_iff.1 hi).1;unfold cC at hf;rw[List.find?_eq_none]at hf;have:=hf i (List.mem_range.2 hlt);rw[h i b hi]at this;simp at this
theorem Kq(xs:List Bool)(b:Bool)(hl:xs.length<=281474976710656):FP 340 [.lst 1 (xs.map bl),bl b] (i64 (jA (cC xs.length (fun i=>!(b==xs.getD i false))))):=by
 refine aj func340 ?_;refine gl ?_;refine aW [0,1,7] [] (fun(i:Nat)=>[(8,some (i64 i))]) (fun _=>[]) (fun i=>i<=xs.length/\∀j,j<i->(!(b==xs.getD j false))=true) (fun i=>xs.length-i) 0 ⟨XJ _,fun j h=>by omega⟩ ?_;rintro i ⟨hi,hj⟩ K1 J1;refine gC (fun t9=>?_) (fun t9=>?_)
 ·have hin:=a6 t9;obtain⟨x,hx⟩:=aw hin;have hg:xs.getD i false=x:=aq hx;refine gi (aE hx) ?_;refine gC (fun t16=>?_) (fun t16=>?_)
  ·have h2:(b==x)=true:=t16;refine af ?_;rw[gH hin hj (by rw[hg,h2];rfl)];rfl
  have h2:(b==x)=false:=t16;refine ga aN ?_;exact aO J1 (i+1) ⟨hin,fun j h9=>by rcases XH j i with g |g;exact hj j g;(have:j=i:=by omega);subst this;rw[hg,h2];rfl⟩
 have hin:=bc hi t9;subst hin;refine af ?_;rw[fM hj];rfl
theorem CI(xs:List Bool)(b:Bool)(hl:xs.length<=281474976710656):FP 251 [.lst 1 (xs.map bl),bl b] (bl (xs.contains b)):=by
 refine aj func251 ?_;refine gc (Kq xs b hl) ?_;refine af ?_;rw[<- CV (xs:=xs) (b:=b) (ok:=fun i=>!(b==xs.getD i false)) (fun i x hx=>by rw[aq hx])];rfl
theorem WI(xs:List Int)(b:Int)(hl:xs.length<=281474976710656):FP 341 [.lst 1 (xs.map i64),i64 b] (i64 (jA (cC xs.length (fun i=>!(b==xs.getD i 0))))):=by
 refine aj func341 ?_;refine gl ?_;refine aW [0,1,7] [] (fun(i:Nat)=>[(8,some (i64 i))]) (fun _=>[]) (fun i=>i<=xs.length/\∀j,j<i->(!(b==xs.getD j 0))=true) (fun i=>xs.length-i) 0 ⟨XJ _,fun j h=>by omega⟩ ?_;rintro i ⟨hi,hj⟩ K1 J1;refine gC (fun t9=>?_) (fun t9=>?_)
 ·have hin:=a6 t9;obtain⟨x,hx⟩:=aw hin;have hg:xs.getD i 0=x:=aq hx;refine gi (aE hx) ?_;refine gC (fun t16=>?_) (fun t16=>?_)
  ·have h2:(b==x)=true:=t16;refine af ?_;rw[gH hin hj (by rw[hg,h2];rfl)];rfl
  have h2:(b==x)=false:=t16;refine ga aN ?_;exact aO J1 (i+1) ⟨hin,fun j h9=>by rcases XH j i with g |g;exact hj j g;(have:j=i:=by omega);subst this;rw[hg,h2];rfl⟩
 have hin:=bc hi t9;subst hin;refine af ?_;rw[fM hj];rfl
theorem Hu(xs:List Int)(b:Int)(hl:xs.length<=281474976710656):FP 253 [.lst 1 (xs.map i64),i64 b] (bl (xs.contains b)):=by
 refine aj func253 ?_;refine gc (WI xs b hl) ?_;refine af ?_;rw[<- CV (xs:=xs) (b:=b) (ok:=fun i=>!(b==xs.getD i 0)) (fun i x hx=>by rw[aq hx])];rfl
theorem Aj(l:Li)(hl:l.ok):FP 143 [l.av] (.tup [.lst 4 (((if aA l=0 then splitG l else[])).map Gr.av),br (if aA l=0 then splitE l else aA l)]):=by
 refine aj func143 ?_;refine gc (Ki l hl) (hnm:=(by unfold qR;split <;> rfl)) ?_;refine gC (fun t12=>?_) (fun t12=>?_) (st2:=(77777,0))
 ·have h1:=cU t12;refine gR ?_;exact dF (by rw[Yk h1,Yk h1];exact Sub.tup (.cons (.nil _ _ _) (.cons (.refl _) .nil)))
 have hli:=cS t12;have h8:=(cK hli).2.2.2.1;have hj16:l.jo.length<=16:=by have:=(cK hli).2.1;unfold d6 at this;split at this;cases this;omega
 have lk1:(bS l).length=l.bo.length:=by unfold bS;rw[pi,gT]
 have lk2:(d8 l).length=l.jo.length:=by unfold d8;rw[pi,X5]
 have e1:qR l=.iptr (dP l (bS l) (bZ l) [.lst 1 ((d8 l).map bl),.lst 4 ((findG l).map Gr.av)]):=by unfold qR;rw[Yl hli]
 have c1:=wa (k:=bS l);have c2:=wa (k:=d8 l);refine gW (Wk.of (sl:=[(4,some (.iptr (dP l (bS l) (bZ l) [.lst 1 ((d8 l).map bl),.lst 4 ((findG l).map Gr.av)]))),(5,some (br (aA l)))]) (hp:=[]) (.cons rfl (Sub.of e1) (.k .nil)) .nil) ?_;refine gc (CI (bS l) false oz) ?_;refine b7 (fun _=>(CI (d8 l) false oz)) ?_;refine gC (fun t25=>?_) (fun t25=>?_)
 ·have h2:splitE l=7:=by
   unfold splitE;rw[Yk];intro h;have h3:(bS l).contains false=false:=c1.1 oz;have h4:(d8 l).contains false=false:=c2.1 oz;rw[h3,h4]at t25;cases t25
  refine gR ?_;exact dF (by rw[Yl hli,Yl hli];unfold splitG;rw[Yk (by rw[h2];simp),h2];exact Sub.tup (.cons (.nil _ _ _) (.cons (.refl _) .nil)))
 have h2:splitE l=0:=by
  unfold splitE;rw[Yl];cases h3:(bS l).contains false <;> cases h4:(d8 l).contains false <;> rw[h3,h4]at t25 <;> first |(cases t25;done) |(have g1:=c1.2 h3;have g2:=c2.2 h4;omega)
 refine bp ?_;rw[Yl hli,Yl hli,h2];unfold splitG;rw[Yl h2];rfl
def SO(ys:List Int)(i:Nat):Prop:=∀p q,p<q->q<i->ys.getD p 0<=ys.getD q 0
def SI(ys:List Int)(i j:Nat):Prop:=∀p q,p<q->q<=i->q≠j->ys.getD p 0<=ys.getD q 0
theorem OH{xs ys:List Int}{i:Nat}(hp:ys.Perm xs)(hi:ys.length<=i)(h:SO ys i):ys=eK xs:=by
 refine KI hp (List.pairwise_iff_getElem.2 fun p q hp hq hpq=>?_);have h1:=h p q hpq oz;rw[aq (XC hp),aq (XC hq)]at h1;exact h1
theorem TV{ys:List Int}{i:Nat}(h:SO ys i):SI ys i i:=fun p q h1 h2 h3=>h p q h1 oz
theorem Rg{ys:List Int}{i j:Nat}(h:SI ys i j)(hj:j=0\/ys.getD (j-1) 0<=ys.getD j 0):SO ys (i+1):=by
 intro p q h1 h2
 by_cases hq:q=j
 ·subst hq;rcases hj with hj |hj
  ·omega
  ·by_cases hp:p=q-1
   ·subst hp;exact hj
   ·exact Int.le_trans (h p (q-1) oz oz oz) hj
 ·exact h p q h1 oz hq
theorem DR(ys:List Int)(i:Nat)(x:Int)(p:Nat)(hi:i<ys.length):(ys.set i x).getD p 0=if p=i then x else ys.getD p 0:=by
 rw[Xy,Xy,List.getElem?_set]
 by_cases h:i=p
 ·subst h;simp[hi]
 ·rw[Yk h,Yk (fun e=>h e.symm)]
theorem Pr{ys:List Int}{i j:Nat}(h:SI ys i j)(hj:0<j)(hi:j<=i)(hl:i<ys.length)(hlt:ys.getD j 0<ys.getD (j-1) 0):SI ((ys.set j (ys.getD (j-1) 0)).set (j-1) (ys.getD j 0)) i (j-1):=by
 intro p q h1 h2 h3
 have e:∀r,((ys.set j (ys.getD (j-1) 0)).set (j-1) (ys.getD j 0)).getD r 0=if r=j-1 then ys.getD j 0 else if r=j then ys.getD (j-1) 0 else ys.getD r 0:=fun r=>by
  rw[DR _ _ _ _ (by rw[Yj];omega),DR _ _ _ _ oz]
 rw[e,e,Yk h3]
 by_cases hq:q=j
 ·rw[Yl hq]
  by_cases hp:p=j-1
  ·rw[Yl hp];omega
  ·rw[Yk hp,Yk oz];exact h p (j-1) oz oz oz
 ·rw[Yk hq]
  by_cases hp:p=j-1
  ·rw[Yl hp];exact h j q oz h2 hq
  ·rw[Yk hp]
   by_cases hp2:p=j
   ·rw[Yl hp2];exact h (j-1) q oz h2 hq
   ·rw[Yk hp2];exact h p q h1 h2 hq
theorem O7{ys:List Int}{j:Nat}{a b:Int}(ha:ys[j]?=some a)(hb:ys[j-1]?=some b):((ys.set j b).set (j-1) a).Perm ys:=by
 obtain⟨h1,rfl⟩:=List.getElem?_eq_some_iff.1 ha;obtain⟨h2,rfl⟩:=List.getElem?_eq_some_iff.1 hb;exact List.set_set_perm h1 h2
theorem Oh{j:Nat}{a b:Int}(h:cond (aa .gtr (j:Int) 0) (decide (a<b)) false=true):0<j/\a<b:=by
 cases h1:aa .gtr (j:Int) 0 <;> rw[h1]at h
 ·cases h
 ·exact⟨jI (b:=0) h1,of_decide_eq_true h⟩
theorem Py{j:Nat}{a b:Int}(h:cond (aa .gtr (j:Int) 0) (decide (a<b)) false=false):j=0\/b<=a:=by
 cases h1:aa .gtr (j:Int) 0 <;> rw[h1]at h
 ·have:=gX (b:=0) h1;omega
 ·have h2:decide (a<b)=false:=h;have:=of_decide_eq_false h2;omega
theorem RW(ys:List Int)(j:Nat)(a b:Int):((ys.map i64).set j (i64 b)).set (j-1) (i64 a)=((ys.set j b).set (j-1) a).map i64:=by rw[Yg,Yg]
theorem FO(a:Int):FP 384 [i64 a] (bl false):=by
 refine aj func384 ?_;refine af ?_;simp[aa];rfl
theorem Tb(a b:Int):FP 348 [i64 a,i64 b] (bl (decide (a<b))):=by
 refine aj func348 ?_;refine gc (FO a) ?_;refine b7 (fun _=>(FO b)) ?_;refine af ?_
 first |rfl |(simp;done)
theorem Qk(xs:List Int)(hl:xs.length<=12):Con prog 342 [.ms 1000 1 0 xs.length,i64 0,i64 xs.length] [(1000,some (.row 1 (xs.map i64)))] (.tup []) [(1000,some (.row 1 ((eK xs).map i64)))]:=by
 refine gF func342 (fun k z h=>bD h) ?_;refine ga (show _=((1:Nat):Int)from rfl) ?_;refine gz [1,2] [] (fun(ys:List Int)(i:Nat)=>[(0,some (.ms 1000 1 0 xs.length)),(6,some (i64 i))]) (fun ys _=>[(1000,some (.row 1 (ys.map i64)))]) (fun ys i=>ys.length=xs.length/\ys.Perm xs/\1<=i/\SO ys i) (fun _ i=>xs.length+1-i) xs 1 ⟨rfl,.refl _,XD _,fun p q h1 h2=>by omega⟩ ?_;rintro ys i ⟨hyl,hyp,hi1,hso⟩ K1 J1;refine gC (fun t12=>?_) (fun t12=>?_)
 ·have hin:=a6 t12;refine gz [1,2,6] [] (fun (zs:List Int) (j:Nat)=>[(0,some (.ms 1000 1 0 xs.length)),(7,some (i64 j))]) (fun zs _=>[(1000,some (.row 1 (zs.map i64)))]) (fun zs j=>zs.length = xs.length /\ zs.Perm xs /\ j <= i /\ SI zs i j) (fun _ j=>j) ys i ⟨hyl,hyp,XD _,TV hso⟩ ?_;rintro zs j ⟨hzl,hzp,hji,hsi⟩ K2 J2;obtain ⟨a,ha⟩:=aw (show j < zs.length by omega);obtain ⟨b,hb⟩:=aw (show j - 1 < zs.length by omega);refine gs (fq rfl rfl rfl (fun h=>b8 (n:=j) (.opt rfl (o1 h)) (.opt rfl (o1 h)) T39 rfl T3 rfl oz oz rfl)) ?_;refine gs (fq rfl rfl rfl (fun h=>ez (.opt rfl (o1 h)) rfl (aE ha) T3 rfl rfl rfl)) ?_;refine oF (fun h=>(ji (jI (b:=0) h) (by unfold a8; omega))) ?_;refine gs (fq rfl rfl rfl (fun h=>b8 (n:=(j - 1)) (.opt rfl (o1 h)) (.opt rfl (o1 h)) T39 rfl T3 rfl oz oz rfl)) ?_;refine gs (fq rfl rfl rfl (fun h=>ez (.opt rfl (o1 h)) rfl (aE hb) T3 rfl rfl rfl)) ?_;refine b7 (fun _=>(Tb a b)) ?_;refine gD ?_;refine gC (fun t30=>?_) (fun t30=>?_)
  ·obtain⟨hj0,hab⟩:=Oh t30;refine ga (ji hj0 (by unfold a8;omega)) ?_;refine ga (ji hj0 (by unfold a8;omega)) ?_;refine gs (b8 (n:=(j-1)) (.tmp rfl) (.tmp rfl) T39 rfl T3 rfl oz oz rfl) ?_;refine gs (ez (.tmp rfl) rfl (aE hb) T3 rfl rfl rfl) ?_;refine gs (b8 (n:=j) (.tmp rfl) (.tmp rfl) T39 rfl T3 rfl oz oz rfl) ?_;refine gs (ez (.tmp rfl) rfl (aE ha) T3 rfl rfl rfl) ?_;refine gs (b8 (n:=j) (.tmp rfl) (.tmp rfl) T39 rfl T3 rfl oz oz rfl) ?_;refine gs (dT (.tmp rfl) rfl (aE ha) rfl (.tmp rfl) rfl rfl T3 rfl rfl) ?_;refine gs (b8 (n:=(j-1)) (.tmp rfl) (.tmp rfl) T39 rfl T3 rfl oz oz rfl) ?_;refine gs (dT (.tmp rfl) rfl ((List.getElem?_set_ne oz).trans (aE hb)) rfl (.tmp rfl) rfl rfl T3 rfl rfl) ?_;refine gD ?_;refine ga (ji hj0 (by unfold a8;omega)) ?_;exact fU J2 ((zs.set j b).set (j-1) a) (j-1) ⟨by rw[Yj,Yj];exact hzl,(O7 ha hb).trans hzp,by omega,by have h9:=Pr hsi hj0 hji oz (by rw[aq ha,aq hb];exact hab);rw[aq ha,aq hb]at h9;exact h9⟩ (hw:=Wk.of aZ (.cons rfl (BlkSub.of (congrArg (Blk.row 1) (RW zs j a b))) .nil))
  have hs:=Py t30;refine ga aN ?_;exact fU J1 zs (i+1) ⟨hzl,hzp,by omega,Rg hsi (by rw[aq ha,aq hb];exact hs)⟩
 have hin:=tH t12;refine gR ?_;exact az.own2 rfl (by rw[<- OH hyp oz hso]) rfl
theorem Un(xs:List Int)(hl:xs.length<=12)(m:Int):Con prog 254 [.ms 1000 1 0 xs.length,i64 0,i64 xs.length,i64 m] [(1000,some (.row 1 (xs.map i64)))] (.tup []) [(1000,some (.row 1 ((eK xs).map i64)))]:=by
 refine gF func254 (fun k z h=>bD h) ?_;refine NZ [1,2,3,8,9] [1000] [(0,some (.ms 1000 1 0 xs.length))] [] (True) (0) trivial ?_;rintro-K1 J1;refine ga (eg oz) ?_;refine gC (fun t23=>?_) (fun t23=>?_) (st2:=(77777,0))
 ·refine gt (aH (Qk xs hl) (aJ rfl rfl rfl) aI rfl rfl) ?_;refine gR ?_;exact az.own2 rfl rfl rfl
 (rw[show aa .leq ((xs.length:Int)-0) 12=true from decide_eq_true oz]at t23;cases t23)
theorem Kr(x:Nat)(hx:x<256):FP 352 [u64 x] (i64 (ba x)):=by
 refine aj func352 ?_;refine gC (fun t4=>?_) (fun t4=>?_) (st1:=(2,0))
 ·(have:=t4;simp[aa]at this;omega)
 refine gC (fun t8=>?_) (fun t8=>?_) (st1:=(5,0))
 ·(have:=t8;simp[aa]at this;omega)
 refine gC (fun t14=>?_) (fun t14=>?_) (st1:=(8,0))
 ·(have:=t14;simp[aa]at this;omega)
 refine gv (jv hx) ?_;refine gs (tj (y:=x) (.const _) (.tmp rfl) T9 rfl (by kernel_rfl) (by first |rfl |omega) oz rfl) ?_;refine gv (i64_in (by have:=iX hx;omega)) ?_;refine ga (du (by have:=iX hx;omega)) ?_;refine af ?_;simp only[i64];congr 2;omega
theorem N0(x:Nat)(hx:x<256):FP 255 [u64 x] (i64 (ba x)):=by
 refine aj func255 ?_;refine gC (fun hcfalse=>?_) (fun hcfalse=>?_) (st1:=(1,0));cases hcfalse;refine gc (Kr x hx) ?_;refine af ?_
 first |rfl |(simp;done)
theorem Pj(xs:List Int)(hl:xs.length<=12):Con prog 146 [.ms 1000 1 0 xs.length] [(1000,some (.row 1 (xs.map i64)))] (.tup []) [(1000,some (.row 1 ((eK xs).map i64)))]:=by
 refine gF func146 (fun k z h=>bD h) ?_;refine gv (show IntKind.u64.wrap _=((xs.length:Nat):Int)from u64_in oz) ?_;refine gc (N0 xs.length oz) ?_;refine gt (aH (Un xs hl _) (.cons (.tmp rfl) (.cons (.const _) (bB rfl rfl))) aI rfl rfl) ?_;refine gR ?_;exact az.own2 rfl rfl rfl
theorem NI{l:Li}{g:Gr}{i:Nat}{z:Int}{j:Jt}(hz:g.jo[i]?=some z)(hj:l.jo[z.toNat]?=some j):(fO l g)[i]?=some (jg g j):=by
 unfold fO;rw[XE,hz,Option.map_some,aq hj]
theorem zU{l:Li}{g:Gr}{i:Nat}{z:Int}{j:Jt}{a:Int}(hz:g.jo[i]?=some z)(hj:l.jo[z.toNat]?=some j)(ha:jg g j=a):((fO l g).take i).map i64++[i64 a]=((fO l g).take (i+1)).map i64:=by
 rw[dR (NI hz hj),ha,XQ];rfl
theorem Nn{z:Int}{n:Nat}(h0:0<=z)(h1:z<n):cond (aa .lss z 0) true (aa .geq z (n:Int))=false:=by
 rw[show aa .lss z 0=false from decide_eq_false oz];exact decide_eq_false oz
theorem Oz(l:Li)(hl:l.ok)(hli:aA l=0)(g:Gr)(hg:GrOk l g):Con prog 145 [l.av,g.av] [] (.tup [.ms 900 1 0 g.jo.length,.v .nilIface]) [(900,some (.row 1 ((fO l g).map i64)))]:=by
 have hlb:=hg.lb;have hlj:=hg.lj;refine gF func145 (fun k z h=>by cases h) ?_;refine gc (uY l hl) ?_;refine gC (fun t16=>?_) (fun t16=>?_) (st1:=(3,0))
 ·(rw[hli]at t16;cases t16)
 refine gl ?_;refine gW ((Wk.virt 900 1 rfl).trans<|Wk.of (sl:=[(2,some (.ptr 2 0)),(3,some (.ptr 3 0)),(7,some (.ms 900 1 0 0)),(19,some (.lst 1 (g.jo.map i64))),(20,some (i64 g.jo.length)),(21,some (i64 0))]) (hp:=[(2,some (.box l.av.cells)),(3,some (.box g.av.cells)),(900,some (.row 1 []))]) (.k (.k (.cons rfl (Sub.nM _ _ _) (.k (.k (.k .nil)))))) (.k (.k (.k .nil)))) ?_;refine aW [2,3,19,20] [2,3] (fun(i:Nat)=>[(7,some (.ms 900 1 0 i)),(21,some (i64 i))]) (fun i=>[(900,some (.row 1 (((fO l g).take i).map i64)))]) (fun i=>i<=g.jo.length) (fun i=>g.jo.length-i) 0 (XJ _) ?_;rintro i hi K1 J1;refine gC (fun t22=>?_) (fun t22=>?_) (st2:=(18,0))
 ·have hin:=a6 t22;obtain ⟨z,hz⟩:=aw hin;obtain ⟨z0,z1⟩:=hg.j z (Xx hz);obtain ⟨j,hj⟩:∃ j,l.jo[z.toNat]? = some j:=aw oz;have hlt:(((fO l g).take i).map i64).length = i:=by rw [XA,XO,qv]; omega
  refine gi (aE hz) ?_;refine cQ ?_;refine gC (fun t33=>?_) (fun t33=>?_) (st1:=(9,0))
  ·(rw[Nn z0 z1]at t33;cases t33)
  refine gi (f6 (n:=z.toNat) oz hj) ?_;refine gc (Hu g.bo j.a oz) ?_;refine gc (Hu g.bo j.b oz) ?_;refine gD ?_;refine gC (fun t55=>?_) (fun t55=>?_)
  ·have ha : jg g j = -1 := by unfold jg; cases h1 : g.bo.contains j.a <;> cases h2 : g.bo.contains j.b <;> rw [h1, h2] at t55 <;> first | (cases t55; done) | rfl
   refine gs (bX (.tmp rfl) rfl hlt.symm (.tmp rfl) T39 rfl T3 rfl rfl (by simp only[XK,XM];omega) rfl rfl) ?_ (17,0);refine gW (Wk.of (sl:=[(2,some (.ptr 2 0)),(3,some (.ptr 3 0)),(7,some (.ms 62 1 0 (i+1))),(19,some (.lst 1 (g.jo.map i64))),(20,some (i64 g.jo.length)),(21,some (i64 i))]) (hp:=[(2,some (.box l.av.cells)),(3,some (.box g.av.cells)),(62,some (.row 1 (((fO l g).take (i+1)).map i64)))]) aZ (.k (.k (.cons rfl (BlkSub.of (congrArg (Blk.row 1) (zU hz hj ha))) .nil)))) ?_ (17,0);refine gW (Wk.rk (k:=62) (d:=900) rfl rfl) ?_;refine ga aN ?_;exact aO J1 (i+1) hin
  refine gC (fun t63=>?_) (fun t63=>?_)
  ·have ha : jg g j = j.b := by unfold jg; cases h1 : g.bo.contains j.a <;> cases h2 : g.bo.contains j.b <;> rw [h1] at t63 <;> rw [h1, h2] at t55 <;> first | (cases t55; done) | (cases t63; done) | rfl
   refine gs (bX (.tmp rfl) rfl hlt.symm (.tmp rfl) T39 rfl T3 rfl rfl (by simp only[XK,XM];omega) rfl rfl) ?_ (17,0);refine gW (Wk.of (sl:=[(2,some (.ptr 2 0)),(3,some (.ptr 3 0)),(7,some (.ms 69 1 0 (i+1))),(19,some (.lst 1 (g.jo.map i64))),(20,some (i64 g.jo.length)),(21,some (i64 i))]) (hp:=[(2,some (.box l.av.cells)),(3,some (.box g.av.cells)),(69,some (.row 1 (((fO l g).take (i+1)).map i64)))]) aZ (.k (.k (.cons rfl (BlkSub.of (congrArg (Blk.row 1) (zU hz hj ha))) .nil)))) ?_ (17,0);refine gW (Wk.rk (k:=69) (d:=900) rfl rfl) ?_;refine ga aN ?_;exact aO J1 (i+1) hin
  have ha:jg g j=j.a:=by unfold jg;rw[Yk (by rw[show g.bo.contains j.a=false from t63];simp)]
  refine gs (bX (.tmp rfl) rfl hlt.symm (.tmp rfl) T39 rfl T3 rfl rfl (by simp only[XK,XM];omega) rfl rfl) ?_ (17,0);refine gW (Wk.of (sl:=[(2,some (.ptr 2 0)),(3,some (.ptr 3 0)),(7,some (.ms 54 1 0 (i+1))),(19,some (.lst 1 (g.jo.map i64))),(20,some (i64 g.jo.length)),(21,some (i64 i))]) (hp:=[(2,some (.box l.av.cells)),(3,some (.box g.av.cells)),(54,some (.row 1 (((fO l g).take (i+1)).map i64)))]) aZ (.k (.k (.cons rfl (BlkSub.of (congrArg (Blk.row 1) (zU hz hj ha))) .nil)))) ?_ (17,0);refine gW (Wk.rk (k:=54) (d:=900) rfl rfl) ?_;refine ga aN ?_;exact aO J1 (i+1) hin
 have hin:=bc hi t22;subst hin;refine gW (Wk.of (sl:=[(7,some (.ms 900 1 0 g.jo.length))]) (hp:=[(900,some (.row 1 ((fO l g).map i64)))]) aZ (.cons rfl (BlkSub.of (by rw[XR (by rw[qv];exact XD _)])) .nil)) ?_;refine gR ?_;exact az.keep (bj rfl)
section
variable{ts:LL}{u k:Nat}{a b a2 b2:List Rat}{x y x2 y2:Et ts}{w v w' v' w2 v2 w3 v3:Nat}
theorem yY(c:Ct ts u k)(h:w+v+(w'+v')<=10000):w*u+v*k+(w'*u+v'*k)+1<=lm ts.length:=by
 have h1:=GI c (w:=w+w') (v:=v+v') (m:=10000) oz;have h2:=kE ts.length;rw[xB];omega
theorem F9(c:Ct ts u k){R:Nat}(h:eB R ts.length<=k):2*(2500*1000000+2500*1000000+kB R ts.length)<=lm ts.length:=by
 have h1:=c.kk h;have h2:=kE ts.length;omega
theorem PR [c : Ct ts u k] [ha : Zl ts u k a x w v] [hb : Zl ts u k b y w' v'] (h : w + v + (w' + v') <= 10000 := by decide) : FP 356 [aY ts, nA a, nA b] (.tup [nA (sX (x + y)), .v .nilIface]) := by
 obtain⟨R,tw,hk⟩:=c.ex;have h0:=yY c h;have h1:=x7 tw ha.nm hb.nm oz;rw[ha.eq,hb.eq]at h1;exact h1
theorem IT [c : Ct ts u k] [ha : Zl ts u k a x w v] [hb : Zl ts u k b y w' v'] (h : w + v + (w' + v') <= 10000 := by decide) : FP 176 [aY ts, nA a, nA b] (.tup [nA (sX (x - y)), .v .nilIface]) := by
 obtain⟨R,tw,hk⟩:=c.ex;have h0:=yY c h;have h1:=ou tw ha.nm hb.nm oz;rw[ha.eq,hb.eq]at h1;exact h1
theorem HU [c : Ct ts u k] [ha : Zl ts u k a x w v] [hb : Zl ts u k b y w' v'] (h : w + v + (w' + v') <= 10000 := by decide) : FP 127 [aY ts, nA a, nA b] (.tup [nA (sX (x * y)), .v .nilIface]) := by
 obtain⟨R,tw,hk⟩:=c.ex;have h0:=yY c h;have h1:=Bs tw ha.nm hb.nm oz;rw[ha.eq,hb.eq]at h1;exact h1
theorem Ni [c : Ct ts u k] [ha : Zl ts u k a x w v] [hb : Zl ts u k b y w' v'] [ha2 : Zl ts u k a2 x2 w2 v2] [hb2 : Zl ts u k b2 y2 w3 v3] (h : w + v + (w' + v') + (w2 + v2 + (w3 + v3)) <= 2500 := by decide) :
  FP 80 [aY ts,aM a b,aM a2 b2] (.tup [nA (sX (dotE x y x2 y2)),.v .nilIface]):=by
 obtain⟨R,tw,hk⟩:=c.ex;have h0:=F9 c hk;have h1:=um (e:=2500*1000000) tw (ha.up c oz) (hb.up c oz) (ha2.up c oz) (hb2.up c oz) oz;rw[ha.eq,hb.eq,ha2.eq,hb2.eq]at h1;exact h1
def atXE(c s X:Et ts)(p q:Rat):Et ts:=(c*qE p-s*qE q)+X
def atYE(c s Y:Et ts)(p q:Rat):Et ts:=(s*qE p+c*qE q)+Y
instance Zu.atXE[c:Ct ts u k]{x y z:Et ts}{p q:Rat}{w1 v1 w2 v2 w3 v3 w4 w5:Nat}[Zu u k x w1 v1][Zu u k y w2 v2][Zu u k z w3 v3][Qz u p w4][Qz u q w5]:Zu u k (atXE x y z p q) (w1+w4+(w2+w5)+w3) (v1+0+1+(v2+0+1)+1+v3+1) :=
  (inferInstance:Zu u k ((x*Lw.qE p-y*Lw.qE q)+z) _ _)
instance Zu.atYE[c:Ct ts u k]{x y z:Et ts}{p q:Rat}{w1 v1 w2 v2 w3 v3 w4 w5:Nat}[Zu u k x w1 v1][Zu u k y w2 v2][Zu u k z w3 v3][Qz u p w4][Qz u q w5]:Zu u k (atYE x y z p q) (w2+w4+(w1+w5)+w3) (v2+0+1+(v1+0+1)+1+v3+1) :=
  (inferInstance:Zu u k ((y*Lw.qE p+x*Lw.qE q)+z) _ _)
end
end Go.Lw
