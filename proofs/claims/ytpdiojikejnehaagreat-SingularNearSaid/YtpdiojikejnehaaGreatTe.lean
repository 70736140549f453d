/- SingularNear: for any linkage and any turns the law returns true and leaves its arguments as they were. No other condition. Part 5 of 8: what the later parts need -/
import Derived.Test.YtpdiojikejnehaaGreatTd
set_option linter.unusedVariables false
open List (mem_append foldl_cons map_map)
open List renaming mem_of_getElem? → WU, map_cons → XH, mem_cons → Xu, length_cons → W9, length_append → Xo, length_nil → Xi, getD_eq_getElem?_getD → WV, all_eq_true → Xx, getElem?_take → Xp, getElem?_drop → Xy, getElem?_map → W0, getElem?_eq_getElem → WY, getElem?_replicate → Xq, map_append → Xl, length_take → Xh, take_of_length_le → Xb, drop_zero → XG, take_length → Xg, not_mem_nil → Xf, length_map → WW, length_replicate → Xt, map_replicate → XB, map_set → XF, length_set → XI
open Nat renaming eq_of_beq_eq_true → W5, le_refl → WZ, lt_of_lt_of_le → Xc, lt_or_ge → W3, le_trans → Xj, zero_le → W7
open Option renaming map_eq_some_iff → WX
open Bool renaming and_eq_true → W4
open Array renaming getD_eq_getD_getElem? → W6
open Int renaming toNat_natCast → Xk
open Go.Proofs.Tryz
namespace Go.Lw
open Go.Proofs
theorem qj(ts:LL)(m r:Nat)(ht:lE ts m r)(hm:m<=5)(hml:m<=ts.length)(k:Nat):∀(j:Nat)(a b:List Rat)(e f:Nat),j<=m->j<=k->Nl j a->Nl j b->Cb e a->Cb f b->e+f+eB r j<4398046511104 ->
  FP 238 [aV ts,nA a,nA b] (nA (pT ts k a b)):=by
 induction k using Nat.strongRecOn
 rename_i k ih;intro j a b e f hj hjk ha hb ca cb hs;have hla:=ha.len5 oz;have hlb:=hb.len5 oz;refine aj func238 ?_;refine gl ?_;refine gl ?_;refine Pg [3] [3] (fun(x y:List Rat)(e1 f1:Nat)=>[(1,some (nA x)),(2,some (nA y))]) (fun _ _ _ _=>[]) (fun x y e1 f1=>y.length<=x.length/\Nl j x/\Nl j y/\Cb e1 x/\Cb f1 y/\e1+f1=e+f/\pT ts k a b=pT ts k x y) ?_ ?_
 ·intro K1 J1;refine gC (fun t18=>?_) (fun t18=>?_)
  ·have h1 : a.length < b.length := by have := t18; simp only [aa, decide_eq_true_eq] at this; omega
   exact IK J1 b a f e ⟨by omega,hb,ha,cb,ca,by omega,yB ts k a b h1⟩
  have h1:b.length<=a.length:=by have:=t18;simp only[aa,decide_eq_false_iff_not]at this;omega
  exact IK J1 a b e f ⟨h1,ha,hb,ca,cb,rfl,rfl⟩
 rintro x y e1 f1 ⟨hyx,hx,hy,cx,cy,hef,hp⟩;have hlx:=hx.len5 oz;have hly:=hy.len5 oz;have qx:∀q∈x,Qs q:=fun q hq=>cx.qs oz hq
 have qy:∀q∈y,Qs q:=fun q hq=>cy.qs oz hq
 rw[hp];refine gc (G0 x qx oz) ?_;refine b9 (fun _=>(G0 y qy oz)) ?_;refine gC (fun t21=>?_) (fun t21=>?_)
 ·have h1:bK x=true\/bK y=true:=by
   have:=t21;cases hz:bK x
   ·rw[hz]at this;exact .inr this
   ·exact .inl rfl
  refine gR ?_;exact l9 (by rw[Mw hyx h1];exact Sub.nil _ _ _)
 have h1:¬(bK x=true\/bK y=true):=by
  have:=t21;cases hz:bK x
  ·rw[hz]at this;intro h;rcases h with h |h;cases h;(rw[show bK y=false from this]at h;cases h)
  ·rw[hz]at this;cases this
 refine gl ?_;refine gC (fun t28=>?_) (fun t28=>?_)
 ·have h2 : x.length = 1 := by have := t28; simp only [aa, beq_iff_eq] at this; omega
  obtain⟨p,rfl⟩:=List.length_eq_one_iff.1 h2;have h3:y≠[]:=fun h=>h1 (.inr (by rw[h];rfl))
  obtain⟨q,rfl⟩:∃q,y=[q]:=List.length_eq_one_iff.1 (by have:=List.length_pos_iff.2 h3;simp at hyx;omega);refine gi rfl ?_;refine gi rfl ?_;refine gc (FR (rt p) (rt q) (qx p (by simp)).ok (qy q (by simp)).ok) ?_;refine gD ?_;refine af ?_;rw[MG h1,co,co];rfl
 have h2:x.length≠1:=by have:=t28;simp only[aa,beq_eq_false_iff_ne,ne_eq]at this;omega
 have h3:x≠[]:=fun h=>h1 (.inl (by rw[h];rfl))
 obtain⟨i,hij,hxl⟩:∃i,i+1<=j/\x.length=2^(i+1):=by
  rcases Bx hx with h |h |h
  ·exact absurd (List.length_eq_zero_iff.1 h) h3
  ·exact absurd h h2
  ·exact h
 obtain⟨k',rfl⟩:∃k',k=k'+1:=⟨k-1,by omega⟩
 have hp2:=Nat.two_pow_pos i;have hpi:2^i<=32:=cQ (b:=5) oz;have hps:2^(i+1)=2*2^i:=by rw[Nat.pow_succ];omega
 have hes:eB r (i+1)<=eB r j:=gO r hij;have hee:eB r (i+1)=2*eB r i+r+2:=rfl;have n1:Nl i (x.take (2^i)):=.inr ⟨i,WZ _,kj hxl⟩;have n2:Nl i (x.drop (2^i)):=.inr ⟨i,WZ _,kS hxl⟩;refine gl ?_;refine gs (kt (.tmp rfl) (.const _) oz (show _=((2^i:Nat):Int) by rw[oQ oz,hxl,kU]) rfl) ?_;refine gs (fm (.tmp rfl) (.none _) (.some _ (.tmp rfl) oz) T67 rfl T45 rfl oz (by simp only[WW];omega) rfl) ?_;refine gs (fm (.tmp rfl) (.some _ (.tmp rfl) oz) (.none _) T67 rfl T45 rfl (by simp only[WW];omega) oz rfl) ?_;refine gD ?_ (9,0);refine gW (Wk.of (sl:=[(1,some (nA x)),(2,some (nA y)),(3,some (.ptr 3 0)),(7,some (i64 ((2^i:Nat):Int))),(8,some (nA (x.take (2^i)))),(9,some (nA (x.drop (2^i))))]) (hp:=[(3,some (.box [.lst 1 (ts.map nA)]))]) (.k (.k (.k (.k (.cons rfl (Sub.of (p4 x (2^i))) (.cons rfl (Sub.of (tp x (2^i))) .nil)))))) (.k .nil)) ?_;refine gl ?_;refine gC (fun t52=>?_) (fun t52=>?_)
 ·have h4 : y.length <= 2 ^ i := by have := t52; simp only [aa, decide_eq_true_eq] at this; omega
  have n3:Nl i y:=WJ hy h4;have s1:=fW ts m ht.1 i k' _ _ oz oz n1 n3;have s2:=fW ts m ht.1 i k' _ _ oz oz n2 n3;refine gc (ih k' oz i _ _ e1 f1 oz oz n1 n3 cx.take cy oz) ?_;refine gc (ih k' oz i _ _ e1 f1 oz oz n2 n3 cx.drop cy oz) ?_;refine gc (BZ _ _ (2^i) s1.1.le s2.1.le oz) ?_;refine gD ?_;refine af ?_;rw[Oy hxl h4 h1]
 have h4:¬y.length<=2^i:=by have:=t52;simp only[aa,decide_eq_false_iff_not]at this;omega
 have hyl:=J9 hy h4 oz;have n3:Nl i (y.take (2^i)):=.inr ⟨i,WZ _,kj hyl⟩;have n4:Nl i (y.drop (2^i)):=.inr ⟨i,WZ _,kS hyl⟩;have nd:=ht.1 i oz;have cd:=ht.2.cb i;have s1:=fW ts m ht.1 i k' _ _ oz oz n1 n3;have s2:=fW ts m ht.1 i k' _ _ oz oz n2 n4;have s3:=fW ts m ht.1 i k' _ _ oz oz s2.1 nd;have s4:=fW ts m ht.1 i k' _ _ oz oz n1 n4;have s5:=fW ts m ht.1 i k' _ _ oz oz n2 n3;have c1:=Cb.mul ht (k:=k') (show i<=m by omega) oz n1 n3 cx.take cy.take;have c2:=Cb.mul ht (k:=k') (show i<=m by omega) oz n2 n4 cx.drop cy.drop;have c3:=Cb.mul ht (k:=k') (show i<=m by omega) oz s2.1 nd c2 cd;have c4:=Cb.mul ht (k:=k') (show i<=m by omega) oz n1 n4 cx.take cy.drop;have c5:=Cb.mul ht (k:=k') (show i<=m by omega) oz n2 n3 cx.drop cy.take;have hpT:=TO (ts:=ts) (k:=k') hxl h4 hyx h1;refine gs (fm (.tmp rfl) (.none _) (.some _ (.tmp rfl) oz) T67 rfl T45 rfl oz (by simp only[WW];omega) rfl) ?_;refine gs (fm (.tmp rfl) (.some _ (.tmp rfl) oz) (.none _) T67 rfl T45 rfl (by simp only[WW];omega) oz rfl) ?_;refine gD ?_ (12,0);refine gW (Wk.of (sl:=[(1,some (nA x)),(3,some (.ptr 3 0)),(7,some (i64 ((2^i:Nat):Int))),(8,some (nA (x.take (2^i)))),(9,some (nA (x.drop (2^i)))),(10,some (nA (y.take (2^i)))),(11,some (nA (y.drop (2^i))))]) (hp:=[(3,some (.box [.lst 1 (ts.map nA)]))]) (.k (.k (.k (.k (.k (.cons rfl (Sub.of (p4 y (2^i))) (.cons rfl (Sub.of (tp y (2^i))) .nil))))))) (.k .nil)) ?_;refine gc (tY qA x oz) ?_;refine ga (show _=(i:Int) by rw[hxl,sr,ee oz];omega) ?_;refine gi (z4 (j:=i) oz) ?_;refine gD ?_;refine gc (ih k' oz i _ _ e1 f1 oz oz n1 n3 cx.take cy.take oz) ?_;refine gc (ih k' oz i _ _ e1 f1 oz oz n2 n4 cx.drop cy.drop oz) ?_;refine gc (ih k' oz i _ _ _ _ oz oz s2.1 nd c2 cd oz) ?_;refine gc (oU _ _ (fun q hq=>c1.qs oz hq) (fun q hq=>c3.qs oz hq) (by have:=s1.1.le;omega) (by have:=s3.1.le;omega)) ?_;refine gD ?_;refine gc (ih k' oz i _ _ e1 f1 oz oz n1 n4 cx.take cy.drop oz) ?_;refine gc (ih k' oz i _ _ e1 f1 oz oz n2 n3 cx.drop cy.take oz) ?_;refine gc (oU _ _ (fun q hq=>c4.qs oz hq) (fun q hq=>c5.qs oz hq) (by have:=s4.1.le;omega) (by have:=s5.1.le;omega)) ?_;refine gc (BZ _ _ (2^i) (by have:=s1.1.le;have:=s3.1.le;rw[f6];omega) (by have:=s4.1.le;have:=s5.1.le;rw[f6];omega) oz) ?_;refine gD ?_;refine af ?_;rw[hpT]
theorem xN(ts:LL)(m r:Nat)(ht:lE ts m r)(hm:m<=5)(hml:m<=ts.length)(i:Nat)(a:List Rat)(e:Nat)(hi:i+1<=m)(hal:a.length=2^(i+1))(ca:Cb e a)(hs:4*e+3*eB r i+r+1<4398046511104) :
  FP 319 [aV ts,nA a] (nA (ir ts i a)):=by
 have hp2:=Nat.two_pow_pos i;have hpi:2^i<=32:=cQ (b:=5) oz;have hps:2^(i+1)=2*2^i:=by rw[Nat.pow_succ];omega
 have n1:Nl i (a.take (2^i)):=.inr ⟨i,WZ _,kj hal⟩;have n2:Nl i (a.drop (2^i)):=.inr ⟨i,WZ _,kS hal⟩;have nd:=ht.1 i oz;have cd:=ht.2.cb i;have s1:=fW ts m ht.1 i i _ _ oz oz n1 n1;have s2:=fW ts m ht.1 i i _ _ oz oz n2 n2;have s3:=fW ts m ht.1 i i _ _ oz oz s2.1 nd;have c1:=Cb.mul ht (k:=i) (show i<=m by omega) oz n1 n1 ca.take ca.take;have c2:=Cb.mul ht (k:=i) (show i<=m by omega) oz n2 n2 ca.drop ca.drop;have c3:=Cb.mul ht (k:=i) (show i<=m by omega) oz s2.1 nd c2 cd;refine aj func319 ?_;refine gl ?_;refine gs (kt (.tmp rfl) (.const _) oz (show _=((2^i:Nat):Int) by rw[oQ oz,hal,kU]) rfl) ?_;refine gs (fm (.tmp rfl) (.none _) (.some _ (.tmp rfl) oz) T67 rfl T45 rfl oz (by simp only[WW];omega) rfl) ?_;refine gs (fm (.tmp rfl) (.some _ (.tmp rfl) oz) (.none _) T67 rfl T45 rfl (by simp only[WW];omega) oz rfl) ?_;refine gD ?_ (3,0);refine gW (Wk.of (sl:=[(1,some (nA a)),(2,some (.ptr 2 0)),(6,some (nA (a.take (2^i)))),(7,some (nA (a.drop (2^i))))]) (hp:=[(2,some (.box [.lst 1 (ts.map nA)]))]) (.k (.k (.cons rfl (Sub.of (p4 a (2^i))) (.cons rfl (Sub.of (tp a (2^i))) .nil)))) (.k .nil)) ?_;refine gc (qj ts m r ht hm hml i i _ _ e e oz oz n1 n1 ca.take ca.take oz) ?_;refine gc (qj ts m r ht hm hml i i _ _ e e oz oz n2 n2 ca.drop ca.drop oz) ?_;refine gc (tY qA a oz) ?_;refine ga (show _=(i:Int) by rw[hal,sr,ee oz];omega) ?_;refine gi (z4 (j:=i) oz) ?_;refine gc (qj ts m r ht hm hml i i _ _ _ _ oz oz s2.1 nd c2 cd oz) ?_;refine gc (rP _ (fun q hq=>c3.qs oz hq) (by have:=s3.1.le;omega)) ?_;refine gc (oU _ _ (fun q hq=>c1.qs oz hq) (fun q hq=>c3.minus.qs oz hq) (by have:=s1.1.le;omega) (by have:=s3.1.le;rw[i7];omega)) ?_;refine gD ?_;refine af ?_;rfl
theorem oB(ts:LL)(m r:Nat)(ht:lE ts m r)(hm:m<=5)(hml:m<=ts.length)(j:Nat):∀(a:List Rat)(e:Nat),j<=m->Nl j a->Cb e a->sB r j e<4398046511104 ->
  FP 230 [aV ts,nA a] (i64 (T.sgn (ay ts) j (ae j a))):=by
 induction j using Nat.strongRecOn
 rename_i j ih;intro a e hj ha ca hs;have hse:=tt r j e;have qa:∀q∈a,Qs q:=fun q hq=>ca.qs oz hq
 obtain⟨s,hsa⟩:∃s,s=sh j (ae j a):=⟨_,rfl⟩
 have hsd:ae j s=ae j a:=by rw[hsa,bf]
 have hsn:Nl j s:=by rw[hsa];exact eH j _
 have cs:Cb e s:=by rw[hsa];exact ca.sh ha
 have hls:=hsn.len5 oz;rw[<- hsd];refine aj func230 ?_;refine gc (hsa▸lC a oz ha qa) ?_;refine gl ?_;refine gC (fun t12=>?_) (fun t12=>?_)
 ·have h1 : s=[] := List.length_eq_zero_iff.1 (by have := t12;simp only[aa,beq_iff_eq]at this;omega);refine af ?_;rw[h1,iA,T.sgn_zero];rfl
 have h1:s.length≠0:=by have:=t12;simp only[aa,beq_eq_false_iff_ne,ne_eq]at this;omega
 refine gl ?_;refine gC (fun t15=>?_) (fun t15=>?_)
 ·have h2 : s.length = 1 := by have := t15; simp only [aa, beq_iff_eq] at this; omega
  obtain⟨q,rfl⟩:=List.length_eq_one_iff.1 h2;refine gi rfl ?_;refine gc (vm (rt q) (cs.qs oz (by simp:q∈[q])).ok) ?_;refine af ?_;rw[lO,T.sgn_ofQ,co]
 have h2:s.length≠1:=by have:=t15;simp only[aa,beq_eq_false_iff_ne,ne_eq]at this;omega
 obtain⟨i,hij,hsl⟩:∃i,i+1<=j/\s.length=2^(i+1):=by
  rcases Bx hsn with h |h |h
  ·exact absurd h h1
  ·exact absurd h h2
  ·exact h
 have hp2:=Nat.two_pow_pos i;have hpi:2^i<=32:=cQ (b:=5) oz;have hps:2^(i+1)=2*2^i:=by rw[Nat.pow_succ];omega
 have n1:Nl i (s.take (2^i)):=.inr ⟨i,WZ _,kj hsl⟩;have n2:Nl i (s.drop (2^i)):=.inr ⟨i,WZ _,kS hsl⟩;have nd:=ht.1 i oz;have cd:=ht.2.cb i;obtain⟨nn,dn,cn⟩:=vY ht oz hsl cs;have b1:sB r i (4*e+3*eB r i+r+1)<=sB r j e:=xd r e hij;have b2:sB r i e<=sB r i (4*e+3*eB r i+r+1):=sN r i oz;have b3:sB r i r<=sB r i (4*e+3*eB r i+r+1):=sN r i oz;have b4:=tt r i (4*e+3*eB r i+r+1);have k1:=ih i oz (s.take (2^i)) e oz n1 cs.take oz;have k2:=ih i oz (s.drop (2^i)) e oz n2 cs.drop oz;have k3:=ih i oz _ r oz nd cd oz;have k4:=ih i oz _ _ oz nn cn oz
 have hres:T.sgn (ay ts) j (ae j s)=T.sgn3 (T.sgn (ay ts) i (ae i (s.take (2^i)))) (T.sgn (ay ts) i (ae i (s.drop (2^i)))) (T.sgn (ay ts) i (ae i (ts.getD i []))) (T.sgn (ay ts) i (ae i (ir ts i s))):=by
  rw[vr _ oz hij,dn];rfl
 have v1:=T.sgn_cases (ay ts) i (ae i (s.take (2^i)));have v4:=T.sgn_cases (ay ts) i (ae i (ir ts i s));refine gl ?_;refine gs (kt (.tmp rfl) (.const _) oz (show _=((2^i:Nat):Int) by rw[oQ oz,hsl,kU]) rfl) ?_;refine gs (fm (.tmp rfl) (.none _) (.some _ (.tmp rfl) oz) T67 rfl T45 rfl oz (by simp only[WW];omega) rfl) ?_;refine gc (by have h9:=k1;rw[<- p4]at h9;exact h9) ?_;refine gs (fm (.tmp rfl) (.some _ (.tmp rfl) oz) (.none _) T67 rfl T45 rfl (by simp only[WW];omega) oz rfl) ?_;refine gc (by have h9:=k2;rw[<- tp]at h9;exact h9) ?_;refine gD ?_;refine gc (tY qA s oz) ?_;refine ga (show _=(i:Int) by rw[hsl,sr,ee oz];omega) ?_;refine gi (z4 (j:=i) oz) ?_;refine gc k3 ?_;refine gD ?_;refine gC (fun t42=>?_) (fun t42=>?_)
 ·have e1 : T.sgn (ay ts) i (ae i (ts.getD i [])) = 0 := by simpa [aa] using t42
  refine af ?_;rw[hres];unfold T.sgn3;rw[XK e1]
 have e1:¬T.sgn (ay ts) i (ae i (ts.getD i []))=0:=by simpa[aa]using t42
 refine gC (fun t44=>?_) (fun t44=>?_)
 ·have e2:T.sgn (ay ts) i (ae i (s.take (2^i)))=T.sgn (ay ts) i (ae i (s.drop (2^i)))\/T.sgn (ay ts) i (ae i (s.drop (2^i)))=0:=OA t44;refine af ?_;rw[hres];unfold T.sgn3;rw[XJ e1,XK e2]
 have e2:¬(T.sgn (ay ts) i (ae i (s.take (2^i)))=T.sgn (ay ts) i (ae i (s.drop (2^i)))\/T.sgn (ay ts) i (ae i (s.drop (2^i)))=0):=OM t44;refine gC (fun t53=>?_) (fun t53=>?_)
 ·have e3 : T.sgn (ay ts) i (ae i (s.take (2 ^ i))) = 0 := by simpa [aa] using t53
  refine af ?_;rw[hres];unfold T.sgn3;rw[XJ e1,XJ e2,XK e3]
 have e3:¬T.sgn (ay ts) i (ae i (s.take (2^i)))=0:=by simpa[aa]using t53
 refine gc (xN ts m r ht hm hml i s e oz hsl cs oz) ?_;refine gc k4 ?_;refine ga (P5 v1 v4) ?_;refine gD ?_;refine af ?_;rw[hres];unfold T.sgn3;rw[XJ e1,XJ e2,XJ e3];rfl
theorem qG(rs:List (List Rt))(r:Nat)(h:TR rs r):FP 144 [dB rs] (bq (bF rs)):=by
 have hll:=h.ll;have hr:=h.le;refine aj func144 ?_;refine gl ?_;refine gC (fun t10=>?_) (fun t10=>?_)
 ·have h5 : 5 < rs.length := by have := t10; simp only [aa, decide_eq_true_eq] at this; omega
  refine af ?_;rw[TV h5];rfl
 have h5:rs.length<=5:=by have:=t10;simp only[aa,decide_eq_false_iff_not]at this;omega
 refine gl ?_;refine aZ [1,13,14] [1] (fun(k:Nat)=>[(15,some (i64 k))]) (fun _=>[]) (fun k=>k<=rs.length/\∀j,j<k->jM rs j) (fun k=>rs.length-k) 0 ⟨W7 _,fun j hj=>by omega⟩ ?_;rintro k ⟨hk,hj⟩ K1 J1;refine gC (fun t16=>?_) (fun t16=>?_)
 ·have hin : k < rs.length := by simpa [aa] using t16
  obtain⟨d,hd⟩:=ax hin;have hdm:=WU hd;have hdl:=h.len d hdm;refine gi (aI hd) ?_;refine gl ?_;refine gs (iC (.const _) (.tmp rfl) oz (ug oz) rfl) ?_;refine gC (fun t24=>?_) (fun t24=>?_)
  ·have h1 : d.length ≠ 2 ^ k := by have := t24; simp only [aa, bne_iff_ne, ne_eq] at this; omega
   refine af ?_;rw[VQ h5 hd hj h1];rfl
  have h1:d.length=2^k:=by have:=t24;simp only[aa,bne_eq_false_iff_eq]at this;omega
  have htl:(rs.take k).length=k:=by simp;omega
  have hnu:=FT (rs.take k) d (h.ok d hdm) hdl oz;rw[htl]at hnu;refine gs (fm (.tmp rfl) (.none _) (.some _ (.tmp rfl) oz) T35 rfl T67 rfl oz (by simp only[WW];omega) rfl) ?_ (9,0);refine gW (Wk.of (sl:=[(1,some (.ptr 1 0)),(3,some (i64 k)),(4,some (nR d)),(5,some (.ptr 5 0)),(13,some (.lst 1 (rs.map nR))),(14,some (i64 rs.length)),(15,some (i64 k))]) (hp:=[(1,some (.box [.lst 1 (rs.map nR)])),(5,some (.box [.lst 1 ((rs.take k).map nR)]))]) a8 (.k (.cons rfl (BlkSub.bL (.cons (.of (PO nR rs k)) .nil) rfl) .nil))) ?_;refine gc hnu ?_;refine gC (fun t35=>?_) (fun t35=>?_)
  ·have h2:=dl t35;refine af ?_;rw[QJ h5 hd hj h1 h2]
  have h2:=cZ t35;have hts:=UF (ts:=llq rs) (fun j hjk=>(hj j hjk).nl) h.rb;have hq:=Bl h2 (h.ok d hdm);have hcb:Cb r (lq d):=by have:=h.rb.cb k;rw[wn,WV,hd]at this;exact this
  have hsg:FP 230 [dB (rs.take k),nR d] (i64 (T.sgn (ay (llq rs)) k (ae k (lq d)))):=by
   have h9:=oB ((llq rs).take k) k r hts oz (by simp;omega) k (lq d) r (WZ _) hq.2 hcb (p9 (WZ k) (by have:=h.three;omega) hr (by have:=jY k;omega));rw[T.sgn_congr k (fun j hjk=>RL hjk)]at h9;rw[J6 h.ok oz hj,hq.1,fq];rw[<- hq.1];exact h9
  refine gc hsg ?_;refine gC (fun t40=>?_) (fun t40=>?_)
  ·have h3 : T.sgn (ay (llq rs)) k (ae k (lq d)) < 0 := by simpa [aa] using t40
   refine af ?_;rw[Ro h5 hd hj h1 h2 h3];rfl
  have h3:¬T.sgn (ay (llq rs)) k (ae k (lq d))<0:=by simpa[aa]using t40
  refine ga aO ?_;exact aP J1 (k+1) ⟨hin,fun j hjk=>by rcases W3 j k with h9 |h9;exact hj j h9;(have:j=k:=by omega);subst this;exact Wm hd h1 h2 h3⟩
 have hin:k=rs.length:=by have:rs.length<=k:=(by simpa[aa]using t16);omega
 subst hin;refine af ?_;rw[Mo h5 hj];rfl
theorem mt(rs:List (List Rt))(r:Nat)(h:TR rs r)(xs:List (List Rt))(hx:∀a∈xs,(∀x∈a,x.ok)/\a.length<=281474976710656)(hl:xs.length<=281474976710656):FP 229 [dB rs,.lst 1 (xs.map nR)] (bq (bQ rs xs)):=by
 refine aj func229 ?_;refine gc (qG rs r h) ?_;refine gC (fun t12=>?_) (fun t12=>?_)
 ·have h1:=dl t12;refine af ?_;rw[U5 h1]
 have h1:=cZ t12;refine gl ?_;refine aZ [2,14,15] [2] (fun(i:Nat)=>[(16,some (i64 i))]) (fun _=>[]) (fun i=>i<=xs.length/\∀x∈xs.take i,cH rs.length x=0) (fun i=>xs.length-i) 0 ⟨W7 _,fun x hx=>by simp at hx⟩ ?_;rintro i ⟨hi,hj⟩ K1 J1;refine gC (fun t17=>?_) (fun t17=>?_)
 ·have hin : i < xs.length := by simpa [aa] using t17
  obtain⟨a,ha⟩:=ax hin;have hok:=hx a (WU ha);refine gi (aI ha) ?_;refine gc (FT rs a hok.1 hok.2 h.ll) ?_;refine gC (fun t24=>?_) (fun t24=>?_)
  ·have h2:=dl t24;refine af ?_;rw[E5 h1 ha hj h2]
  have h2:=cZ t24;refine ga aO ?_;exact aP J1 (i+1) ⟨hin,fun x hx=>by rw[eA ha]at hx;rcases List.mem_append.1 hx with h9 |h9;exact hj x h9;(rw[List.mem_singleton.1 h9];exact h2)⟩
 have hin:i=xs.length:=by have:xs.length<=i:=(by simpa[aa]using t17);omega
 subst hin;rw[Xg]at hj;refine af ?_;rw[vQ h1 hj];rfl
theorem Qw(rs:List (List Rt))(r:Nat)(h:TR rs r)(a:List Rt)(e:Nat)(ha:NR a e):FP 307 [dB rs,nR a] (bl (decide (bQ rs [a]=0))):=by
 refine aj func307 ?_;refine gc (mt rs r h [a] (fun x hx=>by rw[List.mem_singleton.1 hx];exact⟨ha.ok,ha.len⟩) (by simp)) ?_;refine af ?_;rw[AX];rfl
theorem ES(rs:List (List Rt))(r:Nat)(h:TR rs r)(a:List Rt)(e:Nat)(ha:NR a e)(he:e<=lm rs.length) :
  FP 147 [dB rs,nR a] (.tup [nA (if bQ rs [a]=0 then sh rs.length (T.neg rs.length (ae rs.length (lq a)))else[]),bq (bQ rs [a])]):=by
 have hlm:=lc rs.length;refine aj func147 ?_;refine gc (mt rs r h [a] (fun x hx=>by rw[List.mem_singleton.1 hx];exact⟨ha.ok,ha.len⟩) (by simp)) ?_;refine gC (fun t12=>?_) (fun t12=>?_) (st2:=(77777,0))
 ·have h1:=dl t12;refine gR ?_;exact dZ (by rw[XJ h1];exact Sub.tup (.cons (.nil _ _ _) (.cons (.refl _) .nil)))
 have h1:=cZ t12;obtain⟨h2,h3⟩:=oI h1;obtain⟨tw,_⟩:=de h h2;obtain⟨e1,na⟩:=ha.num (h3 a (by simp));have h5:rs.length<=5:=by have:=tw.five;rwa [WW]at this
 have hl:=na.len5 h5;have qa:∀q∈lq a,Qs q:=fun q hq=>ha.cb.qs oz hq
 have qm:∀q∈d7 (lq a),Qs q:=fun q hq=>ha.cb.minus.qs oz hq
 have nm:=rG na;refine gW (Wk.of (sl:=[(1,some (nA (lq a))),(2,some (.ptr 2 0)),(6,some (bq (bQ rs [a])))]) (hp:=[(2,some (.box [.lst 1 (rs.map nR)]))]) (.cons rfl (Sub.of e1) (.k (.k .nil))) (.k .nil)) ?_;refine gc (rP _ qa oz) ?_;refine gc (lC _ h5 nm qm) ?_;refine br ?_;rw[XK h1,h1,oD];rfl
theorem MA(rs:List (List Rt))(r:Nat)(h:TR rs r)(a b:List Rt)(e f:Nat)(ha:NR a e)(hb:NR b f)(he:e+f<=lm rs.length) :
  FP 356 [dB rs,nR a,nR b] (.tup [nA (if bQ rs [a,b]=0 then sh rs.length (T.add rs.length (ae rs.length (lq a)) (ae rs.length (lq b)))else[]),bq (bQ rs [a,b])]):=by
 have hlm:=lc rs.length;refine aj func356 ?_;refine gc (mt rs r h [a,b] (si ha hb) (by simp)) ?_;refine gC (fun t15=>?_) (fun t15=>?_) (st2:=(77777,0))
 ·have h1:=dl t15;refine gR ?_;exact dZ (by rw[XJ h1];exact Sub.tup (.cons (.nil _ _ _) (.cons (.refl _) .nil)))
 have h1:=cZ t15;obtain⟨h2,h3⟩:=oI h1;obtain⟨tw,e0⟩:=de h h2;obtain⟨e1,na⟩:=ha.num (h3 a (by simp));obtain⟨e2,nb⟩:=hb.num (h3 b (by simp));have h5:rs.length<=5:=by have:=tw.five;rwa [WW]at this
 have hla:=na.len5 h5;have hlb:=nb.len5 h5;have qa:∀q∈lq a,Qs q:=fun q hq=>ha.cb.qs oz hq
 have qb:∀q∈lq b,Qs q:=fun q hq=>hb.cb.qs oz hq
 have qp:∀q∈dG (lq a) (lq b),Qs q:=fun q hq=>(ha.cb.plus hb.cb).qs oz hq
 have np:=ud na nb;refine gW (Wk.of (sl:=[(1,some (nA (lq a))),(2,some (nA (lq b))),(3,some (.ptr 3 0)),(8,some (bq (bQ rs [a,b])))]) (hp:=[(3,some (.box [.lst 1 (rs.map nR)]))]) (.cons rfl (Sub.of e1) (.cons rfl (Sub.of e2) (.k (.k .nil)))) (.k .nil)) ?_;refine gc (oU _ _ qa qb oz oz) ?_;refine gc (lC _ h5 np qp) ?_;refine br ?_;rw[XK h1,h1,lH];rfl
theorem Nr(rs:List (List Rt))(r:Nat)(h:TR rs r)(a b:List Rt)(e f:Nat)(ha:NR a e)(hb:NR b f)(he:e+f<=lm rs.length) :
  FP 176 [dB rs,nR a,nR b] (.tup [nA (if bQ rs [a,b]=0 then sh rs.length (T.add rs.length (ae rs.length (lq a)) (T.neg rs.length (ae rs.length (lq b))))else[]),bq (bQ rs [a,b])]):=by
 have hlm:=lc rs.length;refine aj func176 ?_;refine gc (mt rs r h [a,b] (si ha hb) (by simp)) ?_;refine gC (fun t15=>?_) (fun t15=>?_) (st2:=(77777,0))
 ·have h1:=dl t15;refine gR ?_;exact dZ (by rw[XJ h1];exact Sub.tup (.cons (.nil _ _ _) (.cons (.refl _) .nil)))
 have h1:=cZ t15;obtain⟨h2,h3⟩:=oI h1;obtain⟨tw,e0⟩:=de h h2;obtain⟨e1,na⟩:=ha.num (h3 a (by simp));obtain⟨e2,nb⟩:=hb.num (h3 b (by simp));have h5:rs.length<=5:=by have:=tw.five;rwa [WW]at this
 have hla:=na.len5 h5;have hlb:=nb.len5 h5;have qa:∀q∈lq a,Qs q:=fun q hq=>ha.cb.qs oz hq
 have qb:∀q∈lq b,Qs q:=fun q hq=>hb.cb.qs oz hq
 have qm:∀q∈d7 (lq b),Qs q:=fun q hq=>hb.cb.minus.qs oz hq
 have qp:∀q∈dG (lq a) (d7 (lq b)),Qs q:=fun q hq=>(ha.cb.plus hb.cb.minus).qs oz hq
 have np:=ud na (rG nb);refine gW (Wk.of (sl:=[(1,some (nA (lq a))),(2,some (nA (lq b))),(3,some (.ptr 3 0)),(8,some (bq (bQ rs [a,b])))]) (hp:=[(3,some (.box [.lst 1 (rs.map nR)]))]) (.cons rfl (Sub.of e1) (.cons rfl (Sub.of e2) (.k (.k .nil)))) (.k .nil)) ?_;refine gc (rP _ qb oz) ?_;refine gc (oU _ _ qa qm oz (by rw[i7];omega)) ?_;refine gc (lC _ h5 np qp) ?_;refine br ?_;rw[XK h1,h1,lH,oD];rfl
theorem NX(rs:List (List Rt))(r:Nat)(h:TR rs r)(a b:List Rt)(e f:Nat)(ha:NR a e)(hb:NR b f)(he:e+f<=lm rs.length) :
  FP 127 [dB rs,nR a,nR b] (.tup [nA (if bQ rs [a,b]=0 then sh rs.length (T.mul (ay (llq rs)) rs.length (ae rs.length (lq a)) (ae rs.length (lq b)))else[]),bq (bQ rs [a,b])]):=by
 have hr:=h.le;have hlm:=lc rs.length;refine aj func127 ?_;refine gc (mt rs r h [a,b] (si ha hb) (by simp)) ?_;refine gC (fun t15=>?_) (fun t15=>?_) (st2:=(77777,0))
 ·have h1:=dl t15;refine gR ?_;exact dZ (by rw[XJ h1];exact Sub.tup (.cons (.nil _ _ _) (.cons (.refl _) .nil)))
 have h1:=cZ t15;obtain⟨h2,h3⟩:=oI h1;obtain⟨tw,e0⟩:=de h h2;obtain⟨e1,na⟩:=ha.num (h3 a (by simp));obtain⟨e2,nb⟩:=hb.num (h3 b (by simp));have hlen:(llq rs).length=rs.length:=WW _;have h5:rs.length<=5:=by have:=tw.five;omega
 have hla:=na.len5 h5;have hlb:=nb.len5 h5;have htw:=tw.ok;rw[hlen]at htw;have hE:=Pu r h5;have np:=fW (llq rs) rs.length htw.1 rs.length rs.length _ _ (WZ _) (WZ _) na nb;have cp:=Cb.mul htw (k:=rs.length) (WZ rs.length) (WZ _) na nb ha.cb hb.cb;have hti:=qj (llq rs) rs.length r htw h5 oz rs.length rs.length _ _ e f (WZ _) (WZ _) na nb ha.cb hb.cb oz;refine gW (Wk.of (sl:=[(1,some (nA (lq a))),(2,some (nA (lq b))),(3,some (.ptr 3 0)),(8,some (bq (bQ rs [a,b])))]) (hp:=[(3,some (.box [.lst 1 ((llq rs).map nA)]))]) (.cons rfl (Sub.of e1) (.cons rfl (Sub.of e2) (.k (.k .nil)))) (.cons rfl (BlkSub.bL (.cons (.of (nG e0)) .nil) rfl) .nil)) ?_;refine gc hti ?_;refine gc (lC _ h5 np.1 (fun q hq=>cp.qs oz hq)) ?_;refine br ?_;rw[XK h1,h1,np.2];rfl
theorem U0(rs:List (List Rt))(r:Nat)(h:TR rs r)(a b:List Rt)(e f:Nat)(ha:NR a e)(hb:NR b f)(he:e+f+1<=lm rs.length) :
  FP 128 [dB rs,nR a,nR b] (.tup [i64 (if bQ rs [a,b]=0 then T.sgn (ay (llq rs)) rs.length (T.add rs.length (ae rs.length (lq a)) (T.neg rs.length (ae rs.length (lq b))))else 0),bq (bQ rs [a,b])]):=by
 have hr:=h.le;have hlm:=lc rs.length;refine aj func128 ?_;refine gc (mt rs r h [a,b] (si ha hb) (by simp)) ?_;refine gC (fun t15=>?_) (fun t15=>?_) (st2:=(77777,0))
 ·have h1:=dl t15;refine br ?_;rw[XJ h1];rfl
 have h1:=cZ t15;obtain⟨h2,h3⟩:=oI h1;obtain⟨tw,e0⟩:=de h h2;obtain⟨e1,na⟩:=ha.num (h3 a (by simp));obtain⟨e2,nb⟩:=hb.num (h3 b (by simp));have hlen:(llq rs).length=rs.length:=WW _;have h5:rs.length<=5:=by have:=tw.five;omega
 have hla:=na.len5 h5;have hlb:=nb.len5 h5;have htw:=tw.ok;rw[hlen]at htw;have qa:∀q∈lq a,Qs q:=fun q hq=>ha.cb.qs oz hq
 have qb:∀q∈lq b,Qs q:=fun q hq=>hb.cb.qs oz hq
 have qm:∀q∈d7 (lq b),Qs q:=fun q hq=>hb.cb.minus.qs oz hq
 have np:=ud na (rG nb);have hsg:=oB (llq rs) rs.length r htw h5 oz rs.length _ _ (WZ _) np (ha.cb.plus hb.cb.minus) (p9 (WZ rs.length) (by have:=tw.three;omega) hr oz);refine gW (Wk.of (sl:=[(1,some (nA (lq a))),(2,some (nA (lq b))),(3,some (.ptr 3 0)),(8,some (bq (bQ rs [a,b])))]) (hp:=[(3,some (.box [.lst 1 ((llq rs).map nA)]))]) (.cons rfl (Sub.of e1) (.cons rfl (Sub.of e2) (.k (.k .nil)))) (.cons rfl (BlkSub.bL (.cons (.of (nG e0)) .nil) rfl) .nil)) ?_;refine gc (rP _ qb oz) ?_;refine gc (oU _ _ qa qm oz (by rw[i7];omega)) ?_;refine gc hsg ?_;refine gD ?_;refine br ?_;rw[XK h1,h1,lH,oD];rfl
theorem Uy(rs:List (List Rt))(r:Nat)(h:TR rs r)(a:List Rt)(e:Nat)(ha:NR a e)(he:e<=lm rs.length) :
  FP 116 [dB rs,nR a] (.tup [i64 (if bQ rs [a]=0 then T.sgn (ay (llq rs)) rs.length (ae rs.length (lq a))else 0),bq (bQ rs [a])]):=by
 have hr:=h.le;have hlm:=lc rs.length;refine aj func116 ?_;refine gc (mt rs r h [a] (fun x hx=>by rw[List.mem_singleton.1 hx];exact⟨ha.ok,ha.len⟩) (by simp)) ?_;refine gC (fun t12=>?_) (fun t12=>?_) (st2:=(77777,0))
 ·have h1:=dl t12;refine br ?_;rw[XJ h1];rfl
 have h1:=cZ t12;obtain⟨h2,h3⟩:=oI h1;obtain⟨tw,e0⟩:=de h h2;obtain⟨e1,na⟩:=ha.num (h3 a (by simp));have hlen:(llq rs).length=rs.length:=WW _;have h5:rs.length<=5:=by have:=tw.five;omega
 have htw:=tw.ok;rw[hlen]at htw;have hsg:=oB (llq rs) rs.length r htw h5 oz rs.length _ _ (WZ _) na ha.cb (p9 (WZ rs.length) (by have:=tw.three;omega) hr oz);refine gW (Wk.of (sl:=[(1,some (nA (lq a))),(2,some (.ptr 2 0)),(6,some (bq (bQ rs [a])))]) (hp:=[(2,some (.box [.lst 1 ((llq rs).map nA)]))]) (.cons rfl (Sub.of e1) (.k (.k .nil))) (.cons rfl (BlkSub.bL (.cons (.of (nG e0)) .nil) rfl) .nil)) ?_;refine gc hsg ?_;refine br ?_;rw[XK h1,h1];rfl
theorem S9(x:Rt)(hx:x.ok)(hs:Qs x.q):FP 165 [x.av] (nA (sh 0 (x.q:Rat))):=by
 have hadd:=oO x (rt 0) hx Qs.zero.ok;rw[wt]at hadd;refine aj func165 ?_;refine gc (Con.sA (.cons (.refl _) (.cons j7 .nil)) hadd) ?_;refine gc (lC (n:=0) [x.q] oz (.inr ⟨0,WZ _,rfl⟩) (fun q hq=>by rw[List.mem_singleton.1 hq];exact hs)) ?_;refine af ?_;rfl
theorem ym{p q:Rat}(hp:Qs p)(hq:Qs q):FP 231 [qA p,qA q] (qA (p+q)):=by
 have h:=oO (rt p) (rt q) hp.ok hq.ok;rw[co,co]at h;exact h
theorem vI{p q:Rat}(hp:Qs p)(hq:Qs q):FP 262 [qA p,qA q] (qA (p-q)):=by
 have h:=QL (rt p) (rt q) hp.ok hq.ok;rw[co,co]at h;exact h
theorem rX{p q:Rat}(hp:Qs p)(hq:Qs q):FP 286 [qA p,qA q] (qA (p*q)):=by
 have h:=FR (rt p) (rt q) hp.ok hq.ok;rw[co,co]at h;exact h
theorem RI{p q:Rat}(hp:Qs p)(hq:Qs q):FP 385 [qA p,qA q] (.tup [qA (p/q),bq (if q=0 then 8 else 0)]):=by
 have h:=Hn (rt p) (rt q) hp.ok hq.ok;rw[co,co]at h;exact h
theorem Ly{p:Rat}(hp:Qs p):FP 209 [qA p] (i64 (bN p)):=by
 have h:=vm (rt p) hp.ok;rw[co]at h;exact h
theorem xz(x:Tn)(hx:x.t.ok):FP 105 [x.av] (bq x.err):=by
 refine aj func105 ?_;refine gc (tC x.t hx) ?_;refine b9 (fun _=>(vm x.t hx)) ?_;refine gC (fun t16=>?_) (fun t16=>?_)
 ·have h0:=Tn.err_yes t16;refine af ?_;rw[h0];rfl
 have h0:=Tn.err_no t16;refine af ?_;rw[h0];rfl
theorem EH{p q:Rat}(hp:Qs p)(hq:Qs q):FP 353 [qA p,qA q] (qA (p/q)):=by
 refine aj func353 ?_;refine gc (RI hp hq) ?_;refine gC (fun t14=>?_) (fun t14=>?_)
 ·have h0:q=0:=by
   have:=dl t14
   by_cases h:q=0
   ·exact h
   ·rw[XJ h]at this;exact absurd rfl this
  refine gR ?_;exact l9 (by rw[h0,M0];exact j7)
 refine af ?_;rfl
theorem Jc(half:Bool){t:Rat}{e:Nat}(ht:Qb e t)(he:e<=1000000):FP 256 [Tn.av ⟨rt t,half⟩] (.tup [qA (dF half t),qA (dD half t)]):=by
 have qt:Qs t:=ht.qs oz;have m2:=ht.mul ht;have one:Qb 1 (((1:Int):Rat)):=Qb.one;have d:=one.add m2;refine aj func256 ?_;refine gC (fun t8=>?_) (fun t8=>?_)
 ·have h0:half=true:=t8;refine gc (kv (-1) oz) ?_;refine gR ?_;exact dZ (by subst h0;exact Sub.tup (.cons (.refl _) (.cons j7 .nil)))
 have h0:half=false:=t8;refine gc (kv 1 oz) ?_;refine gc (rX qt qt) ?_;refine gD ?_;refine gc (ym (one.qs oz) (m2.qs oz)) ?_;refine gc (vI (one.qs oz) (m2.qs oz)) ?_;refine gc (EH ((one.sub m2).qs oz) (d.qs oz)) ?_;refine gc (ym qt qt) ?_;refine gc (EH ((ht.add ht).qs oz) (d.qs oz)) ?_;refine gD ?_;refine br ?_;subst h0;rfl
theorem yr(x:Tn)(hx:x.t.ok){e:Nat}(hq:Qb e x.t.q)(he:e<=1000000):FP 148 [x.av] (.tup [qA (if x.err=0 then dF x.half x.t.q else 0),bq x.err]):=by
 refine aj func148 ?_;refine gc (xz x hx) ?_;refine gC (fun t10=>?_) (fun t10=>?_)
 ·have h1:=dl t10;refine gR ?_;exact dZ (by rw[XJ h1];exact Sub.tup (.cons j7 (.cons (.refl _) .nil)))
 have h1:=cZ t10;have hd:=Jc x.half hq he;rw[<- Rt.eq_rt hx (Tn.ok_valid h1)]at hd;refine gc hd ?_;refine br ?_;rw[XK h1,h1];rfl
theorem D7(x:Tn)(hx:x.t.ok){e:Nat}(hq:Qb e x.t.q)(he:e<=1000000):FP 149 [x.av] (.tup [qA (if x.err=0 then dD x.half x.t.q else 0),bq x.err]):=by
 refine aj func149 ?_;refine gc (xz x hx) ?_;refine gC (fun t10=>?_) (fun t10=>?_)
 ·have h1:=dl t10;refine gR ?_;exact dZ (by rw[XJ h1];exact Sub.tup (.cons j7 (.cons (.refl _) .nil)))
 have h1:=cZ t10;have hd:=Jc x.half hq he;rw[<- Rt.eq_rt hx (Tn.ok_valid h1)]at hd;refine gc hd ?_;refine br ?_;rw[XK h1,h1];rfl
theorem BK{ts:LL}{r e f:Nat}(tw:Tw ts r){a b:List Rat}(ha:Nm ts.length e a)(hb:Nm ts.length f b)(he:e+f<=lm ts.length) :
  FP 356 [aV ts,nA a,nA b] (.tup [nA (sh ts.length (T.add ts.length (ae ts.length a) (ae ts.length b))),.v .nilIface]):=by
 have h:=MA (ts.map (List.map rt)) r tw.tr (a.map rt) (b.map rt) e f (ha.rt oz) (hb.rt oz) (by rw[WW];exact he);have h0:bQ (ts.map (List.map rt)) [a.map rt,b.map rt]=0:=ui tw ha hb;rw[h0,XK rfl,ki,fq,fq,ef,ef,WW]at h;exact h
theorem o5{ts:LL}{r e f:Nat}(tw:Tw ts r){a b:List Rat}(ha:Nm ts.length e a)(hb:Nm ts.length f b)(he:e+f<=lm ts.length) :
  FP 176 [aV ts,nA a,nA b] (.tup [nA (sh ts.length (T.add ts.length (ae ts.length a) (T.neg ts.length (ae ts.length b)))),.v .nilIface]):=by
 have h:=Nr (ts.map (List.map rt)) r tw.tr (a.map rt) (b.map rt) e f (ha.rt oz) (hb.rt oz) (by rw[WW];exact he);have h0:bQ (ts.map (List.map rt)) [a.map rt,b.map rt]=0:=ui tw ha hb;rw[h0,XK rfl,ki,fq,fq,ef,ef,WW]at h;exact h
theorem wS{ts:LL}{r e f:Nat}(tw:Tw ts r){a b:List Rat}(ha:Nm ts.length e a)(hb:Nm ts.length f b)(he:e+f<=lm ts.length) :
  FP 127 [aV ts,nA a,nA b] (.tup [nA (sh ts.length (T.mul (ay ts) ts.length (ae ts.length a) (ae ts.length b))),.v .nilIface]):=by
 have h:=NX (ts.map (List.map rt)) r tw.tr (a.map rt) (b.map rt) e f (ha.rt oz) (hb.rt oz) (by rw[WW];exact he);have h0:bQ (ts.map (List.map rt)) [a.map rt,b.map rt]=0:=ui tw ha hb;rw[h0,XK rfl,ki,fq,fq,pK,ef,ef,WW]at h;exact h
theorem wA{ts:LL}{r e f:Nat}(tw:Tw ts r){a b:List Rat}(ha:Nm ts.length e a)(hb:Nm ts.length f b)(he:e+f+1<=lm ts.length) :
  FP 128 [aV ts,nA a,nA b] (.tup [i64 (T.sgn (ay ts) ts.length (T.add ts.length (ae ts.length a) (T.neg ts.length (ae ts.length b)))),.v .nilIface]):=by
 have h:=U0 (ts.map (List.map rt)) r tw.tr (a.map rt) (b.map rt) e f (ha.rt oz) (hb.rt oz) (by rw[WW];exact he);have h0:bQ (ts.map (List.map rt)) [a.map rt,b.map rt]=0:=ui tw ha hb;rw[h0,XK rfl,ki,fq,fq,pK,ef,ef,WW]at h;exact h
theorem qR{ts:LL}{r e:Nat}(tw:Tw ts r){a:List Rat}(ha:Nm ts.length e a)(he:e<=lm ts.length) :
  FP 116 [aV ts,nA a] (.tup [i64 (T.sgn (ay ts) ts.length (ae ts.length a)),.v .nilIface]):=by
 have h:=Uy (ts.map (List.map rt)) r tw.tr (a.map rt) e (ha.rt he) (by rw[WW];exact he);have h0:bQ (ts.map (List.map rt)) [a.map rt]=0:=yD tw ha;rw[h0,XK rfl,ki,fq,pK,ef,WW]at h;exact h
theorem zP{ts:LL}{r e:Nat}(tw:Tw ts r){a:List Rat}(ha:Nm ts.length e a)(he:e<=lm ts.length) :
  FP 147 [aV ts,nA a] (.tup [nA (sh ts.length (T.neg ts.length (ae ts.length a))),.v .nilIface]):=by
 have h:=ES (ts.map (List.map rt)) r tw.tr (a.map rt) e (ha.rt he) (by rw[WW];exact he);have h0:bQ (ts.map (List.map rt)) [a.map rt]=0:=yD tw ha;rw[h0,XK rfl,ki,fq,ef,WW]at h;exact h
theorem LG{ts:LL}{r:Nat}(tw:Tw ts r):FP 144 [aV ts] (.v .nilIface):=by
 have h:=qG (ts.map (List.map rt)) r tw.tr;rw[tw.chk,ki]at h;exact h
theorem mg{q:Rat}(h:Qs q):FP 165 [qA q] (nA (sh 0 (q:Rat))):=by
 have h1:=S9 (rt q) h.ok (by rw[co];exact h);rw[co]at h1;exact h1
theorem vP{ts:LL}{r e:Nat}(tw:Tw ts r)(ls:LL)(hl:∀l∈ls,Nm ts.length e l)(he:e<=lm ts.length)(hn:ls.length<=1000):FP 190 [aV ts,.lst 1 (ls.map nA)] (.v .nilIface):=by
 refine aj func190 ?_;refine gc (LG tw) ?_;refine gC (fun t13=>?_) (fun t13=>?_) (st1:=(3,0));cases t13;refine gl ?_;refine aZ [2,15,16] [2] (fun(i:Nat)=>[(17,some (i64 i))]) (fun _=>[]) (fun i=>i<=ls.length) (fun i=>ls.length-i) 0 (W7 _) ?_;rintro i hi K1 J1;refine gC (fun t18=>?_) (fun t18=>?_)
 ·have hin : i < ls.length := by simpa [aa] using t18
  obtain⟨l,hll⟩:=ax hin;have hok:=hl l (WU hll);refine gi (aI hll) ?_;refine gc (zP tw hok he) ?_;refine gC (fun t28=>?_) (fun t28=>?_) (st1:=(9,0));cases t28;refine ga aO ?_;exact aP J1 (i+1) hin
 have hin:i=ls.length:=by have:ls.length<=i:=(by simpa[aa]using t18);omega
 refine af ?_
 first |rfl |(simp;done)
theorem mI{ts:LL}{r e:Nat}(tw:Tw ts r)(ps:List (List Rat×List Rat))(hl:∀p∈ps,Nm ts.length e p.1/\Nm ts.length e p.2)(he:e<=lm ts.length)(hn:ps.length<=500):FP 171 [aV ts,.lst 2 (ps.map fun p=>aM p.1 p.2)] (.v .nilIface):=by
 refine aj func171 ?_;refine gl ?_;refine gW (Wk.virt 900 1 rfl) ?_;refine aZ [2,8,9] [2] (fun(i:Nat)=>[(5,some (.ms 900 1 0 (2*i))),(10,some (i64 i))]) (fun i=>[(900,some (.row 1 ((iL (ps.take i)).map nA)))]) (fun i=>i<=ps.length) (fun i=>ps.length-i) 0 (W7 _) ?_;rintro i hi K1 J1;refine gC (fun t11=>?_) (fun t11=>?_) (st2:=(7,0))
 ·have hin : i < ps.length := by simpa [aa] using t11
  obtain⟨p,hp⟩:=ax hin;have hfl:(iL (ps.take i)).length=2*i:=by rw[wW,Xh];omega
  refine gi (aI hp) ?_;refine gs (cO (.tmp rfl) rfl (by rw[WW,hfl]) (.tmp rfl) T35 rfl T67 rfl rfl (by simp;omega) rfl rfl) ?_ (6,0);refine gW (Wk.of (sl:=[(2,some (.ptr 2 0)),(5,some (.ms 20 1 0 (2*i+2))),(8,some (.lst 2 (ps.map fun p=>aM p.1 p.2))),(9,some (i64 ps.length)),(10,some (i64 i))]) (hp:=[(2,some (.box [.lst 1 (ts.map nA)])),(20,some (.row 1 ((iL (ps.take (i+1))).map nA)))]) a8 (.k (.cons rfl (BlkSub.of (by rw[eA hp,GT,Xl];rfl)) .nil))) ?_ (6,0);refine gW (Wk.rk (k:=20) (d:=900) rfl rfl) ?_;refine ga aO ?_;exact aP J1 (i+1) hin
 have hin:i=ps.length:=by have:ps.length<=i:=(by simpa[aa]using t11);omega
 subst hin;refine gW ((Wk.freeze (k:=900) rfl).trans<|Wk.of (sl:=[(2,some (.ptr 2 0)),(5,some (.lst 1 ((iL ps).map nA)))]) (hp:=[(2,some (.box [.lst 1 (ts.map nA)]))]) (.k (.cons rfl (Sub.of (by rw[bV (by rw[WW,wW,Xh];omega),Xg])) .nil)) (.k .nil)) ?_;refine gc (vP tw (iL ps) (Fv hl) he (by rw[wW];omega)) ?_;refine af ?_
 first |rfl |(simp;done)
theorem x6(R:List AV)(a:List Rat):Con prog 357 [.ptr 1000 0,nA a,.v .nilIface] [(1000,some (.box [.lst 1 R,.v .nilIface]))] (nA a) [(1000,some (.box [.lst 1 R,.v .nilIface]))]:=by
 refine gF func357 (fun k z h=>bG h) ?_;refine gC (fun t11=>?_) (fun t11=>?_) (st2:=(77777,0))
 ·refine gR ?_;exact az.keep (bm rfl)
 cases t11
theorem wF{ts:LL}{r e f:Nat}(tw:Tw ts r){a b:List Rat}(ha:Nm ts.length e a)(hb:Nm ts.length f b)(he:e+f<=lm ts.length) :
  Con prog 285 [.ptr 1000 0,nA a,nA b] [(1000,some (fX ts))] (nA (sh ts.length (T.add ts.length (ae ts.length a) (ae ts.length b)))) [(1000,some (fX ts))]:=by
 refine gF func285 (fun k z h=>bG h) ?_;refine gc (BK tw ha hb he) ?_;refine gt (aE (x6 _ _) (aJ rfl rfl rfl) aH rfl rfl) ?_;refine gR ?_;exact az.keep (bm rfl)
theorem vG{ts:LL}{r e f:Nat}(tw:Tw ts r){a b:List Rat}(ha:Nm ts.length e a)(hb:Nm ts.length f b)(he:e+f<=lm ts.length) :
  Con prog 283 [.ptr 1000 0,nA a,nA b] [(1000,some (fX ts))] (nA (sh ts.length (T.add ts.length (ae ts.length a) (T.neg ts.length (ae ts.length b))))) [(1000,some (fX ts))]:=by
 refine gF func283 (fun k z h=>bG h) ?_;refine gc (o5 tw ha hb he) ?_;refine gt (aE (x6 _ _) (aJ rfl rfl rfl) aH rfl rfl) ?_;refine gR ?_;exact az.keep (bm rfl)
theorem lR{ts:LL}{r e f:Nat}(tw:Tw ts r){a b:List Rat}(ha:Nm ts.length e a)(hb:Nm ts.length f b)(he:e+f<=lm ts.length) :
  Con prog 280 [.ptr 1000 0,nA a,nA b] [(1000,some (fX ts))] (nA (sh ts.length (T.mul (ay ts) ts.length (ae ts.length a) (ae ts.length b)))) [(1000,some (fX ts))]:=by
 refine gF func280 (fun k z h=>bG h) ?_;refine gc (wS tw ha hb he) ?_;refine gt (aE (x6 _ _) (aJ rfl rfl rfl) aH rfl rfl) ?_;refine gR ?_;exact az.keep (bm rfl)
theorem zO{ts:LL}{r e f:Nat}(tw:Tw ts r){a b c d:List Rat}(ha:Nm ts.length e a)(hb:Nm ts.length e b)(hc:Nm ts.length f c)(hd:Nm ts.length f d)(he:2*(e+f+kB r ts.length)<=lm ts.length) :
  Con prog 177 [.ptr 1000 0,aM a b,aM c d] [(1000,some (fX ts))] (nA (sh ts.length (mZ ts (ae ts.length a) (ae ts.length b) (ae ts.length c) (ae ts.length d)))) [(1000,some (fX ts))]:=by
 refine gF func177 (fun k z h=>bG h) ?_;refine gt (aE (lR tw ha hc oz) (aJ rfl rfl rfl) aH rfl rfl) ?_;refine gt (aE (lR tw hb hd oz) (aJ rfl rfl rfl) aH rfl rfl) ?_;refine gt (aE (yJ▸wF tw (ha.mul tw rfl hc) (hb.mul tw rfl hd) oz) (aJ rfl rfl rfl) aH rfl rfl) ?_;refine gD ?_;refine gR ?_;exact az.keep (bm rfl)
theorem Fs{ts:LL}{r e f:Nat}(tw:Tw ts r){a b c d:List Rat}(ha:Nm ts.length e a)(hb:Nm ts.length e b)(hc:Nm ts.length f c)(hd:Nm ts.length f d)(he:2*(e+f+kB r ts.length)<=lm ts.length) :
  Con prog 175 [.ptr 1000 0,aM a b,aM c d] [(1000,some (fX ts))] (nA (sh ts.length (mM ts (ae ts.length a) (ae ts.length b) (ae ts.length c) (ae ts.length d)))) [(1000,some (fX ts))]:=by
 refine gF func175 (fun k z h=>bG h) ?_;refine gt (aE (lR tw ha hd oz) (aJ rfl rfl rfl) aH rfl rfl) ?_;refine gt (aE (lR tw hb hc oz) (aJ rfl rfl rfl) aH rfl rfl) ?_;refine gt (aE (BE▸vG tw (ha.mul tw rfl hd) (hb.mul tw rfl hc) oz) (aJ rfl rfl rfl) aH rfl rfl) ?_;refine gD ?_;refine gR ?_;exact az.keep (bm rfl)
def T.inv(r:(k:Nat)->T k):(k:Nat)->T k->T k
  |0,q=>(1:Rat)/q
  |k+1,x =>
    if T.isZ k x.2=true then(T.inv r k x.1,T.zero k)
    else if T.sgn r k (T.norm r k x)=0 then(T.inv r k (T.add k x.1 x.1),T.zero k)
    else(T.mul r k x.1 (T.inv r k (T.norm r k x)),T.mul r k (T.neg k x.2) (T.inv r k (T.norm r k x)))
theorem T.inv_low(r:(k:Nat)->T k)(k:Nat)(x:T k):T.inv r (k+1) (x,T.zero k)=(T.inv r k x,T.zero k):=by
 have h:=(T.isZ_iff k (T.zero k)).2 rfl
 conv=>lhs;unfold T.inv
 simp only[XK h]
theorem wE(r:(k:Nat)->T k){i j:Nat}{s L:List Rat}(hs:s.length<=2^i)(hL:L.length<=2^i)(h:ae i L=T.inv r i (ae i s))(hij:i<=j):ae j L=T.inv r j (ae j s):=by
  induction j with
  | zero => have : i = 0 := by omega
            subst this;exact h
  |succ j ih =>
    by_cases h':i=j+1
    · rw[<- h'];exact h
    · rw[ic (Xj hs (cQ oz)),ic (Xj hL (cQ oz)),T.inv_low,ih oz]
def iB(r:Nat):Nat->Nat->Nat
  |0,e=>e
  |j+1,e=>e+iB r j (4*e+3*eB r j+r+1)+eB r (j+1)
theorem zZ(r:Nat):∀j e,e<=iB r j e
 |0,e=>WZ _
 |j+1,e=>by simp only[iB];omega
theorem vo(r:Nat):∀j {e f:Nat},e<=f->iB r j e<=iB r j f
 |0,e,f,h=>h
 |j+1,e,f,h=>by
  have:=vo r j (e:=4*e+3*eB r j+r+1) (f:=4*f+3*eB r j+r+1) oz;simp only[iB];omega
theorem Va(r j e:Nat):iB r j e<=iB r (j+1) e:=by
 have:=vo r j (e:=e) (f:=4*e+3*eB r j+r+1) oz;simp only[iB];omega
theorem zC(r e:Nat){i j:Nat}(h:i<=j):iB r i e<=iB r j e:=by
  induction j with
  | zero => have : i = 0 := by omega
            subst this;exact WZ _
  |succ j ih =>
    by_cases hij:i=j+1
    · rw[hij];exact WZ _
    · exact Xj (ih oz) (Va r j e)
theorem Ma(r e:Nat){j:Nat}(h:j<=1):iB r j e<=5*e+2*eB r j:=by
 match j,h with
 |0,_=>simp only[iB,eB];omega
 |1,_=>simp only[iB,eB];omega
theorem IB{r:(k:Nat)->T k}{n:Nat}(h:Sg (E r n) (sg r n))(hd:0<=sg r n (bI r n)){x y:E r n}(hz:sg r (n+1) (bM x y)≠0)(hN:sg r n (aY x y)=0):sg r n (x+x)≠0:=by
 have hx:sg r n x≠0:=by
  intro hx;rw[kO,hN,hx]at hz;have h1:sg r n (x*x)=0:=by rw[h.mul,hx];simp
  have h2:=h.zadd (y:=-(y*y*bI r n)) h1;unfold aY at hN;rw[h2,h.neg,h.mul,h.mul]at hN;unfold T.sgn3 at hz;have c1:=h.cs y;have c2:=h.cs (bI r n);rcases c1 with e |e |e <;> rcases c2 with e' |e' |e' <;> rw[e,e']at hN <;> rw[e,e']at hz <;> first |omega |(simp at hz) |(simp at hN)
 rcases h.cs x with e |e |e
 ·have := h.padd (x := -x) (y := -x) (by rw[h.neg,e];rfl) (by rw[h.neg,e];decide);rw[show -x+-x=-(x+x) by grind,h.neg]at this;omega
 ·exact absurd e hx
 ·have:=h.padd (x:=x) (y:=x) e oz;omega
theorem Cb.inv1{e:Nat}{q:Rat}(h:Cb e [q])(hq:q≠0):Cb e [(1:Rat)/q]:=by
 obtain⟨D,N,⟨h0,h1⟩,h2,h3⟩:=h;obtain⟨n,hn,hl⟩:=h1 q (by simp)
 have hD:((D:Int):Rat)≠0:=by
  intro h9;have:(D:Int)=0:=Rat.intCast_eq_zero_iff.1 h9;omega
 have hn0:n≠0:=by
  rintro rfl;rw[show((0:Int):Rat)=0 from rfl]at hn;rcases Rat.mul_eq_zero.1 hn with h9 |h9
  ·exact hq h9
  ·exact hD h9
 have hnq:((n:Int):Rat)≠0:=fun h9=>hn0 (Rat.intCast_eq_zero_iff.1 h9)
 refine⟨n.natAbs,D,⟨by omega,?_⟩,Xj hl h3,h2⟩;intro x hx;rw[List.mem_singleton.1 hx];have key:(1:Rat)/q*(n:Rat)=((D:Int):Rat):=by rw[<- hn];grind
 rcases Int.natAbs_eq n with e9 |e9
 ·refine⟨D,?_,by simp⟩;rw[<- e9];exact key
 ·refine ⟨-(D : Int), ?_, by simp⟩;rw [Rat.intCast_neg,<- key]
  conv=>rhs;rw[e9]
  rw[Rat.intCast_neg];grind
theorem Cz{e n:Nat}{s:List Rat}(h:Cb e s):Cb e (fE (s.take n) (d7 (s.drop n)) n):=by
 obtain⟨D,N,h1,h2,h3⟩:=h;exact⟨D,N,(h1.sub (fun q hq=>List.mem_of_mem_take hq)).join (h1.sub (fun q hq=>List.mem_of_mem_drop hq)).minus,h2,h3⟩
theorem CY:∀{j i:Nat}{x:T j},(sh j x).length=2^(i+1)->i+1<=j->T.isZ i (ae i ((sh j x).drop (2^i)))=false
 |0,i,x,_,h=>by omega
 |j+1,i,x,hl,h=>by
  cases hz:T.isZ j x.2
  ·have h1:=Q6 hz;rw[h1]at hl
   have e:i=j:=by
    rcases Nat.lt_trichotomy i j with h9 |h9 |h9
    ·have := Nat.pow_lt_pow_right (a := 2) oz (show i+1<j+1 by omega);omega
    ·exact h9
    ·omega
   subst e;have h2:ae (i+1) (sh (i+1) x)=x:=bf (i+1) x;have h3:ae i ((sh (i+1) x).drop (2^i))=x.2:=congrArg Prod.snd h2;rw[h3];exact hz
  ·have h1:sh (j+1) x=sh j x.1:=by
    conv=>lhs;unfold sh
    rw[XK hz]
   rw[h1]at hl ⊢;have h2:=(eH j x.1).le
   have h3:i+1<=j:=by
    rcases W3 j (i+1)with h9 |h9
    ·have:=Nat.pow_lt_pow_right (a:=2) oz h9;omega
    ·exact h9
   exact CY hl h3
theorem D8(r:(k:Nat)->T k){i:Nat}{x:T (i+1)}(hz:T.isZ i x.2=false)(h0:T.sgn r i (T.norm r i x)=0):T.inv r (i+1) x=(T.inv r i (T.add i x.1 x.1),T.zero i):=by
 conv=>lhs;unfold T.inv
 rw[XJ (by rw[hz];decide),XK h0]
theorem D5(r:(k:Nat)->T k){i:Nat}{x:T (i+1)}(hz:T.isZ i x.2=false)(h0:T.sgn r i (T.norm r i x)≠0) :
  T.inv r (i+1) x=(T.mul r i x.1 (T.inv r i (T.norm r i x)),T.mul r i (T.neg i x.2) (T.inv r i (T.norm r i x))):=by
 conv=>lhs;unfold T.inv
 rw[XJ (by rw[hz];decide),XJ h0]
theorem mul_low(r:(k:Nat)->T k)(i:Nat)(x y w:T i):T.mul r (i+1) (x,y) (w,T.zero i)=(T.mul r i x w,T.mul r i y w):=by
 show(T.add i (T.mul r i x w) (T.mul r i (T.mul r i y (T.zero i)) (r i)),T.add i (T.mul r i x (T.zero i)) (T.mul r i y w))=_;rw[T.mul_zero,T.zero_mul,T.mul_zero,T.add_zero,T.zero_add]
theorem ye{n e:Nat}{l:List Rat}(h:Nm n e l)(he:e<=4398046511103):NR (l.map rt) e:=by
 refine⟨?_,by have:=h.nl.len5 h.five;rw[WW];omega,by rw[ef];exact h.cb⟩;intro x hx;obtain⟨q,hq,rfl⟩:=List.mem_map.1 hx;exact(h.cb.qs oz hq).ok
theorem Lk{ts:LL}{j e:Nat}{a:List Rat}{q:Rat}(h5:j<=5)(ha:Nl j a)(ca:Cb e a)(he:e<4398046511104)(hs:sh j (ae j a)=[q])(hq:q≠0) :
  FP 358 [aV ts,nA a] (nA [1/q]):=by
 have qa:∀q∈a,Qs q:=fun q hq=>ca.qs he hq
 have cs:=ca.sh ha;rw[hs]at cs;have qq:Qs q:=cs.qs he (by simp);have hsh:=lC a h5 ha qa;rw[hs]at hsh;have hdv:=Hn (rt 1) (rt q) (Qb.one.qs oz).ok qq.ok;rw[co,co,XJ hq]at hdv;refine aj func358 ?_;refine gc hsh ?_;refine gl ?_;refine gC (fun t13=>?_) (fun t13=>?_) (st2:=(77777,0))
 ·refine gc (kv 1 oz) ?_;refine gi rfl ?_;refine gc hdv ?_;refine gD ?_;refine af ?_;rfl
 cases t13
theorem Uf{ts:LL}{m r:Nat}(ht:lE ts m r)(hm:m<=5)(hml:m<=ts.length){j e i:Nat}{a s L:List Rat}(h5:j<=5)(ha:Nl j a)(ca:Cb e a)(he:4*e+3*eB r i+r+1<4398046511104)(hs:sh j (ae j a)=s)(hi:i+1<=m)
  (hsl:s.length=2^(i+1)) (hb:sB r i (4*e+3*eB r i+r+1)<4398046511104) (h0:T.sgn (ay ts) i (ae i (ir ts i s))=0)
  (hL:FP 358 [aV ts,nA (dG (s.take (2^i)) (s.take (2^i)))] (nA L)):FP 358 [aV ts,nA a] (nA L):=by
 have qa:∀q∈a,Qs q:=fun q hq=>ca.qs oz hq
 have cs:=ca.sh ha;have hsh:=lC a h5 ha qa;rw[hs]at cs hsh;have hp2:=Nat.two_pow_pos i;have hpi:2^i<=32:=cQ (b:=5) oz;have hps:2^(i+1)=2*2^i:=by rw[Nat.pow_succ];omega
 obtain⟨nn,dn,cn⟩:=vY ht oz hsl cs;have k4:=oB ts m r ht hm hml i _ _ oz nn cn hb;have qs:∀q∈s.take (2^i),Qs q:=fun q hq=>cs.take.qs oz hq
 refine aj func358 ?_;refine gc hsh ?_;refine gl ?_;refine gC (fun t13=>?_) (fun t13=>?_) (st1:=(3,0));exact absurd t13 (by simp only[aa,beq_iff_eq];omega);refine gl ?_;refine gs (kt (.tmp rfl) (.const _) oz (show _=((2^i:Nat):Int) by rw[oQ oz,hsl,kU]) rfl) ?_;refine gc (xN ts m r ht hm hml i s e oz hsl cs oz) ?_;refine gc k4 ?_;refine gC (fun t33=>?_) (fun t33=>?_) (st2:=(77777,0))
 ·refine gs (fm (.tmp rfl) (.none _) (.some _ (.tmp rfl) oz) T67 rfl T45 rfl oz (by simp only[WW];omega) rfl) ?_;refine gs (fm (.tmp rfl) (.none _) (.some _ (.tmp rfl) oz) T67 rfl T45 rfl oz (by simp only[WW];omega) rfl) ?_;refine gc (by have h9:=oU _ _ qs qs (by simp;omega) (by simp;omega);rw[<- p4]at h9;exact h9) ?_;refine gc hL ?_;refine gD ?_;refine af ?_;rfl
 exact absurd t33 (by rw[h0];decide)
theorem Vj{ts:LL}{m r:Nat}(ht:lE ts m r)(hm:m<=5)(hml:m<=ts.length){j e f i:Nat}{a s L:List Rat}(h5:j<=5)(ha:Nl j a)(ca:Cb e a)(he:4*e+3*eB r i+r+1<4398046511104)(hs:sh j (ae j a)=s)(hi:i+1<=m)
  (hsl:s.length=2^(i+1)) (hb:sB r i (4*e+3*eB r i+r+1)<4398046511104) (h0:T.sgn (ay ts) i (ae i (ir ts i s))≠0)
  (hL:FP 358 [aV ts,nA (ir ts i s)] (nA L)) (nL:Nl i L) (cL:Cb f L) (hf:e+f+eB r (i+1)<4398046511104) :
  FP 358 [aV ts,nA a] (nA (pT ts (i+1) (fE (s.take (2^i)) (d7 (s.drop (2^i))) (2^i)) L)):=by
 have qa:∀q∈a,Qs q:=fun q hq=>ca.qs oz hq
 have cs:=ca.sh ha;have hsh:=lC a h5 ha qa;rw[hs]at cs hsh;have hp2:=Nat.two_pow_pos i;have hpi:2^i<=32:=cQ (b:=5) oz;have hps:2^(i+1)=2*2^i:=by rw[Nat.pow_succ];omega
 obtain⟨nn,dn,cn⟩:=vY ht oz hsl cs;have k4:=oB ts m r ht hm hml i _ _ oz nn cn hb;have qy:∀q∈s.drop (2^i),Qs q:=fun q hq=>cs.drop.qs oz hq
 have lx:(s.take (2^i)).length=2^i:=kj hsl;have ly:(s.drop (2^i)).length=2^i:=kS hsl;have nj:Nl (i+1) (fE (s.take (2^i)) (d7 (s.drop (2^i))) (2^i)):=.inr ⟨i+1,WZ _,by rw[qi oz (by rw[i7];omega)];omega⟩;have cj:Cb e (fE (s.take (2^i)) (d7 (s.drop (2^i))) (2^i)):=Cz cs;have hti:=qj ts m r ht hm hml (i+1) (i+1) _ _ e f hi (WZ _) nj (nL.mono oz) cj cL hf;refine aj func358 ?_;refine gc hsh ?_;refine gl ?_;refine gC (fun t13=>?_) (fun t13=>?_) (st1:=(3,0));exact absurd t13 (by simp only[aa,beq_iff_eq];omega);refine gl ?_;refine gs (kt (.tmp rfl) (.const _) oz (show _=((2^i:Nat):Int) by rw[oQ oz,hsl,kU]) rfl) ?_;refine gc (xN ts m r ht hm hml i s e oz hsl cs oz) ?_;refine gc k4 ?_;refine gC (fun t33=>?_) (fun t33=>?_) (st1:=(8,0));exact absurd t33 (by simp only[aa,beq_iff_eq];omega);refine gs (fm (.tmp rfl) (.none _) (.some _ (.tmp rfl) oz) T67 rfl T45 rfl oz (by simp only[WW];omega) rfl) ?_;refine gs (fm (.tmp rfl) (.some _ (.tmp rfl) oz) (.none _) T67 rfl T45 rfl (by simp only[WW];omega) oz rfl) ?_;refine gc (by have h9:=rP _ qy oz;rw[<- tp]at h9;exact h9) ?_;refine gc (by have h9:=BZ (s.take (2^i)) (d7 (s.drop (2^i))) (2^i) oz (by rw[i7];omega) oz;rw[<- p4]at h9;exact h9) ?_;refine gc hL ?_;refine gc hti ?_;refine gD ?_;refine af ?_;rfl
theorem NJ{ts:LL}{m r:Nat}(ht:lE ts m r)(hp:ft (ay ts) m)(hm:m<=5)(hml:m<=ts.length)(j:Nat):∀(a:List Rat)(e:Nat),j<=m->Nl j a->Cb e a->T.sgn (ay ts) j (ae j a)≠0 ->
  sB r j e<4398046511104->iB r j e<4398046511104->∃L,FP 358 [aV ts,nA a] (nA L)/\Nl j L/\Cb (iB r j e) L/\ae j L=T.inv (ay ts) j (ae j a):=by
 induction j using Nat.strongRecOn
 rename_i j ih;intro a e hj ha ca h0 hs hi;have hse:=tt r j e;have cs:=ca.sh ha;have hsn:=eH j (ae j a);have hsd:=bf j (ae j a);have hle:=zZ r j e;obtain⟨s,hsa⟩:∃s,sh j (ae j a)=s:=⟨_,rfl⟩
 rcases Bx hsn with h |h |⟨i,hij,h⟩
 ·exfalso;have h1:=List.length_eq_zero_iff.1 h;rw[h1,iA]at hsd;rw[<- hsd,T.sgn_zero]at h0;exact h0 rfl
 ·obtain ⟨q, hq⟩:=List.length_eq_one_iff.1 h;rw [hq,lO] at hsd;rw [<- hsd,T.sgn_ofQ] at h0;have q0:q ≠ 0:=by rintro rfl; exact h0 rfl
  refine⟨[1/q],Lk oz ha ca oz hq q0,.inr ⟨0,by omega,rfl⟩,(Cb.inv1 (hq▸cs) q0).mono hle,?_⟩;rw[<- hsd,<- lO j q];exact wE (ay ts) (i:=0) (s:=[q]) (L:=[1/q]) (by simp) (by simp) rfl oz
 ·have hz:=CY h hij;rw [hsa] at h cs hsd hsn hz;obtain ⟨nn,dn,cn⟩:=vY ht oz h cs;have hsl:s.length <= 2 ^ (i + 1):=by omega
  have b1:sB r i (4*e+3*eB r i+r+1)<=sB r j e:=xd r e hij;have b2:=tt r i (4*e+3*eB r i+r+1);have b3:iB r (i+1) e<=iB r j e:=zC r e hij;have b4:iB r (i+1) e=e+iB r i (4*e+3*eB r i+r+1)+eB r (i+1):=rfl;have lx:(s.take (2^i)).length=2^i:=kj h;have ly:(s.drop (2^i)).length=2^i:=kS h;have hpi:2^i<=2^(i+1):=Nat.pow_le_pow_right oz oz;rw[<- hsd]at h0 ⊢
  by_cases hN:T.sgn (ay ts) i (ae i (ir ts i s))=0
  ·have hS:=da (ay ts) i (fun k hk=>hp k oz)
   have hx:T.sgn (ay ts) i (ae i (dG (s.take (2^i)) (s.take (2^i))))≠0:=by
    rw[lH];rw[vr (ay ts) hsl hij]at h0;rw[dn]at hN;exact IB hS (hp i oz) (x:=ae i (s.take (2^i))) (y:=ae i (s.drop (2^i))) h0 hN
   have np:Nl i (dG (s.take (2^i)) (s.take (2^i))):=.inr ⟨i,WZ _,by rw[f6];omega⟩;have b5:=sN r i (e:=e+e+1) (f:=4*e+3*eB r i+r+1) oz;have b6:=vo r i (e:=e+e+1) (f:=4*e+3*eB r i+r+1) oz;obtain⟨L,k1,k2,k3,k4⟩:=ih i oz _ _ oz np (cs.take.plus cs.take) hx oz oz;refine⟨L,Uf ht hm hml oz ha ca oz hsa oz h oz hN k1,k2.mono oz,k3.mono oz,?_⟩;refine wE (ay ts) (i:=i+1) hsl (Xj k2.le hpi) ?_ hij;rw[D8 (ay ts) hz (by rw[<- dn];exact hN),ic k2.le,k4,lH];rfl
  ·obtain⟨L,k1,k2,k3,k4⟩:=ih i oz _ _ oz nn cn hN oz oz;have nj:Nl (i+1) (fE (s.take (2^i)) (d7 (s.drop (2^i))) (2^i)):=.inr ⟨i+1,WZ _,by rw[qi oz (by rw[i7];omega),Nat.pow_succ];omega⟩;have s1:=fW ts m ht.1 (i+1) (i+1) _ _ oz (WZ _) nj (k2.mono oz);have c1:=Cb.mul ht (k:=i+1) (show i+1<=m by omega) (WZ _) nj (k2.mono oz) (Cz cs) k3;refine⟨_,Vj ht hm hml oz ha ca oz hsa oz h oz hN k1 k2 k3 oz,s1.1.mono hij,c1.mono oz,?_⟩;refine wE (ay ts) (i:=i+1) hsl s1.1.le ?_ hij;rw[D5 (ay ts) hz (by rw[<- dn];exact hN),s1.2,yw oz,ic k2.le,mul_low,oD,k4,dn];rfl
theorem Qm{ts:LL}{r e f:Nat}(tw:Tw ts r){a b:List Rat}(ha:Nm ts.length e a)(hb:Nm ts.length f b)(he:e<=4398046511103)(hf:f<=4398046511103):FP 229 [aV ts,.lst 1 [nA a,nA b]] (.v .nilIface):=by
 have hck:=mt (ts.map (List.map rt)) r tw.tr [a.map rt,b.map rt] (si (ye ha he) (ye hb hf)) (by simp);have hc0:bQ (ts.map (List.map rt)) [a.map rt,b.map rt]=0:=ui tw ha hb;rw[hc0,ki]at hck;rw[show[nA a,nA b]=[a.map rt,b.map rt].map nR by simp[fq]];exact hck
theorem Ad{ts:LL}{r f j:Nat}(tw:Tw ts r){b:List Rat}(hb:Nm ts.length f b)(hj:j<=ts.length)(nb:Nl j b)(h0:T.sgn (ay ts) ts.length (ae ts.length b)≠0)(hf:f<=lm ts.length)(hi:iB r j f<4398046511104) :
  ∃L,FP 358 [aV ts,nA b] (nA L)/\Nl ts.length L/\Cb (iB r j f) L/\ae ts.length L=T.inv (ay ts) ts.length (ae ts.length b):=by
 rw[vr (ay ts) nb.le hj]at h0;obtain⟨L,k1,k2,k3,k4⟩:=NJ tw.ok tw.pos tw.five (WZ _) j b f hj nb hb.cb h0 (p9 hj tw.three tw.le hf) hi;exact⟨L,k1,k2.mono hj,k3,wE (ay ts) nb.le k2.le k4 hj⟩
theorem zL{ts:LL}{r e f j:Nat}(tw:Tw ts r){a b:List Rat}(ha:Nm ts.length e a)(hb:Nm ts.length f b)(hj:j<=ts.length)(nb:Nl j b)(h0:T.sgn (ay ts) ts.length (ae ts.length b)≠0)(hf:f<=lm ts.length)(he:e+iB r j f+eB r ts.length<=200000000000) :
  FP 281 [aV ts,nA a,nA b] (.tup [nA (sh ts.length (T.mul (ay ts) ts.length (ae ts.length a) (T.inv (ay ts) ts.length (ae ts.length b)))),.v .nilIface]):=by
 have hlm:=lc ts.length;have h5:=tw.five;have h3:=tw.three;have hfe:=zZ r j f;have hsB:=p9 (WZ ts.length) h3 tw.le hf;have hsg:=oB ts ts.length r tw.ok h5 (WZ _) ts.length _ _ (WZ _) hb.nl hb.cb hsB;obtain⟨L,k1,k2,k3,k4⟩:=Ad tw hb hj nb h0 hf oz;have hti:=qj ts ts.length r tw.ok h5 (WZ _) ts.length ts.length _ _ _ _ (WZ _) (WZ _) ha.nl k2 ha.cb k3 oz;have s1:=fW ts ts.length tw.ok.1 ts.length ts.length _ _ (WZ _) (WZ _) ha.nl k2;have c1:=Cb.mul tw.ok (k:=ts.length) (WZ _) (WZ _) ha.nl k2 ha.cb k3;have hsh:=lC _ h5 s1.1 (fun q hq=>c1.qs oz hq);rw[s1.2,k4]at hsh;refine aj func281 ?_;refine gc (Qm tw ha hb oz oz) ?_;refine gC (fun t15=>?_) (fun t15=>?_) (st1:=(3,0));cases t15;refine gc hsg ?_;refine gC (fun t20=>?_) (fun t20=>?_) (st1:=(5,0));exact absurd t20 (by simp only[aa,beq_iff_eq];omega);refine gc k1 ?_;refine gc hti ?_;refine gc hsh ?_;refine gD ?_;refine br ?_;rfl
theorem yN{ts:LL}{r e f j:Nat}(tw:Tw ts r){a b:List Rat}(ha:Nm ts.length e a)(hb:Nm ts.length f b)(hj:j<=ts.length)(nb:Nl j b)(h0:T.sgn (ay ts) ts.length (ae ts.length b)≠0)(hf:f<=lm ts.length)(he:e+iB r j f+eB r ts.length<=200000000000) :
  Nm ts.length (e+iB r j f+eB r ts.length) (sh ts.length (T.mul (ay ts) ts.length (ae ts.length a) (T.inv (ay ts) ts.length (ae ts.length b)))):=by
 obtain⟨L,k1,k2,k3,k4⟩:=Ad tw hb hj nb h0 hf oz;have s1:=fW ts ts.length tw.ok.1 ts.length ts.length _ _ (WZ _) (WZ _) ha.nl k2;have c1:=Cb.mul tw.ok (k:=ts.length) (WZ _) (WZ _) ha.nl k2 ha.cb k3;refine⟨tw.five,eH _ _,?_⟩;rw[<- k4,<- s1.2];exact c1.sh s1.1
def cr(k:Nat):List Rat:=(List.replicate (2^(k+1)) 0).set (2^k) 1
def aS(ts:LL)(a:List Rat):LL:=ts++[bT a (2^ts.length)]
theorem Nk(k:Nat):BlkSub (.row 3 ((List.replicate (2^(k+1)) (.agg [.v (.bool false),nS,nS])).set (2^k) (qA 1))) (.row 3 ((cr k).map qA)):=by
 unfold cr;refine .row ?_ ?_
 ·simp
 ·intro i e e' he he';rw[XF,XB]at he';rw[List.getElem?_set]at he he';split at he
  ·rename_i h1;rw[XK h1]at he';split at he
   ·rename_i h2;rw[Xt]at h2;rw[Xt,XK h2]at he';cases he;cases he'
    exact kM.refl (Io 1)
   ·cases he
  ·rename_i h1;rw[XJ h1]at he';rw[Xq]at he he';split at he
   ·rename_i h2;rw[XK h2]at he';cases he;cases he'
    exact qZ
   ·cases he
theorem yb(k:Nat):(cr k).length=2^(k+1):=by simp[cr]
theorem OH{k:Nat}(hk:k<=5):IntKind.i64.wrap ((2:Int)*2^(min (k:Int).toNat IntKind.i64.bits))=((2^(k+1):Nat):Int):=by
 have h:k=0\/k=1\/k=2\/k=3\/k=4\/k=5:=by omega
 rcases h with rfl |rfl |rfl |rfl |rfl |rfl <;> rfl
theorem Mg(d:Nat)(hd:Nat.blt d 1000=true)(k:Nat)(hk:k<=5):Con prog 279 [i64 k] [] (.ms d 3 0 (2^(k+1))) [(d,some (.row 3 ((cr k).map qA)))]:=by
 have hp:2^(k+1)<=64:=cQ (b:=6) oz;have hp2:2^k<2^(k+1):=Nat.pow_lt_pow_right oz oz;have hp0:=Nat.two_pow_pos k;refine gF func279 (fun k z h=>by cases h) ?_;refine gs (iC (.const _) (.tmp rfl) oz (OH hk) rfl) ?_;refine gs (gX (.tmp rfl) T67 rfl T45 rfl rfl oz (by dsimp only;omega) rfl) ?_;refine gs (iC (.const _) (.tmp rfl) oz (ug oz) rfl) ?_;refine gc (kv 1 oz) ?_;refine gs (b8 (n:=2^k) (.tmp rfl) (.tmp rfl) T67 rfl T45 rfl oz oz rfl) ?_;refine gs (dP (.tmp rfl) rfl (by rw[Xq,XK oz]) rfl (.tmp rfl) rfl rfl T45 rfl rfl) ?_;refine gD ?_ (3,0);refine gW (Wk.of (sl:=[(3,some (.ms 6 3 0 (2^(k+1))))]) (hp:=[(6,some (.row 3 ((cr k).map qA)))]) (.cons rfl (Sub.of (congrArg (AV.ms 6 3 0) (Xk _))) .nil) (.cons rfl (Nk k) .nil)) ?_;refine gR ?_;exact az.own1 rfl hd rfl
theorem Pp(k:Nat)(hk:k<=5):FP 279 [i64 k] (nA (cr k)):=by
 have h:=Con.freeze (by rw[WW,yb];omega) (Mg 0 rfl k hk);rw[XG,Xb (by rw[WW,yb];exact WZ _)]at h;exact h
theorem O4{ts:LL}{r e:Nat}(tw:Tw ts r){a:List Rat}(ha:Nm ts.length e a)(he:e<=4398046511103):FP 229 [aV ts,.lst 1 [nA a]] (.v .nilIface):=by
 have hx:=ye ha he;have hck:=mt (ts.map (List.map rt)) r tw.tr [a.map rt] (fun x h=>by rw[List.mem_singleton.1 h];exact⟨hx.ok,hx.len⟩) (by simp);have hc0:bQ (ts.map (List.map rt)) [a.map rt]=0:=yD tw ha;rw[hc0,ki]at hck;rw[show[nA a]=[a.map rt].map nR by simp[fq]];exact hck
theorem JU{ts:LL}{r e:Nat}(tw:Tw ts r){a:List Rat}(ha:Nm ts.length e a)(he:e<=4398046511103):FP 277 [aV ts,nA a] (.tup [nA (bT a (2^ts.length)),.v .nilIface]):=by
 have h5:=tw.five;have hl:=ha.nl.le;have hp:2^ts.length<=32:=cQ (b:=5) oz;have qa:∀q∈a,Qs q:=fun q hq=>ha.cb.qs oz hq
 refine aj func277 ?_;refine gc (O4 tw ha he) ?_;refine gC (fun t12=>?_) (fun t12=>?_) (st1:=(3,0));cases t12;refine gc (yY a qa oz) ?_;refine gl ?_;refine gs (iC (.const _) (.tmp rfl) oz (ug oz) rfl) ?_;refine gc (zJ a (2^ts.length) hl oz) ?_;refine gD ?_;refine br ?_;rfl
theorem G1{ts:LL}{r e:Nat}(tw:Tw ts r){a:List Rat}(ha:Nm ts.length e a)(he:e<=lm ts.length)(hs:0<=T.sgn (ay ts) ts.length (ae ts.length a)) :
  FP 161 [aV ts,nA a] (.tup [aV (aS ts a),nA (cr ts.length),.v .nilIface]):=by
 have h3:=tw.three;have h5:=tw.five;have hlm:=lc ts.length;have hl:=ha.nl.le;have nw:Nl ts.length (bT a (2^ts.length)):=.inr ⟨_,WZ _,f8 hl⟩;have hsg:=oB ts ts.length r tw.ok h5 (WZ _) ts.length _ _ (WZ _) nw ha.cb.wide (p9 (WZ ts.length) h3 tw.le he);rw[qv]at hsg;have hqs:=tw.rb.qs tw.le;refine aj func161 ?_;refine gc (JU tw ha oz) ?_;refine gC (fun t18=>?_) (fun t18=>?_) (st1:=(3,0));cases t18;refine gc hsg ?_;refine gC (fun t23=>?_) (fun t23=>?_) (st1:=(5,0));exact absurd t23 (by simp only[aa,decide_eq_true_eq];omega);refine gl ?_;refine gC (fun t30=>?_) (fun t30=>?_) (st1:=(7,0));exact absurd t30 (by simp only[aa,decide_eq_true_eq];omega);refine gl ?_;refine gW (Wk.virt 900 1 rfl) ?_;refine aZ [2,4,7,9,38,39] [2,4] (fun(i:Nat)=>[(40,some (i64 i))]) (fun i=>[(9,some (.box [.ms 900 1 0 i])),(900,some (.row 1 ((ts.take i).map nA)))]) (fun i=>i<=ts.length) (fun i=>ts.length-i) 0 (W7 _) ?_ (h2:=(.cons rfl (BlkSub.bL (.cons (.nM _ _ _) .nil) rfl) (.k .nil)));rintro i hi K1 J1;refine gC (fun t41=>?_) (fun t41=>?_)
 ·have hin:=a6 t41;obtain⟨d,hd⟩:=ax hin
  have hdl:d.length<=32:=by
   have h9:=tw.len i hin;rw[au hd]at h9;have:2^i<=32:=cQ (b:=5) oz;omega
  refine gi (aI hd) ?_;refine gc (yY d (hqs d (WU hd)) oz) ?_;refine gs (cO (.tmp rfl) rfl (by rw[WW,Xh];omega) (.tmp rfl) T35 rfl T67 rfl rfl (by simp only[W9,Xi];omega) rfl rfl) ?_;refine gD ?_ (13,0);refine gW (Wk.of (sl:=[(2,some (.ptr 2 0)),(4,some (.ptr 4 0)),(7,some (nA (bT a (2^ts.length)))),(9,some (.ptr 9 0)),(38,some (.lst 1 (ts.map nA))),(39,some (i64 ts.length)),(40,some (i64 i))]) (hp:=[(2,some (.box [.lst 1 (ts.map nA)])),(4,some (.box [nS])),(9,some (.box [.ms 49 1 0 (i+1)])),(49,some (.row 1 ((ts.take (i+1)).map nA)))]) a8 (.k (.k (.k (.cons rfl (BlkSub.of (by rw[eA hd,Xl];rfl)) .nil))))) ?_ (13,0)
  refine gW (Wk.rk (k:=49) (d:=900) rfl rfl) ?_;refine ga aO ?_;exact aP J1 (i+1) hin
 have hin:=bi hi t41;subst hin;refine gs (cO (.tmp rfl) rfl (by rw[WW,Xh];omega) (.tmp rfl) T35 rfl T67 rfl rfl (by simp only[W9,Xi];omega) rfl rfl) ?_ (15,0);refine gW ((Wk.freeze (k:=56) rfl).trans<|Wk.of (sl:=[(2,some (.ptr 2 0)),(4,some (.ptr 4 0)),(9,some (.ptr 9 0))]) (hp:=[(2,some (.box [.lst 1 (ts.map nA)])),(4,some (.box [nS])),(9,some (.box [.lst 1 ((aS ts a).map nA)]))]) a8 (.k (.k (.cons rfl (BlkSub.bL (.cons (Sub.of (by rw[bV (by simp)];unfold aS;simp)) .nil) rfl) .nil)))) ?_;refine gl ?_;refine gc (Pp ts.length oz) ?_;refine gD ?_;refine uV ?_;rfl
theorem Be{ts:LL}{r:Nat}(tw:Tw ts r):FP 154 [aV ts] (aV ts):=by
 have h3:=tw.three;have hqs:=tw.rb.qs tw.le;refine aj func154 ?_;refine gl ?_;refine gW (Wk.virt 900 1 rfl) ?_;refine aZ [2,3,10,11] [2] (fun(i:Nat)=>[(12,some (i64 i))]) (fun i=>[(3,some (.box [.ms 900 1 0 i])),(900,some (.row 1 ((ts.take i).map nA)))]) (fun i=>i<=ts.length) (fun i=>ts.length-i) 0 (W7 _) ?_ (h2:=(.cons rfl (BlkSub.bL (.cons (.nM _ _ _) .nil) rfl) (.k .nil)));rintro i hi K1 J1;refine gC (fun t13=>?_) (fun t13=>?_) (st2:=(13,0))
 ·have hin:=a6 t13;obtain⟨d,hd⟩:=ax hin
  have hdl:d.length<=32:=by
   have h9:=tw.len i hin;rw[au hd]at h9;have:2^i<=32:=cQ (b:=5) oz;omega
  have hdq:=hqs d (WU hd);refine gi (aI hd) ?_;refine gl ?_;refine gW (Wk.virt 901 3 rfl) ?_;refine aZ [2,3,10,11,12,16,17] [2,3,900] (fun(j:Nat)=>[(6,some (.ms 901 3 0 j)),(18,some (i64 j))]) (fun j=>[(901,some (.row 3 ((d.take j).map qA)))]) (fun j=>j<=d.length) (fun j=>d.length-j) 0 (W7 _) ?_;rintro j hj K2 J2;refine gC (fun t19=>?_) (fun t19=>?_) (st2:=(11,0))
  ·have hjn:=a6 t19;obtain ⟨q,hq⟩:=ax hjn;have hadd:=oO (rt q) (rt 0) (hdq q (WU hq)).ok Qs.zero.ok;rw [wt,co] at hadd;refine gi (aI hq) ?_;refine gc (Con.sA (.cons (.refl _) (.cons j7 .nil)) hadd) ?_;refine gs (cO (.tmp rfl) rfl (by rw [WW,Xh]; omega) (.tmp rfl) T67 rfl T45 rfl rfl (by simp only [W9,Xi]; omega) rfl rfl) ?_ (10,0);refine gW (Wk.of (sl:=[(2,some (.ptr 2 0)),(3,some (.ptr 3 0)),(10,some (.lst 1 (ts.map nA))),(11,some (i64 ts.length)),(12,some (i64 i)),(6,some (.ms 27 3 0 (j + 1))),(16,some (nA d)),(17,some (i64 d.length)),(18,some (i64 j))]) (hp:=[(2,some (.box [nS])),(3,some (.box [.ms 900 1 0 i])),(900,some (.row 1 ((ts.take i).map nA))),(27,some (.row 3 ((d.take (j + 1)).map qA)))]) a8 (.k (.k (.k (.cons rfl (BlkSub.of (by rw [eA hq,Xl]; rfl)) .nil))))) ?_ (10,0)
   refine gW (Wk.rk (k:=27) (d:=901) rfl rfl) ?_;refine ga aO ?_;exact aP J2 (j+1) hjn
  have hjn:=bi hj t19;subst hjn;refine gW ((Wk.freeze (k:=901) rfl).trans<|Wk.of (sl:=[(2,some (.ptr 2 0)),(3,some (.ptr 3 0)),(10,some (.lst 1 (ts.map nA))),(11,some (i64 ts.length)),(12,some (i64 i)),(6,some (nA d))]) (hp:=[(2,some (.box [nS])),(3,some (.box [.ms 900 1 0 i])),(900,some (.row 1 ((ts.take i).map nA)))]) (.k (.k (.k (.k (.k (.cons rfl (Sub.of (by rw[bV (by simp)];simp[nA])) .nil)))))) (.k (.k (.k .nil)))) ?_
  refine gs (cO (.tmp rfl) rfl (by rw[WW,Xh];omega) (.tmp rfl) T35 rfl T67 rfl rfl (by simp only[W9,Xi];omega) rfl rfl) ?_ (12,0);refine gW (Wk.of (sl:=[(2,some (.ptr 2 0)),(3,some (.ptr 3 0)),(10,some (.lst 1 (ts.map nA))),(11,some (i64 ts.length)),(12,some (i64 i))]) (hp:=[(2,some (.box [nS])),(3,some (.box [.ms 33 1 0 (i+1)])),(33,some (.row 1 ((ts.take (i+1)).map nA)))]) a8 (.k (.k (.cons rfl (BlkSub.of (by rw[eA hd,Xl];rfl)) .nil)))) ?_ (12,0);refine gW (Wk.rk (k:=33) (d:=900) rfl rfl) ?_;refine ga aO ?_;exact aP J1 (i+1) hin
 have hin:=bi hi t13;subst hin;refine gW ((Wk.freeze (k:=900) rfl).trans<|Wk.of (sl:=[(2,some (.ptr 2 0)),(3,some (.ptr 3 0))]) (hp:=[(2,some (.box [nS])),(3,some (.box [.lst 1 (ts.map nA)]))]) a8 (.k (.cons rfl (BlkSub.bL (.cons (Sub.of (by rw[bV (by simp)];simp)) .nil) rfl) .nil))) ?_;refine af ?_;rfl
abbrev dM(l:Li)(kw driven:List Bool)(r:List AV):List AV:=l.av.cells++(.lst 1 (kw.map bl) :: .lst 1 (driven.map bl)::r)
theorem Nu(j:Jt)(b:Int):FP 409 [j.av,i64 b] (i64 (jO j b)):=by
 refine aj func409 ?_;refine gC (fun t6=>?_) (fun t6=>?_)
 ·have h1:b=j.a:=cK t6;refine af ?_;unfold jO;rw[XK h1]
 have h1:b≠j.a:=dq t6;refine gC (fun t12=>?_) (fun t12=>?_)
 ·have h2:b=j.b:=cK t12;refine af ?_;unfold jO;rw[XJ h1,XK h2]
 have h2:b≠j.b:=dq t12;refine af ?_;unfold jO;rw[XJ h1,XJ h2];rfl
theorem ND(j:Jt)(kind body:Int)(f:FuncId)(pre caps:List AV)(p:Int->Bool)(hp:0<=jO j body->FP f (pre++[i64 (jO j body)]++caps) (bl (p (jO j body)))) :
  FP 408 [j.av,.iptr [i64 body],.iptr [i64 kind],.iptr [.cl f pre caps]] (bl (xB kind body p j)):=by
 refine aj func408 ?_;refine gc (Nu j body) ?_;refine b9 (fun h=>(hp (Sk h))) ?_;refine af ?_;exact congrArg bl U4
theorem VO(bs:List Jt)(hl:bs.length<=281474976710656)(f:FuncId)(pre caps:List AV)(ok:Nat->Bool)
  (hf:∀(i:Nat)(b:Jt),bs[i]?=some b->(∀j,j<i->ok j=true)->FP f (pre++[b.av]++caps) (bl (!ok i))) :
  FP 407 [.lst 7 (bs.map Jt.av),.cl f pre caps] (i64 (jc (cB bs.length ok))):=by
 refine aj func407 ?_;refine gl ?_;refine aZ [0,1,7] [] (fun(i:Nat)=>[(8,some (i64 i))]) (fun _=>[]) (fun i=>i<=bs.length/\∀j,j<i->ok j=true) (fun i=>bs.length-i) 0 ⟨W7 _,fun j h=>by omega⟩ ?_;rintro i ⟨hi,hj⟩ K1 J1;refine gC (fun t9=>?_) (fun t9=>?_)
 ·have hin:=a6 t9;obtain⟨b,hb⟩:=ax hin;refine gi (aI hb) ?_;refine gc (hf i b hb hj) ?_;refine gC (fun t16=>?_) (fun t16=>?_)
  ·have h2:=df t16;refine af ?_;rw[gx hin hj h2];rfl
  have h2:=c9 t16;refine ga aO ?_;exact aP J1 (i+1) ⟨hin,fun j h9=>by rcases W3 j i with g |g;exact hj j g;(have:j=i:=by omega);subst this;exact h2⟩
 have hin:=bi hi t9;subst hin;refine af ?_;rw[fO hj];rfl
theorem C6(l:Li)(hl:l.ok)(hli:aG l=0)(Fd:List AV)(kind body:Int)(f:FuncId)(pre caps:List AV)(p:Int->Bool)
  (hp:∀o:Int,0<=o->o<l.bo.length->FP f (pre++[i64 o]++caps) (bl (p o))) :
  FP 400 [.iptr (l.av.cells++Fd),i64 kind,i64 body,.cl f pre caps] (i64 (gJ l kind body p)):=by
 refine aj func400 ?_ (1,0);refine gW ((Wk.freezeB (k:=7) rfl rfl).trans<|(Wk.freezeB (k:=5) rfl rfl).trans<|(Wk.freezeB (k:=6) rfl rfl).trans<|Wk.o (sl:=[(0,some (.iptr (l.av.cells++Fd))),(5,some (.iptr [i64 kind])),(6,some (.iptr [i64 body])),(7,some (.iptr [.cl f pre caps]))]) (hp:=[])) ?_;refine gc (Con.sA (.cons (.refl _) (.cons (rE rfl) .nil)) (VO l.jo hl.lj 408 [] [.iptr [i64 body],.iptr [i64 kind],.iptr [.cl f pre caps]] (fun i=>!xB kind body p (l.jo.getD i default)) (fun i b hb hj=>by rw[Bool.not_not,au hb];exact ND b kind body f pre caps p (fun h=>hp _ h (SR hli hb body))))) ?_;refine af ?_;rfl
theorem TL(l:Li)(kw driven:List Bool)(r:List AV)(b:Int)(h0:0<=b)(h1:b<kw.length):FP 405 [.iptr (dM l kw driven r),i64 b] (bl (kn kw b)):=by
 obtain⟨v,hv⟩:∃v,kw[b.toNat]?=some v:=ax oz;have ev:kn kw b=v:=au hv;refine aj func405 ?_;refine gi (f0 (n:=b.toNat) oz hv) ?_;refine af ?_;rw[ev]
theorem CG(l:Li)(hl:l.ok)(hli:aG l=0)(kw driven:List Bool)(hk:kw.length=l.bo.length)(r:List AV)(kind body:Int) :
  FP 398 [.iptr (dM l kw driven r),i64 kind,i64 body] (i64 (gJ l kind body (kn kw))):=by
 refine aj func398 ?_;refine gc (C6 l hl hli _ kind body 405 [.iptr (dM l kw driven r)] [] (kn kw) (fun o h0 h1=>TL l kw driven r o h0 oz)) ?_;refine af ?_;rfl
theorem Tu(o j:Int):FP 401 [i64 o,.iptr [i64 j]] (bl (decide (o=j))):=by
 refine aj func401 ?_;refine af ?_;exact congrArg bl oh
theorem KX(l:Li)(kw driven:List Bool)(hd:driven.length=kw.length)(r:List AV)(b:Int)(h0:0<=b)(h1:b<kw.length) :
  FP 402 [.iptr (dM l kw driven r),i64 b] (bl (!kn kw b&&!kn driven b)):=by
 obtain⟨v,hv⟩:∃v,kw[b.toNat]?=some v:=ax oz;have ev:kn kw b=v:=au hv;obtain⟨u,hu⟩:∃u,driven[b.toNat]?=some u:=ax oz;have eu:kn driven b=u:=au hu;refine aj func402 ?_;refine gi (f0 (n:=b.toNat) oz hv) ?_;refine mb (fun _=>(f0 (n:=b.toNat) oz hu)) ?_;refine af ?_;rw[ev,eu];exact congrArg bl (iO _ _)
theorem Qg(l:Li)(hl:l.ok)(hli:aG l=0)(kw driven:List Bool)(hk:kw.length=l.bo.length)(r:List AV) :
  FP 376 [.iptr (dM l kw driven r)] (.tup [((driverG l kw).getD default).av,bl (driverG l kw).isSome]):=by
 have hld:=hl.ld;refine aj func376 ?_;refine gl ?_;refine aZ [0,2,11,12] [2] (fun(i:Nat)=>[(13,some (i64 i))]) (fun _=>[]) (fun i=>i<=l.dv.length/\∀j,j<i->(!drHit l kw j)=true) (fun i=>l.dv.length-i) 0 ⟨W7 _,fun j h=>by omega⟩ ?_;rintro i ⟨hi,hj⟩ K1 J1;refine gC (fun t14=>?_) (fun t14=>?_)
 ·have hin:=a6 t14;obtain⟨d,hd⟩:=ax hin;have hdd:l.dv.getD i default=d:=au hd;have hb:=cM (j6 hli hd);obtain⟨v,hv⟩:∃v,kw[d.body.toNat]?=some v:=ax oz;have ev:kn kw d.body=v:=au hv;have ej:gJ l 0 d.body (kn kw)=jointI l 0 d.body kw:=BF hli (fun o _ _=>rfl);refine gi (aI hd) ?_;refine gi (f0 (n:=d.body.toNat) oz hv) ?_;refine gD ?_;refine gC (fun t25=>?_) (fun t25=>?_)
  ·have h2 : drHit l kw i = false := by unfold drHit; rw [hdd, ev, t25]; rfl
   refine ga aO ?_;exact aP J1 (i+1) ⟨hin,fun k h9=>by rcases W3 k i with g |g;exact hj k g;(have:k=i:=by omega);subst this;rw[h2];rfl⟩
  have hv0:v=false:=t25;refine gc (show iI _ _ _ (i64 (jointI l 0 d.body kw)) by rw[<- ej];exact CG l hl hli kw driven hk r 0 d.body) ?_;refine gC (fun t31=>?_) (fun t31=>?_)
  ·have h2 : drHit l kw i = true := by unfold drHit; rw [hdd, ev, hv0, decide_eq_true (Ga t31)]; rfl
   have hg:driverG l kw=some ⟨0,[d.body],[jointI l 0 d.body kw],i⟩:=by unfold driverG;rw[gx hin hj (by rw[h2];rfl),<- hdd];rfl
   refine br ?_;rw[hg];rfl
  have h2:drHit l kw i=false:=by unfold drHit;rw[hdd,decide_eq_false (Dv t31),Bool.and_false]
  refine ga aO ?_;exact aP J1 (i+1) ⟨hin,fun k h9=>by rcases W3 k i with g |g;exact hj k g;(have:k=i:=by omega);subst this;rw[h2];rfl⟩
 have hin:=bi hi t14;subst hin;have hg:driverG l kw=none:=by unfold driverG;rw[fO hj];rfl
 refine gR ?_;exact az.sub az.pure (by rw[hg];exact Sub.tup (.cons qH (.cons (.refl _) .nil)))
theorem Ba(l:Li)(hli:aG l=0)(kw:List Bool)(hk:kw.length=l.bo.length)(r:List AV)(b:Nat)(h1:b<l.bo.length) :
  FP 402 [.iptr (dM l kw (bY l) r),i64 b] (bl (freeB l kw b)):=by
 have h:=KX l kw (bY l) (by rw[s7,hk]) r b oz oz;rw[WH hli oz]at h;exact h
theorem wb(l:Li)(hl:l.ok)(hli:aG l=0)(kw:List Bool)(hk:kw.length=l.bo.length)(r:List AV)(kind body:Int) :
  FP 398 [.iptr (dM l kw (bY l) r),i64 kind,i64 body] (i64 (jointI l kind body kw)):=by
 have h:=CG l hl hli kw (bY l) hk r kind body;rw[BF hli (fun o _ _=>rfl)]at h;exact h
theorem Rl(l:Li)(hl:l.ok)(hli:aG l=0)(kw:List Bool)(hk:kw.length=l.bo.length)(r:List AV) :
  FP 378 [.iptr (dM l kw (bY l) r)] (.tup [((singleG l kw).getD default).av,bl (singleG l kw).isSome]):=by
 have h8:=(cU hli).2.2.2.1;refine aj func378 ?_;refine gl ?_;refine aZ [0,2,12,13] [2] (fun(i:Nat)=>[(14,some (i64 i))]) (fun _=>[]) (fun i=>i<=l.bo.length/\∀j,j<i->(!sgHit l kw j)=true) (fun i=>l.bo.length-i) 0 ⟨W7 _,fun j h=>by omega⟩ ?_;rintro i ⟨hi,hj⟩ K1 J1;refine gC (fun t15=>?_) (fun t15=>?_)
 ·have hin:=a6 t15;refine gc (Ba l hli kw hk r i hin) ?_;refine gC (fun t20=>?_) (fun t20=>?_)
  ·have h2 : sgHit l kw i = false := by unfold sgHit; rw [df t20]; rfl
   refine ga aO ?_;exact aP J1 (i+1) ⟨hin,fun k h9=>by rcases W3 k i with g |g;exact hj k g;(have:k=i:=by omega);subst this;rw[h2];rfl⟩
  have hf:=c9 t20;refine gc (wb l hl hli kw hk r 0 i) ?_;refine gc (wb l hl hli kw hk r 1 i) ?_;refine gC (fun t32=>?_) (fun t32=>?_)
  ·have h2 : sgHit l kw i = false := by unfold sgHit; rw [H4 t32, Bool.and_false]
   refine ga aO ?_;exact aP J1 (i+1) ⟨hin,fun k h9=>by rcases W3 k i with g |g;exact hj k g;(have:k=i:=by omega);subst this;rw[h2];rfl⟩
  obtain⟨p0,s0⟩:=EX t32;have s1:=(mP (l:=l) (kind:=1) (body:=i) (oth:=kw)).2;have h2:sgHit l kw i=true:=by unfold sgHit;rw[hf,decide_eq_true p0,decide_eq_true s0];rfl
  obtain⟨j,hjt⟩:∃j,l.jo[(jointI l 1 i kw).toNat]?=some j:=ax oz;have hjd:l.jo.getD (jointI l 1 i kw).toNat default=j:=au hjt;have hg:singleG l kw=some (sgG l kw i):=by unfold singleG;rw[gx hin hj (by rw[h2];rfl),Option.map_some]
  refine gi (f0 (n:=(jointI l 1 i kw).toNat) oz hjt) ?_;refine gC (fun t43=>?_) (fun t43=>?_)
  ·have hji:j.a=i:=cK t43;refine br ?_;rw[hg];unfold sgG;rw[hjd];simp only[Option.getD_some,XK hji];rfl
  have hji:j.a≠i:=dq t43;refine br ?_;rw[hg];unfold sgG;rw[hjd];simp only[Option.getD_some,XJ hji];rfl
 have hin:=bi hi t15;subst hin;have hg:singleG l kw=none:=by unfold singleG;rw[fO hj];rfl
 refine gR ?_;exact az.sub az.pure (by rw[hg];exact Sub.tup (.cons qH (.cons (.refl _) .nil)))
theorem VZ(Fd:List AV):FP 399 [.iptr Fd] (.fn 406 [.iptr [.iptr Fd]]):=by
 refine aj func399 ?_ (1,0);refine gW ((Wk.freezeB (k:=1) rfl rfl).trans<|Wk.o (sl:=[(1,some (.iptr [.iptr Fd]))]) (hp:=[])) ?_;refine af ?_;rfl
def vp:Code->Option (Array Tmp×Code×Code)
  | .rangeFunc _ ps x y=>some (ps,x,y)
  | .seq a b=>match vp a with
    |some r=>some r
    |none=>vp b
  | .block _ c=>vp c
  |_=>none
def IN(n:Nat)(o:Option Code):LpD:=match o with
  |some c=>match vp c with
    |some (ps,x,y)=>⟨ps,x,y,n⟩
    |none=>⟨#[],.skip,.skip,0⟩
  |none=>⟨#[],.skip,.skip,0⟩
def EJ(D:LpD)(Fd:List AV)(h:Bool):Blk:=.loop D (match h with |true=>.done |false=>.ready) (match h with |true=>some .ret |false=>none) [(1,some (.iptr [.iptr Fd])),(2,some (.ptr 1001 0)),(3,some (.ptr 1002 0))]
def Bb(g:Gr):Blk:=.box [i64 g.kind,.lst 1 (g.bo.map i64),.lst 1 (g.jo.map i64),i64 g.driver]
def xQ(h:Bool):Blk:=.box [bl h]
def fI(D:LpD)(Fd:List AV)(h:Bool)(g:Gr):Hp:=[(1000,some (EJ D Fd h)),(1001,some (Bb g)),(1002,some (xQ h))]
theorem Ir{D:LpD}{Fd:List AV}{h:Bool}{g:Gr}{k:Nat}{z:Blk}(hz:lk (fI D Fd h g) k=some z):1000<=k:=by
 unfold fI at hz;simp only[aT]at hz;split at hz
 ·omega
 ·split at hz
  ·omega
  ·split at hz
   ·omega
   ·cases hz
theorem L7{D:LpD}{Fd:List AV}{s:AS}(hs:∀k z,lk (fI D Fd false default) k=some z->s.blk k=some z) :
  ∀k∈(fI D Fd false default++dj (fI D Fd false default)).map (·.1),k∈(fI D Fd false default).map (·.1)/\lk (fI D Fd false default++dj (fI D Fd false default)) k=s.blk k:=by
 intro k hk
 have hk':k=1000\/k=1001\/k=1002:=by
  simp[fI,dj]at hk;omega
 rcases hk' with rfl |rfl |rfl
 ·exact⟨by simp[fI],(hs _ _ rfl).symm⟩
 ·exact⟨by simp[fI],(hs _ _ rfl).symm⟩
 ·exact⟨by simp[fI],(hs _ _ rfl).symm⟩
theorem F9{l:Li}{kw:List Bool}{i k:Nat}(h:cond (freeB l kw i) (freeB l kw k) false=false):prHit l kw i k=false:=by
 rw[iO]at h;unfold prHit;rw[h];rfl
theorem Mq{H R:Hp}{k:Nat}{z:Blk}(h:lk H k=some z):lk (H++R) k=some z:=by rw[mU,XK (nD h)];exact h
theorem Nw{a b:Bool}(h:cond a b false=true):a=true:=by cases a <;> simp_all
theorem Ah{a b:Bool}(h:cond a b false=true):b=true:=by cases a <;> simp_all
theorem RY(D:LpD)(l:Li)(hl:l.ok)(hli:aG l=0)(kw:List Bool)(hk:kw.length=l.bo.length)(r:List AV)
  (hy:∀i k:Nat,i<k->k<l.bo.length->freeB l kw i=true->freeB l kw k=true ->
   vX prog 1000 [i64 i,i64 k] (fI D (dM l kw (bY l) r) false default) (bl (!prHit l kw i k)) (fI D (dM l kw (bY l) r) (prHit l kw i k) (cond (prHit l kw i k) (prG l kw i k) default))) :
  Con prog 406 [.yl 1000,.iptr [.iptr (dM l kw (bY l) r)]] (fI D (dM l kw (bY l) r) false default) (.tup []) (fI D (dM l kw (bY l) r) (pairG l kw).isSome ((pairG l kw).getD default)):=by
 have h8:=(cU hli).2.2.2.1;refine gF func406 (fun k z h=>Ir h) ?_;refine gl ?_;refine aZ [0,1,10] [1000,1001,1002] (fun(i:Nat)=>[(11,some (i64 i))]) (fun _=>[]) (fun i=>i<=l.bo.length/\∀j,j<i->(prAt l kw j).isNone=true) (fun i=>l.bo.length-i) 0 ⟨W7 _,fun j h=>by omega⟩ ?_;rintro i ⟨hi,hj⟩ K1 J1;refine gC (fun t12=>?_) (fun t12=>?_)
 ·have hin:=a6 t12;refine ga aO ?_;refine aZ [0,1,3,10,11] [] (fun (k:Nat)=>[(4,some (i64 (i + 1 + k:Nat)))]) (fun _=>[(1000,some (EJ D (dM l kw (bY l) r) false)),(1001,some (Bb default)),(1002,some (xQ false))]) (fun k=>i + 1 + k <= l.bo.length /\ ∀ j,j < k -> (!prHit l kw i (i + 1 + j)) = true) (fun k=>l.bo.length - k) 0 ⟨by omega,fun j h=>by omega⟩ ?_;rintro k ⟨hkl,hkj⟩ K2 J2;refine gl ?_;refine gC (fun t23=>?_) (fun t23=>?_)
  ·have hkn:i + 1 + k < l.bo.length:=a6 t23;refine gc (Ba l hli kw hk r i hin) ?_;refine b9 (fun _=>(Ba l hli kw hk r (i + 1 + k) hkn)) ?_;refine gs (Wt rfl rfl rfl (by intro hb; have h0:prHit l kw i (i + 1 + k) = false:=F9 (by simpa using hb); simp only [h0,cond_false]; exact L7 (by intro k z h; exact h)) (fun hb=>R6 (k:=1000) (.opt rfl (by rw [hb]; rfl)) (hy i (i + 1 + k) oz hkn (Nw hb) (Ah hb)) (.cons (.opt rfl (by rw [hb]; rfl)) (.cons (.opt rfl (by rw [hb]; rfl)) .nil)) (by intro k z h; exact h) rfl rfl)) ?_;refine gC (fun t40=>?_) (fun t40=>?_)
   ·have h2 : prHit l kw i (i + 1 + k) = true := by have h9 := Ah t40; rw [Bool.not_not] at h9; exact h9
    have hat:prAt l kw i=some (i+1+k):=by unfold prAt;rw[gx oz hkj (by rw[h2];rfl),Option.map_some];congr 1;omega
    have hg:pairG l kw=some (prG l kw i (i+1+k)):=by unfold pairG;rw[gx hin hj (by rw[hat];rfl),Option.map_some,hat]
    refine gR ?_;simp only[hg,h2,Option.isSome_some,Option.getD_some,cond_true];exact az.keep (fun k z h=>Mq h)
   have h2:prHit l kw i (i+1+k)=false:=by cases hc:cond (freeB l kw i) (freeB l kw ((i+1+k:Nat):Int)) false with |false=>exact F9 hc |true=>rw[hc,Bool.not_not]at t40;exact t40
   refine ga aO ?_;exact aP J2 (k+1) ⟨by omega,fun j h9=>by rcases W3 j k with g |g;exact hkj j g;(have:j=k:=by omega);subst this;rw[h2];rfl⟩ (hw:=Wk.of a8 (.cons rfl (BlkSub.of (by rw[h2])) (.cons rfl (BlkSub.of (by rw[h2];rfl)) (.cons rfl (BlkSub.of (by rw[h2])) .nil))))
  have hkn:¬i+1+k<l.bo.length:=fun h=>by have h1:=sK t23;omega
  have hat:prAt l kw i=none:=by unfold prAt;rw[show l.bo.length-(i+1)=k by omega,fO hkj];rfl
  refine ga aO ?_;exact aP J1 (i+1) ⟨hin,fun j h9=>by rcases W3 j i with g |g;exact hj j g;(have:j=i:=by omega);subst this;rw[hat];rfl⟩
 have hin:=bi hi t12;have hg:pairG l kw=none:=by unfold pairG;rw[<- hin,fO hj];rfl
 refine gR ?_;simp only[hg,Option.isSome_none,Option.getD_none];exact az.keep (fun k z h=>h)
variable{P:Program}
mutual
def AV.pm(σ:Nat->Nat):AV->AV
  | .ms k sz off len=>.ms (σ k) sz off len
  | .ptr k off=>.ptr (σ k) off
  | .eptr k sz i off=>.eptr (σ k) sz i off
  | .yl k=>.yl (σ k)
  | .agg cs=>.agg (AV.pms σ cs)
  | .tup cs=>.tup (AV.pms σ cs)
  | .fn f cs=>.fn f (AV.pms σ cs)
  | .opt b x=>.opt b (AV.pm σ x)
  | .v x=>.v x
  | .lst sz l=>.lst sz l
  | .iptr l=>.iptr l
  | .cl f cs ds=>.cl f cs ds
def AV.pms(σ:Nat->Nat):List AV->List AV
  |[]=>[]
  |x::l=>AV.pm σ x::AV.pms σ l
end
theorem AV.pms_eq(σ:Nat->Nat):∀l,AV.pms σ l=l.map (AV.pm σ)
 |[]=>rfl
 |x::l=>by simp only[AV.pms,XH,AV.pms_eq σ l]
theorem AV.pm_one(σ:Nat->Nat)(x:AV)(h:x.one=true):(x.pm σ).one=true:=by
 cases x <;> simp only[AV.pm] <;> exact h
mutual
theorem AV.pm_pm{σ:Nat->Nat}(hσ:∀k,σ (σ k)=k):∀x:AV,(x.pm σ).pm σ=x
 | .ms k sz off len=>by simp only[AV.pm,hσ]
 | .ptr k off=>by simp only[AV.pm,hσ]
 | .eptr k sz i off=>by simp only[AV.pm,hσ]
 | .yl k=>by simp only[AV.pm,hσ]
 | .agg cs=>by simp only[AV.pm];rw[AV.pms_pms hσ cs]
 | .tup cs=>by simp only[AV.pm];rw[AV.pms_pms hσ cs]
 | .fn f cs=>by simp only[AV.pm];rw[AV.pms_pms hσ cs]
 | .opt b x=>by simp only[AV.pm];rw[AV.pm_pm hσ x]
 | .v x=>by simp only[AV.pm]
 | .lst sz l=>by simp only[AV.pm]
 | .iptr l=>by simp only[AV.pm]
 | .cl f cs ds=>by simp only[AV.pm]
theorem AV.pms_pms{σ:Nat->Nat}(hσ:∀k,σ (σ k)=k):∀l:List AV,AV.pms σ (AV.pms σ l)=l
 |[]=>by simp only[AV.pms]
 |x::l=>by simp only[AV.pms];rw[AV.pm_pm hσ x,AV.pms_pms hσ l]
end
theorem wm{g:Nat->Array Value->Prop}{S:Nat->Nat->Prop}{σ:Nat->Nat}(hσ:∀k,σ (σ k)=k){m:Nat->Option Nat}{v:Value}{x:AV}(h:Rep g S m v x):Rep g S (fun k=>m (σ k)) v (x.pm σ):=by
 induction h with
 |v x=>exact .v x
 |lst0 a cap sz'=>exact .lst0 a cap sz'
 |lst u hb hc hl hs ho hu hr _=>exact .lst u hb hc hl hs ho hu hr
 |iptr u hb ho hu hr _=>exact .iptr u hb ho hu hr
 |cl a b c d _ _=>exact .cl a b c d
 |ptr hm=>exact .ptr (by simp only[hσ];exact hm)
 |eptr hm=>exact .eptr (by simp only[hσ];exact hm)
 |yl hm=>exact .yl (by simp only[hσ];exact hm)
 |ms0 a k sz off=>exact .ms0 _ _ _ _
 |ms hm hc hS=>exact .ms (by simp only[hσ];exact hm) hc hS
 |opt h h' ih=>exact .opt ih h'
 |agg hn h1 hr ih =>
  simp only[AV.pm,AV.pms_eq];refine .agg (by simpa using hn) ?_ ?_
  ·intro j c hc;simp only[W0,WX]at hc;obtain⟨y,hy,rfl⟩:=hc;exact AV.pm_one _ _ (h1 j y hy)
  ·intro j u c hu hc;simp only[W0,WX]at hc;obtain⟨y,hy,rfl⟩:=hc;exact ih j u y hu hy
 |tup hn hr ih =>
  simp only[AV.pm,AV.pms_eq];refine .tup (by simpa using hn) ?_;intro j u c hu hc;simp only[W0,WX]at hc;obtain⟨y,hy,rfl⟩:=hc;exact ih j u y hu hy
 |fn hn hr ih =>
  simp only[AV.pm,AV.pms_eq];refine .fn (by simpa using hn) ?_;intro j u c hu hc;simp only[W0,WX]at hc;obtain⟨y,hy,rfl⟩:=hc;exact ih j u y hu hy
theorem JO{g:Nat->Array Value->Prop}{S:Nat->Nat->Prop}{σ:Nat->Nat}(hσ:∀k,σ (σ k)=k){m:Nat->Option Nat}{w:World}{o:Option Nat}{x:Blk}(h:BlkRep g S m w o x) :
  BlkRep g S (fun k=>m (σ k)) w o (x.map (AV.pm σ)):=by
 cases x with
 |row sz es=>exact h.mono (fun _ _ h=>h) (fun _ _ h=>h) (fun _ _ hk=>hk.elim) rfl (fun _ _=>rfl)
 |vec vs=>exact h.mono (fun _ _ h=>h) (fun _ _ h=>h) (fun _ _ hk=>hk.elim) rfl (fun _ _=>rfl)
 |loop=>exact h.mapLoop _ (fun _ _ _ _ h=>wm hσ h)
 |box cs =>
  cases h with
  |box hw hn h1 hrr =>
   refine .box hw (by simpa using hn) ?_ ?_
   ·intro j x hx;simp only[W0,WX]at hx;obtain⟨y,hy,rfl⟩:=hx;exact AV.pm_one _ _ (h1 j y hy)
   ·intro j u x hu hx;simp only[W0,WX]at hx;obtain⟨y,hy,rfl⟩:=hx;exact wm hσ (hrr j u y hu hy)
theorem Ai{σ:Nat->Nat}(hσ:∀k,σ (σ k)=k):∀sl:bP,jz (AV.pm σ) (jz (AV.pm σ) sl)=sl
 |[]=>rfl
 |(t,none)::l=>by simp only[jz,Ai hσ l]
 |(t,some x)::l=>by simp only[jz,Ai hσ l,AV.pm_pm hσ x]
theorem Blk.pm_pm{σ:Nat->Nat}(hσ:∀k,σ (σ k)=k)(x:Blk):(x.map (AV.pm σ)).map (AV.pm σ)=x:=by
 cases x with
 |row sz es=>rfl
 |vec vs=>rfl
 |loop d st pe sl=>simp only[Blk.map,Ai hσ]
 |box cs =>
  simp only[Blk.map];rw[<- AV.pms_eq,<- AV.pms_eq,AV.pms_pms hσ]
def jJ(σ:Nat->Nat):Hp->Hp
  |[]=>[]
  |(k,x)::l=>(σ k,match x with |some b=>some (b.map (AV.pm σ)) |none=>none)::jJ σ l
theorem kX{σ:Nat->Nat}(hσ:∀k,σ (σ k)=k):∀(H:Hp)(k:Nat),lk (jJ σ H) k=(lk H (σ k)).map (Blk.map (AV.pm σ))
 |[],k=>rfl
 |(k',x)::l,k=>by
  simp only[jJ,aT,kX hσ l k]
  by_cases h:k=σ k'
  ·rw[XK h,XK (by rw[h,hσ])];cases x <;> rfl
  ·rw[XJ h,XJ (fun e=>h (by rw[<- e,hσ]))]
theorem yR{σ:Nat->Nat}(hσ:∀k,σ (σ k)=k)(H:Hp)(m:Nat->Option Nat):a9 (jJ σ H) (fun k=>m (σ k))=a9 H m:=by
 funext b;apply propext;constructor
 ·rintro⟨k,z,hz,hb⟩;rw[kX hσ,WX]at hz;obtain⟨y,hy,rfl⟩:=hz;exact⟨σ k,y,hy,hb⟩
 ·rintro⟨k,y,hy,hb⟩;exact⟨σ k,y.map (AV.pm σ),by rw[kX hσ,hσ,hy];rfl,by simp only[hσ];exact hb⟩
theorem Hg{σ:Nat->Nat}(hσ:∀k,σ (σ k)=k){ext:Nat->Prop}{H:Hp}{m:Nat->Option Nat}{w:World}(h:HeapRel ext H m w):HeapRel ext (jJ σ H) (fun k=>m (σ k)) w:=by
 have e:Im ext (jJ σ H) (fun k=>m (σ k)) w=Im ext H m w:=by funext b cs;simp only[Im,yR hσ]
 refine⟨?_,?_,?_⟩
 ·intro k z hz;rw[kX hσ,WX]at hz;obtain⟨y,hy,rfl⟩:=hz;rw[e];exact JO hσ (h.blk _ y hy)
 ·intro k k' z z' b hz hz' hb hb';rw[kX hσ,WX]at hz hz';obtain⟨y,hy,_⟩:=hz;obtain⟨y',hy',_⟩:=hz';have:=h.inj _ _ y y' b hy hy' hb hb';rw[<- hσ k,this,hσ]
 ·intro k z b hz hb;rw[kX hσ,WX]at hz;obtain⟨y,hy,_⟩:=hz;exact h.sep _ y b hy hb
theorem Con.pm{σ:Nat->Nat}(hσ:∀k,σ (σ k)=k){f:FuncId}{args:List AV}{H H':Hp}{r:AV}(h:Con P f args H r H'):Con P f (args.map (AV.pm σ)) (jJ σ H) (r.pm σ) (jJ σ H'):=by
 refine⟨h.ok,?_⟩;intro ext m w vs hext hheap hvs hrep
 have hlk:∀k,lk (jJ σ (jJ σ H)) k=lk H k:=by
  intro k;rw[kX hσ,kX hσ,hσ];cases lk H k with
  |none=>rfl
  |some y=>simp only[Option.map_some,Blk.pm_pm hσ]
 have hh:=HeapRel.congr hlk (Hg hσ hheap);have em:(fun k=>(fun k=>m (σ k)) (σ k))=m:=by funext k;simp only[hσ]
 have eo:a9 (jJ σ H) m=a9 H (fun k=>m (σ k)):=by
  have:=yR hσ H (fun k=>m (σ k));rw[em]at this;exact this
 have ei:Im ext (jJ σ H) m w=Im ext H (fun k=>m (σ k)) w:=by funext b cs;simp only[Im,eo]
 refine Calls.mono (h.ret ext (fun k=>m (σ k)) w vs hext hh (by simpa using hvs) (fun j v x hv hx=>?_)) ?_
 ·have h1 := hrep j v (x.pm σ) hv (by simp[hx]);have h2:=wm hσ h1;rw[AV.pm_pm hσ,ei]at h2;exact h2
 ·rintro e w' ⟨v,m',rfl,hf,hh',hn,hk,hrr⟩;refine⟨v,fun k=>m' (σ k),rfl,eo▸hf,Hg hσ hh',?_,?_,?_⟩
  ·intro k x b hx hb;rw[kX hσ,WX]at hx;obtain⟨y,hy,_⟩:=hx;rw[eo];exact hn _ y b hy hb
  ·intro k x y hx hy;rw[kX hσ,WX]at hx hy;obtain⟨x',hx',_⟩:=hx;obtain⟨y',hy',_⟩:=hy;have:=hk _ x' y' hx' hy';simpa only[hσ]using this
  ·have e2 : Im ext (jJ σ H') (fun k => m' (σ k)) w' = Im ext H' m' w' := by funext b cs; simp only [Im, yR hσ]
   rw[e2];exact wm hσ hrr
end Go.Lw
namespace Go.Lw
open Go.Proofs
theorem gZ{P:Program}{N:Nat}{Q:Exit->AS->Prop}{c:Code}{s:AS}(h:Gd P N Q (.code c [] s)):bO P N c Q s:=h
theorem PX{P:Program}{N:Nat}{Q:Exit->AS->Prop}{c:Code}{s s':AS}(hw:Wk s s')(h:j4 P N c Q s'):j4 P N c Q s:=by
 intro C m a w n hro hN hr;obtain⟨m',hr'⟩:=hw C m a w hr;exact h C m' a w n hro hN hr'
def wd(k:Nat):Nat:=bif Nat.beq k 1000 then 900 else bif Nat.beq k 900 then 1000 else bif Nat.beq k 1001 then 2 else bif Nat.beq k 2 then 1001 else bif Nat.beq k 1002 then 3 else bif Nat.beq k 3 then 1002 else k
theorem nb{a b:Nat}(h:¬a=b):Nat.beq a b=false:=by
 cases h1:Nat.beq a b
 ·rfl
 ·exact absurd (W5 h1) h
theorem WO(k:Nat):wd (wd k)=k:=by
 by_cases h1:k=1000
 ·subst h1;rfl
 by_cases h2:k=900
 ·subst h2;rfl
 by_cases h3:k=1001
 ·subst h3;rfl
 by_cases h4:k=2
 ·subst h4;rfl
 by_cases h5:k=1002
 ·subst h5;rfl
 by_cases h6:k=3
 ·subst h6;rfl
 have e:wd k=k:=by simp only[wd,nb h1,nb h2,nb h3,nb h4,nb h5,nb h6,cond_false]
 rw[e,e]
theorem PV(l:Li)(hl:l.ok)(hli:aG l=0)(kw:List Bool)(hk:kw.length=l.bo.length)(r:List AV) :
  FP 377 [.iptr (dM l kw (bY l) r)] (.tup [((pairG l kw).getD default).av,bl (pairG l kw).isSome]):=by
 refine GI (rs:=Tryz.f377.results.toList) func377 rfl rfl (by simp) rfl (fun k z h=>by cases h) ?_;refine Al (gZ (go ?_));refine PX (s':=⟨[(1,some (.iptr [.iptr (dM l kw (bY l) r)])),(2,some (.ptr 2 0)),(3,some (.ptr 3 0))],[(2,some (Bb default)),(3,some (xQ false))]⟩) ((Wk.freezeB (k:=1) rfl rfl).trans (Wk.of (.k (.k (.k .nil))) (.cons rfl (BlkSub.bL (.cons (.refl _) (.cons (.nil _ _ _) (.cons (.nil _ _ _) (.cons (.refl _) .nil)))) rfl) (.k .nil)))) ?_;refine Vd ?_;refine Al (gZ (go ?_));refine gc (VZ (dM l kw (bY l) r)) ?_;refine M9 ?_
 have hy:∀i k:Nat,i<k->k<l.bo.length->freeB l kw i=true->freeB l kw k=true ->
   vX prog 1000 [i64 i,i64 k] (fI (IN Tryz.f377.ntmps Tryz.f377.body) (dM l kw (bY l) r) false default) (bl (!prHit l kw i k)) (fI (IN Tryz.f377.ntmps Tryz.f377.body) (dM l kw (bY l) r) (prHit l kw i k) (cond (prHit l kw i k) (prG l kw i k) default)):=by
  intro i k hik hkn hfi hfk;refine JN (k:=1000) (fun k z h=>Ir h) rfl rfl (by intro p hp;have h9:p∈[11,12]:=hp;have h8:p=11\/p=12:=(by simpa using h9);show p<42;rcases h8 with h7 |h7 <;> (rw[h7];decide)) ?_;refine gZ (go ?_);refine⟨rfl,_,_,rfl,?_⟩;have hJ:gJ l 0 i (fun o=>decide (o=(k:Int)))=jointI l 0 i (cG l.bo.length k):=BF hli (fun o h0 h1=>(om h0 oz oz).symm);refine gZ (go ?_);refine gc (wb l hl hli kw hk r 0 i) ?_;refine gc (wb l hl hli kw hk r 0 k) ?_;refine gD ?_ (5,0);refine gW (Wk.freezeB (k:=5) rfl rfl) ?_;refine gc (r:=i64 (jointI l 0 i (cG l.bo.length k))) (by rw[<- hJ];exact Con.sA (.cons (.refl _) (.cons (.refl _) (.cons (.refl _) (.cons (rE rfl) .nil)))) (C6 l hl hli _ 0 i 401 [] [.iptr [i64 k]] (fun o=>decide (o=(k:Int))) (fun o h0 h1=>Tu o k))) ?_;refine gC (fun ht=>?_) (fun ht=>?_)
  ·have h2 : prHit l kw i k = true := by unfold prHit; rw [hfi, hfk]; exact (w8.symm.trans ht)
   rw[h2];exact⟨_,_,rfl,az.keep (by intro q z h;simp only[fI,aT]at h;split at h;(subst_vars;exact h);split at h;(subst_vars;exact h);split at h;(subst_vars;exact h);cases h)⟩
  ·have h2 : prHit l kw i k = false := by unfold prHit; rw [hfi, hfk]; exact (w8.symm.trans ht)
   rw[h2];exact⟨_,_,rfl,az.keep (by intro q z h;simp only[fI,aT]at h;split at h;(subst_vars;exact h);split at h;(subst_vars;exact h);split at h;(subst_vars;exact h);cases h)⟩
 have hcon:=Con.pm WO (RY _ l hl hli kw hk r hy);cases hg:pairG l kw with
 |none =>
  rw[hg]at hcon;refine DN (k:=900) (sl0:=[(1,some (.iptr [.iptr (dM l kw (bY l) r)])),(2,some (.ptr 2 0)),(3,some (.ptr 3 0))]) (.tmp rfl) (by intro t x h;simp only[aT]at h;split at h;(subst_vars;exact h);split at h;(subst_vars;exact h);split at h;(subst_vars;exact h);cases h) rfl rfl hcon (fun k' z h=>h) rfl rfl rfl rfl (by intro h;cases h) (.inl ⟨rfl,?_⟩);refine Al (gZ (go ?_));refine bO.out (gZ (go ?_));refine gR ?_;exact az.sub az.pure (Sub.tup (.cons qH (.cons (.refl _) .nil)))
 |some g =>
  rw[hg]at hcon;refine DN (k:=900) (sl0:=[(1,some (.iptr [.iptr (dM l kw (bY l) r)])),(2,some (.ptr 2 0)),(3,some (.ptr 3 0))]) (.tmp rfl) (by intro t x h;simp only[aT]at h;split at h;(subst_vars;exact h);split at h;(subst_vars;exact h);split at h;(subst_vars;exact h);cases h) rfl rfl hcon (fun k' z h=>h) rfl rfl rfl rfl (by intro h;cases h) (.inr ⟨rfl,?_⟩);exact(br (P:=prog) (N:=Tryz.f377.ntmps) (e:=.ret) rfl)
theorem x9{α:Type}{o:Option α}(h:o.isSome=true):∃x,o=some x:=by cases o <;> simp_all
theorem Bg{α:Type}{o:Option α}(h:o.isSome=false):o=none:=by cases o <;> simp_all
theorem QQ(l:Li)(hl:l.ok)(hli:aG l=0)(kw:List Bool)(hk:kw.length=l.bo.length)(r:List AV) :
  FP 339 [.iptr (dM l kw (bY l) r)] (.tup [((nextG l kw).getD default).av,bl (nextG l kw).isSome]):=by
 refine aj func339 ?_;refine gc (Qg l hl hli kw (bY l) hk r) ?_;refine gC (fun t13=>?_) (fun t13=>?_)
 ·obtain⟨g,hg⟩:=x9 t13;refine br ?_;unfold nextG;rw[hg];rfl
 have hg:=Bg t13;refine gc (PV l hl hli kw hk r) ?_;refine gC (fun t20=>?_) (fun t20=>?_)
 ·obtain⟨g,hg2⟩:=x9 t20;refine br ?_;unfold nextG;rw[hg,hg2];rfl
 have hg2:=Bg t20;refine gc (Rl l hl hli kw hk r) ?_;refine br ?_;unfold nextG;rw[hg,hg2];rfl
theorem pj{ts:LL}{r e:Nat}(tw:Tw ts r){a b c d:List Rat}(ha:Nm ts.length e a)(hb:Nm ts.length e b)(hc:Nm ts.length e c)(hd:Nm ts.length e d)(he:2*e<=lm ts.length) :
  Con prog 173 [.ptr 1000 0,aM a b,aM c d] [(1000,some (fX ts))] (aM (sh ts.length (subT ts (ae ts.length a) (ae ts.length c))) (sh ts.length (subT ts (ae ts.length b) (ae ts.length d)))) [(1000,some (fX ts))]:=by
 refine gF func173 (fun k z h=>bG h) ?_;refine gt (aE (vG tw ha hc oz) (aJ rfl rfl rfl) aH rfl rfl) ?_;refine gt (aE (vG tw hb hd oz) (aJ rfl rfl rfl) aH rfl rfl) ?_;refine gD ?_;refine gR ?_;exact az.keep (bm rfl)
theorem vh(R:List AV)(a:List Rat):Con prog 284 [.ptr 1000 0,nA a] [(1000,some (.box [.lst 1 R,.v .nilIface]))] (.tup [nA a,.v .nilIface]) [(1000,some (.box [.lst 1 R,.v .nilIface]))]:=by
 refine gF func284 (fun k z h=>bG h) ?_;refine gC (fun t10=>?_) (fun t10=>?_) (st1:=(2,0));cases t10;refine gR ?_;show az _ (AV.tup [nA a,.v .nilIface]) _ _;exact az.keep (bm rfl)
theorem xh(R:List AV)(a b:List Rat):Con prog 172 [.ptr 1000 0,aM a b] [(1000,some (.box [.lst 1 R,.v .nilIface]))] (.tup [aM a b,.v .nilIface]) [(1000,some (.box [.lst 1 R,.v .nilIface]))]:=by
 refine gF func172 (fun k z h=>bG h) ?_;refine gC (fun t10=>?_) (fun t10=>?_) (st1:=(2,0));cases t10;refine gR ?_;show az _ (AV.tup [aM a b,.v .nilIface]) _ _;exact az.keep (bm rfl)
theorem Jo{ts:LL}{r e:Nat}(tw:Tw ts r){a b c d p q:List Rat}(ha:Nm ts.length e a)(hb:Nm ts.length e b)(hc:Nm ts.length e c)(hd:Nm ts.length e d)(hp:Nm ts.length e p)(hq:Nm ts.length e q)
  (he:8*e+4+2*kB r ts.length<=lm ts.length) :
  Con prog 332 [.ptr 1000 0,aM a b,aM c d,aM p q] [(1000,some (fX ts))] (nA (sh ts.length (qe ts (ae ts.length a) (ae ts.length b) (ae ts.length c) (ae ts.length d) (ae ts.length p) (ae ts.length q)))) [(1000,some (fX ts))]:=by
 refine gF func332 (fun k z h=>bG h) ?_;refine gt (aE (pj tw hc hd ha hb oz) (aJ rfl rfl rfl) aH rfl rfl) ?_;refine gt (aE (pj tw hp hq ha hb oz) (aJ rfl rfl rfl) aH rfl rfl) ?_;refine gt (aE (DJ▸Fs tw (hc.sub ha) (hd.sub hb) (hp.sub ha) (hq.sub hb) oz) (aJ rfl rfl rfl) aH rfl rfl) ?_;refine gD ?_;refine gR ?_;exact az.keep (bm rfl)
theorem IF{ts:LL}{r e:Nat}(tw:Tw ts r){a b c d:List Rat}(ha:Nm ts.length e a)(hb:Nm ts.length e b)(hc:Nm ts.length e c)(hd:Nm ts.length e d)(he:e<=lm ts.length)(f:FuncId)(v:List Rat)
  (hf:Con prog f [.ptr 1000 0,aM a b,aM c d] [(1000,some (fX ts))] (nA v) [(1000,some (fX ts))]) :
  FP 174 [aV ts,aM a b,aM c d,.fn f []] (.tup [nA v,.v .nilIface]):=by
 refine aj func174 ?_;refine gc (mI (e:=e) tw [(a,b),(c,d)] (by simp only[Xu,Xf,or_false];rintro p (rfl |rfl);exact⟨ha,hb⟩;exact⟨hc,hd⟩) he (by simp)) ?_;refine gC (fun t18=>?_) (fun t18=>?_) (st1:=(3,0));cases t18;refine gs (w7 (.tmp rfl) (show Con prog f ([.ptr 22 0,aM a b,aM c d]++[]) [(22,some (fX ts))] (nA v) [(22,some (fX ts))]from Con.rB 22 rfl rfl rfl rfl hf) (aJ rfl rfl rfl) aH rfl rfl) ?_;refine gt (aE (Con.rB 22 rfl rfl rfl rfl (vh _ _)) (bD rfl rfl) aH rfl rfl) ?_;refine br ?_;rfl
theorem tL{ts:LL}{r e:Nat}(tw:Tw ts r){a b c d:List Rat}(ha:Nm ts.length e a)(hb:Nm ts.length e b)(hc:Nm ts.length e c)(hd:Nm ts.length e d)(he:2*(e+e+kB r ts.length)<=lm ts.length) :
  FP 80 [aV ts,aM a b,aM c d] (.tup [nA (sh ts.length (mZ ts (ae ts.length a) (ae ts.length b) (ae ts.length c) (ae ts.length d))),.v .nilIface]):=by
 refine aj func80 ?_;refine gc (Con.sA (.cons (.refl _) (.cons (.refl _) (.cons (.refl _) (.cons (Sub.fn0 _) .nil)))) (IF tw ha hb hc hd oz _ _ (zO tw ha hb hc hd he))) ?_;refine br ?_
 first |rfl |(simp;done)
theorem V4{ts:LL}{r e:Nat}(tw:Tw ts r){a b c d p q:List Rat}(ha:Nm ts.length e a)(hb:Nm ts.length e b)(hc:Nm ts.length e c)(hd:Nm ts.length e d)(hp:Nm ts.length e p)(hq:Nm ts.length e q)
  (he:8*e+10+2*kB r ts.length<=lm ts.length) :
  FP 311 [aV ts,aM a b,aM c d,aM p q] (.tup [i64 (T.sgn (ay ts) ts.length (qe ts (ae ts.length a) (ae ts.length b) (ae ts.length c) (ae ts.length d) (ae ts.length p) (ae ts.length q))),.v .nilIface]):=by
 have ho:=Hj tw ha hb hc hd hp hq;refine aj func311 ?_;refine gc (mI (e:=e) tw [(a,b),(c,d),(p,q)] (by simp only[Xu,Xf,or_false];rintro x (rfl |rfl |rfl);exact⟨ha,hb⟩;exact⟨hc,hd⟩;exact⟨hp,hq⟩) oz (by simp)) ?_;refine gC (fun t21=>?_) (fun t21=>?_) (st1:=(3,0));cases t21;refine gt (aE (Con.rB 25 rfl rfl rfl rfl (Jo tw ha hb hc hd hp hq oz)) (.cons (.tmp rfl) (.cons (.tmp rfl) (.cons (.tmp rfl) (.cons (.tmp rfl) .nil)))) aH rfl rfl) ?_;refine gt (aE (Con.rB 25 rfl rfl rfl rfl (vh _ _)) (bD rfl rfl) aH rfl rfl) ?_;refine gC (fun t37=>?_) (fun t37=>?_) (st1:=(7,0));cases t37;refine gc (qR tw ho oz) ?_;refine br ?_;rw[bf]
theorem OD{ts:LL}{r e:Nat}(tw:Tw ts r){a b c d:List Rat}(ha:Nm ts.length e a)(hb:Nm ts.length e b)(hc:Nm ts.length e c)(hd:Nm ts.length e d)(he:2*e+1<=lm ts.length) :
  FP 310 [aV ts,aM a b,aM c d] (.tup [bl (decide (T.sgn (ay ts) ts.length (subT ts (ae ts.length a) (ae ts.length c))=0/\T.sgn (ay ts) ts.length (subT ts (ae ts.length b) (ae ts.length d))=0)),.v .nilIface]):=by
 refine aj func310 ?_;refine gc (mI (e:=e) tw [(a,b),(c,d)] (by simp only[Xu,Xf,or_false];rintro p (rfl |rfl);exact⟨ha,hb⟩;exact⟨hc,hd⟩) oz (by simp)) ?_;refine gC (fun t18=>?_) (fun t18=>?_) (st1:=(3,0));cases t18;refine gc (wA tw ha hc oz) ?_;refine gC (fun t30=>?_) (fun t30=>?_) (st1:=(6,0));cases t30;refine gc (wA tw hb hd oz) ?_;refine br ?_;rw[<- We];rfl
theorem HX{ts:LL}{r e:Nat}(tw:Tw ts r){a b c d:List Rat}(ha:Nm ts.length e a)(hb:Nm ts.length e b)(hc:Nm ts.length e c)(hd:Nm ts.length e d)(he:2*(e+e+kB r ts.length)<=lm ts.length) :
  FP 191 [aV ts,nA a,nA b,aM c d] (.tup [aM (sh ts.length (rL ts (ae ts.length a) (ae ts.length b) (ae ts.length c) (ae ts.length d))) (sh ts.length (r8 ts (ae ts.length a) (ae ts.length b) (ae ts.length c) (ae ts.length d))),.v .nilIface]):=by
 refine aj func191 ?_;refine gc (vP (e:=e) tw [a,b,c,d] (by simp only[Xu,Xf,or_false];rintro x (rfl |rfl |rfl |rfl) <;> assumption) oz (by simp)) ?_;refine gC (fun t22=>?_) (fun t22=>?_) (st1:=(3,0));cases t22;refine gt (aE (Con.rB 27 rfl rfl rfl rfl (lR tw ha hc oz)) (aJ rfl rfl rfl) aH rfl rfl) ?_;refine gt (aE (Con.rB 27 rfl rfl rfl rfl (lR tw hb hd oz)) (aJ rfl rfl rfl) aH rfl rfl) ?_;refine gt (aE (Con.rB 27 rfl rfl rfl rfl (BE▸vG tw (ha.mul tw rfl hc) (hb.mul tw rfl hd) oz)) (aJ rfl rfl rfl) aH rfl rfl) ?_;refine gt (aE (Con.rB 27 rfl rfl rfl rfl (lR tw hb hc oz)) (aJ rfl rfl rfl) aH rfl rfl) ?_;refine gt (aE (Con.rB 27 rfl rfl rfl rfl (lR tw ha hd oz)) (aJ rfl rfl rfl) aH rfl rfl) ?_;refine gt (aE (Con.rB 27 rfl rfl rfl rfl (yJ▸wF tw (hb.mul tw rfl hc) (ha.mul tw rfl hd) oz)) (aJ rfl rfl rfl) aH rfl rfl) ?_;refine gt (aE (Con.rB 27 rfl rfl rfl rfl (xh _ _ _)) (bD rfl rfl) aH rfl rfl) ?_;refine gD ?_;refine br ?_;rfl
theorem Qf{ts:LL}{r e:Nat}(tw:Tw ts r){a b c d:List Rat}(ha:Nm ts.length e a)(hb:Nm ts.length e b)(hc:Nm ts.length e c)(hd:Nm ts.length e d)(he:2*e<=lm ts.length) :
  FP 192 [aV ts,aM a b,aM c d] (.tup [aM (sh ts.length (T.add ts.length (ae ts.length a) (ae ts.length c))) (sh ts.length (T.add ts.length (ae ts.length b) (ae ts.length d))),.v .nilIface]):=by
 refine aj func192 ?_;refine gc (mI (e:=e) tw [(a,b),(c,d)] (by simp only[Xu,Xf,or_false];rintro p (rfl |rfl);exact⟨ha,hb⟩;exact⟨hc,hd⟩) oz (by simp)) ?_;refine gC (fun t16=>?_) (fun t16=>?_) (st1:=(3,0));cases t16;refine gt (aE (Con.rB 21 rfl rfl rfl rfl (wF tw ha hc oz)) (aJ rfl rfl rfl) aH rfl rfl) ?_;refine gt (aE (Con.rB 21 rfl rfl rfl rfl (wF tw hb hd oz)) (aJ rfl rfl rfl) aH rfl rfl) ?_;refine gt (aE (Con.rB 21 rfl rfl rfl rfl (xh _ _ _)) (bD rfl rfl) aH rfl rfl) ?_;refine gD ?_;refine br ?_;rfl
theorem vd{x y:Rat}(hx:Qs x)(hy:Qs y):FP 153 [qA x,qA y] (aM (sh 0 (x:Rat)) (sh 0 (y:Rat))):=by
 refine aj func153 ?_;refine gc (mg hx) ?_;refine gc (mg hy) ?_;refine gD ?_;refine af ?_
 first |rfl |(simp;done)
theorem uP{ts:LL}{r e:Nat}(tw:Tw ts r){a b c d:List Rat}(ha:Nm ts.length e a)(hb:Nm ts.length e b)(hc:Nm ts.length e c)(hd:Nm ts.length e d){x y:Rat}(hx:Qb e x)(hy:Qb e y)(he:8*e+4*kB r ts.length+4<=lm ts.length) :
  FP 89 [aV ts,.agg [nA a,nA b,nA c,nA d],qA x,qA y] (.tup [aM (sh ts.length (tD ts (ae ts.length a) (ae ts.length b) (ae ts.length c) x y)) (sh ts.length (tq ts (ae ts.length a) (ae ts.length b) (ae ts.length d) x y)),.v .nilIface]):=by
 have hlm:=lc ts.length;have nx:=Nm.ofQ ha.five (Cb.one hx);have ny:=Nm.ofQ ha.five (Cb.one hy);have nX:=uy tw ha hb nx ny;have nY:=xw tw ha hb nx ny;have z1:e<=2*(e+e+kB r ts.length)+1:=by omega
 have z2:2*(2*(e+e+kB r ts.length)+1)<=lm ts.length:=L5 he;have hadd:=Qf tw nX nY (hc.mono z1) (hd.mono z1) z2;refine aj func89 ?_;refine gc (vP (e:=e) tw [a,b,c,d] (by simp only[Xu,Xf,or_false];rintro x (rfl |rfl |rfl |rfl) <;> assumption) oz (by simp)) ?_;refine gC (fun t25=>?_) (fun t25=>?_) (st1:=(3,0));cases t25;refine gc (vd (hx.qs oz) (hy.qs oz)) ?_;refine gc (HX tw ha hb nx ny oz) ?_;refine gD ?_;refine gC (fun t41=>?_) (fun t41=>?_) (st1:=(6,0));cases t41;refine gc hadd ?_;refine br ?_;rw[A0,zR];rfl
def u8(n:Nat):AV:=.v (.int .u8 n)
theorem ul{p q:Bool}{a b:Nat}{c:Nat}(hp:p=decide (a<=c))(hq:q=decide (c<=b)):cond p q false=decide (a<=c/\c<=b):=by
 subst hp;subst hq
 by_cases h:a<=c
 ·simp[h]
 ·simp[h]
theorem sf(c k:Nat):aa .geq (c:Int) (k:Int)=decide (k<=c):=by simp only[aa,decide_eq_decide];omega
theorem s9(c k:Nat):aa .leq (c:Int) (k:Int)=decide (c<=k):=by simp only[aa,decide_eq_decide];omega
theorem O6(c:Nat):cond (cond (aa .geq (c:Int) 97) (aa .leq (c:Int) 122) false) true (cond (aa .geq (c:Int) 65) (aa .leq (c:Int) 90) false)=eW c:=by
 have e1:cond (aa .geq (c:Int) 97) (aa .leq (c:Int) 122) false=decide (97<=c/\c<=122):=ul (sf c 97) (s9 c 122);have e2:cond (aa .geq (c:Int) 65) (aa .leq (c:Int) 90) false=decide (65<=c/\c<=90):=ul (sf c 65) (s9 c 90);rw[e1,e2];unfold eW;cases decide (97<=c/\c<=122) <;> rfl
theorem Vi(c:Nat):cond (cond (aa .geq (c:Int) 65) (aa .leq (c:Int) 90) false) true (cond (aa .geq (c:Int) 97) (aa .leq (c:Int) 122) false)=eW c:=by
 have e1:cond (aa .geq (c:Int) 97) (aa .leq (c:Int) 122) false=decide (97<=c/\c<=122):=ul (sf c 97) (s9 c 122);have e2:cond (aa .geq (c:Int) 65) (aa .leq (c:Int) 90) false=decide (65<=c/\c<=90):=ul (sf c 65) (s9 c 90);rw[e1,e2];unfold eW;cases decide (97<=c/\c<=122) <;> cases decide (65<=c/\c<=90) <;> rfl
theorem C5(c:Nat):cond (aa .geq (c:Int) 48) (aa .leq (c:Int) 57) false=pz c:=ul (sf c 48) (s9 c 57)
theorem B7(c:Nat):cond (cond (eW c) true (pz c)) true (aa .eql (c:Int) 95)=kK c:=by
 unfold kK
 have:aa .eql (c:Int) 95=decide (c=95):=by
  rw[Bool.eq_iff_iff];simp only[aa,beq_iff_eq,decide_eq_true_eq];omega
 rw[this];cases eW c <;> cases pz c <;> rfl
theorem HD(c:Nat):FP 363 [u8 c] (bl (eW c)):=by
 refine aj func363 ?_;refine af ?_;exact congrArg bl (O6 c)
theorem Tq(c:Nat):FP 390 [u8 c] (bl (pz c)):=by
 refine aj func390 ?_;refine af ?_;exact congrArg bl (C5 c)
theorem S6(c:Nat):FP 364 [u8 c] (bl (kK c)):=by
 refine aj func364 ?_;refine gc (HD c) ?_;refine b9 (fun _=>(Tq c)) ?_;refine af ?_;exact congrArg bl (B7 c)
theorem DX(c:Nat):FP 315 [u8 c] (bl (eW c)):=by
 refine aj func315 ?_;refine af ?_;exact congrArg bl (Vi c)
theorem Ss(c:Nat):FP 317 [u8 c] (bl (pz c)):=by
 refine aj func317 ?_;refine af ?_;exact congrArg bl (C5 c)
theorem JI(s:ByteArray)(hs:s.size<=281474976710656):FP 300 [.v (.string s)] (i64 (fj s)):=by
 refine aj func300 ?_;refine gs (fw rfl rfl rfl (fun h=>vg (.opt rfl (o1 h)) (.const _) T9 rfl oz (by have:=H6 h;omega) rfl)) ?_;refine b9 (fun _=>(HD (dS s 0))) ?_;refine gC (fun t11=>?_) (fun t11=>?_)
 ·have h0:fj s=0:=UM t11;refine af ?_;rw[h0];rfl
 obtain⟨h0,h1⟩:=Nx t11;refine aZ [0] [] (fun(n:Nat)=>[(3,some (i64 n))]) (fun _=>[]) (fun n=>1<=n/\n<=s.size/\fv s 1 (s.size-1)=fv s n (s.size-n)) (fun n=>s.size-n) 1 ⟨WZ _,h0,rfl⟩ ?_;rintro n ⟨hn1,hn,hw⟩ K1 J1;refine gs (fw rfl rfl rfl (fun h=>vg (.opt rfl (o1 h)) (.opt rfl (o1 h)) T9 rfl oz (by have:=a6 h;omega) rfl)) ?_;refine b9 (fun _=>(S6 (dS s n))) ?_;refine gC (fun t21=>?_) (fun t21=>?_)
 ·have h2:n<s.size/\kK (dS s n)=true:=KT t21;refine ga aO ?_;exact aP J1 (n+1) ⟨by omega,by omega,by rw[hw,show s.size-n=(s.size-(n+1))+1 by omega];simp only[fv,h2.2,if_true]⟩
 have h2:n<s.size->kK (dS s n)=false:=PY t21
 have h3:fj s=n:=by
  unfold fj;rw[XK ⟨h0,h1⟩,hw];rcases W3 n s.size with h |h
  ·rw[show s.size-n=(s.size-(n+1))+1 by omega];simp only[fv,h2 h,Bool.false_eq_true,if_false]
  ·rw[show s.size-n=0 by omega];rfl
 refine af ?_;rw[h3]
theorem sC(s:ByteArray)(hs:s.size<=281474976710656):FP 204 [.v (.string s)] (bl (io s)):=by
 refine aj func204 ?_;refine gc (JI s hs) ?_;refine af ?_;exact congrArg bl (Sy s)
theorem vZ(s:ByteArray)(i:Nat):FP 316 [.v (.string s),i64 i] (u8 (dS s i)):=by
 refine aj func316 ?_;refine gC (fun t8=>?_) (fun t8=>?_)
 ·have h0:=a6 t8;refine gs (vg (.tmp rfl) (.tmp rfl) T9 rfl oz oz rfl) ?_;refine af ?_;rfl
 have h0:=sK t8;refine af ?_;rw[Cj oz];rfl
theorem SZ(s:ByteArray)(hs:s.size<=281474976710656):FP 225 [.v (.string s),i64 0] (i64 ((if eW (dS s 0)then fv s 0 s.size else 0:Nat))):=by
 refine aj func225 ?_;refine gc (vZ s 0) ?_;refine gc (DX (dS s 0)) ?_;refine gC (fun t9=>?_) (fun t9=>?_)
 ·have h0 : eW (dS s 0) = false := by simpa using t9
  refine af ?_;rw[h0];rfl
 have h0:eW (dS s 0)=true:=by simpa using t9
 refine aZ [0] [] (fun(n:Nat)=>[(1,some (i64 n))]) (fun _=>[]) (fun n=>n<=s.size/\fv s 0 s.size=fv s n (s.size-n)) (fun n=>s.size-n) 0 ⟨W7 _,rfl⟩ ?_;rintro n ⟨hn,hw⟩ K1 J1;refine gc (vZ s n) ?_;refine gc (DX (dS s n)) ?_;refine b9 (fun _=>(vZ s n)) ?_;refine b9 (fun _=>(Ss (dS s n))) ?_;refine b9 (fun _=>(vZ s n)) ?_;refine gC (fun t26=>?_) (fun t26=>?_)
 ·have h1:kK (dS s n)=true:=(B7 _).symm.trans t26
  have h2:n<s.size:=by
   rcases W3 n s.size with h |h
   ·exact h
   ·rw[Cj h]at h1;cases h1
  refine ga aO ?_;exact aP J1 (n+1) ⟨by omega,by rw[hw,show s.size-n=(s.size-(n+1))+1 by omega];simp only[fv,h1,if_true]⟩
 have h1:kK (dS s n)=false:=(B7 _).symm.trans t26
 have h2:fv s 0 s.size=n:=by
  rw[hw];rcases W3 n s.size with h |h
  ·rw[show s.size-n=(s.size-(n+1))+1 by omega];simp only[fv,h1,Bool.false_eq_true,if_false]
  ·rw[show s.size-n=0 by omega];rfl
 refine af ?_;rw[h0,h2];rfl
theorem rS(s:ByteArray)(hs:s.size<=281474976710656):FP 111 [.v (.string s)] (bl (io s)):=by
 refine aj func111 ?_;refine b9 (fun _=>(SZ s hs)) ?_;refine af ?_;exact congrArg bl (M1 s)
theorem qd(i:Int)(n:Nat):FP 302 [i64 i,i64 n] (bl (bt i n)):=by
 refine aj func302 ?_;refine af ?_;exact congrArg bl (HL i n)
theorem R8(bs:List Bd)(hbs:∀b∈bs,b.ok)(hl:bs.length<=281474976710656):FP 205 [.lst 2 (bs.map Bd.av)] (bq (fa bs.length (ep bs))):=by
 refine aj func205 ?_;refine gl ?_;refine aZ [0,11,12] [] (fun(i:Nat)=>[(13,some (i64 i))]) (fun _=>[]) (fun i=>i<=bs.length/\∀j,j<i->ep bs j=0) (fun i=>bs.length-i) 0 ⟨W7 _,fun j h=>by omega⟩ ?_;rintro i ⟨hi,hj⟩ K1 J1;refine gC (fun t14=>?_) (fun t14=>?_)
 ·have hin:=a6 t14;obtain⟨b,hb⟩:=ax hin;have hbd:bs.getD i default=b:=au hb;have hbo:=hbs b (WU hb);have hbdup:=mN Bd.name hb;refine gi (aI hb) ?_;refine gc (sC b.name hbo.name) ?_;refine gC (fun t21=>?_) (fun t21=>?_)
  ·have h1:=df t21;have e1:ep bs i = 5:=by unfold ep; rw [hbd,XK h1]
   refine af ?_;rw[eg hin hj (by rw[e1];decide),e1];rfl
  have h1:=c9 t21;refine gs (fm (.tmp rfl) (.none _) (.some _ (.tmp rfl) oz) T22 rfl T173 rfl oz (by simp only[WW];omega) rfl) ?_;refine ge rfl ?_;refine aZ [0,3,4,11,12,13] [4] (fun(k:Nat)=>[(25,some (.lst 2 ((bs.take i).map Bd.av))),(26,some (i64 i)),(27,some (i64 k))]) (fun _=>[]) (fun k=>k<=i/\(bs.take k).any (fun y=>dJ y.name b.name)=false) (fun k=>i-k) 0 ⟨W7 _,rfl⟩ ?_ (h1:=(.cons rfl (Sub.of (sD 2 Bd.av bs i)) (.cons rfl (Sub.int (by simp;omega)) (.k .nil))));rintro k ⟨hk,hd⟩ K2 J2;refine gC (fun t28=>?_) (fun t28=>?_)
  ·have hkn:=a6 t28;obtain ⟨y,hy'⟩:∃ y,(bs.take i)[k]? = some y:=ax (by simp; omega);have hy:=(r7 hy').1;refine gi (aI hy') ?_;refine gC (fun t35=>?_) (fun t35=>?_)
   ·have h2:dJ y.name b.name = true:=t35;have e1:ep bs i = 6:=by unfold ep; rw [hbd,XJ (by rw [h1]; decide),XK (by rw [hbdup]; exact lM hy hkn h2)]
    refine af ?_;rw[eg hin hj (by rw[e1];decide),e1];rfl
   have h2:dJ y.name b.name=false:=t35;refine ga aO ?_;exact aP J2 (k+1) ⟨hkn,kA hy hd h2⟩
  have hkn:=bi hk t28;subst hkn;have hnd:¬gy (bs.map Bd.name) k=true:=by rw[hbdup,hd];decide
  refine gl ?_;refine gC (fun t41=>?_) (fun t41=>?_)
  ·have h3:8 < b.pts.length:=jl t41;have e1:ep bs k = 4:=by unfold ep; rw [hbd,XJ (by rw [h1]; decide),XJ hnd,XK h3]
   refine af ?_;rw[eg hin hj (by rw[e1];decide),e1];rfl
  have h3:b.pts.length<=8:=g9 t41;have e1:ep bs k=fa b.pts.length (d8 b.pts):=by unfold ep;rw[hbd,XJ (by rw[h1];decide),XJ hnd,XJ oz]
  refine gl ?_;refine aZ [0,4,11,12,13,44,45] [4] (fun(p:Nat)=>[(46,some (i64 p))]) (fun _=>[]) (fun p=>p<=b.pts.length/\∀j,j<p->d8 b.pts j=0) (fun p=>b.pts.length-p) 0 ⟨W7 _,fun j h=>by omega⟩ ?_;rintro p ⟨hp,hpj⟩ K3 J3;refine gC (fun t47=>?_) (fun t47=>?_)
  ·have hpn:=a6 t47;obtain⟨m,hm⟩:=ax hpn;have hmd:b.pts.getD p default=m:=au hm;have hmm:=WU hm;have hmdup:=mN Mk.name hm;have hmo:=hbo.pts m hmm;refine gi (aI hm) ?_;refine gc (sC m.name (hbo.names m hmm)) ?_;refine gC (fun t54=>?_) (fun t54=>?_)
   ·have h4:=df t54;have e2:d8 b.pts p = 5:=by unfold d8; rw [hmd,XK h4]
    have e3:ep bs k=5:=by rw[e1,eg hpn hpj (by rw[e2];decide),e2]
    refine af ?_;rw[eg hin hj (by rw[e3];decide),e3];rfl
   have h4:=c9 t54;refine gs (fm (.tmp rfl) (.none _) (.some _ (.tmp rfl) oz) T171 rfl T175 rfl oz (by simp only[WW];omega) rfl) ?_;refine ge rfl ?_;refine aZ [0,4,8,11,12,13,44,45,46] [4,8] (fun(q:Nat)=>[(59,some (.lst 7 ((b.pts.take p).map Mk.av))),(60,some (i64 p)),(61,some (i64 q))]) (fun _=>[]) (fun q=>q<=p/\(b.pts.take q).any (fun y=>dJ y.name m.name)=false) (fun q=>p-q) 0 ⟨W7 _,rfl⟩ ?_ (h1:=(.cons rfl (Sub.of (sD 7 Mk.av b.pts p)) (.cons rfl (Sub.int (by simp;omega)) (.k .nil))));rintro q ⟨hq,hqd⟩ K4 J4;refine gC (fun t62=>?_) (fun t62=>?_)
   ·have hqn:=a6 t62;obtain ⟨y,hy'⟩:∃ y,(b.pts.take p)[q]? = some y:=ax (by simp; omega);have hy:=(r7 hy').1;refine gi (aI hy') ?_;refine gC (fun t69=>?_) (fun t69=>?_)
    ·have h5:dJ y.name m.name = true:=t69;have e2:d8 b.pts p = 6:=by unfold d8; rw [hmd,XJ (by rw [h4]; decide),XK (by rw [hmdup]; exact lM hy hqn h5)]
     have e3:ep bs k=6:=by rw[e1,eg hpn hpj (by rw[e2];decide),e2]
     refine af ?_;rw[eg hin hj (by rw[e3];decide),e3];rfl
    have h5:dJ y.name m.name=false:=t69;refine ga aO ?_;exact aP J4 (q+1) ⟨hqn,kA hy hqd h5⟩
   have hqn:=bi hq t62;subst hqn;have hmnd:¬gy (b.pts.map Mk.name) q=true:=by rw[hmdup,hqd];decide
   refine gc (tC m.x hmo.x) ?_;refine b9 (fun _=>(tC m.y hmo.y)) ?_;refine gC (fun t81=>?_) (fun t81=>?_)
   ·have h6:=nO t81;have e2:d8 b.pts q = 3:=by unfold d8; rw [hmd,XJ (by rw [h4]; decide),XJ hmnd,XJ (by rintro ⟨g1,g2⟩; rcases h6 with g | g; (rw [g1] at g; cases g); (rw [g2] at g; cases g))]
    have e3:ep bs k=3:=by rw[e1,eg hpn hpj (by rw[e2];decide),e2]
    refine af ?_;rw[eg hin hj (by rw[e3];decide),e3];rfl
   have h6:=ou t81;have e2:d8 b.pts q=0:=by unfold d8;rw[hmd,XJ (by rw[h4];decide),XJ hmnd,XK h6]
   refine ga aO ?_;exact aP J3 (q+1) ⟨hpn,fun j h9=>by rcases W3 j q with g |g;exact hpj j g;(have:j=q:=by omega);subst this;exact e2⟩
  have hpn:=bi hp t47;subst hpn;have e2:ep bs k=0:=e1.trans (nH hpj);refine ga aO ?_;exact aP J1 (k+1) ⟨hin,fun j h9=>by rcases W3 j k with g |g;exact hj j g;(have:j=k:=by omega);subst this;exact e2⟩
 have hin:=bi hi t14;subst hin;refine af ?_;rw[nH hj];rfl
theorem Oo(l:Li)(hl:l.ok)(j:Jt):FP 301 [l.av,j.av] (bq (er l j)):=by
 refine aj func301 ?_;refine gC (fun t15=>?_) (fun t15=>?_)
 ·have h1:=C7 t15;refine af ?_;unfold er;rw[XK h1];rfl
 have h1:=IM t15;refine gl ?_;refine gc (qd j.a l.bo.length) ?_;refine cD ?_;refine b9 (fun _=>(qd j.b l.bo.length)) ?_;refine gC (fun t32=>?_) (fun t32=>?_)
 ·have h2:=nO t32;refine af ?_;unfold er;rw[XJ h1,XK h2];rfl
 have h2:=ou t32;have h2n:¬(bt j.a l.bo.length=false\/bt j.b l.bo.length=false):=by rw[h2.1,h2.2];simp
 obtain⟨A,hA,pA,mA,zA0⟩:=qr h2.1;obtain⟨B,hB,pB,mB,zB0⟩:=qr h2.2;refine gC (fun t38=>?_) (fun t38=>?_)
 ·have h3:=cK t38;refine af ?_;unfold er;rw[XJ h1,XJ h2n,XK h3];rfl
 have h3:=dq t38;refine gi (aI hB) ?_;refine gi (aI hA) ?_;refine gl ?_;refine gc (qd j.point A.pts.length) ?_;refine cD ?_;refine b9 (fun _=>(qd j.on B.pts.length)) ?_;refine gD ?_;refine gC (fun t66=>?_) (fun t66=>?_)
 ·have h4:=nO t66;refine af ?_;unfold er;rw[XJ h1,XJ h2n,XJ h3,pA,pB,XK h4];rfl
 have h4:=ou t66;have h4n:¬(bt j.point A.pts.length=false\/bt j.on B.pts.length=false):=by rw[h4.1,h4.2];simp
 refine gC (fun t70=>?_) (fun t70=>?_)
 ·have h5:=cK t70;refine gC (fun t73=>?_) (fun t73=>?_)
  ·have h6:=ni t73;refine af ?_;unfold er;rw[XJ h1,XJ h2n,XJ h3,pA,pB,XJ h4n,XK h5,XK h6];rfl
  have h6:=rZ t73;refine af ?_;unfold er;rw[XJ h1,XJ h2n,XJ h3,pA,pB,XJ h4n,XK h5,XJ (by rw[h6];simp)];rfl
 have h5:=dq t70;refine gl ?_;refine gc (qd j.to B.pts.length) ?_;refine gC (fun t80=>?_) (fun t80=>?_)
 ·have h6:=df t80;refine af ?_;unfold er;rw[XJ h1,XJ h2n,XJ h3,pA,pB,XJ h4n,XJ h5,XK h6];rfl
 have h6:=c9 t80;obtain⟨m1,g1,d1,mm1,z1⟩:=tf h4.2;obtain⟨m2,g2,d2,mm2,z2⟩:=tf h6;have mo1:=(hl.bo B mB).pts m1 mm1;have mo2:=(hl.bo B mB).pts m2 mm2;refine gi (aI g1) ?_;refine gi (aI g2) ?_;refine gD ?_;refine gc (Fa m1.x m2.x mo1.x mo2.x) ?_;refine b9 (fun _=>(Fa m1.y m2.y mo1.y mo2.y)) ?_;refine gC (fun t105=>?_) (fun t105=>?_)
 ·have h7:=GZ t105;refine af ?_;unfold er;rw[XJ h1,XJ h2n,XJ h3,pA,pB,XJ h4n,XJ h5,XJ (by rw[h6];decide),d1,d2,XK h7];rfl
 have h7:=Iq t105;refine af ?_;unfold er;rw[XJ h1,XJ h2n,XJ h3,pA,pB,XJ h4n,XJ h5,XJ (by rw[h6];decide),d1,d2,XJ h7];rfl
theorem VA(l:Li)(hl:l.ok):FP 206 [l.av] (bq (eT l)):=by
 have hlj:=hl.lj;refine aj func206 ?_;refine gl ?_;refine gC (fun t11=>?_) (fun t11=>?_)
 ·have h0:16<l.jo.length:=jl t11;refine af ?_;unfold eT;rw[XK h0];rfl
 have h0:l.jo.length<=16:=g9 t11;have e0:eT l=fa l.jo.length (fT l):=by unfold eT;rw[XJ oz]
 refine gl ?_;refine aZ [1,14,15] [1] (fun(i:Nat)=>[(16,some (i64 i))]) (fun _=>[]) (fun i=>i<=l.jo.length/\∀j,j<i->fT l j=0) (fun i=>l.jo.length-i) 0 ⟨W7 _,fun j h=>by omega⟩ ?_;rintro i ⟨hi,hj⟩ K1 J1;refine gC (fun t17=>?_) (fun t17=>?_)
 ·have hin:=a6 t17;obtain⟨b,hb⟩:=ax hin;have hbd:l.jo.getD i default=b:=au hb;have hbdup:=mN Jt.name hb;refine gi (aI hb) ?_;refine gc (sC b.name (hl.jnames b (WU hb))) ?_;refine gC (fun t24=>?_) (fun t24=>?_)
  ·have h1:=df t24;have e1:fT l i = 5:=by unfold fT; rw [hbd,XK h1]
   refine af ?_;rw[e0,eg hin hj (by rw[e1];decide),e1];rfl
  have h1:=c9 t24;refine gs (fm (.tmp rfl) (.none _) (.some _ (.tmp rfl) oz) T23 rfl T75 rfl oz (by simp only[WW];omega) rfl) ?_;refine ge rfl ?_;refine aZ [1,3,4,14,15,16] [1,4] (fun(k:Nat)=>[(29,some (.lst 7 ((l.jo.take i).map Jt.av))),(30,some (i64 i)),(31,some (i64 k))]) (fun _=>[]) (fun k=>k<=i/\(l.jo.take k).any (fun y=>dJ y.name b.name)=false) (fun k=>i-k) 0 ⟨W7 _,rfl⟩ ?_ (h1:=(.cons rfl (Sub.of (sD 7 Jt.av l.jo i)) (.cons rfl (Sub.int (by simp;omega)) (.k .nil))));rintro k ⟨hk,hd⟩ K2 J2;refine gC (fun t32=>?_) (fun t32=>?_)
  ·have hkn:=a6 t32;obtain ⟨y,hy'⟩:∃ y,(l.jo.take i)[k]? = some y:=ax (by simp; omega);have hy:=(r7 hy').1;refine gi (aI hy') ?_;refine gC (fun t39=>?_) (fun t39=>?_)
   ·have h2:dJ y.name b.name = true:=t39;have e1:fT l i = 6:=by unfold fT; rw [hbd,XJ (by rw [h1]; decide),XK (by rw [hbdup]; exact lM hy hkn h2)]
    refine af ?_;rw[e0,eg hin hj (by rw[e1];decide),e1];rfl
   have h2:dJ y.name b.name=false:=t39;refine ga aO ?_;exact aP J2 (k+1) ⟨hkn,kA hy hd h2⟩
  have hkn:=bi hk t32;subst hkn;have hnd:¬gy (l.jo.map Jt.name) k=true:=by rw[hbdup,hd];decide
  have e1:fT l k=er l b:=by unfold fT;rw[hbd,XJ (by rw[h1];decide),XJ hnd]
  refine gc (Oo l hl b) ?_;refine gC (fun t46=>?_) (fun t46=>?_)
  ·have h3:=dl t46;refine af ?_;rw[e0,eg hin hj (by rw[e1];exact h3),e1]
  have h3:=cZ t46;refine ga aO ?_;exact aP J1 (k+1) ⟨hin,fun j h9=>by rcases W3 j k with g |g;exact hj j g;(have:j=k:=by omega);subst this;exact e1.trans h3⟩
 have hin:=bi hi t17;subst hin;refine af ?_;rw[e0,nH hj];rfl
theorem Vk(l:Li)(hl:l.ok):FP 207 [l.av] (bq (gM l)):=by
 have hld:=hl.ld;refine aj func207 ?_;refine gl ?_;refine gC (fun t12=>?_) (fun t12=>?_)
 ·have h0:2<l.dv.length:=jl t12;refine af ?_;unfold gM;rw[XK h0];rfl
 have h0:l.dv.length<=2:=g9 t12;have e0:gM l=fa l.dv.length (d6 l):=by unfold gM;rw[XJ oz]
 refine gl ?_;refine aZ [1,15,16] [1] (fun(i:Nat)=>[(17,some (i64 i))]) (fun _=>[]) (fun i=>i<=l.dv.length/\∀j,j<i->d6 l j=0) (fun i=>l.dv.length-i) 0 ⟨W7 _,fun j h=>by omega⟩ ?_;rintro i ⟨hi,hj⟩ K1 J1;refine gC (fun t18=>?_) (fun t18=>?_)
 ·have hin:=a6 t18;obtain⟨b,hb⟩:=ax hin;have hbd:l.dv.getD i default=b:=au hb;have hbdup:=mN Dr.name hb;refine gi (aI hb) ?_;refine gc (sC b.name (hl.dnames b (WU hb))) ?_;refine gC (fun t25=>?_) (fun t25=>?_)
  ·have h1:=df t25;have e1:d6 l i = 5:=by unfold d6; rw [hbd,XK h1]
   refine af ?_;rw[e0,eg hin hj (by rw[e1];decide),e1];rfl
  have h1:=c9 t25;refine gs (fm (.tmp rfl) (.none _) (.some _ (.tmp rfl) oz) T24 rfl T185 rfl oz (by simp only[WW];omega) rfl) ?_;refine ge rfl ?_;refine aZ [1,3,4,15,16,17] [1,4] (fun(k:Nat)=>[(30,some (.lst 2 ((l.dv.take i).map Dr.av))),(31,some (i64 i)),(32,some (i64 k))]) (fun _=>[]) (fun k=>k<=i/\(l.dv.take k).any (fun y=>dJ y.name b.name)=false) (fun k=>i-k) 0 ⟨W7 _,rfl⟩ ?_ (h1:=(.cons rfl (Sub.of (sD 2 Dr.av l.dv i)) (.cons rfl (Sub.int (by simp;omega)) (.k .nil))));rintro k ⟨hk,hd⟩ K2 J2;refine gC (fun t33=>?_) (fun t33=>?_)
  ·have hkn:=a6 t33;obtain ⟨y,hy'⟩:∃ y,(l.dv.take i)[k]? = some y:=ax (by simp; omega);have hy:=(r7 hy').1;refine gi (aI hy') ?_;refine gC (fun t40=>?_) (fun t40=>?_)
   ·have h2:dJ y.name b.name = true:=t40;have e1:d6 l i = 6:=by unfold d6; rw [hbd,XJ (by rw [h1]; decide),XK (by rw [hbdup]; exact lM hy hkn h2)]
    refine af ?_;rw[e0,eg hin hj (by rw[e1];decide),e1];rfl
   have h2:dJ y.name b.name=false:=t40;refine ga aO ?_;exact aP J2 (k+1) ⟨hkn,kA hy hd h2⟩
  have hkn:=bi hk t33;subst hkn;have hnd:¬gy (l.dv.map Dr.name) k=true:=by rw[hbdup,hd];decide
  refine gl ?_;refine gc (qd b.body l.bo.length) ?_;refine gC (fun t49=>?_) (fun t49=>?_)
  ·have h3:=df t49;have e1:d6 l k = 9:=by unfold d6; rw [hbd,XJ (by rw [h1]; decide),XJ hnd,XK h3]
   refine af ?_;rw[e0,eg hin hj (by rw[e1];decide),e1];rfl
  have h3:=c9 t49;refine gC (fun t53=>?_) (fun t53=>?_)
  ·have h4:=cK t53;have e1:d6 l k = 7:=by unfold d6; rw [hbd,XJ (by rw [h1]; decide),XJ hnd,XJ (by rw [h3]; decide),XK h4]
   refine af ?_;rw[e0,eg hin hj (by rw[e1];decide),e1];rfl
  have h4:=dq t53;have e1:d6 l k=if(l.dv.take k).any (fun d=>decide (d.body=b.body))=true then 6 else 0:=by unfold d6;rw[hbd,XJ (by rw[h1];decide),XJ hnd,XJ (by rw[h3];decide),XJ h4]
  refine gs (fm (.tmp rfl) (.none _) (.some _ (.tmp rfl) oz) T24 rfl T185 rfl oz (by simp only[WW];omega) rfl) ?_;refine ge rfl ?_;refine aZ [1,4,15,16,17] [1,4] (fun(q:Nat)=>[(58,some (.lst 2 ((l.dv.take k).map Dr.av))),(59,some (i64 k)),(60,some (i64 q))]) (fun _=>[]) (fun q=>q<=k/\(l.dv.take q).any (fun d=>decide (d.body=b.body))=false) (fun q=>k-q) 0 ⟨W7 _,rfl⟩ ?_ (h1:=(.cons rfl (Sub.of (sD 2 Dr.av l.dv k)) (.cons rfl (Sub.int (by simp;omega)) (.k .nil))));rintro q ⟨hq,hqd⟩ K3 J3;refine gC (fun t61=>?_) (fun t61=>?_)
  ·have hqn:=a6 t61;obtain ⟨y,hy'⟩:∃ y,(l.dv.take k)[q]? = some y:=ax (by simp; omega);have hy:=(r7 hy').1;refine gi (aI hy') ?_;refine gC (fun t68=>?_) (fun t68=>?_)
   ·have h5:decide (y.body = b.body) = true:=decide_eq_true (cK t68);have e2:d6 l k = 6:=by rw [e1,XK (lM hy hqn h5)]
    refine af ?_;rw[e0,eg hin hj (by rw[e2];decide),e2];rfl
   have h5:decide (y.body=b.body)=false:=decide_eq_false (dq t68);refine ga aO ?_;exact aP J3 (q+1) ⟨hqn,kA hy hqd h5⟩
  have hqn:=bi hq t61;subst hqn;have e2:d6 l q=0:=by rw[e1,hqd];rfl
  refine ga aO ?_;exact aP J1 (q+1) ⟨hin,fun j h9=>by rcases W3 j q with g |g;exact hj j g;(have:j=q:=by omega);subst this;exact e2⟩
 have hin:=bi hi t18;subst hin;refine af ?_;rw[e0,nH hj];rfl
theorem AN(l:Li)(hl:l.ok):FP 104 [l.av] (bq (aG l)):=by
 have hlb:=hl.lb;refine aj func104 ?_;refine gc (sC l.name hl.name) ?_;refine gC (fun t8=>?_) (fun t8=>?_)
 ·have h1:=df t8;refine af ?_;unfold aG;rw[XK h1];rfl
 have h1:=c9 t8;refine gl ?_;refine gC (fun t13=>?_) (fun t13=>?_)
 ·have h2:=F7 t13;refine af ?_;unfold aG;rw[XJ (by rw[h1];decide),XK h2];rfl
 have h2:=E1 t13;refine gl ?_;refine gC (fun t18=>?_) (fun t18=>?_)
 ·have h3:8<l.bo.length:=jl t18;refine af ?_;unfold aG;rw[XJ (by rw[h1];decide),XJ h2,XK h3];rfl
 have h3:l.bo.length<=8:=g9 t18;have e0:aG l=if il l≠0 then il l else if eT l≠0 then eT l else gM l:=by unfold aG;rw[XJ (by rw[h1];decide),XJ h2,XJ oz]
 refine gc (R8 l.bo hl.bo hlb) ?_;refine gC (fun t24=>?_) (fun t24=>?_)
 ·have h4:il l≠0:=dl t24;refine af ?_;rw[e0,XK h4];rfl
 have h4:il l=0:=cZ t24;refine gc (VA l hl) ?_;refine gC (fun t29=>?_) (fun t29=>?_)
 ·have h5:=dl t29;refine af ?_;rw[e0,XJ (by rw[h4];simp),XK h5]
 have h5:=cZ t29;refine gc (Vk l hl) ?_;refine af ?_;rw[e0,XJ (by rw[h4];simp),XJ (by rw[h5];simp)]
theorem yv(d:Nat)(hd:Nat.blt d 1000=true)(l:Li)(hl:l.bo.length<=1000)(b:Nat)(hb:b<l.bo.length) :
  Con prog 135 [l.av,i64 b] [] (.ms d 1 0 l.bo.length) [(d,some (.row 1 ((cG l.bo.length b).map bl)))]:=by
 refine gF func135 (fun k z h=>by cases h) ?_;refine gl ?_;refine gs (gX (.tmp rfl) T219 rfl T4 rfl rfl oz (by dsimp only;omega) rfl) ?_;refine gs (mh (.tmp rfl) (.tmp rfl) T219 rfl T4 rfl oz oz rfl) ?_;refine gs (dP (.tmp rfl) rfl (by rw[Xq,XK (by simp;omega)]) rfl (.const _) rfl rfl T4 rfl rfl) ?_ (3,0);refine gW (Wk.of (sl:=[(5,some (.ms 9 1 0 l.bo.length))]) (hp:=[(9,some (.row 1 ((cG l.bo.length b).map bl)))]) (.cons rfl (Sub.of (by rw[Xk])) .nil) (.cons rfl (BlkSub.of (by unfold cG;simp only[XF,XB,Nat.zero_add,Xk];rfl)) .nil)) ?_ (3,0);refine gW (Wk.rk (k:=9) (d:=900) rfl rfl) ?_;refine gR ?_;exact az.own1 rfl hd rfl
theorem Kf(l:Li)(hl:l.bo.length<=1000)(b:Nat)(hb:b<l.bo.length):FP 135 [l.av,i64 b] (.lst 1 ((cG l.bo.length b).map bl)):=by
 have h:=Con.freeze (by rw[WW,gV];omega) (yv 0 rfl l hl b hb);rw[XG,Xb (by rw[WW,gV];exact WZ _)]at h;exact h
theorem Kr(l:Li)(hl:l.ok)(b:Int):FP 333 [l.av,i64 b] (bl (my l b)):=by
 have hld:=hl.ld;refine aj func333 ?_;refine gl ?_;refine aZ [1,8,9] [] (fun(i:Nat)=>[(10,some (i64 i))]) (fun _=>[]) (fun i=>i<=l.dv.length/\(l.dv.take i).any (fun d=>decide (d.body=b))=false) (fun i=>l.dv.length-i) 0 ⟨W7 _,rfl⟩ ?_;rintro i ⟨hi,hj⟩ K1 J1;refine gC (fun t11=>?_) (fun t11=>?_)
 ·have hin:=a6 t11;obtain⟨d,hd⟩:=ax hin;refine gi (aI hd) ?_;refine gC (fun t17=>?_) (fun t17=>?_)
  ·have h1:d.body=b:=cK t17;refine af ?_;unfold my;rw[List.any_eq_true.2 ⟨d,WU hd,decide_eq_true h1⟩];rfl
  have h1:d.body≠b:=dq t17;refine ga aO ?_;exact aP J1 (i+1) ⟨hin,kA hd hj (decide_eq_false h1)⟩
 have hin:=bi hi t11;subst hin;rw[Xg]at hj;refine af ?_;unfold my;rw[hj];rfl
theorem F8(l:Li)(hl:l.ok)(hli:aG l=0)(kind body:Int)(oth:List Bool)(ho:oth.length=l.bo.length):FP 245 [l.av,i64 kind,i64 body,.lst 1 (oth.map bl)] (i64 (jointI l kind body oth)):=by
 have hlj:=hl.lj;refine aj func245 ?_;refine gl ?_;refine aZ [1,2,3,12,13] [] (fun(i:Nat)=>[(14,some (i64 i))]) (fun _=>[]) (fun i=>i<=l.jo.length/\∀j,j<i->(!lL kind body oth (l.jo.getD j default))=true) (fun i=>l.jo.length-i) 0 ⟨W7 _,fun j h=>by omega⟩ ?_;rintro i ⟨hi,hj⟩ K1 J1;refine gC (fun t15=>?_) (fun t15=>?_)
 ·have hin:=a6 t15;obtain⟨j,hjt⟩:=ax hin;have hjd:l.jo.getD i default=j:=au hjt;obtain⟨i1,i2,_⟩:=cA hli hjt;have b1:=cM i1;have b2:=cM i2;obtain⟨va,hva⟩:∃v,oth[j.a.toNat]?=some v:=ax oz;obtain⟨vb,hvb⟩:∃v,oth[j.b.toNat]?=some v:=ax oz;have ea:kn oth j.a=va:=au hva;have eb:kn oth j.b=vb:=au hvb;refine gi (aI hjt) ?_;refine mb (fun _=>(f0 (n:=j.b.toNat) oz hvb)) ?_;refine mb (fun _=>(f0 (n:=j.a.toNat) oz hva)) ?_;refine gC (fun t48=>?_) (fun t48=>?_)
  ·have h2 : lL kind body oth j = true := by rw [<- CM (va := va) (vb := vb) ea eb]; exact t48
   refine af ?_;unfold jointI;rw[gx hin hj (by rw[hjd,h2];rfl)];rfl
  have h2:lL kind body oth j=false:=by rw[<- CM (va:=va) (vb:=vb) ea eb];exact t48
  refine ga aO ?_;exact aP J1 (i+1) ⟨hin,fun k h9=>by rcases W3 k i with g |g;exact hj k g;(have:k=i:=by omega);subst this;rw[hjd,h2];rfl⟩
 have hin:=bi hi t15;subst hin;refine af ?_;unfold jointI;rw[fO hj];rfl
theorem MU(l:Li)(hl:l.ok)(kw:List Bool)(b:Nat)(hb:b<kw.length):FP 246 [l.av,.lst 1 (kw.map bl),i64 b] (bl (freeB l kw b)):=by
 obtain⟨v,hv⟩:=ax hb;have ev:kn kw (b:Int)=v:=au (by rw[Xk];exact hv);refine aj func246 ?_;refine gi (aI hv) ?_;refine b9 (fun _=>(Kr l hl b)) ?_;refine af ?_;unfold freeB;rw[ev];exact congrArg bl (iO _ _)
theorem tR{l:Li}{kw:List Bool}(hl:l.ok)(hli:aG l=0)(kind body:Int)(hk:kw.length=l.bo.length) :
  Con prog 245 [l.av,i64 kind,i64 body,.ms 1000 1 0 kw.length] [(1000,some (.row 1 (kw.map bl)))] (i64 (jointI l kind body kw)) [(1000,some (.row 1 (kw.map bl)))]:=by
 refine Con.borrow (args:=[l.av,i64 kind,i64 body,.lst 1 (kw.map bl)]) 1000 1 (kw.map bl) rfl rfl rfl ?_ rfl (fun k' x h=>by cases h) (F8 l hl hli kind body kw hk);intro j x' hj
 match j,hj with
 |0,hj=>cases hj;exact .inl rfl
 |1,hj=>cases hj;exact .inl rfl
 |2,hj=>cases hj;exact .inl rfl
 |3,hj=>cases hj;exact .inr ⟨0,kw.length,rfl,by simp,by rw[XG,Xb (by simp)];rfl⟩
theorem AF{l:Li}{kw:List Bool}(hl:l.ok)(b:Nat)(hb:b<kw.length) :
  Con prog 246 [l.av,.ms 1000 1 0 kw.length,i64 b] [(1000,some (.row 1 (kw.map bl)))] (bl (freeB l kw b)) [(1000,some (.row 1 (kw.map bl)))]:=by
 refine Con.borrow (args:=[l.av,.lst 1 (kw.map bl),i64 b]) 1000 1 (kw.map bl) rfl rfl rfl ?_ rfl (fun k' x h=>by cases h) (MU l hl kw b hb);intro j x' hj
 match j,hj with
 |0,hj=>cases hj;exact .inl rfl
 |1,hj=>cases hj;exact .inr ⟨0,kw.length,rfl,by simp,by rw[XG,Xb (by simp)];rfl⟩
 |2,hj=>cases hj;exact .inl rfl
theorem RP(l:Li)(hl:l.ok)(hli:aG l=0)(kw:List Bool)(hk:kw.length=l.bo.length):Con prog 136 [l.av,.ms 1000 1 0 kw.length] [(1000,some (.row 1 (kw.map bl)))] (.tup [((driverG l kw).getD default).av,bl (driverG l kw).isSome]) [(1000,some (.row 1 (kw.map bl)))]:=by
 have hld:=hl.ld;refine gF func136 (fun k z h=>bG h) ?_;refine gl ?_;refine aZ [2,4,10,11] [2,4,1000] (fun(i:Nat)=>[(1,some (.ms 1000 1 0 kw.length)),(12,some (i64 i))]) (fun _=>[]) (fun i=>i<=l.dv.length/\∀j,j<i->(!drHit l kw j)=true) (fun i=>l.dv.length-i) 0 ⟨W7 _,fun j h=>by omega⟩ ?_;rintro i ⟨hi,hj⟩ K1 J1;refine gC (fun t13=>?_) (fun t13=>?_)
 ·have hin:=a6 t13;obtain ⟨d,hd⟩:=ax hin;have hdd:l.dv.getD i default = d:=au hd;have hb:=cM (j6 hli hd);obtain ⟨v,hv⟩:∃ v,kw[d.body.toNat]? = some v:=ax oz;have ev:kn kw d.body = v:=au hv;refine gi (aI hd) ?_;refine gs (mh (.tmp rfl) (.tmp rfl) T219 rfl T4 rfl oz oz rfl) ?_;refine gs (en (.tmp rfl) rfl (by rw [Nat.zero_add,W0,hv]; rfl) T4 rfl rfl rfl) ?_;refine gC (fun t21=>?_) (fun t21=>?_)
  ·have h2 : drHit l kw i = false := by unfold drHit; rw [hdd, ev, t21]; rfl
   refine ga aO ?_;exact aP J1 (i+1) ⟨hin,fun k h9=>by rcases W3 k i with g |g;exact hj k g;(have:k=i:=by omega);subst this;rw[h2];rfl⟩
  have hv0:v=false:=t21;refine gt (nK (tR hl hli 0 d.body hk) (.cons (.tmp rfl) (.cons (.const _) (bD rfl rfl))) rfl rfl rfl) ?_;refine gC (fun t28=>?_) (fun t28=>?_)
  ·have h2 : drHit l kw i = true := by unfold drHit; rw [hdd, ev, hv0, decide_eq_true (Ga t28)]; rfl
   have hg:driverG l kw=some ⟨0,[d.body],[jointI l 0 d.body kw],i⟩:=by unfold driverG;rw[gx hin hj (by rw[h2];rfl),<- hdd];rfl
   refine gR ?_;rw[hg];exact az.keep (bm rfl)
  have h2:drHit l kw i=false:=by unfold drHit;rw[hdd,decide_eq_false (Dv t28),Bool.and_false]
  refine ga aO ?_;exact aP J1 (i+1) ⟨hin,fun k h9=>by rcases W3 k i with g |g;exact hj k g;(have:k=i:=by omega);subst this;rw[h2];rfl⟩
 have hin:=bi hi t13;subst hin;have hg:driverG l kw=none:=by unfold driverG;rw[fO hj];rfl
 refine gR ?_;exact az.sub (az.keep (bm rfl)) (by rw[hg];exact Sub.tup (.cons qH (.cons (.refl _) .nil)))
theorem V8(l:Li)(hl:l.ok)(hli:aG l=0)(kw:List Bool)(hk:kw.length=l.bo.length):Con prog 137 [l.av,.ms 1000 1 0 kw.length] [(1000,some (.row 1 (kw.map bl)))] (.tup [((pairG l kw).getD default).av,bl (pairG l kw).isSome]) [(1000,some (.row 1 (kw.map bl)))]:=by
 have h8:=(cU hli).2.2.2.1;refine gF func137 (fun k z h=>bG h) ?_;refine gl ?_;refine aZ [2,4,12,13] [2,4,1000] (fun(i:Nat)=>[(1,some (.ms 1000 1 0 kw.length)),(14,some (i64 i))]) (fun _=>[]) (fun i=>i<=l.bo.length/\∀j,j<i->(prAt l kw j).isNone=true) (fun i=>l.bo.length-i) 0 ⟨W7 _,fun j h=>by omega⟩ ?_;rintro i ⟨hi,hj⟩ K1 J1;refine gC (fun t15=>?_) (fun t15=>?_)
 ·have hin:=a6 t15;refine ga aO ?_;refine aZ [2,4,6,12,13,14] [2,4,1000] (fun (k:Nat)=>[(1,some (.ms 1000 1 0 kw.length)),(7,some (i64 (i + 1 + k:Nat)))]) (fun _=>[]) (fun k=>i + 1 + k <= l.bo.length /\ ∀ j,j < k -> (!prHit l kw i (i + 1 + j)) = true) (fun k=>l.bo.length - k) 0 ⟨by omega,fun j h=>by omega⟩ ?_;rintro k ⟨hkl,hkj⟩ K2 J2;refine gl ?_;refine gC (fun t23=>?_) (fun t23=>?_)
  ·have hkn:i+1+k<l.bo.length:=a6 t23;refine gt (nK (AF hl i oz) (aJ rfl rfl rfl) rfl rfl rfl) ?_;refine gu (fw rfl rfl rfl (fun h=>nK (AF hl (i+1+k) oz) (.cons (.opt rfl (o1 h)) (.cons (.opt rfl (o1 h)) (.cons (.opt rfl (o1 h)) .nil))) rfl rfl rfl)) ?_;refine gC (fun t37=>?_) (fun t37=>?_)
   ·have h2 : prHit l kw i (i + 1 + k) = false := by unfold prHit; rw [show (freeB l kw i && freeB l kw ((i + 1 + k : Nat) : Int)) = false from by rcases nO t37 with g | g; (rw [g]; rfl); (rw [g, Bool.and_false])]; rfl
    refine ga aO ?_;exact aP J2 (k+1) ⟨by omega,fun j h9=>by rcases W3 j k with g |g;exact hkj j g;(have:j=k:=by omega);subst this;rw[h2];rfl⟩
   have hff:=ou t37;refine gt (nK (tR hl hli 0 i hk) (.cons (.tmp rfl) (.cons (.const _) (bD rfl rfl))) rfl rfl rfl) ?_;refine gt (nK (tR hl hli 0 (i+1+k:Nat) hk) (.cons (.tmp rfl) (.cons (.const _) (bD rfl rfl))) rfl rfl rfl) ?_;refine gc (Kf l oz (i+1+k) hkn) ?_;refine gc (F8 l hl hli 0 i (cG l.bo.length ((i+1+k:Nat):Int)) (gV _ _)) ?_;refine gD ?_;refine gC (fun t61=>?_) (fun t61=>?_)
   ·have h2 : prHit l kw i (i + 1 + k) = true := by unfold prHit; rw [hff.1, hff.2]; exact (w8.symm.trans t61)
    have hat:prAt l kw i=some (i+1+k):=by unfold prAt;rw[gx oz hkj (by rw[h2];rfl),Option.map_some];congr 1;omega
    have hg:pairG l kw=some (prG l kw i (i+1+k)):=by unfold pairG;rw[gx hin hj (by rw[hat];rfl),Option.map_some,hat]
    refine gR ?_;rw[hg];exact az.keep (bm rfl)
   have h2:prHit l kw i (i+1+k)=false:=by unfold prHit;rw[show(decide (0<=jointI l 0 i kw)&&decide (0<=jointI l 0 ((i+1+k:Nat):Int) kw)&&decide (0<=jointI l 0 i (cG l.bo.length ((i+1+k:Nat):Int))))=false from w8.symm.trans t61,Bool.and_false]
   refine ga aO ?_;exact aP J2 (k+1) ⟨by omega,fun j h9=>by rcases W3 j k with g |g;exact hkj j g;(have:j=k:=by omega);subst this;rw[h2];rfl⟩
  have hkn:¬i+1+k<l.bo.length:=fun h=>by have h1:=sK t23;omega
  have hat:prAt l kw i=none:=by unfold prAt;rw[show l.bo.length-(i+1)=k by omega,fO hkj];rfl
  refine ga aO ?_;exact aP J1 (i+1) ⟨hin,fun j h9=>by rcases W3 j i with g |g;exact hj j g;(have:j=i:=by omega);subst this;rw[hat];rfl⟩
 have hin:=bi hi t15;have hg:pairG l kw=none:=by unfold pairG;rw[<- hin,fO hj];rfl
 refine gR ?_;exact az.sub (az.keep (bm rfl)) (by rw[hg];exact Sub.tup (.cons qH (.cons (.refl _) .nil)))
theorem OB(l:Li)(hl:l.ok)(hli:aG l=0)(kw:List Bool)(hk:kw.length=l.bo.length):Con prog 138 [l.av,.ms 1000 1 0 kw.length] [(1000,some (.row 1 (kw.map bl)))] (.tup [((singleG l kw).getD default).av,bl (singleG l kw).isSome]) [(1000,some (.row 1 (kw.map bl)))]:=by
 have h8:=(cU hli).2.2.2.1;refine gF func138 (fun k z h=>bG h) ?_;refine gl ?_;refine aZ [2,4,11,12] [2,4,1000] (fun(i:Nat)=>[(1,some (.ms 1000 1 0 kw.length)),(13,some (i64 i))]) (fun _=>[]) (fun i=>i<=l.bo.length/\∀j,j<i->(!sgHit l kw j)=true) (fun i=>l.bo.length-i) 0 ⟨W7 _,fun j h=>by omega⟩ ?_;rintro i ⟨hi,hj⟩ K1 J1;refine gC (fun t14=>?_) (fun t14=>?_)
 ·have hin:=a6 t14;refine gt (nK (AF hl i oz) (aJ rfl rfl rfl) rfl rfl rfl) ?_;refine gC (fun t20=>?_) (fun t20=>?_)
  ·have h2 : sgHit l kw i = false := by unfold sgHit; rw [df t20]; rfl
   refine ga aO ?_;exact aP J1 (i+1) ⟨hin,fun k h9=>by rcases W3 k i with g |g;exact hj k g;(have:k=i:=by omega);subst this;rw[h2];rfl⟩
  have hf:=c9 t20;refine gt (nK (tR hl hli 0 i hk) (.cons (.tmp rfl) (.cons (.const _) (bD rfl rfl))) rfl rfl rfl) ?_;refine gt (nK (tR hl hli 1 i hk) (.cons (.tmp rfl) (.cons (.const _) (bD rfl rfl))) rfl rfl rfl) ?_;refine gD ?_;refine gC (fun t34=>?_) (fun t34=>?_)
  ·have h2 : sgHit l kw i = false := by unfold sgHit; rw [H4 t34, Bool.and_false]
   refine ga aO ?_;exact aP J1 (i+1) ⟨hin,fun k h9=>by rcases W3 k i with g |g;exact hj k g;(have:k=i:=by omega);subst this;rw[h2];rfl⟩
  obtain⟨p0,s0⟩:=EX t34;have s1:=(mP (l:=l) (kind:=1) (body:=i) (oth:=kw)).2;have h2:sgHit l kw i=true:=by unfold sgHit;rw[hf,decide_eq_true p0,decide_eq_true s0];rfl
  obtain⟨j,hjt⟩:∃j,l.jo[(jointI l 1 i kw).toNat]?=some j:=ax oz;have hjd:l.jo.getD (jointI l 1 i kw).toNat default=j:=au hjt;have hg:singleG l kw=some (sgG l kw i):=by unfold singleG;rw[gx hin hj (by rw[h2];rfl),Option.map_some]
  refine gi (f0 (n:=(jointI l 1 i kw).toNat) oz hjt) ?_;refine gC (fun t42=>?_) (fun t42=>?_)
  ·have hji:j.a=i:=cK t42;refine gR ?_;rw[hg];unfold sgG;rw[hjd];simp only[Option.getD_some,XK hji]
   exact az.keep (bm rfl)
  have hji:j.a≠i:=dq t42;refine gR ?_;rw[hg];unfold sgG;rw[hjd];simp only[Option.getD_some,XJ hji]
  exact az.keep (bm rfl)
 have hin:=bi hi t14;have hg:singleG l kw=none:=by unfold singleG;rw[<- hin,fO hj];rfl
 refine gR ?_;exact az.sub (az.keep (bm rfl)) (by rw[hg];exact Sub.tup (.cons qH (.cons (.refl _) .nil)))
theorem BL{k:List Bool}{bs:List Int}{q:Nat}{x:Int}(h:bs[q]?=some x):bA k (bs.drop q)=bA (k.set x.toNat true) (bs.drop (q+1)):=by
 have hi:=(List.getElem?_eq_some_iff.1 h).1;rw[List.drop_eq_getElem_cons hi,(List.getElem?_eq_some_iff.1 h).2];rfl
theorem R5{l:Li}{n:Nat}{kw:List Bool}{out:List Gr}{g:Gr}(h:nextG l kw=some g):findFrom l (n+1) kw out=findFrom l n (bA kw g.bo) (out++[g]):=by
 show(match nextG l kw with |none=>_ |some g=>_)=_;rw[h]
theorem M8{l:Li}{n:Nat}{kw:List Bool}{out:List Gr}(h:nextG l kw=none):findFrom l n kw out=(kw,out):=by
 cases n with
 |zero=>rfl
 |succ n=>show(match nextG l kw with |none=>_ |some g=>_)=_;rw[h]
theorem yi{α:Type}{o:Option α}(h:o.isSome=false):o=none:=by cases o <;> simp_all
theorem DF{α:Type}{a b:Option α}(h:a.isSome=true):a=a.or b:=by cases a <;> simp_all
theorem Vg{l:Li}{kw:List Bool}(h:(driverG l kw).or (pairG l kw)=none):nextG l kw=singleG l kw:=by
 unfold nextG;rw[<- Option.or_assoc,h];rfl
theorem JT{l:Li}{kw:List Bool}(h:((driverG l kw).or (pairG l kw)).isSome=true):nextG l kw=(driverG l kw).or (pairG l kw):=by
 unfold nextG;rw[<- Option.or_assoc];exact(DF h).symm
theorem Hz(l:Li)(hl:l.ok)(hli:aG l=0):FP 59 [l.av] (.lst 4 ((findG l).map Gr.av)):=by
 have h8:=(cU hli).2.2.2.1;have h0:=(cU hli).2.2.2.2;refine aj func59 ?_;refine gt (aE (yv 900 rfl l oz 0 oz) (.cons (.tmp rfl) (.cons (.const _) .nil)) aH rfl rfl) ?_;refine gl ?_;refine gW (Wk.virt 901 4 rfl) ?_;refine iU [1,13] [1] (fun(i:Nat)(kw:List Bool)(out:List Gr)=>[(3,some (.ms 900 1 0 kw.length)),(4,some (.ms 901 4 0 out.length)),(14,some (i64 i))]) (fun _ kw out=>[(900,some (.row 1 (kw.map bl))),(901,some (.row 4 (out.map Gr.av)))]) (fun i kw out=>i<=l.bo.length/\kw.length=l.bo.length/\out.length<=i/\findFrom l (l.bo.length-i) kw out=findFrom l l.bo.length (cG l.bo.length 0) []) (fun i _ _=>l.bo.length-i) 0 (cG l.bo.length 0) ([]) ⟨W7 _,gV _ _,WZ _,rfl⟩ ?_ (h1:=(.cons rfl (Sub.of (by rw[gV])) (.k (.k .nil))))
 rintro i kw out ⟨hi,hk,hol,hff⟩ K1 J1;refine gC (fun t15=>?_) (fun t15=>?_) (st2:=(18,0))
 ·have hin:=a6 t15;have hd1:=Con.rekey1 900 rfl rfl rfl (RP l hl hli kw hk);have hp1:=Con.rekey1 900 rfl rfl rfl (V8 l hl hli kw hk);have hs1:=Con.rekey1 900 rfl rfl rfl (OB l hl hli kw hk);refine gt (aE hd1 (bD rfl rfl) aH rfl rfl) ?_;refine xE [1,5,13,14] [1,900,901] (fun(o:Option Gr)=>[(3,some (.ms 900 1 0 kw.length)),(4,some (.ms 901 4 0 out.length)),(6,some (bl o.isSome))]) (fun o=>[(5,some (.box (o.getD default).av.cells))]) (fun o=>o=(driverG l kw).or (pairG l kw)) ?_ ?_
  ·intro K2 J2;refine gC (fun t23=>?_) (fun t23=>?_)
   ·refine gt (aE hp1 (bD rfl rfl) aH rfl rfl) ?_;exact p5 J2 (pairG l kw) (by rw[yi (df t23)];rfl)
   exact p5 J2 (driverG l kw) (DF (c9 t23))
  rintro o ho;refine xE [1,5,13,14] [1,900,901] (fun(og:Option Gr)=>[(3,some (.ms 900 1 0 kw.length)),(4,some (.ms 901 4 0 out.length)),(6,some (bl og.isSome))]) (fun og=>[(5,some (.box (og.getD default).av.cells))]) (fun og=>og=nextG l kw) ?_ ?_
  ·intro K3 J3;refine gC (fun t31=>?_) (fun t31=>?_)
   ·refine gt (aE hs1 (bD rfl rfl) aH rfl rfl) ?_;exact p5 J3 (singleG l kw) (by have:=yi (df t31);rw[ho]at this;exact(Vg this).symm)
   exact p5 J3 o (by rw[ho];exact(JT (by rw[<- ho];exact c9 t31)).symm)
  rintro og hog;refine gC (fun t39=>?_) (fun t39=>?_) (st1:=(18,0))
  ·have hn : nextG l kw = none := by rw [<- hog]; exact yi (df t39)
   have hfin:findG l=out:=by unfold findG;rw[<- hff,M8 hn]
   refine gW ((Wk.freeze (k:=901) rfl).trans<|Wk.of (sl:=[(4,some (.lst 4 ((findG l).map Gr.av)))]) (hp:=[]) (.cons rfl (Sub.of (by rw[hfin,bV (by rw[WW])])) .nil) .nil) ?_;refine af ?_;rfl
  obtain⟨g,hg⟩:∃g,og=some g:=Option.isSome_iff_exists.1 (c9 t39);have hng:nextG l kw=some g:=by rw[<- hog,hg]
  have hgo:=xj hli hng;subst hg;refine gs (cO (.tmp rfl) rfl (by rw[WW]) (.tmp rfl) T32 rfl T53 rfl rfl (by dsimp only;simp only[W9,Xi];omega) rfl rfl) ?_ (12,0);refine gW (Wk.of (sl:=[(1,some (.ptr 1 0)),(3,some (.ms 900 1 0 kw.length)),(4,some (.ms 43 4 0 (out++[g]).length)),(5,some (.ptr 5 0)),(13,some (i64 l.bo.length)),(14,some (i64 i))]) (hp:=[(1,some (.box l.av.cells)),(5,some (.box g.av.cells)),(900,some (.row 1 (kw.map bl))),(43,some (.row 4 ((out++[g]).map Gr.av)))]) (.k (.k (.cons rfl (Sub.of (by rw[Xo];rfl)) (.k (.k (.k .nil)))))) (.k (.k (.k (.cons rfl (BlkSub.of (by rw[Xl];rfl)) .nil))))) ?_ (12,0)
  refine gW (Wk.rk (k:=43) (d:=901) rfl rfl) ?_;refine gl ?_;refine gw [1,13,14,45,46] [1,901] (fun(q:Nat)(kk:List Bool)=>[(3,some (.ms 900 1 0 kk.length)),(4,some (.ms 901 4 0 (out++[g]).length)),(47,some (i64 q))]) (fun _ kk=>[(900,some (.row 1 (kk.map bl)))]) (fun q kk=>q<=g.bo.length/\kk.length=l.bo.length/\bA kk (g.bo.drop q)=bA kw g.bo) (fun q _=>g.bo.length-q) 0 kw ⟨W7 _,hk,rfl⟩ ?_;rintro q kk ⟨hq,hkk,hmk⟩ K4 J4;refine gC (fun t48=>?_) (fun t48=>?_)
  ·have hqn:=a6 t48;obtain⟨x,hx⟩:=ax hqn;have hxb:=hgo.b x (WU hx);obtain⟨v,hv⟩:∃v,kk[x.toNat]?=some v:=ax oz;refine gi (aI hx) ?_;refine gs (mh (.tmp rfl) (.tmp rfl) T219 rfl T4 rfl oz oz rfl) ?_;refine gs (dP (.tmp rfl) rfl (by rw[Nat.zero_add,W0,hv];rfl) rfl (.const _) rfl rfl T4 rfl rfl) ?_;refine ga (CN (by have:=hgo.lb;unfold a7;omega)) ?_;exact f9 J4 (q+1) (kk.set x.toNat true) ⟨hqn,by rw[XI];exact hkk,by rw[<- BL hx];exact hmk⟩ (hw:=Wk.of (.cons rfl (Sub.of (by rw[XI])) (.k (.k (.k (.k (.k (.k (.k .nil)))))))) (.cons rfl (BlkSub.of (by rw[XF,Nat.zero_add];rfl)) (.k (.k .nil))))
  have hqn:=bi hq t48;have hmk2:kk=bA kw g.bo:=by rw[hqn,List.drop_length]at hmk;exact hmk
  refine ga aO ?_;exact gP J1 (i+1) kk (out++[g]) ⟨hin,hkk,by rw[Xo];simp only[W9,Xi];omega,by rw[hmk2,<- R5 hng,<- hff];congr 1;omega⟩
 have hin:=bi hi t15;have hfin:findG l=out:=by unfold findG;rw[<- hff,show l.bo.length-i=0 by omega];rfl
 refine gW ((Wk.freeze (k:=901) rfl).trans<|Wk.of (sl:=[(4,some (.lst 4 ((findG l).map Gr.av)))]) (hp:=[]) (.cons rfl (Sub.of (by rw[hfin,bV (by rw[WW])])) .nil) .nil) ?_;refine af ?_;rfl
theorem It{α:Type}{f:List Bool->α->List Bool}{k:List Bool}{l:List α}{i:Nat}{x:α}(h:l[i]?=some x):(l.drop i).foldl f k=(l.drop (i+1)).foldl f (f k x):=by
 have hi:=(List.getElem?_eq_some_iff.1 h).1;rw[List.drop_eq_getElem_cons hi,(List.getElem?_eq_some_iff.1 h).2];rfl
def gU(k:List Bool)(i:Nat):List Int:=((List.range i).filter (fun j=>!k.getD j false)).map (fun j:Nat=>((j:Nat):Int))
theorem Dm{k:List Bool}{i:Nat}(h:k.getD i false=false):gU k (i+1)=gU k i++[(i:Int)]:=by
 unfold gU;rw[List.range_succ,List.filter_append,Xl,List.filter_cons,h];rfl
theorem Fg{k:List Bool}{i:Nat}(h:k.getD i false=true):gU k (i+1)=gU k i:=by
 unfold gU;rw[List.range_succ,List.filter_append,Xl,List.filter_cons,h];simp
theorem xx(k:List Bool)(i:Nat):(gU k i).length<=i:=by
 unfold gU;rw[WW];exact Xj (List.length_filter_le _ _) (by simp)
theorem pC{α:Type}{f:α->List Int}:∀(gs:List α)(k:List Bool),(gs.foldl (fun k g=>bA k (f g)) k).length=k.length
 |[],k=>rfl
 |g::gs,k=>by rw[foldl_cons,pC gs,ja]
theorem Ln(l:Li):(eK (bU l)).length<=l.bo.length:=by
 have h:=xx (bU l) (bU l).length;have e:(bU l).length=l.bo.length:=by unfold bU;rw[pC,gV]
 rw[e]at h;unfold eK;rw[e];exact h
theorem Wl(l:Li):(eK (dU l)).length<=l.jo.length:=by
 have h:=xx (dU l) (dU l).length;have e:(dU l).length=l.jo.length:=by unfold dU;rw[pC,Xt]
 rw[e]at h;unfold eK;rw[e];exact h
theorem Qu(l:Li)(hl:l.ok)(hli:aG l=0):FP 58 [l.av] (.tup [.lst 1 ((eK (bU l)).map i64),.lst 1 ((eK (dU l)).map i64)]):=by
 have h8:=(cU hli).2.2.2.1;have h0:=(cU hli).2.2.2.2;have hj16:l.jo.length<=16:=by have:=(cU hli).2.1;unfold eT at this;split at this;cases this;omega
 obtain⟨hgo,hgl⟩:=qB hli;refine aj func58 ?_;refine gt (aE (yv 900 rfl l oz 0 oz) (.cons (.tmp rfl) (.cons (.const _) .nil)) aH rfl rfl) ?_;refine gl ?_;refine gs (gX (.tmp rfl) T219 rfl T4 rfl rfl oz (by dsimp only;omega) rfl) ?_;refine gD ?_ (2,0);refine gW (Wk.of (sl:=[(1,some (.ptr 1 0)),(2,some (nS)),(3,some (nS)),(4,some (.ms 900 1 0 (cG l.bo.length 0).length)),(5,some (.ms 21 1 0 (List.replicate l.jo.length false).length))]) (hp:=[(1,some (.box l.av.cells)),(900,some (.row 1 ((cG l.bo.length 0).map bl))),(21,some (.row 1 ((List.replicate l.jo.length false).map bl)))]) (.k (.k (.k (.cons rfl (Sub.of (by rw[gV])) (.cons rfl (Sub.of (by rw[Xt,Xk])) .nil))))) (.k (.k (.cons rfl (BlkSub.of (by rw[XB,Xk];rfl)) .nil)))) ?_ (2,0)
 refine gW (Wk.rk (k:=21) (d:=901) rfl rfl) ?_;refine gc (Hz l hl hli) ?_;refine gl ?_;refine iU [1,2,3,23,24] [1] (fun(i:Nat)(k1 k2:List Bool)=>[(4,some (.ms 900 1 0 k1.length)),(5,some (.ms 901 1 0 k2.length)),(25,some (i64 i))]) (fun _ k1 k2=>[(900,some (.row 1 (k1.map bl))),(901,some (.row 1 (k2.map bl)))]) (fun i k1 k2=>i<=(findG l).length/\k1.length=l.bo.length/\k2.length=l.jo.length/\((findG l).drop i).foldl (fun k g=>bA k g.bo) k1=bU l/\((findG l).drop i).foldl (fun k g=>bA k g.jo) k2=dU l) (fun i _ _=>(findG l).length-i) 0 (cG l.bo.length 0) (List.replicate l.jo.length false) ⟨W7 _,gV _ _,Xt,rfl,rfl⟩ ?_
 rintro i k1 k2 ⟨hi,hk1,hk2,hf1,hf2⟩ K1 J1;refine gC (fun t26=>?_) (fun t26=>?_)
 ·have hin:=a6 t26;obtain⟨g,hg⟩:=ax hin;have hgk:=hgo g (WU hg);have hlb:=hgk.lb;have hlj:=hgk.lj;refine gi (aI hg) ?_;refine gl ?_;refine gw [1,2,3,7,23,24,25,30,31] [1,7,901] (fun(q:Nat)(kk:List Bool)=>[(4,some (.ms 900 1 0 kk.length)),(5,some (.ms 901 1 0 k2.length)),(32,some (i64 q))]) (fun _ kk=>[(900,some (.row 1 (kk.map bl)))]) (fun q kk=>q<=g.bo.length/\kk.length=l.bo.length/\bA kk (g.bo.drop q)=bA k1 g.bo) (fun q _=>g.bo.length-q) 0 k1 ⟨W7 _,hk1,rfl⟩ ?_;rintro q kk ⟨hq,hkk,hmk⟩ K2 J2;refine gC (fun t33=>?_) (fun t33=>?_)
  ·have hqn:=a6 t33;obtain⟨x,hx⟩:=ax hqn;have hxb:=hgk.b x (WU hx);obtain⟨v,hv⟩:∃v,kk[x.toNat]?=some v:=ax oz;refine gi (aI hx) ?_;refine gs (mh (.tmp rfl) (.tmp rfl) T219 rfl T4 rfl oz oz rfl) ?_;refine gs (dP (.tmp rfl) rfl (by rw[Nat.zero_add,W0,hv];rfl) rfl (.const _) rfl rfl T4 rfl rfl) ?_;refine ga aO ?_;exact f9 J2 (q+1) (kk.set x.toNat true) ⟨hqn,by rw[XI];exact hkk,by rw[<- BL hx];exact hmk⟩ (hw:=Wk.of (.cons rfl (Sub.of (by rw[XI])) (.k (.k (.k (.k (.k (.k (.k (.k (.k (.k (.k .nil)))))))))))) (.cons rfl (BlkSub.of (by rw[XF,Nat.zero_add];rfl)) (.k (.k (.k .nil)))))
  have hqn:=bi hq t33;have hmk2:kk=bA k1 g.bo:=by rw[hqn,List.drop_length]at hmk;exact hmk
  refine gl ?_;refine gw [1,2,3,23,24,25,41,42] [1,900] (fun(p:Nat)(jj:List Bool)=>[(4,some (.ms 900 1 0 kk.length)),(5,some (.ms 901 1 0 jj.length)),(43,some (i64 p))]) (fun _ jj=>[(901,some (.row 1 (jj.map bl)))]) (fun p jj=>p<=g.jo.length/\jj.length=l.jo.length/\bA jj (g.jo.drop p)=bA k2 g.jo) (fun p _=>g.jo.length-p) 0 k2 ⟨W7 _,hk2,rfl⟩ ?_;rintro p jj ⟨hp,hjj,hmj⟩ K3 J3;refine gC (fun t44=>?_) (fun t44=>?_)
  ·have hpn:=a6 t44;obtain⟨x,hx⟩:=ax hpn;have hxb:=hgk.j x (WU hx);obtain⟨v,hv⟩:∃v,jj[x.toNat]?=some v:=ax oz;refine gi (aI hx) ?_;refine gs (mh (.tmp rfl) (.tmp rfl) T219 rfl T4 rfl oz oz rfl) ?_;refine gs (dP (.tmp rfl) rfl (by rw[Nat.zero_add,W0,hv];rfl) rfl (.const _) rfl rfl T4 rfl rfl) ?_;refine ga aO ?_;exact f9 J3 (p+1) (jj.set x.toNat true) ⟨hpn,by rw[XI];exact hjj,by rw[<- BL hx];exact hmj⟩ (hw:=Wk.of (.k (.cons rfl (Sub.of (by rw[XI])) (.k (.k (.k (.k (.k (.k (.k (.k (.k .nil))))))))))) (.cons rfl (BlkSub.of (by rw[XF,Nat.zero_add];rfl)) (.k (.k .nil))))
  have hpn:=bi hp t44;have hmj2:jj=bA k2 g.jo:=by rw[hpn,List.drop_length]at hmj;exact hmj
  refine ga aO ?_;exact gP J1 (i+1) kk jj ⟨hin,hkk,hjj,by rw[hmk2,<- hf1,It hg],by rw[hmj2,<- hf2,It hg]⟩
 have hin:=bi hi t26;have e1:k1=bU l:=by rw[hin,List.drop_length]at hf1;exact hf1
 have e2:k2=dU l:=by rw[hin,List.drop_length]at hf2;exact hf2
 refine gW (Wk.virt 902 1 rfl) ?_;refine aZ [3,53] [900,901] (fun(i:Nat)=>[(2,some (.ms 902 1 0 (gU k1 i).length)),(5,some (.ms 901 1 0 k2.length)),(52,some (.ms 900 1 0 k1.length)),(54,some (i64 i))]) (fun i=>[(902,some (.row 1 ((gU k1 i).map i64)))]) (fun i=>i<=k1.length) (fun i=>k1.length-i) 0 (W7 _) ?_;rintro i ha K4 J4;refine gC (fun t55=>?_) (fun t55=>?_) (st2:=(22,0))
 ·have hin6:=a6 t55;obtain ⟨v,hv⟩:=ax hin6;have hvd:k1.getD i false = v:=au hv;have hul:=xx k1 i;refine gs (mh (.tmp rfl) (.tmp rfl) T219 rfl T4 rfl oz oz rfl) ?_;refine gs (en (.tmp rfl) rfl (by rw [Nat.zero_add,Xk,W0,hv]; rfl) T4 rfl rfl rfl) ?_;refine gC (fun t60=>?_) (fun t60=>?_)
  ·have hu := Dm (k := k1) (i := i) (by rw [hvd]; exact df t60);refine gs (cO (.tmp rfl) rfl (by rw [WW]) (.tmp rfl) T39 rfl T3 rfl rfl (by dsimp only; simp only [W9,Xi]; omega) rfl rfl) ?_ (21,0);refine gW (Wk.of (sl:=[(2,some (.ms 64 1 0 (gU k1 (i + 1)).length)),(3,some (nS)),(5,some (.ms 901 1 0 k2.length)),(52,some (.ms 900 1 0 k1.length)),(53,some (i64 k1.length)),(54,some (i64 i))]) (hp:=[(900,some (.row 1 (k1.map bl))),(901,some (.row 1 (k2.map bl))),(64,some (.row 1 ((gU k1 (i + 1)).map i64)))]) (.cons rfl (Sub.of (by rw [hu,Xo]; rfl)) (.k (.k (.k (.k (.k .nil)))))) (.k (.k (.cons rfl (BlkSub.of (by rw [hu,Xl]; rfl)) .nil)))) ?_ (21,0)
   refine gW (Wk.rk (k:=64) (d:=902) rfl rfl) ?_;refine ga aO ?_;exact aP J4 (i+1) hin6 (hw:=Wk.of (.cons rfl (Sub.of (by first |rw[hu];done |rfl)) (.k (.k (.k (.k (.k .nil)))))) (.cons rfl (BlkSub.of (by first |rw[hu];done |rfl)) (.k (.k .nil))))
  have hu:=Fg (k:=k1) (i:=i) (by rw[hvd];exact c9 t60);refine ga aO ?_;exact aP J4 (i+1) hin6 (hw:=Wk.of (.cons rfl (Sub.of (by first |rw[hu];done |rfl)) (.k (.k (.k (.k (.k .nil)))))) (.cons rfl (BlkSub.of (by first |rw[hu];done |rfl)) (.k (.k .nil))))
 have hin6:=bi ha t55;refine gW ((Wk.freeze (k:=902) rfl).trans<|Wk.of (sl:=[(2,some (.lst 1 ((eK (bU l)).map i64))),(3,some (nS)),(5,some (.ms 901 1 0 k2.length))]) (hp:=[(901,some (.row 1 (k2.map bl)))]) (.cons rfl (Sub.of (by rw[bV (by rw[WW]),hin6,e1];rfl)) (.k (.k .nil))) (.k .nil)) ?_;refine gW (Wk.virt 902 1 rfl) ?_;refine aZ [2,67] [901] (fun(i:Nat)=>[(3,some (.ms 902 1 0 (gU k2 i).length)),(66,some (.ms 901 1 0 k2.length)),(68,some (i64 i))]) (fun i=>[(902,some (.row 1 ((gU k2 i).map i64)))]) (fun i=>i<=k2.length) (fun i=>k2.length-i) 0 (W7 _) ?_;rintro i hb K5 J5;refine gC (fun t69=>?_) (fun t69=>?_) (st2:=(28,0))
 ·have hin8:=a6 t69;obtain ⟨v,hv⟩:=ax hin8;have hvd:k2.getD i false = v:=au hv;have hul:=xx k2 i;refine gs (mh (.tmp rfl) (.tmp rfl) T219 rfl T4 rfl oz oz rfl) ?_;refine gs (en (.tmp rfl) rfl (by rw [Nat.zero_add,Xk,W0,hv]; rfl) T4 rfl rfl rfl) ?_;refine gC (fun t74=>?_) (fun t74=>?_)
  ·have hu := Dm (k := k2) (i := i) (by rw [hvd]; exact df t74);refine gs (cO (.tmp rfl) rfl (by rw [WW]) (.tmp rfl) T39 rfl T3 rfl rfl (by dsimp only; simp only [W9,Xi]; omega) rfl rfl) ?_ (27,0);refine gW (Wk.of (sl:=[(2,some (.lst 1 ((eK (bU l)).map i64))),(3,some (.ms 78 1 0 (gU k2 (i + 1)).length)),(66,some (.ms 901 1 0 k2.length)),(67,some (i64 k2.length)),(68,some (i64 i))]) (hp:=[(901,some (.row 1 (k2.map bl))),(78,some (.row 1 ((gU k2 (i + 1)).map i64)))]) (.k (.cons rfl (Sub.of (by rw [hu,Xo]; rfl)) (.k (.k (.k .nil))))) (.k (.cons rfl (BlkSub.of (by rw [hu,Xl]; rfl)) .nil))) ?_ (27,0)
   refine gW (Wk.rk (k:=78) (d:=902) rfl rfl) ?_;refine ga aO ?_;exact aP J5 (i+1) hin8 (hw:=Wk.of (.cons rfl (Sub.of (by first |rw[hu];done |rfl)) (.k (.k (.k (.k .nil))))) (.cons rfl (BlkSub.of (by first |rw[hu];done |rfl)) (.k .nil)))
  have hu:=Fg (k:=k2) (i:=i) (by rw[hvd];exact c9 t74);refine ga aO ?_;exact aP J5 (i+1) hin8 (hw:=Wk.of (.cons rfl (Sub.of (by first |rw[hu];done |rfl)) (.k (.k (.k (.k .nil))))) (.cons rfl (BlkSub.of (by first |rw[hu];done |rfl)) (.k .nil)))
 have hin8:=bi hb t69;refine gW ((Wk.freeze (k:=902) rfl).trans<|Wk.of (sl:=[(2,some (.lst 1 ((eK (bU l)).map i64))),(3,some (.lst 1 ((eK (dU l)).map i64)))]) (hp:=[]) (.k (.cons rfl (Sub.of (by rw[bV (by rw[WW]),hin8,e2];rfl)) .nil)) .nil) ?_;refine br ?_;rfl
theorem C1(l:Li)(hl:l.ok)(hli:aG l=0):FP 16 [l.av] (.tup [.lst 4 ((splitG l).map Gr.av),i64 (splitE l)]):=by
 have h8:=(cU hli).2.2.2.1;have hj16:l.jo.length<=16:=by have:=(cU hli).2.1;unfold eT at this;split at this;cases this;omega
 have u1:=Ln l;have u2:=Wl l;refine aj func16 ?_;refine gc (Qu l hl hli) ?_;refine gl ?_;refine gl ?_;refine ga (dt oz) ?_;refine gC (fun t16=>?_) (fun t16=>?_)
 ·have h1:0 < (eK (bU l)).length + (eK (dU l)).length:=jl t16;have hE:splitE l = 7:=by unfold splitE; rw [XJ oz]
  refine gR ?_;exact dZ (by unfold splitG;rw[XJ (by rw[hE];decide),hE];exact Sub.tup (.cons (.nil _ _ _) (.cons (.refl _) .nil)))
 have h1:(eK (bU l)).length+(eK (dU l)).length<=0:=g9 t16;have hE:splitE l=0:=by unfold splitE;rw[XK oz]
 refine gc (Hz l hl hli) ?_;refine br ?_;unfold splitG;rw[XK hE,hE];rfl
variable{P:Program}{N:Nat}{R:Array Oper}{s:AS}{pos:String}{after:Array Edge}
theorem AH{d:Nat}{x:Operand}{n:Nat}{z:Value}{T E t:TypeId}{ti te:TI}(hx:Ev s x (.v (.int .i64 n)))
    (hT:aA P T=some ti) (hk:ti.k=.slice E) (hE:aA P E=some te) (hz:te.zero=[z]) (hz1:z.oneCell'=true) (hs:Nat.beq te.size 1=true) (hbb:Nat.blt 0 te.bytes=true)
    (hb:(n:Int)*te.bytes<=281474976710656) (hN:Nat.blt d N=true) :
    Step P N R s ⟨some d,.makeSlice T x x,t,pos,after,none⟩
      ⟨some (.ms d 1 0 n),[(d,some (.vec (List.replicate n z)))],aw x,[]⟩ :=
  tV rfl rfl hN (by simp) fun s' hag hfr C m a w hr => by
    have hxv:=nB hr (hx.agree hag (fun _ h=>h));have hs:=W5 hs;rw[Nat.blt_eq]at hbb;obtain⟨d2,h3,h4,-,-⟩:=dO hT w;obtain rfl:=iQ (h4.trans hk);obtain⟨zv,h5,h6⟩:=tg hE w;obtain⟨ie,h7,h8,-⟩:=Gc hE w;have h6':zv.cells.toList=[z]:=h6.trans hz;have hzc:zv.cells=#[z]:=by rw[<- Array.toArray_toList (xs:=zv.cells),h6']
    have hnb:(n:Int)<=281474976710656:=by
      have:(n:Int)*1<=n*te.bytes:=Int.mul_le_mul_of_nonneg_left oz oz;omega
    have hw1:IntKind.i64.wrap (n:Int)=n:=IntWalk.i64_in n oz;obtain⟨zero,hzero⟩:∃zero:Array Value,zero=(if n*te.size=0 then #[]else zv.cells):=⟨_,rfl⟩
    refine⟨.slice (some ⟨w.heap.size,0,none⟩) n n,(Array.range (n*te.size)).map (zero[· % zero.size]!),E,w.drawn,?_,?_,?_,?_⟩
    · have hmk:(Instr.makeSlice T (.int .i64 n) (.int .i64 n)).run P w =
          .ok (.slice (some ⟨w.heap.size,0,none⟩) n n) { w with heap:=w.heap.push (.cells ((Array.range (n*te.size)).map (zero[· % zero.size]!)) E) }:=by
        have hc:¬(((n:Int)<0\/281474976710656<(ie.bytes:Int)*n)\/(n:Int)<0):=by
          rw[h8,Int.mul_comm];omega
        simp only[Instr.makeSlice,Sem.run_bind,h3,Result.andThen_ok,asInt,asIntOf,Sem.run_pure,h7,hw1];rw[XJ (by simpa using hc)];simp only[Sem.run_bind,run_askRoom,Result.andThen_ok,fU hE,Xk]
        by_cases h0:n*te.size=0
        · rw[XK h0]at hzero ⊢
          subst hzero;simp only[Sem.run_bind,Sem.run_pure,Result.andThen_ok,newRow,run_newObj]
        · rw[XJ h0]at hzero ⊢
          subst hzero;simp only[Sem.run_bind,Sem.run_pure,Result.andThen_ok,h5,newRow,run_newObj]
      simp only[execOp,hxv,Sem.run_bind,hmk,Result.andThen_ok,Sem.run_pure]
    · exact fun h=>h
    · intro g S m' w' hg hS hm hw
      refine .vec hw ?_ (fun v hv=>by rw[List.eq_of_mem_replicate hv];exact hz1);apply List.ext_getElem?;intro j;rw[Array.getElem?_toList,Xq]
      by_cases hj:j<n
      · have hpos : ¬ n * te.size = 0 := by rw [hs]; omega
        rw[XJ hpos,hzc]at hzero;subst hzero;rw[XK hj];simp only[Array.getElem?_map,Array.getElem?_range,show j<n*te.size by rw[hs];omega,if_true,Option.map_some,Option.some.injEq];simp[Nat.mod_one]
      · rw[XJ hj,Array.getElem?_eq_none (by simp[hs];omega)]
    · intro g S m' hm hS
      have:=Rep.ms (g:=g) (S:=S) (m:=m') (k:=d) (sz:=1) (off:=0) (len:=n) (cap:=n) hm (WZ _) (by simpa[hs]using hS);simpa using this
theorem v9{x y:Operand}{k i:Nat}{vs:List Value}{v:Value}{T t:TypeId}{ti:TI}
  (hx:Ev s x (.eptr k 1 i 0)) (hk:s.blk k=some (.vec vs)) (hi:i<vs.length) (hy:Ev s y (.v v)) (hv:v.oneCell'=true) (hT:aA P T=some ti) (hsz:Nat.beq ti.size 1=true) :
  Step P N R s ⟨none,.store T x y,t,pos,after,none⟩ ⟨none,[(k,some (.vec (vs.set i v)))],aw x++aw y,[k]⟩ :=
 Bn rfl rfl (by simp) hk fun s' hag C m a w hr => by
  have hsz:=W5 hsz;obtain⟨b,hm,hxv⟩:=uF hr (hx.agree hag (fun _ h=>List.mem_append.2 (.inl h)));have hyv:=nB hr (hy.agree hag (fun _ h=>List.mem_append.2 (.inr h)));have hb:=hr.heap.blk k _ ((hag.2 k (by simp)).trans hk);rw[hm]at hb;cases hb with
  | @vec _ _ c t2 hw hc h1 =>
   have hcs:c.size=vs.length:=by rw[<- hc];simp
   have hvc:v.cells=#[v]:=by cases v <;> simp_all [Value.cells,Value.oneCell']
   refine⟨b,c,(over c.toList i v.cells.toList).toArray,t2,hm,hw,?_,?_,?_⟩
   ·simp[over,hvc];omega
   ·have hrun := Ax (P := P) (off := i) (v := v) hT hw (by rw[hvc,hsz];rfl) oz (by rw[hvc];simpa using hv);simp[execOp,Instr.storeAt,hxv,Instr.sureAddr,hyv,hrun]
   ·intro g S w' hg hS hw';refine .vec hw' ?_ (fun u hu=>?_)
    ·rw[hc,hvc];unfold over;rw[List.set_eq_take_append_cons_drop,XK hi];simp
    ·rcases List.mem_or_eq_of_mem_set hu with h9 |h9
     ·exact h1 u h9
     ·rw[h9];exact hv
inductive Lent(H:Hp)(hid:List Nat):AV->AV->Prop
  |same {x:AV} (h:x.nm=[]):Lent H hid x x
  |ms {k off len:Nat} {vs:List Value} (hk:lk H k=some (.vec vs)) (hh:k∉hid) (hl:off+len<=vs.length) (hm:vs.length<=a7):Lent H hid (.ms k 1 off len) (.lst 1 (((vs.drop off).take len).map .v))
theorem Gm{g:Nat->Array Value->Prop}{S:Nat->Nat->Prop}{m:Nat->Option Nat}{u y:Value}(h:Rep g S m u (.v y)):u=y:=by cases h;rfl
theorem vu{m:Nat->Option Nat}{b:Nat}:¬a9 [] m b:=by rintro⟨k,x,h,_⟩;cases h
def rf(ext:Nat->Prop)(H:Hp)(hid:List Nat)(m:Nat->Option Nat)(b:Nat):Prop:=ext b\/∃k z,k∈hid/\lk H k=some z/\m k=some b
theorem Ta{ext:Nat->Prop}{H:Hp}{hid:List Nat}{m m2:Nat->Option Nat}{w:World}{b:Nat}{cs:Array Value}(h:Im ext H m w b cs):Im (rf ext H hid m) [] m2 w b cs :=
 ⟨fun h'=>h'.elim h.1 (fun⟨k,z,_,hz,hb⟩=>h.2.1 ⟨k,z,hz,hb⟩),vu,h.2.2⟩
theorem Fp{ext:Nat->Prop}{H:Hp}{hid:List Nat}{m:Nat->Option Nat}{w:World}(hh:HeapRel ext H m w){k b:Nat}{z:Blk}(hk:lk H k=some z)(hb:m k=some b)(hn:k∉hid):¬rf ext H hid m b:=by
 rintro(h |⟨k',z',h1,h2,h3⟩)
 ·exact(hh.sep k z b hk hb).1 h
 ·have:=hh.inj k k' z z' b hk h2 hb h3;subst this;exact hn h1
theorem Lent.rep{ext:Nat->Prop}{H:Hp}{hid:List Nat}{m:Nat->Option Nat}{w:World}(hh:HeapRel ext H m w){x x':AV}(h:Lent H hid x x') :
  ∀{v:Value},Rep (Im ext H m w) (Sz w) m v x->∀m2:Nat->Option Nat,Rep (Im (rf ext H hid m) [] m w) (Sz w) m2 v x':=by
 cases h with
 |same hn=>intro v hv m2;exact(iK hn hv).mono (fun _ _ h=>Ta h) (fun _ _ h=>h) (fun _ _ _ h=>h)
 | @ms k off len vs hk hnh hl hm =>
  intro v hr m2;have hb:=hh.blk k _ hk;cases hr with
  |ms0 a=>simp only[List.take_zero];exact .lst0 _ _ _
  | @ms _ _ _ _ _ cap b hmk hc hS =>
   rw[hmk]at hb;cases hb with
   | @vec _ _ c t hw hcv h1 =>
    have hcs:c.size=vs.length:=by rw[<- hcv];simp
    have hlen:(((vs.drop off).take len).map AV.v).length=len:=by rw[WW,Xh,List.length_drop];omega
    have he':∀(i:Nat)(e:AV),(((vs.drop off).take len).map AV.v)[i]?=some e->∃u,e=.v u/\c[off+i]?=some u/\u∈vs:=by
     intro i e he;rw[W0,WX]at he;obtain⟨u,he,rfl⟩:=he;rw[Xp]at he;split at he
     ·rw[Xy]at he;exact⟨u,rfl,by rw[<- Array.getElem?_toList,hcv];exact he,WU he⟩
     ·cases he
    have:=Rep.lst (g:=Im (rf ext H hid m) [] m w) (S:=Sz w) (m:=m2) (b:=b) (off:=off) (cap:=cap) (sz:=1) (es:=((vs.drop off).take len).map AV.v) (cs:=c) (fun i j=>c.getD (off+i) undef)
     ⟨Fp hh hk hmk hnh,vu,t,(0,0),hw⟩ oz oz ?_ ?_ ?_ ?_
    ·rw[hlen]at this;simpa using this
    ·intro i e he;obtain⟨u,rfl,_⟩:=he' i e he;rfl
    ·intro i j e x he hx;obtain⟨u,rfl,_,hm⟩:=he' i e he;cases j with
     |zero=>cases hx;exact h1 u hm
     |succ j=>cases hx
    ·intro i j e x he hx;obtain⟨u,rfl,hu,_⟩:=he' i e he;cases j with
     |zero=>rw[Nat.mul_one,Nat.add_zero,W6,hu];rfl
     |succ j=>cases hx
    ·intro i j e x he hx;obtain⟨u,rfl,hu,_⟩:=he' i e he;cases j with
     |zero=>cases hx;rw[W6,hu];exact .v _
     |succ j=>cases hx
def DS:AV->Bool
  | .v (.int _ _)=>true
  |_=>false
def En:AV->Bool
  | .v (.int _ _)=>false
  | .v _=>true
  | .lst _ _=>true
  | .ms _ _ _ _=>true
  |_=>false
mutual
def AV.li:AV->Bool
  | .v _=>true
  | .agg cs=>AV.lis cs
  | .tup cs=>AV.lis cs
  | .lst sz es=>Nat.beq sz 1&&es.all DS
  |_=>false
def AV.lis:List AV->Bool
  |[]=>true
  |x::l=>x.li&&AV.lis l
end
theorem AV.lis_mem:∀{l:List AV}{c:AV},AV.lis l=true->c∈l->c.li=true
 |x::l,c,h,hc=>by
  simp only[AV.lis,W4]at h;rcases List.mem_cons.1 hc with rfl |hc
  ·exact h.1
  ·exact AV.lis_mem h.2 hc
theorem Pb{g:Nat->Array Value->Prop}{S:Nat->Nat->Prop}{m:Nat->Option Nat}{u:Value}{x:AV}(hx:En x=true)(h:Rep g S m u x)(kk:IntKind)(z:Int):u≠.int kk z:=by
 rintro rfl;cases h <;> cases hx
theorem TF{g g':Nat->Array Value->Prop}{S S':Nat->Nat->Prop}{m m':Nat->Option Nat}{v:Value}{x:AV}(hx:x.li=true)
  (hg:∀b cs (o:Nat)(kk:IntKind)(z:Int),cs[o]?=some (.int kk z)->g b cs->g' b cs) (h:Rep g S m v x):Rep g' S' m' v x:=by
 induction h with
 |v=>exact .v _
 |agg hn h1 hr ih=>exact .agg hn h1 (fun j u c hu hc=>ih j u c hu hc (AV.lis_mem hx (WU hc)))
 |tup hn hr ih=>exact .tup hn (fun j u c hu hc=>ih j u c hu hc (AV.lis_mem hx (WU hc)))
 |lst0 a cap sz=>exact .lst0 _ _ _
 | @lst _ b off cap sz es cs u hb hc hl hs h1 hu hr _ =>
  simp only[AV.li,W4]at hx;have hsz:=W5 hx.1;subst hsz
  match es,hx,hc,hl,hs,h1,hu,hr with
  |[],_,_,_,_,_,_,_=>exact .lst0 _ _ _
  |e::es,hx,hc,hl,hs,h1,hu,hr =>
   have hcell:∀(i j:Nat)(e' c:AV),(e::es)[i]?=some e'->e'.cells[j]?=some c->∃kk z,c=.v (.int kk z):=by
    intro i j e' c he hc';have h9:=List.all_eq_true.1 hx.2 e' (WU he);cases e' with
    |v y=>cases y with
     |int kk z =>
      cases j with
      |zero=>cases hc';exact⟨_,_,rfl⟩
      |succ j=>cases hc'
     |_=>cases h9
    |_=>cases h9
   have he0:∃kk z,e=.v (.int kk z):=by
    have h9:=List.all_eq_true.1 hx.2 e (by simp);cases e with
    |v y=>cases y with
     |int kk z=>exact⟨_,_,rfl⟩
     |_=>cases h9
    |_=>cases h9
   obtain⟨kk,z,rfl⟩:=he0;have h8:=hu 0 0 _ _ rfl rfl;have h7:=hr 0 0 _ _ rfl rfl;have h6:u 0 0=.int kk z:=Gm h7;rw[h6]at h8;refine .lst u (hg b cs _ kk z h8 hb) hc hl hs h1 hu (fun i j e' c he hc'=>?_);obtain⟨k2,z2,rfl⟩:=hcell i j e' c he hc';rw[Gm (hr i j _ _ he hc')];exact .v _
 |_=>cases hx
theorem Con.lend{f:FuncId}{k:Nat}{cs:List AV}{cs':Value->List AV}{H:Hp}{r:AV}(hid:List Nat)(j0:Nat)(hk:lk H k=some (.box cs))(hkh:k∉hid)
  (hc:∀v:Value,v.oneCell'=true->(cs' v).length=cs.length/\(∀(j:Nat)(x:AV),(cs' v)[j]?=some x->x.one=true) /\
   ∀(j:Nat)(x x':AV),cs[j]?=some x->(cs' v)[j]?=some x'->(j=j0/\x'=.v v)\/Lent H hid x x')
  (hj:j0<cs.length)
  (hH:∀k z,lk H k=some z->k∈hid\/(∃cs,z=.box cs/\cs.all En=true)\/∃vs,z=.vec vs/\∀v∈vs,∀kk z,v≠.int kk z) (hr:r.li=true) (h:∀v:Value,iI P f [.iptr (cs' v)] r):Con P f [.ptr k 0] H r H:=by
 refine⟨(h undef).ok,?_⟩;intro ext m w vs hext hheap hvs hrep;have hsz:0<vs.size:=by rw[hvs];exact Nat.one_pos
 have hr0:=hrep 0 vs[0] _ (Array.getElem?_eq_getElem hsz) rfl;have hb:=hheap.blk k _ hk;generalize hv0:vs[0]=v0 at hr0;cases hr0 with
 | @ptr _ _ _ b hmk =>
  rw[hmk]at hb;cases hb with
  | @box _ _ c t hw hn h1 hrr =>
   have hj0:j0<c.size:=by omega
   have hx0:=WY (l:=cs) (i:=j0) oz;have hone:(c[j0]).oneCell'=true:=(hrr j0 _ _ (Array.getElem?_eq_getElem hj0) hx0).one (h1 j0 _ hx0);obtain⟨g1,g2,g3⟩:=hc c[j0] hone
   have hext':∀b,rf ext H hid m b->b<w.heap.size:=by
    rintro b (h9 |⟨k',z',_,h2,h3⟩)
    ·exact hext b h9
    ·exact(hheap.sep k' z' b h2 h3).2
   have hcall := (h c[j0]).ret (rf ext H hid m) m w vs hext' ⟨fun k z hz => by (cases hz), fun k k' x x' b hx => by (cases hx), fun k x b hx => by (cases hx)⟩ (by rw [hvs]; rfl) (by
    intro j v x hv hx
    match j,hx with
    |0,hx =>
     cases hx;rw[Array.getElem?_eq_getElem hsz,hv0]at hv;cases hv;refine .iptr (cs:=c) (fun j=>c.getD j undef) ⟨Fp hheap hk hmk hkh,vu,t,(0,0),hw⟩ g2 ?_ ?_
     ·intro j x hx;have hlt:j < c.size:=by rw [hn,<- g1]; exact (List.getElem?_eq_some_iff.1 hx).1
      rw[Nat.zero_add,W6,Array.getElem?_eq_getElem hlt];rfl
     ·intro j x hx;have hlt:j < c.size:=by rw [hn,<- g1]; exact (List.getElem?_eq_some_iff.1 hx).1
      obtain⟨y,hy⟩:=iP g1 hx;have hcv:c[j]?=some (c.getD j undef):=by rw[W6,Array.getElem?_eq_getElem hlt];rfl
      rcases g3 j y x hy hx with⟨rfl,rfl⟩ |hl
      ·have : c.getD j undef = c[j] := by rw [Array.getElem?_eq_getElem hlt] at hcv; exact (Option.some.inj hcv).symm
       rw[this];exact .v _
      ·exact hl.rep hheap (hrr j _ y hcv hy) dh)
   refine Calls.mono hcall ?_;rintro e w' ⟨v,m',rfl,hf,hh,hnew,hkeep,hres⟩;have hkeepB:∀b,b<w.heap.size->w'.heap[b]?=w.heap[b]? := fun b hb=>hf.keep b hb vu
   have hframe:Frame (a9 H m) w w':=⟨hf.os,hf.tape,hf.output,hf.size,hf.sz,fun b hb _=>hkeepB b hb⟩
   have him:=eY (ext:=ext) hframe (hp':=H) (m':=m) (fun k x b hk hb=>.inl ⟨k,x,hk,hb⟩);refine⟨v,m,rfl,hframe,⟨?_,hheap.inj,?_⟩,fun k x b hk hb=>.inl ⟨k,x,hk,hb⟩,fun _ _ _ _ _=>rfl,?_⟩
   ·intro k z hz;exact BlkRep.mono (w:=w) him hf.sz (fun _ _ _ h=>h) rfl (fun b hb=>hkeepB b (hheap.sep k z b hz hb).2) (hheap.blk k z hz)
   ·intro k z b hz hb;have:=hheap.sep k z b hz hb;exact⟨this.1,Xc this.2 hf.size⟩
   ·refine TF hr ?_ hres;rintro b2 cs2 o kk z ho ⟨g1,g2,t2,fl,g3⟩;refine⟨fun h9=>g1 (.inl h9),?_,t2,fl,g3⟩;rintro⟨k2,y,hk2,hb2⟩;have hlt:=fun b hb=>(hheap.sep k2 _ b hk2 hb).2
    have h3:=hheap.blk k2 _ hk2;rw[hb2]at h3;rcases hH k2 y hk2 with h9 |⟨cl,rfl,hcl⟩ |⟨vs2,rfl,hvl⟩
    ·exact g1 (.inr ⟨k2,y,h9,hk2,hb2⟩)
    ·cases h3 with
     | @box _ _ c2 t' hw2 hn2 h12 hrr2 =>
      have hcc:c2=cs2:=by
       rw[hkeepB b2 (hlt b2 hb2),hw2]at g3
       injection g3 with g3
       injection g3
      subst hcc;have ho':o<c2.size:=(Array.getElem?_eq_some_iff.1 ho).1;have hx:=WY (l:=cl) (i:=o) oz;exact Pb (List.all_eq_true.1 hcl _ (WU hx)) (hrr2 o _ _ ho hx) kk z rfl
    ·cases h3 with
     | @vec _ _ c2 t' hw2 hc2 h12 =>
      have hcc:c2=cs2:=by
       rw[hkeepB b2 (hlt b2 hb2),hw2]at g3
       injection g3 with g3
       injection g3
      subst hcc;have:Value.int kk z∈vs2:=by rw[<- hc2];exact Array.mem_toList_iff.2 (Array.mem_of_getElem? ho)
      exact hvl _ this kk z rfl
end Go.Lw
namespace Go.Lw
open Go.Proofs
def bv(xs:List Bool):List Value:=xs.map .bool
theorem gj(xs:List Bool):(bv xs).length=xs.length:=WW _
theorem uU(xs:List Bool)(n:Nat):(bv xs).set n (.bool true)=bv (xs.set n true):=by unfold bv;rw[XF]
theorem y9(xs:List Bool):∀v∈bv xs,∀kk z,v≠.int kk z:=by
 intro v hv kk z;obtain⟨b,_,rfl⟩:=List.mem_map.1 hv;exact fun h=>by cases h
theorem xn(xs:List Bool):(bv xs).map AV.v=xs.map bl:=by unfold bv;rw[map_map];rfl
theorem yn(n:Nat):List.replicate n (Value.bool false)=bv (List.replicate n false):=by unfold bv;rw[XB]
theorem PI(xs:List Int):(xs.map i64).all DS=true:=by
 rw[Xx];intro x hx;obtain⟨b,_,rfl⟩:=List.mem_map.1 hx;rfl
theorem Ko(g:Gr)(b:Bool):(AV.tup [g.av,bl b]).li=true:=by
 simp only[AV.li,AV.lis,Gr.av,PI];rfl
def oW(l:Li)(n:Nat):Blk:=.box (l.av.cells++[.ms 23 1 0 l.bo.length,.ms 27 1 0 l.bo.length,.ms 31 1 0 l.jo.length,.ms 900 4 0 n])
def ns(l:Li)(kw used:List Bool)(out:List Gr):Hp :=
  [(33,some (oW l out.length)),(23,some (.vec (bv kw))),(27,some (.vec (bv (bY l)))),(31,some (.vec (bv used))),(900,some (.row 4 (out.map Gr.av)))]
theorem yA{xs:List Bool}{n:Nat}(h:xs.length=n):AV.lst 1 ((((bv xs).drop 0).take n).map .v)=.lst 1 (xs.map bl):=by
 rw[XG,Xb (by rw[gj];omega),xn]
theorem Fn(l:Li)(hl:l.ok)(hli:aG l=0)(kw used:List Bool)(hk:kw.length=l.bo.length)(hu:used.length=l.jo.length)(hm:l.bo.length<=a7/\l.jo.length<=a7)(out:List Gr) :
  Con prog 339 [.ptr 33 0] (ns l kw used out) (.tup [((nextG l kw).getD default).av,bl (nextG l kw).isSome]) (ns l kw used out):=by
 refine Con.lend (cs:=l.av.cells++[.ms 23 1 0 l.bo.length,.ms 27 1 0 l.bo.length,.ms 31 1 0 l.jo.length,.ms 900 4 0 out.length])
  (cs':=fun v=>dM l kw (bY l) [.lst 1 (used.map bl),.v v]) [900] 7 rfl (by decide) ?_ (by simp[Li.av,AV.cells]) ?_ (Ko _ _) (fun v=>QQ l hl hli kw hk _)
 ·intro v hv;refine⟨rfl,?_,?_⟩
  ·intro j x hx
   match j,hx with
   |0,hx=>cases hx;rfl
   |1,hx=>cases hx;rfl
   |2,hx=>cases hx;rfl
   |3,hx=>cases hx;rfl
   |4,hx=>cases hx;rfl
   |5,hx=>cases hx;rfl
   |6,hx=>cases hx;rfl
   |7,hx=>cases hx;exact hv
   |j+8,hx=>cases hx
  ·intro j x x' hx hx'
   match j,hx,hx' with
   |0,hx,hx'=>cases hx;cases hx';exact .inr (.same rfl)
   |1,hx,hx'=>cases hx;cases hx';exact .inr (.same rfl)
   |2,hx,hx'=>cases hx;cases hx';exact .inr (.same rfl)
   |3,hx,hx'=>cases hx;cases hx';exact .inr (.same rfl)
   |4,hx,hx' =>
    cases hx;cases hx'
    have h:=Lent.ms (H:=ns l kw used out) (hid:=[900]) (k:=23) (off:=0) (len:=l.bo.length) (vs:=bv kw) rfl (by decide) (by rw[gj];omega) (by rw[gj];omega);rw[yA hk]at h;exact .inr h
   |5,hx,hx' =>
    cases hx;cases hx'
    have h:=Lent.ms (H:=ns l kw used out) (hid:=[900]) (k:=27) (off:=0) (len:=l.bo.length) (vs:=bv (bY l)) rfl (by decide) (by rw[gj,s7];omega) (by rw[gj,s7];omega);rw[yA (s7 l)]at h;exact .inr h
   |6,hx,hx' =>
    cases hx;cases hx'
    have h:=Lent.ms (H:=ns l kw used out) (hid:=[900]) (k:=31) (off:=0) (len:=l.jo.length) (vs:=bv used) rfl (by decide) (by rw[gj];omega) (by rw[gj];omega);rw[yA hu]at h;exact .inr h
   |7,hx,hx'=>cases hx;cases hx';exact .inl ⟨rfl,rfl⟩
   |j+8,hx,hx'=>cases hx
 ·intro k z hz;simp only[ns,aT]at hz;split at hz
  ·cases hz;exact .inr (.inl ⟨_,rfl,rfl⟩)
  split at hz
  ·cases hz;exact .inr (.inr ⟨_,rfl,y9 _⟩)
  split at hz
  ·cases hz;exact .inr (.inr ⟨_,rfl,y9 _⟩)
  split at hz
  ·cases hz;exact .inr (.inr ⟨_,rfl,y9 _⟩)
  split at hz
  ·subst_vars;exact .inl (by decide)
  ·cases hz
def q5(l:Li):AV:=if aG l=0 then .iptr (dM l (bU l) (bY l) [.lst 1 ((dU l).map bl),.lst 4 ((findG l).map Gr.av)])else .v (.pointer none)
def jF(l:Li)(out:List Gr):List Bool:=out.foldl (fun k g=>bA k g.jo) (List.replicate l.jo.length false)
theorem AW(l:Li)(out:List Gr):(jF l out).length=l.jo.length:=by unfold jF;rw[pC,Xt]
theorem MF(l:Li)(out:List Gr)(g:Gr):jF l (out++[g])=bA (jF l out) g.jo:=by unfold jF;rw[List.foldl_append];rfl
theorem z6{k:List Bool}{bs:List Int}{i:Nat}{b:Int}(h:bs[i]?=some b):bA k (bs.take (i+1))=(bA k (bs.take i)).set b.toNat true:=by
 unfold bA;rw[eA h,List.foldl_append];rfl
theorem NU{l:Li}(hli:aG l=0){kw:List Bool}{out:List Gr}{g:Gr}(hk:kw.length=l.bo.length)(h:findFrom l (dQ kw) kw out=(bU l,findG l))(hg:nextG l kw=some g) :
  findFrom l (dQ (bA kw g.bo)) (bA kw g.bo) (out++[g])=(bU l,findG l):=by
 have hlt:=rK hli hk hg;obtain⟨n,hn⟩:∃n,dQ kw=n+1:=⟨dQ kw-1,by omega⟩
 rw[hn]at h;unfold findFrom at h;rw[hg]at h;rw[<- h];exact yp hli _ _ _ _ (by rw[ja];exact hk) (WZ _) oz
theorem Q4{l:Li}{kw:List Bool}{out:List Gr}(h:findFrom l (dQ kw) kw out=(bU l,findG l))(hg:nextG l kw=none):kw=bU l/\out=findG l:=by
 cases hn:dQ kw with
 |zero=>rw[hn]at h;exact⟨(Prod.mk.inj h).1,(Prod.mk.inj h).2⟩
 |succ n=>rw[hn]at h;unfold findFrom at h;rw[hg]at h;exact⟨(Prod.mk.inj h).1,(Prod.mk.inj h).2⟩
theorem Kk{n:Nat}:dQ (cG n 0)<=n:=by
 unfold dQ;exact Xj List.countP_le_length (Nat.le_of_eq (gV _ _))
theorem Ph{l:Li}(hli:aG l=0):findFrom l (dQ (cG l.bo.length 0)) (cG l.bo.length 0) []=(bU l,findG l):=by
 rw[<- E9];exact yp hli _ _ _ _ (gV _ _) (WZ _) Kk
theorem Oz{l:Li}(hli:aG l=0){kw:List Bool}{out:List Gr}(hk:kw.length=l.bo.length)(h:findFrom l (dQ kw) kw out=(bU l,findG l)):out.length<=8:=by
 obtain⟨gs,e⟩:=z8 (l:=l) (dQ kw) kw out;rw[e]at h;have h1:=(qB hli).2;have h2:out++gs=findG l:=(Prod.mk.inj h).2;rw[<- h2,Xo]at h1;omega
theorem Uw(l:Li)(kw used:List Bool)(out:List Gr)(hk:kw.length=l.bo.length)(hu:used.length=l.jo.length)(hm:l.bo.length<=a7/\l.jo.length<=a7) :
  Wk ⟨[(5,some (.ptr 33 0))],ns l kw used out⟩ ⟨[(5,some (.iptr (dM l kw (bY l) [.lst 1 (used.map bl),.lst 4 (out.map Gr.av)])))],[]⟩:=by
 have hd:=s7 l;have q1:.ms 23 1 0 l.bo.length=AV.ms 23 1 0 ((bv kw).map AV.v).length:=by rw[WW,gj,hk]
 refine(Wk.of (sl:=[(5,some (.ptr 33 0))]) (hp:=[(33,some (oW l out.length)),(23,some (.row 1 ((bv kw).map .v))),(27,some (.row 1 ((bv (bY l)).map .v))),(31,some (.row 1 ((bv used).map .v))),(900,some (.row 4 (out.map Gr.av)))])
  (.k .nil) (.k (.cons rfl (.vecRow (by rw[gj];omega)) (.cons rfl (.vecRow (by rw[gj];omega)) (.cons rfl (.vecRow (by rw[gj];omega)) (.k .nil)))))).trans ?_
 refine(Wk.freeze (k:=23) rfl).trans ?_
 refine(Wk.of (sl:=[(5,some (.ptr 33 0))]) (hp:=[(33,some (.box (l.av.cells++[.lst 1 (kw.map bl),.ms 27 1 0 l.bo.length,.ms 31 1 0 l.jo.length,.ms 900 4 0 out.length]))),(27,some (.row 1 ((bv (bY l)).map .v))),(31,some (.row 1 ((bv used).map .v))),(900,some (.row 4 (out.map Gr.av)))])
  (.k .nil) (.cons rfl (BlkSub.bL (.cons (.refl _) (.cons (.refl _) (.cons (.refl _) (.cons (.refl _) (.cons (.of ((bV (by rw[WW,gj,hk])).trans (by rw[xn]))) (.cons (.refl _) (.cons (.refl _) (.cons (.refl _) .nil)))))))) rfl) (.k (.k (.k .nil))))).trans ?_
 refine(Wk.freeze (k:=27) rfl).trans ?_
 refine(Wk.of (sl:=[(5,some (.ptr 33 0))]) (hp:=[(33,some (.box (l.av.cells++[.lst 1 (kw.map bl),.lst 1 ((bY l).map bl),.ms 31 1 0 l.jo.length,.ms 900 4 0 out.length]))),(31,some (.row 1 ((bv used).map .v))),(900,some (.row 4 (out.map Gr.av)))])
  (.k .nil) (.cons rfl (BlkSub.bL (.cons (.refl _) (.cons (.refl _) (.cons (.refl _) (.cons (.refl _) (.cons (.refl _) (.cons (.of ((bV (by rw[WW,gj,hd])).trans (by rw[xn]))) (.cons (.refl _) (.cons (.refl _) .nil)))))))) rfl) (.k (.k .nil)))).trans ?_
 refine(Wk.freeze (k:=31) rfl).trans ?_
 refine(Wk.of (sl:=[(5,some (.ptr 33 0))]) (hp:=[(33,some (.box (l.av.cells++[.lst 1 (kw.map bl),.lst 1 ((bY l).map bl),.lst 1 (used.map bl),.ms 900 4 0 out.length]))),(900,some (.row 4 (out.map Gr.av)))])
  (.k .nil) (.cons rfl (BlkSub.bL (.cons (.refl _) (.cons (.refl _) (.cons (.refl _) (.cons (.refl _) (.cons (.refl _) (.cons (.refl _) (.cons (.of ((bV (by rw[WW,gj,hu])).trans (by rw[xn]))) (.cons (.refl _) .nil)))))))) rfl) (.k .nil))).trans ?_
 refine(Wk.freeze (k:=900) rfl).trans ?_
 refine(Wk.of (sl:=[(5,some (.ptr 33 0))]) (hp:=[(33,some (.box (dM l kw (bY l) [.lst 1 (used.map bl),.lst 4 (out.map Gr.av)])))])
  (.k .nil) (.cons rfl (BlkSub.bL (.cons (.refl _) (.cons (.refl _) (.cons (.refl _) (.cons (.refl _) (.cons (.refl _) (.cons (.refl _) (.cons (.refl _) (.cons (.of (bV (by rw[WW]))) .nil)))))))) rfl) .nil)).trans ?_
 refine(Wk.freezeB (k:=33) rfl rfl).trans ?_;exact Wk.of (.k .nil) .nil
theorem TU(l:Li)(hl:l.ok):FP 250 [l.av] (.tup [q5 l,bq (aG l)]):=by
 refine aj func250 ?_;refine gc (AN l hl) ?_;refine gC (fun t17=>?_) (fun t17=>?_)
 ·have h1:=dl t17;refine br ?_;unfold q5;rw[XJ h1]
 have hli:=cZ t17;have h8:=(cU hli).2.2.2.1;have h0:=(cU hli).2.2.2.2;have hj16:l.jo.length<=16:=by have:=(cU hli).2.1;unfold eT at this;split at this;cases this;omega
 have hld:=hl.ld;have hm:l.bo.length<=a7/\l.jo.length<=a7:=by unfold a7;omega
 refine gl ?_;refine gs (AH (.tmp rfl) T219 rfl T4 rfl rfl rfl rfl (by dsimp only;omega) rfl) ?_;refine gl ?_;refine gs (AH (.tmp rfl) T219 rfl T4 rfl rfl rfl rfl (by dsimp only;omega) rfl) ?_;refine gl ?_;refine gs (AH (.tmp rfl) T219 rfl T4 rfl rfl rfl rfl (by dsimp only;omega) rfl) ?_;refine gD ?_;refine gs (b8 (n:=0) (.tmp rfl) (.const _) T219 rfl T4 rfl rfl oz rfl) ?_;refine gs (v9 (.tmp rfl) rfl (by rw[Xt];omega) (.const _) rfl T4 rfl) ?_ (6,0);refine gW (Wk.of (sl:=[(1,some (.ptr 1 0)),(5,some (.ptr 33 0))]) (hp:=[(1,some (.box l.av.cells)),(33,some (.box (l.av.cells++[.ms 23 1 0 l.bo.length,.ms 27 1 0 l.bo.length,.ms 31 1 0 l.jo.length,nS]))),(23,some (.vec (bv (cG l.bo.length 0)))),(27,some (.vec (bv (List.replicate l.bo.length false)))),(31,some (.vec (bv (List.replicate l.jo.length false))))]) a8 (.k (.k (.cons rfl (BlkSub.of (by rw[yn,uU];rfl)) (.cons rfl (BlkSub.of (by rw[yn])) (.cons rfl (BlkSub.of (by rw[yn])) .nil)))))) ?_
 refine gl ?_;refine aZ [1,5,40,41] [1,23,31] (fun(i:Nat)=>[(42,some (i64 i))]) (fun i=>[(33,some (.box (l.av.cells++[.ms 23 1 0 l.bo.length,.ms 27 1 0 l.bo.length,.ms 31 1 0 l.jo.length,nS]))),(27,some (.vec (bv (bA (List.replicate l.bo.length false) ((l.dv.map Dr.body).take i)))))]) (fun i=>i<=l.dv.length) (fun i=>l.dv.length-i) 0 (W7 _) ?_;rintro i hi K1 J1;refine gC (fun t43=>?_) (fun t43=>?_) (st2:=(11,0))
 ·have hin:=a6 t43;obtain⟨d,hd⟩:=ax hin;have hb:=cM (j6 hli hd);have hmt:=z6 (k:=List.replicate l.bo.length false) (bs:=l.dv.map Dr.body) (i:=i) (b:=d.body) (by rw[W0,hd];rfl);refine gi (aI hd) ?_;refine gs (b8 (n:=d.body.toNat) (.tmp rfl) (.tmp rfl) T219 rfl T4 rfl oz oz rfl) ?_;refine gs (v9 (.tmp rfl) rfl (by rw[gj,ja,Xt];omega) (.const _) rfl T4 rfl) ?_;refine gD ?_;refine ga aO ?_;exact aP J1 (i+1) hin (hw:=Wk.of a8 (.k (.cons rfl (BlkSub.of (by rw[uU,hmt])) (.k (.k (.k .nil))))))
 have hin:=bi hi t43;have hall:bA (List.replicate l.bo.length false) ((l.dv.map Dr.body).take i)=bY l:=by rw[hin];unfold bY;rw[Xb (by rw[WW];omega)]
 refine gW ((Wk.virt 900 4 rfl).trans<|Wk.of (sl:=[(1,some (.ptr 1 0)),(5,some (.ptr 33 0))]) (hp:=[(33,some (oW l 0)),(23,some (.vec (bv (cG l.bo.length 0)))),(27,some (.vec (bv (bY l)))),(31,some (.vec (bv (List.replicate l.jo.length false)))),(900,some (.row 4 []))]) a8 (.cons rfl (BlkSub.bL (.cons (.refl _) (.cons (.refl _) (.cons (.refl _) (.cons (.refl _) (.cons (.refl _) (.cons (.refl _) (.cons (.refl _) (.cons (Sub.nM _ _ _) .nil)))))))) rfl) (.k (.cons rfl (BlkSub.of (by rw[hall])) (.k (.k .nil)))))) ?_
 refine gt (aE (Fn l hl hli (cG l.bo.length 0) (List.replicate l.jo.length false) (gV _ _) Xt hm []) (cC rfl) (fun k z h=>h) rfl rfl) ?_;refine gw [5,8] [] (fun(kw:List Bool)(out:List Gr)=>[(9,some (bl (nextG l kw).isSome))]) (fun kw out=>[(8,some (.box ((nextG l kw).getD default).av.cells)),(33,some (oW l out.length)),(23,some (.vec (bv kw))),(27,some (.vec (bv (bY l)))),(31,some (.vec (bv (jF l out)))),(900,some (.row 4 (out.map Gr.av)))]) (fun kw out=>kw.length=l.bo.length/\findFrom l (dQ kw) kw out=(bU l,findG l)) (fun kw _=>dQ kw) (cG l.bo.length 0) ([]) ⟨gV _ _,Ph hli⟩ ?_
 rintro kw out ⟨hk,hf⟩ K2 J2;refine gC (fun t59=>?_) (fun t59=>?_) (st1:=(77777,0)) (st2:=(27,0))
 ·obtain ⟨g, hg⟩:=x9 t59;have hgo:=xj hli hg;have hout:=Oz hli hk hf;refine gW (Wk.of (sl:=[(5,some (.ptr 33 0)),(8,some (.ptr 8 0))]) (hp:=[(8,some (.box g.av.cells)),(33,some (oW l out.length)),(23,some (.vec (bv kw))),(27,some (.vec (bv (bY l)))),(31,some (.vec (bv (jF l out)))),(900,some (.row 4 (out.map Gr.av)))]) a8 (.cons rfl (BlkSub.of (by rw [hg]; rfl)) (.k (.k (.k (.k (.k .nil))))))) ?_;refine gl ?_;refine aZ [5,8,66,67] [8,33,27,31,900] (fun (j:Nat)=>[(68,some (i64 j))]) (fun j=>[(23,some (.vec (bv (bA kw (g.bo.take j)))))]) (fun j=>j <= g.bo.length) (fun j=>g.bo.length - j) 0 (W7 _) ?_;rintro j hj K3 J3;refine gC (fun t69=>?_) (fun t69=>?_)
  ·have hin:=a6 t69;obtain⟨b,hb⟩:=ax hin;have hbb:=hgo.b b (WU hb);have hlb:=hgo.lb;refine gi (aI hb) ?_;refine gs (b8 (n:=b.toNat) (.tmp rfl) (.tmp rfl) T219 rfl T4 rfl oz oz rfl) ?_;refine gs (v9 (.tmp rfl) rfl (by rw[gj,ja];omega) (.const _) rfl T4 rfl) ?_;refine ga aO ?_;exact aP J3 (j+1) hin (hw:=Wk.of a8 (.cons rfl (BlkSub.of (by rw[uU,z6 hb])) (.k (.k (.k (.k (.k .nil)))))))
  have hin:=bi hj t69;subst hin;refine gl ?_;refine aZ [5,8,80,81] [8,33,27,900] (fun(q:Nat)=>[(82,some (i64 q))]) (fun q=>[(23,some (.vec (bv (bA kw g.bo)))),(31,some (.vec (bv (bA (jF l out) (g.jo.take q)))))]) (fun q=>q<=g.jo.length) (fun q=>g.jo.length-q) 0 (W7 _) ?_ (h2:=(.cons rfl (BlkSub.of (by rw[Xg])) (.k .nil)));rintro q hq K4 J4;refine gC (fun t83=>?_) (fun t83=>?_)
  ·have hin:=a6 t83;obtain⟨b,hb⟩:=ax hin;have hbb:=hgo.j b (WU hb);have hlj:=hgo.lj;refine gi (aI hb) ?_;refine gs (b8 (n:=b.toNat) (.tmp rfl) (.tmp rfl) T219 rfl T4 rfl oz oz rfl) ?_;refine gs (v9 (.tmp rfl) rfl (by rw[gj,ja,AW];omega) (.const _) rfl T4 rfl) ?_;refine ga aO ?_;exact aP J4 (q+1) hin (hw:=Wk.of a8 (.k (.cons rfl (BlkSub.of (by rw[uU,z6 hb])) (.k (.k (.k (.k .nil)))))))
  have hin:=bi hq t83;subst hin;refine gs (cO (.tmp rfl) rfl (by rw[WW]) (.tmp rfl) T32 rfl T53 rfl rfl (by simp only[W9,Xi];omega) rfl rfl) ?_;refine gD ?_ (25,0);refine gW (Wk.of (sl:=[(5,some (.ptr 33 0)),(8,some (.ptr 8 0))]) (hp:=[(8,some (.box g.av.cells)),(33,some (.box (l.av.cells++[.ms 23 1 0 l.bo.length,.ms 27 1 0 l.bo.length,.ms 31 1 0 l.jo.length,.ms 100 4 0 (out++[g]).length]))),(100,some (.row 4 ((out++[g]).map Gr.av))),(23,some (.vec (bv (bA kw g.bo)))),(27,some (.vec (bv (bY l)))),(31,some (.vec (bv (jF l (out++[g])))))]) a8 (.k (.cons rfl (BlkSub.of (by rw[Xo];rfl)) (.cons rfl (BlkSub.of (by rw[Xl];rfl)) (.k (.k (.cons rfl (BlkSub.of (by rw[MF,Xg])) .nil))))))) ?_ (25,0)
  refine gW (Wk.rk (k:=100) (d:=900) rfl rfl) ?_ (26,0);refine gW (Wk.o (sl:=[(5,some (.ptr 33 0)),(103,some (g.av))]) (hp:=[(33,some (oW l (out++[g]).length)),(23,some (.vec (bv (bA kw g.bo)))),(27,some (.vec (bv (bY l)))),(31,some (.vec (bv (jF l (out++[g]))))),(900,some (.row 4 ((out++[g]).map Gr.av)))])) ?_;refine gt (aE (Fn l hl hli (bA kw g.bo) (jF l (out++[g])) (by rw[ja];exact hk) (AW _ _) hm (out++[g])) (cC rfl) (by intro k z h;simp only[ns,aT]at h;split at h;(subst_vars;exact h);split at h;(subst_vars;exact h);split at h;(subst_vars;exact h);split at h;(subst_vars;exact h);split at h;(subst_vars;exact h);cases h) rfl rfl) ?_;exact f9 J2 (bA kw g.bo) (out++[g]) ⟨by rw[ja];exact hk,NU hli hk hf hg⟩ (rK hli hk hg)
 have hg:=Bg t59;obtain⟨e1,e2⟩:=Q4 hf hg;subst e1 e2;refine gW (Wk.o (sl:=[(5,some (.ptr 33 0))]) (hp:=[(33,some (oW l (findG l).length)),(23,some (.vec (bv (bU l)))),(27,some (.vec (bv (bY l)))),(31,some (.vec (bv (jF l (findG l))))),(900,some (.row 4 ((findG l).map Gr.av)))])) ?_ (27,0);refine gW (Uw l (bU l) (jF l (findG l)) (findG l) hk (AW _ _) hm) ?_;refine br ?_;unfold q5;rw[XK hli,hli];rfl
theorem FD{α:Type}[BEq α][LawfulBEq α]{xs:List α}{b:α}{ok:Nat->Bool}(h:∀i x,xs[i]?=some x->ok i=!(b==x)):decide (0<=jc (cB xs.length ok))=xs.contains b:=by
 cases hf:cB xs.length ok with
 |some i =>
  obtain⟨h1,h2⟩:=e8 hf;obtain⟨x,hx⟩:=ax h1;rw[h i x hx]at h2;have:b=x:=by simpa using h2
  subst this;rw[List.contains_iff_mem.2 (WU hx)];exact decide_eq_true (by show(0:Int)<=(i:Int);omega)
 |none =>
  rw[decide_eq_false (by show ¬(0:Int) <= -1;decide)]
  symm
  rw[<- Bool.not_eq_true,List.contains_iff_mem];intro hm;obtain⟨i,hi⟩:=List.mem_iff_getElem?.1 hm;have hlt:=(List.getElem?_eq_some_iff.1 hi).1;unfold cB at hf;rw[List.find?_eq_none]at hf;have:=hf i (List.mem_range.2 hlt);rw[h i b hi]at this;simp at this
theorem RV(xs:List Bool)(b:Bool)(hl:xs.length<=281474976710656):FP 340 [.lst 1 (xs.map bl),bl b] (i64 (jc (cB xs.length (fun i=>!(b==xs.getD i false))))):=by
 refine aj func340 ?_;refine gl ?_;refine aZ [0,1,7] [] (fun(i:Nat)=>[(8,some (i64 i))]) (fun _=>[]) (fun i=>i<=xs.length/\∀j,j<i->(!(b==xs.getD j false))=true) (fun i=>xs.length-i) 0 ⟨W7 _,fun j h=>by omega⟩ ?_;rintro i ⟨hi,hj⟩ K1 J1;refine gC (fun t9=>?_) (fun t9=>?_)
 ·have hin:=a6 t9;obtain⟨x,hx⟩:=ax hin;have hg:xs.getD i false=x:=au hx;refine gi (aI hx) ?_;refine gC (fun t16=>?_) (fun t16=>?_)
  ·have h2:(b==x)=true:=t16;refine af ?_;rw[gx hin hj (by rw[hg,h2];rfl)];rfl
  have h2:(b==x)=false:=t16;refine ga aO ?_;exact aP J1 (i+1) ⟨hin,fun j h9=>by rcases W3 j i with g |g;exact hj j g;(have:j=i:=by omega);subst this;rw[hg,h2];rfl⟩
 have hin:=bi hi t9;subst hin;refine af ?_;rw[fO hj];rfl
theorem FX(xs:List Bool)(b:Bool)(hl:xs.length<=281474976710656):FP 251 [.lst 1 (xs.map bl),bl b] (bl (xs.contains b)):=by
 refine aj func251 ?_;refine gc (RV xs b hl) ?_;refine af ?_;rw[<- FD (xs:=xs) (b:=b) (ok:=fun i=>!(b==xs.getD i false)) (fun i x hx=>by rw[au hx])];rfl
theorem Kb(xs:List Int)(b:Int)(hl:xs.length<=281474976710656):FP 341 [.lst 1 (xs.map i64),i64 b] (i64 (jc (cB xs.length (fun i=>!(b==xs.getD i 0))))):=by
 refine aj func341 ?_;refine gl ?_;refine aZ [0,1,7] [] (fun(i:Nat)=>[(8,some (i64 i))]) (fun _=>[]) (fun i=>i<=xs.length/\∀j,j<i->(!(b==xs.getD j 0))=true) (fun i=>xs.length-i) 0 ⟨W7 _,fun j h=>by omega⟩ ?_;rintro i ⟨hi,hj⟩ K1 J1;refine gC (fun t9=>?_) (fun t9=>?_)
 ·have hin:=a6 t9;obtain⟨x,hx⟩:=ax hin;have hg:xs.getD i 0=x:=au hx;refine gi (aI hx) ?_;refine gC (fun t16=>?_) (fun t16=>?_)
  ·have h2:(b==x)=true:=t16;refine af ?_;rw[gx hin hj (by rw[hg,h2];rfl)];rfl
  have h2:(b==x)=false:=t16;refine ga aO ?_;exact aP J1 (i+1) ⟨hin,fun j h9=>by rcases W3 j i with g |g;exact hj j g;(have:j=i:=by omega);subst this;rw[hg,h2];rfl⟩
 have hin:=bi hi t9;subst hin;refine af ?_;rw[fO hj];rfl
theorem G7(xs:List Int)(b:Int)(hl:xs.length<=281474976710656):FP 253 [.lst 1 (xs.map i64),i64 b] (bl (xs.contains b)):=by
 refine aj func253 ?_;refine gc (Kb xs b hl) ?_;refine af ?_;rw[<- FD (xs:=xs) (b:=b) (ok:=fun i=>!(b==xs.getD i 0)) (fun i x hx=>by rw[au hx])];rfl
theorem xM(l:Li)(hl:l.ok):FP 143 [l.av] (.tup [.lst 4 (((if aG l=0 then splitG l else[])).map Gr.av),bq (if aG l=0 then splitE l else aG l)]):=by
 refine aj func143 ?_;refine gc (TU l hl) (hnm:=(by unfold q5;split <;> rfl)) ?_;refine gC (fun t12=>?_) (fun t12=>?_) (st2:=(77777,0))
 ·have h1:=dl t12;refine gR ?_;exact dZ (by rw[XJ h1,XJ h1];exact Sub.tup (.cons (.nil _ _ _) (.cons (.refl _) .nil)))
 have hli:=cZ t12;have h8:=(cU hli).2.2.2.1;have hj16:l.jo.length<=16:=by have:=(cU hli).2.1;unfold eT at this;split at this;cases this;omega
 have lk1:(bU l).length=l.bo.length:=by unfold bU;rw[pC,gV]
 have lk2:(dU l).length=l.jo.length:=by unfold dU;rw[pC,Xt]
 have e1:q5 l=.iptr (dM l (bU l) (bY l) [.lst 1 ((dU l).map bl),.lst 4 ((findG l).map Gr.av)]):=by unfold q5;rw[XK hli]
 have c1:=xk (k:=bU l);have c2:=xk (k:=dU l);refine gW (Wk.of (sl:=[(4,some (.iptr (dM l (bU l) (bY l) [.lst 1 ((dU l).map bl),.lst 4 ((findG l).map Gr.av)]))),(5,some (bq (aG l)))]) (hp:=[]) (.cons rfl (Sub.of e1) (.k .nil)) .nil) ?_;refine gc (FX (bU l) false oz) ?_;refine b9 (fun _=>(FX (dU l) false oz)) ?_;refine gC (fun t25=>?_) (fun t25=>?_)
 ·have h2:splitE l=7:=by
   unfold splitE;rw[XJ];intro h;have h3:(bU l).contains false=false:=c1.1 oz;have h4:(dU l).contains false=false:=c2.1 oz;rw[h3,h4]at t25;cases t25
  refine gR ?_;exact dZ (by rw[XK hli,XK hli];unfold splitG;rw[XJ (by rw[h2];simp),h2];exact Sub.tup (.cons (.nil _ _ _) (.cons (.refl _) .nil)))
 have h2:splitE l=0:=by
  unfold splitE;rw[XK];cases h3:(bU l).contains false <;> cases h4:(dU l).contains false <;> rw[h3,h4]at t25 <;> first |(cases t25;done) |(have g1:=c1.2 h3;have g2:=c2.2 h4;omega)
 refine br ?_;rw[XK hli,XK hli,h2];unfold splitG;rw[XK h2];rfl
def SO(ys:List Int)(i:Nat):Prop:=∀p q,p<q->q<i->ys.getD p 0<=ys.getD q 0
def SI(ys:List Int)(i j:Nat):Prop:=∀p q,p<q->q<=i->q≠j->ys.getD p 0<=ys.getD q 0
theorem OO{xs ys:List Int}{i:Nat}(hp:ys.Perm xs)(hi:ys.length<=i)(h:SO ys i):ys=eM xs:=by
 refine Oc hp (List.pairwise_iff_getElem.2 fun p q hp hq hpq=>?_);have h1:=h p q hpq oz;rw[au (WY hp),au (WY hq)]at h1;exact h1
theorem Q5{ys:List Int}{i:Nat}(h:SO ys i):SI ys i i:=fun p q h1 h2 h3=>h p q h1 oz
theorem RC{ys:List Int}{i j:Nat}(h:SI ys i j)(hj:j=0\/ys.getD (j-1) 0<=ys.getD j 0):SO ys (i+1):=by
 intro p q h1 h2
 by_cases hq:q=j
 ·subst hq;rcases hj with hj |hj
  ·omega
  ·by_cases hp:p=q-1
   ·subst hp;exact hj
   ·exact Int.le_trans (h p (q-1) oz oz oz) hj
 ·exact h p q h1 oz hq
theorem Jm(ys:List Int)(i:Nat)(x:Int)(p:Nat)(hi:i<ys.length):(ys.set i x).getD p 0=if p=i then x else ys.getD p 0:=by
 rw[WV,WV,List.getElem?_set]
 by_cases h:i=p
 ·subst h;simp[hi]
 ·rw[XJ h,XJ (fun e=>h e.symm)]
theorem WR{ys:List Int}{i j:Nat}(h:SI ys i j)(hj:0<j)(hi:j<=i)(hl:i<ys.length)(hlt:ys.getD j 0<ys.getD (j-1) 0):SI ((ys.set j (ys.getD (j-1) 0)).set (j-1) (ys.getD j 0)) i (j-1):=by
 intro p q h1 h2 h3
 have e:∀r,((ys.set j (ys.getD (j-1) 0)).set (j-1) (ys.getD j 0)).getD r 0=if r=j-1 then ys.getD j 0 else if r=j then ys.getD (j-1) 0 else ys.getD r 0:=fun r=>by
  rw[Jm _ _ _ _ (by rw[XI];omega),Jm _ _ _ _ oz]
 rw[e,e,XJ h3]
 by_cases hq:q=j
 ·rw[XK hq]
  by_cases hp:p=j-1
  ·rw[XK hp];omega
  ·rw[XJ hp,XJ oz];exact h p (j-1) oz oz oz
 ·rw[XJ hq]
  by_cases hp:p=j-1
  ·rw[XK hp];exact h j q oz h2 hq
  ·rw[XJ hp]
   by_cases hp2:p=j
   ·rw[XK hp2];exact h (j-1) q oz h2 hq
   ·rw[XJ hp2];exact h p q h1 h2 hq
theorem VE{ys:List Int}{j:Nat}{a b:Int}(ha:ys[j]?=some a)(hb:ys[j-1]?=some b):((ys.set j b).set (j-1) a).Perm ys:=by
 obtain⟨h1,rfl⟩:=List.getElem?_eq_some_iff.1 ha;obtain⟨h2,rfl⟩:=List.getElem?_eq_some_iff.1 hb;exact List.set_set_perm h1 h2
theorem PL{j:Nat}{a b:Int}(h:cond (aa .gtr (j:Int) 0) (decide (a<b)) false=true):0<j/\a<b:=by
 cases h1:aa .gtr (j:Int) 0 <;> rw[h1]at h
 ·cases h
 ·exact⟨jl (b:=0) h1,of_decide_eq_true h⟩
theorem OF{j:Nat}{a b:Int}(h:cond (aa .gtr (j:Int) 0) (decide (a<b)) false=false):j=0\/b<=a:=by
 cases h1:aa .gtr (j:Int) 0 <;> rw[h1]at h
 ·have:=g9 (b:=0) h1;omega
 ·have h2:decide (a<b)=false:=h;have:=of_decide_eq_false h2;omega
theorem NF(ys:List Int)(j:Nat)(a b:Int):((ys.map i64).set j (i64 b)).set (j-1) (i64 a)=((ys.set j b).set (j-1) a).map i64:=by rw[XF,XF]
theorem CL(a:Int):FP 384 [i64 a] (bl false):=by
 refine aj func384 ?_;refine af ?_;simp[aa];rfl
theorem TA(a b:Int):FP 348 [i64 a,i64 b] (bl (decide (a<b))):=by
 refine aj func348 ?_;refine gc (CL a) ?_;refine b9 (fun _=>(CL b)) ?_;refine af ?_
 first |rfl |(simp;done)
theorem Ou(xs:List Int)(hl:xs.length<=12):Con prog 342 [.ms 1000 1 0 xs.length,i64 0,i64 xs.length] [(1000,some (.row 1 (xs.map i64)))] (.tup []) [(1000,some (.row 1 ((eM xs).map i64)))]:=by
 refine gF func342 (fun k z h=>bG h) ?_;refine ga (show _=((1:Nat):Int)from rfl) ?_;refine gw [1,2] [] (fun(ys:List Int)(i:Nat)=>[(0,some (.ms 1000 1 0 xs.length)),(6,some (i64 i))]) (fun ys _=>[(1000,some (.row 1 (ys.map i64)))]) (fun ys i=>ys.length=xs.length/\ys.Perm xs/\1<=i/\SO ys i) (fun _ i=>xs.length+1-i) xs 1 ⟨rfl,.refl _,WZ _,fun p q h1 h2=>by omega⟩ ?_;rintro ys i ⟨hyl,hyp,hi1,hso⟩ K1 J1;refine gC (fun t12=>?_) (fun t12=>?_)
 ·have hin:=a6 t12;refine gw [1,2,6] [] (fun (zs:List Int) (j:Nat)=>[(0,some (.ms 1000 1 0 xs.length)),(7,some (i64 j))]) (fun zs _=>[(1000,some (.row 1 (zs.map i64)))]) (fun zs j=>zs.length = xs.length /\ zs.Perm xs /\ j <= i /\ SI zs i j) (fun _ j=>j) ys i ⟨hyl,hyp,WZ _,Q5 hso⟩ ?_;rintro zs j ⟨hzl,hzp,hji,hsi⟩ K2 J2;obtain ⟨a,ha⟩:=ax (show j < zs.length by omega);obtain ⟨b,hb⟩:=ax (show j - 1 < zs.length by omega);refine gs (fw rfl rfl rfl (fun h=>b8 (n:=j) (.opt rfl (o1 h)) (.opt rfl (o1 h)) T39 rfl T3 rfl oz oz rfl)) ?_;refine gs (fw rfl rfl rfl (fun h=>en (.opt rfl (o1 h)) rfl (aI ha) T3 rfl rfl rfl)) ?_;refine oN (fun h=>(i9 (jl (b:=0) h) (by unfold a7; omega))) ?_;refine gs (fw rfl rfl rfl (fun h=>b8 (n:=(j - 1)) (.opt rfl (o1 h)) (.opt rfl (o1 h)) T39 rfl T3 rfl oz oz rfl)) ?_;refine gs (fw rfl rfl rfl (fun h=>en (.opt rfl (o1 h)) rfl (aI hb) T3 rfl rfl rfl)) ?_;refine b9 (fun _=>(TA a b)) ?_;refine gD ?_;refine gC (fun t30=>?_) (fun t30=>?_)
  ·obtain⟨hj0,hab⟩:=PL t30;refine ga (i9 hj0 (by unfold a7;omega)) ?_;refine ga (i9 hj0 (by unfold a7;omega)) ?_;refine gs (b8 (n:=(j-1)) (.tmp rfl) (.tmp rfl) T39 rfl T3 rfl oz oz rfl) ?_;refine gs (en (.tmp rfl) rfl (aI hb) T3 rfl rfl rfl) ?_;refine gs (b8 (n:=j) (.tmp rfl) (.tmp rfl) T39 rfl T3 rfl oz oz rfl) ?_;refine gs (en (.tmp rfl) rfl (aI ha) T3 rfl rfl rfl) ?_;refine gs (b8 (n:=j) (.tmp rfl) (.tmp rfl) T39 rfl T3 rfl oz oz rfl) ?_;refine gs (dP (.tmp rfl) rfl (aI ha) rfl (.tmp rfl) rfl rfl T3 rfl rfl) ?_;refine gs (b8 (n:=(j-1)) (.tmp rfl) (.tmp rfl) T39 rfl T3 rfl oz oz rfl) ?_;refine gs (dP (.tmp rfl) rfl ((List.getElem?_set_ne oz).trans (aI hb)) rfl (.tmp rfl) rfl rfl T3 rfl rfl) ?_;refine gD ?_;refine ga (i9 hj0 (by unfold a7;omega)) ?_;exact f9 J2 ((zs.set j b).set (j-1) a) (j-1) ⟨by rw[XI,XI];exact hzl,(VE ha hb).trans hzp,by omega,by have h9:=WR hsi hj0 hji oz (by rw[au ha,au hb];exact hab);rw[au ha,au hb]at h9;exact h9⟩ (hw:=Wk.of a8 (.cons rfl (BlkSub.of (congrArg (Blk.row 1) (NF zs j a b))) .nil))
  have hs:=OF t30;refine ga aO ?_;exact f9 J1 zs (i+1) ⟨hzl,hzp,by omega,RC hsi (by rw[au ha,au hb];exact hs)⟩
 have hin:=sK t12;refine gR ?_;exact az.own2 rfl (by rw[<- OO hyp oz hso]) rfl
theorem RK(xs:List Int)(hl:xs.length<=12)(m:Int):Con prog 254 [.ms 1000 1 0 xs.length,i64 0,i64 xs.length,i64 m] [(1000,some (.row 1 (xs.map i64)))] (.tup []) [(1000,some (.row 1 ((eM xs).map i64)))]:=by
 refine gF func254 (fun k z h=>bG h) ?_;refine L3 [1,2,3,8,9] [1000] [(0,some (.ms 1000 1 0 xs.length))] [] (True) (0) trivial ?_;rintro-K1 J1;refine ga (ee oz) ?_;refine gC (fun t23=>?_) (fun t23=>?_) (st2:=(77777,0))
 ·refine gt (aE (Ou xs hl) (aJ rfl rfl rfl) aH rfl rfl) ?_;refine gR ?_;exact az.own2 rfl rfl rfl
 (rw[show aa .leq ((xs.length:Int)-0) 12=true from decide_eq_true oz]at t23;cases t23)
theorem KP(x:Nat)(hx:x<256):FP 352 [u64 x] (i64 (bb x)):=by
 refine aj func352 ?_;refine gC (fun t4=>?_) (fun t4=>?_) (st1:=(2,0))
 ·(have:=t4;simp[aa]at this;omega)
 refine gC (fun t8=>?_) (fun t8=>?_) (st1:=(5,0))
 ·(have:=t8;simp[aa]at this;omega)
 refine gC (fun t14=>?_) (fun t14=>?_) (st1:=(8,0))
 ·(have:=t14;simp[aa]at this;omega)
 refine gv (jd hx) ?_;refine gs (tx (y:=x) (.const _) (.tmp rfl) T9 rfl (by kernel_rfl) (by first |rfl |omega) oz rfl) ?_;refine gv (i64_in (by have:=iz hx;omega)) ?_;refine ga (dt (by have:=iz hx;omega)) ?_;refine af ?_;simp only[i64];congr 2;omega
theorem Si(x:Nat)(hx:x<256):FP 255 [u64 x] (i64 (bb x)):=by
 refine aj func255 ?_;refine gC (fun hcfalse=>?_) (fun hcfalse=>?_) (st1:=(1,0));cases hcfalse;refine gc (KP x hx) ?_;refine af ?_
 first |rfl |(simp;done)
theorem Lc(xs:List Int)(hl:xs.length<=12):Con prog 146 [.ms 1000 1 0 xs.length] [(1000,some (.row 1 (xs.map i64)))] (.tup []) [(1000,some (.row 1 ((eM xs).map i64)))]:=by
 refine gF func146 (fun k z h=>bG h) ?_;refine gv (show IntKind.u64.wrap _=((xs.length:Nat):Int)from u64_in oz) ?_;refine gc (Si xs.length oz) ?_;refine gt (aE (RK xs hl _) (.cons (.tmp rfl) (.cons (.const _) (bD rfl rfl))) aH rfl rfl) ?_;refine gR ?_;exact az.own2 rfl rfl rfl
theorem RO{l:Li}{g:Gr}{i:Nat}{z:Int}{j:Jt}(hz:g.jo[i]?=some z)(hj:l.jo[z.toNat]?=some j):(fJ l g)[i]?=some (iw g j):=by
 unfold fJ;rw[W0,hz,Option.map_some,au hj]
theorem AD{l:Li}{g:Gr}{i:Nat}{z:Int}{j:Jt}{a:Int}(hz:g.jo[i]?=some z)(hj:l.jo[z.toNat]?=some j)(ha:iw g j=a):((fJ l g).take i).map i64++[i64 a]=((fJ l g).take (i+1)).map i64:=by
 rw[eA (RO hz hj),ha,Xl];rfl
theorem ST{z:Int}{n:Nat}(h0:0<=z)(h1:z<n):cond (aa .lss z 0) true (aa .geq z (n:Int))=false:=by
 rw[show aa .lss z 0=false from decide_eq_false oz];exact decide_eq_false oz
theorem PZ(l:Li)(hl:l.ok)(hli:aG l=0)(g:Gr)(hg:GrOk l g):Con prog 145 [l.av,g.av] [] (.tup [.ms 900 1 0 g.jo.length,.v .nilIface]) [(900,some (.row 1 ((fJ l g).map i64)))]:=by
 have hlb:=hg.lb;have hlj:=hg.lj;refine gF func145 (fun k z h=>by cases h) ?_;refine gc (AN l hl) ?_;refine gC (fun t16=>?_) (fun t16=>?_) (st1:=(3,0))
 ·(rw[hli]at t16;cases t16)
 refine gl ?_;refine gW ((Wk.virt 900 1 rfl).trans<|Wk.of (sl:=[(2,some (.ptr 2 0)),(3,some (.ptr 3 0)),(7,some (.ms 900 1 0 0)),(19,some (.lst 1 (g.jo.map i64))),(20,some (i64 g.jo.length)),(21,some (i64 0))]) (hp:=[(2,some (.box l.av.cells)),(3,some (.box g.av.cells)),(900,some (.row 1 []))]) (.k (.k (.cons rfl (Sub.nM _ _ _) (.k (.k (.k .nil)))))) (.k (.k (.k .nil)))) ?_;refine aZ [2,3,19,20] [2,3] (fun(i:Nat)=>[(7,some (.ms 900 1 0 i)),(21,some (i64 i))]) (fun i=>[(900,some (.row 1 (((fJ l g).take i).map i64)))]) (fun i=>i<=g.jo.length) (fun i=>g.jo.length-i) 0 (W7 _) ?_;rintro i hi K1 J1;refine gC (fun t22=>?_) (fun t22=>?_) (st2:=(18,0))
 ·have hin:=a6 t22;obtain ⟨z,hz⟩:=ax hin;obtain ⟨z0,z1⟩:=hg.j z (WU hz);obtain ⟨j,hj⟩:∃ j,l.jo[z.toNat]? = some j:=ax oz;have hlt:(((fJ l g).take i).map i64).length = i:=by rw [WW,Xh,q6]; omega
  refine gi (aI hz) ?_;refine cD ?_;refine gC (fun t33=>?_) (fun t33=>?_) (st1:=(9,0))
  ·(rw[ST z0 z1]at t33;cases t33)
  refine gi (f0 (n:=z.toNat) oz hj) ?_;refine gc (G7 g.bo j.a oz) ?_;refine gc (G7 g.bo j.b oz) ?_;refine gD ?_;refine gC (fun t55=>?_) (fun t55=>?_)
  ·have ha : iw g j = -1 := by unfold iw; cases h1 : g.bo.contains j.a <;> cases h2 : g.bo.contains j.b <;> rw [h1, h2] at t55 <;> first | (cases t55; done) | rfl
   refine gs (cO (.tmp rfl) rfl hlt.symm (.tmp rfl) T39 rfl T3 rfl rfl (by simp only[W9,Xi];omega) rfl rfl) ?_ (17,0);refine gW (Wk.of (sl:=[(2,some (.ptr 2 0)),(3,some (.ptr 3 0)),(7,some (.ms 62 1 0 (i+1))),(19,some (.lst 1 (g.jo.map i64))),(20,some (i64 g.jo.length)),(21,some (i64 i))]) (hp:=[(2,some (.box l.av.cells)),(3,some (.box g.av.cells)),(62,some (.row 1 (((fJ l g).take (i+1)).map i64)))]) a8 (.k (.k (.cons rfl (BlkSub.of (congrArg (Blk.row 1) (AD hz hj ha))) .nil)))) ?_ (17,0);refine gW (Wk.rk (k:=62) (d:=900) rfl rfl) ?_;refine ga aO ?_;exact aP J1 (i+1) hin
  refine gC (fun t63=>?_) (fun t63=>?_)
  ·have ha : iw g j = j.b := by unfold iw; cases h1 : g.bo.contains j.a <;> cases h2 : g.bo.contains j.b <;> rw [h1] at t63 <;> rw [h1, h2] at t55 <;> first | (cases t55; done) | (cases t63; done) | rfl
   refine gs (cO (.tmp rfl) rfl hlt.symm (.tmp rfl) T39 rfl T3 rfl rfl (by simp only[W9,Xi];omega) rfl rfl) ?_ (17,0);refine gW (Wk.of (sl:=[(2,some (.ptr 2 0)),(3,some (.ptr 3 0)),(7,some (.ms 69 1 0 (i+1))),(19,some (.lst 1 (g.jo.map i64))),(20,some (i64 g.jo.length)),(21,some (i64 i))]) (hp:=[(2,some (.box l.av.cells)),(3,some (.box g.av.cells)),(69,some (.row 1 (((fJ l g).take (i+1)).map i64)))]) a8 (.k (.k (.cons rfl (BlkSub.of (congrArg (Blk.row 1) (AD hz hj ha))) .nil)))) ?_ (17,0);refine gW (Wk.rk (k:=69) (d:=900) rfl rfl) ?_;refine ga aO ?_;exact aP J1 (i+1) hin
  have ha:iw g j=j.a:=by unfold iw;rw[XJ (by rw[show g.bo.contains j.a=false from t63];simp)]
  refine gs (cO (.tmp rfl) rfl hlt.symm (.tmp rfl) T39 rfl T3 rfl rfl (by simp only[W9,Xi];omega) rfl rfl) ?_ (17,0);refine gW (Wk.of (sl:=[(2,some (.ptr 2 0)),(3,some (.ptr 3 0)),(7,some (.ms 54 1 0 (i+1))),(19,some (.lst 1 (g.jo.map i64))),(20,some (i64 g.jo.length)),(21,some (i64 i))]) (hp:=[(2,some (.box l.av.cells)),(3,some (.box g.av.cells)),(54,some (.row 1 (((fJ l g).take (i+1)).map i64)))]) a8 (.k (.k (.cons rfl (BlkSub.of (congrArg (Blk.row 1) (AD hz hj ha))) .nil)))) ?_ (17,0);refine gW (Wk.rk (k:=54) (d:=900) rfl rfl) ?_;refine ga aO ?_;exact aP J1 (i+1) hin
 have hin:=bi hi t22;subst hin;refine gW (Wk.of (sl:=[(7,some (.ms 900 1 0 g.jo.length))]) (hp:=[(900,some (.row 1 ((fJ l g).map i64)))]) a8 (.cons rfl (BlkSub.of (by rw[Xb (by rw[q6];exact WZ _)])) .nil)) ?_;refine gR ?_;exact az.keep (bm rfl)
section
variable{ts:LL}{u k:Nat}{a b a2 b2:List Rat}{x y x2 y2:Et ts}{w v w' v' w2 v2 w3 v3:Nat}
theorem z9(c:Ct ts u k)(h:w+v+(w'+v')<=10000):w*u+v*k+(w'*u+v'*k)+1<=lm ts.length:=by
 have h1:=HI c (w:=w+w') (v:=v+v') (m:=10000) oz;have h2:=jY ts.length;rw[wI];omega
theorem Dn(c:Ct ts u k){R:Nat}(h:eB R ts.length<=k):2*(2500*1000000+2500*1000000+kB R ts.length)<=lm ts.length:=by
 have h1:=c.kk h;have h2:=jY ts.length;omega
theorem N5 [c : Ct ts u k] [ha : Zl ts u k a x w v] [hb : Zl ts u k b y w' v'] (h : w + v + (w' + v') <= 10000 := by decide) : FP 356 [aV ts, nA a, nA b] (.tup [nA (sX (x + y)), .v .nilIface]) := by
 obtain⟨R,tw,hk⟩:=c.ex;have h0:=z9 c h;have h1:=BK tw ha.nm hb.nm oz;rw[ha.eq,hb.eq]at h1;exact h1
theorem Gi [c : Ct ts u k] [ha : Zl ts u k a x w v] [hb : Zl ts u k b y w' v'] (h : w + v + (w' + v') <= 10000 := by decide) : FP 176 [aV ts, nA a, nA b] (.tup [nA (sX (x - y)), .v .nilIface]) := by
 obtain⟨R,tw,hk⟩:=c.ex;have h0:=z9 c h;have h1:=o5 tw ha.nm hb.nm oz;rw[ha.eq,hb.eq]at h1;exact h1
theorem CX [c : Ct ts u k] [ha : Zl ts u k a x w v] [hb : Zl ts u k b y w' v'] (h : w + v + (w' + v') <= 10000 := by decide) : FP 127 [aV ts, nA a, nA b] (.tup [nA (sX (x * y)), .v .nilIface]) := by
 obtain⟨R,tw,hk⟩:=c.ex;have h0:=z9 c h;have h1:=wS tw ha.nm hb.nm oz;rw[ha.eq,hb.eq]at h1;exact h1
theorem Ni [c : Ct ts u k] [ha : Zl ts u k a x w v] [hb : Zl ts u k b y w' v'] [ha2 : Zl ts u k a2 x2 w2 v2] [hb2 : Zl ts u k b2 y2 w3 v3] (h : w + v + (w' + v') + (w2 + v2 + (w3 + v3)) <= 2500 := by decide) :
  FP 80 [aV ts,aM a b,aM a2 b2] (.tup [nA (sX (dotE x y x2 y2)),.v .nilIface]):=by
 obtain⟨R,tw,hk⟩:=c.ex;have h0:=Dn c hk;have h1:=tL (e:=2500*1000000) tw (ha.up c oz) (hb.up c oz) (ha2.up c oz) (hb2.up c oz) oz;rw[ha.eq,hb.eq,ha2.eq,hb2.eq]at h1;exact h1
def atXE(c s X:Et ts)(p q:Rat):Et ts:=(c*qE p-s*qE q)+X
def atYE(c s Y:Et ts)(p q:Rat):Et ts:=(s*qE p+c*qE q)+Y
instance Zu.atXE[c:Ct ts u k]{x y z:Et ts}{p q:Rat}{w1 v1 w2 v2 w3 v3 w4 w5:Nat}[Zu u k x w1 v1][Zu u k y w2 v2][Zu u k z w3 v3][Qz u p w4][Qz u q w5]:Zu u k (atXE x y z p q) (w1+w4+(w2+w5)+w3) (v1+0+1+(v2+0+1)+1+v3+1) :=
  (inferInstance:Zu u k ((x*Lw.qE p-y*Lw.qE q)+z) _ _)
instance Zu.atYE[c:Ct ts u k]{x y z:Et ts}{p q:Rat}{w1 v1 w2 v2 w3 v3 w4 w5:Nat}[Zu u k x w1 v1][Zu u k y w2 v2][Zu u k z w3 v3][Qz u p w4][Qz u q w5]:Zu u k (atYE x y z p q) (w2+w4+(w1+w5)+w3) (v2+0+1+(v1+0+1)+1+v3+1) :=
  (inferInstance:Zu u k ((y*Lw.qE p+x*Lw.qE q)+z) _ _)
end
end Go.Lw
