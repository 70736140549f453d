/- AssembleHolds: for any linkage and any turns the law returns true and leaves its arguments as they were. No other condition. Part 5 of 8: what the later parts need -/
import Derived.Test.YtlilpljpajeafaaGreatWd
set_option linter.unusedVariables false
open List (mem_of_getElem? mem_append map_cons mem_cons length_cons foldl_cons length_append length_nil getD_eq_getElem?_getD all_eq_true getElem?_map getElem?_replicate append_nil map_append length_take take_of_length_le drop_zero take_length not_mem_nil length_map mem_of_mem_take map_take all_append length_replicate map_replicate map_set length_set)
open Nat (eq_of_beq_eq_true le_refl lt_or_ge le_trans zero_le)
open Option (map_eq_some_iff)
open Bool (and_eq_true)
open Int (toNat_natCast)
open Go.Proofs.Tryz
namespace Go.Lw
open Go.Proofs
theorem oY(ts:LL)(m r:Nat)(ht:iz ts m r)(hm:m<=5)(hml:m<=ts.length)(k:Nat):∀(j:Nat)(a b:List Rat)(e f:Nat),j<=m->j<=k->Nl j a->Nl j b->Cb e a->Cb f b->e+f+eB r j<4398046511104 ->
  FP 273 [aI ts,nA a,nA b] (nA (pT ts k a b)):=by
 induction k using Nat.strongRecOn
 rename_i k ih;intro j a b e f hj hjk ha hb ca cb hs;have hla:=ha.len5 oz;have hlb:=hb.len5 oz;refine af func273 ?_;refine gl ?_;refine gl ?_;refine KC [3] [3] (fun(x y:List Rat)(e1 f1:Nat)=>[(1,some (nA x)),(2,some (nA y))]) (fun _ _ _ _=>[]) (fun x y e1 f1=>y.length<=x.length/\Nl j x/\Nl j y/\Cb e1 x/\Cb f1 y/\e1+f1=e+f/\pT ts k a b=pT ts k x y) ?_ ?_
 ·intro K1 J1;refine gC (fun t18=>?_) (fun t18=>?_)
  ·have h1 : a.length < b.length := by have := t18; simp only [aa, decide_eq_true_eq] at this; omega
   exact EQ J1 b a f e ⟨by omega,hb,ha,cb,ca,by omega,xY ts k a b h1⟩
  have h1:b.length<=a.length:=by have:=t18;simp only[aa,decide_eq_false_iff_not]at this;omega
  exact EQ J1 a b e f ⟨h1,ha,hb,ca,cb,rfl,rfl⟩
 rintro x y e1 f1 ⟨hyx,hx,hy,cx,cy,hef,hp⟩;have hlx:=hx.len5 oz;have hly:=hy.len5 oz;have qx:∀q∈x,Qs q:=fun q hq=>cx.qs oz hq
 have qy:∀q∈y,Qs q:=fun q hq=>cy.qs oz hq
 rw[hp];refine gc (Fa x qx oz) ?_;refine bI (fun _=>(Fa y qy oz)) ?_;refine gC (fun t21=>?_) (fun t21=>?_)
 ·have h1:bh x=true\/bh y=true:=by
   have:=t21;cases hz:bh x
   ·rw[hz]at this;exact .inr this
   ·exact .inl rfl
  refine gR ?_;exact iV (by rw[U6 hyx h1];exact Sub.nil _ _ _)
 have h1:¬(bh x=true\/bh y=true):=by
  have:=t21;cases hz:bh x
  ·rw[hz]at this;intro h;rcases h with h |h;cases h;(rw[show bh y=false from this]at h;cases h)
  ·rw[hz]at this;cases this
 refine gl ?_;refine gC (fun t28=>?_) (fun t28=>?_)
 ·have h2 : x.length = 1 := by have := t28; simp only [aa, beq_iff_eq] at this; omega
  obtain⟨p,rfl⟩:=List.length_eq_one_iff.1 h2;have h3:y≠[]:=fun h=>h1 (.inr (by rw[h];rfl))
  obtain⟨q,rfl⟩:∃q,y=[q]:=List.length_eq_one_iff.1 (by have:=List.length_pos_iff.2 h3;simp at hyx;omega);refine gi rfl ?_;refine gi rfl ?_;refine gc (De (rt p) (rt q) (qx p (by simp)).ok (qy q (by simp)).ok) ?_;refine gD ?_;refine ae ?_;rw[NN h1,bA,bA];rfl
 have h2:x.length≠1:=by have:=t28;simp only[aa,beq_eq_false_iff_ne,ne_eq]at this;omega
 have h3:x≠[]:=fun h=>h1 (.inl (by rw[h];rfl))
 obtain⟨i,hij,hxl⟩:∃i,i+1<=j/\x.length=2^(i+1):=by
  rcases nN hx with h |h |h
  ·exact absurd (List.length_eq_zero_iff.1 h) h3
  ·exact absurd h h2
  ·exact h
 obtain⟨k',rfl⟩:∃k',k=k'+1:=⟨k-1,by omega⟩
 have hp2:=Nat.two_pow_pos i;have hpi:2^i<=32:=b8 (b:=5) oz;have hps:2^(i+1)=2*2^i:=by rw[Nat.pow_succ];omega
 have hes:eB r (i+1)<=eB r j:=g9 r hij;have hee:eB r (i+1)=2*eB r i+r+2:=rfl;have n1:Nl i (x.take (2^i)):=.inr ⟨i,le_refl _,fE hxl⟩;have n2:Nl i (x.drop (2^i)):=.inr ⟨i,le_refl _,fY hxl⟩;refine gl ?_;refine gs (eH (.tmp rfl) (.const _) oz (show _=((2^i:Nat):Int) by rw[fL oz,hxl,fh]) rfl) ?_;refine gs (cR (.tmp rfl) (.none _) (.some _ (.tmp rfl) oz) T67 rfl T45 rfl oz (by simp only[length_map];omega) rfl) ?_;refine gs (cR (.tmp rfl) (.some _ (.tmp rfl) oz) (.none _) T67 rfl T45 rfl (by simp only[length_map];omega) oz rfl) ?_;refine gD ?_ (9,0);refine gW (Wk.of (sl:=[(1,some (nA x)),(2,some (nA y)),(3,some (.ptr 3 0)),(7,some (i64 ((2^i:Nat):Int))),(8,some (nA (x.take (2^i)))),(9,some (nA (x.drop (2^i))))]) (hp:=[(3,some (.box [.lst 1 (ts.map nA)]))]) (.k (.k (.k (.k (.cons rfl (Sub.of (kO x (2^i))) (.cons rfl (Sub.of (lL x (2^i))) .nil)))))) (.k .nil)) ?_;refine gl ?_;refine gC (fun t52=>?_) (fun t52=>?_)
 ·have h4 : y.length <= 2 ^ i := by have := t52; simp only [aa, decide_eq_true_eq] at this; omega
  have n3:Nl i y:=Kp hy h4;have s1:=fQ ts m ht.1 i k' _ _ oz oz n1 n3;have s2:=fQ ts m ht.1 i k' _ _ oz oz n2 n3;refine gc (ih k' oz i _ _ e1 f1 oz oz n1 n3 cx.take cy oz) ?_;refine gc (ih k' oz i _ _ e1 f1 oz oz n2 n3 cx.drop cy oz) ?_;refine gc (zV _ _ (2^i) s1.1.le s2.1.le oz) ?_;refine gD ?_;refine ae ?_;rw[RL hxl h4 h1]
 have h4:¬y.length<=2^i:=by have:=t52;simp only[aa,decide_eq_false_iff_not]at this;omega
 have hyl:=K0 hy h4 oz;have n3:Nl i (y.take (2^i)):=.inr ⟨i,le_refl _,fE hyl⟩;have n4:Nl i (y.drop (2^i)):=.inr ⟨i,le_refl _,fY hyl⟩;have nd:=ht.1 i oz;have cd:=ht.2.cb i;have s1:=fQ ts m ht.1 i k' _ _ oz oz n1 n3;have s2:=fQ ts m ht.1 i k' _ _ oz oz n2 n4;have s3:=fQ ts m ht.1 i k' _ _ oz oz s2.1 nd;have s4:=fQ ts m ht.1 i k' _ _ oz oz n1 n4;have s5:=fQ ts m ht.1 i k' _ _ oz oz n2 n3;have c1:=Cb.mul ht (k:=k') (show i<=m by omega) oz n1 n3 cx.take cy.take;have c2:=Cb.mul ht (k:=k') (show i<=m by omega) oz n2 n4 cx.drop cy.drop;have c3:=Cb.mul ht (k:=k') (show i<=m by omega) oz s2.1 nd c2 cd;have c4:=Cb.mul ht (k:=k') (show i<=m by omega) oz n1 n4 cx.take cy.drop;have c5:=Cb.mul ht (k:=k') (show i<=m by omega) oz n2 n3 cx.drop cy.take;have hpT:=Qd (ts:=ts) (k:=k') hxl h4 hyx h1;refine gs (cR (.tmp rfl) (.none _) (.some _ (.tmp rfl) oz) T67 rfl T45 rfl oz (by simp only[length_map];omega) rfl) ?_;refine gs (cR (.tmp rfl) (.some _ (.tmp rfl) oz) (.none _) T67 rfl T45 rfl (by simp only[length_map];omega) oz rfl) ?_;refine gD ?_ (12,0);refine gW (Wk.of (sl:=[(1,some (nA x)),(3,some (.ptr 3 0)),(7,some (i64 ((2^i:Nat):Int))),(8,some (nA (x.take (2^i)))),(9,some (nA (x.drop (2^i)))),(10,some (nA (y.take (2^i)))),(11,some (nA (y.drop (2^i))))]) (hp:=[(3,some (.box [.lst 1 (ts.map nA)]))]) (.k (.k (.k (.k (.k (.cons rfl (Sub.of (kO y (2^i))) (.cons rfl (Sub.of (lL y (2^i))) .nil))))))) (.k .nil)) ?_;refine gc (r5 qA x oz) ?_;refine ga (show _=(i:Int) by rw[hxl,o6,dB oz];omega) ?_;refine gi (p5 (j:=i) oz) ?_;refine gD ?_;refine gc (ih k' oz i _ _ e1 f1 oz oz n1 n3 cx.take cy.take oz) ?_;refine gc (ih k' oz i _ _ e1 f1 oz oz n2 n4 cx.drop cy.drop oz) ?_;refine gc (ih k' oz i _ _ _ _ oz oz s2.1 nd c2 cd oz) ?_;refine gc (qL _ _ (fun q hq=>c1.qs oz hq) (fun q hq=>c3.qs oz hq) (by have:=s1.1.le;omega) (by have:=s3.1.le;omega)) ?_;refine gD ?_;refine gc (ih k' oz i _ _ e1 f1 oz oz n1 n4 cx.take cy.drop oz) ?_;refine gc (ih k' oz i _ _ e1 f1 oz oz n2 n3 cx.drop cy.take oz) ?_;refine gc (qL _ _ (fun q hq=>c4.qs oz hq) (fun q hq=>c5.qs oz hq) (by have:=s4.1.le;omega) (by have:=s5.1.le;omega)) ?_;refine gc (zV _ _ (2^i) (by have:=s1.1.le;have:=s3.1.le;rw[d9];omega) (by have:=s4.1.le;have:=s5.1.le;rw[d9];omega) oz) ?_;refine gD ?_;refine ae ?_;rw[hpT]
theorem yu(ts:LL)(m r:Nat)(ht:iz ts m r)(hm:m<=5)(hml:m<=ts.length)(i:Nat)(a:List Rat)(e:Nat)(hi:i+1<=m)(hal:a.length=2^(i+1))(ca:Cb e a)(hs:4*e+3*eB r i+r+1<4398046511104) :
  FP 327 [aI ts,nA a] (nA (ii ts i a)):=by
 have hp2:=Nat.two_pow_pos i;have hpi:2^i<=32:=b8 (b:=5) oz;have hps:2^(i+1)=2*2^i:=by rw[Nat.pow_succ];omega
 have n1:Nl i (a.take (2^i)):=.inr ⟨i,le_refl _,fE hal⟩;have n2:Nl i (a.drop (2^i)):=.inr ⟨i,le_refl _,fY hal⟩;have nd:=ht.1 i oz;have cd:=ht.2.cb i;have s1:=fQ ts m ht.1 i i _ _ oz oz n1 n1;have s2:=fQ ts m ht.1 i i _ _ oz oz n2 n2;have s3:=fQ ts m ht.1 i i _ _ oz oz s2.1 nd;have c1:=Cb.mul ht (k:=i) (show i<=m by omega) oz n1 n1 ca.take ca.take;have c2:=Cb.mul ht (k:=i) (show i<=m by omega) oz n2 n2 ca.drop ca.drop;have c3:=Cb.mul ht (k:=i) (show i<=m by omega) oz s2.1 nd c2 cd;refine af func327 ?_;refine gl ?_;refine gs (eH (.tmp rfl) (.const _) oz (show _=((2^i:Nat):Int) by rw[fL oz,hal,fh]) rfl) ?_;refine gs (cR (.tmp rfl) (.none _) (.some _ (.tmp rfl) oz) T67 rfl T45 rfl oz (by simp only[length_map];omega) rfl) ?_;refine gs (cR (.tmp rfl) (.some _ (.tmp rfl) oz) (.none _) T67 rfl T45 rfl (by simp only[length_map];omega) oz rfl) ?_;refine gD ?_ (3,0);refine gW (Wk.of (sl:=[(1,some (nA a)),(2,some (.ptr 2 0)),(6,some (nA (a.take (2^i)))),(7,some (nA (a.drop (2^i))))]) (hp:=[(2,some (.box [.lst 1 (ts.map nA)]))]) (.k (.k (.cons rfl (Sub.of (kO a (2^i))) (.cons rfl (Sub.of (lL a (2^i))) .nil)))) (.k .nil)) ?_;refine gc (oY ts m r ht hm hml i i _ _ e e oz oz n1 n1 ca.take ca.take oz) ?_;refine gc (oY ts m r ht hm hml i i _ _ e e oz oz n2 n2 ca.drop ca.drop oz) ?_;refine gc (r5 qA a oz) ?_;refine ga (show _=(i:Int) by rw[hal,o6,dB oz];omega) ?_;refine gi (p5 (j:=i) oz) ?_;refine gc (oY ts m r ht hm hml i i _ _ _ _ oz oz s2.1 nd c2 cd oz) ?_;refine gc (vK _ (fun q hq=>c3.qs oz hq) (by have:=s3.1.le;omega)) ?_;refine gc (qL _ _ (fun q hq=>c1.qs oz hq) (fun q hq=>c3.minus.qs oz hq) (by have:=s1.1.le;omega) (by have:=s3.1.le;rw[iy];omega)) ?_;refine gD ?_;refine ae ?_;rfl
theorem qe(ts:LL)(m r:Nat)(ht:iz ts m r)(hm:m<=5)(hml:m<=ts.length)(j:Nat):∀(a:List Rat)(e:Nat),j<=m->Nl j a->Cb e a->sB r j e<4398046511104 ->
  FP 228 [aI ts,nA a] (i64 (T.sgn (aj ts) j (ad j a))):=by
 induction j using Nat.strongRecOn
 rename_i j ih;intro a e hj ha ca hs;have hse:=oF r j e;have qa:∀q∈a,Qs q:=fun q hq=>ca.qs oz hq
 obtain⟨s,hsa⟩:∃s,s=sh j (ad j a):=⟨_,rfl⟩
 have hsd:ad j s=ad j a:=by rw[hsa,a6]
 have hsn:Nl j s:=by rw[hsa];exact eM j _
 have cs:Cb e s:=by rw[hsa];exact ca.sh ha
 have hls:=hsn.len5 oz;rw[<- hsd];refine af func228 ?_;refine gc (hsa▸lH a oz ha qa) ?_;refine gl ?_;refine gC (fun t12=>?_) (fun t12=>?_)
 ·have h1 : s=[] := List.length_eq_zero_iff.1 (by have := t12;simp only[aa,beq_iff_eq]at this;omega);refine ae ?_;rw[h1,gQ,T.sgn_zero];rfl
 have h1:s.length≠0:=by have:=t12;simp only[aa,beq_eq_false_iff_ne,ne_eq]at this;omega
 refine gl ?_;refine gC (fun t15=>?_) (fun t15=>?_)
 ·have h2 : s.length = 1 := by have := t15; simp only [aa, beq_iff_eq] at this; omega
  obtain⟨q,rfl⟩:=List.length_eq_one_iff.1 h2;refine gi rfl ?_;refine gc (vC (rt q) (cs.qs oz (by simp:q∈[q])).ok) ?_;refine ae ?_;rw[lJ,T.sgn_ofQ,bA]
 have h2:s.length≠1:=by have:=t15;simp only[aa,beq_eq_false_iff_ne,ne_eq]at this;omega
 obtain⟨i,hij,hsl⟩:∃i,i+1<=j/\s.length=2^(i+1):=by
  rcases nN hsn with h |h |h
  ·exact absurd h h1
  ·exact absurd h h2
  ·exact h
 have hp2:=Nat.two_pow_pos i;have hpi:2^i<=32:=b8 (b:=5) oz;have hps:2^(i+1)=2*2^i:=by rw[Nat.pow_succ];omega
 have n1:Nl i (s.take (2^i)):=.inr ⟨i,le_refl _,fE hsl⟩;have n2:Nl i (s.drop (2^i)):=.inr ⟨i,le_refl _,fY hsl⟩;have nd:=ht.1 i oz;have cd:=ht.2.cb i;obtain⟨nn,dn,cn⟩:=uM ht oz hsl cs;have b1:sB r i (4*e+3*eB r i+r+1)<=sB r j e:=q6 r e hij;have b2:sB r i e<=sB r i (4*e+3*eB r i+r+1):=nO r i oz;have b3:sB r i r<=sB r i (4*e+3*eB r i+r+1):=nO r i oz;have b4:=oF r i (4*e+3*eB r i+r+1);have k1:=ih i oz (s.take (2^i)) e oz n1 cs.take oz;have k2:=ih i oz (s.drop (2^i)) e oz n2 cs.drop oz;have k3:=ih i oz _ r oz nd cd oz;have k4:=ih i oz _ _ oz nn cn oz
 have hres:T.sgn (aj ts) j (ad j s)=T.sgn3 (T.sgn (aj ts) i (ad i (s.take (2^i)))) (T.sgn (aj ts) i (ad i (s.drop (2^i)))) (T.sgn (aj ts) i (ad i (ts.getD i []))) (T.sgn (aj ts) i (ad i (ii ts i s))):=by
  rw[tB _ oz hij,dn];rfl
 have v1:=T.sgn_cases (aj ts) i (ad i (s.take (2^i)));have v4:=T.sgn_cases (aj ts) i (ad i (ii ts i s));refine gl ?_;refine gs (eH (.tmp rfl) (.const _) oz (show _=((2^i:Nat):Int) by rw[fL oz,hsl,fh]) rfl) ?_;refine gs (cR (.tmp rfl) (.none _) (.some _ (.tmp rfl) oz) T67 rfl T45 rfl oz (by simp only[length_map];omega) rfl) ?_;refine gc (by have h9:=k1;rw[<- kO]at h9;exact h9) ?_;refine gs (cR (.tmp rfl) (.some _ (.tmp rfl) oz) (.none _) T67 rfl T45 rfl (by simp only[length_map];omega) oz rfl) ?_;refine gc (by have h9:=k2;rw[<- lL]at h9;exact h9) ?_;refine gD ?_;refine gc (r5 qA s oz) ?_;refine ga (show _=(i:Int) by rw[hsl,o6,dB oz];omega) ?_;refine gi (p5 (j:=i) oz) ?_;refine gc k3 ?_;refine gD ?_;refine gC (fun t42=>?_) (fun t42=>?_)
 ·have e1 : T.sgn (aj ts) i (ad i (ts.getD i [])) = 0 := by simpa [aa] using t42
  refine ae ?_;rw[hres];unfold T.sgn3;rw[if_pos e1]
 have e1:¬T.sgn (aj ts) i (ad i (ts.getD i []))=0:=by simpa[aa]using t42
 refine gC (fun t44=>?_) (fun t44=>?_)
 ·have e2:T.sgn (aj ts) i (ad i (s.take (2^i)))=T.sgn (aj ts) i (ad i (s.drop (2^i)))\/T.sgn (aj ts) i (ad i (s.drop (2^i)))=0:=yQ t44;refine ae ?_;rw[hres];unfold T.sgn3;rw[if_neg e1,if_pos e2]
 have e2:¬(T.sgn (aj ts) i (ad i (s.take (2^i)))=T.sgn (aj ts) i (ad i (s.drop (2^i)))\/T.sgn (aj ts) i (ad i (s.drop (2^i)))=0):=Bc t44;refine gC (fun t53=>?_) (fun t53=>?_)
 ·have e3 : T.sgn (aj ts) i (ad i (s.take (2 ^ i))) = 0 := by simpa [aa] using t53
  refine ae ?_;rw[hres];unfold T.sgn3;rw[if_neg e1,if_neg e2,if_pos e3]
 have e3:¬T.sgn (aj ts) i (ad i (s.take (2^i)))=0:=by simpa[aa]using t53
 refine gc (yu ts m r ht hm hml i s e oz hsl cs oz) ?_;refine gc k4 ?_;refine ga (zC v1 v4) ?_;refine gD ?_;refine ae ?_;rw[hres];unfold T.sgn3;rw[if_neg e1,if_neg e2,if_neg e3];rfl
theorem oK(rs:List (List Rt))(r:Nat)(h:TR rs r):FP 121 [cf rs] (bp (a9 rs)):=by
 have hll:=h.ll;have hr:=h.le;refine af func121 ?_;refine gl ?_;refine gC (fun t10=>?_) (fun t10=>?_)
 ·have h5 : 5 < rs.length := by have := t10; simp only [aa, decide_eq_true_eq] at this; omega
  refine ae ?_;rw[Cp h5];rfl
 have h5:rs.length<=5:=by have:=t10;simp only[aa,decide_eq_false_iff_not]at this;omega
 refine gl ?_;refine aM [1,13,14] [1] (fun(k:Nat)=>[(15,some (i64 k))]) (fun _=>[]) (fun k=>k<=rs.length/\∀j,j<k->iC rs j) (fun k=>rs.length-k) 0 ⟨zero_le _,fun j hj=>by omega⟩ ?_;rintro k ⟨hk,hj⟩ K1 J1;refine gC (fun t16=>?_) (fun t16=>?_)
 ·have hin : k < rs.length := by simpa [aa] using t16
  obtain⟨d,hd⟩:=aw hin;have hdm:=mem_of_getElem? hd;have hdl:=h.len d hdm;refine gi (ax hd) ?_;refine gl ?_;refine gs (gk (.const _) (.tmp rfl) oz (mt oz) rfl) ?_;refine gC (fun t24=>?_) (fun t24=>?_)
  ·have h1 : d.length ≠ 2 ^ k := by have := t24; simp only [aa, bne_iff_ne, ne_eq] at this; omega
   refine ae ?_;rw[Eu h5 hd hj h1];rfl
  have h1:d.length=2^k:=by have:=t24;simp only[aa,bne_eq_false_iff_eq]at this;omega
  have htl:(rs.take k).length=k:=by simp;omega
  have hnu:=BU (rs.take k) d (h.ok d hdm) hdl oz;rw[htl]at hnu;refine gs (cR (.tmp rfl) (.none _) (.some _ (.tmp rfl) oz) T35 rfl T67 rfl oz (by simp only[length_map];omega) rfl) ?_ (9,0);refine gW (Wk.of (sl:=[(1,some (.ptr 1 0)),(3,some (i64 k)),(4,some (nR d)),(5,some (.ptr 5 0)),(13,some (.lst 1 (rs.map nR))),(14,some (i64 rs.length)),(15,some (i64 k))]) (hp:=[(1,some (.box [.lst 1 (rs.map nR)])),(5,some (.box [.lst 1 ((rs.take k).map nR)]))]) aY (.k (.cons rfl (BlkSub.bL (.cons (.of (Uq nR rs k)) .nil) rfl) .nil))) ?_;refine gc hnu ?_;refine gC (fun t35=>?_) (fun t35=>?_)
  ·have h2:=de t35;refine ae ?_;rw[BP h5 hd hj h1 h2]
  have h2:=cQ t35;have hts:=HU (ts:=llq rs) (fun j hjk=>(hj j hjk).nl) h.rb;have hq:=uy h2 (h.ok d hdm);have hcb:Cb r (lq d):=by have:=h.rb.cb k;rw[r7,getD_eq_getElem?_getD,hd]at this;exact this
  have hsg:FP 228 [cf (rs.take k),nR d] (i64 (T.sgn (aj (llq rs)) k (ad k (lq d)))):=by
   have h9:=qe ((llq rs).take k) k r hts oz (by simp;omega) k (lq d) r (le_refl _) hq.2 hcb (mT (le_refl k) (by have:=h.three;omega) hr (by have:=km k;omega));rw[T.sgn_congr k (fun j hjk=>vZ hjk)]at h9;rw[Oq h.ok oz hj,hq.1,df];rw[<- hq.1];exact h9
  refine gc hsg ?_;refine gC (fun t40=>?_) (fun t40=>?_)
  ·have h3 : T.sgn (aj (llq rs)) k (ad k (lq d)) < 0 := by simpa [aa] using t40
   refine ae ?_;rw[DG h5 hd hj h1 h2 h3];rfl
  have h3:¬T.sgn (aj (llq rs)) k (ad k (lq d))<0:=by simpa[aa]using t40
  refine ga aH ?_;exact aG J1 (k+1) ⟨hin,fun j hjk=>by rcases lt_or_ge j k with h9 |h9;exact hj j h9;(have:j=k:=by omega);subst this;exact DK hd h1 h2 h3⟩
 have hin:k=rs.length:=by have:rs.length<=k:=(by simpa[aa]using t16);omega
 subst hin;refine ae ?_;rw[Dg h5 hj];rfl
theorem oD(rs:List (List Rt))(r:Nat)(h:TR rs r)(xs:List (List Rt))(hx:∀a∈xs,(∀x∈a,x.ok)/\a.length<=281474976710656)(hl:xs.length<=281474976710656):FP 243 [cf rs,.lst 1 (xs.map nR)] (bp (aV rs xs)):=by
 refine af func243 ?_;refine gc (oK rs r h) ?_;refine gC (fun t12=>?_) (fun t12=>?_)
 ·have h1:=de t12;refine ae ?_;rw[vE h1]
 have h1:=cQ t12;refine gl ?_;refine aM [2,14,15] [2] (fun(i:Nat)=>[(16,some (i64 i))]) (fun _=>[]) (fun i=>i<=xs.length/\∀x∈xs.take i,bN rs.length x=0) (fun i=>xs.length-i) 0 ⟨zero_le _,fun x hx=>by simp at hx⟩ ?_;rintro i ⟨hi,hj⟩ K1 J1;refine gC (fun t17=>?_) (fun t17=>?_)
 ·have hin : i < xs.length := by simpa [aa] using t17
  obtain⟨a,ha⟩:=aw hin;have hok:=hx a (mem_of_getElem? ha);refine gi (ax ha) ?_;refine gc (BU rs a hok.1 hok.2 h.ll) ?_;refine gC (fun t24=>?_) (fun t24=>?_)
  ·have h2:=de t24;refine ae ?_;rw[sC h1 ha hj h2]
  have h2:=cQ t24;refine ga aH ?_;exact aG J1 (i+1) ⟨hin,fun x hx=>by rw[dl ha]at hx;rcases List.mem_append.1 hx with h9 |h9;exact hj x h9;(rw[List.mem_singleton.1 h9];exact h2)⟩
 have hin:i=xs.length:=by have:xs.length<=i:=(by simpa[aa]using t17);omega
 subst hin;rw[take_length]at hj;refine ae ?_;rw[n8 h1 hj];rfl
theorem xz(rs:List (List Rt))(r:Nat)(h:TR rs r)(a:List Rt)(e:Nat)(ha:NR a e)(he:e<=lm rs.length) :
  FP 138 [cf rs,nR a] (.tup [nA (if aV rs [a]=0 then sh rs.length (T.neg rs.length (ad rs.length (lq a)))else[]),bp (aV rs [a])]):=by
 have hlm:=fS rs.length;refine af func138 ?_;refine gc (oD rs r h [a] (fun x hx=>by rw[List.mem_singleton.1 hx];exact⟨ha.ok,ha.len⟩) (by simp)) ?_;refine gC (fun t12=>?_) (fun t12=>?_) (st2:=(77777,0))
 ·have h1:=de t12;refine gR ?_;exact dp (by rw[if_neg h1];exact Sub.tup (.cons (.nil _ _ _) (.cons (.refl _) .nil)))
 have h1:=cQ t12;obtain⟨h2,h3⟩:=jw h1;obtain⟨tw,_⟩:=cA h h2;obtain⟨e1,na⟩:=ha.num (h3 a (by simp));have h5:rs.length<=5:=by have:=tw.five;rwa [length_map]at this
 have hl:=na.len5 h5;have qa:∀q∈lq a,Qs q:=fun q hq=>ha.cb.qs oz hq
 have qm:∀q∈cD (lq a),Qs q:=fun q hq=>ha.cb.minus.qs oz hq
 have nm:=oc na;refine gW (Wk.of (sl:=[(1,some (nA (lq a))),(2,some (.ptr 2 0)),(6,some (bp (aV rs [a])))]) (hp:=[(2,some (.box [.lst 1 (rs.map nR)]))]) (.cons rfl (Sub.of e1) (.k (.k .nil))) (.k .nil)) ?_;refine gc (vK _ qa oz) ?_;refine gc (lH _ h5 nm qm) ?_;refine bj ?_;rw[if_pos h1,h1,lS];rfl
theorem UI(rs:List (List Rt))(r:Nat)(h:TR rs r)(a b:List Rt)(e f:Nat)(ha:NR a e)(hb:NR b f)(he:e+f<=lm rs.length) :
  FP 329 [cf rs,nR a,nR b] (.tup [nA (if aV rs [a,b]=0 then sh rs.length (T.add rs.length (ad rs.length (lq a)) (ad rs.length (lq b)))else[]),bp (aV rs [a,b])]):=by
 have hlm:=fS rs.length;refine af func329 ?_;refine gc (oD rs r h [a,b] (my ha hb) (by simp)) ?_;refine gC (fun t15=>?_) (fun t15=>?_) (st2:=(77777,0))
 ·have h1:=de t15;refine gR ?_;exact dp (by rw[if_neg h1];exact Sub.tup (.cons (.nil _ _ _) (.cons (.refl _) .nil)))
 have h1:=cQ t15;obtain⟨h2,h3⟩:=jw h1;obtain⟨tw,e0⟩:=cA h h2;obtain⟨e1,na⟩:=ha.num (h3 a (by simp));obtain⟨e2,nb⟩:=hb.num (h3 b (by simp));have h5:rs.length<=5:=by have:=tw.five;rwa [length_map]at this
 have hla:=na.len5 h5;have hlb:=nb.len5 h5;have qa:∀q∈lq a,Qs q:=fun q hq=>ha.cb.qs oz hq
 have qb:∀q∈lq b,Qs q:=fun q hq=>hb.cb.qs oz hq
 have qp:∀q∈bX (lq a) (lq b),Qs q:=fun q hq=>(ha.cb.plus hb.cb).qs oz hq
 have np:=nk na nb;refine gW (Wk.of (sl:=[(1,some (nA (lq a))),(2,some (nA (lq b))),(3,some (.ptr 3 0)),(8,some (bp (aV rs [a,b])))]) (hp:=[(3,some (.box [.lst 1 (rs.map nR)]))]) (.cons rfl (Sub.of e1) (.cons rfl (Sub.of e2) (.k (.k .nil)))) (.k .nil)) ?_;refine gc (qL _ _ qa qb oz oz) ?_;refine gc (lH _ h5 np qp) ?_;refine bj ?_;rw[if_pos h1,h1,ic];rfl
theorem RA(rs:List (List Rt))(r:Nat)(h:TR rs r)(a b:List Rt)(e f:Nat)(ha:NR a e)(hb:NR b f)(he:e+f<=lm rs.length) :
  FP 163 [cf rs,nR a,nR b] (.tup [nA (if aV rs [a,b]=0 then sh rs.length (T.add rs.length (ad rs.length (lq a)) (T.neg rs.length (ad rs.length (lq b))))else[]),bp (aV rs [a,b])]):=by
 have hlm:=fS rs.length;refine af func163 ?_;refine gc (oD rs r h [a,b] (my ha hb) (by simp)) ?_;refine gC (fun t15=>?_) (fun t15=>?_) (st2:=(77777,0))
 ·have h1:=de t15;refine gR ?_;exact dp (by rw[if_neg h1];exact Sub.tup (.cons (.nil _ _ _) (.cons (.refl _) .nil)))
 have h1:=cQ t15;obtain⟨h2,h3⟩:=jw h1;obtain⟨tw,e0⟩:=cA h h2;obtain⟨e1,na⟩:=ha.num (h3 a (by simp));obtain⟨e2,nb⟩:=hb.num (h3 b (by simp));have h5:rs.length<=5:=by have:=tw.five;rwa [length_map]at this
 have hla:=na.len5 h5;have hlb:=nb.len5 h5;have qa:∀q∈lq a,Qs q:=fun q hq=>ha.cb.qs oz hq
 have qb:∀q∈lq b,Qs q:=fun q hq=>hb.cb.qs oz hq
 have qm:∀q∈cD (lq b),Qs q:=fun q hq=>hb.cb.minus.qs oz hq
 have qp:∀q∈bX (lq a) (cD (lq b)),Qs q:=fun q hq=>(ha.cb.plus hb.cb.minus).qs oz hq
 have np:=nk na (oc nb);refine gW (Wk.of (sl:=[(1,some (nA (lq a))),(2,some (nA (lq b))),(3,some (.ptr 3 0)),(8,some (bp (aV rs [a,b])))]) (hp:=[(3,some (.box [.lst 1 (rs.map nR)]))]) (.cons rfl (Sub.of e1) (.cons rfl (Sub.of e2) (.k (.k .nil)))) (.k .nil)) ?_;refine gc (vK _ qb oz) ?_;refine gc (qL _ _ qa qm oz (by rw[iy];omega)) ?_;refine gc (lH _ h5 np qp) ?_;refine bj ?_;rw[if_pos h1,h1,ic,lS];rfl
theorem O5(rs:List (List Rt))(r:Nat)(h:TR rs r)(a b:List Rt)(e f:Nat)(ha:NR a e)(hb:NR b f)(he:e+f<=lm rs.length) :
  FP 164 [cf rs,nR a,nR b] (.tup [nA (if aV rs [a,b]=0 then sh rs.length (T.mul (aj (llq rs)) rs.length (ad rs.length (lq a)) (ad rs.length (lq b)))else[]),bp (aV rs [a,b])]):=by
 have hr:=h.le;have hlm:=fS rs.length;refine af func164 ?_;refine gc (oD rs r h [a,b] (my ha hb) (by simp)) ?_;refine gC (fun t15=>?_) (fun t15=>?_) (st2:=(77777,0))
 ·have h1:=de t15;refine gR ?_;exact dp (by rw[if_neg h1];exact Sub.tup (.cons (.nil _ _ _) (.cons (.refl _) .nil)))
 have h1:=cQ t15;obtain⟨h2,h3⟩:=jw h1;obtain⟨tw,e0⟩:=cA h h2;obtain⟨e1,na⟩:=ha.num (h3 a (by simp));obtain⟨e2,nb⟩:=hb.num (h3 b (by simp));have hlen:(llq rs).length=rs.length:=length_map _;have h5:rs.length<=5:=by have:=tw.five;omega
 have hla:=na.len5 h5;have hlb:=nb.len5 h5;have htw:=tw.ok;rw[hlen]at htw;have hE:=ES r h5;have np:=fQ (llq rs) rs.length htw.1 rs.length rs.length _ _ (le_refl _) (le_refl _) na nb;have cp:=Cb.mul htw (k:=rs.length) (le_refl rs.length) (le_refl _) na nb ha.cb hb.cb;have hti:=oY (llq rs) rs.length r htw h5 oz rs.length rs.length _ _ e f (le_refl _) (le_refl _) na nb ha.cb hb.cb oz;refine gW (Wk.of (sl:=[(1,some (nA (lq a))),(2,some (nA (lq b))),(3,some (.ptr 3 0)),(8,some (bp (aV rs [a,b])))]) (hp:=[(3,some (.box [.lst 1 ((llq rs).map nA)]))]) (.cons rfl (Sub.of e1) (.cons rfl (Sub.of e2) (.k (.k .nil)))) (.cons rfl (BlkSub.bL (.cons (.of (kq e0)) .nil) rfl) .nil)) ?_;refine gc hti ?_;refine gc (lH _ h5 np.1 (fun q hq=>cp.qs oz hq)) ?_;refine bj ?_;rw[if_pos h1,h1,np.2];rfl
theorem O0(rs:List (List Rt))(r:Nat)(h:TR rs r)(a:List Rt)(e:Nat)(ha:NR a e)(he:e<=lm rs.length) :
  FP 267 [cf rs,nR a] (.tup [i64 (if aV rs [a]=0 then T.sgn (aj (llq rs)) rs.length (ad rs.length (lq a))else 0),bp (aV rs [a])]):=by
 have hr:=h.le;have hlm:=fS rs.length;refine af func267 ?_;refine gc (oD rs r h [a] (fun x hx=>by rw[List.mem_singleton.1 hx];exact⟨ha.ok,ha.len⟩) (by simp)) ?_;refine gC (fun t12=>?_) (fun t12=>?_) (st2:=(77777,0))
 ·have h1:=de t12;refine bj ?_;rw[if_neg h1];rfl
 have h1:=cQ t12;obtain⟨h2,h3⟩:=jw h1;obtain⟨tw,e0⟩:=cA h h2;obtain⟨e1,na⟩:=ha.num (h3 a (by simp));have hlen:(llq rs).length=rs.length:=length_map _;have h5:rs.length<=5:=by have:=tw.five;omega
 have htw:=tw.ok;rw[hlen]at htw;have hsg:=qe (llq rs) rs.length r htw h5 oz rs.length _ _ (le_refl _) na ha.cb (mT (le_refl rs.length) (by have:=tw.three;omega) hr oz);refine gW (Wk.of (sl:=[(1,some (nA (lq a))),(2,some (.ptr 2 0)),(6,some (bp (aV rs [a])))]) (hp:=[(2,some (.box [.lst 1 ((llq rs).map nA)]))]) (.cons rfl (Sub.of e1) (.k (.k .nil))) (.cons rfl (BlkSub.bL (.cons (.of (kq e0)) .nil) rfl) .nil)) ?_;refine gc hsg ?_;refine bj ?_;rw[if_pos h1,h1];rfl
theorem yI(x:Rt)(hx:x.ok)(hs:Qs x.q):FP 126 [x.av] (nA (sh 0 (x.q:Rat))):=by
 have hadd:=ou x (rt 0) hx Qs.zero.ok;rw[sN]at hadd;refine af func126 ?_;refine gc (Con.sA (.cons (.refl _) (.cons gK .nil)) hadd) ?_;refine gc (lH (n:=0) [x.q] oz (.inr ⟨0,le_refl _,rfl⟩) (fun q hq=>by rw[List.mem_singleton.1 hq];exact hs)) ?_;refine ae ?_;rfl
theorem rA(n:Nat)(hn:n<=281474976710656):FP 277 [i64 n] (.tup [i64 (kE n),bl (j8 n)]):=by
 refine af func277 ?_;refine aM [0] [] (fun(k:Nat)=>[(5,some (i64 k))]) (fun _=>[]) (fun k=>k<=6/\∀j,j<k->n≠2^j) (fun k=>6-k) 0 ⟨by omega,fun j h=>by omega⟩ ?_;rintro k ⟨hk,hj⟩ K1 J1;refine gC (fun t6=>?_) (fun t6=>?_)
 ·have h1 : k < 6 := by have := t6; simp only [aa, decide_eq_true_eq] at this; omega
  refine gs (gk (.const _) (.tmp rfl) oz (mt oz) rfl) ?_;refine gC (fun t11=>?_) (fun t11=>?_)
  ·have h2 : n = 2 ^ k := by have := t11; simp only [aa, beq_iff_eq] at this; omega
   refine bj ?_;rw[h2,(mb oz).1,(mb oz).2];rfl
  have h2:n≠2^k:=by have:=t11;simp only[aa,beq_eq_false_iff_ne,ne_eq]at this;omega
  refine ga (cU oz) ?_;exact aG J1 (k+1) ⟨by omega,fun j h=>by rcases lt_or_ge j k with h3 |h3;exact hj j h3;(have:j=k:=by omega);subst this;exact h2⟩
 have h1:k=6:=by have:=t6;simp only[aa,decide_eq_false_iff_not]at this;omega
 subst h1;refine bj ?_;rw[(F6 hj).1,(F6 hj).2];rfl
theorem GK(m:Nat)(hm:m<=5)(a:List Rt)(ha:∀r∈a,r.ok)(hl:a.length<=281474976710656):FP 180 [i64 m,nR a] (i64 (bN m a)):=by
 refine af func180 ?_;refine gl ?_;refine gc (rA a.length hl) ?_;refine gl ?_;refine gC (fun t26=>?_) (fun t26=>?_)
 ·have h1:a≠[]/\(cF a.length<0\/(m:Int)<cF a.length):=(GI hm a).2 (Uu t26);refine ae ?_;unfold bN;rw[if_pos h1];rfl
 have hn:¬(a≠[]/\(cF a.length<0\/(m:Int)<cF a.length)):=fun h=>Jg t26 ((GI hm a).1 h)
 refine gl ?_;refine aM [27,28] [] (fun(i:Nat)=>[(29,some (i64 i))]) (fun _=>[]) (fun i=>i<=a.length/\(a.take i).all Rt.valid=true) (fun i=>a.length-i) 0 ⟨zero_le _,by simp⟩ ?_;rintro i ⟨hi,hv⟩ K1 J1;refine gC (fun t30=>?_) (fun t30=>?_)
 ·have hin : i < a.length := by simpa [aa] using t30
  obtain⟨r,hr⟩:=aw hin;have hrok:=ha r (mem_of_getElem? hr);refine gi (ax hr) ?_;refine gc (rC r hrok) ?_;refine gC (fun t35=>?_) (fun t35=>?_)
  ·have hrv : r.valid = false := by simpa using t35
   refine ae ?_;unfold bN;rw[if_neg hn,if_neg]
   ·rfl
   ·rw[all_eq_true];intro h;rw[h r (mem_of_getElem? hr)]at hrv;cases hrv
  have hrv:r.valid=true:=by simpa using t35
  refine ga aH ?_;exact aG J1 (i+1) ⟨by omega,by rw[dl hr,all_append,hv];simp[hrv]⟩
 have hin:i=a.length:=by have:a.length<=i:=(by simpa[aa]using t30);omega
 subst hin;rw[take_length]at hv;refine ae ?_;unfold bN;rw[if_neg hn,if_pos hv];rfl
theorem GC(a:List Rat)(hl:a.length<=281474976710656):FP 283 [nA a] (bl (bh a)):=by
 refine af func283 ?_;refine gl ?_;refine aM [5,6] [] (fun(i:Nat)=>[(7,some (i64 i))]) (fun _=>[]) (fun i=>i<=a.length/\bh (a.take i)=true) (fun i=>a.length-i) 0 ⟨zero_le _,by simp[bh]⟩ ?_;rintro i ⟨hi,hv⟩ K1 J1;refine gC (fun t8=>?_) (fun t8=>?_)
 ·have hin : i < a.length := by simpa [aa] using t8
  obtain⟨q,hq⟩:=aw hin;refine gi (ax hq) ?_;refine ci ?_;refine ci ?_;refine gC (fun t24=>?_) (fun t24=>?_)
  ·have h0:q≠0:=Jj t24;refine ae ?_
   have:bh a=false:=by
    rw[Bool.eq_false_iff];intro h;exact h0 (by simpa using List.all_eq_true.1 h q (mem_of_getElem? hq))
   rw[this];rfl
  have h0:q=0:=JO t24;refine ga aH ?_;exact aG J1 (i+1) ⟨by omega,by rw[dl hq];simp only[bh,all_append,and_eq_true];exact⟨hv,by simp[h0]⟩⟩
 have hin:i=a.length:=by have:a.length<=i:=(by simpa[aa]using t8);omega
 subst hin;rw[take_length]at hv;refine ae ?_;rw[hv];rfl
theorem oX{n:Nat}(a:List Rat)(hn:n<=5)(ha:Nl n a):FP 182 [nA a] (nA (sh n (ad n a))):=by
 have hl:=ha.len5 hn;rw[<- rX ha hn];refine af func182 ?_;refine gl ?_;refine gc (rA a.length oz) ?_;refine gC (fun t13=>?_) (fun t13=>?_)
 ·have h0:a=[]:=by
   rcases ha with h |⟨j,hj,h⟩
   ·exact h
   ·have h9:=t13;rw[h,(mb oz).2]at h9;cases h9
  refine gs (ju T67 rfl T45 rfl rfl rfl) ?_;refine gs (qi (.tmp rfl) rfl rfl (.tmp rfl) T67 rfl T45 rfl rfl (by simp[h0]) rfl rfl) ?_;refine ae ?_;subst h0;rfl
 refine gl ?_;refine aM [0] [] (fun(m:Nat)=>[(5,some (i64 m))]) (fun _=>[]) (fun m=>lO a m) (fun m=>m) a.length (Hl (ha.mono hn)) ?_;rintro m hm K1 J1;refine gs (er rfl rfl rfl (fun h=>eH (.opt rfl (o1 h)) (.const _) oz (fL (by have:=hm.le;omega)) rfl)) ?_;refine gs (er rfl rfl rfl (fun h=>cR (.opt rfl (o1 h)) (.some _ (.opt rfl (o1 h)) oz) (.some _ (.opt rfl (o1 h)) oz) T67 rfl T45 rfl oz (by have:=hm.le;simp;omega) rfl)) ?_;refine bI (fun _=>(by have h9:=GC ((a.drop (m/2)).take (m-m/2)) (by simp;omega);rw[<- ra]at h9;exact h9)) ?_;refine gC (fun t28=>?_) (fun t28=>?_)
 ·have h1:1<m/\bh ((a.drop (m/2)).take (m-m/2))=true:=by
   have h9:=t28
   by_cases h:(m:Int)>1
   ·simp only[aa,decide_eq_true h,cond_true]at h9;exact⟨by omega,h9⟩
   ·simp only[aa,decide_eq_false h,cond_false]at h9;cases h9
  refine gs (eH (.tmp rfl) (.const _) oz (fL (by have:=hm.le;omega)) rfl) ?_;exact aG J1 (m/2) (BK hm h1.1 h1.2)
 have h1:1<m->bh ((a.drop (m/2)).take (m-m/2))=false:=by
  intro h;have h9:=t28;simp only[aa,decide_eq_true (show(m:Int)>1 by omega),cond_true]at h9;exact h9
 refine gs (er rfl rfl rfl (fun h=>cR (.opt rfl (o1 h)) (.none _) (.some _ (.const _) oz) T67 rfl T45 rfl oz (by have h8:(m:Int)=1:=(by simpa[aa]using h);have:=hm.le;simp only[length_map];omega) rfl)) ?_;refine bI (fun _=>(by have h9:=GC ((a.drop 0).take 1) (by simp;omega);rw[<- ra]at h9;exact h9)) ?_;refine gC (fun t37=>?_) (fun t37=>?_)
 ·have h2:m=1/\bh (a.take 1)=true:=by
   have h9:=t37
   by_cases h:m=1
   ·rw[h]at h9;exact⟨h,h9⟩
   ·rw[show aa .eql (m:Int) 1=false by simp[aa];omega]at h9;cases h9
  obtain⟨rfl,h3⟩:=h2;refine gR ?_;exact iV (by rw[Ej hm h3];exact Sub.nil _ _ _)
 have h2:m=1->bh (a.take 1)=false:=by
  intro h;have h9:=t37;rw[h]at h9;exact h9
 have h3:=Fu hm h1 h2;refine gs (ju T67 rfl T45 rfl rfl rfl) ?_;refine gs (cR (.tmp rfl) (.none _) (.some _ (.tmp rfl) oz) T67 rfl T45 rfl oz (by have:=hm.le;simp;omega) rfl) ?_;refine gs (qi (.tmp rfl) rfl rfl (.tmp rfl) T67 rfl T45 rfl rfl (by simp only[length_take,List.length_drop,length_map];omega) rfl rfl) ?_;refine ae ?_;rw[h3];simp[nA,map_take]
theorem yb(d:Nat)(hd:Nat.blt d 1000=true)(a:List Rat)(n:Nat)(hl:a.length<=n)(hn:n<=1099511627776) :
  Con prog 181 [nA a,i64 n] [] (.ms d 3 0 n) [(d,some (.row 3 ((aQ a n).map qA)))]:=by
 refine gF func181 (fun k z h=>by cases h) ?_;refine gs (ju T67 rfl T45 rfl rfl rfl) ?_;refine gs (cq (.tmp rfl) rfl rfl (.tmp rfl) T67 rfl T45 rfl rfl (by simp only[length_map];omega) rfl rfl) ?_;refine gW (Wk.of (sl:=[(1,some (i64 n)),(5,some (.ms 8 3 0 a.length))]) (hp:=[(8,some (.row 3 ((aQ a a.length).map qA)))]) (.k (.cons rfl (Sub.of (by simp)) .nil)) (.cons rfl (BlkSub.of (by simp[aQ])) .nil)) ?_ (99999,0);refine gW (Wk.rk (k:=8) (d:=900) rfl rfl) ?_;refine aM [1] [] (fun(i:Nat)=>[(5,some (.ms 900 3 0 i))]) (fun i=>[(900,some (.row 3 ((aQ a i).map qA)))]) (fun i=>a.length<=i/\i<=n) (fun i=>n-i) a.length ⟨le_refl _,hl⟩ ?_;rintro i ⟨hi,hin⟩ K1 J1;refine gC (fun t12=>?_) (fun t12=>?_)
 ·have h1 : i < n := by have := t12; simp only [aa, decide_eq_true_eq] at this; omega
  refine gs (cq (.tmp rfl) rfl (by rw[length_map,dI hi]) (.tmp rfl) T67 rfl T45 rfl rfl (by simp;omega) rfl rfl) ?_;exact aG J1 (i+1) ⟨by omega,h1⟩ (hw:=(Wk.of (sl:=[(1,some (i64 n)),(5,some (.ms 16 3 0 (i+1)))]) (hp:=[(16,some (.row 3 ((aQ a (i+1)).map qA)))]) aY (.cons rfl (RT a i hi) .nil)).trans<|(Wk.rk (k:=16) (d:=900) rfl rfl).trans<|Wk.o)
 have h1:i=n:=by have:=t12;simp only[aa,decide_eq_false_iff_not]at this;omega
 subst h1;refine gR ?_;exact ao.own1 rfl hd rfl
theorem qV(a:List Rat)(n:Nat)(hl:a.length<=n)(hn:n<=1099511627776):FP 181 [nA a,i64 n] (nA (aQ a n)):=by
 have h:=Con.freeze (by rw[length_map,dI hl];omega) (yb 0 rfl a n hl hn);rw[drop_zero,take_of_length_le (by rw[length_map,dI hl];exact le_refl _)]at h;exact h
theorem ql(a b:List Rat)(ha:∀q∈a,Qs q)(hb:∀q∈b,Qs q)(la:a.length<=1099511627776)(lb:b.length<=1099511627776):FP 171 [nA a,nA b] (nA (bX a b)):=by
 obtain⟨n,hn⟩:∃n,n=max a.length b.length:=⟨_,rfl⟩
 have hwa:=dI (show a.length<=n by omega);have hwb:=dI (show b.length<=n by omega);have hp:=d9 (a:=a) (b:=b);rw[<- hn]at hp;have qa:∀q∈aQ a n,Qs q:=fun q hq=>by rcases List.mem_append.1 hq with h |h;exact ha q h;(rw[(List.mem_replicate.1 h).2];exact Qs.zero)
 have qb:∀q∈aQ b n,Qs q:=fun q hq=>by rcases List.mem_append.1 hq with h |h;exact hb q h;(rw[(List.mem_replicate.1 h).2];exact Qs.zero)
 refine af func171 ?_;refine gl ?_;refine gl ?_;refine gs (qD (.tmp rfl) (.tmp rfl) rfl) ?_ (2,0);refine gW (Wk.of (sl:=[(0,some (nA a)),(1,some (nA b)),(5,some (i64 n))]) (hp:=[]) (.k (.k (.cons rfl (Sub.int oz) .nil))) .nil) ?_;refine go ?_;refine gt (ay (yb 900 rfl a n oz oz) (bB rfl rfl) aE rfl rfl) ?_;refine gc (qV b n oz oz) ?_;refine aM [1,19] [] (fun(i:Nat)=>[(0,some (.ms 900 3 0 n)),(20,some (i64 i))]) (fun i=>[(900,some (.row 3 (((bX a b).take i++(aQ a n).drop i).map qA)))]) (fun i=>i<=n) (fun i=>n-i) 0 (zero_le _) ?_;rintro i hi K1 J1;refine gC (fun t21=>?_) (fun t21=>?_) (st2:=(8,0))
 ·have hin : i < n := by simpa [aa] using t21
  have hmx:=zE (p:=bX a b) (w:=aQ a n) (i:=i) oz oz;have hqa:=(qa _ (sR (i:=i) oz)).ok;have hqb:=(qb _ (sR (i:=i) oz)).ok;refine gs (bR (n:=i) (.tmp rfl) (.tmp rfl) T67 rfl T45 rfl oz oz rfl) ?_;refine gs (d6 (.tmp rfl) rfl (ax hmx) T45 rfl rfl rfl) ?_;refine gi (ax (getD_some (i:=i) (l:=aQ b n) oz)) ?_;refine gc (wg (rt ((aQ a n).getD i 0)) (rt ((aQ b n).getD i 0)) hqa hqb) ?_;refine gs (bR (n:=i) (.tmp rfl) (.tmp rfl) T67 rfl T45 rfl oz oz rfl) ?_;refine gs (dF (.tmp rfl) rfl (ax hmx) rfl (.tmp rfl) rfl rfl T45 rfl rfl) ?_;refine gD ?_ (7,0);refine gW (Wk.of (sl:=[(0,some (.ms 900 3 0 n)),(1,some (nA (aQ b n))),(19,some (i64 n)),(20,some (i64 i))]) (hp:=[(900,some (.row 3 (((bX a b).take (i+1)++(aQ a n).drop (i+1)).map qA)))]) aY (.cons rfl (BlkSub.of (by rw[xP oz oz (by rw[H3,<- hn,bA,bA])])) .nil)) ?_;refine ga aH ?_;exact aG J1 (i+1) hin
 have hin:i=n:=by have:n<=i:=(by simpa[aa]using t21);omega
 refine gW ((Wk.freeze (k:=900) rfl).trans<|Wk.of (sl:=[(0,some (nA (bX a b)))]) (hp:=[]) (.cons rfl (Sub.of (by rw[bO (by simp;omega),hin,List.drop_of_length_le oz,take_of_length_le oz,append_nil];rfl)) .nil) .nil) ?_;refine ae ?_;rfl
theorem zG(a:List Rat)(ha:∀q∈a,Qs q)(hl:a.length<=1099511627776):FP 172 [nA a] (nA (cD a)):=by
 refine af func172 ?_;refine gl ?_;refine gW (Wk.virt 900 3 rfl) ?_;refine aM [6,7] [] (fun(i:Nat)=>[(3,some (.ms 900 3 0 i)),(8,some (i64 i))]) (fun i=>[(900,some (.row 3 ((cD (a.take i)).map qA)))]) (fun i=>i<=a.length) (fun i=>a.length-i) 0 (zero_le _) ?_;rintro i hi K1 J1;refine gC (fun t9=>?_) (fun t9=>?_) (st2:=(7,0))
 ·have hin : i < a.length := by simpa [aa] using t9
  obtain⟨q,hq⟩:=aw hin;have hqs:=(ha q (mem_of_getElem? hq)).ok;refine gi (ax hq) ?_;refine gc (D6 (rt q) hqs) ?_;refine gs (cq (.tmp rfl) rfl (by simp[cD];omega) (.tmp rfl) T67 rfl T45 rfl rfl (by simp;omega) rfl rfl) ?_ (6,0);refine gW (Wk.of (sl:=[(3,some (.ms 16 3 0 (i+1))),(6,some (nA a)),(7,some (i64 a.length)),(8,some (i64 i))]) (hp:=[(16,some (.row 3 ((cD (a.take (i+1))).map qA)))]) aY (.cons rfl (BlkSub.of (by rw[dl hq];simp only[cD,map_append,bA];rfl)) .nil)) ?_ (6,0);refine gW (Wk.rk (k:=16) (d:=900) rfl rfl) ?_;refine ga aH ?_;exact aG J1 (i+1) hin
 have hin:i=a.length:=by have:a.length<=i:=(by simpa[aa]using t9);omega
 subst hin;refine gW ((Wk.freeze (k:=900) rfl).trans<|Wk.of (sl:=[(3,some (nA (cD a)))]) (hp:=[]) (.cons rfl (Sub.of (by rw[bO (by simp[cD]),take_length];rfl)) .nil) .nil) ?_;refine ae ?_;rfl
theorem uV(ts:LL)(m r:Nat)(ht:iz ts m r)(hm:m<=5)(R:List AV)(hR:∀j,j<m->R[j]?=some (nA (ts.getD j [])))(k:Nat):∀(j:Nat)(a b:List Rat)(e f:Nat),j<=m->j<=k->Nl j a->Nl j b->Cb e a->Cb f b->e+f+eB r j<4398046511104 ->
  FP 183 [.agg [.lst 1 R],nA a,nA b] (nA (rT ts k a b)):=by
 induction k using Nat.strongRecOn
 rename_i k ih;intro j a b e f hj hjk ha hb ca cb hs;obtain⟨nx,dx⟩:=uT ha oz;obtain⟨ny,dy⟩:=uT hb oz;have cx:Cb e (bc 5 a):=ca.sub (fun q hq=>tq 5 hq);have cy:Cb f (bc 5 b):=cb.sub (fun q hq=>tq 5 hq);have k1:=oX a oz ha;have k2:=oX b oz hb;rw[<- rX ha oz]at k1;rw[<- rX hb oz]at k2;obtain⟨x,hx⟩:∃x,x=bc 5 a:=⟨_,rfl⟩
 obtain⟨y,hy⟩:∃y,y=bc 5 b:=⟨_,rfl⟩
 rw[<- hx]at k1 nx dx cx;rw[<- hy]at k2 ny dy cy;have hlx:=nx.len5 oz;have hly:=ny.len5 oz;obtain⟨n,hn⟩:∃n,n=max x.length y.length:=⟨_,rfl⟩
 refine af func183 ?_;refine gc k1 ?_;refine gc k2 ?_;refine gl ?_;refine gl ?_;refine gs (qD (.tmp rfl) (.tmp rfl) rfl) ?_ (3,0);refine gW (Wk.of (sl:=[(1,some (nA x)),(2,some (nA y)),(3,some (.ptr 3 0)),(7,some (i64 n))]) (hp:=[(3,some (.box [.lst 1 R]))]) (.k (.k (.k (.cons rfl (Sub.int oz) .nil)))) (.k .nil)) ?_;refine gl ?_;refine ci ?_;refine gC (fun t32=>?_) (fun t32=>?_)
 ·have h0 : x.length = 0 \/ y.length = 0 := by have := yQ t32; omega
  refine gR ?_;exact iV (by rw[H9 (by rw[<- hx,<- hy];exact h0)];exact Sub.nil _ _ _)
 have h0:¬(x.length=0\/y.length=0):=by have:=Bc t32;omega
 refine gC (fun t34=>?_) (fun t34=>?_)
 ·have h1 : max x.length y.length = 1 := by have := t34; simp only [aa, beq_iff_eq] at this; omega
  have e1:=DQ (ts:=ts) (k:=k) (a:=a) (b:=b) (by rw[<- hx,<- hy];exact h0) (by rw[<- hx,<- hy];exact h1);rw[<- hx,<- hy]at e1;clear hx hy;have lx1:x.length=1:=by omega
  have ly1:y.length=1:=by omega
  clear hn;obtain⟨p,rfl⟩:∃p,x=[p]:=List.length_eq_one_iff.1 lx1;obtain⟨q,rfl⟩:∃q,y=[q]:=List.length_eq_one_iff.1 ly1;refine gi rfl ?_;refine gi rfl ?_;refine gc (Ip (rt p) (rt q) (cx.qs oz (by simp:p∈[p])).ok (cy.qs oz (by simp:q∈[q])).ok) ?_;refine gD ?_;refine ae ?_;rw[e1,bA,bA];rfl
 have h1:n≠1:=by have:=t34;simp only[aa,beq_eq_false_iff_ne,ne_eq]at this;omega
 obtain⟨i,hij,hmax⟩:=(BT nx ny h0).resolve_left oz;obtain⟨k',rfl⟩:∃k',k=k'+1:=⟨k-1,by omega⟩
 have hp2:=Nat.two_pow_pos i;have hpi:2^i<=32:=b8 (b:=5) oz;have hps:2^(i+1)=2*2^i:=by rw[Nat.pow_succ];omega
 have hnn:n=2^(i+1):=by omega
 have hes:eB r (i+1)<=eB r j:=g9 r hij;have hee:eB r (i+1)=2*eB r i+r+2:=rfl;have lx:(aQ x (2^(i+1))).length=2^(i+1):=dI oz;have ly:(aQ y (2^(i+1))).length=2^(i+1):=dI oz;obtain⟨X,hX⟩:∃X,X=aQ x (2^(i+1)):=⟨_,rfl⟩
 obtain⟨Y,hY⟩:∃Y,Y=aQ y (2^(i+1)):=⟨_,rfl⟩
 have cX:Cb e X:=by rw[hX];exact cx.wide
 have cY:Cb f Y:=by rw[hY];exact cy.wide
 rw[<- hX]at lx;rw[<- hY]at ly;have n1:Nl i (X.take (2^i)):=.inr ⟨i,le_refl _,fE lx⟩;have n2:Nl i (X.drop (2^i)):=.inr ⟨i,le_refl _,fY lx⟩;have n3:Nl i (Y.take (2^i)):=.inr ⟨i,le_refl _,fE ly⟩;have n4:Nl i (Y.drop (2^i)):=.inr ⟨i,le_refl _,fY ly⟩;have nd:=ht.1 i oz;have cd:=ht.2.cb i;have s1:=jM hm ht (k:=k') (show i<=m by omega) oz n1 n3 cX.take cY.take;have s2:=jM hm ht (k:=k') (show i<=m by omega) oz n2 n4 cX.drop cY.drop;have s3:=jM hm ht (k:=k') (show i<=m by omega) oz s2.1 nd s2.2.2 cd;have s4:=jM hm ht (k:=k') (show i<=m by omega) oz n1 n4 cX.take cY.drop;have s5:=jM hm ht (k:=k') (show i<=m by omega) oz n2 n3 cX.drop cY.take;have hrt:=C3 (ts:=ts) (k:=k') (a:=a) (b:=b) rfl (by rw[<- hx,<- hy];exact h0) (by rw[<- hx,<- hy];exact hmax);rw[<- hx,<- hy,<- hX,<- hY]at hrt;have w1:=qV x n oz oz;have w2:=qV y n oz oz;rw[hnn,<- hX]at w1;rw[hnn,<- hY]at w2;rw[<- hnn]at w1 w2;have pw:=rA n oz;rw[show kE n=i+1 by rw[hnn];exact(mb oz).1,show j8 n=true by rw[hnn];exact(mb oz).2]at pw;refine gc w1 ?_;refine gc w2 ?_;refine gc pw ?_;refine gs (eH (.tmp rfl) (.const _) oz (show _=((2^i:Nat):Int) by rw[fL oz,hnn,fh]) rfl) ?_;refine gs (cR (.tmp rfl) (.none _) (.some _ (.tmp rfl) oz) T67 rfl T45 rfl oz (by simp only[length_map];omega) rfl) ?_;refine gs (eH (.tmp rfl) (.const _) oz (show _=((2^i:Nat):Int) by rw[fL oz,hnn,fh]) rfl) ?_;refine gs (cR (.tmp rfl) (.some _ (.tmp rfl) oz) (.none _) T67 rfl T45 rfl (by simp only[length_map];omega) oz rfl) ?_;refine gs (eH (.tmp rfl) (.const _) oz (show _=((2^i:Nat):Int) by rw[fL oz,hnn,fh]) rfl) ?_;refine gs (cR (.tmp rfl) (.none _) (.some _ (.tmp rfl) oz) T67 rfl T45 rfl oz (by simp only[length_map];omega) rfl) ?_;refine gs (eH (.tmp rfl) (.const _) oz (show _=((2^i:Nat):Int) by rw[fL oz,hnn,fh]) rfl) ?_;refine gs (cR (.tmp rfl) (.some _ (.tmp rfl) oz) (.none _) T67 rfl T45 rfl (by simp only[length_map];omega) oz rfl) ?_;refine gD ?_ (10,0);refine gW (Wk.of (sl:=[(3,some (.ptr 3 0)),(7,some (i64 n)),(8,some (i64 ((i+1:Nat):Int))),(10,some (nA (X.take (2^i)))),(11,some (nA (X.drop (2^i)))),(12,some (nA (Y.take (2^i)))),(13,some (nA (Y.drop (2^i))))]) (hp:=[(3,some (.box [.lst 1 R]))]) (.k (.k (.k (.cons rfl (Sub.of (kO X (2^i))) (.cons rfl (Sub.of (lL X (2^i))) (.cons rfl (Sub.of (kO Y (2^i))) (.cons rfl (Sub.of (lL Y (2^i))) .nil))))))) (.k .nil)) ?_
 refine gc (ih k' oz i _ _ e f oz oz n1 n3 cX.take cY.take oz) ?_;refine gc (ih k' oz i _ _ e f oz oz n2 n4 cX.drop cY.drop oz) ?_;refine ga (show _=(i:Int) by rw[dB oz];omega) ?_;refine gi (hR i oz) ?_;refine gc (ih k' oz i _ _ _ _ oz oz s2.1 nd s2.2.2 cd oz) ?_;refine gc (ql _ _ (fun q hq=>s1.2.2.qs oz hq) (fun q hq=>s3.2.2.qs oz hq) (by have:=s1.1.le;omega) (by have:=s3.1.le;omega)) ?_;refine gD ?_;refine gc (ih k' oz i _ _ e f oz oz n1 n4 cX.take cY.drop oz) ?_;refine gc (ih k' oz i _ _ e f oz oz n2 n3 cX.drop cY.take oz) ?_;refine gc (ql _ _ (fun q hq=>s4.2.2.qs oz hq) (fun q hq=>s5.2.2.qs oz hq) (by have:=s4.1.le;omega) (by have:=s5.1.le;omega)) ?_;refine gD ?_;refine gs (eH (.tmp rfl) (.const _) oz (show _=((2^i:Nat):Int) by rw[fL oz,hnn,fh]) rfl) ?_;refine gt (ay (yb 900 rfl _ (2^i) (by have:=s1.1.le;have:=s3.1.le;rw[d9];omega) oz) (bB rfl rfl) aE rfl rfl) ?_;refine gs (eH (.tmp rfl) (.const _) oz (show _=((2^i:Nat):Int) by rw[fL oz,hnn,fh]) rfl) ?_;refine gc (qV _ (2^i) (by have:=s4.1.le;have:=s5.1.le;rw[d9];omega) oz) ?_;refine gs (qi (.tmp rfl) rfl (by have:=s1.1.le;have:=s3.1.le;rw[length_map,dI (by rw[d9];omega)]) (.tmp rfl) T67 rfl T45 rfl rfl (by have:=s4.1.le;have:=s5.1.le;rw[length_map,dI (by rw[d9];omega)];show(2^i+2^i)*56<=140737488355328;omega) rfl rfl) ?_;refine ae ?_;rw[hrt,<- map_append];rfl
theorem Re(ts:LL)(m r:Nat)(ht:iz ts m r)(hm:m<=5)(R:List AV)(hR:∀j,j<m->R[j]?=some (nA (ts.getD j [])))(i n:Nat)(a:List Rat)(e:Nat)(hi:i+1<=m)(hnn:n=2^(i+1))(hal:a.length=2^(i+1))(ca:Cb e a)(hs:4*e+3*eB r i+r+1<4398046511104) :
  FP 278 [.agg [.lst 1 R],nA a,i64 n] (nA (ow ts i a)):=by
 have hp2:=Nat.two_pow_pos i;have hpi:2^i<=32:=b8 (b:=5) oz;have hps:2^(i+1)=2*2^i:=by rw[Nat.pow_succ];omega
 have n1:Nl i (a.take (2^i)):=.inr ⟨i,le_refl _,fE hal⟩;have n2:Nl i (a.drop (2^i)):=.inr ⟨i,le_refl _,fY hal⟩;have nd:=ht.1 i oz;have cd:=ht.2.cb i;have s1:=jM hm ht (k:=i) (show i<=m by omega) oz n1 n1 ca.take ca.take;have s2:=jM hm ht (k:=i) (show i<=m by omega) oz n2 n2 ca.drop ca.drop;have s3:=jM hm ht (k:=i) (show i<=m by omega) oz s2.1 nd s2.2.2 cd;have w1:=qV a n oz oz;rw[show aQ a n=a by unfold aQ;rw[hnn,hal];simp]at w1;have pw:=rA n oz;rw[show kE n=i+1 by rw[hnn];exact(mb oz).1,show j8 n=true by rw[hnn];exact(mb oz).2]at pw;refine af func278 ?_;refine gc w1 ?_;refine gc pw ?_;refine gs (eH (.tmp rfl) (.const _) oz (show _=((2^i:Nat):Int) by rw[fL oz,hnn,fh]) rfl) ?_;refine gs (cR (.tmp rfl) (.none _) (.some _ (.tmp rfl) oz) T67 rfl T45 rfl oz (by simp only[length_map];omega) rfl) ?_;refine gs (eH (.tmp rfl) (.const _) oz (show _=((2^i:Nat):Int) by rw[fL oz,hnn,fh]) rfl) ?_;refine gs (cR (.tmp rfl) (.some _ (.tmp rfl) oz) (.none _) T67 rfl T45 rfl (by simp only[length_map];omega) oz rfl) ?_;refine gD ?_ (4,0);refine gW (Wk.of (sl:=[(3,some (.ptr 3 0)),(7,some (i64 ((i+1:Nat):Int))),(9,some (nA (a.take (2^i)))),(10,some (nA (a.drop (2^i))))]) (hp:=[(3,some (.box [.lst 1 R]))]) (.k (.k (.cons rfl (Sub.of (kO a (2^i))) (.cons rfl (Sub.of (lL a (2^i))) .nil)))) (.k .nil)) ?_;refine gc (uV ts m r ht hm R hR i i _ _ e e oz oz n1 n1 ca.take ca.take oz) ?_;refine gc (uV ts m r ht hm R hR i i _ _ e e oz oz n2 n2 ca.drop ca.drop oz) ?_;refine ga (show _=(i:Int) by rw[dB oz];omega) ?_;refine gi (hR i oz) ?_;refine gc (uV ts m r ht hm R hR i i _ _ _ _ oz oz s2.1 nd s2.2.2 cd oz) ?_;refine gc (zG _ (fun q hq=>s3.2.2.qs oz hq) (by have:=s3.1.le;omega)) ?_;refine gc (ql _ _ (fun q hq=>s1.2.2.qs oz hq) (fun q hq=>s3.2.2.minus.qs oz hq) (by have:=s1.1.le;omega) (by have:=s3.1.le;rw[iy];omega)) ?_;refine gD ?_;refine ae ?_;rfl
theorem xO(ts:LL)(m r:Nat)(ht:iz ts m r)(hm:m<=5)(hpos:∀j,j<m->0<=T.sgn (aj ts) j (aj ts j))(R:List AV)(hR:∀j,j<m->R[j]?=some (nA (ts.getD j [])))(j:Nat):∀(a:List Rat)(e:Nat),j<=m->Nl j a->Cb e a->sB r j e<4398046511104 ->
  FP 170 [.agg [.lst 1 R],nA a] (i64 (T.sgn (aj ts) j (ad j a))):=by
 induction j using Nat.strongRecOn
 rename_i j ih;intro a e hj ha ca hs;have hse:=oF r j e;obtain⟨s,hsa⟩:∃s,s=sh j (ad j a):=⟨_,rfl⟩
 have hsd:ad j s=ad j a:=by rw[hsa,a6]
 have hsn:Nl j s:=by rw[hsa];exact eM j _
 have cs:Cb e s:=by rw[hsa];exact ca.sh ha
 have hls:=hsn.len5 oz;rw[<- hsd];refine af func170 ?_;refine gc (hsa▸oX a oz ha) ?_;refine gl ?_;refine gC (fun t15=>?_) (fun t15=>?_)
 ·have h1 : s=[] := List.length_eq_zero_iff.1 (by have := t15;simp only[aa,beq_iff_eq]at this;omega);refine ae ?_;rw[h1,gQ,T.sgn_zero];rfl
 have h1:s.length≠0:=by have:=t15;simp only[aa,beq_eq_false_iff_ne,ne_eq]at this;omega
 refine gl ?_;refine gC (fun t19=>?_) (fun t19=>?_)
 ·have h2 : s.length = 1 := by have := t19; simp only [aa, beq_iff_eq] at this; omega
  obtain⟨q,rfl⟩:=List.length_eq_one_iff.1 h2;refine gi rfl ?_;refine gc (uW (rt q) (cs.qs oz (by simp:q∈[q])).ok) ?_;refine ae ?_;rw[lJ,T.sgn_ofQ,bA]
 have h2:s.length≠1:=by have:=t19;simp only[aa,beq_eq_false_iff_ne,ne_eq]at this;omega
 obtain⟨i,hij,hsl⟩:∃i,i+1<=j/\s.length=2^(i+1):=by
  rcases nN hsn with h |h |h
  ·exact absurd h h1
  ·exact absurd h h2
  ·exact h
 have hp2:=Nat.two_pow_pos i;have hpi:2^i<=32:=b8 (b:=5) oz;have hps:2^(i+1)=2*2^i:=by rw[Nat.pow_succ];omega
 have n1:Nl i (s.take (2^i)):=.inr ⟨i,le_refl _,fE hsl⟩;have n2:Nl i (s.drop (2^i)):=.inr ⟨i,le_refl _,fY hsl⟩;have nd:=ht.1 i oz;have cd:=ht.2.cb i;obtain⟨nn,dn,cn⟩:=Q9 hm ht oz hsl cs;have b1:sB r i (4*e+3*eB r i+r+1)<=sB r j e:=q6 r e hij;have b2:sB r i e<=sB r i (4*e+3*eB r i+r+1):=nO r i oz;have b3:sB r i r<=sB r i (4*e+3*eB r i+r+1):=nO r i oz;have b4:=oF r i (4*e+3*eB r i+r+1);have k1:=ih i oz (s.take (2^i)) e oz n1 cs.take oz;have k2:=ih i oz (s.drop (2^i)) e oz n2 cs.drop oz;have k3:=ih i oz _ r oz nd cd oz;have k4:=ih i oz _ _ oz nn cn oz
 have v3:T.sgn (aj ts) i (ad i (ts.getD i []))=0\/T.sgn (aj ts) i (ad i (ts.getD i []))=1:=by
  have h9:0<=T.sgn (aj ts) i (ad i (ts.getD i [])):=hpos i oz;have:=T.sgn_cases (aj ts) i (ad i (ts.getD i []));omega
 have hres:T.sgn (aj ts) j (ad j s)=T.sgn3 (T.sgn (aj ts) i (ad i (s.take (2^i)))) (T.sgn (aj ts) i (ad i (s.drop (2^i)))) (T.sgn (aj ts) i (ad i (ts.getD i []))) (T.sgn (aj ts) i (ad i (ow ts i s))):=by
  rw[tB _ oz hij,dn];rfl
 rw[J0 v3]at hres;have v1:=T.sgn_cases (aj ts) i (ad i (s.take (2^i)));have v2:=T.sgn_cases (aj ts) i (ad i (s.drop (2^i)));have v4:=T.sgn_cases (aj ts) i (ad i (ow ts i s));have pw:=rA s.length oz;rw[show kE s.length=i+1 by rw[hsl];exact(mb oz).1,show j8 s.length=true by rw[hsl];exact(mb oz).2]at pw;refine gc pw ?_;refine ga (show _=(i:Int) by rw[dB oz];omega) ?_;refine gi (hR i oz) ?_;refine gs (eH (.tmp rfl) (.const _) oz (show _=((2^i:Nat):Int) by rw[fL oz,hsl,fh]) rfl) ?_;refine gs (cR (.tmp rfl) (.none _) (.some _ (.tmp rfl) oz) T67 rfl T45 rfl oz (by simp only[length_map];omega) rfl) ?_;refine gc (by have h9:=k1;rw[<- kO]at h9;exact h9) ?_;refine gs (eH (.tmp rfl) (.const _) oz (show _=((2^i:Nat):Int) by rw[fL oz,hsl,fh]) rfl) ?_;refine gs (cR (.tmp rfl) (.some _ (.tmp rfl) oz) (.none _) T67 rfl T45 rfl (by simp only[length_map];omega) oz rfl) ?_;refine gc (by have h9:=k2;rw[<- lL]at h9;exact h9) ?_;refine gc k3 ?_;refine ga (zC v2 (.inr v3)) ?_;refine gD ?_;refine gC (fun t57=>?_) (fun t57=>?_)
 ·have e2:=yQ t57;refine ae ?_;rw[hres,if_pos e2]
 have e2:=Bc t57;refine gC (fun t60=>?_) (fun t60=>?_)
 ·have e3 : T.sgn (aj ts) i (ad i (s.take (2 ^ i))) = 0 := by simpa [aa] using t60
  refine ae ?_;rw[hres,if_neg e2,if_pos e3];rfl
 have e3:¬T.sgn (aj ts) i (ad i (s.take (2^i)))=0:=by simpa[aa]using t60
 refine gc (Re ts m r ht hm R hR i s.length s e oz hsl hsl cs oz) ?_;refine gc k4 ?_;refine ga (zC v1 v4) ?_;refine gD ?_;refine ae ?_;rw[hres,if_neg e2,if_neg e3];rfl
theorem Cr(rs:List (List Rt))(r:Nat)(h:TR rs r):FP 89 [cf rs] (i64 (a9 rs)):=by
 have hll:=h.ll;have hr:=h.le;refine af func89 ?_;refine gl ?_;refine gC (fun t9=>?_) (fun t9=>?_)
 ·have h5 : 5 < rs.length := by have := t9; simp only [aa, decide_eq_true_eq] at this; omega
  refine ae ?_;rw[Cp h5];rfl
 have h5:rs.length<=5:=by have:=t9;simp only[aa,decide_eq_false_iff_not]at this;omega
 refine gl ?_;refine aM [1,11,12] [1] (fun(k:Nat)=>[(13,some (i64 k))]) (fun _=>[]) (fun k=>k<=rs.length/\∀j,j<k->iC rs j) (fun k=>rs.length-k) 0 ⟨zero_le _,fun j hj=>by omega⟩ ?_;rintro k ⟨hk,hj⟩ K1 J1;refine gC (fun t14=>?_) (fun t14=>?_)
 ·have hin : k < rs.length := by simpa [aa] using t14
  obtain⟨d,hd⟩:=aw hin;have hdm:=mem_of_getElem? hd;have hdl:=h.len d hdm;refine gi (ax hd) ?_;refine gl ?_;refine gs (gk (.const _) (.tmp rfl) oz (mt oz) rfl) ?_;refine gC (fun t22=>?_) (fun t22=>?_)
  ·have h1 : d.length ≠ 2 ^ k := by have := t22; simp only [aa, bne_iff_ne, ne_eq] at this; omega
   refine ae ?_;rw[Eu h5 hd hj h1];rfl
  have h1:d.length=2^k:=by have:=t22;simp only[aa,bne_eq_false_iff_eq]at this;omega
  have hnu:=GK k oz d (h.ok d hdm) hdl;refine gc hnu ?_;refine gC (fun t27=>?_) (fun t27=>?_)
  ·have h2:=fZ t27;refine ae ?_;rw[BP h5 hd hj h1 h2]
  have h2:=fI t27;have hts:=HU (ts:=llq rs) (fun j hjk=>(hj j hjk).nl) h.rb;have hq:=uy h2 (h.ok d hdm);have hcb:Cb r (lq d):=by have:=h.rb.cb k;rw[r7,getD_eq_getElem?_getD,hd]at this;exact this
  have hsg:FP 170 [cf rs,nR d] (i64 (T.sgn (aj (llq rs)) k (ad k (lq d)))):=by
   have h9:=xO ((llq rs).take k) k r hts oz (fun j hjk=>by rw[T.sgn_congr j (fun i hi=>vZ (show i<k by omega)),vZ hjk];exact(hj j hjk).2.2) (rs.map nR) (fun j hjk=>LR h.ok (show k<=rs.length by omega) hj hjk) k (lq d) r (le_refl _) hq.2 hcb (mT (le_refl k) (by have:=h.three;omega) hr (by have:=km k;omega));rw[T.sgn_congr k (fun j hjk=>vZ hjk)]at h9;rw[hq.1,df];rw[<- hq.1];exact h9
  refine gc hsg ?_;refine gC (fun t32=>?_) (fun t32=>?_)
  ·have h3 : T.sgn (aj (llq rs)) k (ad k (lq d)) < 0 := by simpa [aa] using t32
   refine ae ?_;rw[DG h5 hd hj h1 h2 h3];rfl
  have h3:¬T.sgn (aj (llq rs)) k (ad k (lq d))<0:=by simpa[aa]using t32
  refine ga aH ?_;exact aG J1 (k+1) ⟨hin,fun j hjk=>by rcases lt_or_ge j k with h9 |h9;exact hj j h9;(have:j=k:=by omega);subst this;exact DK hd h1 h2 h3⟩
 have hin:k=rs.length:=by have:rs.length<=k:=(by simpa[aa]using t14);omega
 subst hin;refine ae ?_;rw[Dg h5 hj];rfl
theorem pZ(rs:List (List Rt))(r:Nat)(h:TR rs r)(xs:List (List Rt))(hx:∀a∈xs,(∀x∈a,x.ok)/\a.length<=281474976710656)(hl:xs.length<=281474976710656):FP 169 [cf rs,.lst 1 (xs.map nR)] (i64 (aV rs xs)):=by
 refine af func169 ?_;refine gc (Cr rs r h) ?_;refine gC (fun t12=>?_) (fun t12=>?_)
 ·have h1:=fZ t12;refine ae ?_;rw[vE h1]
 have h1:=fI t12;have h5:rs.length<=5:=by have:=(cA h h1).1.five;rwa [length_map]at this
 refine gl ?_;refine aM [2,14,15] [2] (fun(i:Nat)=>[(16,some (i64 i))]) (fun _=>[]) (fun i=>i<=xs.length/\∀x∈xs.take i,bN rs.length x=0) (fun i=>xs.length-i) 0 ⟨zero_le _,fun x hx=>by simp at hx⟩ ?_;rintro i ⟨hi,hj⟩ K1 J1;refine gC (fun t17=>?_) (fun t17=>?_)
 ·have hin : i < xs.length := by simpa [aa] using t17
  obtain⟨a,ha⟩:=aw hin;have hok:=hx a (mem_of_getElem? ha);refine gi (ax ha) ?_;refine gl ?_;refine gc (GK rs.length h5 a hok.1 hok.2) ?_;refine gC (fun t26=>?_) (fun t26=>?_)
  ·have h2:=fZ t26;refine ae ?_;rw[sC h1 ha hj h2]
  have h2:=fI t26;refine ga aH ?_;exact aG J1 (i+1) ⟨hin,fun x hx=>by rw[dl ha]at hx;rcases List.mem_append.1 hx with h9 |h9;exact hj x h9;(rw[List.mem_singleton.1 h9];exact h2)⟩
 have hin:i=xs.length:=by have:xs.length<=i:=(by simpa[aa]using t17);omega
 subst hin;rw[take_length]at hj;refine ae ?_;rw[n8 h1 hj];rfl
theorem Ss(rs:List (List Rt))(r:Nat)(h:TR rs r)(a b:List Rt)(e f:Nat)(ha:NR a e)(hb:NR b f)(he:e+f<=lm rs.length) :
  FP 173 [cf rs,nR a,nR b] (.tup [nA (if aV rs [a,b]=0 then sh rs.length (T.add rs.length (ad rs.length (lq a)) (ad rs.length (lq b)))else[]),i64 (aV rs [a,b])]):=by
 have hlm:=fS rs.length;refine af func173 ?_;refine gc (pZ rs r h [a,b] (my ha hb) (by simp)) ?_;refine gC (fun t15=>?_) (fun t15=>?_) (st2:=(77777,0))
 ·have h1:=fZ t15;refine gR ?_;exact dp (by rw[if_neg h1];exact Sub.tup (.cons (.nil _ _ _) (.cons (.refl _) .nil)))
 have h1:=fI t15;obtain⟨h2,h3⟩:=jw h1;obtain⟨tw,e0⟩:=cA h h2;obtain⟨e1,na⟩:=ha.num (h3 a (by simp));obtain⟨e2,nb⟩:=hb.num (h3 b (by simp));have h5:rs.length<=5:=by have:=tw.five;rwa [length_map]at this
 have hla:=na.len5 h5;have hlb:=nb.len5 h5;have qa:∀q∈lq a,Qs q:=fun q hq=>ha.cb.qs oz hq
 have qb:∀q∈lq b,Qs q:=fun q hq=>hb.cb.qs oz hq
 have qp:∀q∈bX (lq a) (lq b),Qs q:=fun q hq=>(ha.cb.plus hb.cb).qs oz hq
 have np:=nk na nb;refine gW (Wk.of (sl:=[(1,some (nA (lq a))),(2,some (nA (lq b))),(3,some (.ptr 3 0)),(8,some (i64 (aV rs [a,b])))]) (hp:=[(3,some (.box [.lst 1 (rs.map nR)]))]) (.cons rfl (Sub.of e1) (.cons rfl (Sub.of e2) (.k (.k .nil)))) (.k .nil)) ?_;refine gc (ql _ _ qa qb oz oz) ?_;refine gc (oX _ h5 np) ?_;refine bj ?_;rw[if_pos h1,h1,ic];rfl
theorem LU(rs:List (List Rt))(r:Nat)(h:TR rs r)(a b:List Rt)(e f:Nat)(ha:NR a e)(hb:NR b f)(he:e+f<=lm rs.length) :
  FP 359 [cf rs,nR a,nR b] (.tup [nA (if aV rs [a,b]=0 then sh rs.length (T.add rs.length (ad rs.length (lq a)) (T.neg rs.length (ad rs.length (lq b))))else[]),i64 (aV rs [a,b])]):=by
 have hlm:=fS rs.length;refine af func359 ?_;refine gc (pZ rs r h [a,b] (my ha hb) (by simp)) ?_;refine gC (fun t15=>?_) (fun t15=>?_) (st2:=(77777,0))
 ·have h1:=fZ t15;refine gR ?_;exact dp (by rw[if_neg h1];exact Sub.tup (.cons (.nil _ _ _) (.cons (.refl _) .nil)))
 have h1:=fI t15;obtain⟨h2,h3⟩:=jw h1;obtain⟨tw,e0⟩:=cA h h2;obtain⟨e1,na⟩:=ha.num (h3 a (by simp));obtain⟨e2,nb⟩:=hb.num (h3 b (by simp));have h5:rs.length<=5:=by have:=tw.five;rwa [length_map]at this
 have hla:=na.len5 h5;have hlb:=nb.len5 h5;have qa:∀q∈lq a,Qs q:=fun q hq=>ha.cb.qs oz hq
 have qb:∀q∈lq b,Qs q:=fun q hq=>hb.cb.qs oz hq
 have qm:∀q∈cD (lq b),Qs q:=fun q hq=>hb.cb.minus.qs oz hq
 have qp:∀q∈bX (lq a) (cD (lq b)),Qs q:=fun q hq=>(ha.cb.plus hb.cb.minus).qs oz hq
 have np:=nk na (oc nb);refine gW (Wk.of (sl:=[(1,some (nA (lq a))),(2,some (nA (lq b))),(3,some (.ptr 3 0)),(8,some (i64 (aV rs [a,b])))]) (hp:=[(3,some (.box [.lst 1 (rs.map nR)]))]) (.cons rfl (Sub.of e1) (.cons rfl (Sub.of e2) (.k (.k .nil)))) (.k .nil)) ?_;refine gc (zG _ qb oz) ?_;refine gc (ql _ _ qa qm oz (by rw[iy];omega)) ?_;refine gc (oX _ h5 np) ?_;refine bj ?_;rw[if_pos h1,h1,ic,lS];rfl
theorem Tz(rs:List (List Rt))(r:Nat)(h:TR rs r)(a b:List Rt)(e f:Nat)(ha:NR a e)(hb:NR b f)(he:e+f<=lm rs.length) :
  FP 92 [cf rs,nR a,nR b] (.tup [nA (if aV rs [a,b]=0 then sh rs.length (T.mul (aj (llq rs)) rs.length (ad rs.length (lq a)) (ad rs.length (lq b)))else[]),i64 (aV rs [a,b])]):=by
 have hr:=h.le;have hlm:=fS rs.length;refine af func92 ?_;refine gc (pZ rs r h [a,b] (my ha hb) (by simp)) ?_;refine gC (fun t15=>?_) (fun t15=>?_) (st2:=(77777,0))
 ·have h1:=fZ t15;refine gR ?_;exact dp (by rw[if_neg h1];exact Sub.tup (.cons (.nil _ _ _) (.cons (.refl _) .nil)))
 have h1:=fI t15;obtain⟨h2,h3⟩:=jw h1;obtain⟨tw,e0⟩:=cA h h2;obtain⟨e1,na⟩:=ha.num (h3 a (by simp));obtain⟨e2,nb⟩:=hb.num (h3 b (by simp));have hlen:(llq rs).length=rs.length:=length_map _;have h5:rs.length<=5:=by have:=tw.five;omega
 have hla:=na.len5 h5;have hlb:=nb.len5 h5;have htw:=tw.ok;rw[hlen]at htw;have hE:=ES r h5;have np:=jM h5 htw (k:=rs.length) (le_refl rs.length) (le_refl _) na nb ha.cb hb.cb;have hti:=uV (llq rs) rs.length r htw h5 ((llq rs).map nA) (fun j hj=>p5 oz) rs.length rs.length _ _ e f (le_refl _) (le_refl _) na nb ha.cb hb.cb oz;refine gW (Wk.of (sl:=[(1,some (nA (lq a))),(2,some (nA (lq b))),(3,some (.ptr 3 0)),(8,some (i64 (aV rs [a,b])))]) (hp:=[(3,some (.box [.lst 1 ((llq rs).map nA)]))]) (.cons rfl (Sub.of e1) (.cons rfl (Sub.of e2) (.k (.k .nil)))) (.cons rfl (BlkSub.bL (.cons (.of (kq e0)) .nil) rfl) .nil)) ?_;refine gc hti ?_;refine gc (oX _ h5 np.1) ?_;refine bj ?_;rw[if_pos h1,h1,np.2.1];rfl
theorem JQ(rs:List (List Rt))(r:Nat)(h:TR rs r)(a b:List Rt)(e f:Nat)(ha:NR a e)(hb:NR b f)(he:e+f+1<=lm rs.length) :
  FP 83 [cf rs,nR a,nR b] (.tup [i64 (if aV rs [a,b]=0 then T.sgn (aj (llq rs)) rs.length (T.add rs.length (ad rs.length (lq a)) (T.neg rs.length (ad rs.length (lq b))))else 0),i64 (aV rs [a,b])]):=by
 have hr:=h.le;have hlm:=fS rs.length;refine af func83 ?_;refine gc (pZ rs r h [a,b] (my ha hb) (by simp)) ?_;refine gC (fun t15=>?_) (fun t15=>?_) (st2:=(77777,0))
 ·have h1:=fZ t15;refine bj ?_;rw[if_neg h1];rfl
 have h1:=fI t15;obtain⟨h2,h3⟩:=jw h1;obtain⟨tw,e0⟩:=cA h h2;obtain⟨e1,na⟩:=ha.num (h3 a (by simp));obtain⟨e2,nb⟩:=hb.num (h3 b (by simp));have hlen:(llq rs).length=rs.length:=length_map _;have h5:rs.length<=5:=by have:=tw.five;omega
 have hla:=na.len5 h5;have hlb:=nb.len5 h5;have htw:=tw.ok;rw[hlen]at htw;have qa:∀q∈lq a,Qs q:=fun q hq=>ha.cb.qs oz hq
 have qb:∀q∈lq b,Qs q:=fun q hq=>hb.cb.qs oz hq
 have qm:∀q∈cD (lq b),Qs q:=fun q hq=>hb.cb.minus.qs oz hq
 have np:=nk na (oc nb);have hsg:=xO (llq rs) rs.length r htw h5 (fun j hj=>tw.pos j oz) ((llq rs).map nA) (fun j hj=>p5 oz) rs.length _ _ (le_refl _) np (ha.cb.plus hb.cb.minus) (mT (le_refl rs.length) (by have:=tw.three;omega) hr oz);refine gW (Wk.of (sl:=[(1,some (nA (lq a))),(2,some (nA (lq b))),(3,some (.ptr 3 0)),(8,some (i64 (aV rs [a,b])))]) (hp:=[(3,some (.box [.lst 1 ((llq rs).map nA)]))]) (.cons rfl (Sub.of e1) (.cons rfl (Sub.of e2) (.k (.k .nil)))) (.cons rfl (BlkSub.bL (.cons (.of (kq e0)) .nil) rfl) .nil)) ?_;refine gc (zG _ qb oz) ?_;refine gc (ql _ _ qa qm oz (by rw[iy];omega)) ?_;refine gc hsg ?_;refine gD ?_;refine bj ?_;rw[if_pos h1,h1,ic,lS];rfl
theorem Rx(rs:List (List Rt))(r:Nat)(h:TR rs r)(a:List Rt)(e:Nat)(ha:NR a e)(he:e<=lm rs.length) :
  FP 91 [cf rs,nR a] (.tup [i64 (if aV rs [a]=0 then T.sgn (aj (llq rs)) rs.length (ad rs.length (lq a))else 0),i64 (aV rs [a])]):=by
 have hr:=h.le;have hlm:=fS rs.length;refine af func91 ?_;refine gc (pZ rs r h [a] (fun x hx=>by rw[List.mem_singleton.1 hx];exact⟨ha.ok,ha.len⟩) (by simp)) ?_;refine gC (fun t12=>?_) (fun t12=>?_) (st2:=(77777,0))
 ·have h1:=fZ t12;refine bj ?_;rw[if_neg h1];rfl
 have h1:=fI t12;obtain⟨h2,h3⟩:=jw h1;obtain⟨tw,e0⟩:=cA h h2;obtain⟨e1,na⟩:=ha.num (h3 a (by simp));have hlen:(llq rs).length=rs.length:=length_map _;have h5:rs.length<=5:=by have:=tw.five;omega
 have htw:=tw.ok;rw[hlen]at htw;have hsg:=xO (llq rs) rs.length r htw h5 (fun j hj=>tw.pos j oz) ((llq rs).map nA) (fun j hj=>p5 oz) rs.length _ _ (le_refl _) na ha.cb (mT (le_refl rs.length) (by have:=tw.three;omega) hr oz);refine gW (Wk.of (sl:=[(1,some (nA (lq a))),(2,some (.ptr 2 0)),(6,some (i64 (aV rs [a])))]) (hp:=[(2,some (.box [.lst 1 ((llq rs).map nA)]))]) (.cons rfl (Sub.of e1) (.k (.k .nil))) (.cons rfl (BlkSub.bL (.cons (.of (kq e0)) .nil) rfl) .nil)) ?_;refine gc hsg ?_;refine bj ?_;rw[if_pos h1,h1];rfl
theorem Jn(rs:List (List Rt))(r:Nat)(h:TR rs r)(a:List Rt)(e:Nat)(ha:NR a e)(he:e<=lm rs.length) :
  FP 90 [cf rs,nR a] (.tup [nA (if aV rs [a]=0 then aQ (lq a) (2^rs.length)else[]),i64 (aV rs [a])]):=by
 have hlm:=fS rs.length;refine af func90 ?_;refine gc (pZ rs r h [a] (fun x hx=>by rw[List.mem_singleton.1 hx];exact⟨ha.ok,ha.len⟩) (by simp)) ?_;refine gC (fun t12=>?_) (fun t12=>?_) (st2:=(77777,0))
 ·have h1:=fZ t12;refine gR ?_;exact dp (by rw[if_neg h1];exact Sub.tup (.cons (.nil _ _ _) (.cons (.refl _) .nil)))
 have h1:=fI t12;obtain⟨h2,h3⟩:=jw h1;obtain⟨tw,e0⟩:=cA h h2;obtain⟨e1,na⟩:=ha.num (h3 a (by simp));have hlen:(llq rs).length=rs.length:=length_map _;have h5:rs.length<=5:=by have:=tw.five;omega
 have hp5:2^rs.length<=32:=b8 (b:=5) h5;refine gW (Wk.of (sl:=[(1,some (nA (lq a))),(2,some (.ptr 2 0)),(6,some (i64 (aV rs [a])))]) (hp:=[(2,some (.box [.lst 1 (rs.map nR)]))]) (.cons rfl (Sub.of e1) (.k (.k .nil))) (.k .nil)) ?_;refine gl ?_;refine gs (gk (.const _) (.tmp rfl) oz (mt oz) rfl) ?_;refine gc (qV _ _ na.le oz) ?_;refine bj ?_;rw[if_pos h1,h1];rfl
theorem OV(x:Rt)(hx:x.ok)(hs:Qs x.q):FP 37 [x.av] (nA (sh 0 (x.q:Rat))):=by
 have hadd:=wg x (rt 0) hx Qs.zero.ok;rw[sN]at hadd;refine af func37 ?_;refine gc (uW x hx) ?_;refine gC (fun t5=>?_) (fun t5=>?_)
 ·have h0 : x.q=0 := oG (by simpa[aa]using t5);refine gR ?_;exact iV (by rw[h0];exact Sub.nil _ _ _)
 have h0:x.q≠0:=fun h=>by rw[h]at t5;cases t5
 refine gc (Con.sA (.cons (.refl _) (.cons gK .nil)) hadd) ?_;refine ae ?_;have:sh 0 (x.q:Rat)=[x.q]:=if_neg h0;rw[this];rfl
theorem xb{p q:Rat}(hp:Qs p)(hq:Qs q):FP 233 [qA p,qA q] (qA (p+q)):=by
 have h:=ou (rt p) (rt q) hp.ok hq.ok;rw[bA,bA]at h;exact h
theorem wc{p q:Rat}(hp:Qs p)(hq:Qs q):FP 252 [qA p,qA q] (qA (p-q)):=by
 have h:=QC (rt p) (rt q) hp.ok hq.ok;rw[bA,bA]at h;exact h
theorem tM{p q:Rat}(hp:Qs p)(hq:Qs q):FP 274 [qA p,qA q] (qA (p*q)):=by
 have h:=De (rt p) (rt q) hp.ok hq.ok;rw[bA,bA]at h;exact h
theorem Kx{p q:Rat}(hp:Qs p)(hq:Qs q):FP 388 [qA p,qA q] (.tup [qA (p/q),bp (if q=0 then 8 else 0)]):=by
 have h:=Bo (rt p) (rt q) hp.ok hq.ok;rw[bA,bA]at h;exact h
theorem Rv{p:Rat}(hp:Qs p):FP 216 [qA p] (i64 (bH p)):=by
 have h:=vC (rt p) hp.ok;rw[bA]at h;exact h
theorem ye{p q:Rat}(hp:Qs p)(hq:Qs q):FP 104 [qA p,qA q] (qA (p+q)):=by
 have h:=wg (rt p) (rt q) hp.ok hq.ok;rw[bA,bA]at h;exact h
theorem Ol{p q:Rat}(hp:Qs p)(hq:Qs q):FP 107 [qA p,qA q] (qA (p-q)):=by
 have h:=Fk (rt p) (rt q) hp.ok hq.ok;rw[bA,bA]at h;exact h
theorem Ew{p q:Rat}(hp:Qs p)(hq:Qs q):FP 105 [qA p,qA q] (qA (p*q)):=by
 have h:=Ip (rt p) (rt q) hp.ok hq.ok;rw[bA,bA]at h;exact h
theorem UE{p q:Rat}(hp:Qs p)(hq:Qs q):FP 198 [qA p,qA q] (.tup [qA (p/q),i64 (if q=0 then 8 else 0)]):=by
 have h:=LP (rt p) (rt q) hp.ok hq.ok;rw[bA,bA]at h;exact h
theorem Ba(x:Tn)(hx:x.t.ok):FP 119 [x.av] (bp x.err):=by
 refine af func119 ?_;refine gc (sK x.t hx) ?_;refine bI (fun _=>(vC x.t hx)) ?_;refine gC (fun t16=>?_) (fun t16=>?_)
 ·have h0:=Tn.err_yes t16;refine ae ?_;rw[h0];rfl
 have h0:=Tn.err_no t16;refine ae ?_;rw[h0];rfl
theorem FW{p q:Rat}(hp:Qs p)(hq:Qs q):FP 349 [qA p,qA q] (qA (p/q)):=by
 refine af func349 ?_;refine gc (Kx hp hq) ?_;refine gC (fun t14=>?_) (fun t14=>?_)
 ·have h0:q=0:=by
   have:=de t14
   by_cases h:q=0
   ·exact h
   ·rw[if_neg h]at this;exact absurd rfl this
  refine gR ?_;exact iV (by rw[h0,ST];exact gK)
 refine ae ?_;rfl
theorem EM(half:Bool){t:Rat}{e:Nat}(ht:Qb e t)(he:e<=1000000):FP 245 [Tn.av ⟨rt t,half⟩] (.tup [qA (du half t),qA (dw half t)]):=by
 have qt:Qs t:=ht.qs oz;have m2:=ht.mul ht;have one:Qb 1 (((1:Int):Rat)):=Qb.one;have d:=one.add m2;refine af func245 ?_;refine gC (fun t8=>?_) (fun t8=>?_)
 ·have h0:half=true:=t8;refine gc (mo (-1) oz) ?_;refine gR ?_;exact dp (by subst h0;exact Sub.tup (.cons (.refl _) (.cons gK .nil)))
 have h0:half=false:=t8;refine gc (mo 1 oz) ?_;refine gc (tM qt qt) ?_;refine gD ?_;refine gc (xb (one.qs oz) (m2.qs oz)) ?_;refine gc (wc (one.qs oz) (m2.qs oz)) ?_;refine gc (FW ((one.sub m2).qs oz) (d.qs oz)) ?_;refine gc (xb qt qt) ?_;refine gc (FW ((ht.add ht).qs oz) (d.qs oz)) ?_;refine gD ?_;refine bj ?_;subst h0;rfl
theorem FK(x:Tn)(hx:x.t.ok){e:Nat}(hq:Qb e x.t.q)(he:e<=1000000):FP 139 [x.av] (.tup [qA (if x.err=0 then du x.half x.t.q else 0),bp x.err]):=by
 refine af func139 ?_;refine gc (Ba x hx) ?_;refine gC (fun t10=>?_) (fun t10=>?_)
 ·have h1:=de t10;refine gR ?_;exact dp (by rw[if_neg h1];exact Sub.tup (.cons gK (.cons (.refl _) .nil)))
 have h1:=cQ t10;have hd:=EM x.half hq he;rw[<- Rt.eq_rt hx (Tn.ok_valid h1)]at hd;refine gc hd ?_;refine bj ?_;rw[if_pos h1,h1];rfl
theorem Mg(x:Tn)(hx:x.t.ok){e:Nat}(hq:Qb e x.t.q)(he:e<=1000000):FP 140 [x.av] (.tup [qA (if x.err=0 then dw x.half x.t.q else 0),bp x.err]):=by
 refine af func140 ?_;refine gc (Ba x hx) ?_;refine gC (fun t10=>?_) (fun t10=>?_)
 ·have h1:=de t10;refine gR ?_;exact dp (by rw[if_neg h1];exact Sub.tup (.cons gK (.cons (.refl _) .nil)))
 have h1:=cQ t10;have hd:=EM x.half hq he;rw[<- Rt.eq_rt hx (Tn.ok_valid h1)]at hd;refine gc hd ?_;refine bj ?_;rw[if_pos h1,h1];rfl
theorem QM(x:Tn)(hx:x.t.ok):FP 102 [x.av] (i64 x.err):=by
 refine af func102 ?_;refine gc (rC x.t hx) ?_;refine bI (fun _=>(uW x.t hx)) ?_;refine gC (fun t16=>?_) (fun t16=>?_)
 ·have h0:=Tn.err_yes t16;refine ae ?_;rw[h0];rfl
 have h0:=Tn.err_no t16;refine ae ?_;rw[h0];rfl
theorem w6:FP 108 [] (qA 1):=by
 refine af func108 ?_;refine gc (mv 1 oz) ?_;refine ae ?_
 first |rfl |(simp;done)
theorem C7{p q:Rat}(hp:Qs p)(hq:Qs q):FP 106 [qA p,qA q] (qA (p/q)):=by
 refine af func106 ?_;refine gc (UE hp hq) ?_;refine ae ?_
 first |rfl |(simp;done)
theorem M4(half:Bool){t:Rat}{e:Nat}(ht:Qb e t)(he:e<=1000000):FP 38 [Tn.av ⟨rt t,half⟩] (qA (du half t)):=by
 have qt:Qs t:=ht.qs oz;have m2:=ht.mul ht;have d:=Qb.one.add m2;refine af func38 ?_;refine gC (fun t5=>?_) (fun t5=>?_)
 ·have h0:half=true:=t5;refine gc (mv (-1) oz) ?_;refine ae ?_;subst h0;rfl
 have h0:half=false:=t5;refine gc (Ew qt qt) ?_;refine gc w6 ?_;refine gc (Ol (Qb.one.qs oz) (m2.qs oz)) ?_;refine gc w6 ?_;refine gc (ye (Qb.one.qs oz) (m2.qs oz)) ?_;refine gc (C7 ((Qb.one.sub m2).qs oz) (d.qs oz)) ?_;refine gD ?_;refine ae ?_;subst h0;rfl
theorem Ku(half:Bool){t:Rat}{e:Nat}(ht:Qb e t)(he:e<=1000000):FP 39 [Tn.av ⟨rt t,half⟩] (qA (dw half t)):=by
 have qt:Qs t:=ht.qs oz;have m2:=ht.mul ht;have d:=Qb.one.add m2;refine af func39 ?_;refine gC (fun t4=>?_) (fun t4=>?_)
 ·have h0:half=true:=t4;refine gR ?_;exact iV (by subst h0;exact gK)
 have h0:half=false:=t4;refine gc (ye qt qt) ?_;refine gc w6 ?_;refine gc (Ew qt qt) ?_;refine gc (ye (Qb.one.qs oz) (m2.qs oz)) ?_;refine gc (C7 ((ht.add ht).qs oz) (d.qs oz)) ?_;refine gD ?_;refine ae ?_;subst h0;rfl
theorem xG{ts:LL}{r e f:Nat}(tw:Tw ts r){a b:List Rat}(ha:Nm ts.length e a)(hb:Nm ts.length f b)(he:e+f<=lm ts.length) :
  FP 329 [aI ts,nA a,nA b] (.tup [nA (sh ts.length (T.add ts.length (ad ts.length a) (ad ts.length b))),.v .nilIface]):=by
 have h:=UI (ts.map (List.map rt)) r tw.tr (a.map rt) (b.map rt) e f (ha.rt oz) (hb.rt oz) (by rw[length_map];exact he);have h0:aV (ts.map (List.map rt)) [a.map rt,b.map rt]=0:=mi tw ha hb;rw[h0,if_pos rfl,gT,df,df,cV,cV,length_map]at h;exact h
theorem oO{ts:LL}{r e f:Nat}(tw:Tw ts r){a b:List Rat}(ha:Nm ts.length e a)(hb:Nm ts.length f b)(he:e+f<=lm ts.length) :
  FP 163 [aI ts,nA a,nA b] (.tup [nA (sh ts.length (T.add ts.length (ad ts.length a) (T.neg ts.length (ad ts.length b)))),.v .nilIface]):=by
 have h:=RA (ts.map (List.map rt)) r tw.tr (a.map rt) (b.map rt) e f (ha.rt oz) (hb.rt oz) (by rw[length_map];exact he);have h0:aV (ts.map (List.map rt)) [a.map rt,b.map rt]=0:=mi tw ha hb;rw[h0,if_pos rfl,gT,df,df,cV,cV,length_map]at h;exact h
theorem AK{ts:LL}{r e f:Nat}(tw:Tw ts r){a b:List Rat}(ha:Nm ts.length e a)(hb:Nm ts.length f b)(he:e+f<=lm ts.length) :
  FP 164 [aI ts,nA a,nA b] (.tup [nA (sh ts.length (T.mul (aj ts) ts.length (ad ts.length a) (ad ts.length b))),.v .nilIface]):=by
 have h:=O5 (ts.map (List.map rt)) r tw.tr (a.map rt) (b.map rt) e f (ha.rt oz) (hb.rt oz) (by rw[length_map];exact he);have h0:aV (ts.map (List.map rt)) [a.map rt,b.map rt]=0:=mi tw ha hb;rw[h0,if_pos rfl,gT,df,df,mY,cV,cV,length_map]at h;exact h
theorem EV{ts:LL}{r e:Nat}(tw:Tw ts r){a:List Rat}(ha:Nm ts.length e a)(he:e<=lm ts.length) :
  FP 267 [aI ts,nA a] (.tup [i64 (T.sgn (aj ts) ts.length (ad ts.length a)),.v .nilIface]):=by
 have h:=O0 (ts.map (List.map rt)) r tw.tr (a.map rt) e (ha.rt he) (by rw[length_map];exact he);have h0:aV (ts.map (List.map rt)) [a.map rt]=0:=vM tw ha;rw[h0,if_pos rfl,gT,df,mY,cV,length_map]at h;exact h
theorem S0{ts:LL}{r e f:Nat}(tw:Tw ts r){a b:List Rat}(ha:Nm ts.length e a)(hb:Nm ts.length f b)(he:e+f<=lm ts.length) :
  FP 173 [aI ts,nA a,nA b] (.tup [nA (sh ts.length (T.add ts.length (ad ts.length a) (ad ts.length b))),i64 0]):=by
 have h:=Ss (ts.map (List.map rt)) r tw.tr (a.map rt) (b.map rt) e f (ha.rt oz) (hb.rt oz) (by rw[length_map];exact he);have h0:aV (ts.map (List.map rt)) [a.map rt,b.map rt]=0:=mi tw ha hb;rw[h0,if_pos rfl,gT,df,df,cV,cV,length_map]at h;exact h
theorem IV{ts:LL}{r e f:Nat}(tw:Tw ts r){a b:List Rat}(ha:Nm ts.length e a)(hb:Nm ts.length f b)(he:e+f<=lm ts.length) :
  FP 359 [aI ts,nA a,nA b] (.tup [nA (sh ts.length (T.add ts.length (ad ts.length a) (T.neg ts.length (ad ts.length b)))),i64 0]):=by
 have h:=LU (ts.map (List.map rt)) r tw.tr (a.map rt) (b.map rt) e f (ha.rt oz) (hb.rt oz) (by rw[length_map];exact he);have h0:aV (ts.map (List.map rt)) [a.map rt,b.map rt]=0:=mi tw ha hb;rw[h0,if_pos rfl,gT,df,df,cV,cV,length_map]at h;exact h
theorem OT{ts:LL}{r e f:Nat}(tw:Tw ts r){a b:List Rat}(ha:Nm ts.length e a)(hb:Nm ts.length f b)(he:e+f<=lm ts.length) :
  FP 92 [aI ts,nA a,nA b] (.tup [nA (sh ts.length (T.mul (aj ts) ts.length (ad ts.length a) (ad ts.length b))),i64 0]):=by
 have h:=Tz (ts.map (List.map rt)) r tw.tr (a.map rt) (b.map rt) e f (ha.rt oz) (hb.rt oz) (by rw[length_map];exact he);have h0:aV (ts.map (List.map rt)) [a.map rt,b.map rt]=0:=mi tw ha hb;rw[h0,if_pos rfl,gT,df,df,mY,cV,cV,length_map]at h;exact h
theorem QP{ts:LL}{r e f:Nat}(tw:Tw ts r){a b:List Rat}(ha:Nm ts.length e a)(hb:Nm ts.length f b)(he:e+f+1<=lm ts.length) :
  FP 83 [aI ts,nA a,nA b] (.tup [i64 (T.sgn (aj ts) ts.length (T.add ts.length (ad ts.length a) (T.neg ts.length (ad ts.length b)))),i64 0]):=by
 have h:=JQ (ts.map (List.map rt)) r tw.tr (a.map rt) (b.map rt) e f (ha.rt oz) (hb.rt oz) (by rw[length_map];exact he);have h0:aV (ts.map (List.map rt)) [a.map rt,b.map rt]=0:=mi tw ha hb;rw[h0,if_pos rfl,gT,df,df,mY,cV,cV,length_map]at h;exact h
theorem SS{ts:LL}{r e:Nat}(tw:Tw ts r){a:List Rat}(ha:Nm ts.length e a)(he:e<=lm ts.length) :
  FP 91 [aI ts,nA a] (.tup [i64 (T.sgn (aj ts) ts.length (ad ts.length a)),i64 0]):=by
 have h:=Rx (ts.map (List.map rt)) r tw.tr (a.map rt) e (ha.rt he) (by rw[length_map];exact he);have h0:aV (ts.map (List.map rt)) [a.map rt]=0:=vM tw ha;rw[h0,if_pos rfl,gT,df,mY,cV,length_map]at h;exact h
theorem zD{ts:LL}{r e:Nat}(tw:Tw ts r){a:List Rat}(ha:Nm ts.length e a)(he:e<=lm ts.length) :
  FP 138 [aI ts,nA a] (.tup [nA (sh ts.length (T.neg ts.length (ad ts.length a))),.v .nilIface]):=by
 have h:=xz (ts.map (List.map rt)) r tw.tr (a.map rt) e (ha.rt he) (by rw[length_map];exact he);have h0:aV (ts.map (List.map rt)) [a.map rt]=0:=vM tw ha;rw[h0,if_pos rfl,gT,df,cV,length_map]at h;exact h
theorem LZ{ts:LL}{r:Nat}(tw:Tw ts r):FP 121 [aI ts] (.v .nilIface):=by
 have h:=oK (ts.map (List.map rt)) r tw.tr;rw[tw.chk,gT]at h;exact h
theorem od{q:Rat}(h:Qs q):FP 126 [qA q] (nA (sh 0 (q:Rat))):=by
 have h1:=yI (rt q) h.ok (by rw[bA];exact h);rw[bA]at h1;exact h1
theorem pc{q:Rat}(h:Qs q):FP 37 [qA q] (nA (sh 0 (q:Rat))):=by
 have h1:=OV (rt q) h.ok (by rw[bA];exact h);rw[bA]at h1;exact h1
theorem wR{ts:LL}{r e:Nat}(tw:Tw ts r)(ls:LL)(hl:∀l∈ls,Nm ts.length e l)(he:e<=lm ts.length)(hn:ls.length<=1000):FP 177 [aI ts,.lst 1 (ls.map nA)] (.v .nilIface):=by
 refine af func177 ?_;refine gc (LZ tw) ?_;refine gC (fun t13=>?_) (fun t13=>?_) (st1:=(3,0));cases t13;refine gl ?_;refine aM [2,15,16] [2] (fun(i:Nat)=>[(17,some (i64 i))]) (fun _=>[]) (fun i=>i<=ls.length) (fun i=>ls.length-i) 0 (zero_le _) ?_;rintro i hi K1 J1;refine gC (fun t18=>?_) (fun t18=>?_)
 ·have hin : i < ls.length := by simpa [aa] using t18
  obtain⟨l,hll⟩:=aw hin;have hok:=hl l (mem_of_getElem? hll);refine gi (ax hll) ?_;refine gc (zD tw hok he) ?_;refine gC (fun t28=>?_) (fun t28=>?_) (st1:=(9,0));cases t28;refine ga aH ?_;exact aG J1 (i+1) hin
 have hin:i=ls.length:=by have:ls.length<=i:=(by simpa[aa]using t18);omega
 refine ae ?_
 first |rfl |(simp;done)
theorem rg{ts:LL}{r e:Nat}(tw:Tw ts r)(ps:List (List Rat×List Rat))(hl:∀p∈ps,Nm ts.length e p.1/\Nm ts.length e p.2)(he:e<=lm ts.length)(hn:ps.length<=500):FP 122 [aI ts,.lst 2 (ps.map fun p=>aA p.1 p.2)] (.v .nilIface):=by
 refine af func122 ?_;refine gl ?_;refine gW (Wk.virt 900 1 rfl) ?_;refine aM [2,8,9] [2] (fun(i:Nat)=>[(5,some (.ms 900 1 0 (2*i))),(10,some (i64 i))]) (fun i=>[(900,some (.row 1 ((iI (ps.take i)).map nA)))]) (fun i=>i<=ps.length) (fun i=>ps.length-i) 0 (zero_le _) ?_;rintro i hi K1 J1;refine gC (fun t11=>?_) (fun t11=>?_) (st2:=(7,0))
 ·have hin : i < ps.length := by simpa [aa] using t11
  obtain⟨p,hp⟩:=aw hin;have hfl:(iI (ps.take i)).length=2*i:=by rw[uk,length_take];omega
  refine gi (ax hp) ?_;refine gs (cq (.tmp rfl) rfl (by rw[length_map,hfl]) (.tmp rfl) T35 rfl T67 rfl rfl (by simp;omega) rfl rfl) ?_ (6,0);refine gW (Wk.of (sl:=[(2,some (.ptr 2 0)),(5,some (.ms 20 1 0 (2*i+2))),(8,some (.lst 2 (ps.map fun p=>aA p.1 p.2))),(9,some (i64 ps.length)),(10,some (i64 i))]) (hp:=[(2,some (.box [.lst 1 (ts.map nA)])),(20,some (.row 1 ((iI (ps.take (i+1))).map nA)))]) aY (.k (.cons rfl (BlkSub.of (by rw[dl hp,Fm,map_append];rfl)) .nil))) ?_ (6,0);refine gW (Wk.rk (k:=20) (d:=900) rfl rfl) ?_;refine ga aH ?_;exact aG J1 (i+1) hin
 have hin:i=ps.length:=by have:ps.length<=i:=(by simpa[aa]using t11);omega
 subst hin;refine gW ((Wk.freeze (k:=900) rfl).trans<|Wk.of (sl:=[(2,some (.ptr 2 0)),(5,some (.lst 1 ((iI ps).map nA)))]) (hp:=[(2,some (.box [.lst 1 (ts.map nA)]))]) (.k (.cons rfl (Sub.of (by rw[bO (by rw[length_map,uk,length_take];omega),take_length])) .nil)) (.k .nil)) ?_;refine gc (wR tw (iI ps) (BQ hl) he (by rw[uk];omega)) ?_;refine ae ?_
 first |rfl |(simp;done)
theorem x3(R:List AV)(a:List Rat):Con prog 328 [.ptr 1000 0,nA a,.v .nilIface] [(1000,some (.box [.lst 1 R,.v .nilIface]))] (nA a) [(1000,some (.box [.lst 1 R,.v .nilIface]))]:=by
 refine gF func328 (fun k z h=>bq h) ?_;refine gC (fun t11=>?_) (fun t11=>?_) (st2:=(77777,0))
 ·refine gR ?_;exact ao.keep (bb rfl)
 cases t11
theorem wP{ts:LL}{r e f:Nat}(tw:Tw ts r){a b:List Rat}(ha:Nm ts.length e a)(hb:Nm ts.length f b)(he:e+f<=lm ts.length) :
  Con prog 230 [.ptr 1000 0,nA a,nA b] [(1000,some (gO ts))] (nA (sh ts.length (T.add ts.length (ad ts.length a) (ad ts.length b)))) [(1000,some (gO ts))]:=by
 refine gF func230 (fun k z h=>bq h) ?_;refine gc (xG tw ha hb he) ?_;refine gt (ay (x3 _ _) (az rfl rfl rfl) aE rfl rfl) ?_;refine gR ?_;exact ao.keep (bb rfl)
theorem wH{ts:LL}{r e f:Nat}(tw:Tw ts r){a b:List Rat}(ha:Nm ts.length e a)(hb:Nm ts.length f b)(he:e+f<=lm ts.length) :
  Con prog 229 [.ptr 1000 0,nA a,nA b] [(1000,some (gO ts))] (nA (sh ts.length (T.add ts.length (ad ts.length a) (T.neg ts.length (ad ts.length b))))) [(1000,some (gO ts))]:=by
 refine gF func229 (fun k z h=>bq h) ?_;refine gc (oO tw ha hb he) ?_;refine gt (ay (x3 _ _) (az rfl rfl rfl) aE rfl rfl) ?_;refine gR ?_;exact ao.keep (bb rfl)
theorem lC{ts:LL}{r e f:Nat}(tw:Tw ts r){a b:List Rat}(ha:Nm ts.length e a)(hb:Nm ts.length f b)(he:e+f<=lm ts.length) :
  Con prog 231 [.ptr 1000 0,nA a,nA b] [(1000,some (gO ts))] (nA (sh ts.length (T.mul (aj ts) ts.length (ad ts.length a) (ad ts.length b)))) [(1000,some (gO ts))]:=by
 refine gF func231 (fun k z h=>bq h) ?_;refine gc (AK tw ha hb he) ?_;refine gt (ay (x3 _ _) (az rfl rfl rfl) aE rfl rfl) ?_;refine gR ?_;exact ao.keep (bb rfl)
theorem GD{ts:LL}{r e f:Nat}(tw:Tw ts r){a b c d:List Rat}(ha:Nm ts.length e a)(hb:Nm ts.length e b)(hc:Nm ts.length f c)(hd:Nm ts.length f d)(he:2*(e+f+kB r ts.length)<=lm ts.length) :
  Con prog 125 [.ptr 1000 0,aA a b,aA c d] [(1000,some (gO ts))] (nA (sh ts.length (mj ts (ad ts.length a) (ad ts.length b) (ad ts.length c) (ad ts.length d)))) [(1000,some (gO ts))]:=by
 refine gF func125 (fun k z h=>bq h) ?_;refine gt (ay (lC tw ha hc oz) (az rfl rfl rfl) aE rfl rfl) ?_;refine gt (ay (lC tw hb hd oz) (az rfl rfl rfl) aE rfl rfl) ?_;refine gt (ay (rZ▸wP tw (ha.mul tw rfl hc) (hb.mul tw rfl hd) oz) (az rfl rfl rfl) aE rfl rfl) ?_;refine gD ?_;refine gR ?_;exact ao.keep (bb rfl)
theorem Q1{ts:LL}{r e f:Nat}(tw:Tw ts r){a b c d:List Rat}(ha:Nm ts.length e a)(hb:Nm ts.length e b)(hc:Nm ts.length f c)(hd:Nm ts.length f d)(he:2*(e+f+kB r ts.length)<=lm ts.length) :
  Con prog 162 [.ptr 1000 0,aA a b,aA c d] [(1000,some (gO ts))] (nA (sh ts.length (lM ts (ad ts.length a) (ad ts.length b) (ad ts.length c) (ad ts.length d)))) [(1000,some (gO ts))]:=by
 refine gF func162 (fun k z h=>bq h) ?_;refine gt (ay (lC tw ha hd oz) (az rfl rfl rfl) aE rfl rfl) ?_;refine gt (ay (lC tw hb hc oz) (az rfl rfl rfl) aE rfl rfl) ?_;refine gt (ay (sW▸wH tw (ha.mul tw rfl hd) (hb.mul tw rfl hc) oz) (az rfl rfl rfl) aE rfl rfl) ?_;refine gD ?_;refine gR ?_;exact ao.keep (bb rfl)
def T.inv(r:(k:Nat)->T k):(k:Nat)->T k->T k
  |0,q=>(1:Rat)/q
  |k+1,x =>
    if T.isZ k x.2=true then(T.inv r k x.1,T.zero k)
    else if T.sgn r k (T.norm r k x)=0 then(T.inv r k (T.add k x.1 x.1),T.zero k)
    else(T.mul r k x.1 (T.inv r k (T.norm r k x)),T.mul r k (T.neg k x.2) (T.inv r k (T.norm r k x)))
theorem T.inv_low(r:(k:Nat)->T k)(k:Nat)(x:T k):T.inv r (k+1) (x,T.zero k)=(T.inv r k x,T.zero k):=by
 have h:=(T.isZ_iff k (T.zero k)).2 rfl
 conv=>lhs;unfold T.inv
 simp only[if_pos h]
theorem v5(r:(k:Nat)->T k){i j:Nat}{s L:List Rat}(hs:s.length<=2^i)(hL:L.length<=2^i)(h:ad i L=T.inv r i (ad i s))(hij:i<=j):ad j L=T.inv r j (ad j s):=by
  induction j with
  | zero => have : i = 0 := by omega
            subst this;exact h
  |succ j ih =>
    by_cases h':i=j+1
    · rw[<- h'];exact h
    · rw[fW (le_trans hs (b8 oz)),fW (le_trans hL (b8 oz)),T.inv_low,ih oz]
def iB(r:Nat):Nat->Nat->Nat
  |0,e=>e
  |j+1,e=>e+iB r j (4*e+3*eB r j+r+1)+eB r (j+1)
theorem AP(r:Nat):∀j e,e<=iB r j e
 |0,e=>le_refl _
 |j+1,e=>by simp only[iB];omega
theorem uK(r:Nat):∀j {e f:Nat},e<=f->iB r j e<=iB r j f
 |0,e,f,h=>h
 |j+1,e,f,h=>by
  have:=uK r j (e:=4*e+3*eB r j+r+1) (f:=4*f+3*eB r j+r+1) oz;simp only[iB];omega
theorem Oj(r j e:Nat):iB r j e<=iB r (j+1) e:=by
 have:=uK r j (e:=e) (f:=4*e+3*eB r j+r+1) oz;simp only[iB];omega
theorem yT(r e:Nat){i j:Nat}(h:i<=j):iB r i e<=iB r j e:=by
  induction j with
  | zero => have : i = 0 := by omega
            subst this;exact le_refl _
  |succ j ih =>
    by_cases hij:i=j+1
    · rw[hij];exact le_refl _
    · exact le_trans (ih oz) (Oj r j e)
theorem LG(r e:Nat){j:Nat}(h:j<=1):iB r j e<=5*e+2*eB r j:=by
 match j,h with
 |0,_=>simp only[iB,eB];omega
 |1,_=>simp only[iB,eB];omega
theorem DL{r:(k:Nat)->T k}{n:Nat}(h:Sg (E r n) (sg r n))(hd:0<=sg r n (bt r n)){x y:E r n}(hz:sg r (n+1) (bD x y)≠0)(hN:sg r n (aO x y)=0):sg r n (x+x)≠0:=by
 have hx:sg r n x≠0:=by
  intro hx;rw[ke,hN,hx]at hz;have h1:sg r n (x*x)=0:=by rw[h.mul,hx];simp
  have h2:=h.zadd (y:=-(y*y*bt r n)) h1;unfold aO at hN;rw[h2,h.neg,h.mul,h.mul]at hN;unfold T.sgn3 at hz;have c1:=h.cs y;have c2:=h.cs (bt r n);rcases c1 with e |e |e <;> rcases c2 with e' |e' |e' <;> rw[e,e']at hN <;> rw[e,e']at hz <;> first |omega |(simp at hz) |(simp at hN)
 rcases h.cs x with e |e |e
 ·have := h.padd (x := -x) (y := -x) (by rw[h.neg,e];rfl) (by rw[h.neg,e];decide);rw[show -x+-x=-(x+x) by grind,h.neg]at this;omega
 ·exact absurd e hx
 ·have:=h.padd (x:=x) (y:=x) e oz;omega
theorem Cb.inv1{e:Nat}{q:Rat}(h:Cb e [q])(hq:q≠0):Cb e [(1:Rat)/q]:=by
 obtain⟨D,N,⟨h0,h1⟩,h2,h3⟩:=h;obtain⟨n,hn,hl⟩:=h1 q (by simp)
 have hD:((D:Int):Rat)≠0:=by
  intro h9;have:(D:Int)=0:=Rat.intCast_eq_zero_iff.1 h9;omega
 have hn0:n≠0:=by
  rintro rfl;rw[show((0:Int):Rat)=0 from rfl]at hn;rcases Rat.mul_eq_zero.1 hn with h9 |h9
  ·exact hq h9
  ·exact hD h9
 have hnq:((n:Int):Rat)≠0:=fun h9=>hn0 (Rat.intCast_eq_zero_iff.1 h9)
 refine⟨n.natAbs,D,⟨by omega,?_⟩,le_trans hl h3,h2⟩;intro x hx;rw[List.mem_singleton.1 hx];have key:(1:Rat)/q*(n:Rat)=((D:Int):Rat):=by rw[<- hn];grind
 rcases Int.natAbs_eq n with e9 |e9
 ·refine⟨D,?_,by simp⟩;rw[<- e9];exact key
 ·refine ⟨-(D : Int), ?_, by simp⟩;rw [Rat.intCast_neg,<- key]
  conv=>rhs;rw[e9]
  rw[Rat.intCast_neg];grind
theorem Hj{e n:Nat}{s:List Rat}(h:Cb e s):Cb e (eP (s.take n) (cD (s.drop n)) n):=by
 obtain⟨D,N,h1,h2,h3⟩:=h;exact⟨D,N,(h1.sub (fun q hq=>mem_of_mem_take hq)).join (h1.sub (fun q hq=>List.mem_of_mem_drop hq)).minus,h2,h3⟩
theorem BM:∀{j i:Nat}{x:T j},(sh j x).length=2^(i+1)->i+1<=j->T.isZ i (ad i ((sh j x).drop (2^i)))=false
 |0,i,x,_,h=>by omega
 |j+1,i,x,hl,h=>by
  cases hz:T.isZ j x.2
  ·have h1:=Kc hz;rw[h1]at hl
   have e:i=j:=by
    rcases Nat.lt_trichotomy i j with h9 |h9 |h9
    ·have := Nat.pow_lt_pow_right (a := 2) oz (show i+1<j+1 by omega);omega
    ·exact h9
    ·omega
   subst e;have h2:ad (i+1) (sh (i+1) x)=x:=a6 (i+1) x;have h3:ad i ((sh (i+1) x).drop (2^i))=x.2:=congrArg Prod.snd h2;rw[h3];exact hz
  ·have h1:sh (j+1) x=sh j x.1:=by
    conv=>lhs;unfold sh
    rw[if_pos hz]
   rw[h1]at hl ⊢;have h2:=(eM j x.1).le
   have h3:i+1<=j:=by
    rcases lt_or_ge j (i+1)with h9 |h9
    ·have:=Nat.pow_lt_pow_right (a:=2) oz h9;omega
    ·exact h9
   exact BM hl h3
theorem CC(r:(k:Nat)->T k){i:Nat}{x:T (i+1)}(hz:T.isZ i x.2=false)(h0:T.sgn r i (T.norm r i x)=0):T.inv r (i+1) x=(T.inv r i (T.add i x.1 x.1),T.zero i):=by
 conv=>lhs;unfold T.inv
 rw[if_neg (by rw[hz];decide),if_pos h0]
theorem Hg(r:(k:Nat)->T k){i:Nat}{x:T (i+1)}(hz:T.isZ i x.2=false)(h0:T.sgn r i (T.norm r i x)≠0) :
  T.inv r (i+1) x=(T.mul r i x.1 (T.inv r i (T.norm r i x)),T.mul r i (T.neg i x.2) (T.inv r i (T.norm r i x))):=by
 conv=>lhs;unfold T.inv
 rw[if_neg (by rw[hz];decide),if_neg h0]
theorem mul_low(r:(k:Nat)->T k)(i:Nat)(x y w:T i):T.mul r (i+1) (x,y) (w,T.zero i)=(T.mul r i x w,T.mul r i y w):=by
 show(T.add i (T.mul r i x w) (T.mul r i (T.mul r i y (T.zero i)) (r i)),T.add i (T.mul r i x (T.zero i)) (T.mul r i y w))=_;rw[T.mul_zero,T.zero_mul,T.mul_zero,T.add_zero,T.zero_add]
theorem yv{n e:Nat}{l:List Rat}(h:Nm n e l)(he:e<=4398046511103):NR (l.map rt) e:=by
 refine⟨?_,by have:=h.nl.len5 h.five;rw[length_map];omega,by rw[cV];exact h.cb⟩;intro x hx;obtain⟨q,hq,rfl⟩:=List.mem_map.1 hx;exact(h.cb.qs oz hq).ok
theorem KB{ts:LL}{j e:Nat}{a:List Rat}{q:Rat}(h5:j<=5)(ha:Nl j a)(ca:Cb e a)(he:e<4398046511104)(hs:sh j (ad j a)=[q])(hq:q≠0) :
  FP 356 [aI ts,nA a] (nA [1/q]):=by
 have qa:∀q∈a,Qs q:=fun q hq=>ca.qs he hq
 have cs:=ca.sh ha;rw[hs]at cs;have qq:Qs q:=cs.qs he (by simp);have hsh:=lH a h5 ha qa;rw[hs]at hsh;have hdv:=Bo (rt 1) (rt q) (Qb.one.qs oz).ok qq.ok;rw[bA,bA,if_neg hq]at hdv;refine af func356 ?_;refine gc hsh ?_;refine gl ?_;refine gC (fun t13=>?_) (fun t13=>?_) (st2:=(77777,0))
 ·refine gc (mo 1 oz) ?_;refine gi rfl ?_;refine gc hdv ?_;refine gD ?_;refine ae ?_;rfl
 cases t13
theorem MZ{ts:LL}{m r:Nat}(ht:iz ts m r)(hm:m<=5)(hml:m<=ts.length){j e i:Nat}{a s L:List Rat}(h5:j<=5)(ha:Nl j a)(ca:Cb e a)(he:4*e+3*eB r i+r+1<4398046511104)(hs:sh j (ad j a)=s)(hi:i+1<=m)
  (hsl:s.length=2^(i+1)) (hb:sB r i (4*e+3*eB r i+r+1)<4398046511104) (h0:T.sgn (aj ts) i (ad i (ii ts i s))=0)
  (hL:FP 356 [aI ts,nA (bX (s.take (2^i)) (s.take (2^i)))] (nA L)):FP 356 [aI ts,nA a] (nA L):=by
 have qa:∀q∈a,Qs q:=fun q hq=>ca.qs oz hq
 have cs:=ca.sh ha;have hsh:=lH a h5 ha qa;rw[hs]at cs hsh;have hp2:=Nat.two_pow_pos i;have hpi:2^i<=32:=b8 (b:=5) oz;have hps:2^(i+1)=2*2^i:=by rw[Nat.pow_succ];omega
 obtain⟨nn,dn,cn⟩:=uM ht oz hsl cs;have k4:=qe ts m r ht hm hml i _ _ oz nn cn hb;have qs:∀q∈s.take (2^i),Qs q:=fun q hq=>cs.take.qs oz hq
 refine af func356 ?_;refine gc hsh ?_;refine gl ?_;refine gC (fun t13=>?_) (fun t13=>?_) (st1:=(3,0));exact absurd t13 (by simp only[aa,beq_iff_eq];omega);refine gl ?_;refine gs (eH (.tmp rfl) (.const _) oz (show _=((2^i:Nat):Int) by rw[fL oz,hsl,fh]) rfl) ?_;refine gc (yu ts m r ht hm hml i s e oz hsl cs oz) ?_;refine gc k4 ?_;refine gC (fun t33=>?_) (fun t33=>?_) (st2:=(77777,0))
 ·refine gs (cR (.tmp rfl) (.none _) (.some _ (.tmp rfl) oz) T67 rfl T45 rfl oz (by simp only[length_map];omega) rfl) ?_;refine gs (cR (.tmp rfl) (.none _) (.some _ (.tmp rfl) oz) T67 rfl T45 rfl oz (by simp only[length_map];omega) rfl) ?_;refine gc (by have h9:=qL _ _ qs qs (by simp;omega) (by simp;omega);rw[<- kO]at h9;exact h9) ?_;refine gc hL ?_;refine gD ?_;refine ae ?_;rfl
 exact absurd t33 (by rw[h0];decide)
theorem RP{ts:LL}{m r:Nat}(ht:iz ts m r)(hm:m<=5)(hml:m<=ts.length){j e f i:Nat}{a s L:List Rat}(h5:j<=5)(ha:Nl j a)(ca:Cb e a)(he:4*e+3*eB r i+r+1<4398046511104)(hs:sh j (ad j a)=s)(hi:i+1<=m)
  (hsl:s.length=2^(i+1)) (hb:sB r i (4*e+3*eB r i+r+1)<4398046511104) (h0:T.sgn (aj ts) i (ad i (ii ts i s))≠0)
  (hL:FP 356 [aI ts,nA (ii ts i s)] (nA L)) (nL:Nl i L) (cL:Cb f L) (hf:e+f+eB r (i+1)<4398046511104) :
  FP 356 [aI ts,nA a] (nA (pT ts (i+1) (eP (s.take (2^i)) (cD (s.drop (2^i))) (2^i)) L)):=by
 have qa:∀q∈a,Qs q:=fun q hq=>ca.qs oz hq
 have cs:=ca.sh ha;have hsh:=lH a h5 ha qa;rw[hs]at cs hsh;have hp2:=Nat.two_pow_pos i;have hpi:2^i<=32:=b8 (b:=5) oz;have hps:2^(i+1)=2*2^i:=by rw[Nat.pow_succ];omega
 obtain⟨nn,dn,cn⟩:=uM ht oz hsl cs;have k4:=qe ts m r ht hm hml i _ _ oz nn cn hb;have qy:∀q∈s.drop (2^i),Qs q:=fun q hq=>cs.drop.qs oz hq
 have lx:(s.take (2^i)).length=2^i:=fE hsl;have ly:(s.drop (2^i)).length=2^i:=fY hsl;have nj:Nl (i+1) (eP (s.take (2^i)) (cD (s.drop (2^i))) (2^i)):=.inr ⟨i+1,le_refl _,by rw[oJ oz (by rw[iy];omega)];omega⟩;have cj:Cb e (eP (s.take (2^i)) (cD (s.drop (2^i))) (2^i)):=Hj cs;have hti:=oY ts m r ht hm hml (i+1) (i+1) _ _ e f hi (le_refl _) nj (nL.mono oz) cj cL hf;refine af func356 ?_;refine gc hsh ?_;refine gl ?_;refine gC (fun t13=>?_) (fun t13=>?_) (st1:=(3,0));exact absurd t13 (by simp only[aa,beq_iff_eq];omega);refine gl ?_;refine gs (eH (.tmp rfl) (.const _) oz (show _=((2^i:Nat):Int) by rw[fL oz,hsl,fh]) rfl) ?_;refine gc (yu ts m r ht hm hml i s e oz hsl cs oz) ?_;refine gc k4 ?_;refine gC (fun t33=>?_) (fun t33=>?_) (st1:=(8,0));exact absurd t33 (by simp only[aa,beq_iff_eq];omega);refine gs (cR (.tmp rfl) (.none _) (.some _ (.tmp rfl) oz) T67 rfl T45 rfl oz (by simp only[length_map];omega) rfl) ?_;refine gs (cR (.tmp rfl) (.some _ (.tmp rfl) oz) (.none _) T67 rfl T45 rfl (by simp only[length_map];omega) oz rfl) ?_;refine gc (by have h9:=vK _ qy oz;rw[<- lL]at h9;exact h9) ?_;refine gc (by have h9:=zV (s.take (2^i)) (cD (s.drop (2^i))) (2^i) oz (by rw[iy];omega) oz;rw[<- kO]at h9;exact h9) ?_;refine gc hL ?_;refine gc hti ?_;refine gD ?_;refine ae ?_;rfl
theorem L3{ts:LL}{m r:Nat}(ht:iz ts m r)(hp:eV (aj ts) m)(hm:m<=5)(hml:m<=ts.length)(j:Nat):∀(a:List Rat)(e:Nat),j<=m->Nl j a->Cb e a->T.sgn (aj ts) j (ad j a)≠0 ->
  sB r j e<4398046511104->iB r j e<4398046511104->∃L,FP 356 [aI ts,nA a] (nA L)/\Nl j L/\Cb (iB r j e) L/\ad j L=T.inv (aj ts) j (ad j a):=by
 induction j using Nat.strongRecOn
 rename_i j ih;intro a e hj ha ca h0 hs hi;have hse:=oF r j e;have cs:=ca.sh ha;have hsn:=eM j (ad j a);have hsd:=a6 j (ad j a);have hle:=AP r j e;obtain⟨s,hsa⟩:∃s,sh j (ad j a)=s:=⟨_,rfl⟩
 rcases nN hsn with h |h |⟨i,hij,h⟩
 ·exfalso;have h1:=List.length_eq_zero_iff.1 h;rw[h1,gQ]at hsd;rw[<- hsd,T.sgn_zero]at h0;exact h0 rfl
 ·obtain ⟨q, hq⟩:=List.length_eq_one_iff.1 h;rw [hq,lJ] at hsd;rw [<- hsd,T.sgn_ofQ] at h0;have q0:q ≠ 0:=by rintro rfl; exact h0 rfl
  refine⟨[1/q],KB oz ha ca oz hq q0,.inr ⟨0,by omega,rfl⟩,(Cb.inv1 (hq▸cs) q0).mono hle,?_⟩;rw[<- hsd,<- lJ j q];exact v5 (aj ts) (i:=0) (s:=[q]) (L:=[1/q]) (by simp) (by simp) rfl oz
 ·have hz:=BM h hij;rw [hsa] at h cs hsd hsn hz;obtain ⟨nn,dn,cn⟩:=uM ht oz h cs;have hsl:s.length <= 2 ^ (i + 1):=by omega
  have b1:sB r i (4*e+3*eB r i+r+1)<=sB r j e:=q6 r e hij;have b2:=oF r i (4*e+3*eB r i+r+1);have b3:iB r (i+1) e<=iB r j e:=yT r e hij;have b4:iB r (i+1) e=e+iB r i (4*e+3*eB r i+r+1)+eB r (i+1):=rfl;have lx:(s.take (2^i)).length=2^i:=fE h;have ly:(s.drop (2^i)).length=2^i:=fY h;have hpi:2^i<=2^(i+1):=Nat.pow_le_pow_right oz oz;rw[<- hsd]at h0 ⊢
  by_cases hN:T.sgn (aj ts) i (ad i (ii ts i s))=0
  ·have hS:=gN (aj ts) i (fun k hk=>hp k oz)
   have hx:T.sgn (aj ts) i (ad i (bX (s.take (2^i)) (s.take (2^i))))≠0:=by
    rw[ic];rw[tB (aj ts) hsl hij]at h0;rw[dn]at hN;exact DL hS (hp i oz) (x:=ad i (s.take (2^i))) (y:=ad i (s.drop (2^i))) h0 hN
   have np:Nl i (bX (s.take (2^i)) (s.take (2^i))):=.inr ⟨i,le_refl _,by rw[d9];omega⟩;have b5:=nO r i (e:=e+e+1) (f:=4*e+3*eB r i+r+1) oz;have b6:=uK r i (e:=e+e+1) (f:=4*e+3*eB r i+r+1) oz;obtain⟨L,k1,k2,k3,k4⟩:=ih i oz _ _ oz np (cs.take.plus cs.take) hx oz oz;refine⟨L,MZ ht hm hml oz ha ca oz hsa oz h oz hN k1,k2.mono oz,k3.mono oz,?_⟩;refine v5 (aj ts) (i:=i+1) hsl (le_trans k2.le hpi) ?_ hij;rw[CC (aj ts) hz (by rw[<- dn];exact hN),fW k2.le,k4,ic];rfl
  ·obtain⟨L,k1,k2,k3,k4⟩:=ih i oz _ _ oz nn cn hN oz oz;have nj:Nl (i+1) (eP (s.take (2^i)) (cD (s.drop (2^i))) (2^i)):=.inr ⟨i+1,le_refl _,by rw[oJ oz (by rw[iy];omega),Nat.pow_succ];omega⟩;have s1:=fQ ts m ht.1 (i+1) (i+1) _ _ oz (le_refl _) nj (k2.mono oz);have c1:=Cb.mul ht (k:=i+1) (show i+1<=m by omega) (le_refl _) nj (k2.mono oz) (Hj cs) k3;refine⟨_,RP ht hm hml oz ha ca oz hsa oz h oz hN k1 k2 k3 oz,s1.1.mono hij,c1.mono oz,?_⟩;refine v5 (aj ts) (i:=i+1) hsl s1.1.le ?_ hij;rw[Hg (aj ts) hz (by rw[<- dn];exact hN),s1.2,vV oz,fW k2.le,mul_low,lS,k4,dn];rfl
theorem RX{ts:LL}{r e f:Nat}(tw:Tw ts r){a b:List Rat}(ha:Nm ts.length e a)(hb:Nm ts.length f b)(he:e<=4398046511103)(hf:f<=4398046511103):FP 243 [aI ts,.lst 1 [nA a,nA b]] (.v .nilIface):=by
 have hck:=oD (ts.map (List.map rt)) r tw.tr [a.map rt,b.map rt] (my (yv ha he) (yv hb hf)) (by simp);have hc0:aV (ts.map (List.map rt)) [a.map rt,b.map rt]=0:=mi tw ha hb;rw[hc0,gT]at hck;rw[show[nA a,nA b]=[a.map rt,b.map rt].map nR by simp[df]];exact hck
theorem Bf{ts:LL}{r f j:Nat}(tw:Tw ts r){b:List Rat}(hb:Nm ts.length f b)(hj:j<=ts.length)(nb:Nl j b)(h0:T.sgn (aj ts) ts.length (ad ts.length b)≠0)(hf:f<=lm ts.length)(hi:iB r j f<4398046511104) :
  ∃L,FP 356 [aI ts,nA b] (nA L)/\Nl ts.length L/\Cb (iB r j f) L/\ad ts.length L=T.inv (aj ts) ts.length (ad ts.length b):=by
 rw[tB (aj ts) nb.le hj]at h0;obtain⟨L,k1,k2,k3,k4⟩:=L3 tw.ok tw.pos tw.five (le_refl _) j b f hj nb hb.cb h0 (mT hj tw.three tw.le hf) hi;exact⟨L,k1,k2.mono hj,k3,v5 (aj ts) nb.le k2.le k4 hj⟩
theorem xN{ts:LL}{r e f j:Nat}(tw:Tw ts r){a b:List Rat}(ha:Nm ts.length e a)(hb:Nm ts.length f b)(hj:j<=ts.length)(nb:Nl j b)(h0:T.sgn (aj ts) ts.length (ad ts.length b)≠0)(hf:f<=lm ts.length)(he:e+iB r j f+eB r ts.length<=200000000000) :
  FP 271 [aI ts,nA a,nA b] (.tup [nA (sh ts.length (T.mul (aj ts) ts.length (ad ts.length a) (T.inv (aj ts) ts.length (ad ts.length b)))),.v .nilIface]):=by
 have hlm:=fS ts.length;have h5:=tw.five;have h3:=tw.three;have hfe:=AP r j f;have hsB:=mT (le_refl ts.length) h3 tw.le hf;have hsg:=qe ts ts.length r tw.ok h5 (le_refl _) ts.length _ _ (le_refl _) hb.nl hb.cb hsB;obtain⟨L,k1,k2,k3,k4⟩:=Bf tw hb hj nb h0 hf oz;have hti:=oY ts ts.length r tw.ok h5 (le_refl _) ts.length ts.length _ _ _ _ (le_refl _) (le_refl _) ha.nl k2 ha.cb k3 oz;have s1:=fQ ts ts.length tw.ok.1 ts.length ts.length _ _ (le_refl _) (le_refl _) ha.nl k2;have c1:=Cb.mul tw.ok (k:=ts.length) (le_refl _) (le_refl _) ha.nl k2 ha.cb k3;have hsh:=lH _ h5 s1.1 (fun q hq=>c1.qs oz hq);rw[s1.2,k4]at hsh;refine af func271 ?_;refine gc (RX tw ha hb oz oz) ?_;refine gC (fun t15=>?_) (fun t15=>?_) (st1:=(3,0));cases t15;refine gc hsg ?_;refine gC (fun t20=>?_) (fun t20=>?_) (st1:=(5,0));exact absurd t20 (by simp only[aa,beq_iff_eq];omega);refine gc k1 ?_;refine gc hti ?_;refine gc hsh ?_;refine gD ?_;refine bj ?_;rfl
theorem yU{ts:LL}{r e f j:Nat}(tw:Tw ts r){a b:List Rat}(ha:Nm ts.length e a)(hb:Nm ts.length f b)(hj:j<=ts.length)(nb:Nl j b)(h0:T.sgn (aj ts) ts.length (ad ts.length b)≠0)(hf:f<=lm ts.length)(he:e+iB r j f+eB r ts.length<=200000000000) :
  Nm ts.length (e+iB r j f+eB r ts.length) (sh ts.length (T.mul (aj ts) ts.length (ad ts.length a) (T.inv (aj ts) ts.length (ad ts.length b)))):=by
 obtain⟨L,k1,k2,k3,k4⟩:=Bf tw hb hj nb h0 hf oz;have s1:=fQ ts ts.length tw.ok.1 ts.length ts.length _ _ (le_refl _) (le_refl _) ha.nl k2;have c1:=Cb.mul tw.ok (k:=ts.length) (le_refl _) (le_refl _) ha.nl k2 ha.cb k3;refine⟨tw.five,eM _ _,?_⟩;rw[<- k4,<- s1.2];exact c1.sh s1.1
def cc(k:Nat):List Rat:=(List.replicate (2^(k+1)) 0).set (2^k) 1
def aJ(ts:LL)(a:List Rat):LL:=ts++[aQ a (2^ts.length)]
theorem PH(k:Nat):BlkSub (.row 3 ((List.replicate (2^(k+1)) (.agg [.v (.bool false),nS,nS])).set (2^k) (qA 1))) (.row 3 ((cc k).map qA)):=by
 unfold cc;refine .row ?_ ?_
 ·simp
 ·intro i e e' he he';rw[map_set,map_replicate]at he';rw[List.getElem?_set]at he he';split at he
  ·rename_i h1;rw[if_pos h1]at he';split at he
   ·rename_i h2;rw[length_replicate]at h2;rw[length_replicate,if_pos h2]at he';cases he;cases he'
    exact jQ.refl (yJ 1)
   ·cases he
  ·rename_i h1;rw[if_neg h1]at he';rw[getElem?_replicate]at he he';split at he
   ·rename_i h2;rw[if_pos h2]at he';cases he;cases he'
    exact qZ
   ·cases he
theorem z5(k:Nat):(cc k).length=2^(k+1):=by simp[cc]
theorem QY{k:Nat}(hk:k<=5):IntKind.i64.wrap ((2:Int)*2^(min (k:Int).toNat IntKind.i64.bits))=((2^(k+1):Nat):Int):=by
 have h:k=0\/k=1\/k=2\/k=3\/k=4\/k=5:=by omega
 rcases h with rfl |rfl |rfl |rfl |rfl |rfl <;> rfl
theorem Tq(d:Nat)(hd:Nat.blt d 1000=true)(k:Nat)(hk:k<=5):Con prog 270 [i64 k] [] (.ms d 3 0 (2^(k+1))) [(d,some (.row 3 ((cc k).map qA)))]:=by
 have hp:2^(k+1)<=64:=b8 (b:=6) oz;have hp2:2^k<2^(k+1):=Nat.pow_lt_pow_right oz oz;have hp0:=Nat.two_pow_pos k;refine gF func270 (fun k z h=>by cases h) ?_;refine gs (gk (.const _) (.tmp rfl) oz (QY hk) rfl) ?_;refine gs (gV (.tmp rfl) T67 rfl T45 rfl rfl oz (by dsimp only;omega) rfl) ?_;refine gs (gk (.const _) (.tmp rfl) oz (mt oz) rfl) ?_;refine gc (mo 1 oz) ?_;refine gs (bR (n:=2^k) (.tmp rfl) (.tmp rfl) T67 rfl T45 rfl oz oz rfl) ?_;refine gs (dF (.tmp rfl) rfl (by rw[getElem?_replicate,if_pos oz]) rfl (.tmp rfl) rfl rfl T45 rfl rfl) ?_;refine gD ?_ (3,0);refine gW (Wk.of (sl:=[(3,some (.ms 6 3 0 (2^(k+1))))]) (hp:=[(6,some (.row 3 ((cc k).map qA)))]) (.cons rfl (Sub.of (congrArg (AV.ms 6 3 0) (toNat_natCast _))) .nil) (.cons rfl (PH k) .nil)) ?_;refine gR ?_;exact ao.own1 rfl hd rfl
theorem Qw(k:Nat)(hk:k<=5):FP 270 [i64 k] (nA (cc k)):=by
 have h:=Con.freeze (by rw[length_map,z5];omega) (Tq 0 rfl k hk);rw[drop_zero,take_of_length_le (by rw[length_map,z5];exact le_refl _)]at h;exact h
theorem Nv{ts:LL}{r e:Nat}(tw:Tw ts r){a:List Rat}(ha:Nm ts.length e a)(he:e<=4398046511103):FP 243 [aI ts,.lst 1 [nA a]] (.v .nilIface):=by
 have hx:=yv ha he;have hck:=oD (ts.map (List.map rt)) r tw.tr [a.map rt] (fun x h=>by rw[List.mem_singleton.1 h];exact⟨hx.ok,hx.len⟩) (by simp);have hc0:aV (ts.map (List.map rt)) [a.map rt]=0:=vM tw ha;rw[hc0,gT]at hck;rw[show[nA a]=[a.map rt].map nR by simp[df]];exact hck
theorem Ox{ts:LL}{r e:Nat}(tw:Tw ts r){a:List Rat}(ha:Nm ts.length e a)(he:e<=4398046511103):FP 268 [aI ts,nA a] (.tup [nA (aQ a (2^ts.length)),.v .nilIface]):=by
 have h5:=tw.five;have hl:=ha.nl.le;have hp:2^ts.length<=32:=b8 (b:=5) oz;have qa:∀q∈a,Qs q:=fun q hq=>ha.cb.qs oz hq
 refine af func268 ?_;refine gc (Nv tw ha he) ?_;refine gC (fun t12=>?_) (fun t12=>?_) (st1:=(3,0));cases t12;refine gc (y9 a qa oz) ?_;refine gl ?_;refine gs (gk (.const _) (.tmp rfl) oz (mt oz) rfl) ?_;refine gc (xg a (2^ts.length) hl oz) ?_;refine gD ?_;refine bj ?_;rfl
theorem HY{ts:LL}{r e:Nat}(tw:Tw ts r){a:List Rat}(ha:Nm ts.length e a)(he:e<=lm ts.length)(hs:0<=T.sgn (aj ts) ts.length (ad ts.length a)) :
  FP 151 [aI ts,nA a] (.tup [aI (aJ ts a),nA (cc ts.length),.v .nilIface]):=by
 have h3:=tw.three;have h5:=tw.five;have hlm:=fS ts.length;have hl:=ha.nl.le;have nw:Nl ts.length (aQ a (2^ts.length)):=.inr ⟨_,le_refl _,dI hl⟩;have hsg:=qe ts ts.length r tw.ok h5 (le_refl _) ts.length _ _ (le_refl _) nw ha.cb.wide (mT (le_refl ts.length) h3 tw.le he);rw[nG]at hsg;have hqs:=tw.rb.qs tw.le;refine af func151 ?_;refine gc (Ox tw ha oz) ?_;refine gC (fun t18=>?_) (fun t18=>?_) (st1:=(3,0));cases t18;refine gc hsg ?_;refine gC (fun t23=>?_) (fun t23=>?_) (st1:=(5,0));exact absurd t23 (by simp only[aa,decide_eq_true_eq];omega);refine gl ?_;refine gC (fun t30=>?_) (fun t30=>?_) (st1:=(7,0));exact absurd t30 (by simp only[aa,decide_eq_true_eq];omega);refine gl ?_;refine gW (Wk.virt 900 1 rfl) ?_;refine aM [2,4,7,9,38,39] [2,4] (fun(i:Nat)=>[(40,some (i64 i))]) (fun i=>[(9,some (.box [.ms 900 1 0 i])),(900,some (.row 1 ((ts.take i).map nA)))]) (fun i=>i<=ts.length) (fun i=>ts.length-i) 0 (zero_le _) ?_ (h2:=(.cons rfl (BlkSub.bL (.cons (.nM _ _ _) .nil) rfl) (.k .nil)));rintro i hi K1 J1;refine gC (fun t41=>?_) (fun t41=>?_)
 ·have hin:=aW t41;obtain⟨d,hd⟩:=aw hin
  have hdl:d.length<=32:=by
   have h9:=tw.len i hin;rw[aD hd]at h9;have:2^i<=32:=b8 (b:=5) oz;omega
  refine gi (ax hd) ?_;refine gc (y9 d (hqs d (mem_of_getElem? hd)) oz) ?_;refine gs (cq (.tmp rfl) rfl (by rw[length_map,length_take];omega) (.tmp rfl) T35 rfl T67 rfl rfl (by simp only[length_cons,length_nil];omega) rfl rfl) ?_;refine gD ?_ (13,0);refine gW (Wk.of (sl:=[(2,some (.ptr 2 0)),(4,some (.ptr 4 0)),(7,some (nA (aQ a (2^ts.length)))),(9,some (.ptr 9 0)),(38,some (.lst 1 (ts.map nA))),(39,some (i64 ts.length)),(40,some (i64 i))]) (hp:=[(2,some (.box [.lst 1 (ts.map nA)])),(4,some (.box [nS])),(9,some (.box [.ms 49 1 0 (i+1)])),(49,some (.row 1 ((ts.take (i+1)).map nA)))]) aY (.k (.k (.k (.cons rfl (BlkSub.of (by rw[dl hd,map_append];rfl)) .nil))))) ?_ (13,0)
  refine gW (Wk.rk (k:=49) (d:=900) rfl rfl) ?_;refine ga aH ?_;exact aG J1 (i+1) hin
 have hin:=be hi t41;subst hin;refine gs (cq (.tmp rfl) rfl (by rw[length_map,length_take];omega) (.tmp rfl) T35 rfl T67 rfl rfl (by simp only[length_cons,length_nil];omega) rfl rfl) ?_ (15,0);refine gW ((Wk.freeze (k:=56) rfl).trans<|Wk.of (sl:=[(2,some (.ptr 2 0)),(4,some (.ptr 4 0)),(9,some (.ptr 9 0))]) (hp:=[(2,some (.box [.lst 1 (ts.map nA)])),(4,some (.box [nS])),(9,some (.box [.lst 1 ((aJ ts a).map nA)]))]) aY (.k (.k (.cons rfl (BlkSub.bL (.cons (Sub.of (by rw[bO (by simp)];unfold aJ;simp)) .nil) rfl) .nil)))) ?_;refine gl ?_;refine gc (Qw ts.length oz) ?_;refine gD ?_;refine Ll ?_;rfl
theorem z8{ts:LL}{r:Nat}(tw:Tw ts r):FP 144 [aI ts] (aI ts):=by
 have h3:=tw.three;have hqs:=tw.rb.qs tw.le;refine af func144 ?_;refine gl ?_;refine gW (Wk.virt 900 1 rfl) ?_;refine aM [2,3,10,11] [2] (fun(i:Nat)=>[(12,some (i64 i))]) (fun i=>[(3,some (.box [.ms 900 1 0 i])),(900,some (.row 1 ((ts.take i).map nA)))]) (fun i=>i<=ts.length) (fun i=>ts.length-i) 0 (zero_le _) ?_ (h2:=(.cons rfl (BlkSub.bL (.cons (.nM _ _ _) .nil) rfl) (.k .nil)));rintro i hi K1 J1;refine gC (fun t13=>?_) (fun t13=>?_) (st2:=(13,0))
 ·have hin:=aW t13;obtain⟨d,hd⟩:=aw hin
  have hdl:d.length<=32:=by
   have h9:=tw.len i hin;rw[aD hd]at h9;have:2^i<=32:=b8 (b:=5) oz;omega
  have hdq:=hqs d (mem_of_getElem? hd);refine gi (ax hd) ?_;refine gl ?_;refine gW (Wk.virt 901 3 rfl) ?_;refine aM [2,3,10,11,12,16,17] [2,3,900] (fun(j:Nat)=>[(6,some (.ms 901 3 0 j)),(18,some (i64 j))]) (fun j=>[(901,some (.row 3 ((d.take j).map qA)))]) (fun j=>j<=d.length) (fun j=>d.length-j) 0 (zero_le _) ?_;rintro j hj K2 J2;refine gC (fun t19=>?_) (fun t19=>?_) (st2:=(11,0))
  ·have hjn:=aW t19;obtain ⟨q,hq⟩:=aw hjn;have hadd:=ou (rt q) (rt 0) (hdq q (mem_of_getElem? hq)).ok Qs.zero.ok;rw [sN,bA] at hadd;refine gi (ax hq) ?_;refine gc (Con.sA (.cons (.refl _) (.cons gK .nil)) hadd) ?_;refine gs (cq (.tmp rfl) rfl (by rw [length_map,length_take]; omega) (.tmp rfl) T67 rfl T45 rfl rfl (by simp only [length_cons,length_nil]; omega) rfl rfl) ?_ (10,0);refine gW (Wk.of (sl:=[(2,some (.ptr 2 0)),(3,some (.ptr 3 0)),(10,some (.lst 1 (ts.map nA))),(11,some (i64 ts.length)),(12,some (i64 i)),(6,some (.ms 27 3 0 (j + 1))),(16,some (nA d)),(17,some (i64 d.length)),(18,some (i64 j))]) (hp:=[(2,some (.box [nS])),(3,some (.box [.ms 900 1 0 i])),(900,some (.row 1 ((ts.take i).map nA))),(27,some (.row 3 ((d.take (j + 1)).map qA)))]) aY (.k (.k (.k (.cons rfl (BlkSub.of (by rw [dl hq,map_append]; rfl)) .nil))))) ?_ (10,0)
   refine gW (Wk.rk (k:=27) (d:=901) rfl rfl) ?_;refine ga aH ?_;exact aG J2 (j+1) hjn
  have hjn:=be hj t19;subst hjn;refine gW ((Wk.freeze (k:=901) rfl).trans<|Wk.of (sl:=[(2,some (.ptr 2 0)),(3,some (.ptr 3 0)),(10,some (.lst 1 (ts.map nA))),(11,some (i64 ts.length)),(12,some (i64 i)),(6,some (nA d))]) (hp:=[(2,some (.box [nS])),(3,some (.box [.ms 900 1 0 i])),(900,some (.row 1 ((ts.take i).map nA)))]) (.k (.k (.k (.k (.k (.cons rfl (Sub.of (by rw[bO (by simp)];simp[nA])) .nil)))))) (.k (.k (.k .nil)))) ?_
  refine gs (cq (.tmp rfl) rfl (by rw[length_map,length_take];omega) (.tmp rfl) T35 rfl T67 rfl rfl (by simp only[length_cons,length_nil];omega) rfl rfl) ?_ (12,0);refine gW (Wk.of (sl:=[(2,some (.ptr 2 0)),(3,some (.ptr 3 0)),(10,some (.lst 1 (ts.map nA))),(11,some (i64 ts.length)),(12,some (i64 i))]) (hp:=[(2,some (.box [nS])),(3,some (.box [.ms 33 1 0 (i+1)])),(33,some (.row 1 ((ts.take (i+1)).map nA)))]) aY (.k (.k (.cons rfl (BlkSub.of (by rw[dl hd,map_append];rfl)) .nil)))) ?_ (12,0);refine gW (Wk.rk (k:=33) (d:=900) rfl rfl) ?_;refine ga aH ?_;exact aG J1 (i+1) hin
 have hin:=be hi t13;subst hin;refine gW ((Wk.freeze (k:=900) rfl).trans<|Wk.of (sl:=[(2,some (.ptr 2 0)),(3,some (.ptr 3 0))]) (hp:=[(2,some (.box [nS])),(3,some (.box [.lst 1 (ts.map nA)]))]) aY (.k (.cons rfl (BlkSub.bL (.cons (Sub.of (by rw[bO (by simp)];simp)) .nil) rfl) .nil))) ?_;refine ae ?_;rfl
abbrev dN(l:Li)(kw driven:List Bool)(r:List AV):List AV:=l.av.cells++(.lst 1 (kw.map bl) :: .lst 1 (driven.map bl)::r)
theorem Vb(j:Jt)(b:Int):FP 415 [j.av,i64 b] (i64 (j4 j b)):=by
 refine af func415 ?_;refine gC (fun t6=>?_) (fun t6=>?_)
 ·have h1:b=j.a:=cT t6;refine ae ?_;unfold j4;rw[if_pos h1]
 have h1:b≠j.a:=d5 t6;refine gC (fun t12=>?_) (fun t12=>?_)
 ·have h2:b=j.b:=cT t12;refine ae ?_;unfold j4;rw[if_neg h1,if_pos h2]
 have h2:b≠j.b:=d5 t12;refine ae ?_;unfold j4;rw[if_neg h1,if_neg h2];rfl
theorem JM(j:Jt)(kind body:Int)(f:FuncId)(pre caps:List AV)(p:Int->Bool)(hp:0<=j4 j body->FP f (pre++[i64 (j4 j body)]++caps) (bl (p (j4 j body)))) :
  FP 414 [j.av,.iptr [i64 body],.iptr [i64 kind],.iptr [.cl f pre caps]] (bl (vt kind body p j)):=by
 refine af func414 ?_;refine gc (Vb j body) ?_;refine bI (fun h=>(hp (UZ h))) ?_;refine ae ?_;exact congrArg bl MH
theorem Oo(bs:List Jt)(hl:bs.length<=281474976710656)(f:FuncId)(pre caps:List AV)(ok:Nat->Bool)
  (hf:∀(i:Nat)(b:Jt),bs[i]?=some b->(∀j,j<i->ok j=true)->FP f (pre++[b.av]++caps) (bl (!ok i))) :
  FP 413 [.lst 7 (bs.map Jt.av),.cl f pre caps] (i64 (mw (dG bs.length ok))):=by
 refine af func413 ?_;refine gl ?_;refine aM [0,1,7] [] (fun(i:Nat)=>[(8,some (i64 i))]) (fun _=>[]) (fun i=>i<=bs.length/\∀j,j<i->ok j=true) (fun i=>bs.length-i) 0 ⟨zero_le _,fun j h=>by omega⟩ ?_;rintro i ⟨hi,hj⟩ K1 J1;refine gC (fun t9=>?_) (fun t9=>?_)
 ·have hin:=aW t9;obtain⟨b,hb⟩:=aw hin;refine gi (ax hb) ?_;refine gc (hf i b hb hj) ?_;refine gC (fun t16=>?_) (fun t16=>?_)
  ·have h2:=dq t16;refine ae ?_;rw[iK hin hj h2];rfl
  have h2:=dD t16;refine ga aH ?_;exact aG J1 (i+1) ⟨hin,fun j h9=>by rcases lt_or_ge j i with g |g;exact hj j g;(have:j=i:=by omega);subst this;exact h2⟩
 have hin:=be hi t9;subst hin;refine ae ?_;rw[jl hj];rfl
theorem IF(l:Li)(hl:l.ok)(hli:aB l=0)(Fd:List AV)(kind body:Int)(f:FuncId)(pre caps:List AV)(p:Int->Bool)
  (hp:∀o:Int,0<=o->o<l.bo.length->FP f (pre++[i64 o]++caps) (bl (p o))) :
  FP 405 [.iptr (l.av.cells++Fd),i64 kind,i64 body,.cl f pre caps] (i64 (gJ l kind body p)):=by
 refine af func405 ?_ (1,0);refine gW ((Wk.freezeB (k:=7) rfl rfl).trans<|(Wk.freezeB (k:=5) rfl rfl).trans<|(Wk.freezeB (k:=6) rfl rfl).trans<|Wk.o (sl:=[(0,some (.iptr (l.av.cells++Fd))),(5,some (.iptr [i64 kind])),(6,some (.iptr [i64 body])),(7,some (.iptr [.cl f pre caps]))]) (hp:=[])) ?_;refine gc (Con.sA (.cons (.refl _) (.cons (vd rfl) .nil)) (Oo l.jo hl.lj 414 [] [.iptr [i64 body],.iptr [i64 kind],.iptr [.cl f pre caps]] (fun i=>!vt kind body p (l.jo.getD i default)) (fun i b hb hj=>by rw[Bool.not_not,aD hb];exact JM b kind body f pre caps p (fun h=>hp _ h (Va hli hb body))))) ?_;refine ae ?_;rfl
theorem Qn(l:Li)(kw driven:List Bool)(r:List AV)(b:Int)(h0:0<=b)(h1:b<kw.length):FP 411 [.iptr (dN l kw driven r),i64 b] (bl (kn kw b)):=by
 obtain⟨v,hv⟩:∃v,kw[b.toNat]?=some v:=aw oz;have ev:kn kw b=v:=aD hv;refine af func411 ?_;refine gi (ir (n:=b.toNat) oz hv) ?_;refine ae ?_;rw[ev]
theorem Fs(l:Li)(hl:l.ok)(hli:aB l=0)(kw driven:List Bool)(hk:kw.length=l.bo.length)(r:List AV)(kind body:Int) :
  FP 403 [.iptr (dN l kw driven r),i64 kind,i64 body] (i64 (gJ l kind body (kn kw))):=by
 refine af func403 ?_;refine gc (IF l hl hli _ kind body 411 [.iptr (dN l kw driven r)] [] (kn kw) (fun o h0 h1=>Qn l kw driven r o h0 oz)) ?_;refine ae ?_;rfl
theorem QA(o j:Int):FP 406 [i64 o,.iptr [i64 j]] (bl (decide (o=j))):=by
 refine af func406 ?_;refine ae ?_;exact congrArg bl sk
theorem JC(l:Li)(kw driven:List Bool)(hd:driven.length=kw.length)(r:List AV)(b:Int)(h0:0<=b)(h1:b<kw.length) :
  FP 407 [.iptr (dN l kw driven r),i64 b] (bl (!kn kw b&&!kn driven b)):=by
 obtain⟨v,hv⟩:∃v,kw[b.toNat]?=some v:=aw oz;have ev:kn kw b=v:=aD hv;obtain⟨u,hu⟩:∃u,driven[b.toNat]?=some u:=aw oz;have eu:kn driven b=u:=aD hu;refine af func407 ?_;refine gi (ir (n:=b.toNat) oz hv) ?_;refine ka (fun _=>(ir (n:=b.toNat) oz hu)) ?_;refine ae ?_;rw[ev,eu];exact congrArg bl (iS _ _)
theorem Ms(l:Li)(hl:l.ok)(hli:aB l=0)(kw driven:List Bool)(hk:kw.length=l.bo.length)(r:List AV) :
  FP 379 [.iptr (dN l kw driven r)] (.tup [((di l kw).getD default).av,bl (di l kw).isSome]):=by
 have hld:=hl.ld;refine af func379 ?_;refine gl ?_;refine aM [0,2,11,12] [2] (fun(i:Nat)=>[(13,some (i64 i))]) (fun _=>[]) (fun i=>i<=l.dv.length/\∀j,j<i->(!fJ l kw j)=true) (fun i=>l.dv.length-i) 0 ⟨zero_le _,fun j h=>by omega⟩ ?_;rintro i ⟨hi,hj⟩ K1 J1;refine gC (fun t14=>?_) (fun t14=>?_)
 ·have hin:=aW t14;obtain⟨d,hd⟩:=aw hin;have hdd:l.dv.getD i default=d:=aD hd;have hb:=dj (lc hli hd);obtain⟨v,hv⟩:∃v,kw[d.body.toNat]?=some v:=aw oz;have ev:kn kw d.body=v:=aD hv;have ej:gJ l 0 d.body (kn kw)=bQ l 0 d.body kw:=yA hli (fun o _ _=>rfl);refine gi (ax hd) ?_;refine gi (ir (n:=d.body.toNat) oz hv) ?_;refine gD ?_;refine gC (fun t25=>?_) (fun t25=>?_)
  ·have h2 : fJ l kw i = false := by unfold fJ; rw [hdd, ev, t25]; rfl
   refine ga aH ?_;exact aG J1 (i+1) ⟨hin,fun k h9=>by rcases lt_or_ge k i with g |g;exact hj k g;(have:k=i:=by omega);subst this;rw[h2];rfl⟩
  have hv0:v=false:=t25;refine gc (show iW _ _ _ (i64 (bQ l 0 d.body kw)) by rw[<- ej];exact Fs l hl hli kw driven hk r 0 d.body) ?_;refine gC (fun t31=>?_) (fun t31=>?_)
  ·have h2 : fJ l kw i = true := by unfold fJ; rw [hdd, ev, hv0, decide_eq_true (GA t31)]; rfl
   have hg:di l kw=some ⟨0,[d.body],[bQ l 0 d.body kw],i⟩:=by unfold di;rw[iK hin hj (by rw[h2];rfl),<- hdd];rfl
   refine bj ?_;rw[hg];rfl
  have h2:fJ l kw i=false:=by unfold fJ;rw[hdd,decide_eq_false (FI t31),Bool.and_false]
  refine ga aH ?_;exact aG J1 (i+1) ⟨hin,fun k h9=>by rcases lt_or_ge k i with g |g;exact hj k g;(have:k=i:=by omega);subst this;rw[h2];rfl⟩
 have hin:=be hi t14;subst hin;have hg:di l kw=none:=by unfold di;rw[jl hj];rfl
 refine gR ?_;exact ao.sub ao.pure (by rw[hg];exact Sub.tup (.cons pP (.cons (.refl _) .nil)))
theorem AT(l:Li)(hli:aB l=0)(kw:List Bool)(hk:kw.length=l.bo.length)(r:List AV)(b:Nat)(h1:b<l.bo.length) :
  FP 407 [.iptr (dN l kw (bU l) r),i64 b] (bl (ep l kw b)):=by
 have h:=JC l kw (bU l) (by rw[s8,hk]) r b oz oz;rw[Nc hli oz]at h;exact h
theorem vu(l:Li)(hl:l.ok)(hli:aB l=0)(kw:List Bool)(hk:kw.length=l.bo.length)(r:List AV)(kind body:Int) :
  FP 403 [.iptr (dN l kw (bU l) r),i64 kind,i64 body] (i64 (bQ l kind body kw)):=by
 have h:=Fs l hl hli kw (bU l) hk r kind body;rw[yA hli (fun o _ _=>rfl)]at h;exact h
theorem Uk(l:Li)(hl:l.ok)(hli:aB l=0)(kw:List Bool)(hk:kw.length=l.bo.length)(r:List AV) :
  FP 381 [.iptr (dN l kw (bU l) r)] (.tup [((d8 l kw).getD default).av,bl (d8 l kw).isSome]):=by
 have h8:=(cW hli).2.2.2.1;refine af func381 ?_;refine gl ?_;refine aM [0,2,12,13] [2] (fun(i:Nat)=>[(14,some (i64 i))]) (fun _=>[]) (fun i=>i<=l.bo.length/\∀j,j<i->(!fw l kw j)=true) (fun i=>l.bo.length-i) 0 ⟨zero_le _,fun j h=>by omega⟩ ?_;rintro i ⟨hi,hj⟩ K1 J1;refine gC (fun t15=>?_) (fun t15=>?_)
 ·have hin:=aW t15;refine gc (AT l hli kw hk r i hin) ?_;refine gC (fun t20=>?_) (fun t20=>?_)
  ·have h2 : fw l kw i = false := by unfold fw; rw [dq t20]; rfl
   refine ga aH ?_;exact aG J1 (i+1) ⟨hin,fun k h9=>by rcases lt_or_ge k i with g |g;exact hj k g;(have:k=i:=by omega);subst this;rw[h2];rfl⟩
  have hf:=dD t20;refine gc (vu l hl hli kw hk r 0 i) ?_;refine gc (vu l hl hli kw hk r 1 i) ?_;refine gC (fun t32=>?_) (fun t32=>?_)
  ·have h2 : fw l kw i = false := by unfold fw; rw [Is t32, Bool.and_false]
   refine ga aH ?_;exact aG J1 (i+1) ⟨hin,fun k h9=>by rcases lt_or_ge k i with g |g;exact hj k g;(have:k=i:=by omega);subst this;rw[h2];rfl⟩
  obtain⟨p0,s0⟩:=CM t32;have s1:=(m9 (l:=l) (kind:=1) (body:=i) (oth:=kw)).2;have h2:fw l kw i=true:=by unfold fw;rw[hf,decide_eq_true p0,decide_eq_true s0];rfl
  obtain⟨j,hjt⟩:∃j,l.jo[(bQ l 1 i kw).toNat]?=some j:=aw oz;have hjd:l.jo.getD (bQ l 1 i kw).toNat default=j:=aD hjt;have hg:d8 l kw=some (gM l kw i):=by unfold d8;rw[iK hin hj (by rw[h2];rfl),Option.map_some]
  refine gi (ir (n:=(bQ l 1 i kw).toNat) oz hjt) ?_;refine gC (fun t43=>?_) (fun t43=>?_)
  ·have hji:j.a=i:=cT t43;refine bj ?_;rw[hg];unfold gM;rw[hjd];simp only[Option.getD_some,if_pos hji];rfl
  have hji:j.a≠i:=d5 t43;refine bj ?_;rw[hg];unfold gM;rw[hjd];simp only[Option.getD_some,if_neg hji];rfl
 have hin:=be hi t15;subst hin;have hg:d8 l kw=none:=by unfold d8;rw[jl hj];rfl
 refine gR ?_;exact ao.sub ao.pure (by rw[hg];exact Sub.tup (.cons pP (.cons (.refl _) .nil)))
theorem KI(Fd:List AV):FP 404 [.iptr Fd] (.fn 412 [.iptr [.iptr Fd]]):=by
 refine af func404 ?_ (1,0);refine gW ((Wk.freezeB (k:=1) rfl rfl).trans<|Wk.o (sl:=[(1,some (.iptr [.iptr Fd]))]) (hp:=[])) ?_;refine ae ?_;rfl
def un:Code->Option (Array Tmp×Code×Code)
  | .rangeFunc _ ps x y=>some (ps,x,y)
  | .seq a b=>match un a with
    |some r=>some r
    |none=>un b
  | .block _ c=>un c
  |_=>none
def FC(n:Nat)(o:Option Code):LpD:=match o with
  |some c=>match un c with
    |some (ps,x,y)=>⟨ps,x,y,n⟩
    |none=>⟨#[],.skip,.skip,0⟩
  |none=>⟨#[],.skip,.skip,0⟩
def DC(D:LpD)(Fd:List AV)(h:Bool):Blk:=.loop D (match h with |true=>.done |false=>.ready) (match h with |true=>some .ret |false=>none) [(1,some (.iptr [.iptr Fd])),(2,some (.ptr 1001 0)),(3,some (.ptr 1002 0))]
def zK(g:Gr):Blk:=.box [i64 g.kind,.lst 1 (g.bo.map i64),.lst 1 (g.jo.map i64),i64 g.driver]
def Ai(h:Bool):Blk:=.box [bl h]
def fy(D:LpD)(Fd:List AV)(h:Bool)(g:Gr):Hp:=[(1000,some (DC D Fd h)),(1001,some (zK g)),(1002,some (Ai h))]
theorem CF{D:LpD}{Fd:List AV}{h:Bool}{g:Gr}{k:Nat}{z:Blk}(hz:lk (fy D Fd h g) k=some z):1000<=k:=by
 unfold fy at hz;simp only[aK]at hz;split at hz
 ·omega
 ·split at hz
  ·omega
  ·split at hz
   ·omega
   ·cases hz
theorem NJ{D:LpD}{Fd:List AV}{s:AS}(hs:∀k z,lk (fy D Fd false default) k=some z->s.blk k=some z) :
  ∀k∈(fy D Fd false default++cZ (fy D Fd false default)).map (·.1),k∈(fy D Fd false default).map (·.1)/\lk (fy D Fd false default++cZ (fy D Fd false default)) k=s.blk k:=by
 intro k hk
 have hk':k=1000\/k=1001\/k=1002:=by
  simp[fy,cZ]at hk;omega
 rcases hk' with rfl |rfl |rfl
 ·exact⟨by simp[fy],(hs _ _ rfl).symm⟩
 ·exact⟨by simp[fy],(hs _ _ rfl).symm⟩
 ·exact⟨by simp[fy],(hs _ _ rfl).symm⟩
theorem E2{l:Li}{kw:List Bool}{i k:Nat}(h:cond (ep l kw i) (ep l kw k) false=false):dz l kw i k=false:=by
 rw[iS]at h;unfold dz;rw[h];rfl
theorem Rn{H R:Hp}{k:Nat}{z:Blk}(h:lk H k=some z):lk (H++R) k=some z:=by rw[mI,if_pos (m7 h)];exact h
theorem Ky{a b:Bool}(h:cond a b false=true):a=true:=by cases a <;> simp_all
theorem A7{a b:Bool}(h:cond a b false=true):b=true:=by cases a <;> simp_all
theorem OA(D:LpD)(l:Li)(hl:l.ok)(hli:aB l=0)(kw:List Bool)(hk:kw.length=l.bo.length)(r:List AV)
  (hy:∀i k:Nat,i<k->k<l.bo.length->ep l kw i=true->ep l kw k=true ->
   uJ prog 1000 [i64 i,i64 k] (fy D (dN l kw (bU l) r) false default) (bl (!dz l kw i k)) (fy D (dN l kw (bU l) r) (dz l kw i k) (cond (dz l kw i k) (gy l kw i k) default))) :
  Con prog 412 [.yl 1000,.iptr [.iptr (dN l kw (bU l) r)]] (fy D (dN l kw (bU l) r) false default) (.tup []) (fy D (dN l kw (bU l) r) (cM l kw).isSome ((cM l kw).getD default)):=by
 have h8:=(cW hli).2.2.2.1;refine gF func412 (fun k z h=>CF h) ?_;refine gl ?_;refine aM [0,1,10] [1000,1001,1002] (fun(i:Nat)=>[(11,some (i64 i))]) (fun _=>[]) (fun i=>i<=l.bo.length/\∀j,j<i->(gj l kw j).isNone=true) (fun i=>l.bo.length-i) 0 ⟨zero_le _,fun j h=>by omega⟩ ?_;rintro i ⟨hi,hj⟩ K1 J1;refine gC (fun t12=>?_) (fun t12=>?_)
 ·have hin:=aW t12;refine ga aH ?_;refine aM [0,1,3,10,11] [] (fun (k:Nat)=>[(4,some (i64 (i + 1 + k:Nat)))]) (fun _=>[(1000,some (DC D (dN l kw (bU l) r) false)),(1001,some (zK default)),(1002,some (Ai false))]) (fun k=>i + 1 + k <= l.bo.length /\ ∀ j,j < k -> (!dz l kw i (i + 1 + j)) = true) (fun k=>l.bo.length - k) 0 ⟨by omega,fun j h=>by omega⟩ ?_;rintro k ⟨hkl,hkj⟩ K2 J2;refine gl ?_;refine gC (fun t23=>?_) (fun t23=>?_)
  ·have hkn:i + 1 + k < l.bo.length:=aW t23;refine gc (AT l hli kw hk r i hin) ?_;refine bI (fun _=>(AT l hli kw hk r (i + 1 + k) hkn)) ?_;refine gs (P7 rfl rfl rfl (by intro hb; have h0:dz l kw i (i + 1 + k) = false:=E2 (by simpa using hb); simp only [h0,cond_false]; exact NJ (by intro k z h; exact h)) (fun hb=>KA (k:=1000) (.opt rfl (by rw [hb]; rfl)) (hy i (i + 1 + k) oz hkn (Ky hb) (A7 hb)) (.cons (.opt rfl (by rw [hb]; rfl)) (.cons (.opt rfl (by rw [hb]; rfl)) .nil)) (by intro k z h; exact h) rfl rfl)) ?_;refine gC (fun t40=>?_) (fun t40=>?_)
   ·have h2 : dz l kw i (i + 1 + k) = true := by have h9 := A7 t40; rw [Bool.not_not] at h9; exact h9
    have hat:gj l kw i=some (i+1+k):=by unfold gj;rw[iK oz hkj (by rw[h2];rfl),Option.map_some];congr 1;omega
    have hg:cM l kw=some (gy l kw i (i+1+k)):=by unfold cM;rw[iK hin hj (by rw[hat];rfl),Option.map_some,hat]
    refine gR ?_;simp only[hg,h2,Option.isSome_some,Option.getD_some,cond_true];exact ao.keep (fun k z h=>Rn h)
   have h2:dz l kw i (i+1+k)=false:=by cases hc:cond (ep l kw i) (ep l kw ((i+1+k:Nat):Int)) false with |false=>exact E2 hc |true=>rw[hc,Bool.not_not]at t40;exact t40
   refine ga aH ?_;exact aG J2 (k+1) ⟨by omega,fun j h9=>by rcases lt_or_ge j k with g |g;exact hkj j g;(have:j=k:=by omega);subst this;rw[h2];rfl⟩ (hw:=Wk.of aY (.cons rfl (BlkSub.of (by rw[h2])) (.cons rfl (BlkSub.of (by rw[h2];rfl)) (.cons rfl (BlkSub.of (by rw[h2])) .nil))))
  have hkn:¬i+1+k<l.bo.length:=fun h=>by have h1:=rP t23;omega
  have hat:gj l kw i=none:=by unfold gj;rw[show l.bo.length-(i+1)=k by omega,jl hkj];rfl
  refine ga aH ?_;exact aG J1 (i+1) ⟨hin,fun j h9=>by rcases lt_or_ge j i with g |g;exact hj j g;(have:j=i:=by omega);subst this;rw[hat];rfl⟩
 have hin:=be hi t12;have hg:cM l kw=none:=by unfold cM;rw[<- hin,jl hj];rfl
 refine gR ?_;simp only[hg,Option.isSome_none,Option.getD_none];exact ao.keep (fun k z h=>h)
variable{P:Program}
mutual
def AV.pm(σ:Nat->Nat):AV->AV
  | .ms k sz off len=>.ms (σ k) sz off len
  | .ptr k off=>.ptr (σ k) off
  | .eptr k sz i off=>.eptr (σ k) sz i off
  | .yl k=>.yl (σ k)
  | .agg cs=>.agg (AV.pms σ cs)
  | .tup cs=>.tup (AV.pms σ cs)
  | .fn f cs=>.fn f (AV.pms σ cs)
  | .opt b x=>.opt b (AV.pm σ x)
  | .v x=>.v x
  | .lst sz l=>.lst sz l
  | .iptr l=>.iptr l
  | .cl f cs ds=>.cl f cs ds
def AV.pms(σ:Nat->Nat):List AV->List AV
  |[]=>[]
  |x::l=>AV.pm σ x::AV.pms σ l
end
theorem AV.pms_eq(σ:Nat->Nat):∀l,AV.pms σ l=l.map (AV.pm σ)
 |[]=>rfl
 |x::l=>by simp only[AV.pms,map_cons,AV.pms_eq σ l]
theorem AV.pm_one(σ:Nat->Nat)(x:AV)(h:x.one=true):(x.pm σ).one=true:=by
 cases x <;> simp only[AV.pm] <;> exact h
mutual
theorem AV.pm_pm{σ:Nat->Nat}(hσ:∀k,σ (σ k)=k):∀x:AV,(x.pm σ).pm σ=x
 | .ms k sz off len=>by simp only[AV.pm,hσ]
 | .ptr k off=>by simp only[AV.pm,hσ]
 | .eptr k sz i off=>by simp only[AV.pm,hσ]
 | .yl k=>by simp only[AV.pm,hσ]
 | .agg cs=>by simp only[AV.pm];rw[AV.pms_pms hσ cs]
 | .tup cs=>by simp only[AV.pm];rw[AV.pms_pms hσ cs]
 | .fn f cs=>by simp only[AV.pm];rw[AV.pms_pms hσ cs]
 | .opt b x=>by simp only[AV.pm];rw[AV.pm_pm hσ x]
 | .v x=>by simp only[AV.pm]
 | .lst sz l=>by simp only[AV.pm]
 | .iptr l=>by simp only[AV.pm]
 | .cl f cs ds=>by simp only[AV.pm]
theorem AV.pms_pms{σ:Nat->Nat}(hσ:∀k,σ (σ k)=k):∀l:List AV,AV.pms σ (AV.pms σ l)=l
 |[]=>by simp only[AV.pms]
 |x::l=>by simp only[AV.pms];rw[AV.pm_pm hσ x,AV.pms_pms hσ l]
end
theorem vI{g:Nat->Array Value->Prop}{S:Nat->Nat->Prop}{σ:Nat->Nat}(hσ:∀k,σ (σ k)=k){m:Nat->Option Nat}{v:Value}{x:AV}(h:Rep g S m v x):Rep g S (fun k=>m (σ k)) v (x.pm σ):=by
 induction h with
 |v x=>exact .v x
 |lst0 a cap sz'=>exact .lst0 a cap sz'
 |lst u hb hc hl hs ho hu hr _=>exact .lst u hb hc hl hs ho hu hr
 |iptr u hb ho hu hr _=>exact .iptr u hb ho hu hr
 |cl a b c d _ _=>exact .cl a b c d
 |ptr hm=>exact .ptr (by simp only[hσ];exact hm)
 |eptr hm=>exact .eptr (by simp only[hσ];exact hm)
 |yl hm=>exact .yl (by simp only[hσ];exact hm)
 |ms0 a k sz off=>exact .ms0 _ _ _ _
 |ms hm hc hS=>exact .ms (by simp only[hσ];exact hm) hc hS
 |opt h h' ih=>exact .opt ih h'
 |agg hn h1 hr ih =>
  simp only[AV.pm,AV.pms_eq];refine .agg (by simpa using hn) ?_ ?_
  ·intro j c hc;simp only[getElem?_map,map_eq_some_iff]at hc;obtain⟨y,hy,rfl⟩:=hc;exact AV.pm_one _ _ (h1 j y hy)
  ·intro j u c hu hc;simp only[getElem?_map,map_eq_some_iff]at hc;obtain⟨y,hy,rfl⟩:=hc;exact ih j u y hu hy
 |tup hn hr ih =>
  simp only[AV.pm,AV.pms_eq];refine .tup (by simpa using hn) ?_;intro j u c hu hc;simp only[getElem?_map,map_eq_some_iff]at hc;obtain⟨y,hy,rfl⟩:=hc;exact ih j u y hu hy
 |fn hn hr ih =>
  simp only[AV.pm,AV.pms_eq];refine .fn (by simpa using hn) ?_;intro j u c hu hc;simp only[getElem?_map,map_eq_some_iff]at hc;obtain⟨y,hy,rfl⟩:=hc;exact ih j u y hu hy
theorem KL{g:Nat->Array Value->Prop}{S:Nat->Nat->Prop}{σ:Nat->Nat}(hσ:∀k,σ (σ k)=k){m:Nat->Option Nat}{w:World}{o:Option Nat}{x:Blk}(h:BlkRep g S m w o x) :
  BlkRep g S (fun k=>m (σ k)) w o (x.map (AV.pm σ)):=by
 cases x with
 |row sz es=>exact h.mono (fun _ _ h=>h) (fun _ _ h=>h) (fun _ _ hk=>hk.elim) rfl (fun _ _=>rfl)
 |vec vs=>exact h.mono (fun _ _ h=>h) (fun _ _ h=>h) (fun _ _ hk=>hk.elim) rfl (fun _ _=>rfl)
 |loop=>exact h.mapLoop _ (fun _ _ _ _ h=>vI hσ h)
 |box cs =>
  cases h with
  |box hw hn h1 hrr =>
   refine .box hw (by simpa using hn) ?_ ?_
   ·intro j x hx;simp only[getElem?_map,map_eq_some_iff]at hx;obtain⟨y,hy,rfl⟩:=hx;exact AV.pm_one _ _ (h1 j y hy)
   ·intro j u x hu hx;simp only[getElem?_map,map_eq_some_iff]at hx;obtain⟨y,hy,rfl⟩:=hx;exact vI hσ (hrr j u y hu hy)
theorem xI{σ:Nat->Nat}(hσ:∀k,σ (σ k)=k):∀sl:bG,jA (AV.pm σ) (jA (AV.pm σ) sl)=sl
 |[]=>rfl
 |(t,none)::l=>by simp only[jA,xI hσ l]
 |(t,some x)::l=>by simp only[jA,xI hσ l,AV.pm_pm hσ x]
theorem Blk.pm_pm{σ:Nat->Nat}(hσ:∀k,σ (σ k)=k)(x:Blk):(x.map (AV.pm σ)).map (AV.pm σ)=x:=by
 cases x with
 |row sz es=>rfl
 |vec vs=>rfl
 |loop d st pe sl=>simp only[Blk.map,xI hσ]
 |box cs =>
  simp only[Blk.map];rw[<- AV.pms_eq,<- AV.pms_eq,AV.pms_pms hσ]
def jd(σ:Nat->Nat):Hp->Hp
  |[]=>[]
  |(k,x)::l=>(σ k,match x with |some b=>some (b.map (AV.pm σ)) |none=>none)::jd σ l
theorem kS{σ:Nat->Nat}(hσ:∀k,σ (σ k)=k):∀(H:Hp)(k:Nat),lk (jd σ H) k=(lk H (σ k)).map (Blk.map (AV.pm σ))
 |[],k=>rfl
 |(k',x)::l,k=>by
  simp only[jd,aK,kS hσ l k]
  by_cases h:k=σ k'
  ·rw[if_pos h,if_pos (by rw[h,hσ])];cases x <;> rfl
  ·rw[if_neg h,if_neg (fun e=>h (by rw[<- e,hσ]))]
theorem yw{σ:Nat->Nat}(hσ:∀k,σ (σ k)=k)(H:Hp)(m:Nat->Option Nat):aX (jd σ H) (fun k=>m (σ k))=aX H m:=by
 funext b;apply propext;constructor
 ·rintro⟨k,z,hz,hb⟩;rw[kS hσ,map_eq_some_iff]at hz;obtain⟨y,hy,rfl⟩:=hz;exact⟨σ k,y,hy,hb⟩
 ·rintro⟨k,y,hy,hb⟩;exact⟨σ k,y.map (AV.pm σ),by rw[kS hσ,hσ,hy];rfl,by simp only[hσ];exact hb⟩
theorem HD{σ:Nat->Nat}(hσ:∀k,σ (σ k)=k){ext:Nat->Prop}{H:Hp}{m:Nat->Option Nat}{w:World}(h:HeapRel ext H m w):HeapRel ext (jd σ H) (fun k=>m (σ k)) w:=by
 have e:Im ext (jd σ H) (fun k=>m (σ k)) w=Im ext H m w:=by funext b cs;simp only[Im,yw hσ]
 refine⟨?_,?_,?_⟩
 ·intro k z hz;rw[kS hσ,map_eq_some_iff]at hz;obtain⟨y,hy,rfl⟩:=hz;rw[e];exact KL hσ (h.blk _ y hy)
 ·intro k k' z z' b hz hz' hb hb';rw[kS hσ,map_eq_some_iff]at hz hz';obtain⟨y,hy,_⟩:=hz;obtain⟨y',hy',_⟩:=hz';have:=h.inj _ _ y y' b hy hy' hb hb';rw[<- hσ k,this,hσ]
 ·intro k z b hz hb;rw[kS hσ,map_eq_some_iff]at hz;obtain⟨y,hy,_⟩:=hz;exact h.sep _ y b hy hb
theorem Con.pm{σ:Nat->Nat}(hσ:∀k,σ (σ k)=k){f:FuncId}{args:List AV}{H H':Hp}{r:AV}(h:Con P f args H r H'):Con P f (args.map (AV.pm σ)) (jd σ H) (r.pm σ) (jd σ H'):=by
 refine⟨h.ok,?_⟩;intro ext m w vs hext hheap hvs hrep
 have hlk:∀k,lk (jd σ (jd σ H)) k=lk H k:=by
  intro k;rw[kS hσ,kS hσ,hσ];cases lk H k with
  |none=>rfl
  |some y=>simp only[Option.map_some,Blk.pm_pm hσ]
 have hh:=HeapRel.congr hlk (HD hσ hheap);have em:(fun k=>(fun k=>m (σ k)) (σ k))=m:=by funext k;simp only[hσ]
 have eo:aX (jd σ H) m=aX H (fun k=>m (σ k)):=by
  have:=yw hσ H (fun k=>m (σ k));rw[em]at this;exact this
 have ei:Im ext (jd σ H) m w=Im ext H (fun k=>m (σ k)) w:=by funext b cs;simp only[Im,eo]
 refine Calls.mono (h.ret ext (fun k=>m (σ k)) w vs hext hh (by simpa using hvs) (fun j v x hv hx=>?_)) ?_
 ·have h1 := hrep j v (x.pm σ) hv (by simp[hx]);have h2:=vI hσ h1;rw[AV.pm_pm hσ,ei]at h2;exact h2
 ·rintro e w' ⟨v,m',rfl,hf,hh',hn,hk,hrr⟩;refine⟨v,fun k=>m' (σ k),rfl,eo▸hf,HD hσ hh',?_,?_,?_⟩
  ·intro k x b hx hb;rw[kS hσ,map_eq_some_iff]at hx;obtain⟨y,hy,_⟩:=hx;rw[eo];exact hn _ y b hy hb
  ·intro k x y hx hy;rw[kS hσ,map_eq_some_iff]at hx hy;obtain⟨x',hx',_⟩:=hx;obtain⟨y',hy',_⟩:=hy;have:=hk _ x' y' hx' hy';simpa only[hσ]using this
  ·have e2 : Im ext (jd σ H') (fun k => m' (σ k)) w' = Im ext H' m' w' := by funext b cs; simp only [Im, yw hσ]
   rw[e2];exact vI hσ hrr
end Go.Lw
namespace Go.Lw
open Go.Proofs
theorem gZ{P:Program}{N:Nat}{Q:Exit->AS->Prop}{c:Code}{s:AS}(h:Gd P N Q (.code c [] s)):bE P N c Q s:=h
theorem K6{P:Program}{N:Nat}{Q:Exit->AS->Prop}{c:Code}{s s':AS}(hw:Wk s s')(h:jJ P N c Q s'):jJ P N c Q s:=by
 intro C m a w n hro hN hr;obtain⟨m',hr'⟩:=hw C m a w hr;exact h C m' a w n hro hN hr'
def vD(k:Nat):Nat:=bif Nat.beq k 1000 then 900 else bif Nat.beq k 900 then 1000 else bif Nat.beq k 1001 then 2 else bif Nat.beq k 2 then 1001 else bif Nat.beq k 1002 then 3 else bif Nat.beq k 3 then 1002 else k
theorem nb{a b:Nat}(h:¬a=b):Nat.beq a b=false:=by
 cases h1:Nat.beq a b
 ·rfl
 ·exact absurd (eq_of_beq_eq_true h1) h
theorem UX(k:Nat):vD (vD k)=k:=by
 by_cases h1:k=1000
 ·subst h1;rfl
 by_cases h2:k=900
 ·subst h2;rfl
 by_cases h3:k=1001
 ·subst h3;rfl
 by_cases h4:k=2
 ·subst h4;rfl
 by_cases h5:k=1002
 ·subst h5;rfl
 by_cases h6:k=3
 ·subst h6;rfl
 have e:vD k=k:=by simp only[vD,nb h1,nb h2,nb h3,nb h4,nb h5,nb h6,cond_false]
 rw[e,e]
theorem Tj(l:Li)(hl:l.ok)(hli:aB l=0)(kw:List Bool)(hk:kw.length=l.bo.length)(r:List AV) :
  FP 380 [.iptr (dN l kw (bU l) r)] (.tup [((cM l kw).getD default).av,bl (cM l kw).isSome]):=by
 refine G9 (rs:=Tryz.f380.results.toList) func380 rfl rfl (by simp) rfl (fun k z h=>by cases h) ?_;refine Ab (gZ (go ?_));refine K6 (s':=⟨[(1,some (.iptr [.iptr (dN l kw (bU l) r)])),(2,some (.ptr 2 0)),(3,some (.ptr 3 0))],[(2,some (zK default)),(3,some (Ai false))]⟩) ((Wk.freezeB (k:=1) rfl rfl).trans (Wk.of (.k (.k (.k .nil))) (.cons rfl (BlkSub.bL (.cons (.refl _) (.cons (.nil _ _ _) (.cons (.nil _ _ _) (.cons (.refl _) .nil)))) rfl) (.k .nil)))) ?_;refine RC ?_;refine Ab (gZ (go ?_));refine gc (KI (dN l kw (bU l) r)) ?_;refine Td ?_
 have hy:∀i k:Nat,i<k->k<l.bo.length->ep l kw i=true->ep l kw k=true ->
   uJ prog 1000 [i64 i,i64 k] (fy (FC Tryz.f380.ntmps Tryz.f380.body) (dN l kw (bU l) r) false default) (bl (!dz l kw i k)) (fy (FC Tryz.f380.ntmps Tryz.f380.body) (dN l kw (bU l) r) (dz l kw i k) (cond (dz l kw i k) (gy l kw i k) default)):=by
  intro i k hik hkn hfi hfk;refine IM (k:=1000) (fun k z h=>CF h) rfl rfl (by intro p hp;have h9:p∈[11,12]:=hp;have h8:p=11\/p=12:=(by simpa using h9);show p<42;rcases h8 with h7 |h7 <;> (rw[h7];decide)) ?_;refine gZ (go ?_);refine⟨rfl,_,_,rfl,?_⟩;have hJ:gJ l 0 i (fun o=>decide (o=(k:Int)))=bQ l 0 i (cB l.bo.length k):=yA hli (fun o h0 h1=>(oM h0 oz oz).symm);refine gZ (go ?_);refine gc (vu l hl hli kw hk r 0 i) ?_;refine gc (vu l hl hli kw hk r 0 k) ?_;refine gD ?_ (5,0);refine gW (Wk.freezeB (k:=5) rfl rfl) ?_;refine gc (r:=i64 (bQ l 0 i (cB l.bo.length k))) (by rw[<- hJ];exact Con.sA (.cons (.refl _) (.cons (.refl _) (.cons (.refl _) (.cons (vd rfl) .nil)))) (IF l hl hli _ 0 i 406 [] [.iptr [i64 k]] (fun o=>decide (o=(k:Int))) (fun o h0 h1=>QA o k))) ?_;refine gC (fun ht=>?_) (fun ht=>?_)
  ·have h2 : dz l kw i k = true := by unfold dz; rw [hfi, hfk]; exact (uU.symm.trans ht)
   rw[h2];exact⟨_,_,rfl,ao.keep (by intro q z h;simp only[fy,aK]at h;split at h;(subst_vars;exact h);split at h;(subst_vars;exact h);split at h;(subst_vars;exact h);cases h)⟩
  ·have h2 : dz l kw i k = false := by unfold dz; rw [hfi, hfk]; exact (uU.symm.trans ht)
   rw[h2];exact⟨_,_,rfl,ao.keep (by intro q z h;simp only[fy,aK]at h;split at h;(subst_vars;exact h);split at h;(subst_vars;exact h);split at h;(subst_vars;exact h);cases h)⟩
 have hcon:=Con.pm UX (OA _ l hl hli kw hk r hy);cases hg:cM l kw with
 |none =>
  rw[hg]at hcon;refine Gb (k:=900) (sl0:=[(1,some (.iptr [.iptr (dN l kw (bU l) r)])),(2,some (.ptr 2 0)),(3,some (.ptr 3 0))]) (.tmp rfl) (by intro t x h;simp only[aK]at h;split at h;(subst_vars;exact h);split at h;(subst_vars;exact h);split at h;(subst_vars;exact h);cases h) rfl rfl hcon (fun k' z h=>h) rfl rfl rfl rfl (by intro h;cases h) (.inl ⟨rfl,?_⟩);refine Ab (gZ (go ?_));refine bE.out (gZ (go ?_));refine gR ?_;exact ao.sub ao.pure (Sub.tup (.cons pP (.cons (.refl _) .nil)))
 |some g =>
  rw[hg]at hcon;refine Gb (k:=900) (sl0:=[(1,some (.iptr [.iptr (dN l kw (bU l) r)])),(2,some (.ptr 2 0)),(3,some (.ptr 3 0))]) (.tmp rfl) (by intro t x h;simp only[aK]at h;split at h;(subst_vars;exact h);split at h;(subst_vars;exact h);split at h;(subst_vars;exact h);cases h) rfl rfl hcon (fun k' z h=>h) rfl rfl rfl rfl (by intro h;cases h) (.inr ⟨rfl,?_⟩);exact(bj (P:=prog) (N:=Tryz.f380.ntmps) (e:=.ret) rfl)
theorem AX{α:Type}{o:Option α}(h:o.isSome=true):∃x,o=some x:=by cases o <;> simp_all
theorem x6{α:Type}{o:Option α}(h:o.isSome=false):o=none:=by cases o <;> simp_all
theorem Ta(l:Li)(hl:l.ok)(hli:aB l=0)(kw:List Bool)(hk:kw.length=l.bo.length)(r:List AV) :
  FP 334 [.iptr (dN l kw (bU l) r)] (.tup [((bY l kw).getD default).av,bl (bY l kw).isSome]):=by
 refine af func334 ?_;refine gc (Ms l hl hli kw (bU l) hk r) ?_;refine gC (fun t13=>?_) (fun t13=>?_)
 ·obtain⟨g,hg⟩:=AX t13;refine bj ?_;unfold bY;rw[hg];rfl
 have hg:=x6 t13;refine gc (Tj l hl hli kw hk r) ?_;refine gC (fun t20=>?_) (fun t20=>?_)
 ·obtain⟨g,hg2⟩:=AX t20;refine bj ?_;unfold bY;rw[hg,hg2];rfl
 have hg2:=x6 t20;refine gc (Uk l hl hli kw hk r) ?_;refine bj ?_;unfold bY;rw[hg,hg2];rfl
theorem BH{ts:LL}{r e:Nat}(tw:Tw ts r){a b c d:List Rat}(ha:Nm ts.length e a)(hb:Nm ts.length e b)(hc:Nm ts.length e c)(hd:Nm ts.length e d)(he:2*e<=lm ts.length) :
  Con prog 123 [.ptr 1000 0,aA a b,aA c d] [(1000,some (gO ts))] (aA (sh ts.length (subT ts (ad ts.length a) (ad ts.length c))) (sh ts.length (subT ts (ad ts.length b) (ad ts.length d)))) [(1000,some (gO ts))]:=by
 refine gF func123 (fun k z h=>bq h) ?_;refine gt (ay (wH tw ha hc oz) (az rfl rfl rfl) aE rfl rfl) ?_;refine gt (ay (wH tw hb hd oz) (az rfl rfl rfl) aE rfl rfl) ?_;refine gD ?_;refine gR ?_;exact ao.keep (bb rfl)
theorem EE(R:List AV)(a:List Rat):Con prog 124 [.ptr 1000 0,nA a] [(1000,some (.box [.lst 1 R,.v .nilIface]))] (.tup [nA a,.v .nilIface]) [(1000,some (.box [.lst 1 R,.v .nilIface]))]:=by
 refine gF func124 (fun k z h=>bq h) ?_;refine gC (fun t10=>?_) (fun t10=>?_) (st1:=(2,0));cases t10;refine gR ?_;show ao _ (AV.tup [nA a,.v .nilIface]) _ _;exact ao.keep (bb rfl)
theorem uZ(R:List AV)(a b:List Rat):Con prog 160 [.ptr 1000 0,aA a b] [(1000,some (.box [.lst 1 R,.v .nilIface]))] (.tup [aA a b,.v .nilIface]) [(1000,some (.box [.lst 1 R,.v .nilIface]))]:=by
 refine gF func160 (fun k z h=>bq h) ?_;refine gC (fun t10=>?_) (fun t10=>?_) (st1:=(2,0));cases t10;refine gR ?_;show ao _ (AV.tup [aA a b,.v .nilIface]) _ _;exact ao.keep (bb rfl)
theorem EN{ts:LL}{r e:Nat}(tw:Tw ts r){a b c d:List Rat}(ha:Nm ts.length e a)(hb:Nm ts.length e b)(hc:Nm ts.length e c)(hd:Nm ts.length e d)(he:e<=lm ts.length)(f:FuncId)(v:List Rat)
  (hf:Con prog f [.ptr 1000 0,aA a b,aA c d] [(1000,some (gO ts))] (nA v) [(1000,some (gO ts))]) :
  FP 161 [aI ts,aA a b,aA c d,.fn f []] (.tup [nA v,.v .nilIface]):=by
 refine af func161 ?_;refine gc (rg (e:=e) tw [(a,b),(c,d)] (by simp only[mem_cons,not_mem_nil,or_false];rintro p (rfl |rfl);exact⟨ha,hb⟩;exact⟨hc,hd⟩) he (by simp)) ?_;refine gC (fun t18=>?_) (fun t18=>?_) (st1:=(3,0));cases t18;refine gs (Oz (.tmp rfl) (show Con prog f ([.ptr 22 0,aA a b,aA c d]++[]) [(22,some (gO ts))] (nA v) [(22,some (gO ts))]from Con.rB 22 rfl rfl rfl rfl hf) (az rfl rfl rfl) aE rfl rfl) ?_;refine gt (ay (Con.rB 22 rfl rfl rfl rfl (EE _ _)) (bB rfl rfl) aE rfl rfl) ?_;refine bj ?_;rfl
theorem wX{ts:LL}{r e:Nat}(tw:Tw ts r){a b c d:List Rat}(ha:Nm ts.length e a)(hb:Nm ts.length e b)(hc:Nm ts.length e c)(hd:Nm ts.length e d)(he:2*(e+e+kB r ts.length)<=lm ts.length) :
  FP 77 [aI ts,aA a b,aA c d] (.tup [nA (sh ts.length (mj ts (ad ts.length a) (ad ts.length b) (ad ts.length c) (ad ts.length d))),.v .nilIface]):=by
 refine af func77 ?_;refine gc (Con.sA (.cons (.refl _) (.cons (.refl _) (.cons (.refl _) (.cons (Sub.fn0 _) .nil)))) (EN tw ha hb hc hd oz _ _ (GD tw ha hb hc hd he))) ?_;refine bj ?_
 first |rfl |(simp;done)
theorem xl{ts:LL}{r e:Nat}(tw:Tw ts r){a b c d:List Rat}(ha:Nm ts.length e a)(hb:Nm ts.length e b)(hc:Nm ts.length e c)(hd:Nm ts.length e d)(he:2*(e+e+kB r ts.length)<=lm ts.length) :
  FP 178 [aI ts,nA a,nA b,aA c d] (.tup [aA (sh ts.length (pJ ts (ad ts.length a) (ad ts.length b) (ad ts.length c) (ad ts.length d))) (sh ts.length (qR ts (ad ts.length a) (ad ts.length b) (ad ts.length c) (ad ts.length d))),.v .nilIface]):=by
 refine af func178 ?_;refine gc (wR (e:=e) tw [a,b,c,d] (by simp only[mem_cons,not_mem_nil,or_false];rintro x (rfl |rfl |rfl |rfl) <;> assumption) oz (by simp)) ?_;refine gC (fun t22=>?_) (fun t22=>?_) (st1:=(3,0));cases t22;refine gt (ay (Con.rB 27 rfl rfl rfl rfl (lC tw ha hc oz)) (az rfl rfl rfl) aE rfl rfl) ?_;refine gt (ay (Con.rB 27 rfl rfl rfl rfl (lC tw hb hd oz)) (az rfl rfl rfl) aE rfl rfl) ?_;refine gt (ay (Con.rB 27 rfl rfl rfl rfl (sW▸wH tw (ha.mul tw rfl hc) (hb.mul tw rfl hd) oz)) (az rfl rfl rfl) aE rfl rfl) ?_;refine gt (ay (Con.rB 27 rfl rfl rfl rfl (lC tw hb hc oz)) (az rfl rfl rfl) aE rfl rfl) ?_;refine gt (ay (Con.rB 27 rfl rfl rfl rfl (lC tw ha hd oz)) (az rfl rfl rfl) aE rfl rfl) ?_;refine gt (ay (Con.rB 27 rfl rfl rfl rfl (rZ▸wP tw (hb.mul tw rfl hc) (ha.mul tw rfl hd) oz)) (az rfl rfl rfl) aE rfl rfl) ?_;refine gt (ay (Con.rB 27 rfl rfl rfl rfl (uZ _ _ _)) (bB rfl rfl) aE rfl rfl) ?_;refine gD ?_;refine bj ?_;rfl
theorem FZ{ts:LL}{r e:Nat}(tw:Tw ts r){a b c d:List Rat}(ha:Nm ts.length e a)(hb:Nm ts.length e b)(hc:Nm ts.length e c)(hd:Nm ts.length e d)(he:2*e<=lm ts.length) :
  FP 179 [aI ts,aA a b,aA c d] (.tup [aA (sh ts.length (T.add ts.length (ad ts.length a) (ad ts.length c))) (sh ts.length (T.add ts.length (ad ts.length b) (ad ts.length d))),.v .nilIface]):=by
 refine af func179 ?_;refine gc (rg (e:=e) tw [(a,b),(c,d)] (by simp only[mem_cons,not_mem_nil,or_false];rintro p (rfl |rfl);exact⟨ha,hb⟩;exact⟨hc,hd⟩) oz (by simp)) ?_;refine gC (fun t16=>?_) (fun t16=>?_) (st1:=(3,0));cases t16;refine gt (ay (Con.rB 21 rfl rfl rfl rfl (wP tw ha hc oz)) (az rfl rfl rfl) aE rfl rfl) ?_;refine gt (ay (Con.rB 21 rfl rfl rfl rfl (wP tw hb hd oz)) (az rfl rfl rfl) aE rfl rfl) ?_;refine gt (ay (Con.rB 21 rfl rfl rfl rfl (uZ _ _ _)) (bB rfl rfl) aE rfl rfl) ?_;refine gD ?_;refine bj ?_;rfl
theorem uG{x y:Rat}(hx:Qs x)(hy:Qs y):FP 54 [qA x,qA y] (aA (sh 0 (x:Rat)) (sh 0 (y:Rat))):=by
 refine af func54 ?_;refine gc (od hx) ?_;refine gc (od hy) ?_;refine gD ?_;refine ae ?_
 first |rfl |(simp;done)
theorem Q5{ts:LL}{r e:Nat}(tw:Tw ts r){a b c d:List Rat}(ha:Nm ts.length e a)(hb:Nm ts.length e b)(hc:Nm ts.length e c)(hd:Nm ts.length e d){x y:Rat}(hx:Qb e x)(hy:Qb e y)(he:8*e+4*kB r ts.length+4<=lm ts.length) :
  FP 86 [aI ts,.agg [nA a,nA b,nA c,nA d],qA x,qA y] (.tup [aA (sh ts.length (pN ts (ad ts.length a) (ad ts.length b) (ad ts.length c) x y)) (sh ts.length (qB ts (ad ts.length a) (ad ts.length b) (ad ts.length d) x y)),.v .nilIface]):=by
 have hlm:=fS ts.length;have nx:=Nm.ofQ ha.five (Cb.one hx);have ny:=Nm.ofQ ha.five (Cb.one hy);have nX:=qK tw ha hb nx ny;have nY:=pX tw ha hb nx ny;have z1:e<=2*(e+e+kB r ts.length)+1:=by omega
 have z2:2*(2*(e+e+kB r ts.length)+1)<=lm ts.length:=Ar he;have hadd:=FZ tw nX nY (hc.mono z1) (hd.mono z1) z2;refine af func86 ?_;refine gc (wR (e:=e) tw [a,b,c,d] (by simp only[mem_cons,not_mem_nil,or_false];rintro x (rfl |rfl |rfl |rfl) <;> assumption) oz (by simp)) ?_;refine gC (fun t25=>?_) (fun t25=>?_) (st1:=(3,0));cases t25;refine gc (uG (hx.qs oz) (hy.qs oz)) ?_;refine gc (xl tw ha hb nx ny oz) ?_;refine gD ?_;refine gC (fun t41=>?_) (fun t41=>?_) (st1:=(6,0));cases t41;refine gc hadd ?_;refine bj ?_;rw[rN,sI];rfl
theorem H2(rs:List (List Rt))(r e:Nat)(h:TR rs r)(xs:List (List Rt))(hx:∀a∈xs,NR a e)(he:e<=lm rs.length)(hl:xs.length<=1000):FP 27 [cf rs,.lst 1 (xs.map nR)] (i64 (aV rs xs)):=by
 refine af func27 ?_;refine gc (Cr rs r h) ?_;refine gC (fun t13=>?_) (fun t13=>?_)
 ·have h1:=fZ t13;refine ae ?_;rw[vE h1]
 have h1:=fI t13;refine gl ?_;refine aM [2,15,16] [2] (fun(i:Nat)=>[(17,some (i64 i))]) (fun _=>[]) (fun i=>i<=xs.length/\∀x∈xs.take i,bN rs.length x=0) (fun i=>xs.length-i) 0 ⟨zero_le _,fun x hx=>by simp at hx⟩ ?_;rintro i ⟨hi,hj⟩ K1 J1;refine gC (fun t18=>?_) (fun t18=>?_)
 ·have hin : i < xs.length := by simpa [aa] using t18
  obtain⟨a,ha⟩:=aw hin;have hok:=hx a (mem_of_getElem? ha);have hone:aV rs [a]=bN rs.length a:=AI h1;refine gi (ax ha) ?_;refine gc (Jn rs r h a e hok he) ?_;refine gC (fun t28=>?_) (fun t28=>?_)
  ·have h2:=fZ t28;refine ae ?_;rw[hone]at h2 ⊢;rw[sC h1 ha hj h2]
  have h2:=fI t28;rw[hone]at h2;refine ga aH ?_;exact aG J1 (i+1) ⟨hin,fun x hx=>by rw[dl ha]at hx;rcases List.mem_append.1 hx with h9 |h9;exact hj x h9;(rw[List.mem_singleton.1 h9];exact h2)⟩
 have hin:i=xs.length:=by have:xs.length<=i:=(by simpa[aa]using t18);omega
 subst hin;rw[take_length]at hj;refine ae ?_;rw[n8 h1 hj];rfl
theorem uh{ts:LL}{r e f:Nat}(tw:Tw ts r){a b:List Rat}(ha:Nm ts.length e a)(hb:Nm ts.length f b)(he:e+f<=lm ts.length):FP 84 [aI ts,nA a,nA b] (nA (sh ts.length (T.add ts.length (ad ts.length a) (ad ts.length b)))):=by
 refine af func84 ?_;refine gc (S0 tw ha hb he) ?_;refine ae ?_
 first |rfl |(simp;done)
theorem ww{ts:LL}{r e f:Nat}(tw:Tw ts r){a b:List Rat}(ha:Nm ts.length e a)(hb:Nm ts.length f b)(he:e+f<=lm ts.length):FP 276 [aI ts,nA a,nA b] (nA (sh ts.length (T.add ts.length (ad ts.length a) (T.neg ts.length (ad ts.length b))))):=by
 refine af func276 ?_;refine gc (IV tw ha hb he) ?_;refine ae ?_
 first |rfl |(simp;done)
theorem mH{ts:LL}{r e f:Nat}(tw:Tw ts r){a b:List Rat}(ha:Nm ts.length e a)(hb:Nm ts.length f b)(he:e+f<=lm ts.length):FP 29 [aI ts,nA a,nA b] (nA (sh ts.length (T.mul (aj ts) ts.length (ad ts.length a) (ad ts.length b)))):=by
 refine af func29 ?_;refine gc (OT tw ha hb he) ?_;refine ae ?_
 first |rfl |(simp;done)
theorem O3{ts:LL}{r e:Nat}(tw:Tw ts r){a:List Rat}(ha:Nm ts.length e a)(he:e<=lm ts.length):FP 28 [aI ts,nA a] (i64 (T.sgn (aj ts) ts.length (ad ts.length a))):=by
 refine af func28 ?_;refine gc (SS tw ha he) ?_;refine ae ?_
 first |rfl |(simp;done)
theorem lZ{ts:LL}{r e f:Nat}(tw:Tw ts r){a b:List Rat}(ha:Nm ts.length e a)(hb:Nm ts.length f b)(he:e+f+1<=lm ts.length):FP 23 [aI ts,nA a,nA b] (bl (gG ts (ad ts.length a) (ad ts.length b))):=by
 refine af func23 ?_;refine gc (QP tw ha hb he) ?_;refine ae ?_;exact congrArg bl (MU _)
theorem Ea{ts:LL}{r e:Nat}(tw:Tw ts r){a b c d:List Rat}(ha:Nm ts.length e a)(hb:Nm ts.length e b)(hc:Nm ts.length e c)(hd:Nm ts.length e d)(he:2*e+1<=lm ts.length):FP 81 [aI ts,aA a b,aA c d] (bl (gG ts (ad ts.length a) (ad ts.length c)&&gG ts (ad ts.length b) (ad ts.length d))):=by
 refine af func81 ?_;refine gc (lZ tw ha hc oz) ?_;refine bI (fun _=>(lZ tw hb hd oz)) ?_;refine ae ?_;exact congrArg bl (iS _ _)
theorem Lj{ts:LL}{r e:Nat}(tw:Tw ts r){a b c d:List Rat}(ha:Nm ts.length e a)(hb:Nm ts.length e b)(hc:Nm ts.length e c)(hd:Nm ts.length e d)(he:2*(e+e+kB r ts.length)<=lm ts.length):FP 24 [aI ts,aA a b,aA c d] (nA (sh ts.length (mj ts (ad ts.length a) (ad ts.length b) (ad ts.length c) (ad ts.length d)))):=by
 refine af func24 ?_;refine gc (mH tw ha hc oz) ?_;refine gc (mH tw hb hd oz) ?_;refine gc (rZ▸uh tw (ha.mul tw rfl hc) (hb.mul tw rfl hd) oz) ?_;refine gD ?_;refine ae ?_
 first |rfl |(simp;done)
theorem MI{ts:LL}{r e:Nat}(tw:Tw ts r){a b c d:List Rat}(ha:Nm ts.length e a)(hb:Nm ts.length e b)(hc:Nm ts.length e c)(hd:Nm ts.length e d)(he:2*(e+e+kB r ts.length)<=lm ts.length):FP 167 [aI ts,aA a b,aA c d] (nA (sh ts.length (lM ts (ad ts.length a) (ad ts.length b) (ad ts.length c) (ad ts.length d)))):=by
 refine af func167 ?_;refine gc (mH tw ha hd oz) ?_;refine gc (mH tw hb hc oz) ?_;refine gc (sW▸ww tw (ha.mul tw rfl hd) (hb.mul tw rfl hc) oz) ?_;refine gD ?_;refine ae ?_
 first |rfl |(simp;done)
theorem HP{ts:LL}{r e:Nat}(tw:Tw ts r){a b c d:List Rat}(ha:Nm ts.length e a)(hb:Nm ts.length e b)(hc:Nm ts.length e c)(hd:Nm ts.length e d)(he:2*e<=lm ts.length):FP 168 [aI ts,aA a b,aA c d] (aA (sh ts.length (subT ts (ad ts.length a) (ad ts.length c))) (sh ts.length (subT ts (ad ts.length b) (ad ts.length d)))):=by
 refine af func168 ?_;refine gc (ww tw ha hc oz) ?_;refine gc (ww tw hb hd oz) ?_;refine gD ?_;refine ae ?_
 first |rfl |(simp;done)
theorem Uy{ts:LL}{r e:Nat}(tw:Tw ts r){a b c d:List Rat}(ha:Nm ts.length e a)(hb:Nm ts.length e b)(hc:Nm ts.length e c)(hd:Nm ts.length e d)(he:2*e<=lm ts.length):FP 275 [aI ts,aA a b,aA c d] (aA (sh ts.length (T.add ts.length (ad ts.length a) (ad ts.length c))) (sh ts.length (T.add ts.length (ad ts.length b) (ad ts.length d)))):=by
 refine af func275 ?_;refine gc (uh tw ha hc oz) ?_;refine gc (uh tw hb hd oz) ?_;refine gD ?_;refine ae ?_
 first |rfl |(simp;done)
theorem U1{ts:LL}{r e:Nat}(tw:Tw ts r){a b c d:List Rat}(ha:Nm ts.length e a)(hb:Nm ts.length e b)(hc:Nm ts.length e c)(hd:Nm ts.length e d)(he:2*(e+e+kB r ts.length)<=lm ts.length):FP 202 [aI ts,nA a,nA b,aA c d] (aA (sh ts.length (pJ ts (ad ts.length a) (ad ts.length b) (ad ts.length c) (ad ts.length d))) (sh ts.length (qR ts (ad ts.length a) (ad ts.length b) (ad ts.length c) (ad ts.length d)))):=by
 refine af func202 ?_;refine gc (mH tw ha hc oz) ?_;refine gc (mH tw hb hd oz) ?_;refine gc (sW▸ww tw (ha.mul tw rfl hc) (hb.mul tw rfl hd) oz) ?_;refine gc (mH tw hb hc oz) ?_;refine gc (mH tw ha hd oz) ?_;refine gc (rZ▸uh tw (hb.mul tw rfl hc) (ha.mul tw rfl hd) oz) ?_;refine gD ?_;refine ae ?_
 first |rfl |(simp;done)
theorem LS{ts:LL}{r e:Nat}(tw:Tw ts r){a b c d p q:List Rat}(ha:Nm ts.length e a)(hb:Nm ts.length e b)(hc:Nm ts.length e c)(hd:Nm ts.length e d)(hp:Nm ts.length e p)(hq:Nm ts.length e q)
  (he:8*e+10+2*kB r ts.length<=lm ts.length) :
  FP 82 [aI ts,aA a b,aA c d,aA p q] (i64 (T.sgn (aj ts) ts.length (vF ts (ad ts.length a) (ad ts.length b) (ad ts.length c) (ad ts.length d) (ad ts.length p) (ad ts.length q)))):=by
 have ho:=PX tw ha hb hc hd hp hq;refine af func82 ?_;refine gc (HP tw hc hd ha hb oz) ?_;refine gc (HP tw hp hq ha hb oz) ?_;refine gc (Hq▸MI tw (hc.sub ha) (hd.sub hb) (hp.sub ha) (hq.sub hb) oz) ?_;refine gc (O3 tw ho oz) ?_;refine gD ?_;refine ae ?_;rw[a6]
theorem IC{x y:Rat}(hx:Qs x)(hy:Qs y):FP 93 [qA x,qA y] (aA (sh 0 (x:Rat)) (sh 0 (y:Rat))):=by
 refine af func93 ?_;refine gc (pc hx) ?_;refine gc (pc hy) ?_;refine gD ?_;refine ae ?_
 first |rfl |(simp;done)
theorem Uo{ts:LL}{r e:Nat}(tw:Tw ts r){a b c d:List Rat}(ha:Nm ts.length e a)(hb:Nm ts.length e b)(hc:Nm ts.length e c)(hd:Nm ts.length e d){x y:Rat}(hx:Qb e x)(hy:Qb e y)(he:8*e+4*kB r ts.length+4<=lm ts.length) :
  FP 166 [aI ts,.agg [nA a,nA b,nA c,nA d],qA x,qA y] (aA (sh ts.length (pN ts (ad ts.length a) (ad ts.length b) (ad ts.length c) x y)) (sh ts.length (qB ts (ad ts.length a) (ad ts.length b) (ad ts.length d) x y))):=by
 have hlm:=fS ts.length;have nx:=Nm.ofQ ha.five (Cb.one hx);have ny:=Nm.ofQ ha.five (Cb.one hy);have nX:=qK tw ha hb nx ny;have nY:=pX tw ha hb nx ny;have z1:e<=2*(e+e+kB r ts.length)+1:=by omega
 have z2:2*(2*(e+e+kB r ts.length)+1)<=lm ts.length:=Ar he;have hadd:=Uy tw nX nY (hc.mono z1) (hd.mono z1) z2;refine af func166 ?_;refine gc (IC (hx.qs oz) (hy.qs oz)) ?_;refine gc (U1 tw ha hb nx ny oz) ?_;refine gc hadd ?_;refine gD ?_;refine ae ?_;rw[rN,sI];rfl
theorem Jh(n:Int)(h:-9223372036854775808<=n/\n<=9223372036854775807):FP 25 [i64 n] (nA (sh 0 ((n:Rat):Rat))):=by
 refine af func25 ?_;refine gc (mv n h) ?_;refine gc (pc (mK h)) ?_;refine ae ?_
 first |rfl |(simp;done)
theorem Ri{ts:LL}{r e:Nat}(tw:Tw ts r){a b c d p q u v:List Rat}(ha:Nm ts.length e a)(hb:Nm ts.length e b)(hc:Nm ts.length e c)(hd:Nm ts.length e d)(hp:Nm ts.length e p)(hq:Nm ts.length e q)(hu:Nm ts.length e u)(hv:Nm ts.length e v)(he:2*e+1<=lm ts.length) :
  FP 20 [aI ts,.agg [nA a,nA b,nA c,nA d],.agg [nA p,nA q,nA u,nA v]] (bl (gG ts (ad ts.length a) (ad ts.length p)&&gG ts (ad ts.length b) (ad ts.length q)&&gG ts (ad ts.length c) (ad ts.length u)&&gG ts (ad ts.length d) (ad ts.length v))):=by
 refine af func20 ?_;refine gc (lZ tw ha hp oz) ?_;refine bI (fun _=>(lZ tw hb hq oz)) ?_;refine bI (fun _=>(lZ tw hc hu oz)) ?_;refine bI (fun _=>(lZ tw hd hv oz)) ?_;refine ae ?_;exact congrArg bl (MR _ _ _ _)
theorem Sp:FP 36 [] (.agg [nA [1],nA [],nA [],nA []]):=by
 refine af func36 ?_;refine gc (mv 1 oz) ?_;refine gc (pc (mK (n:=1) oz)) ?_;refine gR ?_;exact iV (.agg (.cons (.refl _) (.cons (.nil _ _ _) (.cons (.nil _ _ _) (.cons (.nil _ _ _) .nil)))) rfl)
def u8(n:Nat):AV:=.v (.int .u8 n)
theorem r8{p q:Bool}{a b:Nat}{c:Nat}(hp:p=decide (a<=c))(hq:q=decide (c<=b)):cond p q false=decide (a<=c/\c<=b):=by
 subst hp;subst hq
 by_cases h:a<=c
 ·simp[h]
 ·simp[h]
theorem sa(c k:Nat):aa .geq (c:Int) (k:Int)=decide (k<=c):=by simp only[aa,decide_eq_decide];omega
theorem tU(c k:Nat):aa .leq (c:Int) (k:Int)=decide (c<=k):=by simp only[aa,decide_eq_decide];omega
theorem JZ(c:Nat):cond (cond (aa .geq (c:Int) 97) (aa .leq (c:Int) 122) false) true (cond (aa .geq (c:Int) 65) (aa .leq (c:Int) 90) false)=eO c:=by
 have e1:cond (aa .geq (c:Int) 97) (aa .leq (c:Int) 122) false=decide (97<=c/\c<=122):=r8 (sa c 97) (tU c 122);have e2:cond (aa .geq (c:Int) 65) (aa .leq (c:Int) 90) false=decide (65<=c/\c<=90):=r8 (sa c 65) (tU c 90);rw[e1,e2];unfold eO;cases decide (97<=c/\c<=122) <;> rfl
theorem Ma(c:Nat):cond (cond (aa .geq (c:Int) 65) (aa .leq (c:Int) 90) false) true (cond (aa .geq (c:Int) 97) (aa .leq (c:Int) 122) false)=eO c:=by
 have e1:cond (aa .geq (c:Int) 97) (aa .leq (c:Int) 122) false=decide (97<=c/\c<=122):=r8 (sa c 97) (tU c 122);have e2:cond (aa .geq (c:Int) 65) (aa .leq (c:Int) 90) false=decide (65<=c/\c<=90):=r8 (sa c 65) (tU c 90);rw[e1,e2];unfold eO;cases decide (97<=c/\c<=122) <;> cases decide (65<=c/\c<=90) <;> rfl
theorem Ef(c:Nat):cond (aa .geq (c:Int) 48) (aa .leq (c:Int) 57) false=qF c:=r8 (sa c 48) (tU c 57)
theorem wY(c:Nat):cond (cond (eO c) true (qF c)) true (aa .eql (c:Int) 95)=kr c:=by
 unfold kr
 have:aa .eql (c:Int) 95=decide (c=95):=by
  rw[Bool.eq_iff_iff];simp only[aa,beq_iff_eq,decide_eq_true_eq];omega
 rw[this];cases eO c <;> cases qF c <;> rfl
theorem Ee(c:Nat):FP 368 [u8 c] (bl (eO c)):=by
 refine af func368 ?_;refine ae ?_;exact congrArg bl (JZ c)
theorem Jc(c:Nat):FP 395 [u8 c] (bl (qF c)):=by
 refine af func395 ?_;refine ae ?_;exact congrArg bl (Ef c)
theorem S4(c:Nat):FP 369 [u8 c] (bl (kr c)):=by
 refine af func369 ?_;refine gc (Ee c) ?_;refine bI (fun _=>(Jc c)) ?_;refine ae ?_;exact congrArg bl (wY c)
theorem Fp(c:Nat):FP 284 [u8 c] (bl (eO c)):=by
 refine af func284 ?_;refine ae ?_;exact congrArg bl (Ma c)
theorem US(c:Nat):FP 286 [u8 c] (bl (qF c)):=by
 refine af func286 ?_;refine ae ?_;exact congrArg bl (Ef c)
theorem Q0(s:ByteArray)(hs:s.size<=281474976710656):FP 313 [.v (.string s)] (i64 (e8 s)):=by
 refine af func313 ?_;refine gs (er rfl rfl rfl (fun h=>wI (.opt rfl (o1 h)) (.const _) T9 rfl oz (by have:=FL h;omega) rfl)) ?_;refine bI (fun _=>(Ee (dV s 0))) ?_;refine gC (fun t11=>?_) (fun t11=>?_)
 ·have h0:e8 s=0:=P9 t11;refine ae ?_;rw[h0];rfl
 obtain⟨h0,h1⟩:=PO t11;refine aM [0] [] (fun(n:Nat)=>[(3,some (i64 n))]) (fun _=>[]) (fun n=>1<=n/\n<=s.size/\ff s 1 (s.size-1)=ff s n (s.size-n)) (fun n=>s.size-n) 1 ⟨le_refl _,h0,rfl⟩ ?_;rintro n ⟨hn1,hn,hw⟩ K1 J1;refine gs (er rfl rfl rfl (fun h=>wI (.opt rfl (o1 h)) (.opt rfl (o1 h)) T9 rfl oz (by have:=aW h;omega) rfl)) ?_;refine bI (fun _=>(S4 (dV s n))) ?_;refine gC (fun t21=>?_) (fun t21=>?_)
 ·have h2:n<s.size/\kr (dV s n)=true:=Mp t21;refine ga aH ?_;exact aG J1 (n+1) ⟨by omega,by omega,by rw[hw,show s.size-n=(s.size-(n+1))+1 by omega];simp only[ff,h2.2,if_true]⟩
 have h2:n<s.size->kr (dV s n)=false:=PZ t21
 have h3:e8 s=n:=by
  unfold e8;rw[if_pos ⟨h0,h1⟩,hw];rcases lt_or_ge n s.size with h |h
  ·rw[show s.size-n=(s.size-(n+1))+1 by omega];simp only[ff,h2 h,Bool.false_eq_true,if_false]
  ·rw[show s.size-n=0 by omega];rfl
 refine ae ?_;rw[h3]
theorem rG(s:ByteArray)(hs:s.size<=281474976710656):FP 211 [.v (.string s)] (bl (it s)):=by
 refine af func211 ?_;refine gc (Q0 s hs) ?_;refine ae ?_;exact congrArg bl (Rf s)
theorem vp(s:ByteArray)(i:Nat):FP 285 [.v (.string s),i64 i] (u8 (dV s i)):=by
 refine af func285 ?_;refine gC (fun t8=>?_) (fun t8=>?_)
 ·have h0:=aW t8;refine gs (wI (.tmp rfl) (.tmp rfl) T9 rfl oz oz rfl) ?_;refine ae ?_;rfl
 have h0:=rP t8;refine ae ?_;rw[El oz];rfl
theorem UO(s:ByteArray)(hs:s.size<=281474976710656):FP 185 [.v (.string s),i64 0] (i64 ((if eO (dV s 0)then ff s 0 s.size else 0:Nat))):=by
 refine af func185 ?_;refine gc (vp s 0) ?_;refine gc (Fp (dV s 0)) ?_;refine gC (fun t9=>?_) (fun t9=>?_)
 ·have h0 : eO (dV s 0) = false := by simpa using t9
  refine ae ?_;rw[h0];rfl
 have h0:eO (dV s 0)=true:=by simpa using t9
 refine aM [0] [] (fun(n:Nat)=>[(1,some (i64 n))]) (fun _=>[]) (fun n=>n<=s.size/\ff s 0 s.size=ff s n (s.size-n)) (fun n=>s.size-n) 0 ⟨zero_le _,rfl⟩ ?_;rintro n ⟨hn,hw⟩ K1 J1;refine gc (vp s n) ?_;refine gc (Fp (dV s n)) ?_;refine bI (fun _=>(vp s n)) ?_;refine bI (fun _=>(US (dV s n))) ?_;refine bI (fun _=>(vp s n)) ?_;refine gC (fun t26=>?_) (fun t26=>?_)
 ·have h1:kr (dV s n)=true:=(wY _).symm.trans t26
  have h2:n<s.size:=by
   rcases lt_or_ge n s.size with h |h
   ·exact h
   ·rw[El h]at h1;cases h1
  refine ga aH ?_;exact aG J1 (n+1) ⟨by omega,by rw[hw,show s.size-n=(s.size-(n+1))+1 by omega];simp only[ff,h1,if_true]⟩
 have h1:kr (dV s n)=false:=(wY _).symm.trans t26
 have h2:ff s 0 s.size=n:=by
  rw[hw];rcases lt_or_ge n s.size with h |h
  ·rw[show s.size-n=(s.size-(n+1))+1 by omega];simp only[ff,h1,Bool.false_eq_true,if_false]
  ·rw[show s.size-n=0 by omega];rfl
 refine ae ?_;rw[h0,h2];rfl
theorem td(s:ByteArray)(hs:s.size<=281474976710656):FP 95 [.v (.string s)] (bl (it s)):=by
 refine af func95 ?_;refine bI (fun _=>(UO s hs)) ?_;refine ae ?_;exact congrArg bl (Mh s)
theorem pa(i:Int)(n:Nat):FP 315 [i64 i,i64 n] (bl (bn i n)):=by
 refine af func315 ?_;refine ae ?_;exact congrArg bl (Ic i n)
theorem Pg(bs:List Bd)(hbs:∀b∈bs,b.ok)(hl:bs.length<=281474976710656):FP 212 [.lst 2 (bs.map Bd.av)] (bp (fe bs.length (ef bs))):=by
 refine af func212 ?_;refine gl ?_;refine aM [0,11,12] [] (fun(i:Nat)=>[(13,some (i64 i))]) (fun _=>[]) (fun i=>i<=bs.length/\∀j,j<i->ef bs j=0) (fun i=>bs.length-i) 0 ⟨zero_le _,fun j h=>by omega⟩ ?_;rintro i ⟨hi,hj⟩ K1 J1;refine gC (fun t14=>?_) (fun t14=>?_)
 ·have hin:=aW t14;obtain⟨b,hb⟩:=aw hin;have hbd:bs.getD i default=b:=aD hb;have hbo:=hbs b (mem_of_getElem? hb);have hbdup:=nf Bd.name hb;refine gi (ax hb) ?_;refine gc (rG b.name hbo.name) ?_;refine gC (fun t21=>?_) (fun t21=>?_)
  ·have h1:=dq t21;have e1:ef bs i = 5:=by unfold ef; rw [hbd,if_pos h1]
   refine ae ?_;rw[dY hin hj (by rw[e1];decide),e1];rfl
  have h1:=dD t21;refine gs (cR (.tmp rfl) (.none _) (.some _ (.tmp rfl) oz) T22 rfl T120 rfl oz (by simp only[length_map];omega) rfl) ?_;refine ge rfl ?_;refine aM [0,3,4,11,12,13] [4] (fun(k:Nat)=>[(25,some (.lst 2 ((bs.take i).map Bd.av))),(26,some (i64 i)),(27,some (i64 k))]) (fun _=>[]) (fun k=>k<=i/\(bs.take k).any (fun y=>dO y.name b.name)=false) (fun k=>i-k) 0 ⟨zero_le _,rfl⟩ ?_ (h1:=(.cons rfl (Sub.of (tg 2 Bd.av bs i)) (.cons rfl (Sub.int (by simp;omega)) (.k .nil))));rintro k ⟨hk,hd⟩ K2 J2;refine gC (fun t28=>?_) (fun t28=>?_)
  ·have hkn:=aW t28;obtain ⟨y,hy'⟩:∃ y,(bs.take i)[k]? = some y:=aw (by simp; omega);have hy:=(sS hy').1;refine gi (ax hy') ?_;refine gC (fun t35=>?_) (fun t35=>?_)
   ·have h2:dO y.name b.name = true:=t35;have e1:ef bs i = 6:=by unfold ef; rw [hbd,if_neg (by rw [h1]; decide),if_pos (by rw [hbdup]; exact lI hy hkn h2)]
    refine ae ?_;rw[dY hin hj (by rw[e1];decide),e1];rfl
   have h2:dO y.name b.name=false:=t35;refine ga aH ?_;exact aG J2 (k+1) ⟨hkn,kp hy hd h2⟩
  have hkn:=be hk t28;subst hkn;have hnd:¬f6 (bs.map Bd.name) k=true:=by rw[hbdup,hd];decide
  refine gl ?_;refine gC (fun t41=>?_) (fun t41=>?_)
  ·have h3:8 < b.pts.length:=jC t41;have e1:ef bs k = 4:=by unfold ef; rw [hbd,if_neg (by rw [h1]; decide),if_neg hnd,if_pos h3]
   refine ae ?_;rw[dY hin hj (by rw[e1];decide),e1];rfl
  have h3:b.pts.length<=8:=gP t41;have e1:ef bs k=fe b.pts.length (dX b.pts):=by unfold ef;rw[hbd,if_neg (by rw[h1];decide),if_neg hnd,if_neg oz]
  refine gl ?_;refine aM [0,4,11,12,13,44,45] [4] (fun(p:Nat)=>[(46,some (i64 p))]) (fun _=>[]) (fun p=>p<=b.pts.length/\∀j,j<p->dX b.pts j=0) (fun p=>b.pts.length-p) 0 ⟨zero_le _,fun j h=>by omega⟩ ?_;rintro p ⟨hp,hpj⟩ K3 J3;refine gC (fun t47=>?_) (fun t47=>?_)
  ·have hpn:=aW t47;obtain⟨m,hm⟩:=aw hpn;have hmd:b.pts.getD p default=m:=aD hm;have hmm:=mem_of_getElem? hm;have hmdup:=nf Mk.name hm;have hmo:=hbo.pts m hmm;refine gi (ax hm) ?_;refine gc (rG m.name (hbo.names m hmm)) ?_;refine gC (fun t54=>?_) (fun t54=>?_)
   ·have h4:=dq t54;have e2:dX b.pts p = 5:=by unfold dX; rw [hmd,if_pos h4]
    have e3:ef bs k=5:=by rw[e1,dY hpn hpj (by rw[e2];decide),e2]
    refine ae ?_;rw[dY hin hj (by rw[e3];decide),e3];rfl
   have h4:=dD t54;refine gs (cR (.tmp rfl) (.none _) (.some _ (.tmp rfl) oz) T118 rfl T122 rfl oz (by simp only[length_map];omega) rfl) ?_;refine ge rfl ?_;refine aM [0,4,8,11,12,13,44,45,46] [4,8] (fun(q:Nat)=>[(59,some (.lst 7 ((b.pts.take p).map Mk.av))),(60,some (i64 p)),(61,some (i64 q))]) (fun _=>[]) (fun q=>q<=p/\(b.pts.take q).any (fun y=>dO y.name m.name)=false) (fun q=>p-q) 0 ⟨zero_le _,rfl⟩ ?_ (h1:=(.cons rfl (Sub.of (tg 7 Mk.av b.pts p)) (.cons rfl (Sub.int (by simp;omega)) (.k .nil))));rintro q ⟨hq,hqd⟩ K4 J4;refine gC (fun t62=>?_) (fun t62=>?_)
   ·have hqn:=aW t62;obtain ⟨y,hy'⟩:∃ y,(b.pts.take p)[q]? = some y:=aw (by simp; omega);have hy:=(sS hy').1;refine gi (ax hy') ?_;refine gC (fun t69=>?_) (fun t69=>?_)
    ·have h5:dO y.name m.name = true:=t69;have e2:dX b.pts p = 6:=by unfold dX; rw [hmd,if_neg (by rw [h4]; decide),if_pos (by rw [hmdup]; exact lI hy hqn h5)]
     have e3:ef bs k=6:=by rw[e1,dY hpn hpj (by rw[e2];decide),e2]
     refine ae ?_;rw[dY hin hj (by rw[e3];decide),e3];rfl
    have h5:dO y.name m.name=false:=t69;refine ga aH ?_;exact aG J4 (q+1) ⟨hqn,kp hy hqd h5⟩
   have hqn:=be hq t62;subst hqn;have hmnd:¬f6 (b.pts.map Mk.name) q=true:=by rw[hmdup,hqd];decide
   refine gc (sK m.x hmo.x) ?_;refine bI (fun _=>(sK m.y hmo.y)) ?_;refine gC (fun t81=>?_) (fun t81=>?_)
   ·have h6:=oN t81;have e2:dX b.pts q = 3:=by unfold dX; rw [hmd,if_neg (by rw [h4]; decide),if_neg hmnd,if_neg (by rintro ⟨g1,g2⟩; rcases h6 with g | g; (rw [g1] at g; cases g); (rw [g2] at g; cases g))]
    have e3:ef bs k=3:=by rw[e1,dY hpn hpj (by rw[e2];decide),e2]
    refine ae ?_;rw[dY hin hj (by rw[e3];decide),e3];rfl
   have h6:=nF t81;have e2:dX b.pts q=0:=by unfold dX;rw[hmd,if_neg (by rw[h4];decide),if_neg hmnd,if_pos h6]
   refine ga aH ?_;exact aG J3 (q+1) ⟨hpn,fun j h9=>by rcases lt_or_ge j q with g |g;exact hpj j g;(have:j=q:=by omega);subst this;exact e2⟩
  have hpn:=be hp t47;subst hpn;have e2:ef bs k=0:=e1.trans (mV hpj);refine ga aH ?_;exact aG J1 (k+1) ⟨hin,fun j h9=>by rcases lt_or_ge j k with g |g;exact hj j g;(have:j=k:=by omega);subst this;exact e2⟩
 have hin:=be hi t14;subst hin;refine ae ?_;rw[mV hj];rfl
theorem RR(l:Li)(hl:l.ok)(j:Jt):FP 314 [l.av,j.av] (bp (en l j)):=by
 refine af func314 ?_;refine gC (fun t15=>?_) (fun t15=>?_)
 ·have h1:=Ha t15;refine ae ?_;unfold en;rw[if_pos h1];rfl
 have h1:=F5 t15;refine gl ?_;refine gc (pa j.a l.bo.length) ?_;refine ci ?_;refine bI (fun _=>(pa j.b l.bo.length)) ?_;refine gC (fun t32=>?_) (fun t32=>?_)
 ·have h2:=oN t32;refine ae ?_;unfold en;rw[if_neg h1,if_pos h2];rfl
 have h2:=nF t32;have h2n:¬(bn j.a l.bo.length=false\/bn j.b l.bo.length=false):=by rw[h2.1,h2.2];simp
 obtain⟨A,hA,pA,mA,zA0⟩:=o4 h2.1;obtain⟨B,hB,pB,mB,zB0⟩:=o4 h2.2;refine gC (fun t38=>?_) (fun t38=>?_)
 ·have h3:=cT t38;refine ae ?_;unfold en;rw[if_neg h1,if_neg h2n,if_pos h3];rfl
 have h3:=d5 t38;refine gi (ax hB) ?_;refine gi (ax hA) ?_;refine gl ?_;refine gc (pa j.point A.pts.length) ?_;refine ci ?_;refine bI (fun _=>(pa j.on B.pts.length)) ?_;refine gD ?_;refine gC (fun t66=>?_) (fun t66=>?_)
 ·have h4:=oN t66;refine ae ?_;unfold en;rw[if_neg h1,if_neg h2n,if_neg h3,pA,pB,if_pos h4];rfl
 have h4:=nF t66;have h4n:¬(bn j.point A.pts.length=false\/bn j.on B.pts.length=false):=by rw[h4.1,h4.2];simp
 refine gC (fun t70=>?_) (fun t70=>?_)
 ·have h5:=cT t70;refine gC (fun t73=>?_) (fun t73=>?_)
  ·have h6:=rK t73;refine ae ?_;unfold en;rw[if_neg h1,if_neg h2n,if_neg h3,pA,pB,if_neg h4n,if_pos h5,if_pos h6];rfl
  have h6:=zT t73;refine ae ?_;unfold en;rw[if_neg h1,if_neg h2n,if_neg h3,pA,pB,if_neg h4n,if_pos h5,if_neg (by rw[h6];simp)];rfl
 have h5:=d5 t70;refine gl ?_;refine gc (pa j.to B.pts.length) ?_;refine gC (fun t80=>?_) (fun t80=>?_)
 ·have h6:=dq t80;refine ae ?_;unfold en;rw[if_neg h1,if_neg h2n,if_neg h3,pA,pB,if_neg h4n,if_neg h5,if_pos h6];rfl
 have h6:=dD t80;obtain⟨m1,g1,d1,mm1,z1⟩:=s6 h4.2;obtain⟨m2,g2,d2,mm2,z2⟩:=s6 h6;have mo1:=(hl.bo B mB).pts m1 mm1;have mo2:=(hl.bo B mB).pts m2 mm2;refine gi (ax g1) ?_;refine gi (ax g2) ?_;refine gD ?_;refine gc (CL m1.x m2.x mo1.x mo2.x) ?_;refine bI (fun _=>(CL m1.y m2.y mo1.y mo2.y)) ?_;refine gC (fun t105=>?_) (fun t105=>?_)
 ·have h7:=EH t105;refine ae ?_;unfold en;rw[if_neg h1,if_neg h2n,if_neg h3,pA,pB,if_neg h4n,if_neg h5,if_neg (by rw[h6];decide),d1,d2,if_pos h7];rfl
 have h7:=HO t105;refine ae ?_;unfold en;rw[if_neg h1,if_neg h2n,if_neg h3,pA,pB,if_neg h4n,if_neg h5,if_neg (by rw[h6];decide),d1,d2,if_neg h7];rfl
theorem Lp(l:Li)(hl:l.ok):FP 213 [l.av] (bp (eQ l)):=by
 have hlj:=hl.lj;refine af func213 ?_;refine gl ?_;refine gC (fun t11=>?_) (fun t11=>?_)
 ·have h0:16<l.jo.length:=jC t11;refine ae ?_;unfold eQ;rw[if_pos h0];rfl
 have h0:l.jo.length<=16:=gP t11;have e0:eQ l=fe l.jo.length (fT l):=by unfold eQ;rw[if_neg oz]
 refine gl ?_;refine aM [1,14,15] [1] (fun(i:Nat)=>[(16,some (i64 i))]) (fun _=>[]) (fun i=>i<=l.jo.length/\∀j,j<i->fT l j=0) (fun i=>l.jo.length-i) 0 ⟨zero_le _,fun j h=>by omega⟩ ?_;rintro i ⟨hi,hj⟩ K1 J1;refine gC (fun t17=>?_) (fun t17=>?_)
 ·have hin:=aW t17;obtain⟨b,hb⟩:=aw hin;have hbd:l.jo.getD i default=b:=aD hb;have hbdup:=nf Jt.name hb;refine gi (ax hb) ?_;refine gc (rG b.name (hl.jnames b (mem_of_getElem? hb))) ?_;refine gC (fun t24=>?_) (fun t24=>?_)
  ·have h1:=dq t24;have e1:fT l i = 5:=by unfold fT; rw [hbd,if_pos h1]
   refine ae ?_;rw[e0,dY hin hj (by rw[e1];decide),e1];rfl
  have h1:=dD t24;refine gs (cR (.tmp rfl) (.none _) (.some _ (.tmp rfl) oz) T23 rfl T75 rfl oz (by simp only[length_map];omega) rfl) ?_;refine ge rfl ?_;refine aM [1,3,4,14,15,16] [1,4] (fun(k:Nat)=>[(29,some (.lst 7 ((l.jo.take i).map Jt.av))),(30,some (i64 i)),(31,some (i64 k))]) (fun _=>[]) (fun k=>k<=i/\(l.jo.take k).any (fun y=>dO y.name b.name)=false) (fun k=>i-k) 0 ⟨zero_le _,rfl⟩ ?_ (h1:=(.cons rfl (Sub.of (tg 7 Jt.av l.jo i)) (.cons rfl (Sub.int (by simp;omega)) (.k .nil))));rintro k ⟨hk,hd⟩ K2 J2;refine gC (fun t32=>?_) (fun t32=>?_)
  ·have hkn:=aW t32;obtain ⟨y,hy'⟩:∃ y,(l.jo.take i)[k]? = some y:=aw (by simp; omega);have hy:=(sS hy').1;refine gi (ax hy') ?_;refine gC (fun t39=>?_) (fun t39=>?_)
   ·have h2:dO y.name b.name = true:=t39;have e1:fT l i = 6:=by unfold fT; rw [hbd,if_neg (by rw [h1]; decide),if_pos (by rw [hbdup]; exact lI hy hkn h2)]
    refine ae ?_;rw[e0,dY hin hj (by rw[e1];decide),e1];rfl
   have h2:dO y.name b.name=false:=t39;refine ga aH ?_;exact aG J2 (k+1) ⟨hkn,kp hy hd h2⟩
  have hkn:=be hk t32;subst hkn;have hnd:¬f6 (l.jo.map Jt.name) k=true:=by rw[hbdup,hd];decide
  have e1:fT l k=en l b:=by unfold fT;rw[hbd,if_neg (by rw[h1];decide),if_neg hnd]
  refine gc (RR l hl b) ?_;refine gC (fun t46=>?_) (fun t46=>?_)
  ·have h3:=de t46;refine ae ?_;rw[e0,dY hin hj (by rw[e1];exact h3),e1]
  have h3:=cQ t46;refine ga aH ?_;exact aG J1 (k+1) ⟨hin,fun j h9=>by rcases lt_or_ge j k with g |g;exact hj j g;(have:j=k:=by omega);subst this;exact e1.trans h3⟩
 have hin:=be hi t17;subst hin;refine ae ?_;rw[e0,mV hj];rfl
theorem NH(l:Li)(hl:l.ok):FP 214 [l.av] (bp (f9 l)):=by
 have hld:=hl.ld;refine af func214 ?_;refine gl ?_;refine gC (fun t12=>?_) (fun t12=>?_)
 ·have h0:2<l.dv.length:=jC t12;refine ae ?_;unfold f9;rw[if_pos h0];rfl
 have h0:l.dv.length<=2:=gP t12;have e0:f9 l=fe l.dv.length (dU l):=by unfold f9;rw[if_neg oz]
 refine gl ?_;refine aM [1,15,16] [1] (fun(i:Nat)=>[(17,some (i64 i))]) (fun _=>[]) (fun i=>i<=l.dv.length/\∀j,j<i->dU l j=0) (fun i=>l.dv.length-i) 0 ⟨zero_le _,fun j h=>by omega⟩ ?_;rintro i ⟨hi,hj⟩ K1 J1;refine gC (fun t18=>?_) (fun t18=>?_)
 ·have hin:=aW t18;obtain⟨b,hb⟩:=aw hin;have hbd:l.dv.getD i default=b:=aD hb;have hbdup:=nf Dr.name hb;refine gi (ax hb) ?_;refine gc (rG b.name (hl.dnames b (mem_of_getElem? hb))) ?_;refine gC (fun t25=>?_) (fun t25=>?_)
  ·have h1:=dq t25;have e1:dU l i = 5:=by unfold dU; rw [hbd,if_pos h1]
   refine ae ?_;rw[e0,dY hin hj (by rw[e1];decide),e1];rfl
  have h1:=dD t25;refine gs (cR (.tmp rfl) (.none _) (.some _ (.tmp rfl) oz) T24 rfl T94 rfl oz (by simp only[length_map];omega) rfl) ?_;refine ge rfl ?_;refine aM [1,3,4,15,16,17] [1,4] (fun(k:Nat)=>[(30,some (.lst 2 ((l.dv.take i).map Dr.av))),(31,some (i64 i)),(32,some (i64 k))]) (fun _=>[]) (fun k=>k<=i/\(l.dv.take k).any (fun y=>dO y.name b.name)=false) (fun k=>i-k) 0 ⟨zero_le _,rfl⟩ ?_ (h1:=(.cons rfl (Sub.of (tg 2 Dr.av l.dv i)) (.cons rfl (Sub.int (by simp;omega)) (.k .nil))));rintro k ⟨hk,hd⟩ K2 J2;refine gC (fun t33=>?_) (fun t33=>?_)
  ·have hkn:=aW t33;obtain ⟨y,hy'⟩:∃ y,(l.dv.take i)[k]? = some y:=aw (by simp; omega);have hy:=(sS hy').1;refine gi (ax hy') ?_;refine gC (fun t40=>?_) (fun t40=>?_)
   ·have h2:dO y.name b.name = true:=t40;have e1:dU l i = 6:=by unfold dU; rw [hbd,if_neg (by rw [h1]; decide),if_pos (by rw [hbdup]; exact lI hy hkn h2)]
    refine ae ?_;rw[e0,dY hin hj (by rw[e1];decide),e1];rfl
   have h2:dO y.name b.name=false:=t40;refine ga aH ?_;exact aG J2 (k+1) ⟨hkn,kp hy hd h2⟩
  have hkn:=be hk t33;subst hkn;have hnd:¬f6 (l.dv.map Dr.name) k=true:=by rw[hbdup,hd];decide
  refine gl ?_;refine gc (pa b.body l.bo.length) ?_;refine gC (fun t49=>?_) (fun t49=>?_)
  ·have h3:=dq t49;have e1:dU l k = 9:=by unfold dU; rw [hbd,if_neg (by rw [h1]; decide),if_neg hnd,if_pos h3]
   refine ae ?_;rw[e0,dY hin hj (by rw[e1];decide),e1];rfl
  have h3:=dD t49;refine gC (fun t53=>?_) (fun t53=>?_)
  ·have h4:=cT t53;have e1:dU l k = 7:=by unfold dU; rw [hbd,if_neg (by rw [h1]; decide),if_neg hnd,if_neg (by rw [h3]; decide),if_pos h4]
   refine ae ?_;rw[e0,dY hin hj (by rw[e1];decide),e1];rfl
  have h4:=d5 t53;have e1:dU l k=if(l.dv.take k).any (fun d=>decide (d.body=b.body))=true then 6 else 0:=by unfold dU;rw[hbd,if_neg (by rw[h1];decide),if_neg hnd,if_neg (by rw[h3];decide),if_neg h4]
  refine gs (cR (.tmp rfl) (.none _) (.some _ (.tmp rfl) oz) T24 rfl T94 rfl oz (by simp only[length_map];omega) rfl) ?_;refine ge rfl ?_;refine aM [1,4,15,16,17] [1,4] (fun(q:Nat)=>[(58,some (.lst 2 ((l.dv.take k).map Dr.av))),(59,some (i64 k)),(60,some (i64 q))]) (fun _=>[]) (fun q=>q<=k/\(l.dv.take q).any (fun d=>decide (d.body=b.body))=false) (fun q=>k-q) 0 ⟨zero_le _,rfl⟩ ?_ (h1:=(.cons rfl (Sub.of (tg 2 Dr.av l.dv k)) (.cons rfl (Sub.int (by simp;omega)) (.k .nil))));rintro q ⟨hq,hqd⟩ K3 J3;refine gC (fun t61=>?_) (fun t61=>?_)
  ·have hqn:=aW t61;obtain ⟨y,hy'⟩:∃ y,(l.dv.take k)[q]? = some y:=aw (by simp; omega);have hy:=(sS hy').1;refine gi (ax hy') ?_;refine gC (fun t68=>?_) (fun t68=>?_)
   ·have h5:decide (y.body = b.body) = true:=decide_eq_true (cT t68);have e2:dU l k = 6:=by rw [e1,if_pos (lI hy hqn h5)]
    refine ae ?_;rw[e0,dY hin hj (by rw[e2];decide),e2];rfl
   have h5:decide (y.body=b.body)=false:=decide_eq_false (d5 t68);refine ga aH ?_;exact aG J3 (q+1) ⟨hqn,kp hy hqd h5⟩
  have hqn:=be hq t61;subst hqn;have e2:dU l q=0:=by rw[e1,hqd];rfl
  refine ga aH ?_;exact aG J1 (q+1) ⟨hin,fun j h9=>by rcases lt_or_ge j q with g |g;exact hj j g;(have:j=q:=by omega);subst this;exact e2⟩
 have hin:=be hi t18;subst hin;refine ae ?_;rw[e0,mV hj];rfl
theorem Ga(l:Li)(hl:l.ok):FP 118 [l.av] (bp (aB l)):=by
 have hlb:=hl.lb;refine af func118 ?_;refine gc (rG l.name hl.name) ?_;refine gC (fun t8=>?_) (fun t8=>?_)
 ·have h1:=dq t8;refine ae ?_;unfold aB;rw[if_pos h1];rfl
 have h1:=dD t8;refine gl ?_;refine gC (fun t13=>?_) (fun t13=>?_)
 ·have h2:=E0 t13;refine ae ?_;unfold aB;rw[if_neg (by rw[h1];decide),if_pos h2];rfl
 have h2:=Ed t13;refine gl ?_;refine gC (fun t18=>?_) (fun t18=>?_)
 ·have h3:8<l.bo.length:=jC t18;refine ae ?_;unfold aB;rw[if_neg (by rw[h1];decide),if_neg h2,if_pos h3];rfl
 have h3:l.bo.length<=8:=gP t18;have e0:aB l=if io l≠0 then io l else if eQ l≠0 then eQ l else f9 l:=by unfold aB;rw[if_neg (by rw[h1];decide),if_neg h2,if_neg oz]
 refine gc (Pg l.bo hl.bo hlb) ?_;refine gC (fun t24=>?_) (fun t24=>?_)
 ·have h4:io l≠0:=de t24;refine ae ?_;rw[e0,if_pos h4];rfl
 have h4:io l=0:=cQ t24;refine gc (Lp l hl) ?_;refine gC (fun t29=>?_) (fun t29=>?_)
 ·have h5:=de t29;refine ae ?_;rw[e0,if_neg (by rw[h4];simp),if_pos h5]
 have h5:=cQ t29;refine gc (NH l hl) ?_;refine ae ?_;rw[e0,if_neg (by rw[h4];simp),if_neg (by rw[h5];simp)]
theorem xL(d:Nat)(hd:Nat.blt d 1000=true)(l:Li)(hl:l.bo.length<=1000)(b:Nat)(hb:b<l.bo.length) :
  Con prog 131 [l.av,i64 b] [] (.ms d 1 0 l.bo.length) [(d,some (.row 1 ((cB l.bo.length b).map bl)))]:=by
 refine gF func131 (fun k z h=>by cases h) ?_;refine gl ?_;refine gs (gV (.tmp rfl) T218 rfl T4 rfl rfl oz (by dsimp only;omega) rfl) ?_;refine gs (lP (.tmp rfl) (.tmp rfl) T218 rfl T4 rfl oz oz rfl) ?_;refine gs (dF (.tmp rfl) rfl (by rw[getElem?_replicate,if_pos (by simp;omega)]) rfl (.const _) rfl rfl T4 rfl rfl) ?_ (3,0);refine gW (Wk.of (sl:=[(5,some (.ms 9 1 0 l.bo.length))]) (hp:=[(9,some (.row 1 ((cB l.bo.length b).map bl)))]) (.cons rfl (Sub.of (by rw[toNat_natCast])) .nil) (.cons rfl (BlkSub.of (by unfold cB;simp only[map_set,map_replicate,Nat.zero_add,toNat_natCast];rfl)) .nil)) ?_ (3,0);refine gW (Wk.rk (k:=9) (d:=900) rfl rfl) ?_;refine gR ?_;exact ao.own1 rfl hd rfl
theorem IG(l:Li)(hl:l.bo.length<=1000)(b:Nat)(hb:b<l.bo.length):FP 131 [l.av,i64 b] (.lst 1 ((cB l.bo.length b).map bl)):=by
 have h:=Con.freeze (by rw[length_map,ia];omega) (xL 0 rfl l hl b hb);rw[drop_zero,take_of_length_le (by rw[length_map,ia];exact le_refl _)]at h;exact h
theorem LO(l:Li)(hl:l.ok)(b:Int):FP 333 [l.av,i64 b] (bl (mX l b)):=by
 have hld:=hl.ld;refine af func333 ?_;refine gl ?_;refine aM [1,8,9] [] (fun(i:Nat)=>[(10,some (i64 i))]) (fun _=>[]) (fun i=>i<=l.dv.length/\(l.dv.take i).any (fun d=>decide (d.body=b))=false) (fun i=>l.dv.length-i) 0 ⟨zero_le _,rfl⟩ ?_;rintro i ⟨hi,hj⟩ K1 J1;refine gC (fun t11=>?_) (fun t11=>?_)
 ·have hin:=aW t11;obtain⟨d,hd⟩:=aw hin;refine gi (ax hd) ?_;refine gC (fun t17=>?_) (fun t17=>?_)
  ·have h1:d.body=b:=cT t17;refine ae ?_;unfold mX;rw[List.any_eq_true.2 ⟨d,mem_of_getElem? hd,decide_eq_true h1⟩];rfl
  have h1:d.body≠b:=d5 t17;refine ga aH ?_;exact aG J1 (i+1) ⟨hin,kp hd hj (decide_eq_false h1)⟩
 have hin:=be hi t11;subst hin;rw[take_length]at hj;refine ae ?_;unfold mX;rw[hj];rfl
theorem H8(l:Li)(hl:l.ok)(hli:aB l=0)(kind body:Int)(oth:List Bool)(ho:oth.length=l.bo.length):FP 236 [l.av,i64 kind,i64 body,.lst 1 (oth.map bl)] (i64 (bQ l kind body oth)):=by
 have hlj:=hl.lj;refine af func236 ?_;refine gl ?_;refine aM [1,2,3,12,13] [] (fun(i:Nat)=>[(14,some (i64 i))]) (fun _=>[]) (fun i=>i<=l.jo.length/\∀j,j<i->(!kW kind body oth (l.jo.getD j default))=true) (fun i=>l.jo.length-i) 0 ⟨zero_le _,fun j h=>by omega⟩ ?_;rintro i ⟨hi,hj⟩ K1 J1;refine gC (fun t15=>?_) (fun t15=>?_)
 ·have hin:=aW t15;obtain⟨j,hjt⟩:=aw hin;have hjd:l.jo.getD i default=j:=aD hjt;obtain⟨i1,i2,_⟩:=dZ hli hjt;have b1:=dj i1;have b2:=dj i2;obtain⟨va,hva⟩:∃v,oth[j.a.toNat]?=some v:=aw oz;obtain⟨vb,hvb⟩:∃v,oth[j.b.toNat]?=some v:=aw oz;have ea:kn oth j.a=va:=aD hva;have eb:kn oth j.b=vb:=aD hvb;refine gi (ax hjt) ?_;refine ka (fun _=>(ir (n:=j.b.toNat) oz hvb)) ?_;refine ka (fun _=>(ir (n:=j.a.toNat) oz hva)) ?_;refine gC (fun t48=>?_) (fun t48=>?_)
  ·have h2 : kW kind body oth j = true := by rw [<- FO (va := va) (vb := vb) ea eb]; exact t48
   refine ae ?_;unfold bQ;rw[iK hin hj (by rw[hjd,h2];rfl)];rfl
  have h2:kW kind body oth j=false:=by rw[<- FO (va:=va) (vb:=vb) ea eb];exact t48
  refine ga aH ?_;exact aG J1 (i+1) ⟨hin,fun k h9=>by rcases lt_or_ge k i with g |g;exact hj k g;(have:k=i:=by omega);subst this;rw[hjd,h2];rfl⟩
 have hin:=be hi t15;subst hin;refine ae ?_;unfold bQ;rw[jl hj];rfl
theorem PJ(l:Li)(hl:l.ok)(kw:List Bool)(b:Nat)(hb:b<kw.length):FP 237 [l.av,.lst 1 (kw.map bl),i64 b] (bl (ep l kw b)):=by
 obtain⟨v,hv⟩:=aw hb;have ev:kn kw (b:Int)=v:=aD (by rw[toNat_natCast];exact hv);refine af func237 ?_;refine gi (ax hv) ?_;refine bI (fun _=>(LO l hl b)) ?_;refine ae ?_;unfold ep;rw[ev];exact congrArg bl (iS _ _)
theorem sQ{l:Li}{kw:List Bool}(hl:l.ok)(hli:aB l=0)(kind body:Int)(hk:kw.length=l.bo.length) :
  Con prog 236 [l.av,i64 kind,i64 body,.ms 1000 1 0 kw.length] [(1000,some (.row 1 (kw.map bl)))] (i64 (bQ l kind body kw)) [(1000,some (.row 1 (kw.map bl)))]:=by
 refine Con.borrow (args:=[l.av,i64 kind,i64 body,.lst 1 (kw.map bl)]) 1000 1 (kw.map bl) rfl rfl rfl ?_ rfl (fun k' x h=>by cases h) (H8 l hl hli kind body kw hk);intro j x' hj
 match j,hj with
 |0,hj=>cases hj;exact .inl rfl
 |1,hj=>cases hj;exact .inl rfl
 |2,hj=>cases hj;exact .inl rfl
 |3,hj=>cases hj;exact .inr ⟨0,kw.length,rfl,by simp,by rw[drop_zero,take_of_length_le (by simp)];rfl⟩
theorem xa{l:Li}{kw:List Bool}(hl:l.ok)(b:Nat)(hb:b<kw.length) :
  Con prog 237 [l.av,.ms 1000 1 0 kw.length,i64 b] [(1000,some (.row 1 (kw.map bl)))] (bl (ep l kw b)) [(1000,some (.row 1 (kw.map bl)))]:=by
 refine Con.borrow (args:=[l.av,.lst 1 (kw.map bl),i64 b]) 1000 1 (kw.map bl) rfl rfl rfl ?_ rfl (fun k' x h=>by cases h) (PJ l hl kw b hb);intro j x' hj
 match j,hj with
 |0,hj=>cases hj;exact .inl rfl
 |1,hj=>cases hj;exact .inr ⟨0,kw.length,rfl,by simp,by rw[drop_zero,take_of_length_le (by simp)];rfl⟩
 |2,hj=>cases hj;exact .inl rfl
theorem Pu(l:Li)(hl:l.ok)(hli:aB l=0)(kw:List Bool)(hk:kw.length=l.bo.length):Con prog 132 [l.av,.ms 1000 1 0 kw.length] [(1000,some (.row 1 (kw.map bl)))] (.tup [((di l kw).getD default).av,bl (di l kw).isSome]) [(1000,some (.row 1 (kw.map bl)))]:=by
 have hld:=hl.ld;refine gF func132 (fun k z h=>bq h) ?_;refine gl ?_;refine aM [2,4,10,11] [2,4,1000] (fun(i:Nat)=>[(1,some (.ms 1000 1 0 kw.length)),(12,some (i64 i))]) (fun _=>[]) (fun i=>i<=l.dv.length/\∀j,j<i->(!fJ l kw j)=true) (fun i=>l.dv.length-i) 0 ⟨zero_le _,fun j h=>by omega⟩ ?_;rintro i ⟨hi,hj⟩ K1 J1;refine gC (fun t13=>?_) (fun t13=>?_)
 ·have hin:=aW t13;obtain ⟨d,hd⟩:=aw hin;have hdd:l.dv.getD i default = d:=aD hd;have hb:=dj (lc hli hd);obtain ⟨v,hv⟩:∃ v,kw[d.body.toNat]? = some v:=aw oz;have ev:kn kw d.body = v:=aD hv;refine gi (ax hd) ?_;refine gs (lP (.tmp rfl) (.tmp rfl) T218 rfl T4 rfl oz oz rfl) ?_;refine gs (d6 (.tmp rfl) rfl (by rw [Nat.zero_add,getElem?_map,hv]; rfl) T4 rfl rfl rfl) ?_;refine gC (fun t21=>?_) (fun t21=>?_)
  ·have h2 : fJ l kw i = false := by unfold fJ; rw [hdd, ev, t21]; rfl
   refine ga aH ?_;exact aG J1 (i+1) ⟨hin,fun k h9=>by rcases lt_or_ge k i with g |g;exact hj k g;(have:k=i:=by omega);subst this;rw[h2];rfl⟩
  have hv0:v=false:=t21;refine gt (mn (sQ hl hli 0 d.body hk) (.cons (.tmp rfl) (.cons (.const _) (bB rfl rfl))) rfl rfl rfl) ?_;refine gC (fun t28=>?_) (fun t28=>?_)
  ·have h2 : fJ l kw i = true := by unfold fJ; rw [hdd, ev, hv0, decide_eq_true (GA t28)]; rfl
   have hg:di l kw=some ⟨0,[d.body],[bQ l 0 d.body kw],i⟩:=by unfold di;rw[iK hin hj (by rw[h2];rfl),<- hdd];rfl
   refine gR ?_;rw[hg];exact ao.keep (bb rfl)
  have h2:fJ l kw i=false:=by unfold fJ;rw[hdd,decide_eq_false (FI t28),Bool.and_false]
  refine ga aH ?_;exact aG J1 (i+1) ⟨hin,fun k h9=>by rcases lt_or_ge k i with g |g;exact hj k g;(have:k=i:=by omega);subst this;rw[h2];rfl⟩
 have hin:=be hi t13;subst hin;have hg:di l kw=none:=by unfold di;rw[jl hj];rfl
 refine gR ?_;exact ao.sub (ao.keep (bb rfl)) (by rw[hg];exact Sub.tup (.cons pP (.cons (.refl _) .nil)))
theorem O1(l:Li)(hl:l.ok)(hli:aB l=0)(kw:List Bool)(hk:kw.length=l.bo.length):Con prog 133 [l.av,.ms 1000 1 0 kw.length] [(1000,some (.row 1 (kw.map bl)))] (.tup [((cM l kw).getD default).av,bl (cM l kw).isSome]) [(1000,some (.row 1 (kw.map bl)))]:=by
 have h8:=(cW hli).2.2.2.1;refine gF func133 (fun k z h=>bq h) ?_;refine gl ?_;refine aM [2,4,12,13] [2,4,1000] (fun(i:Nat)=>[(1,some (.ms 1000 1 0 kw.length)),(14,some (i64 i))]) (fun _=>[]) (fun i=>i<=l.bo.length/\∀j,j<i->(gj l kw j).isNone=true) (fun i=>l.bo.length-i) 0 ⟨zero_le _,fun j h=>by omega⟩ ?_;rintro i ⟨hi,hj⟩ K1 J1;refine gC (fun t15=>?_) (fun t15=>?_)
 ·have hin:=aW t15;refine ga aH ?_;refine aM [2,4,6,12,13,14] [2,4,1000] (fun (k:Nat)=>[(1,some (.ms 1000 1 0 kw.length)),(7,some (i64 (i + 1 + k:Nat)))]) (fun _=>[]) (fun k=>i + 1 + k <= l.bo.length /\ ∀ j,j < k -> (!dz l kw i (i + 1 + j)) = true) (fun k=>l.bo.length - k) 0 ⟨by omega,fun j h=>by omega⟩ ?_;rintro k ⟨hkl,hkj⟩ K2 J2;refine gl ?_;refine gC (fun t23=>?_) (fun t23=>?_)
  ·have hkn:i+1+k<l.bo.length:=aW t23;refine gt (mn (xa hl i oz) (az rfl rfl rfl) rfl rfl rfl) ?_;refine gu (er rfl rfl rfl (fun h=>mn (xa hl (i+1+k) oz) (.cons (.opt rfl (o1 h)) (.cons (.opt rfl (o1 h)) (.cons (.opt rfl (o1 h)) .nil))) rfl rfl rfl)) ?_;refine gC (fun t37=>?_) (fun t37=>?_)
   ·have h2 : dz l kw i (i + 1 + k) = false := by unfold dz; rw [show (ep l kw i && ep l kw ((i + 1 + k : Nat) : Int)) = false from by rcases oN t37 with g | g; (rw [g]; rfl); (rw [g, Bool.and_false])]; rfl
    refine ga aH ?_;exact aG J2 (k+1) ⟨by omega,fun j h9=>by rcases lt_or_ge j k with g |g;exact hkj j g;(have:j=k:=by omega);subst this;rw[h2];rfl⟩
   have hff:=nF t37;refine gt (mn (sQ hl hli 0 i hk) (.cons (.tmp rfl) (.cons (.const _) (bB rfl rfl))) rfl rfl rfl) ?_;refine gt (mn (sQ hl hli 0 (i+1+k:Nat) hk) (.cons (.tmp rfl) (.cons (.const _) (bB rfl rfl))) rfl rfl rfl) ?_;refine gc (IG l oz (i+1+k) hkn) ?_;refine gc (H8 l hl hli 0 i (cB l.bo.length ((i+1+k:Nat):Int)) (ia _ _)) ?_;refine gD ?_;refine gC (fun t61=>?_) (fun t61=>?_)
   ·have h2 : dz l kw i (i + 1 + k) = true := by unfold dz; rw [hff.1, hff.2]; exact (uU.symm.trans t61)
    have hat:gj l kw i=some (i+1+k):=by unfold gj;rw[iK oz hkj (by rw[h2];rfl),Option.map_some];congr 1;omega
    have hg:cM l kw=some (gy l kw i (i+1+k)):=by unfold cM;rw[iK hin hj (by rw[hat];rfl),Option.map_some,hat]
    refine gR ?_;rw[hg];exact ao.keep (bb rfl)
   have h2:dz l kw i (i+1+k)=false:=by unfold dz;rw[show(decide (0<=bQ l 0 i kw)&&decide (0<=bQ l 0 ((i+1+k:Nat):Int) kw)&&decide (0<=bQ l 0 i (cB l.bo.length ((i+1+k:Nat):Int))))=false from uU.symm.trans t61,Bool.and_false]
   refine ga aH ?_;exact aG J2 (k+1) ⟨by omega,fun j h9=>by rcases lt_or_ge j k with g |g;exact hkj j g;(have:j=k:=by omega);subst this;rw[h2];rfl⟩
  have hkn:¬i+1+k<l.bo.length:=fun h=>by have h1:=rP t23;omega
  have hat:gj l kw i=none:=by unfold gj;rw[show l.bo.length-(i+1)=k by omega,jl hkj];rfl
  refine ga aH ?_;exact aG J1 (i+1) ⟨hin,fun j h9=>by rcases lt_or_ge j i with g |g;exact hj j g;(have:j=i:=by omega);subst this;rw[hat];rfl⟩
 have hin:=be hi t15;have hg:cM l kw=none:=by unfold cM;rw[<- hin,jl hj];rfl
 refine gR ?_;exact ao.sub (ao.keep (bb rfl)) (by rw[hg];exact Sub.tup (.cons pP (.cons (.refl _) .nil)))
theorem MX(l:Li)(hl:l.ok)(hli:aB l=0)(kw:List Bool)(hk:kw.length=l.bo.length):Con prog 134 [l.av,.ms 1000 1 0 kw.length] [(1000,some (.row 1 (kw.map bl)))] (.tup [((d8 l kw).getD default).av,bl (d8 l kw).isSome]) [(1000,some (.row 1 (kw.map bl)))]:=by
 have h8:=(cW hli).2.2.2.1;refine gF func134 (fun k z h=>bq h) ?_;refine gl ?_;refine aM [2,4,11,12] [2,4,1000] (fun(i:Nat)=>[(1,some (.ms 1000 1 0 kw.length)),(13,some (i64 i))]) (fun _=>[]) (fun i=>i<=l.bo.length/\∀j,j<i->(!fw l kw j)=true) (fun i=>l.bo.length-i) 0 ⟨zero_le _,fun j h=>by omega⟩ ?_;rintro i ⟨hi,hj⟩ K1 J1;refine gC (fun t14=>?_) (fun t14=>?_)
 ·have hin:=aW t14;refine gt (mn (xa hl i oz) (az rfl rfl rfl) rfl rfl rfl) ?_;refine gC (fun t20=>?_) (fun t20=>?_)
  ·have h2 : fw l kw i = false := by unfold fw; rw [dq t20]; rfl
   refine ga aH ?_;exact aG J1 (i+1) ⟨hin,fun k h9=>by rcases lt_or_ge k i with g |g;exact hj k g;(have:k=i:=by omega);subst this;rw[h2];rfl⟩
  have hf:=dD t20;refine gt (mn (sQ hl hli 0 i hk) (.cons (.tmp rfl) (.cons (.const _) (bB rfl rfl))) rfl rfl rfl) ?_;refine gt (mn (sQ hl hli 1 i hk) (.cons (.tmp rfl) (.cons (.const _) (bB rfl rfl))) rfl rfl rfl) ?_;refine gD ?_;refine gC (fun t34=>?_) (fun t34=>?_)
  ·have h2 : fw l kw i = false := by unfold fw; rw [Is t34, Bool.and_false]
   refine ga aH ?_;exact aG J1 (i+1) ⟨hin,fun k h9=>by rcases lt_or_ge k i with g |g;exact hj k g;(have:k=i:=by omega);subst this;rw[h2];rfl⟩
  obtain⟨p0,s0⟩:=CM t34;have s1:=(m9 (l:=l) (kind:=1) (body:=i) (oth:=kw)).2;have h2:fw l kw i=true:=by unfold fw;rw[hf,decide_eq_true p0,decide_eq_true s0];rfl
  obtain⟨j,hjt⟩:∃j,l.jo[(bQ l 1 i kw).toNat]?=some j:=aw oz;have hjd:l.jo.getD (bQ l 1 i kw).toNat default=j:=aD hjt;have hg:d8 l kw=some (gM l kw i):=by unfold d8;rw[iK hin hj (by rw[h2];rfl),Option.map_some]
  refine gi (ir (n:=(bQ l 1 i kw).toNat) oz hjt) ?_;refine gC (fun t42=>?_) (fun t42=>?_)
  ·have hji:j.a=i:=cT t42;refine gR ?_;rw[hg];unfold gM;rw[hjd];simp only[Option.getD_some,if_pos hji]
   exact ao.keep (bb rfl)
  have hji:j.a≠i:=d5 t42;refine gR ?_;rw[hg];unfold gM;rw[hjd];simp only[Option.getD_some,if_neg hji]
  exact ao.keep (bb rfl)
 have hin:=be hi t14;have hg:d8 l kw=none:=by unfold d8;rw[<- hin,jl hj];rfl
 refine gR ?_;exact ao.sub (ao.keep (bb rfl)) (by rw[hg];exact Sub.tup (.cons pP (.cons (.refl _) .nil)))
theorem zf{k:List Bool}{bs:List Int}{q:Nat}{x:Int}(h:bs[q]?=some x):bm k (bs.drop q)=bm (k.set x.toNat true) (bs.drop (q+1)):=by
 have hi:=(List.getElem?_eq_some_iff.1 h).1;rw[List.drop_eq_getElem_cons hi,(List.getElem?_eq_some_iff.1 h).2];rfl
theorem JF{l:Li}{n:Nat}{kw:List Bool}{out:List Gr}{g:Gr}(h:bY l kw=some g):co l (n+1) kw out=co l n (bm kw g.bo) (out++[g]):=by
 show(match bY l kw with |none=>_ |some g=>_)=_;rw[h]
theorem To{l:Li}{n:Nat}{kw:List Bool}{out:List Gr}(h:bY l kw=none):co l n kw out=(kw,out):=by
 cases n with
 |zero=>rfl
 |succ n=>show(match bY l kw with |none=>_ |some g=>_)=_;rw[h]
theorem zx{α:Type}{o:Option α}(h:o.isSome=false):o=none:=by cases o <;> simp_all
theorem GB{α:Type}{a b:Option α}(h:a.isSome=true):a=a.or b:=by cases a <;> simp_all
theorem JL{l:Li}{kw:List Bool}(h:(di l kw).or (cM l kw)=none):bY l kw=d8 l kw:=by
 unfold bY;rw[<- Option.or_assoc,h];rfl
theorem N0{l:Li}{kw:List Bool}(h:((di l kw).or (cM l kw)).isSome=true):bY l kw=(di l kw).or (cM l kw):=by
 unfold bY;rw[<- Option.or_assoc];exact(GB h).symm
theorem CR(l:Li)(hl:l.ok)(hli:aB l=0):FP 60 [l.av] (.lst 4 ((cr l).map Gr.av)):=by
 have h8:=(cW hli).2.2.2.1;have h0:=(cW hli).2.2.2.2;refine af func60 ?_;refine gt (ay (xL 900 rfl l oz 0 oz) (.cons (.tmp rfl) (.cons (.const _) .nil)) aE rfl rfl) ?_;refine gl ?_;refine gW (Wk.virt 901 4 rfl) ?_;refine iP [1,13] [1] (fun(i:Nat)(kw:List Bool)(out:List Gr)=>[(3,some (.ms 900 1 0 kw.length)),(4,some (.ms 901 4 0 out.length)),(14,some (i64 i))]) (fun _ kw out=>[(900,some (.row 1 (kw.map bl))),(901,some (.row 4 (out.map Gr.av)))]) (fun i kw out=>i<=l.bo.length/\kw.length=l.bo.length/\out.length<=i/\co l (l.bo.length-i) kw out=co l l.bo.length (cB l.bo.length 0) []) (fun i _ _=>l.bo.length-i) 0 (cB l.bo.length 0) ([]) ⟨zero_le _,ia _ _,le_refl _,rfl⟩ ?_ (h1:=(.cons rfl (Sub.of (by rw[ia])) (.k (.k .nil))))
 rintro i kw out ⟨hi,hk,hol,hff⟩ K1 J1;refine gC (fun t15=>?_) (fun t15=>?_) (st2:=(18,0))
 ·have hin:=aW t15;have hd1:=Con.rekey1 900 rfl rfl rfl (Pu l hl hli kw hk);have hp1:=Con.rekey1 900 rfl rfl rfl (O1 l hl hli kw hk);have hs1:=Con.rekey1 900 rfl rfl rfl (MX l hl hli kw hk);refine gt (ay hd1 (bB rfl rfl) aE rfl rfl) ?_;refine A9 [1,5,13,14] [1,900,901] (fun(o:Option Gr)=>[(3,some (.ms 900 1 0 kw.length)),(4,some (.ms 901 4 0 out.length)),(6,some (bl o.isSome))]) (fun o=>[(5,some (.box (o.getD default).av.cells))]) (fun o=>o=(di l kw).or (cM l kw)) ?_ ?_
  ·intro K2 J2;refine gC (fun t23=>?_) (fun t23=>?_)
   ·refine gt (ay hp1 (bB rfl rfl) aE rfl rfl) ?_;exact pE J2 (cM l kw) (by rw[zx (dq t23)];rfl)
   exact pE J2 (di l kw) (GB (dD t23))
  rintro o ho;refine A9 [1,5,13,14] [1,900,901] (fun(og:Option Gr)=>[(3,some (.ms 900 1 0 kw.length)),(4,some (.ms 901 4 0 out.length)),(6,some (bl og.isSome))]) (fun og=>[(5,some (.box (og.getD default).av.cells))]) (fun og=>og=bY l kw) ?_ ?_
  ·intro K3 J3;refine gC (fun t31=>?_) (fun t31=>?_)
   ·refine gt (ay hs1 (bB rfl rfl) aE rfl rfl) ?_;exact pE J3 (d8 l kw) (by have:=zx (dq t31);rw[ho]at this;exact(JL this).symm)
   exact pE J3 o (by rw[ho];exact(N0 (by rw[<- ho];exact dD t31)).symm)
  rintro og hog;refine gC (fun t39=>?_) (fun t39=>?_) (st1:=(18,0))
  ·have hn : bY l kw = none := by rw [<- hog]; exact zx (dq t39)
   have hfin:cr l=out:=by unfold cr;rw[<- hff,To hn]
   refine gW ((Wk.freeze (k:=901) rfl).trans<|Wk.of (sl:=[(4,some (.lst 4 ((cr l).map Gr.av)))]) (hp:=[]) (.cons rfl (Sub.of (by rw[hfin,bO (by rw[length_map])])) .nil) .nil) ?_;refine ae ?_;rfl
  obtain⟨g,hg⟩:∃g,og=some g:=Option.isSome_iff_exists.1 (dD t39);have hng:bY l kw=some g:=by rw[<- hog,hg]
  have hgo:=uP hli hng;subst hg;refine gs (cq (.tmp rfl) rfl (by rw[length_map]) (.tmp rfl) T32 rfl T53 rfl rfl (by dsimp only;simp only[length_cons,length_nil];omega) rfl rfl) ?_ (12,0);refine gW (Wk.of (sl:=[(1,some (.ptr 1 0)),(3,some (.ms 900 1 0 kw.length)),(4,some (.ms 43 4 0 (out++[g]).length)),(5,some (.ptr 5 0)),(13,some (i64 l.bo.length)),(14,some (i64 i))]) (hp:=[(1,some (.box l.av.cells)),(5,some (.box g.av.cells)),(900,some (.row 1 (kw.map bl))),(43,some (.row 4 ((out++[g]).map Gr.av)))]) (.k (.k (.cons rfl (Sub.of (by rw[length_append];rfl)) (.k (.k (.k .nil)))))) (.k (.k (.k (.cons rfl (BlkSub.of (by rw[map_append];rfl)) .nil))))) ?_ (12,0)
  refine gW (Wk.rk (k:=43) (d:=901) rfl rfl) ?_;refine gl ?_;refine gz [1,13,14,45,46] [1,901] (fun(q:Nat)(kk:List Bool)=>[(3,some (.ms 900 1 0 kk.length)),(4,some (.ms 901 4 0 (out++[g]).length)),(47,some (i64 q))]) (fun _ kk=>[(900,some (.row 1 (kk.map bl)))]) (fun q kk=>q<=g.bo.length/\kk.length=l.bo.length/\bm kk (g.bo.drop q)=bm kw g.bo) (fun q _=>g.bo.length-q) 0 kw ⟨zero_le _,hk,rfl⟩ ?_;rintro q kk ⟨hq,hkk,hmk⟩ K4 J4;refine gC (fun t48=>?_) (fun t48=>?_)
  ·have hqn:=aW t48;obtain⟨x,hx⟩:=aw hqn;have hxb:=hgo.b x (mem_of_getElem? hx);obtain⟨v,hv⟩:∃v,kk[x.toNat]?=some v:=aw oz;refine gi (ax hx) ?_;refine gs (lP (.tmp rfl) (.tmp rfl) T218 rfl T4 rfl oz oz rfl) ?_;refine gs (dF (.tmp rfl) rfl (by rw[Nat.zero_add,getElem?_map,hv];rfl) rfl (.const _) rfl rfl T4 rfl rfl) ?_;refine ga (F9 (by have:=hgo.lb;unfold aS;omega)) ?_;exact fM J4 (q+1) (kk.set x.toNat true) ⟨hqn,by rw[length_set];exact hkk,by rw[<- zf hx];exact hmk⟩ (hw:=Wk.of (.cons rfl (Sub.of (by rw[length_set])) (.k (.k (.k (.k (.k (.k (.k .nil)))))))) (.cons rfl (BlkSub.of (by rw[map_set,Nat.zero_add];rfl)) (.k (.k .nil))))
  have hqn:=be hq t48;have hmk2:kk=bm kw g.bo:=by rw[hqn,List.drop_length]at hmk;exact hmk
  refine ga aH ?_;exact gE J1 (i+1) kk (out++[g]) ⟨hin,hkk,by rw[length_append];simp only[length_cons,length_nil];omega,by rw[hmk2,<- JF hng,<- hff];congr 1;omega⟩
 have hin:=be hi t15;have hfin:cr l=out:=by unfold cr;rw[<- hff,show l.bo.length-i=0 by omega];rfl
 refine gW ((Wk.freeze (k:=901) rfl).trans<|Wk.of (sl:=[(4,some (.lst 4 ((cr l).map Gr.av)))]) (hp:=[]) (.cons rfl (Sub.of (by rw[hfin,bO (by rw[length_map])])) .nil) .nil) ?_;refine ae ?_;rfl
theorem E4{α:Type}{f:List Bool->α->List Bool}{k:List Bool}{l:List α}{i:Nat}{x:α}(h:l[i]?=some x):(l.drop i).foldl f k=(l.drop (i+1)).foldl f (f k x):=by
 have hi:=(List.getElem?_eq_some_iff.1 h).1;rw[List.drop_eq_getElem_cons hi,(List.getElem?_eq_some_iff.1 h).2];rfl
def gS(k:List Bool)(i:Nat):List Int:=((List.range i).filter (fun j=>!k.getD j false)).map (fun j:Nat=>((j:Nat):Int))
theorem HQ{k:List Bool}{i:Nat}(h:k.getD i false=false):gS k (i+1)=gS k i++[(i:Int)]:=by
 unfold gS;rw[List.range_succ,List.filter_append,map_append,List.filter_cons,h];rfl
theorem GN{k:List Bool}{i:Nat}(h:k.getD i false=true):gS k (i+1)=gS k i:=by
 unfold gS;rw[List.range_succ,List.filter_append,map_append,List.filter_cons,h];simp
theorem wl(k:List Bool)(i:Nat):(gS k i).length<=i:=by
 unfold gS;rw[length_map];exact le_trans (List.length_filter_le _ _) (by simp)
theorem pV{α:Type}{f:α->List Int}:∀(gs:List α)(k:List Bool),(gs.foldl (fun k g=>bm k (f g)) k).length=k.length
 |[],k=>rfl
 |g::gs,k=>by rw[foldl_cons,pV gs,i9]
theorem L4(l:Li):(eD (bM l)).length<=l.bo.length:=by
 have h:=wl (bM l) (bM l).length;have e:(bM l).length=l.bo.length:=by unfold bM;rw[pV,ia]
 rw[e]at h;unfold eD;rw[e];exact h
theorem Rc(l:Li):(eD (d7 l)).length<=l.jo.length:=by
 have h:=wl (d7 l) (d7 l).length;have e:(d7 l).length=l.jo.length:=by unfold d7;rw[pV,length_replicate]
 rw[e]at h;unfold eD;rw[e];exact h
theorem II(l:Li)(hl:l.ok)(hli:aB l=0):FP 59 [l.av] (.tup [.lst 1 ((eD (bM l)).map i64),.lst 1 ((eD (d7 l)).map i64)]):=by
 have h8:=(cW hli).2.2.2.1;have h0:=(cW hli).2.2.2.2;have hj16:l.jo.length<=16:=by have:=(cW hli).2.1;unfold eQ at this;split at this;cases this;omega
 obtain⟨hgo,hgl⟩:=rL hli;refine af func59 ?_;refine gt (ay (xL 900 rfl l oz 0 oz) (.cons (.tmp rfl) (.cons (.const _) .nil)) aE rfl rfl) ?_;refine gl ?_;refine gs (gV (.tmp rfl) T218 rfl T4 rfl rfl oz (by dsimp only;omega) rfl) ?_;refine gD ?_ (2,0);refine gW (Wk.of (sl:=[(1,some (.ptr 1 0)),(2,some (nS)),(3,some (nS)),(4,some (.ms 900 1 0 (cB l.bo.length 0).length)),(5,some (.ms 21 1 0 (List.replicate l.jo.length false).length))]) (hp:=[(1,some (.box l.av.cells)),(900,some (.row 1 ((cB l.bo.length 0).map bl))),(21,some (.row 1 ((List.replicate l.jo.length false).map bl)))]) (.k (.k (.k (.cons rfl (Sub.of (by rw[ia])) (.cons rfl (Sub.of (by rw[length_replicate,toNat_natCast])) .nil))))) (.k (.k (.cons rfl (BlkSub.of (by rw[map_replicate,toNat_natCast];rfl)) .nil)))) ?_ (2,0)
 refine gW (Wk.rk (k:=21) (d:=901) rfl rfl) ?_;refine gc (CR l hl hli) ?_;refine gl ?_;refine iP [1,2,3,23,24] [1] (fun(i:Nat)(k1 k2:List Bool)=>[(4,some (.ms 900 1 0 k1.length)),(5,some (.ms 901 1 0 k2.length)),(25,some (i64 i))]) (fun _ k1 k2=>[(900,some (.row 1 (k1.map bl))),(901,some (.row 1 (k2.map bl)))]) (fun i k1 k2=>i<=(cr l).length/\k1.length=l.bo.length/\k2.length=l.jo.length/\((cr l).drop i).foldl (fun k g=>bm k g.bo) k1=bM l/\((cr l).drop i).foldl (fun k g=>bm k g.jo) k2=d7 l) (fun i _ _=>(cr l).length-i) 0 (cB l.bo.length 0) (List.replicate l.jo.length false) ⟨zero_le _,ia _ _,length_replicate,rfl,rfl⟩ ?_
 rintro i k1 k2 ⟨hi,hk1,hk2,hf1,hf2⟩ K1 J1;refine gC (fun t26=>?_) (fun t26=>?_)
 ·have hin:=aW t26;obtain⟨g,hg⟩:=aw hin;have hgk:=hgo g (mem_of_getElem? hg);have hlb:=hgk.lb;have hlj:=hgk.lj;refine gi (ax hg) ?_;refine gl ?_;refine gz [1,2,3,7,23,24,25,30,31] [1,7,901] (fun(q:Nat)(kk:List Bool)=>[(4,some (.ms 900 1 0 kk.length)),(5,some (.ms 901 1 0 k2.length)),(32,some (i64 q))]) (fun _ kk=>[(900,some (.row 1 (kk.map bl)))]) (fun q kk=>q<=g.bo.length/\kk.length=l.bo.length/\bm kk (g.bo.drop q)=bm k1 g.bo) (fun q _=>g.bo.length-q) 0 k1 ⟨zero_le _,hk1,rfl⟩ ?_;rintro q kk ⟨hq,hkk,hmk⟩ K2 J2;refine gC (fun t33=>?_) (fun t33=>?_)
  ·have hqn:=aW t33;obtain⟨x,hx⟩:=aw hqn;have hxb:=hgk.b x (mem_of_getElem? hx);obtain⟨v,hv⟩:∃v,kk[x.toNat]?=some v:=aw oz;refine gi (ax hx) ?_;refine gs (lP (.tmp rfl) (.tmp rfl) T218 rfl T4 rfl oz oz rfl) ?_;refine gs (dF (.tmp rfl) rfl (by rw[Nat.zero_add,getElem?_map,hv];rfl) rfl (.const _) rfl rfl T4 rfl rfl) ?_;refine ga aH ?_;exact fM J2 (q+1) (kk.set x.toNat true) ⟨hqn,by rw[length_set];exact hkk,by rw[<- zf hx];exact hmk⟩ (hw:=Wk.of (.cons rfl (Sub.of (by rw[length_set])) (.k (.k (.k (.k (.k (.k (.k (.k (.k (.k (.k .nil)))))))))))) (.cons rfl (BlkSub.of (by rw[map_set,Nat.zero_add];rfl)) (.k (.k (.k .nil)))))
  have hqn:=be hq t33;have hmk2:kk=bm k1 g.bo:=by rw[hqn,List.drop_length]at hmk;exact hmk
  refine gl ?_;refine gz [1,2,3,23,24,25,41,42] [1,900] (fun(p:Nat)(jj:List Bool)=>[(4,some (.ms 900 1 0 kk.length)),(5,some (.ms 901 1 0 jj.length)),(43,some (i64 p))]) (fun _ jj=>[(901,some (.row 1 (jj.map bl)))]) (fun p jj=>p<=g.jo.length/\jj.length=l.jo.length/\bm jj (g.jo.drop p)=bm k2 g.jo) (fun p _=>g.jo.length-p) 0 k2 ⟨zero_le _,hk2,rfl⟩ ?_;rintro p jj ⟨hp,hjj,hmj⟩ K3 J3;refine gC (fun t44=>?_) (fun t44=>?_)
  ·have hpn:=aW t44;obtain⟨x,hx⟩:=aw hpn;have hxb:=hgk.j x (mem_of_getElem? hx);obtain⟨v,hv⟩:∃v,jj[x.toNat]?=some v:=aw oz;refine gi (ax hx) ?_;refine gs (lP (.tmp rfl) (.tmp rfl) T218 rfl T4 rfl oz oz rfl) ?_;refine gs (dF (.tmp rfl) rfl (by rw[Nat.zero_add,getElem?_map,hv];rfl) rfl (.const _) rfl rfl T4 rfl rfl) ?_;refine ga aH ?_;exact fM J3 (p+1) (jj.set x.toNat true) ⟨hpn,by rw[length_set];exact hjj,by rw[<- zf hx];exact hmj⟩ (hw:=Wk.of (.k (.cons rfl (Sub.of (by rw[length_set])) (.k (.k (.k (.k (.k (.k (.k (.k (.k .nil))))))))))) (.cons rfl (BlkSub.of (by rw[map_set,Nat.zero_add];rfl)) (.k (.k .nil))))
  have hpn:=be hp t44;have hmj2:jj=bm k2 g.jo:=by rw[hpn,List.drop_length]at hmj;exact hmj
  refine ga aH ?_;exact gE J1 (i+1) kk jj ⟨hin,hkk,hjj,by rw[hmk2,<- hf1,E4 hg],by rw[hmj2,<- hf2,E4 hg]⟩
 have hin:=be hi t26;have e1:k1=bM l:=by rw[hin,List.drop_length]at hf1;exact hf1
 have e2:k2=d7 l:=by rw[hin,List.drop_length]at hf2;exact hf2
 refine gW (Wk.virt 902 1 rfl) ?_;refine aM [3,53] [900,901] (fun(i:Nat)=>[(2,some (.ms 902 1 0 (gS k1 i).length)),(5,some (.ms 901 1 0 k2.length)),(52,some (.ms 900 1 0 k1.length)),(54,some (i64 i))]) (fun i=>[(902,some (.row 1 ((gS k1 i).map i64)))]) (fun i=>i<=k1.length) (fun i=>k1.length-i) 0 (zero_le _) ?_;rintro i ha K4 J4;refine gC (fun t55=>?_) (fun t55=>?_) (st2:=(22,0))
 ·have hin6:=aW t55;obtain ⟨v,hv⟩:=aw hin6;have hvd:k1.getD i false = v:=aD hv;have hul:=wl k1 i;refine gs (lP (.tmp rfl) (.tmp rfl) T218 rfl T4 rfl oz oz rfl) ?_;refine gs (d6 (.tmp rfl) rfl (by rw [Nat.zero_add,toNat_natCast,getElem?_map,hv]; rfl) T4 rfl rfl rfl) ?_;refine gC (fun t60=>?_) (fun t60=>?_)
  ·have hu := HQ (k := k1) (i := i) (by rw [hvd]; exact dq t60);refine gs (cq (.tmp rfl) rfl (by rw [length_map]) (.tmp rfl) T39 rfl T3 rfl rfl (by dsimp only; simp only [length_cons,length_nil]; omega) rfl rfl) ?_ (21,0);refine gW (Wk.of (sl:=[(2,some (.ms 64 1 0 (gS k1 (i + 1)).length)),(3,some (nS)),(5,some (.ms 901 1 0 k2.length)),(52,some (.ms 900 1 0 k1.length)),(53,some (i64 k1.length)),(54,some (i64 i))]) (hp:=[(900,some (.row 1 (k1.map bl))),(901,some (.row 1 (k2.map bl))),(64,some (.row 1 ((gS k1 (i + 1)).map i64)))]) (.cons rfl (Sub.of (by rw [hu,length_append]; rfl)) (.k (.k (.k (.k (.k .nil)))))) (.k (.k (.cons rfl (BlkSub.of (by rw [hu,map_append]; rfl)) .nil)))) ?_ (21,0)
   refine gW (Wk.rk (k:=64) (d:=902) rfl rfl) ?_;refine ga aH ?_;exact aG J4 (i+1) hin6 (hw:=Wk.of (.cons rfl (Sub.of (by first |rw[hu];done |rfl)) (.k (.k (.k (.k (.k .nil)))))) (.cons rfl (BlkSub.of (by first |rw[hu];done |rfl)) (.k (.k .nil))))
  have hu:=GN (k:=k1) (i:=i) (by rw[hvd];exact dD t60);refine ga aH ?_;exact aG J4 (i+1) hin6 (hw:=Wk.of (.cons rfl (Sub.of (by first |rw[hu];done |rfl)) (.k (.k (.k (.k (.k .nil)))))) (.cons rfl (BlkSub.of (by first |rw[hu];done |rfl)) (.k (.k .nil))))
 have hin6:=be ha t55;refine gW ((Wk.freeze (k:=902) rfl).trans<|Wk.of (sl:=[(2,some (.lst 1 ((eD (bM l)).map i64))),(3,some (nS)),(5,some (.ms 901 1 0 k2.length))]) (hp:=[(901,some (.row 1 (k2.map bl)))]) (.cons rfl (Sub.of (by rw[bO (by rw[length_map]),hin6,e1];rfl)) (.k (.k .nil))) (.k .nil)) ?_;refine gW (Wk.virt 902 1 rfl) ?_;refine aM [2,67] [901] (fun(i:Nat)=>[(3,some (.ms 902 1 0 (gS k2 i).length)),(66,some (.ms 901 1 0 k2.length)),(68,some (i64 i))]) (fun i=>[(902,some (.row 1 ((gS k2 i).map i64)))]) (fun i=>i<=k2.length) (fun i=>k2.length-i) 0 (zero_le _) ?_;rintro i hb K5 J5;refine gC (fun t69=>?_) (fun t69=>?_) (st2:=(28,0))
 ·have hin8:=aW t69;obtain ⟨v,hv⟩:=aw hin8;have hvd:k2.getD i false = v:=aD hv;have hul:=wl k2 i;refine gs (lP (.tmp rfl) (.tmp rfl) T218 rfl T4 rfl oz oz rfl) ?_;refine gs (d6 (.tmp rfl) rfl (by rw [Nat.zero_add,toNat_natCast,getElem?_map,hv]; rfl) T4 rfl rfl rfl) ?_;refine gC (fun t74=>?_) (fun t74=>?_)
  ·have hu := HQ (k := k2) (i := i) (by rw [hvd]; exact dq t74);refine gs (cq (.tmp rfl) rfl (by rw [length_map]) (.tmp rfl) T39 rfl T3 rfl rfl (by dsimp only; simp only [length_cons,length_nil]; omega) rfl rfl) ?_ (27,0);refine gW (Wk.of (sl:=[(2,some (.lst 1 ((eD (bM l)).map i64))),(3,some (.ms 78 1 0 (gS k2 (i + 1)).length)),(66,some (.ms 901 1 0 k2.length)),(67,some (i64 k2.length)),(68,some (i64 i))]) (hp:=[(901,some (.row 1 (k2.map bl))),(78,some (.row 1 ((gS k2 (i + 1)).map i64)))]) (.k (.cons rfl (Sub.of (by rw [hu,length_append]; rfl)) (.k (.k (.k .nil))))) (.k (.cons rfl (BlkSub.of (by rw [hu,map_append]; rfl)) .nil))) ?_ (27,0)
   refine gW (Wk.rk (k:=78) (d:=902) rfl rfl) ?_;refine ga aH ?_;exact aG J5 (i+1) hin8 (hw:=Wk.of (.cons rfl (Sub.of (by first |rw[hu];done |rfl)) (.k (.k (.k (.k .nil))))) (.cons rfl (BlkSub.of (by first |rw[hu];done |rfl)) (.k .nil)))
  have hu:=GN (k:=k2) (i:=i) (by rw[hvd];exact dD t74);refine ga aH ?_;exact aG J5 (i+1) hin8 (hw:=Wk.of (.cons rfl (Sub.of (by first |rw[hu];done |rfl)) (.k (.k (.k (.k .nil))))) (.cons rfl (BlkSub.of (by first |rw[hu];done |rfl)) (.k .nil)))
 have hin8:=be hb t69;refine gW ((Wk.freeze (k:=902) rfl).trans<|Wk.of (sl:=[(2,some (.lst 1 ((eD (bM l)).map i64))),(3,some (.lst 1 ((eD (d7 l)).map i64)))]) (hp:=[]) (.k (.cons rfl (Sub.of (by rw[bO (by rw[length_map]),hin8,e2];rfl)) .nil)) .nil) ?_;refine bj ?_;rfl
theorem G8(l:Li)(hl:l.ok)(hli:aB l=0):FP 15 [l.av] (.tup [.lst 4 ((aN l).map Gr.av),i64 (cm l)]):=by
 have h8:=(cW hli).2.2.2.1;have hj16:l.jo.length<=16:=by have:=(cW hli).2.1;unfold eQ at this;split at this;cases this;omega
 have u1:=L4 l;have u2:=Rc l;refine af func15 ?_;refine gc (II l hl hli) ?_;refine gl ?_;refine gl ?_;refine ga (cU oz) ?_;refine gC (fun t16=>?_) (fun t16=>?_)
 ·have h1:0 < (eD (bM l)).length + (eD (d7 l)).length:=jC t16;have hE:cm l = 7:=by unfold cm; rw [if_neg oz]
  refine gR ?_;exact dp (by unfold aN;rw[if_neg (by rw[hE];decide),hE];exact Sub.tup (.cons (.nil _ _ _) (.cons (.refl _) .nil)))
 have h1:(eD (bM l)).length+(eD (d7 l)).length<=0:=gP t16;have hE:cm l=0:=by unfold cm;rw[if_pos oz]
 refine gc (CR l hl hli) ?_;refine bj ?_;unfold aN;rw[if_pos hE,hE];rfl
end Go.Lw
