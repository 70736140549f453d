/- AssembleComplete: for anything drawn the law returns true and leaves its arguments as they were. No other condition. Part 5 of 8: what the later parts need -/
import Derived.Test.YtokaoegjfpjjnaaGreatTd
set_option linter.unusedVariables false
open List (append_nil map_take all_append)
open List renaming mem_of_getElem? → ank, mem_append → anz, map_cons → aow, mem_cons → an9, length_cons → an0, length_append → aoe, length_nil → aoa, getD_eq_getElem?_getD → anm, all_eq_true → anx, getElem?_map → anr, getElem?_replicate → aoh, map_append → aoc, length_take → an6, take_of_length_le → an1, drop_zero → aov, take_length → an3, not_mem_nil → aob, length_map → anl, mem_of_mem_take → aot, length_replicate → aon, map_replicate → aoq, map_set → aou, length_set → aox, length_eq_zero_iff → ak0, mem_replicate → ak4, drop_length → ak7, drop_of_length_le → alc, any_eq_true → ald, length_pos_iff → ale, getElem?_eq_some_iff → alj, length_eq_one_iff → alm, drop_eq_getElem_cons → alq, mem_singleton → alr, replicate → als, mem_of_mem_drop → alw, mem_map → al0
open Nat renaming eq_of_beq_eq_true → anw, le_refl → anp, lt_or_ge → anu, le_trans → an4, zero_le → ans, pow_succ → ajq, beq → ajx, pow_lt_pow_right → akh, pow_le_pow_right → akl, blt → aks, two_pow_pos → aku, zero_add → akv
open Option renaming map_eq_some_iff → ann, map_some → anh, getD_some → ani
open Bool renaming and_eq_true → anq, and_false → amr, false_eq_true → ams, eq_iff_iff → amu, eq_false_iff → amx
open Int renaming toNat_natCast → aol
open Rat renaming intCast_eq_zero_iff → amk
open Go renaming Value → ao9, Program → apb, World → apc
open Go.Proofs.Tryz
namespace Go.Lw
open Go.Proofs
theorem qi{n:Nat}(a:List Rat)(hn:n<=5)(ha:Nl n a)(hs:∀q∈a,Qs q):FP 226 [nA a] (nA (sh n (af n a))):=by
 have hl:=ha.len5 hn;rw[<- zP ha hn];refine am func226 ?_;refine gc (xE qA a oz) ?_;refine gl ?_;refine gC (fun z=>?_) (fun z=>?_) (st1:=(3,0));exact ao5 z (by rcases ha with rfl |⟨j,hj,h⟩;(simp[aa]);(rw[h,u7];simp[aa];omega));refine gl ?_;refine aY [0] [] (fun(m:Nat)=>[pP 4 (i64 m)]) (fun _=>[]) (fun m=>qR a m) (fun m=>m) a.length (NN (ha.mono hn)) ?_;rintro m hm K1 J1;refine gs (gy rfl rfl rfl (fun h=>gU (.opt rfl (o1 h)) (.const _) oz (iY (by have:=hm.le;omega)) rfl)) ?_;refine gs (gy rfl rfl rfl (fun h=>dS (.opt rfl (o1 h)) (.some _ (.opt rfl (o1 h)) oz) (.some _ (.opt rfl (o1 h)) oz) T53 rfl T106 rfl oz (by have:=hm.le;simp;omega) rfl)) ?_;refine cm (fun _=>(by have h9:=O3 ((a.drop (m/2)).take (m-m/2)) (by simp;omega);rw[<- xB]at h9;exact h9)) ?_;refine gC (fun t31=>?_) (fun t31=>?_)
 ·have h1:1<m/\bN ((a.drop (m/2)).take (m-m/2))=true:=by
   have h9:=t31
   by_cases h:(m:Int)>1
   ·simp only[aa,ao3 h,cond_true]at h9;exact⟨by omega,h9⟩
   ·simp only[aa,ao4 h,cond_false]at h9;cases h9
  refine gs (gU (.tmp rfl) (.const _) oz (iY (by have:=hm.le;omega)) rfl) ?_;exact aS J1 (m/2) (Lh hm h1.1 h1.2)
 have h1:1<m->bN ((a.drop (m/2)).take (m-m/2))=false:=by
  intro h;have h9:=t31;simp only[aa,ao3 (show(m:Int)>1 by omega),cond_true]at h9;exact h9
 refine gs (gy rfl rfl rfl (fun h=>dS (.opt rfl (o1 h)) (.none _) (.some _ (.const _) oz) T53 rfl T106 rfl oz (by have h8:(m:Int)=1:=(by simpa[aa]using h);have:=hm.le;simp only[anl];omega) rfl)) ?_;refine cm (fun _=>(by have h9:=O3 ((a.drop 0).take 1) (by simp;omega);rw[<- xB]at h9;exact h9)) ?_;refine gC (fun t40=>?_) (fun t40=>?_)
 ·have h2:m=1/\bN (a.take 1)=true:=by
   have h9:=t40
   by_cases h:m=1
   ·rw[h]at h9;exact⟨h,h9⟩
   ·rw[show aa .eql (m:Int) 1=false by simp[aa];omega]at h9;cases h9
  obtain⟨rfl,h3⟩:=h2;refine gR ?_;exact kX (by rw[NI hm h3];exact Sub.nil _ _ _)
 have h2:m=1->bN (a.take 1)=false:=by
  intro h;have h9:=t40;rw[h]at h9;exact h9
 have h3:=MG hm h1 h2;refine gs (dS (.tmp rfl) (.none _) (.some _ (.tmp rfl) oz) T53 rfl T106 rfl oz (by have:=hm.le;simp;omega) rfl) ?_;refine gc (by have h9:=Eg ((a.drop 0).take m) (fun q hq=>hs q (alw (aot hq))) (by simp;omega);have h8:=h9;rw[<- xB]at h9;exact h9) ?_;refine ai ?_;rw[h3];simp[nA,map_take]
theorem DO(d:Nat)(hd:aks d 1000=true)(a:List Rat)(n:Nat)(hl:a.length<=n)(hn:n<=1099511627776) :
  Con prog 414 [nA a,i64 n] [] (.ms d 3 0 n) [(d,some (.row 3 ((a7 a n).map qA)))]:=by
 refine gF func414 (fun k z h=>by cases h) ?_;refine gs (kq (.tmp rfl) T53 rfl T106 rfl rfl oz (by dsimp only;omega) rfl) ?_;refine gs (Z9 (.tmp rfl) rfl (by simp) (.tmp rfl) T53 rfl T106 rfl rfl (by simp;omega) rfl) ?_ (3,0);refine gW (Wk.of (sl:=[pP 5 (.ms 7 3 0 n)]) (hp:=[pP 7 (.row 3 ((a7 a n).map qA))]) (.cons rfl (.of (by simp)) .nil) (.cons rfl (PK a n hl) .nil)) ?_;refine gR ?_;exact aD.own1 rfl hd rfl
theorem GX(a:List Rat)(n:Nat)(hl:a.length<=n)(hn:n<=1099511627776):FP 414 [nA a,i64 n] (nA (a7 a n)):=by
 have h:=Con.freeze (by rw[anl,fg hl];omega) (DO 0 rfl a n hl hn);rw[aov,an1 (by rw[anl,fg hl];exact anp _)]at h;exact h
theorem uW(a b:List Rat)(ha:∀q∈a,Qs q)(hb:∀q∈b,Qs q)(la:a.length<=1099511627776)(lb:b.length<=1099511627776):FP 334 [nA a,nA b] (nA (cQ a b)):=by
 obtain⟨n,hn⟩:∃n,n=max a.length b.length:=⟨_,rfl⟩
 have hwa:=fg (show a.length<=n by omega);have hwb:=fg (show b.length<=n by omega);have hp:=fT (a:=a) (b:=b);rw[<- hn]at hp;have qa:∀q∈a7 a n,Qs q:=fun q hq=>by rcases anz.1 hq with h |h;exact ha q h;(rw[(ak4.1 h).2];exact Qs.zero)
 have qb:∀q∈a7 b n,Qs q:=fun q hq=>by rcases anz.1 hq with h |h;exact hb q h;(rw[(ak4.1 h).2];exact Qs.zero)
 refine am func334 ?_;refine gl ?_;refine gl ?_;refine gs (vC (.tmp rfl) (.tmp rfl) rfl) ?_ (2,0);refine gW (Wk.of (sl:=[pP 0 (nA a),pP 1 (nA b),pP 5 (i64 n)]) (hp:=[]) (.k (.k (.cons rfl (Sub.int oz) .nil))) .nil) ?_;refine go ?_;refine gt (aR (DO 900 rfl a n oz oz) (b8 rfl rfl) aT rfl rfl) ?_;refine gc (GX b n oz oz) ?_;refine aY [1,19] [] (fun(i:Nat)=>[pP 0 (.ms 900 3 0 n),pP 20 (i64 i)]) (fun i=>[pP 900 (.row 3 (((cQ a b).take i++(a7 a n).drop i).map qA))]) (fun i=>i<=n) (fun i=>n-i) 0 (ans _) ?_;rintro i hi K1 J1;refine gC (fun z=>?_) (fun z=>?_) (st2:=(8,0))
 ·have ah:i<n:=by simpa[aa] using z
  have uM:=EW (p:=cQ a b) (w:=a7 a n) (i:=i) oz oz;have Af:=(qa _ (zW (i:=i) oz)).ok;have Id:=(qb _ (zW (i:=i) oz)).ok;refine gs (cG (n:=i) (.tmp rfl) (.tmp rfl) T53 rfl T106 rfl oz oz rfl) ?_;refine gs (fR (.tmp rfl) rfl (aL uM) T106 rfl rfl rfl) ?_;refine gi (aL (getD_some (i:=i) (l:=a7 b n) oz)) ?_;refine gc (tW (rt ((a7 a n).getD i 0)) (rt ((a7 b n).getD i 0)) Af Id) ?_;refine gs (cG (n:=i) (.tmp rfl) (.tmp rfl) T53 rfl T106 rfl oz oz rfl) ?_;refine gs (eY (.tmp rfl) rfl (aL uM) rfl (.tmp rfl) rfl rfl T106 rfl rfl) ?_;refine gD ?_ (7,0);refine gW (Wk.of (sl:=[pP 0 (.ms 900 3 0 n),pP 1 (nA (a7 b n)),pP 19 (i64 n),pP 20 (i64 i)]) (hp:=[pP 900 (.row 3 (((cQ a b).take (i+1)++(a7 a n).drop (i+1)).map qA))]) bg (.cons rfl (.of (by rw[FY oz oz (by rw[LN,<- hn,b7,b7])])) .nil)) ?_;refine ga aU ?_;exact aS J1 (i+1) ah
 have ah:i=n:=by have:n<=i:=(by simpa[aa]using z);omega
 refine gW ((Wk.freeze (k:=900) rfl).trans<|Wk.of (sl:=[pP 0 (nA (cQ a b))]) (hp:=[]) (.cons rfl (.of (by rw[cz (by simp;omega),ah,alc oz,an1 oz,append_nil];rfl)) .nil) .nil) ?_;refine ai ?_;rfl
theorem CC(a:List Rat)(ha:∀q∈a,Qs q)(la:a.length<=1099511627776):FP 251 [nA a] (nA (dq a)):=by
 obtain⟨n,hn⟩:∃n,n=a.length:=⟨_,rfl⟩
 refine am func251 ?_;refine gl ?_;refine gs (kq (.tmp rfl) T53 rfl T106 rfl rfl oz (by dsimp only;omega) rfl) ?_ (2,0);refine gW (Wk.of (sl:=[pP 0 (nA a),pP 3 (.ms 7 3 0 n)]) (hp:=[pP 7 (.row 3 ((a7 [] n).map qA))]) (.k (.cons rfl (.of (by simp[hn])) .nil)) (.cons rfl (BlkSub.of_ (PK [] n (by simp)) (by rw[hn];rfl)) .nil)) ?_;refine gl ?_;refine aY [0] [] (fun(i:Nat)=>[pP 3 (.ms 7 3 0 n),pP 9 (i64 n),pP 10 (i64 i)]) (fun i=>[pP 7 (.row 3 (((dq a).take i++(a7 [] n).drop i).map qA))]) (fun i=>i<=n) (fun i=>n-i) 0 (ans _) ?_ (h1:=(.k (.cons rfl (Sub.int oz) (.k .nil))));rintro i hi K1 J1;refine gC (fun z=>?_) (fun z=>?_) (st2:=(7,0))
 ·have ah:i<n:=by simpa[aa] using z
  have iU:=kP (a:=a);have mo:=fg (a:=[]) (n:=n) (by simp);have uM:=EW (p:=dq a) (w:=a7 [] n) (i:=i) oz oz;have Af:=(ha _ (zW (i:=i) oz)).ok;refine gi (aL (getD_some (i:=i) oz)) ?_;refine gc (Mf (rt (a.getD i 0)) Af) ?_;refine gs (cG (n:=i) (.tmp rfl) (.tmp rfl) T53 rfl T106 rfl oz oz rfl) ?_;refine gs (eY (.tmp rfl) rfl (aL uM) rfl (.tmp rfl) rfl rfl T106 rfl rfl) ?_ (6,0);refine gW (Wk.of (sl:=[pP 0 (nA a),pP 3 (.ms 7 3 0 n),pP 9 (i64 n),pP 10 (i64 i)]) (hp:=[pP 7 (.row 3 (((dq a).take (i+1)++(a7 [] n).drop (i+1)).map qA))]) bg (.cons rfl (.of (by rw[FY oz oz (by rw[af7,b7])])) .nil)) ?_;refine ga aU ?_;exact aS J1 (i+1) ah
 have ah:i=n:=by have:n<=i:=(by simpa[aa]using z);omega
 have iU:=kP (a:=a);have mo:=fg (a:=[]) (n:=n) (by simp);refine gW ((Wk.freeze (k:=7) rfl).trans<|Wk.of (sl:=[pP 3 (nA (dq a))]) (hp:=[]) (.cons rfl (.of (by rw[cz (by simp;omega),ah,alc oz,an1 oz,append_nil];rfl)) .nil) .nil) ?_;refine ai ?_;rfl
theorem E2(a b:List Rat)(n:Nat)(la:a.length<=n)(lb:b.length<=n)(hn:n<=274877906944):FP 362 [nA a,nA b,i64 n] (nA (gV a b n)):=by
 refine am func362 ?_;refine gt (aR (DO 900 rfl a n la oz) (b8 rfl rfl) aT rfl rfl) ?_;refine gc (GX b n lb oz) ?_;refine gs (tR (.tmp rfl) rfl (by simp[fg la]) (.tmp rfl) T53 rfl T106 rfl rfl (by simp[fg lb];omega) rfl rfl) ?_;refine ai ?_;rw[<- aoc];rfl
theorem wS(ts:LL)(m r:Nat)(ht:kR ts m r)(hm:m<=5)(fP:m<=ts.length)(k:Nat):∀(j:Nat)(a b:List Rat)(e f:Nat),j<=m->j<=k->Nl j a->Nl j b->Cb e a->Cb f b->e+f+eB r j<4398046511104 ->
  FP 335 [aZ ts,nA a,nA b] (nA (pT ts k a b)):=by
 induction k using Nat.strongRecOn
 rename_i k ih;intro j a b e f hj hO ha hb ca cb hs;have lH:=ha.len5 oz;have dU:=hb.len5 oz;refine am func335 ?_;refine gl ?_;refine gl ?_;refine Us [3] [3] (fun(x y:List Rat)(e1 f1:Nat)=>[pP 1 (nA x),pP 2 (nA y)]) (fun _ _ _ _=>[]) (fun x y e1 f1=>y.length<=x.length/\Nl j x/\Nl j y/\Cb e1 x/\Cb f1 y/\e1+f1=e+f/\pT ts k a b=pT ts k x y) ?_ ?_
 ·intro K1 J1;refine gC (fun z=>?_) (fun z=>?_)
  ·have h1:a.length<b.length:=by have:=z; simp only [aa,ao0] at this; omega
   exact Lj J1 b a f e ⟨by omega,hb,ha,cb,ca,by omega,FV ts k a b h1⟩
  have h1:b.length<=a.length:=by have:=z;simp only[aa,decide_eq_false_iff_not]at this;omega
  exact Lj J1 a b e f ⟨h1,ha,hb,ca,cb,rfl,rfl⟩
 rintro x y e1 f1 ⟨Dl,hx,hy,cx,cy,hef,hp⟩;have hlx:=hx.len5 oz;have hly:=hy.len5 oz;have qx:∀q∈x,Qs q:=fun q hq=>cx.qs oz hq
 have qy:∀q∈y,Qs q:=fun q hq=>cy.qs oz hq
 rw[hp];refine gc (Qo x qx oz) ?_;refine cm (fun _=>(Qo y qy oz)) ?_;refine gC (fun t21=>?_) (fun t21=>?_)
 ·have h1:bN x=true\/bN y=true:=by
   have:=t21;cases hz:bN x
   ·rw[hz]at this;exact .inr this
   ·exact .inl rfl
  refine gR ?_;exact kX (by rw[Ve Dl h1];exact Sub.nil _ _ _)
 have h1:¬(bN x=true\/bN y=true):=by
  have:=t21;cases hz:bN x
  ·rw[hz]at this;intro h;rcases h with h |h;cases h;(rw[show bN y=false from this]at h;cases h)
  ·rw[hz]at this;cases this
 refine gl ?_;refine gC (fun z=>?_) (fun z=>?_)
 ·have h2:x.length=1:=by have:=z; simp only [aa,beq_iff_eq] at this; omega
  obtain⟨p,rfl⟩:=alm.1 h2;have h3:y≠[]:=fun h=>h1 (.inr (by rw[h];rfl))
  obtain⟨q,rfl⟩:∃q,y=[q]:=alm.1 (by have:=ale.2 h3;simp at Dl;omega);refine gi rfl ?_;refine gi rfl ?_;refine gc (Qa (rt p) (rt q) (qx p (by simp)).ok (qy q (by simp)).ok) ?_;refine gD ?_;refine ai ?_;rw[agr h1,b7,b7];rfl
 have h2:x.length≠1:=by have:=z;simp only[aa,beq_eq_false_iff_ne,ne_eq]at this;omega
 have h3:x≠[]:=fun h=>h1 (.inl (by rw[h];rfl))
 obtain⟨i,dL,gI⟩:∃i,i+1<=j/\x.length=2^(i+1):=by
  rcases tI hx with h |h |h
  ·exact ao5 (ak0.1 h) h3
  ·exact ao5 h h2
  ·exact h
 obtain⟨k',rfl⟩:∃k',k=k'+1:=⟨k-1,by omega⟩
 have j8:=aku i;have rv:2^i<=32:=cK (b:=5) oz;have eT:2^(i+1)=2*2^i:=by rw[ajq];omega
 have lD:eB r (i+1)<=eB r j:=kl r dL;have hee:eB r (i+1)=2*eB r i+r+2:=rfl;have n1:Nl i (x.take (2^i)):=.inr ⟨i,anp _,iX gI⟩;have n2:Nl i (x.drop (2^i)):=.inr ⟨i,anp _,jk gI⟩;refine gl ?_;refine gs (gU (.tmp rfl) (.const _) oz (show _=((2^i:Nat):Int) by rw[iY oz,gI,iF]) rfl) ?_;refine gs (dS (.tmp rfl) (.none _) (.some _ (.tmp rfl) oz) T53 rfl T106 rfl oz (by simp only[anl];omega) rfl) ?_;refine gs (dS (.tmp rfl) (.some _ (.tmp rfl) oz) (.none _) T53 rfl T106 rfl (by simp only[anl];omega) oz rfl) ?_;refine gD ?_ (9,0);refine gW (Wk.of (sl:=[pP 1 (nA x),pP 2 (nA y),pP 3 (.ptr 3 0),pP 7 (i64 ((2^i:Nat):Int)),pP 8 (nA (x.take (2^i))),pP 9 (nA (x.drop (2^i)))]) (hp:=[pP 3 (.box [.lst 1 (ts.map nA)])]) (.k (.k (.k (.k (.cons rfl (.of (pH x (2^i))) (.cons rfl (.of (ra x (2^i))) .nil)))))) (.k .nil)) ?_;refine gl ?_;refine gC (fun z=>?_) (fun z=>?_)
 ·have h4:y.length<=2 ^ i:=by have:=z; simp only [aa,ao0] at this; omega
  have n3:Nl i y:=Yp hy h4;have s1:=ju ts m ht.1 i k' _ _ oz oz n1 n3;have s2:=ju ts m ht.1 i k' _ _ oz oz n2 n3;refine gc (ih k' oz i _ _ e1 f1 oz oz n1 n3 cx.take cy oz) ?_;refine gc (ih k' oz i _ _ e1 f1 oz oz n2 n3 cx.drop cy oz) ?_;refine gc (E2 _ _ (2^i) s1.1.le s2.1.le oz) ?_;refine gD ?_;refine ai ?_;rw[Y5 gI h4 h1]
 have h4:¬y.length<=2^i:=by have:=z;simp only[aa,decide_eq_false_iff_not]at this;omega
 have Dv:=SU hy h4 oz;have n3:Nl i (y.take (2^i)):=.inr ⟨i,anp _,iX Dv⟩;have n4:Nl i (y.drop (2^i)):=.inr ⟨i,anp _,jk Dv⟩;have nd:=ht.1 i oz;have cd:=ht.2.cb i;have s1:=ju ts m ht.1 i k' _ _ oz oz n1 n3;have s2:=ju ts m ht.1 i k' _ _ oz oz n2 n4;have s3:=ju ts m ht.1 i k' _ _ oz oz s2.1 nd;have s4:=ju ts m ht.1 i k' _ _ oz oz n1 n4;have s5:=ju ts m ht.1 i k' _ _ oz oz n2 n3;have c1:=Cb.mul ht (k:=k') (show i<=m by omega) oz n1 n3 cx.take cy.take;have c2:=Cb.mul ht (k:=k') (show i<=m by omega) oz n2 n4 cx.drop cy.drop;have c3:=Cb.mul ht (k:=k') (show i<=m by omega) oz s2.1 nd c2 cd;have c4:=Cb.mul ht (k:=k') (show i<=m by omega) oz n1 n4 cx.take cy.drop;have c5:=Cb.mul ht (k:=k') (show i<=m by omega) oz n2 n3 cx.drop cy.take;have hpT:=WZ (ts:=ts) (k:=k') gI h4 Dl h1;refine gs (dS (.tmp rfl) (.none _) (.some _ (.tmp rfl) oz) T53 rfl T106 rfl oz (by simp only[anl];omega) rfl) ?_;refine gs (dS (.tmp rfl) (.some _ (.tmp rfl) oz) (.none _) T53 rfl T106 rfl (by simp only[anl];omega) oz rfl) ?_;refine gD ?_ (12,0);refine gW (Wk.of (sl:=[pP 1 (nA x),pP 3 (.ptr 3 0),pP 7 (i64 ((2^i:Nat):Int)),pP 8 (nA (x.take (2^i))),pP 9 (nA (x.drop (2^i))),pP 10 (nA (y.take (2^i))),pP 11 (nA (y.drop (2^i)))]) (hp:=[pP 3 (.box [.lst 1 (ts.map nA)])]) (.k (.k (.k (.k (.k (.cons rfl (.of (pH y (2^i))) (.cons rfl (.of (ra y (2^i))) .nil))))))) (.k .nil)) ?_;refine gc (xE qA x oz) ?_;refine ga (show _=(i:Int) by rw[gI,u7,fc oz];omega) ?_;refine gi (vF (j:=i) oz) ?_;refine gD ?_;refine gc (ih k' oz i _ _ e1 f1 oz oz n1 n3 cx.take cy.take oz) ?_;refine gc (ih k' oz i _ _ e1 f1 oz oz n2 n4 cx.drop cy.drop oz) ?_;refine gc (ih k' oz i _ _ _ _ oz oz s2.1 nd c2 cd oz) ?_;refine gc (uW _ _ (fun q hq=>c1.qs oz hq) (fun q hq=>c3.qs oz hq) (by have:=s1.1.le;omega) (by have:=s3.1.le;omega)) ?_;refine gD ?_;refine gc (ih k' oz i _ _ e1 f1 oz oz n1 n4 cx.take cy.drop oz) ?_;refine gc (ih k' oz i _ _ e1 f1 oz oz n2 n3 cx.drop cy.take oz) ?_;refine gc (uW _ _ (fun q hq=>c4.qs oz hq) (fun q hq=>c5.qs oz hq) (by have:=s4.1.le;omega) (by have:=s5.1.le;omega)) ?_;refine gc (E2 _ _ (2^i) (by have:=s1.1.le;have:=s3.1.le;rw[fT];omega) (by have:=s4.1.le;have:=s5.1.le;rw[fT];omega) oz) ?_;refine gD ?_;refine ai ?_;rw[hpT]
theorem El(ts:LL)(m r:Nat)(ht:kR ts m r)(hm:m<=5)(fP:m<=ts.length)(i:Nat)(a:List Rat)(e:Nat)(hi:i+1<=m)(bQ:a.length=2^(i+1))(ca:Cb e a)(hs:4*e+3*eB r i+r+1<4398046511104) :
  FP 317 [aZ ts,nA a] (nA (lw ts i a)):=by
 have j8:=aku i;have rv:2^i<=32:=cK (b:=5) oz;have eT:2^(i+1)=2*2^i:=by rw[ajq];omega
 have n1:Nl i (a.take (2^i)):=.inr ⟨i,anp _,iX bQ⟩;have n2:Nl i (a.drop (2^i)):=.inr ⟨i,anp _,jk bQ⟩;have nd:=ht.1 i oz;have cd:=ht.2.cb i;have s1:=ju ts m ht.1 i i _ _ oz oz n1 n1;have s2:=ju ts m ht.1 i i _ _ oz oz n2 n2;have s3:=ju ts m ht.1 i i _ _ oz oz s2.1 nd;have c1:=Cb.mul ht (k:=i) (show i<=m by omega) oz n1 n1 ca.take ca.take;have c2:=Cb.mul ht (k:=i) (show i<=m by omega) oz n2 n2 ca.drop ca.drop;have c3:=Cb.mul ht (k:=i) (show i<=m by omega) oz s2.1 nd c2 cd;refine am func317 ?_;refine gl ?_;refine gs (gU (.tmp rfl) (.const _) oz (show _=((2^i:Nat):Int) by rw[iY oz,bQ,iF]) rfl) ?_;refine gs (dS (.tmp rfl) (.none _) (.some _ (.tmp rfl) oz) T53 rfl T106 rfl oz (by simp only[anl];omega) rfl) ?_;refine gs (dS (.tmp rfl) (.some _ (.tmp rfl) oz) (.none _) T53 rfl T106 rfl (by simp only[anl];omega) oz rfl) ?_;refine gD ?_ (3,0);refine gW (Wk.of (sl:=[pP 1 (nA a),pP 2 (.ptr 2 0),pP 6 (nA (a.take (2^i))),pP 7 (nA (a.drop (2^i)))]) (hp:=[pP 2 (.box [.lst 1 (ts.map nA)])]) (.k (.k (.cons rfl (.of (pH a (2^i))) (.cons rfl (.of (ra a (2^i))) .nil)))) (.k .nil)) ?_;refine gc (wS ts m r ht hm fP i i _ _ e e oz oz n1 n1 ca.take ca.take oz) ?_;refine gc (wS ts m r ht hm fP i i _ _ e e oz oz n2 n2 ca.drop ca.drop oz) ?_;refine gc (xE qA a oz) ?_;refine ga (show _=(i:Int) by rw[bQ,u7,fc oz];omega) ?_;refine gi (vF (j:=i) oz) ?_;refine gc (wS ts m r ht hm fP i i _ _ _ _ oz oz s2.1 nd c2 cd oz) ?_;refine gc (CC _ (fun q hq=>c3.qs oz hq) (by have:=s3.1.le;omega)) ?_;refine gc (uW _ _ (fun q hq=>c1.qs oz hq) (fun q hq=>c3.minus.qs oz hq) (by have:=s1.1.le;omega) (by have:=s3.1.le;rw[kP];omega)) ?_;refine gD ?_;refine ai ?_;rfl
theorem we(ts:LL)(m r:Nat)(ht:kR ts m r)(hm:m<=5)(fP:m<=ts.length)(j:Nat):∀(a:List Rat)(e:Nat),j<=m->Nl j a->Cb e a->sB r j e<4398046511104 ->
  FP 193 [aZ ts,nA a] (i64 (T.sgn (az ts) j (af j a))):=by
 induction j using Nat.strongRecOn
 rename_i j ih;intro a e hj ha ca hs;have Rr:=tp r j e;have qa:∀q∈a,Qs q:=fun q hq=>ca.qs oz hq
 obtain⟨s,nE⟩:∃s,s=sh j (af j a):=⟨_,rfl⟩
 have pi:af j s=af j a:=by rw[nE,bn]
 have pj:Nl j s:=by rw[nE];exact ek j _
 have cs:Cb e s:=by rw[nE];exact ca.sh ha
 have hls:=pj.len5 oz;rw[<- pi];refine am func193 ?_;refine gc (nE▸qi a oz ha qa) ?_;refine gl ?_;refine gC (fun z=>?_) (fun z=>?_)
 ·have h1:s=[]:=ak0.1 (by have:=z;simp only[aa,beq_iff_eq]at this;omega);refine ai ?_;rw[h1,jX,T.sgn_zero];rfl
 have h1:s.length≠0:=by have:=z;simp only[aa,beq_eq_false_iff_ne,ne_eq]at this;omega
 refine gl ?_;refine gC (fun z=>?_) (fun z=>?_)
 ·have h2:s.length=1:=by have:=z; simp only [aa,beq_iff_eq] at this; omega
  obtain⟨q,rfl⟩:=alm.1 h2;refine gi rfl ?_;refine gc (AX (rt q) (cs.qs oz (by simp:q∈[q])).ok) ?_;refine ai ?_;rw[pO,T.sgn_ofQ,b7]
 have h2:s.length≠1:=by have:=z;simp only[aa,beq_eq_false_iff_ne,ne_eq]at this;omega
 obtain⟨i,dL,dB⟩:∃i,i+1<=j/\s.length=2^(i+1):=by
  rcases tI pj with h |h |h
  ·exact ao5 h h1
  ·exact ao5 h h2
  ·exact h
 have j8:=aku i;have rv:2^i<=32:=cK (b:=5) oz;have eT:2^(i+1)=2*2^i:=by rw[ajq];omega
 have n1:Nl i (s.take (2^i)):=.inr ⟨i,anp _,iX dB⟩;have n2:Nl i (s.drop (2^i)):=.inr ⟨i,anp _,jk dB⟩;have nd:=ht.1 i oz;have cd:=ht.2.cb i;obtain⟨nn,dn,cn⟩:=CG ht oz dB cs;have b1:sB r i (4*e+3*eB r i+r+1)<=sB r j e:=xW r e dL;have b2:sB r i e<=sB r i (4*e+3*eB r i+r+1):=ux r i oz;have b3:sB r i r<=sB r i (4*e+3*eB r i+r+1):=ux r i oz;have b4:=tp r i (4*e+3*eB r i+r+1);have k1:=ih i oz (s.take (2^i)) e oz n1 cs.take oz;have k2:=ih i oz (s.drop (2^i)) e oz n2 cs.drop oz;have k3:=ih i oz _ r oz nd cd oz;have k4:=ih i oz _ _ oz nn cn oz
 have mr:T.sgn (az ts) j (af j s)=T.sgn3 (T.sgn (az ts) i (af i (s.take (2^i)))) (T.sgn (az ts) i (af i (s.drop (2^i)))) (T.sgn (az ts) i (af i (ts.getD i []))) (T.sgn (az ts) i (af i (lw ts i s))):=by
  rw[xt _ oz dL,dn];rfl
 have v1:=T.sgn_cases (az ts) i (af i (s.take (2^i)));have v4:=T.sgn_cases (az ts) i (af i (lw ts i s));refine gl ?_;refine gs (gU (.tmp rfl) (.const _) oz (show _=((2^i:Nat):Int) by rw[iY oz,dB,iF]) rfl) ?_;refine gs (dS (.tmp rfl) (.none _) (.some _ (.tmp rfl) oz) T53 rfl T106 rfl oz (by simp only[anl];omega) rfl) ?_;refine gc (by have h9:=k1;rw[<- pH]at h9;exact h9) ?_;refine gs (dS (.tmp rfl) (.some _ (.tmp rfl) oz) (.none _) T53 rfl T106 rfl (by simp only[anl];omega) oz rfl) ?_;refine gc (by have h9:=k2;rw[<- ra]at h9;exact h9) ?_;refine gD ?_;refine gc (xE qA s oz) ?_;refine ga (show _=(i:Int) by rw[dB,u7,fc oz];omega) ?_;refine gi (vF (j:=i) oz) ?_;refine gc k3 ?_;refine gD ?_;refine gC (fun z=>?_) (fun z=>?_)
 ·have e1:T.sgn (az ts) i (af i (ts.getD i []))=0:=by simpa[aa] using z
  refine ai ?_;rw[mr];unfold T.sgn3;rw[aoz e1]
 have e1:¬T.sgn (az ts) i (af i (ts.getD i []))=0:=by simpa[aa]using z
 refine gC (fun z=>?_) (fun z=>?_)
 ·have e2:T.sgn (az ts) i (af i (s.take (2^i)))=T.sgn (az ts) i (af i (s.drop (2^i)))\/T.sgn (az ts) i (af i (s.drop (2^i)))=0:=FB z;refine ai ?_;rw[mr];unfold T.sgn3;rw[aoy e1,aoz e2]
 have e2:¬(T.sgn (az ts) i (af i (s.take (2^i)))=T.sgn (az ts) i (af i (s.drop (2^i)))\/T.sgn (az ts) i (af i (s.drop (2^i)))=0):=G6 z;refine gC (fun z=>?_) (fun z=>?_)
 ·have e3:T.sgn (az ts) i (af i (s.take (2 ^ i)))=0:=by simpa[aa] using z
  refine ai ?_;rw[mr];unfold T.sgn3;rw[aoy e1,aoy e2,aoz e3]
 have e3:¬T.sgn (az ts) i (af i (s.take (2^i)))=0:=by simpa[aa]using z
 refine gc (El ts m r ht hm fP i s e oz dB cs oz) ?_;refine gc k4 ?_;refine ga (EL v1 v4) ?_;refine gD ?_;refine ai ?_;rw[mr];unfold T.sgn3;rw[aoy e1,aoy e2,aoy e3];rfl
theorem tZ(rs:List (List Rt))(r:Nat)(h:TR rs r):FP 138 [cJ rs] (bU (bB rs)):=by
 have kI:=h.ll;have hr:=h.le;refine am func138 ?_;refine gl ?_;refine gC (fun z=>?_) (fun z=>?_)
 ·have h5:5<rs.length:=by have:=z; simp only [aa,ao0] at this; omega
  refine ai ?_;rw[MT h5];rfl
 have h5:rs.length<=5:=by have:=z;simp only[aa,decide_eq_false_iff_not]at this;omega
 refine gl ?_;refine aY [1,13,14] [1] (fun(k:Nat)=>[pP 15 (i64 k)]) (fun _=>[]) (fun k=>k<=rs.length/\∀j,j<k->lg rs j) (fun k=>rs.length-k) 0 ⟨ans _,fun j hj=>by omega⟩ ?_;rintro k ⟨hk,hj⟩ K1 J1;refine gC (fun z=>?_) (fun z=>?_)
 ·have ah:k<rs.length:=by simpa[aa] using z
  obtain⟨d,hd⟩:=aB ah;have uN:=ank hd;have pu:=h.len d uN;refine gi (aL hd) ?_;refine gl ?_;refine gs (jD (.const _) (.tmp rfl) oz (r8 oz) rfl) ?_;refine gC (fun z=>?_) (fun z=>?_)
  ·have h1:d.length≠2 ^ k:=by have:=z; simp only [aa,bne_iff_ne,ne_eq] at this; omega
   refine ai ?_;rw[Jw h5 hd hj h1];rfl
  have h1:d.length=2^k:=by have:=z;simp only[aa,bne_eq_false_iff_eq]at this;omega
  have Ie:(rs.take k).length=k:=by simp;omega
  have Dw:=NW (rs.take k) d (h.ok d uN) pu oz;rw[Ie]at Dw;refine gs (dS (.tmp rfl) (.none _) (.some _ (.tmp rfl) oz) T42 rfl T53 rfl oz (by simp only[anl];omega) rfl) ?_ (9,0);refine gW (Wk.of (sl:=[pP 1 (.ptr 1 0),pP 3 (i64 k),pP 4 (nR d),pP 5 (.ptr 5 0),pP 13 (.lst 1 (rs.map nR)),pP 14 (i64 rs.length),pP 15 (i64 k)]) (hp:=[pP 1 (.box [.lst 1 (rs.map nR)]),pP 5 (.box [.lst 1 ((rs.take k).map nR)])]) bg (.k (.cons rfl (BlkSub.bL (.cons (.of (We nR rs k)) .nil) rfl) .nil))) ?_;refine gc Dw ?_;refine gC (fun z=>?_) (fun z=>?_)
  ·have h2:=et z;refine ai ?_;rw[Nt h5 hd hj h1 h2]
  have h2:=d7 z;have pc:=M4 (ts:=llq rs) (fun j hO=>(hj j hO).nl) h.rb;have hq:=AW h2 (h.ok d uN);have Ab:Cb r (lq d):=by have:=h.rb.cb k;rw[x3,anm,hd]at this;exact this
  have lI:FP 193 [cJ (rs.take k),nR d] (i64 (T.sgn (az (llq rs)) k (af k (lq d)))):=by
   have h9:=we ((llq rs).take k) k r pc oz (by simp;omega) k (lq d) r (anp _) hq.2 Ab (rH (anp k) (by have:=h.three;omega) hr (by have:=oT k;omega));rw[T.sgn_congr k (fun j hO=>Bk hO)]at h9;rw[WP h.ok oz hj,hq.1,eL];rw[<- hq.1];exact h9
  refine gc lI ?_;refine gC (fun z=>?_) (fun z=>?_)
  ·have h3:T.sgn (az (llq rs)) k (af k (lq d))<0:=by simpa[aa] using z
   refine ai ?_;rw[PO h5 hd hj h1 h2 h3];rfl
  have h3:¬T.sgn (az (llq rs)) k (af k (lq d))<0:=by simpa[aa]using z
  refine ga aU ?_;exact aS J1 (k+1) ⟨ah,fun j hO=>by rcases anu j k with h9 |h9;exact hj j h9;(have:j=k:=by omega);subst this;exact MV hd h1 h2 h3⟩
 have ah:k=rs.length:=by have:rs.length<=k:=(by simpa[aa]using z);omega
 subst ah;refine ai ?_;rw[KZ h5 hj];rfl
theorem tG(rs:List (List Rt))(r:Nat)(h:TR rs r)(xs:List (List Rt))(hx:∀a∈xs,(∀x∈a,x.ok)/\a.length<=281474976710656)(hl:xs.length<=281474976710656):FP 192 [cJ rs,.lst 1 (xs.map nR)] (bU (bc rs xs)):=by
 refine am func192 ?_;refine gc (tZ rs r h) ?_;refine gC (fun z=>?_) (fun z=>?_)
 ·have h1:=et z;refine ai ?_;rw[C5 h1]
 have h1:=d7 z;refine gl ?_;refine aY [2,14,15] [2] (fun(i:Nat)=>[pP 16 (i64 i)]) (fun _=>[]) (fun i=>i<=xs.length/\∀x∈xs.take i,cA rs.length x=0) (fun i=>xs.length-i) 0 ⟨ans _,fun x hx=>by simp at hx⟩ ?_;rintro i ⟨hi,hj⟩ K1 J1;refine gC (fun z=>?_) (fun z=>?_)
 ·have ah:i<xs.length:=by simpa[aa] using z
  obtain⟨a,ha⟩:=aB ah;have ci:=hx a (ank ha);refine gi (aL ha) ?_;refine gc (NW rs a ci.1 ci.2 h.ll) ?_;refine gC (fun z=>?_) (fun z=>?_)
  ·have h2:=et z;refine ai ?_;rw[yW h1 ha hj h2]
  have h2:=d7 z;refine ga aU ?_;exact aS J1 (i+1) ⟨ah,fun x hx=>by rw[dR ha]at hx;rcases anz.1 hx with h9 |h9;exact hj x h9;(rw[alr.1 h9];exact h2)⟩
 have ah:i=xs.length:=by have:xs.length<=i:=(by simpa[aa]using z);omega
 subst ah;rw[an3]at hj;refine ai ?_;rw[rK h1 hj];rfl
theorem Ho(rs:List (List Rt))(r:Nat)(h:TR rs r)(a:List Rt)(e:Nat)(ha:NR a e)(he:e<=lm rs.length) :
  FP 128 [cJ rs,nR a] (.tup [nA (if bc rs [a]=0 then sh rs.length (T.neg rs.length (af rs.length (lq a)))else[]),bU (bc rs [a])]):=by
 have dW:=jA rs.length;refine am func128 ?_;refine gc (tG rs r h [a] (fun x hx=>by rw[alr.1 hx];exact⟨ha.ok,ha.len⟩) (by simp)) ?_;refine gC (fun z=>?_) (fun z=>?_) (st2:=(77777,0))
 ·have h1:=et z;refine gR ?_;exact fa (by rw[aoy h1];exact Sub.tup (.cons (.nil _ _ _) (.cons (.refl _) .nil)))
 have h1:=d7 z;obtain⟨h2,h3⟩:=l9 h1;obtain⟨tw,_⟩:=dg h h2;obtain⟨e1,na⟩:=ha.num (h3 a (by simp));have h5:rs.length<=5:=by have:=tw.five;rwa [anl]at this
 have hl:=na.len5 h5;have qa:∀q∈lq a,Qs q:=fun q hq=>ha.cb.qs oz hq
 have qm:∀q∈dq (lq a),Qs q:=fun q hq=>ha.cb.minus.qs oz hq
 have nm:=un na;refine gW (Wk.of (sl:=[pP 1 (nA (lq a)),pP 2 (.ptr 2 0),pP 6 (bU (bc rs [a]))]) (hp:=[pP 2 (.box [.lst 1 (rs.map nR)])]) (.cons rfl (.of e1) (.k (.k .nil))) (.k .nil)) ?_;refine gc (CC _ qa oz) ?_;refine gc (qi _ h5 nm qm) ?_;refine bO ?_;rw[aoz h1,h1,q9];rfl
theorem Xa(rs:List (List Rt))(r:Nat)(h:TR rs r)(a b:List Rt)(e f:Nat)(ha:NR a e)(hb:NR b f)(he:e+f<=lm rs.length) :
  FP 250 [cJ rs,nR a,nR b] (.tup [nA (if bc rs [a,b]=0 then sh rs.length (T.add rs.length (af rs.length (lq a)) (af rs.length (lq b)))else[]),bU (bc rs [a,b])]):=by
 have dW:=jA rs.length;refine am func250 ?_;refine gc (tG rs r h [a,b] (sL ha hb) (by simp)) ?_;refine gC (fun z=>?_) (fun z=>?_) (st2:=(77777,0))
 ·have h1:=et z;refine gR ?_;exact fa (by rw[aoy h1];exact Sub.tup (.cons (.nil _ _ _) (.cons (.refl _) .nil)))
 have h1:=d7 z;obtain⟨h2,h3⟩:=l9 h1;obtain⟨tw,e0⟩:=dg h h2;obtain⟨e1,na⟩:=ha.num (h3 a (by simp));obtain⟨e2,nb⟩:=hb.num (h3 b (by simp));have h5:rs.length<=5:=by have:=tw.five;rwa [anl]at this
 have lH:=na.len5 h5;have dU:=nb.len5 h5;have qa:∀q∈lq a,Qs q:=fun q hq=>ha.cb.qs oz hq
 have qb:∀q∈lq b,Qs q:=fun q hq=>hb.cb.qs oz hq
 have qp:∀q∈cQ (lq a) (lq b),Qs q:=fun q hq=>(ha.cb.plus hb.cb).qs oz hq
 have np:=rI na nb;refine gW (Wk.of (sl:=[pP 1 (nA (lq a)),pP 2 (nA (lq b)),pP 3 (.ptr 3 0),pP 8 (bU (bc rs [a,b]))]) (hp:=[pP 3 (.box [.lst 1 (rs.map nR)])]) (.cons rfl (.of e1) (.cons rfl (.of e2) (.k (.k .nil)))) (.k .nil)) ?_;refine gc (uW _ _ qa qb oz oz) ?_;refine gc (qi _ h5 np qp) ?_;refine bO ?_;rw[aoz h1,h1,kU];rfl
theorem SL(rs:List (List Rt))(r:Nat)(h:TR rs r)(a b:List Rt)(e f:Nat)(ha:NR a e)(hb:NR b f)(he:e+f<=lm rs.length) :
  FP 209 [cJ rs,nR a,nR b] (.tup [nA (if bc rs [a,b]=0 then sh rs.length (T.add rs.length (af rs.length (lq a)) (T.neg rs.length (af rs.length (lq b))))else[]),bU (bc rs [a,b])]):=by
 have dW:=jA rs.length;refine am func209 ?_;refine gc (tG rs r h [a,b] (sL ha hb) (by simp)) ?_;refine gC (fun z=>?_) (fun z=>?_) (st2:=(77777,0))
 ·have h1:=et z;refine gR ?_;exact fa (by rw[aoy h1];exact Sub.tup (.cons (.nil _ _ _) (.cons (.refl _) .nil)))
 have h1:=d7 z;obtain⟨h2,h3⟩:=l9 h1;obtain⟨tw,e0⟩:=dg h h2;obtain⟨e1,na⟩:=ha.num (h3 a (by simp));obtain⟨e2,nb⟩:=hb.num (h3 b (by simp));have h5:rs.length<=5:=by have:=tw.five;rwa [anl]at this
 have lH:=na.len5 h5;have dU:=nb.len5 h5;have qa:∀q∈lq a,Qs q:=fun q hq=>ha.cb.qs oz hq
 have qb:∀q∈lq b,Qs q:=fun q hq=>hb.cb.qs oz hq
 have qm:∀q∈dq (lq b),Qs q:=fun q hq=>hb.cb.minus.qs oz hq
 have qp:∀q∈cQ (lq a) (dq (lq b)),Qs q:=fun q hq=>(ha.cb.plus hb.cb.minus).qs oz hq
 have np:=rI na (un nb);refine gW (Wk.of (sl:=[pP 1 (nA (lq a)),pP 2 (nA (lq b)),pP 3 (.ptr 3 0),pP 8 (bU (bc rs [a,b]))]) (hp:=[pP 3 (.box [.lst 1 (rs.map nR)])]) (.cons rfl (.of e1) (.cons rfl (.of e2) (.k (.k .nil)))) (.k .nil)) ?_;refine gc (CC _ qb oz) ?_;refine gc (uW _ _ qa qm oz (by rw[kP];omega)) ?_;refine gc (qi _ h5 np qp) ?_;refine bO ?_;rw[aoz h1,h1,kU,q9];rfl
theorem Xy(rs:List (List Rt))(r:Nat)(h:TR rs r)(a b:List Rt)(e f:Nat)(ha:NR a e)(hb:NR b f)(he:e+f<=lm rs.length) :
  FP 210 [cJ rs,nR a,nR b] (.tup [nA (if bc rs [a,b]=0 then sh rs.length (T.mul (az (llq rs)) rs.length (af rs.length (lq a)) (af rs.length (lq b)))else[]),bU (bc rs [a,b])]):=by
 have hr:=h.le;have dW:=jA rs.length;refine am func210 ?_;refine gc (tG rs r h [a,b] (sL ha hb) (by simp)) ?_;refine gC (fun z=>?_) (fun z=>?_) (st2:=(77777,0))
 ·have h1:=et z;refine gR ?_;exact fa (by rw[aoy h1];exact Sub.tup (.cons (.nil _ _ _) (.cons (.refl _) .nil)))
 have h1:=d7 z;obtain⟨h2,h3⟩:=l9 h1;obtain⟨tw,e0⟩:=dg h h2;obtain⟨e1,na⟩:=ha.num (h3 a (by simp));obtain⟨e2,nb⟩:=hb.num (h3 b (by simp));have bK:(llq rs).length=rs.length:=anl _;have h5:rs.length<=5:=by have:=tw.five;omega
 have lH:=na.len5 h5;have dU:=nb.len5 h5;have j9:=tw.ok;rw[bK]at j9;have hE:=LB r h5;have np:=ju (llq rs) rs.length j9.1 rs.length rs.length _ _ (anp _) (anp _) na nb;have cp:=Cb.mul j9 (k:=rs.length) (anp rs.length) (anp _) na nb ha.cb hb.cb;have dp:=wS (llq rs) rs.length r j9 h5 oz rs.length rs.length _ _ e f (anp _) (anp _) na nb ha.cb hb.cb oz;refine gW (Wk.of (sl:=[pP 1 (nA (lq a)),pP 2 (nA (lq b)),pP 3 (.ptr 3 0),pP 8 (bU (bc rs [a,b]))]) (hp:=[pP 3 (.box [.lst 1 ((llq rs).map nA)])]) (.cons rfl (.of e1) (.cons rfl (.of e2) (.k (.k .nil)))) (.cons rfl (BlkSub.bL (.cons (.of (oV e0)) .nil) rfl) .nil)) ?_;refine gc dp ?_;refine gc (qi _ h5 np.1 (fun q hq=>cp.qs oz hq)) ?_;refine bO ?_;rw[aoz h1,h1,np.2];rfl
theorem ag3(rs:List (List Rt))(r:Nat)(h:TR rs r)(a:List Rt)(e:Nat)(ha:NR a e)(he:e<=lm rs.length) :
  FP 87 [cJ rs,nR a] (.tup [i64 (if bc rs [a]=0 then T.sgn (az (llq rs)) rs.length (af rs.length (lq a))else 0),bU (bc rs [a])]):=by
 have hr:=h.le;have dW:=jA rs.length;refine am func87 ?_;refine gc (tG rs r h [a] (fun x hx=>by rw[alr.1 hx];exact⟨ha.ok,ha.len⟩) (by simp)) ?_;refine gC (fun z=>?_) (fun z=>?_) (st2:=(77777,0))
 ·have h1:=et z;refine bO ?_;rw[aoy h1];rfl
 have h1:=d7 z;obtain⟨h2,h3⟩:=l9 h1;obtain⟨tw,e0⟩:=dg h h2;obtain⟨e1,na⟩:=ha.num (h3 a (by simp));have bK:(llq rs).length=rs.length:=anl _;have h5:rs.length<=5:=by have:=tw.five;omega
 have j9:=tw.ok;rw[bK]at j9;have lI:=we (llq rs) rs.length r j9 h5 oz rs.length _ _ (anp _) na ha.cb (rH (anp rs.length) (by have:=tw.three;omega) hr oz);refine gW (Wk.of (sl:=[pP 1 (nA (lq a)),pP 2 (.ptr 2 0),pP 6 (bU (bc rs [a]))]) (hp:=[pP 2 (.box [.lst 1 ((llq rs).map nA)])]) (.cons rfl (.of e1) (.k (.k .nil))) (.cons rfl (BlkSub.bL (.cons (.of (oV e0)) .nil) rfl) .nil)) ?_;refine gc lI ?_;refine bO ?_;rw[aoz h1,h1];rfl
theorem GT(x:Rt)(hx:x.ok)(hs:Qs x.q):FP 115 [x.av] (nA (sh 0 (x.q:Rat))):=by
 have gL:=tW x (rt 0) hx Qs.zero.ok;rw[yv]at gL;refine am func115 ?_;refine gc (Con.sA (.cons (.refl _) (.cons kA .nil)) gL) ?_;refine gc (qi (n:=0) [x.q] oz (.inr ⟨0,anp _,rfl⟩) (fun q hq=>by rw[alr.1 hq];exact hs)) ?_;refine ai ?_;rfl
theorem yF(n:Nat)(hn:n<=281474976710656):FP 339 [i64 n] (.tup [i64 (oQ n),bl (oH n)]):=by
 refine am func339 ?_;refine aY [0] [] (fun(k:Nat)=>[pP 5 (i64 k)]) (fun _=>[]) (fun k=>k<=6/\∀j,j<k->n≠2^j) (fun k=>6-k) 0 ⟨by omega,fun j h=>by omega⟩ ?_;rintro k ⟨hk,hj⟩ K1 J1;refine gC (fun z=>?_) (fun z=>?_)
 ·have h1:k<6:=by have:=z; simp only [aa,ao0] at this; omega
  refine gs (jD (.const _) (.tmp rfl) oz (r8 oz) rfl) ?_;refine gC (fun z=>?_) (fun z=>?_)
  ·have h2:n=2 ^ k:=by have:=z; simp only [aa,beq_iff_eq] at this; omega
   refine bO ?_;rw[h2,(qO oz).1,(qO oz).2];rfl
  have h2:n≠2^k:=by have:=z;simp only[aa,beq_eq_false_iff_ne,ne_eq]at this;omega
  refine ga (d5 oz) ?_;exact aS J1 (k+1) ⟨by omega,fun j h=>by rcases anu j k with h3 |h3;exact hj j h3;(have:j=k:=by omega);subst this;exact h2⟩
 have h1:k=6:=by have:=z;simp only[aa,decide_eq_false_iff_not]at this;omega
 subst h1;refine bO ?_;rw[(Mg hj).1,(Mg hj).2];rfl
theorem Kw(m:Nat)(hm:m<=5)(a:List Rt)(ha:∀r∈a,r.ok)(hl:a.length<=281474976710656):FP 215 [i64 m,nR a] (i64 (cA m a)):=by
 refine am func215 ?_;refine gl ?_;refine gc (yF a.length hl) ?_;refine gl ?_;refine gC (fun z=>?_) (fun z=>?_)
 ·have h1:a≠[]/\(du a.length<0\/(m:Int)<du a.length):=(OS hm a).2 (YC z);refine ai ?_;unfold cA;rw[aoz h1];rfl
 have hn:¬(a≠[]/\(du a.length<0\/(m:Int)<du a.length)):=fun h=>Ub z ((OS hm a).1 h)
 refine gl ?_;refine aY [27,28] [] (fun(i:Nat)=>[pP 29 (i64 i)]) (fun _=>[]) (fun i=>i<=a.length/\(a.take i).all Rt.valid=true) (fun i=>a.length-i) 0 ⟨ans _,by simp⟩ ?_;rintro i ⟨hi,hv⟩ K1 J1;refine gC (fun z=>?_) (fun z=>?_)
 ·have ah:i<a.length:=by simpa[aa] using z
  obtain⟨r,hr⟩:=aB ah;have Ic:=ha r (ank hr);refine gi (aL hr) ?_;refine gc (tP r Ic) ?_;refine gC (fun z=>?_) (fun z=>?_)
  ·have ru:r.valid=false:=by simpa using z
   refine ai ?_;unfold cA;rw[aoy hn,aoy]
   ·rfl
   ·rw[anx];intro h;rw[h r (ank hr)]at ru;cases ru
  have ru:r.valid=true:=by simpa using z
  refine ga aU ?_;exact aS J1 (i+1) ⟨by omega,by rw[dR hr,all_append,hv];simp[ru]⟩
 have ah:i=a.length:=by have:a.length<=i:=(by simpa[aa]using z);omega
 subst ah;rw[an3]at hv;refine ai ?_;unfold cA;rw[aoy hn,aoz hv];rfl
theorem Lk(a:List Rat)(hl:a.length<=281474976710656):FP 416 [nA a] (bl (bN a)):=by
 refine am func416 ?_;refine gl ?_;refine aY [5,6] [] (fun(i:Nat)=>[pP 7 (i64 i)]) (fun _=>[]) (fun i=>i<=a.length/\bN (a.take i)=true) (fun i=>a.length-i) 0 ⟨ans _,by simp[bN]⟩ ?_;rintro i ⟨hi,hv⟩ K1 J1;refine gC (fun z=>?_) (fun z=>?_)
 ·have ah:i<a.length:=by simpa[aa] using z
  obtain⟨q,hq⟩:=aB ah;refine gi (aL hq) ?_;refine cV ?_;refine cV ?_;refine gC (fun z=>?_) (fun z=>?_)
  ·have h0:q≠0:=XE z;refine ai ?_
   have:bN a=false:=by
    rw[amx];intro h;exact h0 (by simpa using anx.1 h q (ank hq))
   rw[this];rfl
  have h0:q=0:=TS z;refine ga aU ?_;exact aS J1 (i+1) ⟨by omega,by rw[dR hq];simp only[bN,all_append,anq];exact⟨hv,by simp[h0]⟩⟩
 have ah:i=a.length:=by have:a.length<=i:=(by simpa[aa]using z);omega
 subst ah;rw[an3]at hv;refine ai ?_;rw[hv];rfl
theorem wV{n:Nat}(a:List Rat)(hn:n<=5)(ha:Nl n a):FP 340 [nA a] (nA (sh n (af n a))):=by
 have hl:=ha.len5 hn;rw[<- zP ha hn];refine am func340 ?_;refine gl ?_;refine gc (yF a.length oz) ?_;refine gC (fun t13=>?_) (fun t13=>?_)
 ·have h0:a=[]:=by
   rcases ha with h |⟨j,hj,h⟩
   ·exact h
   ·have h9:=t13;rw[h,(qO oz).2]at h9;cases h9
  refine gs (lX T53 rfl T106 rfl rfl rfl) ?_;refine gs (tR (.tmp rfl) rfl rfl (.tmp rfl) T53 rfl T106 rfl rfl (by simp[h0]) rfl rfl) ?_;refine ai ?_;subst h0;rfl
 refine gl ?_;refine aY [0] [] (fun(m:Nat)=>[pP 5 (i64 m)]) (fun _=>[]) (fun m=>qR a m) (fun m=>m) a.length (NN (ha.mono hn)) ?_;rintro m hm K1 J1;refine gs (gy rfl rfl rfl (fun h=>gU (.opt rfl (o1 h)) (.const _) oz (iY (by have:=hm.le;omega)) rfl)) ?_;refine gs (gy rfl rfl rfl (fun h=>dS (.opt rfl (o1 h)) (.some _ (.opt rfl (o1 h)) oz) (.some _ (.opt rfl (o1 h)) oz) T53 rfl T106 rfl oz (by have:=hm.le;simp;omega) rfl)) ?_;refine cm (fun _=>(by have h9:=Lk ((a.drop (m/2)).take (m-m/2)) (by simp;omega);rw[<- xB]at h9;exact h9)) ?_;refine gC (fun t28=>?_) (fun t28=>?_)
 ·have h1:1<m/\bN ((a.drop (m/2)).take (m-m/2))=true:=by
   have h9:=t28
   by_cases h:(m:Int)>1
   ·simp only[aa,ao3 h,cond_true]at h9;exact⟨by omega,h9⟩
   ·simp only[aa,ao4 h,cond_false]at h9;cases h9
  refine gs (gU (.tmp rfl) (.const _) oz (iY (by have:=hm.le;omega)) rfl) ?_;exact aS J1 (m/2) (Lh hm h1.1 h1.2)
 have h1:1<m->bN ((a.drop (m/2)).take (m-m/2))=false:=by
  intro h;have h9:=t28;simp only[aa,ao3 (show(m:Int)>1 by omega),cond_true]at h9;exact h9
 refine gs (gy rfl rfl rfl (fun h=>dS (.opt rfl (o1 h)) (.none _) (.some _ (.const _) oz) T53 rfl T106 rfl oz (by have h8:(m:Int)=1:=(by simpa[aa]using h);have:=hm.le;simp only[anl];omega) rfl)) ?_;refine cm (fun _=>(by have h9:=Lk ((a.drop 0).take 1) (by simp;omega);rw[<- xB]at h9;exact h9)) ?_;refine gC (fun t37=>?_) (fun t37=>?_)
 ·have h2:m=1/\bN (a.take 1)=true:=by
   have h9:=t37
   by_cases h:m=1
   ·rw[h]at h9;exact⟨h,h9⟩
   ·rw[show aa .eql (m:Int) 1=false by simp[aa];omega]at h9;cases h9
  obtain⟨rfl,h3⟩:=h2;refine gR ?_;exact kX (by rw[NI hm h3];exact Sub.nil _ _ _)
 have h2:m=1->bN (a.take 1)=false:=by
  intro h;have h9:=t37;rw[h]at h9;exact h9
 have h3:=MG hm h1 h2;refine gs (lX T53 rfl T106 rfl rfl rfl) ?_;refine gs (dS (.tmp rfl) (.none _) (.some _ (.tmp rfl) oz) T53 rfl T106 rfl oz (by have:=hm.le;simp;omega) rfl) ?_;refine gs (tR (.tmp rfl) rfl rfl (.tmp rfl) T53 rfl T106 rfl rfl (by simp only[an6,List.length_drop,anl];omega) rfl rfl) ?_;refine ai ?_;rw[h3];simp[nA,map_take]
theorem Em(d:Nat)(hd:aks d 1000=true)(a:List Rat)(n:Nat)(hl:a.length<=n)(hn:n<=1099511627776) :
  Con prog 218 [nA a,i64 n] [] (.ms d 3 0 n) [(d,some (.row 3 ((a7 a n).map qA)))]:=by
 refine gF func218 (fun k z h=>by cases h) ?_;refine gs (lX T53 rfl T106 rfl rfl rfl) ?_;refine gs (cZ (.tmp rfl) rfl rfl (.tmp rfl) T53 rfl T106 rfl rfl (by simp only[anl];omega) rfl rfl) ?_;refine gW (Wk.of (sl:=[pP 1 (i64 n),pP 5 (.ms 8 3 0 a.length)]) (hp:=[pP 8 (.row 3 ((a7 a a.length).map qA))]) (.k (.cons rfl (.of (by simp)) .nil)) (.cons rfl (.of (by simp[a7])) .nil)) ?_ (99999,0);refine gW (Wk.rk (k:=8) (d:=900) rfl rfl) ?_;refine aY [1] [] (fun(i:Nat)=>[pP 5 (.ms 900 3 0 i)]) (fun i=>[pP 900 (.row 3 ((a7 a i).map qA))]) (fun i=>a.length<=i/\i<=n) (fun i=>n-i) a.length ⟨anp _,hl⟩ ?_;rintro i ⟨hi,ah⟩ K1 J1;refine gC (fun y=>?_) (fun y=>?_)
 ·have h1:i<n:=by have:=y; simp only [aa,ao0] at this; omega
  refine gs (cZ (.tmp rfl) rfl (by rw[anl,fg hi]) (.tmp rfl) T53 rfl T106 rfl rfl (by simp;omega) rfl rfl) ?_;exact aS J1 (i+1) ⟨by omega,h1⟩ (hw:=(Wk.of (sl:=[pP 1 (i64 n),pP 5 (.ms 16 3 0 (i+1))]) (hp:=[pP 16 (.row 3 ((a7 a (i+1)).map qA))]) bg (.cons rfl (V1 a i hi) .nil)).trans<|(Wk.rk (k:=16) (d:=900) rfl rfl).trans<|Wk.o)
 have h1:i=n:=by have:=y;simp only[aa,decide_eq_false_iff_not]at this;omega
 subst h1;refine gR ?_;exact aD.own1 rfl hd rfl
theorem vL(a:List Rat)(n:Nat)(hl:a.length<=n)(hn:n<=1099511627776):FP 218 [nA a,i64 n] (nA (a7 a n)):=by
 have h:=Con.freeze (by rw[anl,fg hl];omega) (Em 0 rfl a n hl hn);rw[aov,an1 (by rw[anl,fg hl];exact anp _)]at h;exact h
theorem wd(a b:List Rat)(ha:∀q∈a,Qs q)(hb:∀q∈b,Qs q)(la:a.length<=1099511627776)(lb:b.length<=1099511627776):FP 260 [nA a,nA b] (nA (cQ a b)):=by
 obtain⟨n,hn⟩:∃n,n=max a.length b.length:=⟨_,rfl⟩
 have hwa:=fg (show a.length<=n by omega);have hwb:=fg (show b.length<=n by omega);have hp:=fT (a:=a) (b:=b);rw[<- hn]at hp;have qa:∀q∈a7 a n,Qs q:=fun q hq=>by rcases anz.1 hq with h |h;exact ha q h;(rw[(ak4.1 h).2];exact Qs.zero)
 have qb:∀q∈a7 b n,Qs q:=fun q hq=>by rcases anz.1 hq with h |h;exact hb q h;(rw[(ak4.1 h).2];exact Qs.zero)
 refine am func260 ?_;refine gl ?_;refine gl ?_;refine gs (vC (.tmp rfl) (.tmp rfl) rfl) ?_ (2,0);refine gW (Wk.of (sl:=[pP 0 (nA a),pP 1 (nA b),pP 5 (i64 n)]) (hp:=[]) (.k (.k (.cons rfl (Sub.int oz) .nil))) .nil) ?_;refine go ?_;refine gt (aR (Em 900 rfl a n oz oz) (b8 rfl rfl) aT rfl rfl) ?_;refine gc (vL b n oz oz) ?_;refine aY [1,19] [] (fun(i:Nat)=>[pP 0 (.ms 900 3 0 n),pP 20 (i64 i)]) (fun i=>[pP 900 (.row 3 (((cQ a b).take i++(a7 a n).drop i).map qA))]) (fun i=>i<=n) (fun i=>n-i) 0 (ans _) ?_;rintro i hi K1 J1;refine gC (fun z=>?_) (fun z=>?_) (st2:=(8,0))
 ·have ah:i<n:=by simpa[aa] using z
  have uM:=EW (p:=cQ a b) (w:=a7 a n) (i:=i) oz oz;have Af:=(qa _ (zW (i:=i) oz)).ok;have Id:=(qb _ (zW (i:=i) oz)).ok;refine gs (cG (n:=i) (.tmp rfl) (.tmp rfl) T53 rfl T106 rfl oz oz rfl) ?_;refine gs (fR (.tmp rfl) rfl (aL uM) T106 rfl rfl rfl) ?_;refine gi (aL (getD_some (i:=i) (l:=a7 b n) oz)) ?_;refine gc (Bs (rt ((a7 a n).getD i 0)) (rt ((a7 b n).getD i 0)) Af Id) ?_;refine gs (cG (n:=i) (.tmp rfl) (.tmp rfl) T53 rfl T106 rfl oz oz rfl) ?_;refine gs (eY (.tmp rfl) rfl (aL uM) rfl (.tmp rfl) rfl rfl T106 rfl rfl) ?_;refine gD ?_ (7,0);refine gW (Wk.of (sl:=[pP 0 (.ms 900 3 0 n),pP 1 (nA (a7 b n)),pP 19 (i64 n),pP 20 (i64 i)]) (hp:=[pP 900 (.row 3 (((cQ a b).take (i+1)++(a7 a n).drop (i+1)).map qA))]) bg (.cons rfl (.of (by rw[FY oz oz (by rw[LN,<- hn,b7,b7])])) .nil)) ?_;refine ga aU ?_;exact aS J1 (i+1) ah
 have ah:i=n:=by have:n<=i:=(by simpa[aa]using z);omega
 refine gW ((Wk.freeze (k:=900) rfl).trans<|Wk.of (sl:=[pP 0 (nA (cQ a b))]) (hp:=[]) (.cons rfl (.of (by rw[cz (by simp;omega),ah,alc oz,an1 oz,append_nil];rfl)) .nil) .nil) ?_;refine ai ?_;rfl
theorem DV(a:List Rat)(ha:∀q∈a,Qs q)(hl:a.length<=1099511627776):FP 261 [nA a] (nA (dq a)):=by
 refine am func261 ?_;refine gl ?_;refine gW (Wk.virt 900 3 rfl) ?_;refine aY [6,7] [] (fun(i:Nat)=>[pP 3 (.ms 900 3 0 i),pP 8 (i64 i)]) (fun i=>[pP 900 (.row 3 ((dq (a.take i)).map qA))]) (fun i=>i<=a.length) (fun i=>a.length-i) 0 (ans _) ?_;rintro i hi K1 J1;refine gC (fun z=>?_) (fun z=>?_) (st2:=(7,0))
 ·have ah:i<a.length:=by simpa[aa] using z
  obtain⟨q,hq⟩:=aB ah;have mw:=(ha q (ank hq)).ok;refine gi (aL hq) ?_;refine gc (JX (rt q) mw) ?_;refine gs (cZ (.tmp rfl) rfl (by simp[dq];omega) (.tmp rfl) T53 rfl T106 rfl rfl (by simp;omega) rfl rfl) ?_ (6,0);refine gW (Wk.of (sl:=[pP 3 (.ms 16 3 0 (i+1)),pP 6 (nA a),pP 7 (i64 a.length),pP 8 (i64 i)]) (hp:=[pP 16 (.row 3 ((dq (a.take (i+1))).map qA))]) bg (.cons rfl (.of (by rw[dR hq];simp only[dq,aoc,b7];rfl)) .nil)) ?_ (6,0);refine gW (Wk.rk (k:=16) (d:=900) rfl rfl) ?_;refine ga aU ?_;exact aS J1 (i+1) ah
 have ah:i=a.length:=by have:a.length<=i:=(by simpa[aa]using z);omega
 subst ah;refine gW ((Wk.freeze (k:=900) rfl).trans<|Wk.of (sl:=[pP 3 (nA (dq a))]) (hp:=[]) (.cons rfl (.of (by rw[cz (by simp[dq]),an3];rfl)) .nil) .nil) ?_;refine ai ?_;rfl
theorem B7(ts:LL)(m r:Nat)(ht:kR ts m r)(hm:m<=5)(R:List AV)(hR:∀j,j<m->R[j]?=some (nA (ts.getD j [])))(k:Nat):∀(j:Nat)(a b:List Rat)(e f:Nat),j<=m->j<=k->Nl j a->Nl j b->Cb e a->Cb f b->e+f+eB r j<4398046511104 ->
  FP 364 [.agg [.lst 1 R],nA a,nA b] (nA (rT ts k a b)):=by
 induction k using Nat.strongRecOn
 rename_i k ih;intro j a b e f hj hO ha hb ca cb hs;obtain⟨nx,dx⟩:=CL ha oz;obtain⟨ny,dy⟩:=CL hb oz;have cx:Cb e (bI 5 a):=ca.sub (fun q hq=>zj 5 hq);have cy:Cb f (bI 5 b):=cb.sub (fun q hq=>zj 5 hq);have k1:=wV a oz ha;have k2:=wV b oz hb;rw[<- zP ha oz]at k1;rw[<- zP hb oz]at k2;obtain⟨x,hx⟩:∃x,x=bI 5 a:=⟨_,rfl⟩
 obtain⟨y,hy⟩:∃y,y=bI 5 b:=⟨_,rfl⟩
 rw[<- hx]at k1 nx dx cx;rw[<- hy]at k2 ny dy cy;have hlx:=nx.len5 oz;have hly:=ny.len5 oz;obtain⟨n,hn⟩:∃n,n=max x.length y.length:=⟨_,rfl⟩
 refine am func364 ?_;refine gc k1 ?_;refine gc k2 ?_;refine gl ?_;refine gl ?_;refine gs (vC (.tmp rfl) (.tmp rfl) rfl) ?_ (3,0);refine gW (Wk.of (sl:=[pP 1 (nA x),pP 2 (nA y),pP 3 (.ptr 3 0),pP 7 (i64 n)]) (hp:=[pP 3 (.box [.lst 1 R])]) (.k (.k (.k (.cons rfl (Sub.int oz) .nil)))) (.k .nil)) ?_;refine gl ?_;refine cV ?_;refine gC (fun z=>?_) (fun z=>?_)
 ·have h0:x.length=0 \/ y.length=0:=by have:=FB z; omega
  refine gR ?_;exact kX (by rw[KH (by rw[<- hx,<- hy];exact h0)];exact Sub.nil _ _ _)
 have h0:¬(x.length=0\/y.length=0):=by have:=G6 z;omega
 refine gC (fun z=>?_) (fun z=>?_)
 ·have h1:max x.length y.length=1:=by have:=z; simp only [aa,beq_iff_eq] at this; omega
  have e1:=IP (ts:=ts) (k:=k) (a:=a) (b:=b) (by rw[<- hx,<- hy];exact h0) (by rw[<- hx,<- hy];exact h1);rw[<- hx,<- hy]at e1;clear hx hy;have lx1:x.length=1:=by omega
  have ly1:y.length=1:=by omega
  clear hn;obtain⟨p,rfl⟩:∃p,x=[p]:=alm.1 lx1;obtain⟨q,rfl⟩:∃q,y=[q]:=alm.1 ly1;refine gi rfl ?_;refine gi rfl ?_;refine gc (JC (rt p) (rt q) (cx.qs oz (by simp:p∈[p])).ok (cy.qs oz (by simp:q∈[q])).ok) ?_;refine gD ?_;refine ai ?_;rw[e1,b7,b7];rfl
 have h1:n≠1:=by have:=z;simp only[aa,beq_eq_false_iff_ne,ne_eq]at this;omega
 obtain⟨i,dL,ai6⟩:=(N3 nx ny h0).resolve_left oz;obtain⟨k',rfl⟩:∃k',k=k'+1:=⟨k-1,by omega⟩
 have j8:=aku i;have rv:2^i<=32:=cK (b:=5) oz;have eT:2^(i+1)=2*2^i:=by rw[ajq];omega
 have ia:n=2^(i+1):=by omega
 have lD:eB r (i+1)<=eB r j:=kl r dL;have hee:eB r (i+1)=2*eB r i+r+2:=rfl;have lx:(a7 x (2^(i+1))).length=2^(i+1):=fg oz;have ly:(a7 y (2^(i+1))).length=2^(i+1):=fg oz;obtain⟨X,hX⟩:∃X,X=a7 x (2^(i+1)):=⟨_,rfl⟩
 obtain⟨Y,hY⟩:∃Y,Y=a7 y (2^(i+1)):=⟨_,rfl⟩
 have cX:Cb e X:=by rw[hX];exact cx.wide
 have cY:Cb f Y:=by rw[hY];exact cy.wide
 rw[<- hX]at lx;rw[<- hY]at ly;have n1:Nl i (X.take (2^i)):=.inr ⟨i,anp _,iX lx⟩;have n2:Nl i (X.drop (2^i)):=.inr ⟨i,anp _,jk lx⟩;have n3:Nl i (Y.take (2^i)):=.inr ⟨i,anp _,iX ly⟩;have n4:Nl i (Y.drop (2^i)):=.inr ⟨i,anp _,jk ly⟩;have nd:=ht.1 i oz;have cd:=ht.2.cb i;have s1:=od hm ht (k:=k') (show i<=m by omega) oz n1 n3 cX.take cY.take;have s2:=od hm ht (k:=k') (show i<=m by omega) oz n2 n4 cX.drop cY.drop;have s3:=od hm ht (k:=k') (show i<=m by omega) oz s2.1 nd s2.2.2 cd;have s4:=od hm ht (k:=k') (show i<=m by omega) oz n1 n4 cX.take cY.drop;have s5:=od hm ht (k:=k') (show i<=m by omega) oz n2 n3 cX.drop cY.take;have Rs:=KX (ts:=ts) (k:=k') (a:=a) (b:=b) rfl (by rw[<- hx,<- hy];exact h0) (by rw[<- hx,<- hy];exact ai6);rw[<- hx,<- hy,<- hX,<- hY]at Rs;have w1:=vL x n oz oz;have w2:=vL y n oz oz;rw[ia,<- hX]at w1;rw[ia,<- hY]at w2;rw[<- ia]at w1 w2;have pw:=yF n oz;rw[show oQ n=i+1 by rw[ia];exact(qO oz).1,show oH n=true by rw[ia];exact(qO oz).2]at pw;refine gc w1 ?_;refine gc w2 ?_;refine gc pw ?_;refine gs (gU (.tmp rfl) (.const _) oz (show _=((2^i:Nat):Int) by rw[iY oz,ia,iF]) rfl) ?_;refine gs (dS (.tmp rfl) (.none _) (.some _ (.tmp rfl) oz) T53 rfl T106 rfl oz (by simp only[anl];omega) rfl) ?_;refine gs (gU (.tmp rfl) (.const _) oz (show _=((2^i:Nat):Int) by rw[iY oz,ia,iF]) rfl) ?_;refine gs (dS (.tmp rfl) (.some _ (.tmp rfl) oz) (.none _) T53 rfl T106 rfl (by simp only[anl];omega) oz rfl) ?_;refine gs (gU (.tmp rfl) (.const _) oz (show _=((2^i:Nat):Int) by rw[iY oz,ia,iF]) rfl) ?_;refine gs (dS (.tmp rfl) (.none _) (.some _ (.tmp rfl) oz) T53 rfl T106 rfl oz (by simp only[anl];omega) rfl) ?_;refine gs (gU (.tmp rfl) (.const _) oz (show _=((2^i:Nat):Int) by rw[iY oz,ia,iF]) rfl) ?_;refine gs (dS (.tmp rfl) (.some _ (.tmp rfl) oz) (.none _) T53 rfl T106 rfl (by simp only[anl];omega) oz rfl) ?_;refine gD ?_ (10,0);refine gW (Wk.of (sl:=[pP 3 (.ptr 3 0),pP 7 (i64 n),pP 8 (i64 ((i+1:Nat):Int)),pP 10 (nA (X.take (2^i))),pP 11 (nA (X.drop (2^i))),pP 12 (nA (Y.take (2^i))),pP 13 (nA (Y.drop (2^i)))]) (hp:=[pP 3 (.box [.lst 1 R])]) (.k (.k (.k (.cons rfl (.of (pH X (2^i))) (.cons rfl (.of (ra X (2^i))) (.cons rfl (.of (pH Y (2^i))) (.cons rfl (.of (ra Y (2^i))) .nil))))))) (.k .nil)) ?_
 refine gc (ih k' oz i _ _ e f oz oz n1 n3 cX.take cY.take oz) ?_;refine gc (ih k' oz i _ _ e f oz oz n2 n4 cX.drop cY.drop oz) ?_;refine ga (show _=(i:Int) by rw[fc oz];omega) ?_;refine gi (hR i oz) ?_;refine gc (ih k' oz i _ _ _ _ oz oz s2.1 nd s2.2.2 cd oz) ?_;refine gc (wd _ _ (fun q hq=>s1.2.2.qs oz hq) (fun q hq=>s3.2.2.qs oz hq) (by have:=s1.1.le;omega) (by have:=s3.1.le;omega)) ?_;refine gD ?_;refine gc (ih k' oz i _ _ e f oz oz n1 n4 cX.take cY.drop oz) ?_;refine gc (ih k' oz i _ _ e f oz oz n2 n3 cX.drop cY.take oz) ?_;refine gc (wd _ _ (fun q hq=>s4.2.2.qs oz hq) (fun q hq=>s5.2.2.qs oz hq) (by have:=s4.1.le;omega) (by have:=s5.1.le;omega)) ?_;refine gD ?_;refine gs (gU (.tmp rfl) (.const _) oz (show _=((2^i:Nat):Int) by rw[iY oz,ia,iF]) rfl) ?_;refine gt (aR (Em 900 rfl _ (2^i) (by have:=s1.1.le;have:=s3.1.le;rw[fT];omega) oz) (b8 rfl rfl) aT rfl rfl) ?_;refine gs (gU (.tmp rfl) (.const _) oz (show _=((2^i:Nat):Int) by rw[iY oz,ia,iF]) rfl) ?_;refine gc (vL _ (2^i) (by have:=s4.1.le;have:=s5.1.le;rw[fT];omega) oz) ?_;refine gs (tR (.tmp rfl) rfl (by have:=s1.1.le;have:=s3.1.le;rw[anl,fg (by rw[fT];omega)]) (.tmp rfl) T53 rfl T106 rfl rfl (by have:=s4.1.le;have:=s5.1.le;rw[anl,fg (by rw[fT];omega)];show(2^i+2^i)*56<=140737488355328;omega) rfl rfl) ?_;refine ai ?_;rw[Rs,<- aoc];rfl
theorem Su(ts:LL)(m r:Nat)(ht:kR ts m r)(hm:m<=5)(R:List AV)(hR:∀j,j<m->R[j]?=some (nA (ts.getD j [])))(i n:Nat)(a:List Rat)(e:Nat)(hi:i+1<=m)(ia:n=2^(i+1))(bQ:a.length=2^(i+1))(ca:Cb e a)(hs:4*e+3*eB r i+r+1<4398046511104) :
  FP 341 [.agg [.lst 1 R],nA a,i64 n] (nA (uy ts i a)):=by
 have j8:=aku i;have rv:2^i<=32:=cK (b:=5) oz;have eT:2^(i+1)=2*2^i:=by rw[ajq];omega
 have n1:Nl i (a.take (2^i)):=.inr ⟨i,anp _,iX bQ⟩;have n2:Nl i (a.drop (2^i)):=.inr ⟨i,anp _,jk bQ⟩;have nd:=ht.1 i oz;have cd:=ht.2.cb i;have s1:=od hm ht (k:=i) (show i<=m by omega) oz n1 n1 ca.take ca.take;have s2:=od hm ht (k:=i) (show i<=m by omega) oz n2 n2 ca.drop ca.drop;have s3:=od hm ht (k:=i) (show i<=m by omega) oz s2.1 nd s2.2.2 cd;have w1:=vL a n oz oz;rw[show a7 a n=a by unfold a7;rw[ia,bQ];simp]at w1;have pw:=yF n oz;rw[show oQ n=i+1 by rw[ia];exact(qO oz).1,show oH n=true by rw[ia];exact(qO oz).2]at pw;refine am func341 ?_;refine gc w1 ?_;refine gc pw ?_;refine gs (gU (.tmp rfl) (.const _) oz (show _=((2^i:Nat):Int) by rw[iY oz,ia,iF]) rfl) ?_;refine gs (dS (.tmp rfl) (.none _) (.some _ (.tmp rfl) oz) T53 rfl T106 rfl oz (by simp only[anl];omega) rfl) ?_;refine gs (gU (.tmp rfl) (.const _) oz (show _=((2^i:Nat):Int) by rw[iY oz,ia,iF]) rfl) ?_;refine gs (dS (.tmp rfl) (.some _ (.tmp rfl) oz) (.none _) T53 rfl T106 rfl (by simp only[anl];omega) oz rfl) ?_;refine gD ?_ (4,0);refine gW (Wk.of (sl:=[pP 3 (.ptr 3 0),pP 7 (i64 ((i+1:Nat):Int)),pP 9 (nA (a.take (2^i))),pP 10 (nA (a.drop (2^i)))]) (hp:=[pP 3 (.box [.lst 1 R])]) (.k (.k (.cons rfl (.of (pH a (2^i))) (.cons rfl (.of (ra a (2^i))) .nil)))) (.k .nil)) ?_;refine gc (B7 ts m r ht hm R hR i i _ _ e e oz oz n1 n1 ca.take ca.take oz) ?_;refine gc (B7 ts m r ht hm R hR i i _ _ e e oz oz n2 n2 ca.drop ca.drop oz) ?_;refine ga (show _=(i:Int) by rw[fc oz];omega) ?_;refine gi (hR i oz) ?_;refine gc (B7 ts m r ht hm R hR i i _ _ _ _ oz oz s2.1 nd s2.2.2 cd oz) ?_;refine gc (DV _ (fun q hq=>s3.2.2.qs oz hq) (by have:=s3.1.le;omega)) ?_;refine gc (wd _ _ (fun q hq=>s1.2.2.qs oz hq) (fun q hq=>s3.2.2.minus.qs oz hq) (by have:=s1.1.le;omega) (by have:=s3.1.le;rw[kP];omega)) ?_;refine gD ?_;refine ai ?_;rfl
theorem Gm(ts:LL)(m r:Nat)(ht:kR ts m r)(hm:m<=5)(jB:∀j,j<m->0<=T.sgn (az ts) j (az ts j))(R:List AV)(hR:∀j,j<m->R[j]?=some (nA (ts.getD j [])))(j:Nat):∀(a:List Rat)(e:Nat),j<=m->Nl j a->Cb e a->sB r j e<4398046511104 ->
  FP 216 [.agg [.lst 1 R],nA a] (i64 (T.sgn (az ts) j (af j a))):=by
 induction j using Nat.strongRecOn
 rename_i j ih;intro a e hj ha ca hs;have Rr:=tp r j e;obtain⟨s,nE⟩:∃s,s=sh j (af j a):=⟨_,rfl⟩
 have pi:af j s=af j a:=by rw[nE,bn]
 have pj:Nl j s:=by rw[nE];exact ek j _
 have cs:Cb e s:=by rw[nE];exact ca.sh ha
 have hls:=pj.len5 oz;rw[<- pi];refine am func216 ?_;refine gc (nE▸wV a oz ha) ?_;refine gl ?_;refine gC (fun z=>?_) (fun z=>?_)
 ·have h1:s=[]:=ak0.1 (by have:=z;simp only[aa,beq_iff_eq]at this;omega);refine ai ?_;rw[h1,jX,T.sgn_zero];rfl
 have h1:s.length≠0:=by have:=z;simp only[aa,beq_eq_false_iff_ne,ne_eq]at this;omega
 refine gl ?_;refine gC (fun z=>?_) (fun z=>?_)
 ·have h2:s.length=1:=by have:=z; simp only [aa,beq_iff_eq] at this; omega
  obtain⟨q,rfl⟩:=alm.1 h2;refine gi rfl ?_;refine gc (AR (rt q) (cs.qs oz (by simp:q∈[q])).ok) ?_;refine ai ?_;rw[pO,T.sgn_ofQ,b7]
 have h2:s.length≠1:=by have:=z;simp only[aa,beq_eq_false_iff_ne,ne_eq]at this;omega
 obtain⟨i,dL,dB⟩:∃i,i+1<=j/\s.length=2^(i+1):=by
  rcases tI pj with h |h |h
  ·exact ao5 h h1
  ·exact ao5 h h2
  ·exact h
 have j8:=aku i;have rv:2^i<=32:=cK (b:=5) oz;have eT:2^(i+1)=2*2^i:=by rw[ajq];omega
 have n1:Nl i (s.take (2^i)):=.inr ⟨i,anp _,iX dB⟩;have n2:Nl i (s.drop (2^i)):=.inr ⟨i,anp _,jk dB⟩;have nd:=ht.1 i oz;have cd:=ht.2.cb i;obtain⟨nn,dn,cn⟩:=XO hm ht oz dB cs;have b1:sB r i (4*e+3*eB r i+r+1)<=sB r j e:=xW r e dL;have b2:sB r i e<=sB r i (4*e+3*eB r i+r+1):=ux r i oz;have b3:sB r i r<=sB r i (4*e+3*eB r i+r+1):=ux r i oz;have b4:=tp r i (4*e+3*eB r i+r+1);have k1:=ih i oz (s.take (2^i)) e oz n1 cs.take oz;have k2:=ih i oz (s.drop (2^i)) e oz n2 cs.drop oz;have k3:=ih i oz _ r oz nd cd oz;have k4:=ih i oz _ _ oz nn cn oz
 have v3:T.sgn (az ts) i (af i (ts.getD i []))=0\/T.sgn (az ts) i (af i (ts.getD i []))=1:=by
  have h9:0<=T.sgn (az ts) i (af i (ts.getD i [])):=jB i oz;have:=T.sgn_cases (az ts) i (af i (ts.getD i []));omega
 have mr:T.sgn (az ts) j (af j s)=T.sgn3 (T.sgn (az ts) i (af i (s.take (2^i)))) (T.sgn (az ts) i (af i (s.drop (2^i)))) (T.sgn (az ts) i (af i (ts.getD i []))) (T.sgn (az ts) i (af i (uy ts i s))):=by
  rw[xt _ oz dL,dn];rfl
 rw[Zx v3]at mr;have v1:=T.sgn_cases (az ts) i (af i (s.take (2^i)));have v2:=T.sgn_cases (az ts) i (af i (s.drop (2^i)));have v4:=T.sgn_cases (az ts) i (af i (uy ts i s));have pw:=yF s.length oz;rw[show oQ s.length=i+1 by rw[dB];exact(qO oz).1,show oH s.length=true by rw[dB];exact(qO oz).2]at pw;refine gc pw ?_;refine ga (show _=(i:Int) by rw[fc oz];omega) ?_;refine gi (hR i oz) ?_;refine gs (gU (.tmp rfl) (.const _) oz (show _=((2^i:Nat):Int) by rw[iY oz,dB,iF]) rfl) ?_;refine gs (dS (.tmp rfl) (.none _) (.some _ (.tmp rfl) oz) T53 rfl T106 rfl oz (by simp only[anl];omega) rfl) ?_;refine gc (by have h9:=k1;rw[<- pH]at h9;exact h9) ?_;refine gs (gU (.tmp rfl) (.const _) oz (show _=((2^i:Nat):Int) by rw[iY oz,dB,iF]) rfl) ?_;refine gs (dS (.tmp rfl) (.some _ (.tmp rfl) oz) (.none _) T53 rfl T106 rfl (by simp only[anl];omega) oz rfl) ?_;refine gc (by have h9:=k2;rw[<- ra]at h9;exact h9) ?_;refine gc k3 ?_;refine ga (EL v2 (.inr v3)) ?_;refine gD ?_;refine gC (fun z=>?_) (fun z=>?_)
 ·have e2:=FB z;refine ai ?_;rw[mr,aoz e2]
 have e2:=G6 z;refine gC (fun z=>?_) (fun z=>?_)
 ·have e3:T.sgn (az ts) i (af i (s.take (2 ^ i)))=0:=by simpa[aa] using z
  refine ai ?_;rw[mr,aoy e2,aoz e3];rfl
 have e3:¬T.sgn (az ts) i (af i (s.take (2^i)))=0:=by simpa[aa]using z
 refine gc (Su ts m r ht hm R hR i s.length s e oz dB dB cs oz) ?_;refine gc k4 ?_;refine ga (EL v1 v4) ?_;refine gD ?_;refine ai ?_;rw[mr,aoy e2,aoy e3];rfl
theorem ML(rs:List (List Rt))(r:Nat)(h:TR rs r):FP 107 [cJ rs] (i64 (bB rs)):=by
 have kI:=h.ll;have hr:=h.le;refine am func107 ?_;refine gl ?_;refine gC (fun z=>?_) (fun z=>?_)
 ·have h5:5<rs.length:=by have:=z; simp only [aa,ao0] at this; omega
  refine ai ?_;rw[MT h5];rfl
 have h5:rs.length<=5:=by have:=z;simp only[aa,decide_eq_false_iff_not]at this;omega
 refine gl ?_;refine aY [1,11,12] [1] (fun(k:Nat)=>[pP 13 (i64 k)]) (fun _=>[]) (fun k=>k<=rs.length/\∀j,j<k->lg rs j) (fun k=>rs.length-k) 0 ⟨ans _,fun j hj=>by omega⟩ ?_;rintro k ⟨hk,hj⟩ K1 J1;refine gC (fun z=>?_) (fun z=>?_)
 ·have ah:k<rs.length:=by simpa[aa] using z
  obtain⟨d,hd⟩:=aB ah;have uN:=ank hd;have pu:=h.len d uN;refine gi (aL hd) ?_;refine gl ?_;refine gs (jD (.const _) (.tmp rfl) oz (r8 oz) rfl) ?_;refine gC (fun z=>?_) (fun z=>?_)
  ·have h1:d.length≠2 ^ k:=by have:=z; simp only [aa,bne_iff_ne,ne_eq] at this; omega
   refine ai ?_;rw[Jw h5 hd hj h1];rfl
  have h1:d.length=2^k:=by have:=z;simp only[aa,bne_eq_false_iff_eq]at this;omega
  have Dw:=Kw k oz d (h.ok d uN) pu;refine gc Dw ?_;refine gC (fun z=>?_) (fun z=>?_)
  ·have h2:=jI z;refine ai ?_;rw[Nt h5 hd hj h1 h2]
  have h2:=jp z;have pc:=M4 (ts:=llq rs) (fun j hO=>(hj j hO).nl) h.rb;have hq:=AW h2 (h.ok d uN);have Ab:Cb r (lq d):=by have:=h.rb.cb k;rw[x3,anm,hd]at this;exact this
  have lI:FP 216 [cJ rs,nR d] (i64 (T.sgn (az (llq rs)) k (af k (lq d)))):=by
   have h9:=Gm ((llq rs).take k) k r pc oz (fun j hO=>by rw[T.sgn_congr j (fun i hi=>Bk (show i<k by omega)),Bk hO];exact(hj j hO).2.2) (rs.map nR) (fun j hO=>X1 h.ok (show k<=rs.length by omega) hj hO) k (lq d) r (anp _) hq.2 Ab (rH (anp k) (by have:=h.three;omega) hr (by have:=oT k;omega));rw[T.sgn_congr k (fun j hO=>Bk hO)]at h9;rw[hq.1,eL];rw[<- hq.1];exact h9
  refine gc lI ?_;refine gC (fun z=>?_) (fun z=>?_)
  ·have h3:T.sgn (az (llq rs)) k (af k (lq d))<0:=by simpa[aa] using z
   refine ai ?_;rw[PO h5 hd hj h1 h2 h3];rfl
  have h3:¬T.sgn (az (llq rs)) k (af k (lq d))<0:=by simpa[aa]using z
  refine ga aU ?_;exact aS J1 (k+1) ⟨ah,fun j hO=>by rcases anu j k with h9 |h9;exact hj j h9;(have:j=k:=by omega);subst this;exact MV hd h1 h2 h3⟩
 have ah:k=rs.length:=by have:rs.length<=k:=(by simpa[aa]using z);omega
 subst ah;refine ai ?_;rw[KZ h5 hj];rfl
theorem u9(rs:List (List Rt))(r:Nat)(h:TR rs r)(xs:List (List Rt))(hx:∀a∈xs,(∀x∈a,x.ok)/\a.length<=281474976710656)(hl:xs.length<=281474976710656):FP 217 [cJ rs,.lst 1 (xs.map nR)] (i64 (bc rs xs)):=by
 refine am func217 ?_;refine gc (ML rs r h) ?_;refine gC (fun z=>?_) (fun z=>?_)
 ·have h1:=jI z;refine ai ?_;rw[C5 h1]
 have h1:=jp z;have h5:rs.length<=5:=by have:=(dg h h1).1.five;rwa [anl]at this
 refine gl ?_;refine aY [2,14,15] [2] (fun(i:Nat)=>[pP 16 (i64 i)]) (fun _=>[]) (fun i=>i<=xs.length/\∀x∈xs.take i,cA rs.length x=0) (fun i=>xs.length-i) 0 ⟨ans _,fun x hx=>by simp at hx⟩ ?_;rintro i ⟨hi,hj⟩ K1 J1;refine gC (fun z=>?_) (fun z=>?_)
 ·have ah:i<xs.length:=by simpa[aa] using z
  obtain⟨a,ha⟩:=aB ah;have ci:=hx a (ank ha);refine gi (aL ha) ?_;refine gl ?_;refine gc (Kw rs.length h5 a ci.1 ci.2) ?_;refine gC (fun z=>?_) (fun z=>?_)
  ·have h2:=jI z;refine ai ?_;rw[yW h1 ha hj h2]
  have h2:=jp z;refine ga aU ?_;exact aS J1 (i+1) ⟨ah,fun x hx=>by rw[dR ha]at hx;rcases anz.1 hx with h9 |h9;exact hj x h9;(rw[alr.1 h9];exact h2)⟩
 have ah:i=xs.length:=by have:xs.length<=i:=(by simpa[aa]using z);omega
 subst ah;rw[an3]at hj;refine ai ?_;rw[rK h1 hj];rfl
theorem aam(rs:List (List Rt))(r:Nat)(h:TR rs r)(a b:List Rt)(e f:Nat)(ha:NR a e)(hb:NR b f)(he:e+f<=lm rs.length) :
  FP 359 [cJ rs,nR a,nR b] (.tup [nA (if bc rs [a,b]=0 then sh rs.length (T.add rs.length (af rs.length (lq a)) (af rs.length (lq b)))else[]),i64 (bc rs [a,b])]):=by
 have dW:=jA rs.length;refine am func359 ?_;refine gc (u9 rs r h [a,b] (sL ha hb) (by simp)) ?_;refine gC (fun z=>?_) (fun z=>?_) (st2:=(77777,0))
 ·have h1:=jI z;refine gR ?_;exact fa (by rw[aoy h1];exact Sub.tup (.cons (.nil _ _ _) (.cons (.refl _) .nil)))
 have h1:=jp z;obtain⟨h2,h3⟩:=l9 h1;obtain⟨tw,e0⟩:=dg h h2;obtain⟨e1,na⟩:=ha.num (h3 a (by simp));obtain⟨e2,nb⟩:=hb.num (h3 b (by simp));have h5:rs.length<=5:=by have:=tw.five;rwa [anl]at this
 have lH:=na.len5 h5;have dU:=nb.len5 h5;have qa:∀q∈lq a,Qs q:=fun q hq=>ha.cb.qs oz hq
 have qb:∀q∈lq b,Qs q:=fun q hq=>hb.cb.qs oz hq
 have qp:∀q∈cQ (lq a) (lq b),Qs q:=fun q hq=>(ha.cb.plus hb.cb).qs oz hq
 have np:=rI na nb;refine gW (Wk.of (sl:=[pP 1 (nA (lq a)),pP 2 (nA (lq b)),pP 3 (.ptr 3 0),pP 8 (i64 (bc rs [a,b]))]) (hp:=[pP 3 (.box [.lst 1 (rs.map nR)])]) (.cons rfl (.of e1) (.cons rfl (.of e2) (.k (.k .nil)))) (.k .nil)) ?_;refine gc (wd _ _ qa qb oz oz) ?_;refine gc (wV _ h5 np) ?_;refine bO ?_;rw[aoz h1,h1,kU];rfl
theorem aab(rs:List (List Rt))(r:Nat)(h:TR rs r)(a b:List Rt)(e f:Nat)(ha:NR a e)(hb:NR b f)(he:e+f<=lm rs.length) :
  FP 252 [cJ rs,nR a,nR b] (.tup [nA (if bc rs [a,b]=0 then sh rs.length (T.add rs.length (af rs.length (lq a)) (T.neg rs.length (af rs.length (lq b))))else[]),i64 (bc rs [a,b])]):=by
 have dW:=jA rs.length;refine am func252 ?_;refine gc (u9 rs r h [a,b] (sL ha hb) (by simp)) ?_;refine gC (fun z=>?_) (fun z=>?_) (st2:=(77777,0))
 ·have h1:=jI z;refine gR ?_;exact fa (by rw[aoy h1];exact Sub.tup (.cons (.nil _ _ _) (.cons (.refl _) .nil)))
 have h1:=jp z;obtain⟨h2,h3⟩:=l9 h1;obtain⟨tw,e0⟩:=dg h h2;obtain⟨e1,na⟩:=ha.num (h3 a (by simp));obtain⟨e2,nb⟩:=hb.num (h3 b (by simp));have h5:rs.length<=5:=by have:=tw.five;rwa [anl]at this
 have lH:=na.len5 h5;have dU:=nb.len5 h5;have qa:∀q∈lq a,Qs q:=fun q hq=>ha.cb.qs oz hq
 have qb:∀q∈lq b,Qs q:=fun q hq=>hb.cb.qs oz hq
 have qm:∀q∈dq (lq b),Qs q:=fun q hq=>hb.cb.minus.qs oz hq
 have qp:∀q∈cQ (lq a) (dq (lq b)),Qs q:=fun q hq=>(ha.cb.plus hb.cb.minus).qs oz hq
 have np:=rI na (un nb);refine gW (Wk.of (sl:=[pP 1 (nA (lq a)),pP 2 (nA (lq b)),pP 3 (.ptr 3 0),pP 8 (i64 (bc rs [a,b]))]) (hp:=[pP 3 (.box [.lst 1 (rs.map nR)])]) (.cons rfl (.of e1) (.cons rfl (.of e2) (.k (.k .nil)))) (.k .nil)) ?_;refine gc (DV _ qb oz) ?_;refine gc (wd _ _ qa qm oz (by rw[kP];omega)) ?_;refine gc (wV _ h5 np) ?_;refine bO ?_;rw[aoz h1,h1,kU,q9];rfl
theorem aar(rs:List (List Rt))(r:Nat)(h:TR rs r)(a b:List Rt)(e f:Nat)(ha:NR a e)(hb:NR b f)(he:e+f<=lm rs.length) :
  FP 360 [cJ rs,nR a,nR b] (.tup [nA (if bc rs [a,b]=0 then sh rs.length (T.mul (az (llq rs)) rs.length (af rs.length (lq a)) (af rs.length (lq b)))else[]),i64 (bc rs [a,b])]):=by
 have hr:=h.le;have dW:=jA rs.length;refine am func360 ?_;refine gc (u9 rs r h [a,b] (sL ha hb) (by simp)) ?_;refine gC (fun z=>?_) (fun z=>?_) (st2:=(77777,0))
 ·have h1:=jI z;refine gR ?_;exact fa (by rw[aoy h1];exact Sub.tup (.cons (.nil _ _ _) (.cons (.refl _) .nil)))
 have h1:=jp z;obtain⟨h2,h3⟩:=l9 h1;obtain⟨tw,e0⟩:=dg h h2;obtain⟨e1,na⟩:=ha.num (h3 a (by simp));obtain⟨e2,nb⟩:=hb.num (h3 b (by simp));have bK:(llq rs).length=rs.length:=anl _;have h5:rs.length<=5:=by have:=tw.five;omega
 have lH:=na.len5 h5;have dU:=nb.len5 h5;have j9:=tw.ok;rw[bK]at j9;have hE:=LB r h5;have np:=od h5 j9 (k:=rs.length) (anp rs.length) (anp _) na nb ha.cb hb.cb;have dp:=B7 (llq rs) rs.length r j9 h5 ((llq rs).map nA) (fun j hj=>vF oz) rs.length rs.length _ _ e f (anp _) (anp _) na nb ha.cb hb.cb oz;refine gW (Wk.of (sl:=[pP 1 (nA (lq a)),pP 2 (nA (lq b)),pP 3 (.ptr 3 0),pP 8 (i64 (bc rs [a,b]))]) (hp:=[pP 3 (.box [.lst 1 ((llq rs).map nA)])]) (.cons rfl (.of e1) (.cons rfl (.of e2) (.k (.k .nil)))) (.cons rfl (BlkSub.bL (.cons (.of (oV e0)) .nil) rfl) .nil)) ?_;refine gc dp ?_;refine gc (wV _ h5 np.1) ?_;refine bO ?_;rw[aoz h1,h1,np.2.1];rfl
theorem WF(rs:List (List Rt))(r:Nat)(h:TR rs r)(a b:List Rt)(e f:Nat)(ha:NR a e)(hb:NR b f)(he:e+f+1<=lm rs.length) :
  FP 136 [cJ rs,nR a,nR b] (.tup [i64 (if bc rs [a,b]=0 then T.sgn (az (llq rs)) rs.length (T.add rs.length (af rs.length (lq a)) (T.neg rs.length (af rs.length (lq b))))else 0),i64 (bc rs [a,b])]):=by
 have hr:=h.le;have dW:=jA rs.length;refine am func136 ?_;refine gc (u9 rs r h [a,b] (sL ha hb) (by simp)) ?_;refine gC (fun z=>?_) (fun z=>?_) (st2:=(77777,0))
 ·have h1:=jI z;refine bO ?_;rw[aoy h1];rfl
 have h1:=jp z;obtain⟨h2,h3⟩:=l9 h1;obtain⟨tw,e0⟩:=dg h h2;obtain⟨e1,na⟩:=ha.num (h3 a (by simp));obtain⟨e2,nb⟩:=hb.num (h3 b (by simp));have bK:(llq rs).length=rs.length:=anl _;have h5:rs.length<=5:=by have:=tw.five;omega
 have lH:=na.len5 h5;have dU:=nb.len5 h5;have j9:=tw.ok;rw[bK]at j9;have qa:∀q∈lq a,Qs q:=fun q hq=>ha.cb.qs oz hq
 have qb:∀q∈lq b,Qs q:=fun q hq=>hb.cb.qs oz hq
 have qm:∀q∈dq (lq b),Qs q:=fun q hq=>hb.cb.minus.qs oz hq
 have np:=rI na (un nb);have lI:=Gm (llq rs) rs.length r j9 h5 (fun j hj=>tw.pos j oz) ((llq rs).map nA) (fun j hj=>vF oz) rs.length _ _ (anp _) np (ha.cb.plus hb.cb.minus) (rH (anp rs.length) (by have:=tw.three;omega) hr oz);refine gW (Wk.of (sl:=[pP 1 (nA (lq a)),pP 2 (nA (lq b)),pP 3 (.ptr 3 0),pP 8 (i64 (bc rs [a,b]))]) (hp:=[pP 3 (.box [.lst 1 ((llq rs).map nA)])]) (.cons rfl (.of e1) (.cons rfl (.of e2) (.k (.k .nil)))) (.cons rfl (BlkSub.bL (.cons (.of (oV e0)) .nil) rfl) .nil)) ?_;refine gc (DV _ qb oz) ?_;refine gc (wd _ _ qa qm oz (by rw[kP];omega)) ?_;refine gc lI ?_;refine gD ?_;refine bO ?_;rw[aoz h1,h1,kU,q9];rfl
theorem Wr(rs:List (List Rt))(r:Nat)(h:TR rs r)(a:List Rt)(e:Nat)(ha:NR a e)(he:e<=lm rs.length) :
  FP 109 [cJ rs,nR a] (.tup [i64 (if bc rs [a]=0 then T.sgn (az (llq rs)) rs.length (af rs.length (lq a))else 0),i64 (bc rs [a])]):=by
 have hr:=h.le;have dW:=jA rs.length;refine am func109 ?_;refine gc (u9 rs r h [a] (fun x hx=>by rw[alr.1 hx];exact⟨ha.ok,ha.len⟩) (by simp)) ?_;refine gC (fun z=>?_) (fun z=>?_) (st2:=(77777,0))
 ·have h1:=jI z;refine bO ?_;rw[aoy h1];rfl
 have h1:=jp z;obtain⟨h2,h3⟩:=l9 h1;obtain⟨tw,e0⟩:=dg h h2;obtain⟨e1,na⟩:=ha.num (h3 a (by simp));have bK:(llq rs).length=rs.length:=anl _;have h5:rs.length<=5:=by have:=tw.five;omega
 have j9:=tw.ok;rw[bK]at j9;have lI:=Gm (llq rs) rs.length r j9 h5 (fun j hj=>tw.pos j oz) ((llq rs).map nA) (fun j hj=>vF oz) rs.length _ _ (anp _) na ha.cb (rH (anp rs.length) (by have:=tw.three;omega) hr oz);refine gW (Wk.of (sl:=[pP 1 (nA (lq a)),pP 2 (.ptr 2 0),pP 6 (i64 (bc rs [a]))]) (hp:=[pP 2 (.box [.lst 1 ((llq rs).map nA)])]) (.cons rfl (.of e1) (.k (.k .nil))) (.cons rfl (BlkSub.bL (.cons (.of (oV e0)) .nil) rfl) .nil)) ?_;refine gc lI ?_;refine bO ?_;rw[aoz h1,h1];rfl
theorem Uq(rs:List (List Rt))(r:Nat)(h:TR rs r)(a:List Rt)(e:Nat)(ha:NR a e)(he:e<=lm rs.length) :
  FP 108 [cJ rs,nR a] (.tup [nA (if bc rs [a]=0 then a7 (lq a) (2^rs.length)else[]),i64 (bc rs [a])]):=by
 have dW:=jA rs.length;refine am func108 ?_;refine gc (u9 rs r h [a] (fun x hx=>by rw[alr.1 hx];exact⟨ha.ok,ha.len⟩) (by simp)) ?_;refine gC (fun z=>?_) (fun z=>?_) (st2:=(77777,0))
 ·have h1:=jI z;refine gR ?_;exact fa (by rw[aoy h1];exact Sub.tup (.cons (.nil _ _ _) (.cons (.refl _) .nil)))
 have h1:=jp z;obtain⟨h2,h3⟩:=l9 h1;obtain⟨tw,e0⟩:=dg h h2;obtain⟨e1,na⟩:=ha.num (h3 a (by simp));have bK:(llq rs).length=rs.length:=anl _;have h5:rs.length<=5:=by have:=tw.five;omega
 have hp5:2^rs.length<=32:=cK (b:=5) h5;refine gW (Wk.of (sl:=[pP 1 (nA (lq a)),pP 2 (.ptr 2 0),pP 6 (i64 (bc rs [a]))]) (hp:=[pP 2 (.box [.lst 1 (rs.map nR)])]) (.cons rfl (.of e1) (.k (.k .nil))) (.k .nil)) ?_;refine gl ?_;refine gs (jD (.const _) (.tmp rfl) oz (r8 oz) rfl) ?_;refine gc (vL _ _ na.le oz) ?_;refine bO ?_;rw[aoz h1,h1];rfl
theorem Hx(x:Rt)(hx:x.ok)(hs:Qs x.q):FP 66 [x.av] (nA (sh 0 (x.q:Rat))):=by
 have gL:=Bs x (rt 0) hx Qs.zero.ok;rw[yv]at gL;refine am func66 ?_;refine gc (AR x hx) ?_;refine gC (fun z=>?_) (fun z=>?_)
 ·have h0:x.q=0:=pR (by simpa[aa]using z);refine gR ?_;exact kX (by rw[h0];exact Sub.nil _ _ _)
 have h0:x.q≠0:=fun h=>by rw[h]at z;cases z
 refine gc (Con.sA (.cons (.refl _) (.cons kA .nil)) gL) ?_;refine ai ?_;have:sh 0 (x.q:Rat)=[x.q]:=aoy h0;rw[this];rfl
theorem GG{p q:Rat}(hp:Qs p)(hq:Qs q):FP 172 [qA p,qA q] (qA (p+q)):=by
 have h:=tW (rt p) (rt q) hp.ok hq.ok;rw[b7,b7]at h;exact h
theorem Ch{p q:Rat}(hp:Qs p)(hq:Qs q):FP 330 [qA p,qA q] (qA (p-q)):=by
 have h:=Ud (rt p) (rt q) hp.ok hq.ok;rw[b7,b7]at h;exact h
theorem zN{p q:Rat}(hp:Qs p)(hq:Qs q):FP 337 [qA p,qA q] (qA (p*q)):=by
 have h:=Qa (rt p) (rt q) hp.ok hq.ok;rw[b7,b7]at h;exact h
theorem agk{p q:Rat}(hp:Qs p)(hq:Qs q):FP 361 [qA p,qA q] (.tup [qA (p/q),bU (if q=0 then 8 else 0)]):=by
 have h:=KF (rt p) (rt q) hp.ok hq.ok;rw[b7,b7]at h;exact h
theorem YL{p:Rat}(hp:Qs p):FP 179 [qA p] (i64 (b9 p)):=by
 have h:=AX (rt p) hp.ok;rw[b7]at h;exact h
theorem Gs{p q:Rat}(hp:Qs p)(hq:Qs q):FP 157 [qA p,qA q] (qA (p+q)):=by
 have h:=Bs (rt p) (rt q) hp.ok hq.ok;rw[b7,b7]at h;exact h
theorem Uk{p q:Rat}(hp:Qs p)(hq:Qs q):FP 160 [qA p,qA q] (qA (p-q)):=by
 have h:=JI (rt p) (rt q) hp.ok hq.ok;rw[b7,b7]at h;exact h
theorem Ko{p q:Rat}(hp:Qs p)(hq:Qs q):FP 158 [qA p,qA q] (qA (p*q)):=by
 have h:=JC (rt p) (rt q) hp.ok hq.ok;rw[b7,b7]at h;exact h
theorem R9{p q:Rat}(hp:Qs p)(hq:Qs q):FP 287 [qA p,qA q] (.tup [qA (p/q),i64 (if q=0 then 8 else 0)]):=by
 have h:=Si (rt p) (rt q) hp.ok hq.ok;rw[b7,b7]at h;exact h
theorem Ec(x:Tn)(hx:x.t.ok):FP 84 [x.av] (bU x.err):=by
 refine am func84 ?_;refine gc (xw x.t hx) ?_;refine cm (fun _=>(AX x.t hx)) ?_;refine gC (fun z=>?_) (fun z=>?_)
 ·have h0:=Tn.err_yes z;refine ai ?_;rw[h0];rfl
 have h0:=Tn.err_no z;refine ai ?_;rw[h0];rfl
theorem NP{p q:Rat}(hp:Qs p)(hq:Qs q):FP 448 [qA p,qA q] (qA (p/q)):=by
 refine am func448 ?_;refine gc (agk hp hq) ?_;refine gC (fun t14=>?_) (fun t14=>?_)
 ·have h0:q=0:=by
   have:=et t14
   by_cases h:q=0
   ·exact h
   ·rw[aoy h]at this;exact ao5 rfl this
  refine gR ?_;exact kX (by rw[h0,Tc];exact kA)
 refine ai ?_;rfl
theorem JN(half:Bool){t:Rat}{e:Nat}(ht:Qb e t)(he:e<=1000000):FP 400 [Tn.av ⟨rt t,half⟩] (.tup [qA (d8 half t),qA (d6 half t)]):=by
 have qt:Qs t:=ht.qs oz;have m2:=ht.mul ht;have one:Qb 1 (((1:Int):Rat)):=Qb.one;have d:=one.add m2;refine am func400 ?_;refine gC (fun z=>?_) (fun z=>?_)
 ·have h0:half=true:=z;refine gc (sR (-1) oz) ?_;refine gR ?_;exact fa (by subst h0;exact Sub.tup (.cons (.refl _) (.cons kA .nil)))
 have h0:half=false:=z;refine gc (sR 1 oz) ?_;refine gc (zN qt qt) ?_;refine gD ?_;refine gc (GG (one.qs oz) (m2.qs oz)) ?_;refine gc (Ch (one.qs oz) (m2.qs oz)) ?_;refine gc (NP ((one.sub m2).qs oz) (d.qs oz)) ?_;refine gc (GG qt qt) ?_;refine gc (NP ((ht.add ht).qs oz) (d.qs oz)) ?_;refine gD ?_;refine bO ?_;subst h0;rfl
theorem LK(x:Tn)(hx:x.t.ok){e:Nat}(hq:Qb e x.t.q)(he:e<=1000000):FP 314 [x.av] (.tup [qA (if x.err=0 then d8 x.half x.t.q else 0),bU x.err]):=by
 refine am func314 ?_;refine gc (Ec x hx) ?_;refine gC (fun z=>?_) (fun z=>?_)
 ·have h1:=et z;refine gR ?_;exact fa (by rw[aoy h1];exact Sub.tup (.cons kA (.cons (.refl _) .nil)))
 have h1:=d7 z;have hd:=JN x.half hq he;rw[<- Rt.eq_rt hx (Tn.ok_valid h1)]at hd;refine gc hd ?_;refine bO ?_;rw[aoz h1,h1];rfl
theorem acq(x:Tn)(hx:x.t.ok){e:Nat}(hq:Qb e x.t.q)(he:e<=1000000):FP 315 [x.av] (.tup [qA (if x.err=0 then d6 x.half x.t.q else 0),bU x.err]):=by
 refine am func315 ?_;refine gc (Ec x hx) ?_;refine gC (fun z=>?_) (fun z=>?_)
 ·have h1:=et z;refine gR ?_;exact fa (by rw[aoy h1];exact Sub.tup (.cons kA (.cons (.refl _) .nil)))
 have h1:=d7 z;have hd:=JN x.half hq he;rw[<- Rt.eq_rt hx (Tn.ok_valid h1)]at hd;refine gc hd ?_;refine bO ?_;rw[aoz h1,h1];rfl
theorem EI:FP 161 [] (qA 1):=by
 refine am func161 ?_;refine gc (ut 1 oz) ?_;refine ai ?_
 first |rfl |(simp;done)
theorem Qg{p q:Rat}(hp:Qs p)(hq:Qs q):FP 159 [qA p,qA q] (qA (p/q)):=by
 refine am func159 ?_;refine gc (R9 hp hq) ?_;refine ai ?_
 first |rfl |(simp;done)
theorem aeh(half:Bool){t:Rat}{e:Nat}(ht:Qb e t)(he:e<=1000000):FP 67 [Tn.av ⟨rt t,half⟩] (qA (d8 half t)):=by
 have qt:Qs t:=ht.qs oz;have m2:=ht.mul ht;have d:=Qb.one.add m2;refine am func67 ?_;refine gC (fun z=>?_) (fun z=>?_)
 ·have h0:half=true:=z;refine gc (ut (-1) oz) ?_;refine ai ?_;subst h0;rfl
 have h0:half=false:=z;refine gc (Ko qt qt) ?_;refine gc EI ?_;refine gc (Uk (Qb.one.qs oz) (m2.qs oz)) ?_;refine gc EI ?_;refine gc (Gs (Qb.one.qs oz) (m2.qs oz)) ?_;refine gc (Qg ((Qb.one.sub m2).qs oz) (d.qs oz)) ?_;refine gD ?_;refine ai ?_;subst h0;rfl
theorem Vb(half:Bool){t:Rat}{e:Nat}(ht:Qb e t)(he:e<=1000000):FP 68 [Tn.av ⟨rt t,half⟩] (qA (d6 half t)):=by
 have qt:Qs t:=ht.qs oz;have m2:=ht.mul ht;have d:=Qb.one.add m2;refine am func68 ?_;refine gC (fun z=>?_) (fun z=>?_)
 ·have h0:half=true:=z;refine gR ?_;exact kX (by subst h0;exact kA)
 have h0:half=false:=z;refine gc (Gs qt qt) ?_;refine gc EI ?_;refine gc (Ko qt qt) ?_;refine gc (Gs (Qb.one.qs oz) (m2.qs oz)) ?_;refine gc (Qg ((ht.add ht).qs oz) (d.qs oz)) ?_;refine gD ?_;refine ai ?_;subst h0;rfl
theorem afj(a:Rt)(ha:a.ok):FP 272 [a.av] (bl (decide (a.q=0))):=by
 refine am func272 ?_;refine gc (AR a ha) ?_;refine ai ?_;exact ao6 bl (Ka a.q)
theorem Ye(x:Tn)(hx:x.t.ok):FP 144 [x.av] (bl (decide (x.err=0))):=by
 refine am func144 ?_;refine gc (tP x.t hx) ?_;refine cm (fun _=>(afj x.t hx)) ?_;refine ai ?_;exact ao6 bl (Tn.err_dec x)
theorem ahb(p:Plc)(hx:p.x.ok)(hy:p.y.ok):FP 145 [p.av] (bl (p.x.valid&&p.y.valid)):=by
 refine am func145 ?_;refine gc (tP p.x hx) ?_;refine cm (fun _=>(tP p.y hy)) ?_;refine ai ?_;exact ao6 bl (jw _ _)
theorem Zw(p:Pse)(ht:p.turn.t.ok)(hx:p.at_.x.ok)(hy:p.at_.y.ok):FP 58 [p.av] (bl p.ok):=by
 refine am func58 ?_;refine gc (Ye p.turn ht) ?_;refine cm (fun _=>(ahb p.at_ hx hy)) ?_;refine ai ?_;exact ao6 bl ((jw _ _).trans (Bool.and_assoc _ _ _).symm)
theorem Hz{ts:LL}{r e f:Nat}(tw:Tw ts r){a b:List Rat}(ha:Nm ts.length e a)(hb:Nm ts.length f b)(he:e+f<=lm ts.length) :
  FP 250 [aZ ts,nA a,nA b] (.tup [nA (sh ts.length (T.add ts.length (af ts.length a) (af ts.length b))),.v .nilIface]):=by
 have h:=Xa (ts.map (List.map rt)) r tw.tr (a.map rt) (b.map rt) e f (ha.rt oz) (hb.rt oz) (by rw[anl];exact he);have h0:bc (ts.map (List.map rt)) [a.map rt,b.map rt]=0:=rQ tw ha hb;rw[h0,aoz rfl,ko,eL,eL,dO,dO,anl]at h;exact h
theorem tF{ts:LL}{r e f:Nat}(tw:Tw ts r){a b:List Rat}(ha:Nm ts.length e a)(hb:Nm ts.length f b)(he:e+f<=lm ts.length) :
  FP 209 [aZ ts,nA a,nA b] (.tup [nA (sh ts.length (T.add ts.length (af ts.length a) (T.neg ts.length (af ts.length b)))),.v .nilIface]):=by
 have h:=SL (ts.map (List.map rt)) r tw.tr (a.map rt) (b.map rt) e f (ha.rt oz) (hb.rt oz) (by rw[anl];exact he);have h0:bc (ts.map (List.map rt)) [a.map rt,b.map rt]=0:=rQ tw ha hb;rw[h0,aoz rfl,ko,eL,eL,dO,dO,anl]at h;exact h
theorem FI{ts:LL}{r e f:Nat}(tw:Tw ts r){a b:List Rat}(ha:Nm ts.length e a)(hb:Nm ts.length f b)(he:e+f<=lm ts.length) :
  FP 210 [aZ ts,nA a,nA b] (.tup [nA (sh ts.length (T.mul (az ts) ts.length (af ts.length a) (af ts.length b))),.v .nilIface]):=by
 have h:=Xy (ts.map (List.map rt)) r tw.tr (a.map rt) (b.map rt) e f (ha.rt oz) (hb.rt oz) (by rw[anl];exact he);have h0:bc (ts.map (List.map rt)) [a.map rt,b.map rt]=0:=rQ tw ha hb;rw[h0,aoz rfl,ko,eL,eL,rG,dO,dO,anl]at h;exact h
theorem KV{ts:LL}{r e:Nat}(tw:Tw ts r){a:List Rat}(ha:Nm ts.length e a)(he:e<=lm ts.length) :
  FP 87 [aZ ts,nA a] (.tup [i64 (T.sgn (az ts) ts.length (af ts.length a)),.v .nilIface]):=by
 have h:=ag3 (ts.map (List.map rt)) r tw.tr (a.map rt) e (ha.rt he) (by rw[anl];exact he);have h0:bc (ts.map (List.map rt)) [a.map rt]=0:=BN tw ha;rw[h0,aoz rfl,ko,eL,rG,dO,anl]at h;exact h
theorem agi{ts:LL}{r e f:Nat}(tw:Tw ts r){a b:List Rat}(ha:Nm ts.length e a)(hb:Nm ts.length f b)(he:e+f<=lm ts.length) :
  FP 359 [aZ ts,nA a,nA b] (.tup [nA (sh ts.length (T.add ts.length (af ts.length a) (af ts.length b))),i64 0]):=by
 have h:=aam (ts.map (List.map rt)) r tw.tr (a.map rt) (b.map rt) e f (ha.rt oz) (hb.rt oz) (by rw[anl];exact he);have h0:bc (ts.map (List.map rt)) [a.map rt,b.map rt]=0:=rQ tw ha hb;rw[h0,aoz rfl,ko,eL,eL,dO,dO,anl]at h;exact h
theorem ahl{ts:LL}{r e f:Nat}(tw:Tw ts r){a b:List Rat}(ha:Nm ts.length e a)(hb:Nm ts.length f b)(he:e+f<=lm ts.length) :
  FP 252 [aZ ts,nA a,nA b] (.tup [nA (sh ts.length (T.add ts.length (af ts.length a) (T.neg ts.length (af ts.length b)))),i64 0]):=by
 have h:=aab (ts.map (List.map rt)) r tw.tr (a.map rt) (b.map rt) e f (ha.rt oz) (hb.rt oz) (by rw[anl];exact he);have h0:bc (ts.map (List.map rt)) [a.map rt,b.map rt]=0:=rQ tw ha hb;rw[h0,aoz rfl,ko,eL,eL,dO,dO,anl]at h;exact h
theorem acd{ts:LL}{r e f:Nat}(tw:Tw ts r){a b:List Rat}(ha:Nm ts.length e a)(hb:Nm ts.length f b)(he:e+f<=lm ts.length) :
  FP 360 [aZ ts,nA a,nA b] (.tup [nA (sh ts.length (T.mul (az ts) ts.length (af ts.length a) (af ts.length b))),i64 0]):=by
 have h:=aar (ts.map (List.map rt)) r tw.tr (a.map rt) (b.map rt) e f (ha.rt oz) (hb.rt oz) (by rw[anl];exact he);have h0:bc (ts.map (List.map rt)) [a.map rt,b.map rt]=0:=rQ tw ha hb;rw[h0,aoz rfl,ko,eL,eL,rG,dO,dO,anl]at h;exact h
theorem af6{ts:LL}{r e f:Nat}(tw:Tw ts r){a b:List Rat}(ha:Nm ts.length e a)(hb:Nm ts.length f b)(he:e+f+1<=lm ts.length) :
  FP 136 [aZ ts,nA a,nA b] (.tup [i64 (T.sgn (az ts) ts.length (T.add ts.length (af ts.length a) (T.neg ts.length (af ts.length b)))),i64 0]):=by
 have h:=WF (ts.map (List.map rt)) r tw.tr (a.map rt) (b.map rt) e f (ha.rt oz) (hb.rt oz) (by rw[anl];exact he);have h0:bc (ts.map (List.map rt)) [a.map rt,b.map rt]=0:=rQ tw ha hb;rw[h0,aoz rfl,ko,eL,eL,rG,dO,dO,anl]at h;exact h
theorem aaj{ts:LL}{r e:Nat}(tw:Tw ts r){a:List Rat}(ha:Nm ts.length e a)(he:e<=lm ts.length) :
  FP 109 [aZ ts,nA a] (.tup [i64 (T.sgn (az ts) ts.length (af ts.length a)),i64 0]):=by
 have h:=Wr (ts.map (List.map rt)) r tw.tr (a.map rt) e (ha.rt he) (by rw[anl];exact he);have h0:bc (ts.map (List.map rt)) [a.map rt]=0:=BN tw ha;rw[h0,aoz rfl,ko,eL,rG,dO,anl]at h;exact h
theorem Fg{ts:LL}{r e:Nat}(tw:Tw ts r){a:List Rat}(ha:Nm ts.length e a)(he:e<=lm ts.length) :
  FP 128 [aZ ts,nA a] (.tup [nA (sh ts.length (T.neg ts.length (af ts.length a))),.v .nilIface]):=by
 have h:=Ho (ts.map (List.map rt)) r tw.tr (a.map rt) e (ha.rt he) (by rw[anl];exact he);have h0:bc (ts.map (List.map rt)) [a.map rt]=0:=BN tw ha;rw[h0,aoz rfl,ko,eL,dO,anl]at h;exact h
theorem Se{ts:LL}{r:Nat}(tw:Tw ts r):FP 138 [aZ ts] (.v .nilIface):=by
 have h:=tZ (ts.map (List.map rt)) r tw.tr;rw[tw.chk,ko]at h;exact h
theorem tt{q:Rat}(h:Qs q):FP 115 [qA q] (nA (sh 0 (q:Rat))):=by
 have h1:=GT (rt q) h.ok (by rw[b7];exact h);rw[b7]at h1;exact h1
theorem yT{q:Rat}(h:Qs q):FP 66 [qA q] (nA (sh 0 (q:Rat))):=by
 have h1:=Hx (rt q) h.ok (by rw[b7];exact h);rw[b7]at h1;exact h1
theorem Bl{ts:LL}{r e:Nat}(tw:Tw ts r)(ls:LL)(hl:∀l∈ls,Nm ts.length e l)(he:e<=lm ts.length)(hn:ls.length<=1000):FP 264 [aZ ts,.lst 1 (ls.map nA)] (.v .nilIface):=by
 refine am func264 ?_;refine gc (Se tw) ?_;refine gf ?_;refine gl ?_;refine aY [2,15,16] [2] (fun(i:Nat)=>[pP 17 (i64 i)]) (fun _=>[]) (fun i=>i<=ls.length) (fun i=>ls.length-i) 0 (ans _) ?_;rintro i hi K1 J1;refine gC (fun z=>?_) (fun z=>?_)
 ·have ah:i<ls.length:=by simpa[aa] using z
  obtain⟨l,kI⟩:=aB ah;have ci:=hl l (ank kI);refine gi (aL kI) ?_;refine gc (Fg tw ci he) ?_;refine gf ?_;refine ga aU ?_;exact aS J1 (i+1) ah
 have ah:i=ls.length:=by have:ls.length<=i:=(by simpa[aa]using z);omega
 refine ai ?_
 first |rfl |(simp;done)
theorem yd{ts:LL}{r e:Nat}(tw:Tw ts r)(ps:List (List Rat×List Rat))(hl:∀p∈ps,Nm ts.length e p.1/\Nm ts.length e p.2)(he:e<=lm ts.length)(hn:ps.length<=500):FP 204 [aZ ts,.lst 2 (ps.map fun p=>aP p.1 p.2)] (.v .nilIface):=by
 refine am func204 ?_;refine gl ?_;refine gW (Wk.virt 900 1 rfl) ?_;refine aY [2,8,9] [2] (fun(i:Nat)=>[pP 5 (.ms 900 1 0 (2*i)),pP 10 (i64 i)]) (fun i=>[pP 900 (.row 1 ((ma (ps.take i)).map nA))]) (fun i=>i<=ps.length) (fun i=>ps.length-i) 0 (ans _) ?_;rintro i hi K1 J1;refine gC (fun z=>?_) (fun z=>?_) (st2:=(7,0))
 ·have ah:i<ps.length:=by simpa[aa] using z
  obtain⟨p,hp⟩:=aB ah;have Dh:(ma (ps.take i)).length=2*i:=by rw[AI,an6];omega
  refine gi (aL hp) ?_;refine gs (cZ (.tmp rfl) rfl (by rw[anl,Dh]) (.tmp rfl) T42 rfl T53 rfl rfl (by simp;omega) rfl rfl) ?_ (6,0);refine gW (Wk.of (sl:=[pP 2 (.ptr 2 0),pP 5 (.ms 20 1 0 (2*i+2)),pP 8 (.lst 2 (ps.map fun p=>aP p.1 p.2)),pP 9 (i64 ps.length),pP 10 (i64 i)]) (hp:=[pP 2 (.box [.lst 1 (ts.map nA)]),pP 20 (.row 1 ((ma (ps.take (i+1))).map nA))]) bg (.k (.cons rfl (.of (by rw[dR hp,M2,aoc];rfl)) .nil))) ?_ (6,0);refine gW (Wk.rk (k:=20) (d:=900) rfl rfl) ?_;refine ga aU ?_;exact aS J1 (i+1) ah
 have ah:i=ps.length:=by have:ps.length<=i:=(by simpa[aa]using z);omega
 subst ah;refine gW ((Wk.freeze (k:=900) rfl).trans<|Wk.of (sl:=[pP 2 (.ptr 2 0),pP 5 (.lst 1 ((ma ps).map nA))]) (hp:=[pP 2 (.box [.lst 1 (ts.map nA)])]) (.k (.cons rfl (.of (by rw[cz (by rw[anl,AI,an6];omega),an3])) .nil)) (.k .nil)) ?_;refine gc (Bl tw (ma ps) (NG hl) he (by rw[AI];omega)) ?_;refine ai ?_
 first |rfl |(simp;done)
theorem EZ(R:List AV)(a:List Rat):Con prog 413 [.ptr 1000 0,nA a,.v .nilIface] [pP 1000 (.box [.lst 1 R,.v .nilIface])] (nA a) [pP 1000 (.box [.lst 1 R,.v .nilIface])]:=by
 refine gF func413 (fun k z h=>bW h) ?_;refine gC (fun y=>?_) (fun y=>?_) (st2:=(77777,0))
 ·refine gR ?_;exact aD.keep (bH rfl)
 cases y
theorem AJ{ts:LL}{r e f:Nat}(tw:Tw ts r){a b:List Rat}(ha:Nm ts.length e a)(hb:Nm ts.length f b)(he:e+f<=lm ts.length) :
  Con prog 336 [.ptr 1000 0,nA a,nA b] [pP 1000 (kp ts)] (nA (sh ts.length (T.add ts.length (af ts.length a) (af ts.length b)))) [pP 1000 (kp ts)]:=by
 refine gF func336 (fun k z h=>bW h) ?_;refine gc (Hz tw ha hb he) ?_;refine gt (aR (EZ _ _) (aV rfl rfl rfl) aT rfl rfl) ?_;refine gR ?_;exact aD.keep (bH rfl)
theorem BF{ts:LL}{r e f:Nat}(tw:Tw ts r){a b:List Rat}(ha:Nm ts.length e a)(hb:Nm ts.length f b)(he:e+f<=lm ts.length) :
  Con prog 331 [.ptr 1000 0,nA a,nA b] [pP 1000 (kp ts)] (nA (sh ts.length (T.add ts.length (af ts.length a) (T.neg ts.length (af ts.length b))))) [pP 1000 (kp ts)]:=by
 refine gF func331 (fun k z h=>bW h) ?_;refine gc (tF tw ha hb he) ?_;refine gt (aR (EZ _ _) (aV rfl rfl rfl) aT rfl rfl) ?_;refine gR ?_;exact aD.keep (bH rfl)
theorem p9{ts:LL}{r e f:Nat}(tw:Tw ts r){a b:List Rat}(ha:Nm ts.length e a)(hb:Nm ts.length f b)(he:e+f<=lm ts.length) :
  Con prog 333 [.ptr 1000 0,nA a,nA b] [pP 1000 (kp ts)] (nA (sh ts.length (T.mul (az ts) ts.length (af ts.length a) (af ts.length b)))) [pP 1000 (kp ts)]:=by
 refine gF func333 (fun k z h=>bW h) ?_;refine gc (FI tw ha hb he) ?_;refine gt (aR (EZ _ _) (aV rfl rfl rfl) aT rfl rfl) ?_;refine gR ?_;exact aD.keep (bH rfl)
theorem Ng{ts:LL}{r e f:Nat}(tw:Tw ts r){a b c d:List Rat}(ha:Nm ts.length e a)(hb:Nm ts.length e b)(hc:Nm ts.length f c)(hd:Nm ts.length f d)(he:2*(e+f+kB r ts.length)<=lm ts.length) :
  Con prog 211 [.ptr 1000 0,aP a b,aP c d] [pP 1000 (kp ts)] (nA (sh ts.length (vE ts (af ts.length a) (af ts.length b) (af ts.length c) (af ts.length d)))) [pP 1000 (kp ts)]:=by
 refine gF func211 (fun k z h=>bW h) ?_;refine gt (aR (p9 tw ha hc oz) (aV rfl rfl rfl) aT rfl rfl) ?_;refine gt (aR (p9 tw hb hd oz) (aV rfl rfl rfl) aT rfl rfl) ?_;refine gt (aR (C1▸AJ tw (ha.mul tw rfl hc) (hb.mul tw rfl hd) oz) (aV rfl rfl rfl) aT rfl rfl) ?_;refine gD ?_;refine gR ?_;exact aD.keep (bH rfl)
theorem ZE{ts:LL}{r e f:Nat}(tw:Tw ts r){a b c d:List Rat}(ha:Nm ts.length e a)(hb:Nm ts.length e b)(hc:Nm ts.length f c)(hd:Nm ts.length f d)(he:2*(e+f+kB r ts.length)<=lm ts.length) :
  Con prog 208 [.ptr 1000 0,aP a b,aP c d] [pP 1000 (kp ts)] (nA (sh ts.length (q5 ts (af ts.length a) (af ts.length b) (af ts.length c) (af ts.length d)))) [pP 1000 (kp ts)]:=by
 refine gF func208 (fun k z h=>bW h) ?_;refine gt (aR (p9 tw ha hd oz) (aV rfl rfl rfl) aT rfl rfl) ?_;refine gt (aR (p9 tw hb hc oz) (aV rfl rfl rfl) aT rfl rfl) ?_;refine gt (aR (x4▸BF tw (ha.mul tw rfl hd) (hb.mul tw rfl hc) oz) (aV rfl rfl rfl) aT rfl rfl) ?_;refine gD ?_;refine gR ?_;exact aD.keep (bH rfl)
def T.inv(r:(k:Nat)->T k):(k:Nat)->T k->T k
  |0,q=>(1:Rat)/q
  |k+1,x =>
    if T.isZ k x.2=true then(T.inv r k x.1,T.zero k)
    else if T.sgn r k (T.norm r k x)=0 then(T.inv r k (T.add k x.1 x.1),T.zero k)
    else(T.mul r k x.1 (T.inv r k (T.norm r k x)),T.mul r k (T.neg k x.2) (T.inv r k (T.norm r k x)))
theorem T.inv_low(r:(k:Nat)->T k)(k:Nat)(x:T k):T.inv r (k+1) (x,T.zero k)=(T.inv r k x,T.zero k):=by
 have h:=(T.isZ_iff k (T.zero k)).2 rfl
 conv=>lhs;unfold T.inv
 simp only[aoz h]
theorem BU(r:(k:Nat)->T k){i j:Nat}{s L:List Rat}(hs:s.length<=2^i)(hL:L.length<=2^i)(h:af i L=T.inv r i (af i s))(dL:i<=j):af j L=T.inv r j (af j s):=by
  induction j with
  | zero => have : i = 0 := by omega
            subst this;exact h
  |succ j ih =>
    by_cases h':i=j+1
    · rw[<- h'];exact h
    · rw[jy (an4 hs (cK oz)),jy (an4 hL (cK oz)),T.inv_low,ih oz]
def iB(r:Nat):Nat->Nat->Nat
  |0,e=>e
  |j+1,e=>e+iB r j (4*e+3*eB r j+r+1)+eB r (j+1)
theorem E7(r:Nat):∀j e,e<=iB r j e
 |0,e=>anp _
 |j+1,e=>by simp only[iB];omega
theorem CF(r:Nat):∀j {e f:Nat},e<=f->iB r j e<=iB r j f
 |0,e,f,h=>h
 |j+1,e,f,h=>by
  have:=CF r j (e:=4*e+3*eB r j+r+1) (f:=4*f+3*eB r j+r+1) oz;simp only[iB];omega
theorem XA(r j e:Nat):iB r j e<=iB r (j+1) e:=by
 have:=CF r j (e:=e) (f:=4*e+3*eB r j+r+1) oz;simp only[iB];omega
theorem Hr(r e:Nat){i j:Nat}(h:i<=j):iB r i e<=iB r j e:=by
  induction j with
  | zero => have : i = 0 := by omega
            subst this;exact anp _
  |succ j ih =>
    by_cases dL:i=j+1
    · rw[dL];exact anp _
    · exact an4 (ih oz) (XA r j e)
theorem SM(r e:Nat){j:Nat}(h:j<=1):iB r j e<=5*e+2*eB r j:=by
 match j,h with
 |0,_=>simp only[iB,eB];omega
 |1,_=>simp only[iB,eB];omega
theorem J0{r:(k:Nat)->T k}{n:Nat}(h:Sg (E r n) (sg r n))(hd:0<=sg r n (bY r n)){x y:E r n}(hz:sg r (n+1) (cc x y)≠0)(hN:sg r n (a6 x y)=0):sg r n (x+x)≠0:=by
 have hx:sg r n x≠0:=by
  intro hx;rw[oD,hN,hx]at hz;have h1:sg r n (x*x)=0:=by rw[h.mul,hx];simp
  have h2:=h.zadd (y:=-(y*y*bY r n)) h1;unfold a6 at hN;rw[h2,h.neg,h.mul,h.mul]at hN;unfold T.sgn3 at hz;have c1:=h.cs y;have c2:=h.cs (bY r n);rcases c1 with e |e |e <;> rcases c2 with e' |e' |e' <;> rw[e,e']at hN <;> rw[e,e']at hz <;> first |omega |(simp at hz) |(simp at hN)
 rcases h.cs x with e |e |e
 ·have:=h.padd (x:=-x) (y:=-x) (by rw[h.neg,e];rfl) (by rw[h.neg,e];decide);rw[show -x+-x=-(x+x) by grind,h.neg]at this;omega
 ·exact ao5 e hx
 ·have:=h.padd (x:=x) (y:=x) e oz;omega
theorem Cb.inv1{e:Nat}{q:Rat}(h:Cb e [q])(hq:q≠0):Cb e [(1:Rat)/q]:=by
 obtain⟨D,N,⟨h0,h1⟩,h2,h3⟩:=h;obtain⟨n,hn,hl⟩:=h1 q (by simp)
 have hD:((D:Int):Rat)≠0:=by
  intro h9;have:(D:Int)=0:=amk.1 h9;omega
 have mv:n≠0:=by
  rintro rfl;rw[show((0:Int):Rat)=0 from rfl]at hn;rcases Rat.mul_eq_zero.1 hn with h9 |h9
  ·exact hq h9
  ·exact hD h9
 have hnq:((n:Int):Rat)≠0:=fun h9=>mv (amk.1 h9)
 refine⟨n.natAbs,D,⟨by omega,?_⟩,an4 hl h3,h2⟩;intro x hx;rw[alr.1 hx];have key:(1:Rat)/q*(n:Rat)=((D:Int):Rat):=by rw[<- hn];grind
 rcases Int.natAbs_eq n with e9 |e9
 ·refine⟨D,?_,by simp⟩;rw[<- e9];exact key
 ·refine ⟨-(D:Int),?_,by simp⟩;rw[Rat.intCast_neg,<- key]
  conv=>rhs;rw[e9]
  rw[Rat.intCast_neg];grind
theorem NL{e n:Nat}{s:List Rat}(h:Cb e s):Cb e (gV (s.take n) (dq (s.drop n)) n):=by
 obtain⟨D,N,h1,h2,h3⟩:=h;exact⟨D,N,(h1.sub (fun q hq=>aot hq)).join (h1.sub (fun q hq=>alw hq)).minus,h2,h3⟩
theorem IX:∀{j i:Nat}{x:T j},(sh j x).length=2^(i+1)->i+1<=j->T.isZ i (af i ((sh j x).drop (2^i)))=false
 |0,i,x,_,h=>by omega
 |j+1,i,x,hl,h=>by
  cases hz:T.isZ j x.2
  ·have h1:=Yo hz;rw[h1]at hl
   have e:i=j:=by
    rcases Nat.lt_trichotomy i j with h9 |h9 |h9
    ·have:=akh (a:=2) oz (show i+1<j+1 by omega);omega
    ·exact h9
    ·omega
   subst e;have h2:af (i+1) (sh (i+1) x)=x:=bn (i+1) x;have h3:af i ((sh (i+1) x).drop (2^i))=x.2:=ao6 Prod.snd h2;rw[h3];exact hz
  ·have h1:sh (j+1) x=sh j x.1:=by
    conv=>lhs;unfold sh
    rw[aoz hz]
   rw[h1]at hl ⊢;have h2:=(ek j x.1).le
   have h3:i+1<=j:=by
    rcases anu j (i+1)with h9 |h9
    ·have:=akh (a:=2) oz h9;omega
    ·exact h9
   exact IX hl h3
theorem LO(r:(k:Nat)->T k){i:Nat}{x:T (i+1)}(hz:T.isZ i x.2=false)(h0:T.sgn r i (T.norm r i x)=0):T.inv r (i+1) x=(T.inv r i (T.add i x.1 x.1),T.zero i):=by
 conv=>lhs;unfold T.inv
 rw[aoy (by rw[hz];decide),aoz h0]
theorem Lb(r:(k:Nat)->T k){i:Nat}{x:T (i+1)}(hz:T.isZ i x.2=false)(h0:T.sgn r i (T.norm r i x)≠0) :
  T.inv r (i+1) x=(T.mul r i x.1 (T.inv r i (T.norm r i x)),T.mul r i (T.neg i x.2) (T.inv r i (T.norm r i x))):=by
 conv=>lhs;unfold T.inv
 rw[aoy (by rw[hz];decide),aoy h0]
theorem mul_low(r:(k:Nat)->T k)(i:Nat)(x y w:T i):T.mul r (i+1) (x,y) (w,T.zero i)=(T.mul r i x w,T.mul r i y w):=by
 show(T.add i (T.mul r i x w) (T.mul r i (T.mul r i y (T.zero i)) (r i)),T.add i (T.mul r i x (T.zero i)) (T.mul r i y w))=_;rw[T.mul_zero,T.zero_mul,T.mul_zero,T.add_zero,T.zero_add]
theorem DX{n e:Nat}{l:List Rat}(h:Nm n e l)(he:e<=4398046511103):NR (l.map rt) e:=by
 refine⟨?_,by have:=h.nl.len5 h.five;rw[anl];omega,by rw[dO];exact h.cb⟩;intro x hx;obtain⟨q,hq,rfl⟩:=al0.1 hx;exact(h.cb.qs oz hq).ok
theorem X3{ts:LL}{j e:Nat}{a:List Rat}{q:Rat}(h5:j<=5)(ha:Nl j a)(ca:Cb e a)(he:e<4398046511104)(hs:sh j (af j a)=[q])(hq:q≠0) :
  FP 257 [aZ ts,nA a] (nA [1/q]):=by
 have qa:∀q∈a,Qs q:=fun q hq=>ca.qs he hq
 have cs:=ca.sh ha;rw[hs]at cs;have qq:Qs q:=cs.qs he (by simp);have lF:=qi a h5 ha qa;rw[hs]at lF;have Ru:=KF (rt 1) (rt q) (Qb.one.qs oz).ok qq.ok;rw[b7,b7,aoy hq]at Ru;refine am func257 ?_;refine gc lF ?_;refine gl ?_;refine gC (fun z=>?_) (fun z=>?_) (st2:=(77777,0))
 ·refine gc (sR 1 oz) ?_;refine gi rfl ?_;refine gc Ru ?_;refine gD ?_;refine ai ?_;rfl
 cases z
theorem Sc{ts:LL}{m r:Nat}(ht:kR ts m r)(hm:m<=5)(fP:m<=ts.length){j e i:Nat}{a s L:List Rat}(h5:j<=5)(ha:Nl j a)(ca:Cb e a)(he:4*e+3*eB r i+r+1<4398046511104)(hs:sh j (af j a)=s)(hi:i+1<=m)
  (dB:s.length=2^(i+1)) (hb:sB r i (4*e+3*eB r i+r+1)<4398046511104) (h0:T.sgn (az ts) i (af i (lw ts i s))=0)
  (hL:FP 257 [aZ ts,nA (cQ (s.take (2^i)) (s.take (2^i)))] (nA L)):FP 257 [aZ ts,nA a] (nA L):=by
 have qa:∀q∈a,Qs q:=fun q hq=>ca.qs oz hq
 have cs:=ca.sh ha;have lF:=qi a h5 ha qa;rw[hs]at cs lF;have j8:=aku i;have rv:2^i<=32:=cK (b:=5) oz;have eT:2^(i+1)=2*2^i:=by rw[ajq];omega
 obtain⟨nn,dn,cn⟩:=CG ht oz dB cs;have k4:=we ts m r ht hm fP i _ _ oz nn cn hb;have qs:∀q∈s.take (2^i),Qs q:=fun q hq=>cs.take.qs oz hq
 refine am func257 ?_;refine gc lF ?_;refine gl ?_;refine gC (fun z=>?_) (fun z=>?_) (st1:=(3,0));exact ao5 z (by simp only[aa,beq_iff_eq];omega);refine gl ?_;refine gs (gU (.tmp rfl) (.const _) oz (show _=((2^i:Nat):Int) by rw[iY oz,dB,iF]) rfl) ?_;refine gc (El ts m r ht hm fP i s e oz dB cs oz) ?_;refine gc k4 ?_;refine gC (fun z=>?_) (fun z=>?_) (st2:=(77777,0))
 ·refine gs (dS (.tmp rfl) (.none _) (.some _ (.tmp rfl) oz) T53 rfl T106 rfl oz (by simp only[anl];omega) rfl) ?_;refine gs (dS (.tmp rfl) (.none _) (.some _ (.tmp rfl) oz) T53 rfl T106 rfl oz (by simp only[anl];omega) rfl) ?_;refine gc (by have h9:=uW _ _ qs qs (by simp;omega) (by simp;omega);rw[<- pH]at h9;exact h9) ?_;refine gc hL ?_;refine gD ?_;refine ai ?_;rfl
 exact ao5 z (by rw[h0];decide)
theorem Sr{ts:LL}{m r:Nat}(ht:kR ts m r)(hm:m<=5)(fP:m<=ts.length){j e f i:Nat}{a s L:List Rat}(h5:j<=5)(ha:Nl j a)(ca:Cb e a)(he:4*e+3*eB r i+r+1<4398046511104)(hs:sh j (af j a)=s)(hi:i+1<=m)
  (dB:s.length=2^(i+1)) (hb:sB r i (4*e+3*eB r i+r+1)<4398046511104) (h0:T.sgn (az ts) i (af i (lw ts i s))≠0)
  (hL:FP 257 [aZ ts,nA (lw ts i s)] (nA L)) (nL:Nl i L) (cL:Cb f L) (hf:e+f+eB r (i+1)<4398046511104) :
  FP 257 [aZ ts,nA a] (nA (pT ts (i+1) (gV (s.take (2^i)) (dq (s.drop (2^i))) (2^i)) L)):=by
 have qa:∀q∈a,Qs q:=fun q hq=>ca.qs oz hq
 have cs:=ca.sh ha;have lF:=qi a h5 ha qa;rw[hs]at cs lF;have j8:=aku i;have rv:2^i<=32:=cK (b:=5) oz;have eT:2^(i+1)=2*2^i:=by rw[ajq];omega
 obtain⟨nn,dn,cn⟩:=CG ht oz dB cs;have k4:=we ts m r ht hm fP i _ _ oz nn cn hb;have qy:∀q∈s.drop (2^i),Qs q:=fun q hq=>cs.drop.qs oz hq
 have lx:(s.take (2^i)).length=2^i:=iX dB;have ly:(s.drop (2^i)).length=2^i:=jk dB;have nj:Nl (i+1) (gV (s.take (2^i)) (dq (s.drop (2^i))) (2^i)):=.inr ⟨i+1,anp _,by rw[uo oz (by rw[kP];omega)];omega⟩;have cj:Cb e (gV (s.take (2^i)) (dq (s.drop (2^i))) (2^i)):=NL cs;have dp:=wS ts m r ht hm fP (i+1) (i+1) _ _ e f hi (anp _) nj (nL.mono oz) cj cL hf;refine am func257 ?_;refine gc lF ?_;refine gl ?_;refine gC (fun z=>?_) (fun z=>?_) (st1:=(3,0));exact ao5 z (by simp only[aa,beq_iff_eq];omega);refine gl ?_;refine gs (gU (.tmp rfl) (.const _) oz (show _=((2^i:Nat):Int) by rw[iY oz,dB,iF]) rfl) ?_;refine gc (El ts m r ht hm fP i s e oz dB cs oz) ?_;refine gc k4 ?_;refine gC (fun z=>?_) (fun z=>?_) (st1:=(8,0));exact ao5 z (by simp only[aa,beq_iff_eq];omega);refine gs (dS (.tmp rfl) (.none _) (.some _ (.tmp rfl) oz) T53 rfl T106 rfl oz (by simp only[anl];omega) rfl) ?_;refine gs (dS (.tmp rfl) (.some _ (.tmp rfl) oz) (.none _) T53 rfl T106 rfl (by simp only[anl];omega) oz rfl) ?_;refine gc (by have h9:=CC _ qy oz;rw[<- ra]at h9;exact h9) ?_;refine gc (by have h9:=E2 (s.take (2^i)) (dq (s.drop (2^i))) (2^i) oz (by rw[kP];omega) oz;rw[<- pH]at h9;exact h9) ?_;refine gc hL ?_;refine gc dp ?_;refine gD ?_;refine ai ?_;rfl
theorem adg{ts:LL}{m r:Nat}(ht:kR ts m r)(hp:ik (az ts) m)(hm:m<=5)(fP:m<=ts.length)(j:Nat):∀(a:List Rat)(e:Nat),j<=m->Nl j a->Cb e a->T.sgn (az ts) j (af j a)≠0 ->
  sB r j e<4398046511104->iB r j e<4398046511104->∃L,FP 257 [aZ ts,nA a] (nA L)/\Nl j L/\Cb (iB r j e) L/\af j L=T.inv (az ts) j (af j a):=by
 induction j using Nat.strongRecOn
 rename_i j ih;intro a e hj ha ca h0 hs hi;have Rr:=tp r j e;have cs:=ca.sh ha;have pj:=ek j (af j a);have pi:=bn j (af j a);have cF:=E7 r j e;obtain⟨s,nE⟩:∃s,sh j (af j a)=s:=⟨_,rfl⟩
 rcases tI pj with h |h |⟨i,dL,h⟩
 ·exfalso;have h1:=ak0.1 h;rw[h1,jX]at pi;rw[<- pi,T.sgn_zero]at h0;exact h0 rfl
 ·obtain⟨q,hq⟩:=alm.1 h;rw[hq,pO] at pi;rw[<- pi,T.sgn_ofQ] at h0;have q0:q≠0:=by rintro rfl; exact h0 rfl
  refine⟨[1/q],X3 oz ha ca oz hq q0,.inr ⟨0,by omega,rfl⟩,(Cb.inv1 (hq▸cs) q0).mono cF,?_⟩;rw[<- pi,<- pO j q];exact BU (az ts) (i:=0) (s:=[q]) (L:=[1/q]) (by simp) (by simp) rfl oz
 ·have hz:=IX h dL;rw[nE] at h cs pi pj hz;obtain⟨nn,dn,cn⟩:=CG ht oz h cs;have dB:s.length<=2 ^ (i+1):=by omega
  have b1:sB r i (4*e+3*eB r i+r+1)<=sB r j e:=xW r e dL;have b2:=tp r i (4*e+3*eB r i+r+1);have b3:iB r (i+1) e<=iB r j e:=Hr r e dL;have b4:iB r (i+1) e=e+iB r i (4*e+3*eB r i+r+1)+eB r (i+1):=rfl;have lx:(s.take (2^i)).length=2^i:=iX h;have ly:(s.drop (2^i)).length=2^i:=jk h;have rv:2^i<=2^(i+1):=akl oz oz;rw[<- pi]at h0 ⊢
  by_cases hN:T.sgn (az ts) i (af i (lw ts i s))=0
  ·have hS:=eG (az ts) i (fun k hk=>hp k oz)
   have hx:T.sgn (az ts) i (af i (cQ (s.take (2^i)) (s.take (2^i))))≠0:=by
    rw[kU];rw[xt (az ts) dB dL]at h0;rw[dn]at hN;exact J0 hS (hp i oz) (x:=af i (s.take (2^i))) (y:=af i (s.drop (2^i))) h0 hN
   have np:Nl i (cQ (s.take (2^i)) (s.take (2^i))):=.inr ⟨i,anp _,by rw[fT];omega⟩;have b5:=ux r i (e:=e+e+1) (f:=4*e+3*eB r i+r+1) oz;have b6:=CF r i (e:=e+e+1) (f:=4*e+3*eB r i+r+1) oz;obtain⟨L,k1,k2,k3,k4⟩:=ih i oz _ _ oz np (cs.take.plus cs.take) hx oz oz;refine⟨L,Sc ht hm fP oz ha ca oz nE oz h oz hN k1,k2.mono oz,k3.mono oz,?_⟩;refine BU (az ts) (i:=i+1) dB (an4 k2.le rv) ?_ dL;rw[LO (az ts) hz (by rw[<- dn];exact hN),jy k2.le,k4,kU];rfl
  ·obtain⟨L,k1,k2,k3,k4⟩:=ih i oz _ _ oz nn cn hN oz oz;have nj:Nl (i+1) (gV (s.take (2^i)) (dq (s.drop (2^i))) (2^i)):=.inr ⟨i+1,anp _,by rw[uo oz (by rw[kP];omega),ajq];omega⟩;have s1:=ju ts m ht.1 (i+1) (i+1) _ _ oz (anp _) nj (k2.mono oz);have c1:=Cb.mul ht (k:=i+1) (show i+1<=m by omega) (anp _) nj (k2.mono oz) (NL cs) k3;refine⟨_,Sr ht hm fP oz ha ca oz nE oz h oz hN k1 k2 k3 oz,s1.1.mono dL,c1.mono oz,?_⟩;refine BU (az ts) (i:=i+1) dB s1.1.le ?_ dL;rw[Lb (az ts) hz (by rw[<- dn];exact hN),s1.2,BI oz,jy k2.le,mul_low,q9,k4,dn];rfl
theorem Uh{ts:LL}{r e f:Nat}(tw:Tw ts r){a b:List Rat}(ha:Nm ts.length e a)(hb:Nm ts.length f b)(he:e<=4398046511103)(hf:f<=4398046511103):FP 192 [aZ ts,.lst 1 [nA a,nA b]] (.v .nilIface):=by
 have nF:=tG (ts.map (List.map rt)) r tw.tr [a.map rt,b.map rt] (sL (DX ha he) (DX hb hf)) (by simp);have rj:bc (ts.map (List.map rt)) [a.map rt,b.map rt]=0:=rQ tw ha hb;rw[rj,ko]at nF;rw[show[nA a,nA b]=[a.map rt,b.map rt].map nR by simp[eL]];exact nF
theorem E5{ts:LL}{r f j:Nat}(tw:Tw ts r){b:List Rat}(hb:Nm ts.length f b)(hj:j<=ts.length)(nb:Nl j b)(h0:T.sgn (az ts) ts.length (af ts.length b)≠0)(hf:f<=lm ts.length)(hi:iB r j f<4398046511104) :
  ∃L,FP 257 [aZ ts,nA b] (nA L)/\Nl ts.length L/\Cb (iB r j f) L/\af ts.length L=T.inv (az ts) ts.length (af ts.length b):=by
 rw[xt (az ts) nb.le hj]at h0;obtain⟨L,k1,k2,k3,k4⟩:=adg tw.ok tw.pos tw.five (anp _) j b f hj nb hb.cb h0 (rH hj tw.three tw.le hf) hi;exact⟨L,k1,k2.mono hj,k3,BU (az ts) nb.le k2.le k4 hj⟩
theorem EX{ts:LL}{r e f j:Nat}(tw:Tw ts r){a b:List Rat}(ha:Nm ts.length e a)(hb:Nm ts.length f b)(hj:j<=ts.length)(nb:Nl j b)(h0:T.sgn (az ts) ts.length (af ts.length b)≠0)(hf:f<=lm ts.length)(he:e+iB r j f+eB r ts.length<=200000000000) :
  FP 350 [aZ ts,nA a,nA b] (.tup [nA (sh ts.length (T.mul (az ts) ts.length (af ts.length a) (T.inv (az ts) ts.length (af ts.length b)))),.v .nilIface]):=by
 have dW:=jA ts.length;have h5:=tw.five;have h3:=tw.three;have hfe:=E7 r j f;have hsB:=rH (anp ts.length) h3 tw.le hf;have lI:=we ts ts.length r tw.ok h5 (anp _) ts.length _ _ (anp _) hb.nl hb.cb hsB;obtain⟨L,k1,k2,k3,k4⟩:=E5 tw hb hj nb h0 hf oz;have dp:=wS ts ts.length r tw.ok h5 (anp _) ts.length ts.length _ _ _ _ (anp _) (anp _) ha.nl k2 ha.cb k3 oz;have s1:=ju ts ts.length tw.ok.1 ts.length ts.length _ _ (anp _) (anp _) ha.nl k2;have c1:=Cb.mul tw.ok (k:=ts.length) (anp _) (anp _) ha.nl k2 ha.cb k3;have lF:=qi _ h5 s1.1 (fun q hq=>c1.qs oz hq);rw[s1.2,k4]at lF;refine am func350 ?_;refine gc (Uh tw ha hb oz oz) ?_;refine gf ?_;refine gc lI ?_;refine gC (fun z=>?_) (fun z=>?_) (st1:=(5,0));exact ao5 z (by simp only[aa,beq_iff_eq];omega);refine gc k1 ?_;refine gc dp ?_;refine gc lF ?_;refine gD ?_;refine bO ?_;rfl
theorem Hy{ts:LL}{r e f j:Nat}(tw:Tw ts r){a b:List Rat}(ha:Nm ts.length e a)(hb:Nm ts.length f b)(hj:j<=ts.length)(nb:Nl j b)(h0:T.sgn (az ts) ts.length (af ts.length b)≠0)(hf:f<=lm ts.length)(he:e+iB r j f+eB r ts.length<=200000000000) :
  Nm ts.length (e+iB r j f+eB r ts.length) (sh ts.length (T.mul (az ts) ts.length (af ts.length a) (T.inv (az ts) ts.length (af ts.length b)))):=by
 obtain⟨L,k1,k2,k3,k4⟩:=E5 tw hb hj nb h0 hf oz;have s1:=ju ts ts.length tw.ok.1 ts.length ts.length _ _ (anp _) (anp _) ha.nl k2;have c1:=Cb.mul tw.ok (k:=ts.length) (anp _) (anp _) ha.nl k2 ha.cb k3;refine⟨tw.five,ek _ _,?_⟩;rw[<- k4,<- s1.2];exact c1.sh s1.1
def cW(k:Nat):List Rat:=(als (2^(k+1)) 0).set (2^k) 1
def aX(ts:LL)(a:List Rat):LL:=ts++[a7 a (2^ts.length)]
theorem aap(k:Nat):BlkSub (.row 3 ((als (2^(k+1)) (.agg [.v (.bool false),nS,nS])).set (2^k) (qA 1))) (.row 3 ((cW k).map qA)):=by
 unfold cW;refine .row ?_ ?_
 ·simp
 ·intro i e e' he he';rw[aou,aoq]at he';rw[List.getElem?_set]at he he';split at he
  ·rename_i h1;rw[aoz h1]at he';split at he
   ·rename_i h2;rw[aon]at h2;rw[aon,aoz h2]at he';cases he;cases he'
    exact oi.refl (EG 1)
   ·cases he
  ·rename_i h1;rw[aoy h1]at he';rw[aoh]at he he';split at he
   ·rename_i h2;rw[aoz h2]at he';cases he;cases he'
    exact qZ
   ·cases he
theorem D5(k:Nat):(cW k).length=2^(k+1):=by simp[cW]
theorem TO{k:Nat}(hk:k<=5):IntKind.i64.wrap ((2:Int)*2^(min (k:Int).toNat IntKind.i64.bits))=((2^(k+1):Nat):Int):=by
 have h:k=0\/k=1\/k=2\/k=3\/k=4\/k=5:=by omega
 rcases h with rfl |rfl |rfl |rfl |rfl |rfl <;> rfl
theorem SV(d:Nat)(hd:aks d 1000=true)(k:Nat)(hk:k<=5):Con prog 439 [i64 k] [] (.ms d 3 0 (2^(k+1))) [(d,some (.row 3 ((cW k).map qA)))]:=by
 have hp:2^(k+1)<=64:=cK (b:=6) oz;have j8:2^k<2^(k+1):=akh oz oz;have xg:=aku k;refine gF func439 (fun k z h=>by cases h) ?_;refine gs (jD (.const _) (.tmp rfl) oz (TO hk) rfl) ?_;refine gs (kq (.tmp rfl) T53 rfl T106 rfl rfl oz (by dsimp only;omega) rfl) ?_;refine gs (jD (.const _) (.tmp rfl) oz (r8 oz) rfl) ?_;refine gc (sR 1 oz) ?_;refine gs (cG (n:=2^k) (.tmp rfl) (.tmp rfl) T53 rfl T106 rfl oz oz rfl) ?_;refine gs (eY (.tmp rfl) rfl (by rw[aoh,aoz oz]) rfl (.tmp rfl) rfl rfl T106 rfl rfl) ?_;refine gD ?_ (3,0);refine gW (Wk.of (sl:=[pP 3 (.ms 6 3 0 (2^(k+1)))]) (hp:=[pP 6 (.row 3 ((cW k).map qA))]) (.cons rfl (.of (ao6 (AV.ms 6 3 0) (aol _))) .nil) (.cons rfl (aap k) .nil)) ?_;refine gR ?_;exact aD.own1 rfl hd rfl
theorem aho(k:Nat)(hk:k<=5):FP 439 [i64 k] (nA (cW k)):=by
 have h:=Con.freeze (by rw[anl,D5];omega) (SV 0 rfl k hk);rw[aov,an1 (by rw[anl,D5];exact anp _)]at h;exact h
theorem WS{ts:LL}{r e:Nat}(tw:Tw ts r){a:List Rat}(ha:Nm ts.length e a)(he:e<=4398046511103):FP 192 [aZ ts,.lst 1 [nA a]] (.v .nilIface):=by
 have hx:=DX ha he;have nF:=tG (ts.map (List.map rt)) r tw.tr [a.map rt] (fun x h=>by rw[alr.1 h];exact⟨hx.ok,hx.len⟩) (by simp);have rj:bc (ts.map (List.map rt)) [a.map rt]=0:=BN tw ha;rw[rj,ko]at nF;rw[show[nA a]=[a.map rt].map nR by simp[eL]];exact nF
theorem Zd{ts:LL}{r e:Nat}(tw:Tw ts r){a:List Rat}(ha:Nm ts.length e a)(he:e<=4398046511103):FP 438 [aZ ts,nA a] (.tup [nA (a7 a (2^ts.length)),.v .nilIface]):=by
 have h5:=tw.five;have hl:=ha.nl.le;have hp:2^ts.length<=32:=cK (b:=5) oz;have qa:∀q∈a,Qs q:=fun q hq=>ha.cb.qs oz hq
 refine am func438 ?_;refine gc (WS tw ha he) ?_;refine gf ?_;refine gc (Eg a qa oz) ?_;refine gl ?_;refine gs (jD (.const _) (.tmp rfl) oz (r8 oz) rfl) ?_;refine gc (GX a (2^ts.length) hl oz) ?_;refine gD ?_;refine bO ?_;rfl
theorem PZ{ts:LL}{r e:Nat}(tw:Tw ts r){a:List Rat}(ha:Nm ts.length e a)(he:e<=lm ts.length)(hs:0<=T.sgn (az ts) ts.length (af ts.length a)) :
  FP 381 [aZ ts,nA a] (.tup [aZ (aX ts a),nA (cW ts.length),.v .nilIface]):=by
 have h3:=tw.three;have h5:=tw.five;have dW:=jA ts.length;have hl:=ha.nl.le;have nw:Nl ts.length (a7 a (2^ts.length)):=.inr ⟨_,anp _,fg hl⟩;have lI:=we ts ts.length r tw.ok h5 (anp _) ts.length _ _ (anp _) nw ha.cb.wide (rH (anp ts.length) h3 tw.le he);rw[rO]at lI;have mw:=tw.rb.qs tw.le;refine am func381 ?_;refine gc (Zd tw ha oz) ?_;refine gf ?_;refine gc lI ?_;refine gC (fun z=>?_) (fun z=>?_) (st1:=(5,0));exact ao5 z (by simp only[aa,ao0];omega);refine gl ?_;refine gC (fun z=>?_) (fun z=>?_) (st1:=(7,0));exact ao5 z (by simp only[aa,ao0];omega);refine gl ?_;refine gW (Wk.virt 900 1 rfl) ?_;refine aY [2,4,7,9,38,39] [2,4] (fun(i:Nat)=>[pP 40 (i64 i)]) (fun i=>[pP 9 (.box [.ms 900 1 0 i]),pP 900 (.row 1 ((ts.take i).map nA))]) (fun i=>i<=ts.length) (fun i=>ts.length-i) 0 (ans _) ?_ (h2:=(.cons rfl (BlkSub.bL (.cons (.nM _ _ _) .nil) rfl) (.k .nil)));rintro i hi K1 J1;refine gC (fun z=>?_) (fun z=>?_)
 ·have ah:=bf z;obtain⟨d,hd⟩:=aB ah
  have pu:d.length<=32:=by
   have h9:=tw.len i ah;rw[aw hd]at h9;have:2^i<=32:=cK (b:=5) oz;omega
  refine gi (aL hd) ?_;refine gc (Eg d (mw d (ank hd)) oz) ?_;refine gs (cZ (.tmp rfl) rfl (by rw[anl,an6];omega) (.tmp rfl) T42 rfl T53 rfl rfl (by simp only[an0,aoa];omega) rfl rfl) ?_;refine gD ?_ (13,0);refine gW (Wk.of (sl:=[pP 2 (.ptr 2 0),pP 4 (.ptr 4 0),pP 7 (nA (a7 a (2^ts.length))),pP 9 (.ptr 9 0),pP 38 (.lst 1 (ts.map nA)),pP 39 (i64 ts.length),pP 40 (i64 i)]) (hp:=[pP 2 (.box [.lst 1 (ts.map nA)]),pP 4 (.box [nS]),pP 9 (.box [.ms 49 1 0 (i+1)]),pP 49 (.row 1 ((ts.take (i+1)).map nA))]) bg (.k (.k (.k (.cons rfl (.of (by rw[dR hd,aoc];rfl)) .nil))))) ?_ (13,0)
  refine gW (Wk.rk (k:=49) (d:=900) rfl rfl) ?_;refine ga aU ?_;exact aS J1 (i+1) ah
 have ah:=bu hi z;subst ah;refine gs (cZ (.tmp rfl) rfl (by rw[anl,an6];omega) (.tmp rfl) T42 rfl T53 rfl rfl (by simp only[an0,aoa];omega) rfl rfl) ?_ (15,0);refine gW ((Wk.freeze (k:=56) rfl).trans<|Wk.of (sl:=[pP 2 (.ptr 2 0),pP 4 (.ptr 4 0),pP 9 (.ptr 9 0)]) (hp:=[pP 2 (.box [.lst 1 (ts.map nA)]),pP 4 (.box [nS]),pP 9 (.box [.lst 1 ((aX ts a).map nA)])]) bg (.k (.k (.cons rfl (BlkSub.bL (.cons (.of (by rw[cz (by simp)];unfold aX;simp)) .nil) rfl) .nil)))) ?_;refine gl ?_;refine gc (aho ts.length oz) ?_;refine gD ?_;refine gE3 ?_;rfl
theorem EY{ts:LL}{r:Nat}(tw:Tw ts r):FP 375 [aZ ts] (aZ ts):=by
 have h3:=tw.three;have mw:=tw.rb.qs tw.le;refine am func375 ?_;refine gl ?_;refine gW (Wk.virt 900 1 rfl) ?_;refine aY [2,3,10,11] [2] (fun(i:Nat)=>[pP 12 (i64 i)]) (fun i=>[pP 3 (.box [.ms 900 1 0 i]),pP 900 (.row 1 ((ts.take i).map nA))]) (fun i=>i<=ts.length) (fun i=>ts.length-i) 0 (ans _) ?_ (h2:=(.cons rfl (BlkSub.bL (.cons (.nM _ _ _) .nil) rfl) (.k .nil)));rintro i hi K1 J1;refine gC (fun z=>?_) (fun z=>?_) (st2:=(13,0))
 ·have ah:=bf z;obtain⟨d,hd⟩:=aB ah
  have pu:d.length<=32:=by
   have h9:=tw.len i ah;rw[aw hd]at h9;have:2^i<=32:=cK (b:=5) oz;omega
  have If:=mw d (ank hd);refine gi (aL hd) ?_;refine gl ?_;refine gW (Wk.virt 901 3 rfl) ?_;refine aY [2,3,10,11,12,16,17] [2,3,900] (fun(j:Nat)=>[pP 6 (.ms 901 3 0 j),pP 18 (i64 j)]) (fun j=>[pP 901 (.row 3 ((d.take j).map qA))]) (fun j=>j<=d.length) (fun j=>d.length-j) 0 (ans _) ?_;rintro j hj K2 J2;refine gC (fun z=>?_) (fun z=>?_) (st2:=(11,0))
  ·have fC:=bf z;obtain⟨q,hq⟩:=aB fC;have gL:=tW (rt q) (rt 0) (If q (ank hq)).ok Qs.zero.ok;rw[yv,b7] at gL;refine gi (aL hq) ?_;refine gc (Con.sA (.cons (.refl _) (.cons kA .nil)) gL) ?_;refine gs (cZ (.tmp rfl) rfl (by rw[anl,an6]; omega) (.tmp rfl) T53 rfl T106 rfl rfl (by simp only [an0,aoa]; omega) rfl rfl) ?_ (10,0);refine gW (Wk.of (sl:=[pP 2 (.ptr 2 0),pP 3 (.ptr 3 0),pP 10 (.lst 1 (ts.map nA)),pP 11 (i64 ts.length),pP 12 (i64 i),pP 6 (.ms 27 3 0 (j+1)),pP 16 (nA d),pP 17 (i64 d.length),pP 18 (i64 j)]) (hp:=[pP 2 (.box [nS]),pP 3 (.box [.ms 900 1 0 i]),pP 900 (.row 1 ((ts.take i).map nA)),pP 27 (.row 3 ((d.take (j+1)).map qA))]) bg (.k (.k (.k (.cons rfl (.of (by rw[dR hq,aoc]; rfl)) .nil))))) ?_ (10,0)
   refine gW (Wk.rk (k:=27) (d:=901) rfl rfl) ?_;refine ga aU ?_;exact aS J2 (j+1) fC
  have fC:=bu hj z;subst fC;refine gW ((Wk.freeze (k:=901) rfl).trans<|Wk.of (sl:=[pP 2 (.ptr 2 0),pP 3 (.ptr 3 0),pP 10 (.lst 1 (ts.map nA)),pP 11 (i64 ts.length),pP 12 (i64 i),pP 6 (nA d)]) (hp:=[pP 2 (.box [nS]),pP 3 (.box [.ms 900 1 0 i]),pP 900 (.row 1 ((ts.take i).map nA))]) (.k (.k (.k (.k (.k (.cons rfl (.of (by rw[cz (by simp)];simp[nA])) .nil)))))) (.k (.k (.k .nil)))) ?_;refine gs (cZ (.tmp rfl) rfl (by rw[anl,an6];omega) (.tmp rfl) T42 rfl T53 rfl rfl (by simp only[an0,aoa];omega) rfl rfl) ?_ (12,0);refine gW (Wk.of (sl:=[pP 2 (.ptr 2 0),pP 3 (.ptr 3 0),pP 10 (.lst 1 (ts.map nA)),pP 11 (i64 ts.length),pP 12 (i64 i)]) (hp:=[pP 2 (.box [nS]),pP 3 (.box [.ms 33 1 0 (i+1)]),pP 33 (.row 1 ((ts.take (i+1)).map nA))]) bg (.k (.k (.cons rfl (.of (by rw[dR hd,aoc];rfl)) .nil)))) ?_ (12,0);refine gW (Wk.rk (k:=33) (d:=900) rfl rfl) ?_;refine ga aU ?_;exact aS J1 (i+1) ah
 have ah:=bu hi z;subst ah;refine gW ((Wk.freeze (k:=900) rfl).trans<|Wk.of (sl:=[pP 2 (.ptr 2 0),pP 3 (.ptr 3 0)]) (hp:=[pP 2 (.box [nS]),pP 3 (.box [.lst 1 (ts.map nA)])]) bg (.k (.cons rfl (BlkSub.bL (.cons (.of (by rw[cz (by simp)];simp)) .nil) rfl) .nil))) ?_;refine ai ?_;rfl
abbrev fx(l:Li)(kw driven:List Bool)(r:List AV):List AV:=l.av.cells++(.lst 1 (kw.map bl) :: .lst 1 (driven.map bl)::r)
theorem ad4(j:Jt)(b:Int):FP 467 [j.av,i64 b] (i64 (nZ j b)):=by
 refine am func467 ?_;refine gC (fun z=>?_) (fun z=>?_)
 ·have h1:b=j.a:=dI z;refine ai ?_;unfold nZ;rw[aoz h1]
 have h1:b≠j.a:=fq z;refine gC (fun z=>?_) (fun z=>?_)
 ·have h2:b=j.b:=dI z;refine ai ?_;unfold nZ;rw[aoy h1,aoz h2]
 have h2:b≠j.b:=fq z;refine ai ?_;unfold nZ;rw[aoy h1,aoy h2];rfl
theorem Sj(j:Jt)(kind body:Int)(f:FuncId)(pre caps:List AV)(p:Int->Bool)(hp:0<=nZ j body->FP f (pre++[i64 (nZ j body)]++caps) (bl (p (nZ j body)))) :
  FP 466 [j.av,.iptr [i64 body],.iptr [i64 kind],.iptr [.cl f pre caps]] (bl (Bw kind body p j)):=by
 refine am func466 ?_;refine gc (ad4 j body) ?_;refine cm (fun h=>(hp (ahx h))) ?_;refine ai ?_;exact ao6 bl af3
theorem aas(bs:List Jt)(hl:bs.length<=281474976710656)(f:FuncId)(pre caps:List AV)(ok:Nat->Bool)
  (hf:∀(i:Nat)(b:Jt),bs[i]?=some b->(∀j,j<i->ok j=true)->FP f (pre++[b.av]++caps) (bl (!ok i))) :
  FP 465 [.lst 7 (bs.map Jt.av),.cl f pre caps] (i64 (sT (fe bs.length ok))):=by
 refine am func465 ?_;refine gl ?_;refine aY [0,1,7] [] (fun(i:Nat)=>[pP 8 (i64 i)]) (fun _=>[]) (fun i=>i<=bs.length/\∀j,j<i->ok j=true) (fun i=>bs.length-i) 0 ⟨ans _,fun j h=>by omega⟩ ?_;rintro i ⟨hi,hj⟩ K1 J1;refine gC (fun z=>?_) (fun z=>?_)
 ·have ah:=bf z;obtain⟨b,hb⟩:=aB ah;refine gi (aL hb) ?_;refine gc (hf i b hb hj) ?_;refine gC (fun z=>?_) (fun z=>?_)
  ·have h2:=dP z;refine ai ?_;rw[lL ah hj h2];rfl
  have h2:=dN z;refine ga aU ?_;exact aS J1 (i+1) ⟨ah,fun j h9=>by rcases anu j i with g |g;exact hj j g;(have:j=i:=by omega);subst this;exact h2⟩
 have ah:=bu hi z;subst ah;refine ai ?_;rw[mI hj];rfl
theorem Ln(l:Li)(hl:l.ok)(au:aM l=0)(Fd:List AV)(kind body:Int)(f:FuncId)(pre caps:List AV)(p:Int->Bool)
  (hp:∀o:Int,0<=o->o<l.bo.length->FP f (pre++[i64 o]++caps) (bl (p o))) :
  FP 457 [.iptr (l.av.cells++Fd),i64 kind,i64 body,.cl f pre caps] (i64 (gJ l kind body p)):=by
 refine am func457 ?_ (1,0);refine gW ((Wk.freezeB (k:=7) rfl rfl).trans<|(Wk.freezeB (k:=5) rfl rfl).trans<|(Wk.freezeB (k:=6) rfl rfl).trans<|Wk.o (sl:=[pP 0 (.iptr (l.av.cells++Fd)),pP 5 (.iptr [i64 kind]),pP 6 (.iptr [i64 body]),pP 7 (.iptr [.cl f pre caps])]) (hp:=[])) ?_;refine gc (Con.sA (.cons (.refl _) (.cons (CT rfl) .nil)) (aas l.jo hl.lj 466 [] [.iptr [i64 body],.iptr [i64 kind],.iptr [.cl f pre caps]] (fun i=>!Bw kind body p (l.jo.getD i default)) (fun i b hb hj=>by rw[Bool.not_not,aw hb];exact Sj b kind body f pre caps p (fun h=>hp _ h (Ti au hb body))))) ?_;refine ai ?_;rfl
theorem TD(l:Li)(kw driven:List Bool)(r:List AV)(b:Int)(h0:0<=b)(h1:b<kw.length):FP 463 [.iptr (fx l kw driven r),i64 b] (bl (kn kw b)):=by
 obtain⟨v,hv⟩:∃v,kw[b.toNat]?=some v:=aB oz;have ev:kn kw b=v:=aw hv;refine am func463 ?_;refine gi (lc (n:=b.toNat) oz hv) ?_;refine ai ?_;rw[ev]
theorem K8(l:Li)(hl:l.ok)(au:aM l=0)(kw driven:List Bool)(hk:kw.length=l.bo.length)(r:List AV)(kind body:Int) :
  FP 455 [.iptr (fx l kw driven r),i64 kind,i64 body] (i64 (gJ l kind body (kn kw))):=by
 refine am func455 ?_;refine gc (Ln l hl au _ kind body 463 [.iptr (fx l kw driven r)] [] (kn kw) (fun o h0 h1=>TD l kw driven r o h0 oz)) ?_;refine ai ?_;rfl
theorem TU(o j:Int):FP 458 [i64 o,.iptr [i64 j]] (bl (decide (o=j))):=by
 refine am func458 ?_;refine ai ?_;exact ao6 bl vV
theorem Zh(l:Li)(kw driven:List Bool)(hd:driven.length=kw.length)(r:List AV)(b:Int)(h0:0<=b)(h1:b<kw.length) :
  FP 459 [.iptr (fx l kw driven r),i64 b] (bl (!kn kw b&&!kn driven b)):=by
 obtain⟨v,hv⟩:∃v,kw[b.toNat]?=some v:=aB oz;have ev:kn kw b=v:=aw hv;obtain⟨u,hu⟩:∃u,driven[b.toNat]?=some u:=aB oz;have eu:kn driven b=u:=aw hu;refine am func459 ?_;refine gi (lc (n:=b.toNat) oz hv) ?_;refine oM (fun _=>(lc (n:=b.toNat) oz hu)) ?_;refine ai ?_;rw[ev,eu];exact ao6 bl (jw _ _)
theorem ad7(l:Li)(hl:l.ok)(au:aM l=0)(kw driven:List Bool)(hk:kw.length=l.bo.length)(r:List AV) :
  FP 417 [.iptr (fx l kw driven r)] (.tup [((driverG l kw).getD default).av,bl (driverG l kw).isSome]):=by
 have xh:=hl.ld;refine am func417 ?_;refine gl ?_;refine aY [0,2,11,12] [2] (fun(i:Nat)=>[pP 13 (i64 i)]) (fun _=>[]) (fun i=>i<=l.dv.length/\∀j,j<i->(!drHit l kw j)=true) (fun i=>l.dv.length-i) 0 ⟨ans _,fun j h=>by omega⟩ ?_;rintro i ⟨hi,hj⟩ K1 J1;refine gC (fun z=>?_) (fun z=>?_)
 ·have ah:=bf z;obtain⟨d,hd⟩:=aB ah;have rx:l.dv.getD i default=d:=aw hd;have hb:=cS (lZ au hd);obtain⟨v,hv⟩:∃v,kw[d.body.toNat]?=some v:=aB oz;have ev:kn kw d.body=v:=aw hv;have ej:gJ l 0 d.body (kn kw)=jointI l 0 d.body kw:=DR au (fun o _ _=>rfl);refine gi (aL hd) ?_;refine gi (lc (n:=d.body.toNat) oz hv) ?_;refine gD ?_;refine gC (fun z=>?_) (fun z=>?_)
  ·have h2:drHit l kw i=false:=by unfold drHit; rw[rx,ev,z]; rfl
   refine ga aU ?_;exact aS J1 (i+1) ⟨ah,fun k h9=>by rcases anu k i with g |g;exact hj k g;(have:k=i:=by omega);subst this;rw[h2];rfl⟩
  have o9:v=false:=z;refine gc (show lR _ _ _ (i64 (jointI l 0 d.body kw)) by rw[<- ej];exact K8 l hl au kw driven hk r 0 d.body) ?_;refine gC (fun z=>?_) (fun z=>?_)
  ·have h2:drHit l kw i=true:=by unfold drHit; rw[rx,ev,o9,ao3 (Ja z)]; rfl
   have hg:driverG l kw=some ⟨0,[d.body],[jointI l 0 d.body kw],i⟩:=by unfold driverG;rw[lL ah hj (by rw[h2];rfl),<- rx];rfl
   refine bO ?_;rw[hg];rfl
  have h2:drHit l kw i=false:=by unfold drHit;rw[rx,ao4 (Mo z),amr]
  refine ga aU ?_;exact aS J1 (i+1) ⟨ah,fun k h9=>by rcases anu k i with g |g;exact hj k g;(have:k=i:=by omega);subst this;rw[h2];rfl⟩
 have ah:=bu hi z;subst ah;have hg:driverG l kw=none:=by unfold driverG;rw[mI hj];rfl
 refine gR ?_;exact aD.sub aD.pure (by rw[hg];exact Sub.tup (.cons vf (.cons (.refl _) .nil)))
theorem FR(l:Li)(au:aM l=0)(kw:List Bool)(hk:kw.length=l.bo.length)(r:List AV)(b:Nat)(h1:b<l.bo.length) :
  FP 459 [.iptr (fx l kw (cM l) r),i64 b] (bl (freeB l kw b)):=by
 have h:=Zh l kw (cM l) (by rw[yk,hk]) r b oz oz;rw[ah2 au oz]at h;exact h
theorem B5(l:Li)(hl:l.ok)(au:aM l=0)(kw:List Bool)(hk:kw.length=l.bo.length)(r:List AV)(kind body:Int) :
  FP 455 [.iptr (fx l kw (cM l) r),i64 kind,i64 body] (i64 (jointI l kind body kw)):=by
 have h:=K8 l hl au kw (cM l) hk r kind body;rw[DR au (fun o _ _=>rfl)]at h;exact h
theorem acx(l:Li)(hl:l.ok)(au:aM l=0)(kw:List Bool)(hk:kw.length=l.bo.length)(r:List AV) :
  FP 419 [.iptr (fx l kw (cM l) r)] (.tup [((singleG l kw).getD default).av,bl (singleG l kw).isSome]):=by
 have h8:=(dC au).2.2.2.1;refine am func419 ?_;refine gl ?_;refine aY [0,2,12,13] [2] (fun(i:Nat)=>[pP 14 (i64 i)]) (fun _=>[]) (fun i=>i<=l.bo.length/\∀j,j<i->(!sgHit l kw j)=true) (fun i=>l.bo.length-i) 0 ⟨ans _,fun j h=>by omega⟩ ?_;rintro i ⟨hi,hj⟩ K1 J1;refine gC (fun z=>?_) (fun z=>?_)
 ·have ah:=bf z;refine gc (FR l au kw hk r i ah) ?_;refine gC (fun z=>?_) (fun z=>?_)
  ·have h2:sgHit l kw i=false:=by unfold sgHit; rw[dP z]; rfl
   refine ga aU ?_;exact aS J1 (i+1) ⟨ah,fun k h9=>by rcases anu k i with g |g;exact hj k g;(have:k=i:=by omega);subst this;rw[h2];rfl⟩
  have hf:=dN z;refine gc (B5 l hl au kw hk r 0 i) ?_;refine gc (B5 l hl au kw hk r 1 i) ?_;refine gC (fun z=>?_) (fun z=>?_)
  ·have h2:sgHit l kw i=false:=by unfold sgHit; rw[Qc z,amr]
   refine ga aU ?_;exact aS J1 (i+1) ⟨ah,fun k h9=>by rcases anu k i with g |g;exact hj k g;(have:k=i:=by omega);subst this;rw[h2];rfl⟩
  obtain⟨p0,s0⟩:=LW z;have s1:=(sH (l:=l) (kind:=1) (body:=i) (oth:=kw)).2;have h2:sgHit l kw i=true:=by unfold sgHit;rw[hf,ao3 p0,ao3 s0];rfl
  obtain⟨j,mz⟩:∃j,l.jo[(jointI l 1 i kw).toNat]?=some j:=aB oz;have tf:l.jo.getD (jointI l 1 i kw).toNat default=j:=aw mz;have hg:singleG l kw=some (sgG l kw i):=by unfold singleG;rw[lL ah hj (by rw[h2];rfl),anh]
  refine gi (lc (n:=(jointI l 1 i kw).toNat) oz mz) ?_;refine gC (fun z=>?_) (fun z=>?_)
  ·have ry:j.a=i:=dI z;refine bO ?_;rw[hg];unfold sgG;rw[tf];simp only[ani,aoz ry];rfl
  have ry:j.a≠i:=fq z;refine bO ?_;rw[hg];unfold sgG;rw[tf];simp only[ani,aoy ry];rfl
 have ah:=bu hi z;subst ah;have hg:singleG l kw=none:=by unfold singleG;rw[mI hj];rfl
 refine gR ?_;exact aD.sub aD.pure (by rw[hg];exact Sub.tup (.cons vf (.cons (.refl _) .nil)))
theorem aeg(Fd:List AV):FP 456 [.iptr Fd] (.fn 464 [.iptr [.iptr Fd]]):=by
 refine am func456 ?_ (1,0);refine gW ((Wk.freezeB (k:=1) rfl rfl).trans<|Wk.o (sl:=[pP 1 (.iptr [.iptr Fd])]) (hp:=[])) ?_;refine ai ?_;rfl
def CN:Code->Option (Array Tmp×Code×Code)
  | .rangeFunc _ ps x y=>some (ps,x,y)
  | .seq a b=>match CN a with
    |some r=>some r
    |none=>CN b
  | .block _ c=>CN c
  |_=>none
def Mp(n:Nat)(o:Option Code):LpD:=match o with
  |some c=>match CN c with
    |some (ps,x,y)=>⟨ps,x,y,n⟩
    |none=>⟨#[],.skip,.skip,0⟩
  |none=>⟨#[],.skip,.skip,0⟩
def IM(D:LpD)(Fd:List AV)(h:Bool):Blk:=.loop D (match h with |true=>.done |false=>.ready) (match h with |true=>some .ret |false=>none) [pP 1 (.iptr [.iptr Fd]),pP 2 (.ptr 1001 0),pP 3 (.ptr 1002 0)]
def He(g:Gr):Blk:=.box [i64 g.kind,.lst 1 (g.bo.map i64),.lst 1 (g.jo.map i64),i64 g.driver]
def Ek(h:Bool):Blk:=.box [bl h]
def iN(D:LpD)(Fd:List AV)(h:Bool)(g:Gr):Hp:=[pP 1000 (IM D Fd h),pP 1001 (He g),pP 1002 (Ek h)]
theorem OQ{D:LpD}{Fd:List AV}{h:Bool}{g:Gr}{k:Nat}{z:Blk}(hz:lk (iN D Fd h g) k=some z):1000<=k:=by
 unfold iN at hz;simp only[a5]at hz;split at hz
 ·omega
 ·split at hz
  ·omega
  ·split at hz
   ·omega
   ·cases hz
theorem adl{D:LpD}{Fd:List AV}{s:AS}(hs:∀k z,lk (iN D Fd false default) k=some z->s.blk k=some z) :
  ∀k∈(iN D Fd false default++eA (iN D Fd false default)).map (·.1),k∈(iN D Fd false default).map (·.1)/\lk (iN D Fd false default++eA (iN D Fd false default)) k=s.blk k:=by
 intro k hk
 have hk':k=1000\/k=1001\/k=1002:=by
  simp[iN,eA]at hk;omega
 rcases hk' with rfl |rfl |rfl
 ·exact⟨by simp[iN],(hs _ _ rfl).symm⟩
 ·exact⟨by simp[iN],(hs _ _ rfl).symm⟩
 ·exact⟨by simp[iN],(hs _ _ rfl).symm⟩
theorem PL{l:Li}{kw:List Bool}{i k:Nat}(h:cond (freeB l kw i) (freeB l kw k) false=false):prHit l kw i k=false:=by
 rw[jw]at h;unfold prHit;rw[h];rfl
theorem YF{H R:Hp}{k:Nat}{z:Blk}(h:lk H k=some z):lk (H++R) k=some z:=by rw[sr,aoz (sj h)];exact h
theorem VL{a b:Bool}(h:cond a b false=true):a=true:=by cases a <;> simp_all
theorem Fe{a b:Bool}(h:cond a b false=true):b=true:=by cases a <;> simp_all
theorem abt(D:LpD)(l:Li)(hl:l.ok)(au:aM l=0)(kw:List Bool)(hk:kw.length=l.bo.length)(r:List AV)
  (hy:∀i k:Nat,i<k->k<l.bo.length->freeB l kw i=true->freeB l kw k=true ->
   Aw prog 1000 [i64 i,i64 k] (iN D (fx l kw (cM l) r) false default) (bl (!prHit l kw i k)) (iN D (fx l kw (cM l) r) (prHit l kw i k) (cond (prHit l kw i k) (prG l kw i k) default))) :
  Con prog 464 [.yl 1000,.iptr [.iptr (fx l kw (cM l) r)]] (iN D (fx l kw (cM l) r) false default) (.tup []) (iN D (fx l kw (cM l) r) (pairG l kw).isSome ((pairG l kw).getD default)):=by
 have h8:=(dC au).2.2.2.1;refine gF func464 (fun k z h=>OQ h) ?_;refine gl ?_;refine aY [0,1,10] [1000,1001,1002] (fun(i:Nat)=>[pP 11 (i64 i)]) (fun _=>[]) (fun i=>i<=l.bo.length/\∀j,j<i->(prAt l kw j).isNone=true) (fun i=>l.bo.length-i) 0 ⟨ans _,fun j h=>by omega⟩ ?_;rintro i ⟨hi,hj⟩ K1 J1;refine gC (fun y=>?_) (fun y=>?_)
 ·have ah:=bf y;refine ga aU ?_;refine aY [0,1,3,10,11] [] (fun (k:Nat)=>[pP 4 (i64 (i+1+k:Nat))]) (fun _=>[pP 1000 (IM D (fx l kw (cM l) r) false),pP 1001 (He default),pP 1002 (Ek false)]) (fun k=>i+1+k<=l.bo.length/\∀ j,j<k->(!prHit l kw i (i+1+j))=true) (fun k=>l.bo.length - k) 0 ⟨by omega,fun j h=>by omega⟩ ?_;rintro k ⟨Dx,gM⟩ K2 J2;refine gl ?_;refine gC (fun y=>?_) (fun y=>?_)
  ·have bw:i+1+k<l.bo.length:=bf y;refine gc (FR l au kw hk r i ah) ?_;refine cm (fun _=>(FR l au kw hk r (i+1+k) bw)) ?_;refine gs (Wn rfl rfl rfl (by intro hb; have h0:prHit l kw i (i+1+k)=false:=PL (by simpa using hb); simp only [h0,cond_false]; exact adl (by intro k z h; exact h)) (fun hb=>af8 (k:=1000) (.opt rfl (by rw[hb]; rfl)) (hy i (i+1+k) oz bw (VL hb) (Fe hb)) (.cons (.opt rfl (by rw[hb]; rfl)) (.cons (.opt rfl (by rw[hb]; rfl)) .nil)) (by intro k z h; exact h) rfl rfl)) ?_;refine gC (fun y=>?_) (fun y=>?_)
   ·have h2:prHit l kw i (i+1+k)=true:=by have h9:=Fe y; rw[Bool.not_not] at h9; exact h9
    have nG:prAt l kw i=some (i+1+k):=by unfold prAt;rw[lL oz gM (by rw[h2];rfl),anh];congr 1;omega
    have hg:pairG l kw=some (prG l kw i (i+1+k)):=by unfold pairG;rw[lL ah hj (by rw[nG];rfl),anh,nG]
    refine gR ?_;simp only[hg,h2,Option.isSome_some,ani,cond_true];exact aD.keep (fun k z h=>YF h)
   have h2:prHit l kw i (i+1+k)=false:=by cases hc:cond (freeB l kw i) (freeB l kw ((i+1+k:Nat):Int)) false with |false=>exact PL hc |true=>rw[hc,Bool.not_not]at y;exact y
   refine ga aU ?_;exact aS J2 (k+1) ⟨by omega,fun j h9=>by rcases anu j k with g |g;exact gM j g;(have:j=k:=by omega);subst this;rw[h2];rfl⟩ (hw:=Wk.of bg (.cons rfl (.of (by rw[h2])) (.cons rfl (.of (by rw[h2];rfl)) (.cons rfl (.of (by rw[h2])) .nil))))
  have bw:¬i+1+k<l.bo.length:=fun h=>by have h1:=wE y;omega
  have nG:prAt l kw i=none:=by unfold prAt;rw[show l.bo.length-(i+1)=k by omega,mI gM];rfl
  refine ga aU ?_;exact aS J1 (i+1) ⟨ah,fun j h9=>by rcases anu j i with g |g;exact hj j g;(have:j=i:=by omega);subst this;rw[nG];rfl⟩
 have ah:=bu hi y;have hg:pairG l kw=none:=by unfold pairG;rw[<- ah,mI hj];rfl
 refine gR ?_;simp only[hg,Option.isSome_none,Option.getD_none];exact aD.keep (fun k z h=>h)
variable{P:apb}
mutual
def AV.pm(σ:Nat->Nat):AV->AV
  | .ms k sz off len=>.ms (σ k) sz off len
  | .ptr k off=>.ptr (σ k) off
  | .eptr k sz i off=>.eptr (σ k) sz i off
  | .yl k=>.yl (σ k)
  | .agg cs=>.agg (AV.pms σ cs)
  | .tup cs=>.tup (AV.pms σ cs)
  | .fn f cs=>.fn f (AV.pms σ cs)
  | .opt b x=>.opt b (AV.pm σ x)
  | .v x=>.v x
  | .lst sz l=>.lst sz l
  | .iptr l=>.iptr l
  | .cl f cs ds=>.cl f cs ds
def AV.pms(σ:Nat->Nat):List AV->List AV
  |[]=>[]
  |x::l=>AV.pm σ x::AV.pms σ l
end
theorem AV.pms_eq(σ:Nat->Nat):∀l,AV.pms σ l=l.map (AV.pm σ)
 |[]=>rfl
 |x::l=>by simp only[AV.pms,aow,AV.pms_eq σ l]
theorem AV.pm_one(σ:Nat->Nat)(x:AV)(h:x.one=true):(x.pm σ).one=true:=by
 cases x <;> simp only[AV.pm] <;> exact h
mutual
theorem AV.pm_pm{σ:Nat->Nat}(hσ:∀k,σ (σ k)=k):∀x:AV,(x.pm σ).pm σ=x
 | .ms k sz off len=>by simp only[AV.pm,hσ]
 | .ptr k off=>by simp only[AV.pm,hσ]
 | .eptr k sz i off=>by simp only[AV.pm,hσ]
 | .yl k=>by simp only[AV.pm,hσ]
 | .agg cs=>by simp only[AV.pm];rw[AV.pms_pms hσ cs]
 | .tup cs=>by simp only[AV.pm];rw[AV.pms_pms hσ cs]
 | .fn f cs=>by simp only[AV.pm];rw[AV.pms_pms hσ cs]
 | .opt b x=>by simp only[AV.pm];rw[AV.pm_pm hσ x]
 | .v x=>by simp only[AV.pm]
 | .lst sz l=>by simp only[AV.pm]
 | .iptr l=>by simp only[AV.pm]
 | .cl f cs ds=>by simp only[AV.pm]
theorem AV.pms_pms{σ:Nat->Nat}(hσ:∀k,σ (σ k)=k):∀l:List AV,AV.pms σ (AV.pms σ l)=l
 |[]=>by simp only[AV.pms]
 |x::l=>by simp only[AV.pms];rw[AV.pm_pm hσ x,AV.pms_pms hσ l]
end
theorem BD{g:Nat->Array ao9->Prop}{S:Nat->Nat->Prop}{σ:Nat->Nat}(hσ:∀k,σ (σ k)=k){m:Nat->Option Nat}{v:ao9}{x:AV}(h:Rep g S m v x):Rep g S (fun k=>m (σ k)) v (x.pm σ):=by
 induction h with
 |v x=>exact .v x
 |lst0 a cap sz'=>exact .lst0 a cap sz'
 |lst u hb hc hl hs ho hu hr _=>exact .lst u hb hc hl hs ho hu hr
 |iptr u hb ho hu hr _=>exact .iptr u hb ho hu hr
 |cl a b c d _ _=>exact .cl a b c d
 |ptr hm=>exact .ptr (by simp only[hσ];exact hm)
 |eptr hm=>exact .eptr (by simp only[hσ];exact hm)
 |yl hm=>exact .yl (by simp only[hσ];exact hm)
 |ms0 a k sz off=>exact .ms0 _ _ _ _
 |ms hm hc hS=>exact .ms (by simp only[hσ];exact hm) hc hS
 |opt h h' ih=>exact .opt ih h'
 |agg hn h1 hr ih =>
  simp only[AV.pm,AV.pms_eq];refine .agg (by simpa using hn) ?_ ?_
  ·intro j c hc;simp only[anr,ann]at hc;obtain⟨y,hy,rfl⟩:=hc;exact AV.pm_one _ _ (h1 j y hy)
  ·intro j u c hu hc;simp only[anr,ann]at hc;obtain⟨y,hy,rfl⟩:=hc;exact ih j u y hu hy
 |tup hn hr ih =>
  simp only[AV.pm,AV.pms_eq];refine .tup (by simpa using hn) ?_;intro j u c hu hc;simp only[anr,ann]at hc;obtain⟨y,hy,rfl⟩:=hc;exact ih j u y hu hy
 |fn hn hr ih =>
  simp only[AV.pm,AV.pms_eq];refine .fn (by simpa using hn) ?_;intro j u c hu hc;simp only[anr,ann]at hc;obtain⟨y,hy,rfl⟩:=hc;exact ih j u y hu hy
theorem ZW{g:Nat->Array ao9->Prop}{S:Nat->Nat->Prop}{σ:Nat->Nat}(hσ:∀k,σ (σ k)=k){m:Nat->Option Nat}{w:apc}{o:Option Nat}{x:Blk}(h:BlkRep g S m w o x) :
  BlkRep g S (fun k=>m (σ k)) w o (x.map (AV.pm σ)):=by
 cases x with
 |row sz es=>exact h.mono (fun _ _ h=>h) (fun _ _ h=>h) (fun _ _ hk=>hk.elim) rfl (fun _ _=>rfl)
 |vec vs=>exact h.mono (fun _ _ h=>h) (fun _ _ h=>h) (fun _ _ hk=>hk.elim) rfl (fun _ _=>rfl)
 |loop=>exact h.mapLoop _ (fun _ _ _ _ h=>BD hσ h)
 |box cs =>
  cases h with
  |box hw hn h1 bA =>
   refine .box hw (by simpa using hn) ?_ ?_
   ·intro j x hx;simp only[anr,ann]at hx;obtain⟨y,hy,rfl⟩:=hx;exact AV.pm_one _ _ (h1 j y hy)
   ·intro j u x hu hx;simp only[anr,ann]at hx;obtain⟨y,hy,rfl⟩:=hx;exact BD hσ (bA j u y hu hy)
theorem GM{σ:Nat->Nat}(hσ:∀k,σ (σ k)=k):∀sl:c9,m8 (AV.pm σ) (m8 (AV.pm σ) sl)=sl
 |[]=>rfl
 |(t,none)::l=>by simp only[m8,GM hσ l]
 |(t,some x)::l=>by simp only[m8,GM hσ l,AV.pm_pm hσ x]
theorem Blk.pm_pm{σ:Nat->Nat}(hσ:∀k,σ (σ k)=k)(x:Blk):(x.map (AV.pm σ)).map (AV.pm σ)=x:=by
 cases x with
 |row sz es=>rfl
 |vec vs=>rfl
 |loop d st pe sl=>simp only[Blk.map,GM hσ]
 |box cs =>
  simp only[Blk.map];rw[<- AV.pms_eq,<- AV.pms_eq,AV.pms_pms hσ]
def mO(σ:Nat->Nat):Hp->Hp
  |[]=>[]
  |(k,x)::l=>(σ k,match x with |some b=>some (b.map (AV.pm σ)) |none=>none)::mO σ l
theorem p5{σ:Nat->Nat}(hσ:∀k,σ (σ k)=k):∀(H:Hp)(k:Nat),lk (mO σ H) k=(lk H (σ k)).map (Blk.map (AV.pm σ))
 |[],k=>rfl
 |(k',x)::l,k=>by
  simp only[mO,a5,p5 hσ l k]
  by_cases h:k=σ k'
  ·rw[aoz h,aoz (by rw[h,hσ])];cases x <;> rfl
  ·rw[aoy h,aoy (fun e=>h (by rw[<- e,hσ]))]
theorem EB{σ:Nat->Nat}(hσ:∀k,σ (σ k)=k)(H:Hp)(m:Nat->Option Nat):bj (mO σ H) (fun k=>m (σ k))=bj H m:=by
 funext b;apply propext;constructor
 ·rintro⟨k,z,hz,hb⟩;rw[p5 hσ,ann]at hz;obtain⟨y,hy,rfl⟩:=hz;exact⟨σ k,y,hy,hb⟩
 ·rintro⟨k,y,hy,hb⟩;exact⟨σ k,y.map (AV.pm σ),by rw[p5 hσ,hσ,hy];rfl,by simp only[hσ];exact hb⟩
theorem JA{σ:Nat->Nat}(hσ:∀k,σ (σ k)=k){ext:Nat->Prop}{H:Hp}{m:Nat->Option Nat}{w:apc}(h:HeapRel ext H m w):HeapRel ext (mO σ H) (fun k=>m (σ k)) w:=by
 have e:Im ext (mO σ H) (fun k=>m (σ k)) w=Im ext H m w:=by funext b cs;simp only[Im,EB hσ]
 refine⟨?_,?_,?_⟩
 ·intro k z hz;rw[p5 hσ,ann]at hz;obtain⟨y,hy,rfl⟩:=hz;rw[e];exact ZW hσ (h.blk _ y hy)
 ·intro k k' z z' b hz hz' hb hb';rw[p5 hσ,ann]at hz hz';obtain⟨y,hy,_⟩:=hz;obtain⟨y',hy',_⟩:=hz';have:=h.inj _ _ y y' b hy hy' hb hb';rw[<- hσ k,this,hσ]
 ·intro k z b hz hb;rw[p5 hσ,ann]at hz;obtain⟨y,hy,_⟩:=hz;exact h.sep _ y b hy hb
theorem Con.pm{σ:Nat->Nat}(hσ:∀k,σ (σ k)=k){f:FuncId}{args:List AV}{H H':Hp}{r:AV}(h:Con P f args H r H'):Con P f (args.map (AV.pm σ)) (mO σ H) (r.pm σ) (mO σ H'):=by
 refine⟨h.ok,?_⟩;intro ext m w vs hext cI dG dm
 have cO:∀k,lk (mO σ (mO σ H)) k=lk H k:=by
  intro k;rw[p5 hσ,p5 hσ,hσ];cases lk H k with
  |none=>rfl
  |some y=>simp only[anh,Blk.pm_pm hσ]
 have hh:=HeapRel.congr cO (JA hσ cI);have em:(fun k=>(fun k=>m (σ k)) (σ k))=m:=by funext k;simp only[hσ]
 have eo:bj (mO σ H) m=bj H (fun k=>m (σ k)):=by
  have:=EB hσ H (fun k=>m (σ k));rw[em]at this;exact this
 have ei:Im ext (mO σ H) m w=Im ext H (fun k=>m (σ k)) w:=by funext b cs;simp only[Im,eo]
 refine Calls.mono (h.ret ext (fun k=>m (σ k)) w vs hext hh (by simpa using dG) (fun j v x hv hx=>?_)) ?_
 ·have h1:=dm j v (x.pm σ) hv (by simp[hx]);have h2:=BD hσ h1;rw[AV.pm_pm hσ,ei]at h2;exact h2
 ·rintro e w' ⟨v,m',rfl,hf,hh',hn,hk,bA⟩;refine⟨v,fun k=>m' (σ k),rfl,eo▸hf,JA hσ hh',?_,?_,?_⟩
  ·intro k x b hx hb;rw[p5 hσ,ann]at hx;obtain⟨y,hy,_⟩:=hx;rw[eo];exact hn _ y b hy hb
  ·intro k x y hx hy;rw[p5 hσ,ann]at hx hy;obtain⟨x',hx',_⟩:=hx;obtain⟨y',hy',_⟩:=hy;have:=hk _ x' y' hx' hy';simpa only[hσ]using this
  ·have e2:Im ext (mO σ H') (fun k=>m' (σ k)) w'=Im ext H' m' w':=by funext b cs; simp only [Im,EB hσ]
   rw[e2];exact BD hσ bA
end Go.Lw
namespace Go.Lw
open Go.Proofs
theorem gZ{P:apb}{N:Nat}{Q:Exit->AS->Prop}{c:Code}{s:AS}(h:Gd P N Q (.code c [] s)):cg P N c Q s:=h
theorem aa5{P:apb}{N:Nat}{Q:Exit->AS->Prop}{c:Code}{s s':AS}(hw:Wk s s')(h:nP P N c Q s'):nP P N c Q s:=by
 intro C m a w n om hN hr;obtain⟨m',hr'⟩:=hw C m a w hr;exact h C m' a w n om hN hr'
def Bt(k:Nat):Nat:=bif ajx k 1000 then 900 else bif ajx k 900 then 1000 else bif ajx k 1001 then 2 else bif ajx k 2 then 1001 else bif ajx k 1002 then 3 else bif ajx k 3 then 1002 else k
theorem nb{a b:Nat}(h:¬a=b):ajx a b=false:=by
 cases h1:ajx a b
 ·rfl
 ·exact ao5 (anw h1) h
theorem X8(k:Nat):Bt (Bt k)=k:=by
 by_cases h1:k=1000
 ·subst h1;rfl
 by_cases h2:k=900
 ·subst h2;rfl
 by_cases h3:k=1001
 ·subst h3;rfl
 by_cases h4:k=2
 ·subst h4;rfl
 by_cases h5:k=1002
 ·subst h5;rfl
 by_cases h6:k=3
 ·subst h6;rfl
 have e:Bt k=k:=by simp only[Bt,nb h1,nb h2,nb h3,nb h4,nb h5,nb h6,cond_false]
 rw[e,e]
theorem Xn(l:Li)(hl:l.ok)(au:aM l=0)(kw:List Bool)(hk:kw.length=l.bo.length)(r:List AV) :
  FP 418 [.iptr (fx l kw (cM l) r)] (.tup [((pairG l kw).getD default).av,bl (pairG l kw).isSome]):=by
 refine Jx (rs:=Tryz.f418.results.toList) func418 rfl rfl (by simp) rfl (fun k z h=>by cases h) ?_;refine Fm (gZ (go ?_));refine aa5 (s':=⟨[pP 1 (.iptr [.iptr (fx l kw (cM l) r)]),pP 2 (.ptr 2 0),pP 3 (.ptr 3 0)],[pP 2 (He default),pP 3 (Ek false)]⟩) ((Wk.freezeB (k:=1) rfl rfl).trans (Wk.of (.k (.k (.k .nil))) (.cons rfl (BlkSub.bL (.cons (.refl _) (.cons (.nil _ _ _) (.cons (.nil _ _ _) (.cons (.refl _) .nil)))) rfl) (.k .nil)))) ?_;refine XQ ?_;refine Fm (gZ (go ?_));refine gc (aeg (fx l kw (cM l) r)) ?_;refine SY ?_
 have hy:∀i k:Nat,i<k->k<l.bo.length->freeB l kw i=true->freeB l kw k=true ->
   Aw prog 1000 [i64 i,i64 k] (iN (Mp Tryz.f418.ntmps Tryz.f418.body) (fx l kw (cM l) r) false default) (bl (!prHit l kw i k)) (iN (Mp Tryz.f418.ntmps Tryz.f418.body) (fx l kw (cM l) r) (prHit l kw i k) (cond (prHit l kw i k) (prG l kw i k) default)):=by
  intro i k hik bw Rv Rw;refine afa (k:=1000) (fun k z h=>OQ h) rfl rfl (by intro p hp;have h9:p∈[11,12]:=hp;have h8:p=11\/p=12:=(by simpa using h9);show p<42;rcases h8 with h7 |h7 <;> (rw[h7];decide)) ?_;refine gZ (go ?_);refine⟨rfl,_,_,rfl,?_⟩;have hJ:gJ l 0 i (fun o=>decide (o=(k:Int)))=jointI l 0 i (dh l.bo.length k):=DR au (fun o h0 h1=>(uB h0 oz oz).symm);refine gZ (go ?_);refine gc (B5 l hl au kw hk r 0 i) ?_;refine gc (B5 l hl au kw hk r 0 k) ?_;refine gD ?_ (5,0);refine gW (Wk.freezeB (k:=5) rfl rfl) ?_;refine gc (r:=i64 (jointI l 0 i (dh l.bo.length k))) (by rw[<- hJ];exact Con.sA (.cons (.refl _) (.cons (.refl _) (.cons (.refl _) (.cons (CT rfl) .nil)))) (Ln l hl au _ 0 i 458 [] [.iptr [i64 k]] (fun o=>decide (o=(k:Int))) (fun o h0 h1=>TU o k))) ?_;refine gC (fun ht=>?_) (fun ht=>?_)
  ·have h2:prHit l kw i k=true:=by unfold prHit; rw[Rv,Rw]; exact (Bi.symm.trans ht)
   rw[h2];exact⟨_,_,rfl,aD.keep (by intro q z h;simp only[iN,a5]at h;split at h;(subst_vars;exact h);split at h;(subst_vars;exact h);split at h;(subst_vars;exact h);cases h)⟩
  ·have h2:prHit l kw i k=false:=by unfold prHit; rw[Rv,Rw]; exact (Bi.symm.trans ht)
   rw[h2];exact⟨_,_,rfl,aD.keep (by intro q z h;simp only[iN,a5]at h;split at h;(subst_vars;exact h);split at h;(subst_vars;exact h);split at h;(subst_vars;exact h);cases h)⟩
 have eW:=Con.pm X8 (abt _ l hl au kw hk r hy);cases hg:pairG l kw with
 |none =>
  rw[hg]at eW;refine KS (k:=900) (sl0:=[pP 1 (.iptr [.iptr (fx l kw (cM l) r)]),pP 2 (.ptr 2 0),pP 3 (.ptr 3 0)]) (.tmp rfl) (by intro t x h;simp only[a5]at h;split at h;(subst_vars;exact h);split at h;(subst_vars;exact h);split at h;(subst_vars;exact h);cases h) rfl rfl eW (fun k' z h=>h) rfl rfl rfl rfl (by intro h;cases h) (.inl ⟨rfl,?_⟩);refine Fm (gZ (go ?_));refine cg.out (gZ (go ?_));refine gR ?_;exact aD.sub aD.pure (Sub.tup (.cons vf (.cons (.refl _) .nil)))
 |some g =>
  rw[hg]at eW;refine KS (k:=900) (sl0:=[pP 1 (.iptr [.iptr (fx l kw (cM l) r)]),pP 2 (.ptr 2 0),pP 3 (.ptr 3 0)]) (.tmp rfl) (by intro t x h;simp only[a5]at h;split at h;(subst_vars;exact h);split at h;(subst_vars;exact h);split at h;(subst_vars;exact h);cases h) rfl rfl eW (fun k' z h=>h) rfl rfl rfl rfl (by intro h;cases h) (.inr ⟨rfl,?_⟩);exact(bO (P:=prog) (N:=Tryz.f418.ntmps) (e:=.ret) rfl)
theorem F5{α:Type}{o:Option α}(h:o.isSome=true):∃x,o=some x:=by cases o <;> simp_all
theorem G7{α:Type}{o:Option α}(h:o.isSome=false):o=none:=by cases o <;> simp_all
theorem Uc(l:Li)(hl:l.ok)(au:aM l=0)(kw:List Bool)(hk:kw.length=l.bo.length)(r:List AV) :
  FP 344 [.iptr (fx l kw (cM l) r)] (.tup [((nextG l kw).getD default).av,bl (nextG l kw).isSome]):=by
 refine am func344 ?_;refine gc (ad7 l hl au kw (cM l) hk r) ?_;refine gC (fun z=>?_) (fun z=>?_)
 ·obtain⟨g,hg⟩:=F5 z;refine bO ?_;unfold nextG;rw[hg];rfl
 have hg:=G7 z;refine gc (Xn l hl au kw hk r) ?_;refine gC (fun z=>?_) (fun z=>?_)
 ·obtain⟨g,fD⟩:=F5 z;refine bO ?_;unfold nextG;rw[hg,fD];rfl
 have fD:=G7 z;refine gc (acx l hl au kw hk r) ?_;refine bO ?_;unfold nextG;rw[hg,fD];rfl
theorem MR{ts:LL}{r e:Nat}(tw:Tw ts r){a b c d:List Rat}(ha:Nm ts.length e a)(hb:Nm ts.length e b)(hc:Nm ts.length e c)(hd:Nm ts.length e d)(he:2*e<=lm ts.length) :
  Con prog 206 [.ptr 1000 0,aP a b,aP c d] [pP 1000 (kp ts)] (aP (sh ts.length (subT ts (af ts.length a) (af ts.length c))) (sh ts.length (subT ts (af ts.length b) (af ts.length d)))) [pP 1000 (kp ts)]:=by
 refine gF func206 (fun k z h=>bW h) ?_;refine gt (aR (BF tw ha hc oz) (aV rfl rfl rfl) aT rfl rfl) ?_;refine gt (aR (BF tw hb hd oz) (aV rfl rfl rfl) aT rfl rfl) ?_;refine gD ?_;refine gR ?_;exact aD.keep (bH rfl)
theorem PM(R:List AV)(a:List Rat):Con prog 332 [.ptr 1000 0,nA a] [pP 1000 (.box [.lst 1 R,.v .nilIface])] (.tup [nA a,.v .nilIface]) [pP 1000 (.box [.lst 1 R,.v .nilIface])]:=by
 refine gF func332 (fun k z h=>bW h) ?_;refine gf ?_;refine gR ?_;show aD _ (AV.tup [nA a,.v .nilIface]) _ _;exact aD.keep (bH rfl)
theorem B6(R:List AV)(a b:List Rat):Con prog 205 [.ptr 1000 0,aP a b] [pP 1000 (.box [.lst 1 R,.v .nilIface])] (.tup [aP a b,.v .nilIface]) [pP 1000 (.box [.lst 1 R,.v .nilIface])]:=by
 refine gF func205 (fun k z h=>bW h) ?_;refine gf ?_;refine gR ?_;show aD _ (AV.tup [aP a b,.v .nilIface]) _ _;exact aD.keep (bH rfl)
theorem PY{ts:LL}{r e:Nat}(tw:Tw ts r){a b c d:List Rat}(ha:Nm ts.length e a)(hb:Nm ts.length e b)(hc:Nm ts.length e c)(hd:Nm ts.length e d)(he:e<=lm ts.length)(f:FuncId)(v:List Rat)
  (hf:Con prog f [.ptr 1000 0,aP a b,aP c d] [pP 1000 (kp ts)] (nA v) [pP 1000 (kp ts)]) :
  FP 207 [aZ ts,aP a b,aP c d,.fn f []] (.tup [nA v,.v .nilIface]):=by
 refine am func207 ?_;refine gc (yd (e:=e) tw [(a,b),(c,d)] (by simp only[an9,aob,or_false];rintro p (rfl |rfl);exact⟨ha,hb⟩;exact⟨hc,hd⟩) he (by simp)) ?_;refine gf ?_;refine gs (Sf (.tmp rfl) (show Con prog f ([.ptr 22 0,aP a b,aP c d]++[]) [pP 22 (kp ts)] (nA v) [pP 22 (kp ts)]from Con.rB 22 rfl rfl rfl rfl hf) (aV rfl rfl rfl) aT rfl rfl) ?_;refine gt (aR (Con.rB 22 rfl rfl rfl rfl (PM _ _)) (b8 rfl rfl) aT rfl rfl) ?_;refine bO ?_;rfl
theorem Gl{ts:LL}{r e:Nat}(tw:Tw ts r){a b c d:List Rat}(ha:Nm ts.length e a)(hb:Nm ts.length e b)(hc:Nm ts.length e c)(hd:Nm ts.length e d)(he:2*(e+e+kB r ts.length)<=lm ts.length) :
  FP 102 [aZ ts,aP a b,aP c d] (.tup [nA (sh ts.length (vE ts (af ts.length a) (af ts.length b) (af ts.length c) (af ts.length d))),.v .nilIface]):=by
 refine am func102 ?_;refine gc (Con.sA (.cons (.refl _) (.cons (.refl _) (.cons (.refl _) (.cons (Sub.fn0 _) .nil)))) (PY tw ha hb hc hd oz _ _ (Ng tw ha hb hc hd he))) ?_;refine bO ?_
 first |rfl |(simp;done)
theorem EU{ts:LL}{r e:Nat}(tw:Tw ts r){a b c d:List Rat}(ha:Nm ts.length e a)(hb:Nm ts.length e b)(hc:Nm ts.length e c)(hd:Nm ts.length e d)(he:2*(e+e+kB r ts.length)<=lm ts.length) :
  FP 265 [aZ ts,nA a,nA b,aP c d] (.tup [aP (sh ts.length (uX ts (af ts.length a) (af ts.length b) (af ts.length c) (af ts.length d))) (sh ts.length (wj ts (af ts.length a) (af ts.length b) (af ts.length c) (af ts.length d))),.v .nilIface]):=by
 refine am func265 ?_;refine gc (Bl (e:=e) tw [a,b,c,d] (by simp only[an9,aob,or_false];rintro x (rfl |rfl |rfl |rfl) <;> assumption) oz (by simp)) ?_;refine gf ?_;refine gt (aR (Con.rB 27 rfl rfl rfl rfl (p9 tw ha hc oz)) (aV rfl rfl rfl) aT rfl rfl) ?_;refine gt (aR (Con.rB 27 rfl rfl rfl rfl (p9 tw hb hd oz)) (aV rfl rfl rfl) aT rfl rfl) ?_;refine gt (aR (Con.rB 27 rfl rfl rfl rfl (x4▸BF tw (ha.mul tw rfl hc) (hb.mul tw rfl hd) oz)) (aV rfl rfl rfl) aT rfl rfl) ?_;refine gt (aR (Con.rB 27 rfl rfl rfl rfl (p9 tw hb hc oz)) (aV rfl rfl rfl) aT rfl rfl) ?_;refine gt (aR (Con.rB 27 rfl rfl rfl rfl (p9 tw ha hd oz)) (aV rfl rfl rfl) aT rfl rfl) ?_;refine gt (aR (Con.rB 27 rfl rfl rfl rfl (C1▸AJ tw (hb.mul tw rfl hc) (ha.mul tw rfl hd) oz)) (aV rfl rfl rfl) aT rfl rfl) ?_;refine gt (aR (Con.rB 27 rfl rfl rfl rfl (B6 _ _ _)) (b8 rfl rfl) aT rfl rfl) ?_;refine gD ?_;refine bO ?_;rfl
theorem Qt{ts:LL}{r e:Nat}(tw:Tw ts r){a b c d:List Rat}(ha:Nm ts.length e a)(hb:Nm ts.length e b)(hc:Nm ts.length e c)(hd:Nm ts.length e d)(he:2*e<=lm ts.length) :
  FP 266 [aZ ts,aP a b,aP c d] (.tup [aP (sh ts.length (T.add ts.length (af ts.length a) (af ts.length c))) (sh ts.length (T.add ts.length (af ts.length b) (af ts.length d))),.v .nilIface]):=by
 refine am func266 ?_;refine gc (yd (e:=e) tw [(a,b),(c,d)] (by simp only[an9,aob,or_false];rintro p (rfl |rfl);exact⟨ha,hb⟩;exact⟨hc,hd⟩) oz (by simp)) ?_;refine gf ?_;refine gt (aR (Con.rB 21 rfl rfl rfl rfl (AJ tw ha hc oz)) (aV rfl rfl rfl) aT rfl rfl) ?_;refine gt (aR (Con.rB 21 rfl rfl rfl rfl (AJ tw hb hd oz)) (aV rfl rfl rfl) aT rfl rfl) ?_;refine gt (aR (Con.rB 21 rfl rfl rfl rfl (B6 _ _ _)) (b8 rfl rfl) aT rfl rfl) ?_;refine gD ?_;refine bO ?_;rfl
theorem AD{x y:Rat}(hx:Qs x)(hy:Qs y):FP 256 [qA x,qA y] (aP (sh 0 (x:Rat)) (sh 0 (y:Rat))):=by
 refine am func256 ?_;refine gc (tt hx) ?_;refine gc (tt hy) ?_;refine gD ?_;refine ai ?_
 first |rfl |(simp;done)
theorem Zg{ts:LL}{r e:Nat}(tw:Tw ts r){a b c d:List Rat}(ha:Nm ts.length e a)(hb:Nm ts.length e b)(hc:Nm ts.length e c)(hd:Nm ts.length e d){x y:Rat}(hx:Qb e x)(hy:Qb e y)(he:8*e+4*kB r ts.length+4<=lm ts.length) :
  FP 139 [aZ ts,.agg [nA a,nA b,nA c,nA d],qA x,qA y] (.tup [aP (sh ts.length (vo ts (af ts.length a) (af ts.length b) (af ts.length c) x y)) (sh ts.length (wW ts (af ts.length a) (af ts.length b) (af ts.length d) x y)),.v .nilIface]):=by
 have dW:=jA ts.length;have nx:=Nm.ofQ ha.five (Cb.one hx);have ny:=Nm.ofQ ha.five (Cb.one hy);have nX:=wR tw ha hb nx ny;have nY:=vR tw ha hb nx ny;have z1:e<=2*(e+e+kB r ts.length)+1:=by omega
 have z2:2*(2*(e+e+kB r ts.length)+1)<=lm ts.length:=DQ he;have gL:=Qt tw nX nY (hc.mono z1) (hd.mono z1) z2;refine am func139 ?_;refine gc (Bl (e:=e) tw [a,b,c,d] (by simp only[an9,aob,or_false];rintro x (rfl |rfl |rfl |rfl) <;> assumption) oz (by simp)) ?_;refine gf ?_;refine gc (AD (hx.qs oz) (hy.qs oz)) ?_;refine gc (EU tw ha hb nx ny oz) ?_;refine gD ?_;refine gf ?_;refine gc gL ?_;refine bO ?_;rw[xI,yw];rfl
theorem Kg(rs:List (List Rt))(r e:Nat)(h:TR rs r)(xs:List (List Rt))(hx:∀a∈xs,NR a e)(he:e<=lm rs.length)(hl:xs.length<=1000):FP 32 [cJ rs,.lst 1 (xs.map nR)] (i64 (bc rs xs)):=by
 refine am func32 ?_;refine gc (ML rs r h) ?_;refine gC (fun z=>?_) (fun z=>?_)
 ·have h1:=jI z;refine ai ?_;rw[C5 h1]
 have h1:=jp z;refine gl ?_;refine aY [2,15,16] [2] (fun(i:Nat)=>[pP 17 (i64 i)]) (fun _=>[]) (fun i=>i<=xs.length/\∀x∈xs.take i,cA rs.length x=0) (fun i=>xs.length-i) 0 ⟨ans _,fun x hx=>by simp at hx⟩ ?_;rintro i ⟨hi,hj⟩ K1 J1;refine gC (fun z=>?_) (fun z=>?_)
 ·have ah:i<xs.length:=by simpa[aa] using z
  obtain⟨a,ha⟩:=aB ah;have ci:=hx a (ank ha);have lG:bc rs [a]=cA rs.length a:=GA h1;refine gi (aL ha) ?_;refine gc (Uq rs r h a e ci he) ?_;refine gC (fun z=>?_) (fun z=>?_)
  ·have h2:=jI z;refine ai ?_;rw[lG]at h2 ⊢;rw[yW h1 ha hj h2]
  have h2:=jp z;rw[lG]at h2;refine ga aU ?_;exact aS J1 (i+1) ⟨ah,fun x hx=>by rw[dR ha]at hx;rcases anz.1 hx with h9 |h9;exact hj x h9;(rw[alr.1 h9];exact h2)⟩
 have ah:i=xs.length:=by have:xs.length<=i:=(by simpa[aa]using z);omega
 subst ah;rw[an3]at hj;refine ai ?_;rw[rK h1 hj];rfl
theorem Ew{ts:LL}{r e f:Nat}(tw:Tw ts r){a b:List Rat}(ha:Nm ts.length e a)(hb:Nm ts.length f b)(he:e+f<=lm ts.length):FP 254 [aZ ts,nA a,nA b] (nA (sh ts.length (T.add ts.length (af ts.length a) (af ts.length b)))):=by
 refine am func254 ?_;refine gc (agi tw ha hb he) ?_;refine ai ?_
 first |rfl |(simp;done)
theorem Cw{ts:LL}{r e f:Nat}(tw:Tw ts r){a b:List Rat}(ha:Nm ts.length e a)(hb:Nm ts.length f b)(he:e+f<=lm ts.length):FP 130 [aZ ts,nA a,nA b] (nA (sh ts.length (T.add ts.length (af ts.length a) (T.neg ts.length (af ts.length b))))):=by
 refine am func130 ?_;refine gc (ahl tw ha hb he) ?_;refine ai ?_
 first |rfl |(simp;done)
theorem vt{ts:LL}{r e f:Nat}(tw:Tw ts r){a b:List Rat}(ha:Nm ts.length e a)(hb:Nm ts.length f b)(he:e+f<=lm ts.length):FP 255 [aZ ts,nA a,nA b] (nA (sh ts.length (T.mul (az ts) ts.length (af ts.length a) (af ts.length b)))):=by
 refine am func255 ?_;refine gc (acd tw ha hb he) ?_;refine ai ?_
 first |rfl |(simp;done)
theorem acj{ts:LL}{r e:Nat}(tw:Tw ts r){a:List Rat}(ha:Nm ts.length e a)(he:e<=lm ts.length):FP 33 [aZ ts,nA a] (i64 (T.sgn (az ts) ts.length (af ts.length a))):=by
 refine am func33 ?_;refine gc (aaj tw ha he) ?_;refine ai ?_
 first |rfl |(simp;done)
theorem wU{ts:LL}{r e f:Nat}(tw:Tw ts r){a b:List Rat}(ha:Nm ts.length e a)(hb:Nm ts.length f b)(he:e+f+1<=lm ts.length):FP 50 [aZ ts,nA a,nA b] (bl (fJ ts (af ts.length a) (af ts.length b))):=by
 refine am func50 ?_;refine gc (af6 tw ha hb he) ?_;refine ai ?_;exact ao6 bl (ah7 _)
theorem JV{ts:LL}{r e:Nat}(tw:Tw ts r){a b c d:List Rat}(ha:Nm ts.length e a)(hb:Nm ts.length e b)(hc:Nm ts.length e c)(hd:Nm ts.length e d)(he:2*e+1<=lm ts.length):FP 54 [aZ ts,aP a b,aP c d] (bl (fJ ts (af ts.length a) (af ts.length c)&&fJ ts (af ts.length b) (af ts.length d))):=by
 refine am func54 ?_;refine gc (wU tw ha hc oz) ?_;refine cm (fun _=>(wU tw hb hd oz)) ?_;refine ai ?_;exact ao6 bl (jw _ _)
theorem ahe{ts:LL}{r e:Nat}(tw:Tw ts r){a b c d:List Rat}(ha:Nm ts.length e a)(hb:Nm ts.length e b)(hc:Nm ts.length e c)(hd:Nm ts.length e d)(he:2*(e+e+kB r ts.length)<=lm ts.length):FP 246 [aZ ts,aP a b,aP c d] (nA (sh ts.length (q5 ts (af ts.length a) (af ts.length b) (af ts.length c) (af ts.length d)))):=by
 refine am func246 ?_;refine gc (vt tw ha hd oz) ?_;refine gc (vt tw hb hc oz) ?_;refine gc (x4▸Cw tw (ha.mul tw rfl hd) (hb.mul tw rfl hc) oz) ?_;refine gD ?_;refine ai ?_
 first |rfl |(simp;done)
theorem O7{ts:LL}{r e:Nat}(tw:Tw ts r){a b c d:List Rat}(ha:Nm ts.length e a)(hb:Nm ts.length e b)(hc:Nm ts.length e c)(hd:Nm ts.length e d)(he:2*e<=lm ts.length):FP 245 [aZ ts,aP a b,aP c d] (aP (sh ts.length (subT ts (af ts.length a) (af ts.length c))) (sh ts.length (subT ts (af ts.length b) (af ts.length d)))):=by
 refine am func245 ?_;refine gc (Cw tw ha hc oz) ?_;refine gc (Cw tw hb hd oz) ?_;refine gD ?_;refine ai ?_
 first |rfl |(simp;done)
theorem ac2{ts:LL}{r e:Nat}(tw:Tw ts r){a b c d:List Rat}(ha:Nm ts.length e a)(hb:Nm ts.length e b)(hc:Nm ts.length e c)(hd:Nm ts.length e d)(he:2*e<=lm ts.length):FP 357 [aZ ts,aP a b,aP c d] (aP (sh ts.length (T.add ts.length (af ts.length a) (af ts.length c))) (sh ts.length (T.add ts.length (af ts.length b) (af ts.length d)))):=by
 refine am func357 ?_;refine gc (Ew tw ha hc oz) ?_;refine gc (Ew tw hb hd oz) ?_;refine gD ?_;refine ai ?_
 first |rfl |(simp;done)
theorem afb{ts:LL}{r e:Nat}(tw:Tw ts r){a b c d:List Rat}(ha:Nm ts.length e a)(hb:Nm ts.length e b)(hc:Nm ts.length e c)(hd:Nm ts.length e d)(he:2*(e+e+kB r ts.length)<=lm ts.length):FP 358 [aZ ts,nA a,nA b,aP c d] (aP (sh ts.length (uX ts (af ts.length a) (af ts.length b) (af ts.length c) (af ts.length d))) (sh ts.length (wj ts (af ts.length a) (af ts.length b) (af ts.length c) (af ts.length d)))):=by
 refine am func358 ?_;refine gc (vt tw ha hc oz) ?_;refine gc (vt tw hb hd oz) ?_;refine gc (x4▸Cw tw (ha.mul tw rfl hc) (hb.mul tw rfl hd) oz) ?_;refine gc (vt tw hb hc oz) ?_;refine gc (vt tw ha hd oz) ?_;refine gc (C1▸Ew tw (hb.mul tw rfl hc) (ha.mul tw rfl hd) oz) ?_;refine gD ?_;refine ai ?_
 first |rfl |(simp;done)
theorem Wx{ts:LL}{r e:Nat}(tw:Tw ts r){a b c d p q:List Rat}(ha:Nm ts.length e a)(hb:Nm ts.length e b)(hc:Nm ts.length e c)(hd:Nm ts.length e d)(hp:Nm ts.length e p)(hq:Nm ts.length e q)
  (he:8*e+10+2*kB r ts.length<=lm ts.length) :
  FP 149 [aZ ts,aP a b,aP c d,aP p q] (i64 (T.sgn (az ts) ts.length (vz ts (af ts.length a) (af ts.length b) (af ts.length c) (af ts.length d) (af ts.length p) (af ts.length q)))):=by
 have ho:=adf tw ha hb hc hd hp hq;refine am func149 ?_;refine gc (O7 tw hc hd ha hb oz) ?_;refine gc (O7 tw hp hq ha hb oz) ?_;refine gc (Pw▸ahe tw (hc.sub ha) (hd.sub hb) (hp.sub ha) (hq.sub hb) oz) ?_;refine gc (acj tw ho oz) ?_;refine gD ?_;refine ai ?_;rw[bn]
theorem O1{x y:Rat}(hx:Qs x)(hy:Qs y):FP 55 [qA x,qA y] (aP (sh 0 (x:Rat)) (sh 0 (y:Rat))):=by
 refine am func55 ?_;refine gc (yT hx) ?_;refine gc (yT hy) ?_;refine gD ?_;refine ai ?_
 first |rfl |(simp;done)
theorem aef{ts:LL}{r e:Nat}(tw:Tw ts r){a b c d:List Rat}(ha:Nm ts.length e a)(hb:Nm ts.length e b)(hc:Nm ts.length e c)(hd:Nm ts.length e d){x y:Rat}(hx:Qb e x)(hy:Qb e y)(he:8*e+4*kB r ts.length+4<=lm ts.length) :
  FP 253 [aZ ts,.agg [nA a,nA b,nA c,nA d],qA x,qA y] (aP (sh ts.length (vo ts (af ts.length a) (af ts.length b) (af ts.length c) x y)) (sh ts.length (wW ts (af ts.length a) (af ts.length b) (af ts.length d) x y))):=by
 have dW:=jA ts.length;have nx:=Nm.ofQ ha.five (Cb.one hx);have ny:=Nm.ofQ ha.five (Cb.one hy);have nX:=wR tw ha hb nx ny;have nY:=vR tw ha hb nx ny;have z1:e<=2*(e+e+kB r ts.length)+1:=by omega
 have z2:2*(2*(e+e+kB r ts.length)+1)<=lm ts.length:=DQ he;have gL:=ac2 tw nX nY (hc.mono z1) (hd.mono z1) z2;refine am func253 ?_;refine gc (O1 (hx.qs oz) (hy.qs oz)) ?_;refine gc (afb tw ha hb nx ny oz) ?_;refine gc gL ?_;refine gD ?_;refine ai ?_;rw[xI,yw];rfl
theorem M9{ts:LL}{r e:Nat}(tw:Tw ts r){a b c d p q u v:List Rat}(ha:Nm ts.length e a)(hb:Nm ts.length e b)(hc:Nm ts.length e c)(hd:Nm ts.length e d)(hp:Nm ts.length e p)(hq:Nm ts.length e q)(hu:Nm ts.length e u)(hv:Nm ts.length e v)(he:2*e+1<=lm ts.length) :
  FP 17 [aZ ts,.agg [nA a,nA b,nA c,nA d],.agg [nA p,nA q,nA u,nA v]] (bl (fJ ts (af ts.length a) (af ts.length p)&&fJ ts (af ts.length b) (af ts.length q)&&fJ ts (af ts.length c) (af ts.length u)&&fJ ts (af ts.length d) (af ts.length v))):=by
 refine am func17 ?_;refine gc (wU tw ha hp oz) ?_;refine cm (fun _=>(wU tw hb hq oz)) ?_;refine cm (fun _=>(wU tw hc hu oz)) ?_;refine cm (fun _=>(wU tw hd hv oz)) ?_;refine ai ?_;exact ao6 bl (YU _ _ _ _)
theorem ac3:FP 60 [] (.agg [nA [1],nA [],nA [],nA []]):=by
 refine am func60 ?_;refine gc (ut 1 oz) ?_;refine gc (yT (uz (n:=1) oz)) ?_;refine gR ?_;exact kX (.agg (.cons (.refl _) (.cons (.nil _ _ _) (.cons (.nil _ _ _) (.cons (.nil _ _ _) .nil)))) rfl)
def u8(n:Nat):AV:=.v (.int .u8 n)
theorem xn{p q:Bool}{a b:Nat}{c:Nat}(hp:p=decide (a<=c))(hq:q=decide (c<=b)):cond p q false=decide (a<=c/\c<=b):=by
 subst hp;subst hq
 by_cases h:a<=c
 ·simp[h]
 ·simp[h]
theorem yQ(c k:Nat):aa .geq (c:Int) (k:Int)=decide (k<=c):=by simp only[aa,decide_eq_decide];omega
theorem yL(c k:Nat):aa .leq (c:Int) (k:Int)=decide (c<=k):=by simp only[aa,decide_eq_decide];omega
theorem adx(c:Nat):cond (cond (aa .geq (c:Int) 97) (aa .leq (c:Int) 122) false) true (cond (aa .geq (c:Int) 65) (aa .leq (c:Int) 90) false)=gT c:=by
 have e1:cond (aa .geq (c:Int) 97) (aa .leq (c:Int) 122) false=decide (97<=c/\c<=122):=xn (yQ c 97) (yL c 122);have e2:cond (aa .geq (c:Int) 65) (aa .leq (c:Int) 90) false=decide (65<=c/\c<=90):=xn (yQ c 65) (yL c 90);rw[e1,e2];unfold gT;cases decide (97<=c/\c<=122) <;> rfl
theorem Ul(c:Nat):cond (cond (aa .geq (c:Int) 65) (aa .leq (c:Int) 90) false) true (cond (aa .geq (c:Int) 97) (aa .leq (c:Int) 122) false)=gT c:=by
 have e1:cond (aa .geq (c:Int) 97) (aa .leq (c:Int) 122) false=decide (97<=c/\c<=122):=xn (yQ c 97) (yL c 122);have e2:cond (aa .geq (c:Int) 65) (aa .leq (c:Int) 90) false=decide (65<=c/\c<=90):=xn (yQ c 65) (yL c 90);rw[e1,e2];unfold gT;cases decide (97<=c/\c<=122) <;> cases decide (65<=c/\c<=90) <;> rfl
theorem Ow(c:Nat):cond (aa .geq (c:Int) 48) (aa .leq (c:Int) 57) false=uV c:=xn (yQ c 48) (yL c 57)
theorem Ea(c:Nat):cond (cond (gT c) true (uV c)) true (aa .eql (c:Int) 95)=oY c:=by
 unfold oY
 have:aa .eql (c:Int) 95=decide (c=95):=by
  rw[amu];simp only[aa,beq_iff_eq,ao0];omega
 rw[this];cases gT c <;> cases uV c <;> rfl
theorem IQ(c:Nat):FP 389 [u8 c] (bl (gT c)):=by
 refine am func389 ?_;refine ai ?_;exact ao6 bl (adx c)
theorem UQ(c:Nat):FP 440 [u8 c] (bl (uV c)):=by
 refine am func440 ?_;refine ai ?_;exact ao6 bl (Ow c)
theorem UM(c:Nat):FP 390 [u8 c] (bl (oY c)):=by
 refine am func390 ?_;refine gc (IQ c) ?_;refine cm (fun _=>(UQ c)) ?_;refine ai ?_;exact ao6 bl (Ea c)
theorem OC(c:Nat):FP 290 [u8 c] (bl (gT c)):=by
 refine am func290 ?_;refine ai ?_;exact ao6 bl (Ul c)
theorem adq(c:Nat):FP 292 [u8 c] (bl (uV c)):=by
 refine am func292 ?_;refine ai ?_;exact ao6 bl (Ow c)
theorem aa0(s:ByteArray)(hs:s.size<=281474976710656):FP 294 [.v (.string s)] (i64 (il s)):=by
 refine am func294 ?_;refine gs (gy rfl rfl rfl (fun h=>C3 (.opt rfl (o1 h)) (.const _) T9 rfl oz (by have:=OL h;omega) rfl)) ?_;refine cm (fun _=>(IQ (fF s 0))) ?_;refine gC (fun z=>?_) (fun z=>?_)
 ·have h0:il s=0:=X4 z;refine ai ?_;rw[h0];rfl
 obtain⟨h0,h1⟩:=Tj z;refine aY [0] [] (fun(n:Nat)=>[pP 3 (i64 n)]) (fun _=>[]) (fun n=>1<=n/\n<=s.size/\iD s 1 (s.size-1)=iD s n (s.size-n)) (fun n=>s.size-n) 1 ⟨anp _,h0,rfl⟩ ?_;rintro n ⟨ot,hn,hw⟩ K1 J1;refine gs (gy rfl rfl rfl (fun h=>C3 (.opt rfl (o1 h)) (.opt rfl (o1 h)) T9 rfl oz (by have:=bf h;omega) rfl)) ?_;refine cm (fun _=>(UM (fF s n))) ?_;refine gC (fun z=>?_) (fun z=>?_)
 ·have h2:n<s.size/\oY (fF s n)=true:=TT z;refine ga aU ?_;exact aS J1 (n+1) ⟨by omega,by omega,by rw[hw,show s.size-n=(s.size-(n+1))+1 by omega];simp only[iD,h2.2,if_true]⟩
 have h2:n<s.size->oY (fF s n)=false:=aid z
 have h3:il s=n:=by
  unfold il;rw[aoz ⟨h0,h1⟩,hw];rcases anu n s.size with h |h
  ·rw[show s.size-n=(s.size-(n+1))+1 by omega];simp only[iD,h2 h,ams,if_false]
  ·rw[show s.size-n=0 by omega];rfl
 refine ai ?_;rw[h3]
theorem yi(s:ByteArray)(hs:s.size<=281474976710656):FP 168 [.v (.string s)] (bl (kL s)):=by
 refine am func168 ?_;refine gc (aa0 s hs) ?_;refine ai ?_;exact ao6 bl (ad0 s)
theorem AK(s:ByteArray)(i:Nat):FP 291 [.v (.string s),i64 i] (u8 (fF s i)):=by
 refine am func291 ?_;refine gC (fun z=>?_) (fun z=>?_)
 ·have h0:=bf z;refine gs (C3 (.tmp rfl) (.tmp rfl) T9 rfl oz oz rfl) ?_;refine ai ?_;rfl
 have h0:=wE z;refine ai ?_;rw[NY oz];rfl
theorem afr(s:ByteArray)(hs:s.size<=281474976710656):FP 164 [.v (.string s),i64 0] (i64 ((if gT (fF s 0)then iD s 0 s.size else 0:Nat))):=by
 refine am func164 ?_;refine gc (AK s 0) ?_;refine gc (OC (fF s 0)) ?_;refine gC (fun z=>?_) (fun z=>?_)
 ·have h0:gT (fF s 0)=false:=by simpa using z
  refine ai ?_;rw[h0];rfl
 have h0:gT (fF s 0)=true:=by simpa using z
 refine aY [0] [] (fun(n:Nat)=>[pP 1 (i64 n)]) (fun _=>[]) (fun n=>n<=s.size/\iD s 0 s.size=iD s n (s.size-n)) (fun n=>s.size-n) 0 ⟨ans _,rfl⟩ ?_;rintro n ⟨hn,hw⟩ K1 J1;refine gc (AK s n) ?_;refine gc (OC (fF s n)) ?_;refine cm (fun _=>(AK s n)) ?_;refine cm (fun _=>(adq (fF s n))) ?_;refine cm (fun _=>(AK s n)) ?_;refine gC (fun z=>?_) (fun z=>?_)
 ·have h1:oY (fF s n)=true:=(Ea _).symm.trans z
  have h2:n<s.size:=by
   rcases anu n s.size with h |h
   ·exact h
   ·rw[NY h]at h1;cases h1
  refine ga aU ?_;exact aS J1 (n+1) ⟨by omega,by rw[hw,show s.size-n=(s.size-(n+1))+1 by omega];simp only[iD,h1,if_true]⟩
 have h1:oY (fF s n)=false:=(Ea _).symm.trans z
 have h2:iD s 0 s.size=n:=by
  rw[hw];rcases anu n s.size with h |h
  ·rw[show s.size-n=(s.size-(n+1))+1 by omega];simp only[iD,h1,ams,if_false]
  ·rw[show s.size-n=0 by omega];rfl
 refine ai ?_;rw[h0,h2];rfl
theorem yb(s:ByteArray)(hs:s.size<=281474976710656):FP 71 [.v (.string s)] (bl (kL s)):=by
 refine am func71 ?_;refine cm (fun _=>(afr s hs)) ?_;refine ai ?_;exact ao6 bl (VZ s)
theorem vK(i:Int)(n:Nat):FP 296 [i64 i,i64 n] (bl (bT i n)):=by
 refine am func296 ?_;refine ai ?_;exact ao6 bl (Ot i n)
theorem abd(bs:List Bd)(dV:∀b∈bs,b.ok)(hl:bs.length<=281474976710656):FP 169 [.lst 2 (bs.map Bd.av)] (bU (it bs.length (fZ bs))):=by
 refine am func169 ?_;refine gl ?_;refine aY [0,11,12] [] (fun(i:Nat)=>[pP 13 (i64 i)]) (fun _=>[]) (fun i=>i<=bs.length/\∀j,j<i->fZ bs j=0) (fun i=>bs.length-i) 0 ⟨ans _,fun j h=>by omega⟩ ?_;rintro i ⟨hi,hj⟩ K1 J1;refine gC (fun z=>?_) (fun z=>?_)
 ·have ah:=bf z;obtain⟨b,hb⟩:=aB ah;have dX:bs.getD i default=b:=aw hb;have o5:=dV b (ank hb);have ka:=sO Bd.name hb;refine gi (aL hb) ?_;refine gc (yi b.name o5.name) ?_;refine gC (fun z=>?_) (fun z=>?_)
  ·have h1:=dP z;have e1:fZ bs i=5:=by unfold fZ; rw[dX,aoz h1]
   refine ai ?_;rw[fU ah hj (by rw[e1];decide),e1];rfl
  have h1:=dN z;refine gs (dS (.tmp rfl) (.none _) (.some _ (.tmp rfl) oz) T22 rfl T139 rfl oz (by simp only[anl];omega) rfl) ?_;refine ge rfl ?_;refine aY [0,3,4,11,12,13] [4] (fun(k:Nat)=>[pP 25 (.lst 2 ((bs.take i).map Bd.av)),pP 26 (i64 i),pP 27 (i64 k)]) (fun _=>[]) (fun k=>k<=i/\(bs.take k).any (fun y=>fm y.name b.name)=false) (fun k=>i-k) 0 ⟨ans _,rfl⟩ ?_ (h1:=(.cons rfl (.of (yC 2 Bd.av bs i)) (.cons rfl (Sub.int (by simp;omega)) (.k .nil))));rintro k ⟨hk,hd⟩ K2 J2;refine gC (fun z=>?_) (fun z=>?_)
  ·have bw:=bf z;obtain⟨y,hy'⟩:∃ y,(bs.take i)[k]?=some y:=aB (by simp; omega);have hy:=(yM hy').1;refine gi (aL hy') ?_;refine gC (fun z=>?_) (fun z=>?_)
   ·have h2:fm y.name b.name=true:=z;have e1:fZ bs i=6:=by unfold fZ; rw[dX,aoy (by rw[h1]; decide),aoz (by rw[ka]; exact pM hy bw h2)]
    refine ai ?_;rw[fU ah hj (by rw[e1];decide),e1];rfl
   have h2:fm y.name b.name=false:=z;refine ga aU ?_;exact aS J2 (k+1) ⟨bw,oO hy hd h2⟩
  have bw:=bu hk z;subst bw;have dA:¬jN (bs.map Bd.name) k=true:=by rw[ka,hd];decide
  refine gl ?_;refine gC (fun z=>?_) (fun z=>?_)
  ·have h3:8<b.pts.length:=lY z;have e1:fZ bs k=4:=by unfold fZ; rw[dX,aoy (by rw[h1]; decide),aoy dA,aoz h3]
   refine ai ?_;rw[fU ah hj (by rw[e1];decide),e1];rfl
  have h3:b.pts.length<=8:=jQ z;have e1:fZ bs k=it b.pts.length (fW b.pts):=by unfold fZ;rw[dX,aoy (by rw[h1];decide),aoy dA,aoy oz]
  refine gl ?_;refine aY [0,4,11,12,13,44,45] [4] (fun(p:Nat)=>[pP 46 (i64 p)]) (fun _=>[]) (fun p=>p<=b.pts.length/\∀j,j<p->fW b.pts j=0) (fun p=>b.pts.length-p) 0 ⟨ans _,fun j h=>by omega⟩ ?_;rintro p ⟨hp,pv⟩ K3 J3;refine gC (fun z=>?_) (fun z=>?_)
  ·have iA:=bf z;obtain⟨m,hm⟩:=aB iA;have rz:b.pts.getD p default=m:=aw hm;have sW:=ank hm;have Ag:=sO Mk.name hm;have nH:=o5.pts m sW;refine gi (aL hm) ?_;refine gc (yi m.name (o5.names m sW)) ?_;refine gC (fun z=>?_) (fun z=>?_)
   ·have h4:=dP z;have e2:fW b.pts p=5:=by unfold fW; rw[rz,aoz h4]
    have e3:fZ bs k=5:=by rw[e1,fU iA pv (by rw[e2];decide),e2]
    refine ai ?_;rw[fU ah hj (by rw[e3];decide),e3];rfl
   have h4:=dN z;refine gs (dS (.tmp rfl) (.none _) (.some _ (.tmp rfl) oz) T137 rfl T141 rfl oz (by simp only[anl];omega) rfl) ?_;refine ge rfl ?_;refine aY [0,4,8,11,12,13,44,45,46] [4,8] (fun(q:Nat)=>[pP 59 (.lst 7 ((b.pts.take p).map Mk.av)),pP 60 (i64 p),pP 61 (i64 q)]) (fun _=>[]) (fun q=>q<=p/\(b.pts.take q).any (fun y=>fm y.name m.name)=false) (fun q=>p-q) 0 ⟨ans _,rfl⟩ ?_ (h1:=(.cons rfl (.of (yC 7 Mk.av b.pts p)) (.cons rfl (Sub.int (by simp;omega)) (.k .nil))));rintro q ⟨hq,pz⟩ K4 J4;refine gC (fun z=>?_) (fun z=>?_)
   ·have dM:=bf z;obtain⟨y,hy'⟩:∃ y,(b.pts.take p)[q]?=some y:=aB (by simp; omega);have hy:=(yM hy').1;refine gi (aL hy') ?_;refine gC (fun z=>?_) (fun z=>?_)
    ·have h5:fm y.name m.name=true:=z;have e2:fW b.pts p=6:=by unfold fW; rw[rz,aoy (by rw[h4]; decide),aoz (by rw[Ag]; exact pM hy dM h5)]
     have e3:fZ bs k=6:=by rw[e1,fU iA pv (by rw[e2];decide),e2]
     refine ai ?_;rw[fU ah hj (by rw[e3];decide),e3];rfl
    have h5:fm y.name m.name=false:=z;refine ga aU ?_;exact aS J4 (q+1) ⟨dM,oO hy pz h5⟩
   have dM:=bu hq z;subst dM;have Ah:¬jN (b.pts.map Mk.name) q=true:=by rw[Ag,pz];decide
   refine gc (xw m.x nH.x) ?_;refine cm (fun _=>(xw m.y nH.y)) ?_;refine gC (fun z=>?_) (fun z=>?_)
   ·have h6:=tC z;have e2:fW b.pts q=3:=by unfold fW; rw[rz,aoy (by rw[h4]; decide),aoy Ah,aoy (by rintro ⟨g1,g2⟩; rcases h6 with g | g; (rw[g1] at g; cases g); (rw[g2] at g; cases g))]
    have e3:fZ bs k=3:=by rw[e1,fU iA pv (by rw[e2];decide),e2]
    refine ai ?_;rw[fU ah hj (by rw[e3];decide),e3];rfl
   have h6:=tK z;have e2:fW b.pts q=0:=by unfold fW;rw[rz,aoy (by rw[h4];decide),aoy Ah,aoz h6]
   refine ga aU ?_;exact aS J3 (q+1) ⟨iA,fun j h9=>by rcases anu j q with g |g;exact pv j g;(have:j=q:=by omega);subst this;exact e2⟩
  have iA:=bu hp z;subst iA;have e2:fZ bs k=0:=e1.trans (rF pv);refine ga aU ?_;exact aS J1 (k+1) ⟨ah,fun j h9=>by rcases anu j k with g |g;exact hj j g;(have:j=k:=by omega);subst this;exact e2⟩
 have ah:=bu hi z;subst ah;refine ai ?_;rw[rF hj];rfl
theorem Yg(l:Li)(hl:l.ok)(j:Jt):FP 295 [l.av,j.av] (bU (f8 l j)):=by
 refine am func295 ?_;refine gC (fun z=>?_) (fun z=>?_)
 ·have h1:=JO z;refine ai ?_;unfold f8;rw[aoz h1];rfl
 have h1:=QE z;refine gl ?_;refine gc (vK j.a l.bo.length) ?_;refine cV ?_;refine cm (fun _=>(vK j.b l.bo.length)) ?_;refine gC (fun z=>?_) (fun z=>?_)
 ·have h2:=tC z;refine ai ?_;unfold f8;rw[aoy h1,aoz h2];rfl
 have h2:=tK z;have lJ:¬(bT j.a l.bo.length=false\/bT j.b l.bo.length=false):=by rw[h2.1,h2.2];simp
 obtain⟨A,hA,pA,mA,zA0⟩:=tH h2.1;obtain⟨B,hB,pB,mB,zB0⟩:=tH h2.2;refine gC (fun z=>?_) (fun z=>?_)
 ·have h3:=dI z;refine ai ?_;unfold f8;rw[aoy h1,aoy lJ,aoz h3];rfl
 have h3:=fq z;refine gi (aL hB) ?_;refine gi (aL hA) ?_;refine gl ?_;refine gc (vK j.point A.pts.length) ?_;refine cV ?_;refine cm (fun _=>(vK j.on B.pts.length)) ?_;refine gD ?_;refine gC (fun z=>?_) (fun z=>?_)
 ·have h4:=tC z;refine ai ?_;unfold f8;rw[aoy h1,aoy lJ,aoy h3,pA,pB,aoz h4];rfl
 have h4:=tK z;have pC:¬(bT j.point A.pts.length=false\/bT j.on B.pts.length=false):=by rw[h4.1,h4.2];simp
 refine gC (fun z=>?_) (fun z=>?_)
 ·have h5:=dI z;refine gC (fun z=>?_) (fun z=>?_)
  ·have h6:=xu z;refine ai ?_;unfold f8;rw[aoy h1,aoy lJ,aoy h3,pA,pB,aoy pC,aoz h5,aoz h6];rfl
  have h6:=C9 z;refine ai ?_;unfold f8;rw[aoy h1,aoy lJ,aoy h3,pA,pB,aoy pC,aoz h5,aoy (by rw[h6];simp)];rfl
 have h5:=fq z;refine gl ?_;refine gc (vK j.to B.pts.length) ?_;refine gC (fun z=>?_) (fun z=>?_)
 ·have h6:=dP z;refine ai ?_;unfold f8;rw[aoy h1,aoy lJ,aoy h3,pA,pB,aoy pC,aoy h5,aoz h6];rfl
 have h6:=dN z;obtain⟨m1,g1,d1,mm1,z1⟩:=vn h4.2;obtain⟨m2,g2,d2,mm2,z2⟩:=vn h6;have mo1:=(hl.bo B mB).pts m1 mm1;have mo2:=(hl.bo B mB).pts m2 mm2;refine gi (aL g1) ?_;refine gi (aL g2) ?_;refine gD ?_;refine gc (I1 m1.x m2.x mo1.x mo2.x) ?_;refine cm (fun _=>(I1 m1.y m2.y mo1.y mo2.y)) ?_;refine gC (fun z=>?_) (fun z=>?_)
 ·have h7:=Ox z;refine ai ?_;unfold f8;rw[aoy h1,aoy lJ,aoy h3,pA,pB,aoy pC,aoy h5,aoy (by rw[h6];decide),d1,d2,aoz h7];rfl
 have h7:=Kc z;refine ai ?_;unfold f8;rw[aoy h1,aoy lJ,aoy h3,pA,pB,aoy pC,aoy h5,aoy (by rw[h6];decide),d1,d2,aoy h7];rfl
theorem aao(l:Li)(hl:l.ok):FP 170 [l.av] (bU (gN l)):=by
 have tg:=hl.lj;refine am func170 ?_;refine gl ?_;refine gC (fun z=>?_) (fun z=>?_)
 ·have h0:16<l.jo.length:=lY z;refine ai ?_;unfold gN;rw[aoz h0];rfl
 have h0:l.jo.length<=16:=jQ z;have e0:gN l=it l.jo.length (jr l):=by unfold gN;rw[aoy oz]
 refine gl ?_;refine aY [1,14,15] [1] (fun(i:Nat)=>[pP 16 (i64 i)]) (fun _=>[]) (fun i=>i<=l.jo.length/\∀j,j<i->jr l j=0) (fun i=>l.jo.length-i) 0 ⟨ans _,fun j h=>by omega⟩ ?_;rintro i ⟨hi,hj⟩ K1 J1;refine gC (fun z=>?_) (fun z=>?_)
 ·have ah:=bf z;obtain⟨b,hb⟩:=aB ah;have dX:l.jo.getD i default=b:=aw hb;have ka:=sO Jt.name hb;refine gi (aL hb) ?_;refine gc (yi b.name (hl.jnames b (ank hb))) ?_;refine gC (fun z=>?_) (fun z=>?_)
  ·have h1:=dP z;have e1:jr l i=5:=by unfold jr; rw[dX,aoz h1]
   refine ai ?_;rw[e0,fU ah hj (by rw[e1];decide),e1];rfl
  have h1:=dN z;refine gs (dS (.tmp rfl) (.none _) (.some _ (.tmp rfl) oz) T23 rfl T135 rfl oz (by simp only[anl];omega) rfl) ?_;refine ge rfl ?_;refine aY [1,3,4,14,15,16] [1,4] (fun(k:Nat)=>[pP 29 (.lst 7 ((l.jo.take i).map Jt.av)),pP 30 (i64 i),pP 31 (i64 k)]) (fun _=>[]) (fun k=>k<=i/\(l.jo.take k).any (fun y=>fm y.name b.name)=false) (fun k=>i-k) 0 ⟨ans _,rfl⟩ ?_ (h1:=(.cons rfl (.of (yC 7 Jt.av l.jo i)) (.cons rfl (Sub.int (by simp;omega)) (.k .nil))));rintro k ⟨hk,hd⟩ K2 J2;refine gC (fun z=>?_) (fun z=>?_)
  ·have bw:=bf z;obtain⟨y,hy'⟩:∃ y,(l.jo.take i)[k]?=some y:=aB (by simp; omega);have hy:=(yM hy').1;refine gi (aL hy') ?_;refine gC (fun z=>?_) (fun z=>?_)
   ·have h2:fm y.name b.name=true:=z;have e1:jr l i=6:=by unfold jr; rw[dX,aoy (by rw[h1]; decide),aoz (by rw[ka]; exact pM hy bw h2)]
    refine ai ?_;rw[e0,fU ah hj (by rw[e1];decide),e1];rfl
   have h2:fm y.name b.name=false:=z;refine ga aU ?_;exact aS J2 (k+1) ⟨bw,oO hy hd h2⟩
  have bw:=bu hk z;subst bw;have dA:¬jN (l.jo.map Jt.name) k=true:=by rw[ka,hd];decide
  have e1:jr l k=f8 l b:=by unfold jr;rw[dX,aoy (by rw[h1];decide),aoy dA]
  refine gc (Yg l hl b) ?_;refine gC (fun z=>?_) (fun z=>?_)
  ·have h3:=et z;refine ai ?_;rw[e0,fU ah hj (by rw[e1];exact h3),e1]
  have h3:=d7 z;refine ga aU ?_;exact aS J1 (k+1) ⟨ah,fun j h9=>by rcases anu j k with g |g;exact hj j g;(have:j=k:=by omega);subst this;exact e1.trans h3⟩
 have ah:=bu hi z;subst ah;refine ai ?_;rw[e0,rF hj];rfl
theorem aev(l:Li)(hl:l.ok):FP 171 [l.av] (bU (jM l)):=by
 have xh:=hl.ld;refine am func171 ?_;refine gl ?_;refine gC (fun z=>?_) (fun z=>?_)
 ·have h0:2<l.dv.length:=lY z;refine ai ?_;unfold jM;rw[aoz h0];rfl
 have h0:l.dv.length<=2:=jQ z;have e0:jM l=it l.dv.length (fN l):=by unfold jM;rw[aoy oz]
 refine gl ?_;refine aY [1,15,16] [1] (fun(i:Nat)=>[pP 17 (i64 i)]) (fun _=>[]) (fun i=>i<=l.dv.length/\∀j,j<i->fN l j=0) (fun i=>l.dv.length-i) 0 ⟨ans _,fun j h=>by omega⟩ ?_;rintro i ⟨hi,hj⟩ K1 J1;refine gC (fun z=>?_) (fun z=>?_)
 ·have ah:=bf z;obtain⟨b,hb⟩:=aB ah;have dX:l.dv.getD i default=b:=aw hb;have ka:=sO Dr.name hb;refine gi (aL hb) ?_;refine gc (yi b.name (hl.dnames b (ank hb))) ?_;refine gC (fun z=>?_) (fun z=>?_)
  ·have h1:=dP z;have e1:fN l i=5:=by unfold fN; rw[dX,aoz h1]
   refine ai ?_;rw[e0,fU ah hj (by rw[e1];decide),e1];rfl
  have h1:=dN z;refine gs (dS (.tmp rfl) (.none _) (.some _ (.tmp rfl) oz) T24 rfl T151 rfl oz (by simp only[anl];omega) rfl) ?_;refine ge rfl ?_;refine aY [1,3,4,15,16,17] [1,4] (fun(k:Nat)=>[pP 30 (.lst 2 ((l.dv.take i).map Dr.av)),pP 31 (i64 i),pP 32 (i64 k)]) (fun _=>[]) (fun k=>k<=i/\(l.dv.take k).any (fun y=>fm y.name b.name)=false) (fun k=>i-k) 0 ⟨ans _,rfl⟩ ?_ (h1:=(.cons rfl (.of (yC 2 Dr.av l.dv i)) (.cons rfl (Sub.int (by simp;omega)) (.k .nil))));rintro k ⟨hk,hd⟩ K2 J2;refine gC (fun z=>?_) (fun z=>?_)
  ·have bw:=bf z;obtain⟨y,hy'⟩:∃ y,(l.dv.take i)[k]?=some y:=aB (by simp; omega);have hy:=(yM hy').1;refine gi (aL hy') ?_;refine gC (fun z=>?_) (fun z=>?_)
   ·have h2:fm y.name b.name=true:=z;have e1:fN l i=6:=by unfold fN; rw[dX,aoy (by rw[h1]; decide),aoz (by rw[ka]; exact pM hy bw h2)]
    refine ai ?_;rw[e0,fU ah hj (by rw[e1];decide),e1];rfl
   have h2:fm y.name b.name=false:=z;refine ga aU ?_;exact aS J2 (k+1) ⟨bw,oO hy hd h2⟩
  have bw:=bu hk z;subst bw;have dA:¬jN (l.dv.map Dr.name) k=true:=by rw[ka,hd];decide
  refine gl ?_;refine gc (vK b.body l.bo.length) ?_;refine gC (fun z=>?_) (fun z=>?_)
  ·have h3:=dP z;have e1:fN l k=9:=by unfold fN; rw[dX,aoy (by rw[h1]; decide),aoy dA,aoz h3]
   refine ai ?_;rw[e0,fU ah hj (by rw[e1];decide),e1];rfl
  have h3:=dN z;refine gC (fun z=>?_) (fun z=>?_)
  ·have h4:=dI z;have e1:fN l k=7:=by unfold fN; rw[dX,aoy (by rw[h1]; decide),aoy dA,aoy (by rw[h3]; decide),aoz h4]
   refine ai ?_;rw[e0,fU ah hj (by rw[e1];decide),e1];rfl
  have h4:=fq z;have e1:fN l k=if(l.dv.take k).any (fun d=>decide (d.body=b.body))=true then 6 else 0:=by unfold fN;rw[dX,aoy (by rw[h1];decide),aoy dA,aoy (by rw[h3];decide),aoy h4]
  refine gs (dS (.tmp rfl) (.none _) (.some _ (.tmp rfl) oz) T24 rfl T151 rfl oz (by simp only[anl];omega) rfl) ?_;refine ge rfl ?_;refine aY [1,4,15,16,17] [1,4] (fun(q:Nat)=>[pP 58 (.lst 2 ((l.dv.take k).map Dr.av)),pP 59 (i64 k),pP 60 (i64 q)]) (fun _=>[]) (fun q=>q<=k/\(l.dv.take q).any (fun d=>decide (d.body=b.body))=false) (fun q=>k-q) 0 ⟨ans _,rfl⟩ ?_ (h1:=(.cons rfl (.of (yC 2 Dr.av l.dv k)) (.cons rfl (Sub.int (by simp;omega)) (.k .nil))));rintro q ⟨hq,pz⟩ K3 J3;refine gC (fun z=>?_) (fun z=>?_)
  ·have dM:=bf z;obtain⟨y,hy'⟩:∃ y,(l.dv.take k)[q]?=some y:=aB (by simp; omega);have hy:=(yM hy').1;refine gi (aL hy') ?_;refine gC (fun z=>?_) (fun z=>?_)
   ·have h5:decide (y.body=b.body)=true:=ao3 (dI z);have e2:fN l k=6:=by rw[e1,aoz (pM hy dM h5)]
    refine ai ?_;rw[e0,fU ah hj (by rw[e2];decide),e2];rfl
   have h5:decide (y.body=b.body)=false:=ao4 (fq z);refine ga aU ?_;exact aS J3 (q+1) ⟨dM,oO hy pz h5⟩
  have dM:=bu hq z;subst dM;have e2:fN l q=0:=by rw[e1,pz];rfl
  refine ga aU ?_;exact aS J1 (q+1) ⟨ah,fun j h9=>by rcases anu j q with g |g;exact hj j g;(have:j=q:=by omega);subst this;exact e2⟩
 have ah:=bu hi z;subst ah;refine ai ?_;rw[e0,rF hj];rfl
theorem QA(l:Li)(hl:l.ok):FP 75 [l.av] (bU (aM l)):=by
 have dU:=hl.lb;refine am func75 ?_;refine gc (yi l.name hl.name) ?_;refine gC (fun z=>?_) (fun z=>?_)
 ·have h1:=dP z;refine ai ?_;unfold aM;rw[aoz h1];rfl
 have h1:=dN z;refine gl ?_;refine gC (fun z=>?_) (fun z=>?_)
 ·have h2:=Jn z;refine ai ?_;unfold aM;rw[aoy (by rw[h1];decide),aoz h2];rfl
 have h2:=JT z;refine gl ?_;refine gC (fun z=>?_) (fun z=>?_)
 ·have h3:8<l.bo.length:=lY z;refine ai ?_;unfold aM;rw[aoy (by rw[h1];decide),aoy h2,aoz h3];rfl
 have h3:l.bo.length<=8:=jQ z;have e0:aM l=if kS l≠0 then kS l else if gN l≠0 then gN l else jM l:=by unfold aM;rw[aoy (by rw[h1];decide),aoy h2,aoy oz]
 refine gc (abd l.bo hl.bo dU) ?_;refine gC (fun z=>?_) (fun z=>?_)
 ·have h4:kS l≠0:=et z;refine ai ?_;rw[e0,aoz h4];rfl
 have h4:kS l=0:=d7 z;refine gc (aao l hl) ?_;refine gC (fun z=>?_) (fun z=>?_)
 ·have h5:=et z;refine ai ?_;rw[e0,aoy (by rw[h4];simp),aoz h5]
 have h5:=d7 z;refine gc (aev l hl) ?_;refine ai ?_;rw[e0,aoy (by rw[h4];simp),aoy (by rw[h5];simp)]
theorem Fs(d:Nat)(hd:aks d 1000=true)(l:Li)(hl:l.bo.length<=1000)(b:Nat)(hb:b<l.bo.length) :
  Con prog 273 [l.av,i64 b] [] (.ms d 1 0 l.bo.length) [(d,some (.row 1 ((dh l.bo.length b).map bl)))]:=by
 refine gF func273 (fun k z h=>by cases h) ?_;refine gl ?_;refine gs (kq (.tmp rfl) T320 rfl T4 rfl rfl oz (by dsimp only;omega) rfl) ?_;refine gs (qY (.tmp rfl) (.tmp rfl) T320 rfl T4 rfl oz oz rfl) ?_;refine gs (eY (.tmp rfl) rfl (by rw[aoh,aoz (by simp;omega)]) rfl (.const _) rfl rfl T4 rfl rfl) ?_ (3,0);refine gW (Wk.of (sl:=[pP 5 (.ms 9 1 0 l.bo.length)]) (hp:=[pP 9 (.row 1 ((dh l.bo.length b).map bl))]) (.cons rfl (.of (by rw[aol])) .nil) (.cons rfl (.of (by unfold dh;simp only[aou,aoq,akv,aol];rfl)) .nil)) ?_ (3,0);refine gW (Wk.rk (k:=9) (d:=900) rfl rfl) ?_;refine gR ?_;exact aD.own1 rfl hd rfl
theorem ago(l:Li)(hl:l.bo.length<=1000)(b:Nat)(hb:b<l.bo.length):FP 273 [l.av,i64 b] (.lst 1 ((dh l.bo.length b).map bl)):=by
 have h:=Con.freeze (by rw[anl,kC];omega) (Fs 0 rfl l hl b hb);rw[aov,an1 (by rw[anl,kC];exact anp _)]at h;exact h
theorem YH(l:Li)(hl:l.ok)(b:Int):FP 429 [l.av,i64 b] (bl (qV l b)):=by
 have xh:=hl.ld;refine am func429 ?_;refine gl ?_;refine aY [1,8,9] [] (fun(i:Nat)=>[pP 10 (i64 i)]) (fun _=>[]) (fun i=>i<=l.dv.length/\(l.dv.take i).any (fun d=>decide (d.body=b))=false) (fun i=>l.dv.length-i) 0 ⟨ans _,rfl⟩ ?_;rintro i ⟨hi,hj⟩ K1 J1;refine gC (fun z=>?_) (fun z=>?_)
 ·have ah:=bf z;obtain⟨d,hd⟩:=aB ah;refine gi (aL hd) ?_;refine gC (fun z=>?_) (fun z=>?_)
  ·have h1:d.body=b:=dI z;refine ai ?_;unfold qV;rw[ald.2 ⟨d,ank hd,ao3 h1⟩];rfl
  have h1:d.body≠b:=fq z;refine ga aU ?_;exact aS J1 (i+1) ⟨ah,oO hd hj (ao4 h1)⟩
 have ah:=bu hi z;subst ah;rw[an3]at hj;refine ai ?_;unfold qV;rw[hj];rfl
theorem LT(l:Li)(hl:l.ok)(au:aM l=0)(kind body:Int)(oth:List Bool)(ho:oth.length=l.bo.length):FP 372 [l.av,i64 kind,i64 body,.lst 1 (oth.map bl)] (i64 (jointI l kind body oth)):=by
 have tg:=hl.lj;refine am func372 ?_;refine gl ?_;refine aY [1,2,3,12,13] [] (fun(i:Nat)=>[pP 14 (i64 i)]) (fun _=>[]) (fun i=>i<=l.jo.length/\∀j,j<i->(!pL kind body oth (l.jo.getD j default))=true) (fun i=>l.jo.length-i) 0 ⟨ans _,fun j h=>by omega⟩ ?_;rintro i ⟨hi,hj⟩ K1 J1;refine gC (fun z=>?_) (fun z=>?_)
 ·have ah:=bf z;obtain⟨j,mz⟩:=aB ah;have tf:l.jo.getD i default=j:=aw mz;obtain⟨i1,i2,_⟩:=dZ au mz;have b1:=cS i1;have b2:=cS i2;obtain⟨va,Rx⟩:∃v,oth[j.a.toNat]?=some v:=aB oz;obtain⟨vb,Ry⟩:∃v,oth[j.b.toNat]?=some v:=aB oz;have ea:kn oth j.a=va:=aw Rx;have eb:kn oth j.b=vb:=aw Ry;refine gi (aL mz) ?_;refine oM (fun _=>(lc (n:=j.b.toNat) oz Ry)) ?_;refine oM (fun _=>(lc (n:=j.a.toNat) oz Rx)) ?_;refine gC (fun z=>?_) (fun z=>?_)
  ·have h2:pL kind body oth j=true:=by rw[<- OU (va:=va) (vb:=vb) ea eb]; exact z
   refine ai ?_;unfold jointI;rw[lL ah hj (by rw[tf,h2];rfl)];rfl
  have h2:pL kind body oth j=false:=by rw[<- OU (va:=va) (vb:=vb) ea eb];exact z
  refine ga aU ?_;exact aS J1 (i+1) ⟨ah,fun k h9=>by rcases anu k i with g |g;exact hj k g;(have:k=i:=by omega);subst this;rw[tf,h2];rfl⟩
 have ah:=bu hi z;subst ah;refine ai ?_;unfold jointI;rw[mI hj];rfl
theorem W0(l:Li)(hl:l.ok)(kw:List Bool)(b:Nat)(hb:b<kw.length):FP 373 [l.av,.lst 1 (kw.map bl),i64 b] (bl (freeB l kw b)):=by
 obtain⟨v,hv⟩:=aB hb;have ev:kn kw (b:Int)=v:=aw (by rw[aol];exact hv);refine am func373 ?_;refine gi (aL hv) ?_;refine cm (fun _=>(YH l hl b)) ?_;refine ai ?_;unfold freeB;rw[ev];exact ao6 bl (jw _ _)
theorem xP{l:Li}{kw:List Bool}(hl:l.ok)(au:aM l=0)(kind body:Int)(hk:kw.length=l.bo.length) :
  Con prog 372 [l.av,i64 kind,i64 body,.ms 1000 1 0 kw.length] [pP 1000 (.row 1 (kw.map bl))] (i64 (jointI l kind body kw)) [pP 1000 (.row 1 (kw.map bl))]:=by
 refine Con.borrow (args:=[l.av,i64 kind,i64 body,.lst 1 (kw.map bl)]) 1000 1 (kw.map bl) rfl rfl rfl ?_ rfl (fun k' x h=>by cases h) (LT l hl au kind body kw hk);intro j x' hj
 match j,hj with
 |0,hj=>cases hj;exact .inl rfl
 |1,hj=>cases hj;exact .inl rfl
 |2,hj=>cases hj;exact .inl rfl
 |3,hj=>cases hj;exact .inr ⟨0,kw.length,rfl,by simp,by rw[aov,an1 (by simp)];rfl⟩
theorem FK{l:Li}{kw:List Bool}(hl:l.ok)(b:Nat)(hb:b<kw.length) :
  Con prog 373 [l.av,.ms 1000 1 0 kw.length,i64 b] [pP 1000 (.row 1 (kw.map bl))] (bl (freeB l kw b)) [pP 1000 (.row 1 (kw.map bl))]:=by
 refine Con.borrow (args:=[l.av,.lst 1 (kw.map bl),i64 b]) 1000 1 (kw.map bl) rfl rfl rfl ?_ rfl (fun k' x h=>by cases h) (W0 l hl kw b hb);intro j x' hj
 match j,hj with
 |0,hj=>cases hj;exact .inl rfl
 |1,hj=>cases hj;exact .inr ⟨0,kw.length,rfl,by simp,by rw[aov,an1 (by simp)];rfl⟩
 |2,hj=>cases hj;exact .inl rfl
theorem ab4(l:Li)(hl:l.ok)(au:aM l=0)(kw:List Bool)(hk:kw.length=l.bo.length):Con prog 274 [l.av,.ms 1000 1 0 kw.length] [pP 1000 (.row 1 (kw.map bl))] (.tup [((driverG l kw).getD default).av,bl (driverG l kw).isSome]) [pP 1000 (.row 1 (kw.map bl))]:=by
 have xh:=hl.ld;refine gF func274 (fun k z h=>bW h) ?_;refine gl ?_;refine aY [2,4,10,11] [2,4,1000] (fun(i:Nat)=>[pP 1 (.ms 1000 1 0 kw.length),pP 12 (i64 i)]) (fun _=>[]) (fun i=>i<=l.dv.length/\∀j,j<i->(!drHit l kw j)=true) (fun i=>l.dv.length-i) 0 ⟨ans _,fun j h=>by omega⟩ ?_;rintro i ⟨hi,hj⟩ K1 J1;refine gC (fun y=>?_) (fun y=>?_)
 ·have ah:=bf y;obtain⟨d,hd⟩:=aB ah;have rx:l.dv.getD i default=d:=aw hd;have hb:=cS (lZ au hd);obtain⟨v,hv⟩:∃ v,kw[d.body.toNat]?=some v:=aB oz;have ev:kn kw d.body=v:=aw hv;refine gi (aL hd) ?_;refine gs (qY (.tmp rfl) (.tmp rfl) T320 rfl T4 rfl oz oz rfl) ?_;refine gs (fR (.tmp rfl) rfl (by rw[akv,anr,hv]; rfl) T4 rfl rfl rfl) ?_;refine gC (fun y=>?_) (fun y=>?_)
  ·have h2:drHit l kw i=false:=by unfold drHit; rw[rx,ev,y]; rfl
   refine ga aU ?_;exact aS J1 (i+1) ⟨ah,fun k h9=>by rcases anu k i with g |g;exact hj k g;(have:k=i:=by omega);subst this;rw[h2];rfl⟩
  have o9:v=false:=y;refine gt (so (xP hl au 0 d.body hk) (.cons (.tmp rfl) (.cons (.const _) (b8 rfl rfl))) rfl rfl rfl) ?_;refine gC (fun y=>?_) (fun y=>?_)
  ·have h2:drHit l kw i=true:=by unfold drHit; rw[rx,ev,o9,ao3 (Ja y)]; rfl
   have hg:driverG l kw=some ⟨0,[d.body],[jointI l 0 d.body kw],i⟩:=by unfold driverG;rw[lL ah hj (by rw[h2];rfl),<- rx];rfl
   refine gR ?_;rw[hg];exact aD.keep (bH rfl)
  have h2:drHit l kw i=false:=by unfold drHit;rw[rx,ao4 (Mo y),amr]
  refine ga aU ?_;exact aS J1 (i+1) ⟨ah,fun k h9=>by rcases anu k i with g |g;exact hj k g;(have:k=i:=by omega);subst this;rw[h2];rfl⟩
 have ah:=bu hi y;subst ah;have hg:driverG l kw=none:=by unfold driverG;rw[mI hj];rfl
 refine gR ?_;exact aD.sub (aD.keep (bH rfl)) (by rw[hg];exact Sub.tup (.cons vf (.cons (.refl _) .nil)))
theorem ach(l:Li)(hl:l.ok)(au:aM l=0)(kw:List Bool)(hk:kw.length=l.bo.length):Con prog 275 [l.av,.ms 1000 1 0 kw.length] [pP 1000 (.row 1 (kw.map bl))] (.tup [((pairG l kw).getD default).av,bl (pairG l kw).isSome]) [pP 1000 (.row 1 (kw.map bl))]:=by
 have h8:=(dC au).2.2.2.1;refine gF func275 (fun k z h=>bW h) ?_;refine gl ?_;refine aY [2,4,12,13] [2,4,1000] (fun(i:Nat)=>[pP 1 (.ms 1000 1 0 kw.length),pP 14 (i64 i)]) (fun _=>[]) (fun i=>i<=l.bo.length/\∀j,j<i->(prAt l kw j).isNone=true) (fun i=>l.bo.length-i) 0 ⟨ans _,fun j h=>by omega⟩ ?_;rintro i ⟨hi,hj⟩ K1 J1;refine gC (fun y=>?_) (fun y=>?_)
 ·have ah:=bf y;refine ga aU ?_;refine aY [2,4,6,12,13,14] [2,4,1000] (fun (k:Nat)=>[pP 1 (.ms 1000 1 0 kw.length),pP 7 (i64 (i+1+k:Nat))]) (fun _=>[]) (fun k=>i+1+k<=l.bo.length/\∀ j,j<k->(!prHit l kw i (i+1+j))=true) (fun k=>l.bo.length - k) 0 ⟨by omega,fun j h=>by omega⟩ ?_;rintro k ⟨Dx,gM⟩ K2 J2;refine gl ?_;refine gC (fun y=>?_) (fun y=>?_)
  ·have bw:i+1+k<l.bo.length:=bf y;refine gt (so (FK hl i oz) (aV rfl rfl rfl) rfl rfl rfl) ?_;refine gu (gy rfl rfl rfl (fun h=>so (FK hl (i+1+k) oz) (.cons (.opt rfl (o1 h)) (.cons (.opt rfl (o1 h)) (.cons (.opt rfl (o1 h)) .nil))) rfl rfl rfl)) ?_;refine gC (fun y=>?_) (fun y=>?_)
   ·have h2:prHit l kw i (i+1+k)=false:=by unfold prHit; rw[show (freeB l kw i && freeB l kw ((i+1+k:Nat):Int))=false from by rcases tC y with g | g; (rw[g]; rfl); (rw[g,amr])]; rfl
    refine ga aU ?_;exact aS J2 (k+1) ⟨by omega,fun j h9=>by rcases anu j k with g |g;exact gM j g;(have:j=k:=by omega);subst this;rw[h2];rfl⟩
   have xi:=tK y;refine gt (so (xP hl au 0 i hk) (.cons (.tmp rfl) (.cons (.const _) (b8 rfl rfl))) rfl rfl rfl) ?_;refine gt (so (xP hl au 0 (i+1+k:Nat) hk) (.cons (.tmp rfl) (.cons (.const _) (b8 rfl rfl))) rfl rfl rfl) ?_;refine gc (ago l oz (i+1+k) bw) ?_;refine gc (LT l hl au 0 i (dh l.bo.length ((i+1+k:Nat):Int)) (kC _ _)) ?_;refine gD ?_;refine gC (fun y=>?_) (fun y=>?_)
   ·have h2:prHit l kw i (i+1+k)=true:=by unfold prHit; rw[xi.1,xi.2]; exact (Bi.symm.trans y)
    have nG:prAt l kw i=some (i+1+k):=by unfold prAt;rw[lL oz gM (by rw[h2];rfl),anh];congr 1;omega
    have hg:pairG l kw=some (prG l kw i (i+1+k)):=by unfold pairG;rw[lL ah hj (by rw[nG];rfl),anh,nG]
    refine gR ?_;rw[hg];exact aD.keep (bH rfl)
   have h2:prHit l kw i (i+1+k)=false:=by unfold prHit;rw[show(decide (0<=jointI l 0 i kw)&&decide (0<=jointI l 0 ((i+1+k:Nat):Int) kw)&&decide (0<=jointI l 0 i (dh l.bo.length ((i+1+k:Nat):Int))))=false from Bi.symm.trans y,amr]
   refine ga aU ?_;exact aS J2 (k+1) ⟨by omega,fun j h9=>by rcases anu j k with g |g;exact gM j g;(have:j=k:=by omega);subst this;rw[h2];rfl⟩
  have bw:¬i+1+k<l.bo.length:=fun h=>by have h1:=wE y;omega
  have nG:prAt l kw i=none:=by unfold prAt;rw[show l.bo.length-(i+1)=k by omega,mI gM];rfl
  refine ga aU ?_;exact aS J1 (i+1) ⟨ah,fun j h9=>by rcases anu j i with g |g;exact hj j g;(have:j=i:=by omega);subst this;rw[nG];rfl⟩
 have ah:=bu hi y;have hg:pairG l kw=none:=by unfold pairG;rw[<- ah,mI hj];rfl
 refine gR ?_;exact aD.sub (aD.keep (bH rfl)) (by rw[hg];exact Sub.tup (.cons vf (.cons (.refl _) .nil)))
theorem UO(l:Li)(hl:l.ok)(au:aM l=0)(kw:List Bool)(hk:kw.length=l.bo.length):Con prog 276 [l.av,.ms 1000 1 0 kw.length] [pP 1000 (.row 1 (kw.map bl))] (.tup [((singleG l kw).getD default).av,bl (singleG l kw).isSome]) [pP 1000 (.row 1 (kw.map bl))]:=by
 have h8:=(dC au).2.2.2.1;refine gF func276 (fun k z h=>bW h) ?_;refine gl ?_;refine aY [2,4,11,12] [2,4,1000] (fun(i:Nat)=>[pP 1 (.ms 1000 1 0 kw.length),pP 13 (i64 i)]) (fun _=>[]) (fun i=>i<=l.bo.length/\∀j,j<i->(!sgHit l kw j)=true) (fun i=>l.bo.length-i) 0 ⟨ans _,fun j h=>by omega⟩ ?_;rintro i ⟨hi,hj⟩ K1 J1;refine gC (fun y=>?_) (fun y=>?_)
 ·have ah:=bf y;refine gt (so (FK hl i oz) (aV rfl rfl rfl) rfl rfl rfl) ?_;refine gC (fun y=>?_) (fun y=>?_)
  ·have h2:sgHit l kw i=false:=by unfold sgHit; rw[dP y]; rfl
   refine ga aU ?_;exact aS J1 (i+1) ⟨ah,fun k h9=>by rcases anu k i with g |g;exact hj k g;(have:k=i:=by omega);subst this;rw[h2];rfl⟩
  have hf:=dN y;refine gt (so (xP hl au 0 i hk) (.cons (.tmp rfl) (.cons (.const _) (b8 rfl rfl))) rfl rfl rfl) ?_;refine gt (so (xP hl au 1 i hk) (.cons (.tmp rfl) (.cons (.const _) (b8 rfl rfl))) rfl rfl rfl) ?_;refine gD ?_;refine gC (fun y=>?_) (fun y=>?_)
  ·have h2:sgHit l kw i=false:=by unfold sgHit; rw[Qc y,amr]
   refine ga aU ?_;exact aS J1 (i+1) ⟨ah,fun k h9=>by rcases anu k i with g |g;exact hj k g;(have:k=i:=by omega);subst this;rw[h2];rfl⟩
  obtain⟨p0,s0⟩:=LW y;have s1:=(sH (l:=l) (kind:=1) (body:=i) (oth:=kw)).2;have h2:sgHit l kw i=true:=by unfold sgHit;rw[hf,ao3 p0,ao3 s0];rfl
  obtain⟨j,mz⟩:∃j,l.jo[(jointI l 1 i kw).toNat]?=some j:=aB oz;have tf:l.jo.getD (jointI l 1 i kw).toNat default=j:=aw mz;have hg:singleG l kw=some (sgG l kw i):=by unfold singleG;rw[lL ah hj (by rw[h2];rfl),anh]
  refine gi (lc (n:=(jointI l 1 i kw).toNat) oz mz) ?_;refine gC (fun y=>?_) (fun y=>?_)
  ·have ry:j.a=i:=dI y;refine gR ?_;rw[hg];unfold sgG;rw[tf];simp only[ani,aoz ry]
   exact aD.keep (bH rfl)
  have ry:j.a≠i:=fq y;refine gR ?_;rw[hg];unfold sgG;rw[tf];simp only[ani,aoy ry]
  exact aD.keep (bH rfl)
 have ah:=bu hi y;have hg:singleG l kw=none:=by unfold singleG;rw[<- ah,mI hj];rfl
 refine gR ?_;exact aD.sub (aD.keep (bH rfl)) (by rw[hg];exact Sub.tup (.cons vf (.cons (.refl _) .nil)))
theorem GZ{k:List Bool}{bs:List Int}{q:Nat}{x:Int}(h:bs[q]?=some x):bR k (bs.drop q)=bR (k.set x.toNat true) (bs.drop (q+1)):=by
 have hi:=(alj.1 h).1;rw[alq hi,(alj.1 h).2];rfl
theorem agq{l:Li}{n:Nat}{kw:List Bool}{out:List Gr}{g:Gr}(h:nextG l kw=some g):findFrom l (n+1) kw out=findFrom l n (bR kw g.bo) (out++[g]):=by
 show(match nextG l kw with |none=>_ |some g=>_)=_;rw[h]
theorem VF{l:Li}{n:Nat}{kw:List Bool}{out:List Gr}(h:nextG l kw=none):findFrom l n kw out=(kw,out):=by
 cases n with
 |zero=>rfl
 |succ n=>show(match nextG l kw with |none=>_ |some g=>_)=_;rw[h]
theorem F7{α:Type}{o:Option α}(h:o.isSome=false):o=none:=by cases o <;> simp_all
theorem OT{α:Type}{a b:Option α}(h:a.isSome=true):a=a.or b:=by cases a <;> simp_all
theorem Sa{l:Li}{kw:List Bool}(h:(driverG l kw).or (pairG l kw)=none):nextG l kw=singleG l kw:=by
 unfold nextG;rw[<- Option.or_assoc,h];rfl
theorem TP{l:Li}{kw:List Bool}(h:((driverG l kw).or (pairG l kw)).isSome=true):nextG l kw=(driverG l kw).or (pairG l kw):=by
 unfold nextG;rw[<- Option.or_assoc];exact(OT h).symm
theorem IV(l:Li)(hl:l.ok)(au:aM l=0):FP 147 [l.av] (.lst 4 ((findG l).map Gr.av)):=by
 have h8:=(dC au).2.2.2.1;have h0:=(dC au).2.2.2.2;refine am func147 ?_;refine gt (aR (Fs 900 rfl l oz 0 oz) (.cons (.tmp rfl) (.cons (.const _) .nil)) aT rfl rfl) ?_;refine gl ?_;refine gW (Wk.virt 901 4 rfl) ?_;refine mf [1,13] [1] (fun(i:Nat)(kw:List Bool)(out:List Gr)=>[pP 3 (.ms 900 1 0 kw.length),pP 4 (.ms 901 4 0 out.length),pP 14 (i64 i)]) (fun _ kw out=>[pP 900 (.row 1 (kw.map bl)),pP 901 (.row 4 (out.map Gr.av))]) (fun i kw out=>i<=l.bo.length/\kw.length=l.bo.length/\out.length<=i/\findFrom l (l.bo.length-i) kw out=findFrom l l.bo.length (dh l.bo.length 0) []) (fun i _ _=>l.bo.length-i) 0 (dh l.bo.length 0) ([]) ⟨ans _,kC _ _,anp _,rfl⟩ ?_ (h1:=(.cons rfl (.of (by rw[kC])) (.k (.k .nil))))
 rintro i kw out ⟨hi,hk,ou,xi⟩ K1 J1;refine gC (fun z=>?_) (fun z=>?_) (st2:=(18,0))
 ·have ah:=bf z;have iI:=Con.rekey1 900 rfl rfl rfl (ab4 l hl au kw hk);have tj:=Con.rekey1 900 rfl rfl rfl (ach l hl au kw hk);have gK:=Con.rekey1 900 rfl rfl rfl (UO l hl au kw hk);refine gt (aR iI (b8 rfl rfl) aT rfl rfl) ?_;refine Fo [1,5,13,14] [1,900,901] (fun(o:Option Gr)=>[pP 3 (.ms 900 1 0 kw.length),pP 4 (.ms 901 4 0 out.length),pP 6 (bl o.isSome)]) (fun o=>[pP 5 (.box (o.getD default).av.cells)]) (fun o=>o=(driverG l kw).or (pairG l kw)) ?_ ?_
  ·intro K2 J2;refine gC (fun z=>?_) (fun z=>?_)
   ·refine gt (aR tj (b8 rfl rfl) aT rfl rfl) ?_;exact vI J2 (pairG l kw) (by rw[F7 (dP z)];rfl)
   exact vI J2 (driverG l kw) (OT (dN z))
  rintro o ho;refine Fo [1,5,13,14] [1,900,901] (fun(og:Option Gr)=>[pP 3 (.ms 900 1 0 kw.length),pP 4 (.ms 901 4 0 out.length),pP 6 (bl og.isSome)]) (fun og=>[pP 5 (.box (og.getD default).av.cells)]) (fun og=>og=nextG l kw) ?_ ?_
  ·intro K3 J3;refine gC (fun z=>?_) (fun z=>?_)
   ·refine gt (aR gK (b8 rfl rfl) aT rfl rfl) ?_;exact vI J3 (singleG l kw) (by have:=F7 (dP z);rw[ho]at this;exact(Sa this).symm)
   exact vI J3 o (by rw[ho];exact(TP (by rw[<- ho];exact dN z)).symm)
  rintro og xb;refine gC (fun z=>?_) (fun z=>?_) (st1:=(18,0))
  ·have hn:nextG l kw=none:=by rw[<- xb]; exact F7 (dP z)
   have mg:findG l=out:=by unfold findG;rw[<- xi,VF hn]
   refine gW ((Wk.freeze (k:=901) rfl).trans<|Wk.of (sl:=[pP 4 (.lst 4 ((findG l).map Gr.av))]) (hp:=[]) (.cons rfl (.of (by rw[mg,cz (by rw[anl])])) .nil) .nil) ?_;refine ai ?_;rfl
  obtain⟨g,hg⟩:∃g,og=some g:=Option.isSome_iff_exists.1 (dN z);have xj:nextG l kw=some g:=by rw[<- xb,hg]
  have ib:=CQ au xj;subst hg;refine gs (cZ (.tmp rfl) rfl (by rw[anl]) (.tmp rfl) T130 rfl T169 rfl rfl (by dsimp only;simp only[an0,aoa];omega) rfl rfl) ?_ (12,0);refine gW (Wk.of (sl:=[pP 1 (.ptr 1 0),pP 3 (.ms 900 1 0 kw.length),pP 4 (.ms 43 4 0 (out++[g]).length),pP 5 (.ptr 5 0),pP 13 (i64 l.bo.length),pP 14 (i64 i)]) (hp:=[pP 1 (.box l.av.cells),pP 5 (.box g.av.cells),pP 900 (.row 1 (kw.map bl)),pP 43 (.row 4 ((out++[g]).map Gr.av))]) (.k (.k (.cons rfl (.of (by rw[aoe];rfl)) (.k (.k (.k .nil)))))) (.k (.k (.k (.cons rfl (.of (by rw[aoc];rfl)) .nil))))) ?_ (12,0)
  refine gW (Wk.rk (k:=43) (d:=901) rfl rfl) ?_;refine gl ?_;refine jZ [1,13,14,45,46] [1,901] (fun(q:Nat)(kk:List Bool)=>[pP 3 (.ms 900 1 0 kk.length),pP 4 (.ms 901 4 0 (out++[g]).length),pP 47 (i64 q)]) (fun _ kk=>[pP 900 (.row 1 (kk.map bl))]) (fun q kk=>q<=g.bo.length/\kk.length=l.bo.length/\bR kk (g.bo.drop q)=bR kw g.bo) (fun q _=>g.bo.length-q) 0 kw ⟨ans _,hk,rfl⟩ ?_;rintro q kk ⟨hq,eV,g9⟩ K4 J4;refine gC (fun z=>?_) (fun z=>?_)
  ·have dM:=bf z;obtain⟨x,hx⟩:=aB dM;have Rz:=ib.b x (ank hx);obtain⟨v,hv⟩:∃v,kk[x.toNat]?=some v:=aB oz;refine gi (aL hx) ?_;refine gs (qY (.tmp rfl) (.tmp rfl) T320 rfl T4 rfl oz oz rfl) ?_;refine gs (eY (.tmp rfl) rfl (by rw[akv,anr,hv];rfl) rfl (.const _) rfl rfl T4 rfl rfl) ?_;refine ga (K6 (by have:=ib.lb;unfold bb;omega)) ?_;exact jq J4 (q+1) (kk.set x.toNat true) ⟨dM,by rw[aox];exact eV,by rw[<- GZ hx];exact g9⟩ (hw:=Wk.of (.cons rfl (.of (by rw[aox])) (.k (.k (.k (.k (.k (.k (.k .nil)))))))) (.cons rfl (.of (by rw[aou,akv];rfl)) (.k (.k .nil))))
  have dM:=bu hq z;have Ig:kk=bR kw g.bo:=by rw[dM,ak7]at g9;exact g9
  refine ga aU ?_;exact kz J1 (i+1) kk (out++[g]) ⟨ah,eV,by rw[aoe];simp only[an0,aoa];omega,by rw[Ig,<- agq xj,<- xi];congr 1;omega⟩
 have ah:=bu hi z;have mg:findG l=out:=by unfold findG;rw[<- xi,show l.bo.length-i=0 by omega];rfl
 refine gW ((Wk.freeze (k:=901) rfl).trans<|Wk.of (sl:=[pP 4 (.lst 4 ((findG l).map Gr.av))]) (hp:=[]) (.cons rfl (.of (by rw[mg,cz (by rw[anl])])) .nil) .nil) ?_;refine ai ?_;rfl
end Go.Lw
