/- AssembleOnes: for any linkage, any turns and any modes the law returns true and leaves its arguments as they were. No other condition. Part 5 of 8: what the later parts need -/
import Derived.Test.YtlilpljpajeafaaGreatYd
set_option linter.unusedVariables false
open List (mem_of_getElem? mem_append map_cons mem_cons length_cons length_append length_nil getD_eq_getElem?_getD all_eq_true getElem?_map getElem?_replicate append_nil map_append length_take take_of_length_le drop_zero take_length not_mem_nil length_map mem_of_mem_take map_take all_append length_replicate map_replicate map_set drop_length length_set)
open Nat (eq_of_beq_eq_true le_refl lt_or_ge le_trans zero_le)
open Option (map_eq_some_iff)
open Bool (and_eq_true)
open Int (toNat_natCast)
open Go.Proofs.Tryz
namespace Go.Lw
open Go.Proofs
theorem kT{n:Nat}(a:List Rat)(hn:n<=5)(ha:Nl n a)(hs:∀q∈a,Qs q):FP 232 [nA a] (nA (sh n (ad n a))):=by
 have hl:=ha.len5 hn;rw[<- rz ha hn];refine af func232 ?_;refine gc (tN qA a oz) ?_;refine gl ?_;refine gC (fun t17=>?_) (fun t17=>?_) (st1:=(3,0));exact absurd t17 (by rcases ha with rfl |⟨j,hj,h⟩;(simp[aa]);(rw[h,pU];simp[aa];omega));refine gl ?_;refine aN [0] [] (fun(m:Nat)=>[(4,some (i64 m))]) (fun _=>[]) (fun m=>l6 a m) (fun m=>m) a.length (Iw (ha.mono hn)) ?_;rintro m hm K1 J1;refine gs (ez rfl rfl rfl (fun h=>dS (.opt rfl (o1 h)) (.const _) oz (eF (by have:=hm.le;omega)) rfl)) ?_;refine gs (ez rfl rfl rfl (fun h=>cz (.opt rfl (o1 h)) (.some _ (.opt rfl (o1 h)) oz) (.some _ (.opt rfl (o1 h)) oz) T67 rfl T45 rfl oz (by have:=hm.le;simp;omega) rfl)) ?_;refine bM (fun _=>(by have h9:=HQ ((a.drop (m/2)).take (m-m/2)) (by simp;omega);rw[<- sY]at h9;exact h9)) ?_;refine gC (fun t31=>?_) (fun t31=>?_)
 ·have h1:1<m/\bj ((a.drop (m/2)).take (m-m/2))=true:=by
   have h9:=t31
   by_cases h:(m:Int)>1
   ·simp only[aa,decide_eq_true h,cond_true]at h9;exact⟨by omega,h9⟩
   ·simp only[aa,decide_eq_false h,cond_false]at h9;cases h9
  refine gs (dS (.tmp rfl) (.const _) oz (eF (by have:=hm.le;omega)) rfl) ?_;exact aH J1 (m/2) (CG hm h1.1 h1.2)
 have h1:1<m->bj ((a.drop (m/2)).take (m-m/2))=false:=by
  intro h;have h9:=t31;simp only[aa,decide_eq_true (show(m:Int)>1 by omega),cond_true]at h9;exact h9
 refine gs (ez rfl rfl rfl (fun h=>cz (.opt rfl (o1 h)) (.none _) (.some _ (.const _) oz) T67 rfl T45 rfl oz (by have h8:(m:Int)=1:=(by simpa[aa]using h);have:=hm.le;simp only[length_map];omega) rfl)) ?_;refine bM (fun _=>(by have h9:=HQ ((a.drop 0).take 1) (by simp;omega);rw[<- sY]at h9;exact h9)) ?_;refine gC (fun t40=>?_) (fun t40=>?_)
 ·have h2:m=1/\bj (a.take 1)=true:=by
   have h9:=t40
   by_cases h:m=1
   ·rw[h]at h9;exact⟨h,h9⟩
   ·rw[show aa .eql (m:Int) 1=false by simp[aa];omega]at h9;cases h9
  obtain⟨rfl,h3⟩:=h2;refine gR ?_;exact iC (by rw[Jq hm h3];exact Sub.nil _ _ _)
 have h2:m=1->bj (a.take 1)=false:=by
  intro h;have h9:=t40;rw[h]at h9;exact h9
 have h3:=Jr hm h1 h2;refine gs (cz (.tmp rfl) (.none _) (.some _ (.tmp rfl) oz) T67 rfl T45 rfl oz (by have:=hm.le;simp;omega) rfl) ?_;refine gc (by have h9:=AW ((a.drop 0).take m) (fun q hq=>hs q (List.mem_of_mem_drop (mem_of_mem_take hq))) (by simp;omega);have h8:=h9;rw[<- sY]at h9;exact h9) ?_;refine ae ?_;rw[h3];simp[nA,map_take]
theorem zU(d:Nat)(hd:Nat.blt d 1000=true)(a:List Rat)(n:Nat)(hl:a.length<=n)(hn:n<=1099511627776) :
  Con prog 355 [nA a,i64 n] [] (.ms d 3 0 n) [(d,some (.row 3 ((aS a n).map qA)))]:=by
 refine gF func355 (fun k z h=>by cases h) ?_;refine gs (fD (.tmp rfl) T67 rfl T45 rfl rfl oz (by dsimp only;omega) rfl) ?_;refine gs (Qo (.tmp rfl) rfl (by simp) (.tmp rfl) T67 rfl T45 rfl rfl (by simp;omega) rfl) ?_ (3,0);refine gW (Wk.of (sl:=[(5,some (.ms 7 3 0 n))]) (hp:=[(7,some (.row 3 ((aS a n).map qA)))]) (.cons rfl (Sub.of (by simp)) .nil) (.cons rfl (FM a n hl) .nil)) ?_;refine gR ?_;exact aA.own1 rfl hd rfl
theorem BO(a:List Rat)(n:Nat)(hl:a.length<=n)(hn:n<=1099511627776):FP 355 [nA a,i64 n] (nA (aS a n)):=by
 have h:=Con.freeze (by rw[length_map,dw hl];omega) (zU 0 rfl a n hl hn);rw[drop_zero,take_of_length_le (by rw[length_map,dw hl];exact le_refl _)]at h;exact h
theorem qO(a b:List Rat)(ha:∀q∈a,Qs q)(hb:∀q∈b,Qs q)(la:a.length<=1099511627776)(lb:b.length<=1099511627776):FP 272 [nA a,nA b] (nA (bR a b)):=by
 obtain⟨n,hn⟩:∃n,n=max a.length b.length:=⟨_,rfl⟩
 have hwa:=dw (show a.length<=n by omega);have hwb:=dw (show b.length<=n by omega);have hp:=dP (a:=a) (b:=b);rw[<- hn]at hp;have qa:∀q∈aS a n,Qs q:=fun q hq=>by rcases List.mem_append.1 hq with h |h;exact ha q h;(rw[(List.mem_replicate.1 h).2];exact Qs.zero)
 have qb:∀q∈aS b n,Qs q:=fun q hq=>by rcases List.mem_append.1 hq with h |h;exact hb q h;(rw[(List.mem_replicate.1 h).2];exact Qs.zero)
 refine af func272 ?_;refine gl ?_;refine gl ?_;refine gs (qg (.tmp rfl) (.tmp rfl) rfl) ?_ (2,0);refine gW (Wk.of (sl:=[(0,some (nA a)),(1,some (nA b)),(5,some (i64 n))]) (hp:=[]) (.k (.k (.cons rfl (Sub.int oz) .nil))) .nil) ?_;refine go ?_;refine gt (aJ (zU 900 rfl a n oz oz) (bA rfl rfl) aM rfl rfl) ?_;refine gc (BO b n oz oz) ?_;refine aN [1,19] [] (fun(i:Nat)=>[(0,some (.ms 900 3 0 n)),(20,some (i64 i))]) (fun i=>[(900,some (.row 3 (((bR a b).take i++(aS a n).drop i).map qA)))]) (fun i=>i<=n) (fun i=>n-i) 0 (zero_le _) ?_;rintro i hi K1 J1;refine gC (fun t21=>?_) (fun t21=>?_) (st2:=(8,0))
 ·have hin : i < n := by simpa [aa] using t21
  have hmx:=BS (p:=bR a b) (w:=aS a n) (i:=i) oz oz;have hqa:=(qa _ (r8 (i:=i) oz)).ok;have hqb:=(qb _ (r8 (i:=i) oz)).ok;refine gs (bP (n:=i) (.tmp rfl) (.tmp rfl) T67 rfl T45 rfl oz oz rfl) ?_;refine gs (dR (.tmp rfl) rfl (ay hmx) T45 rfl rfl rfl) ?_;refine gi (ay (getD_some (i:=i) (l:=aS b n) oz)) ?_;refine gc (n6 (rt ((aS a n).getD i 0)) (rt ((aS b n).getD i 0)) hqa hqb) ?_;refine gs (bP (n:=i) (.tmp rfl) (.tmp rfl) T67 rfl T45 rfl oz oz rfl) ?_;refine gs (cO (.tmp rfl) rfl (ay hmx) rfl (.tmp rfl) rfl rfl T45 rfl rfl) ?_;refine gD ?_ (7,0);refine gW (Wk.of (sl:=[(0,some (.ms 900 3 0 n)),(1,some (nA (aS b n))),(19,some (i64 n)),(20,some (i64 i))]) (hp:=[(900,some (.row 3 (((bR a b).take (i+1)++(aS a n).drop (i+1)).map qA)))]) aR (.cons rfl (BlkSub.of (by rw[A5 oz oz (by rw[Cc,<- hn,bt,bt])])) .nil)) ?_;refine ga aE ?_;exact aH J1 (i+1) hin
 have hin:i=n:=by have:n<=i:=(by simpa[aa]using t21);omega
 refine gW ((Wk.freeze (k:=900) rfl).trans<|Wk.of (sl:=[(0,some (nA (bR a b)))]) (hp:=[]) (.cons rfl (Sub.of (by rw[bD (by simp;omega),hin,List.drop_of_length_le oz,take_of_length_le oz,append_nil];rfl)) .nil) .nil) ?_;refine ae ?_;rfl
theorem wX(a:List Rat)(ha:∀q∈a,Qs q)(la:a.length<=1099511627776):FP 244 [nA a] (nA (co a)):=by
 obtain⟨n,hn⟩:∃n,n=a.length:=⟨_,rfl⟩
 refine af func244 ?_;refine gl ?_;refine gs (fD (.tmp rfl) T67 rfl T45 rfl rfl oz (by dsimp only;omega) rfl) ?_ (2,0);refine gW (Wk.of (sl:=[(0,some (nA a)),(3,some (.ms 7 3 0 n))]) (hp:=[(7,some (.row 3 ((aS [] n).map qA)))]) (.k (.cons rfl (Sub.of (by simp[hn])) .nil)) (.cons rfl (BlkSub.of_ (FM [] n (by simp)) (by rw[hn];rfl)) .nil)) ?_;refine gl ?_;refine aN [0] [] (fun(i:Nat)=>[(3,some (.ms 7 3 0 n)),(9,some (i64 n)),(10,some (i64 i))]) (fun i=>[(7,some (.row 3 (((co a).take i++(aS [] n).drop i).map qA)))]) (fun i=>i<=n) (fun i=>n-i) 0 (zero_le _) ?_ (h1:=(.k (.cons rfl (Sub.int oz) (.k .nil))));rintro i hi K1 J1;refine gC (fun t11=>?_) (fun t11=>?_) (st2:=(7,0))
 ·have hin : i < n := by simpa [aa] using t11
  have hm1:=fE (a:=a);have hm2:=dw (a:=[]) (n:=n) (by simp);have hmx:=BS (p:=co a) (w:=aS [] n) (i:=i) oz oz;have hqa:=(ha _ (r8 (i:=i) oz)).ok;refine gi (ay (getD_some (i:=i) oz)) ?_;refine gc (GH (rt (a.getD i 0)) hqa) ?_;refine gs (bP (n:=i) (.tmp rfl) (.tmp rfl) T67 rfl T45 rfl oz oz rfl) ?_;refine gs (cO (.tmp rfl) rfl (ay hmx) rfl (.tmp rfl) rfl rfl T45 rfl rfl) ?_ (6,0);refine gW (Wk.of (sl:=[(0,some (nA a)),(3,some (.ms 7 3 0 n)),(9,some (i64 n)),(10,some (i64 i))]) (hp:=[(7,some (.row 3 (((co a).take (i+1)++(aS [] n).drop (i+1)).map qA)))]) aR (.cons rfl (BlkSub.of (by rw[A5 oz oz (by rw[Uu,bt])])) .nil)) ?_;refine ga aE ?_;exact aH J1 (i+1) hin
 have hin:i=n:=by have:n<=i:=(by simpa[aa]using t11);omega
 have hm1:=fE (a:=a);have hm2:=dw (a:=[]) (n:=n) (by simp);refine gW ((Wk.freeze (k:=7) rfl).trans<|Wk.of (sl:=[(3,some (nA (co a)))]) (hp:=[]) (.cons rfl (Sub.of (by rw[bD (by simp;omega),hin,List.drop_of_length_le oz,take_of_length_le oz,append_nil];rfl)) .nil) .nil) ?_;refine ae ?_;rfl
theorem Bo(a b:List Rat)(n:Nat)(la:a.length<=n)(lb:b.length<=n)(hn:n<=274877906944):FP 358 [nA a,nA b,i64 n] (nA (dt a b n)):=by
 refine af func358 ?_;refine gt (aJ (zU 900 rfl a n la oz) (bA rfl rfl) aM rfl rfl) ?_;refine gc (BO b n lb oz) ?_;refine gs (lS (.tmp rfl) rfl (by simp[dw la]) (.tmp rfl) T67 rfl T45 rfl rfl (by simp[dw lb];omega) rfl rfl) ?_;refine ae ?_;rw[<- map_append];rfl
theorem pE(ts:LL)(m r:Nat)(ht:fQ ts m r)(hm:m<=5)(hml:m<=ts.length)(k:Nat):∀(j:Nat)(a b:List Rat)(e f:Nat),j<=m->j<=k->Nl j a->Nl j b->Cb e a->Cb f b->e+f+eB r j<4398046511104 ->
  FP 273 [an ts,nA a,nA b] (nA (pT ts k a b)):=by
 induction k using Nat.strongRecOn
 rename_i k ih;intro j a b e f hj hjk ha hb ca cb hs;have hla:=ha.len5 oz;have hlb:=hb.len5 oz;refine af func273 ?_;refine gl ?_;refine gl ?_;refine JX [3] [3] (fun(x y:List Rat)(e1 f1:Nat)=>[(1,some (nA x)),(2,some (nA y))]) (fun _ _ _ _=>[]) (fun x y e1 f1=>y.length<=x.length/\Nl j x/\Nl j y/\Cb e1 x/\Cb f1 y/\e1+f1=e+f/\pT ts k a b=pT ts k x y) ?_ ?_
 ·intro K1 J1;refine gC (fun t18=>?_) (fun t18=>?_)
  ·have h1 : a.length < b.length := by have := t18; simp only [aa, decide_eq_true_eq] at this; omega
   exact ER J1 b a f e ⟨by omega,hb,ha,cb,ca,by omega,zS ts k a b h1⟩
  have h1:b.length<=a.length:=by have:=t18;simp only[aa,decide_eq_false_iff_not]at this;omega
  exact ER J1 a b e f ⟨h1,ha,hb,ca,cb,rfl,rfl⟩
 rintro x y e1 f1 ⟨hyx,hx,hy,cx,cy,hef,hp⟩;have hlx:=hx.len5 oz;have hly:=hy.len5 oz;have qx:∀q∈x,Qs q:=fun q hq=>cx.qs oz hq
 have qy:∀q∈y,Qs q:=fun q hq=>cy.qs oz hq
 rw[hp];refine gc (IK x qx oz) ?_;refine bM (fun _=>(IK y qy oz)) ?_;refine gC (fun t21=>?_) (fun t21=>?_)
 ·have h1:bj x=true\/bj y=true:=by
   have:=t21;cases hz:bj x
   ·rw[hz]at this;exact .inr this
   ·exact .inl rfl
  refine gR ?_;exact iC (by rw[M5 hyx h1];exact Sub.nil _ _ _)
 have h1:¬(bj x=true\/bj y=true):=by
  have:=t21;cases hz:bj x
  ·rw[hz]at this;intro h;rcases h with h |h;cases h;(rw[show bj y=false from this]at h;cases h)
  ·rw[hz]at this;cases this
 refine gl ?_;refine gC (fun t28=>?_) (fun t28=>?_)
 ·have h2 : x.length = 1 := by have := t28; simp only [aa, beq_iff_eq] at this; omega
  obtain⟨p,rfl⟩:=List.length_eq_one_iff.1 h2;have h3:y≠[]:=fun h=>h1 (.inr (by rw[h];rfl))
  obtain⟨q,rfl⟩:∃q,y=[q]:=List.length_eq_one_iff.1 (by have:=List.length_pos_iff.2 h3;simp at hyx;omega);refine gi rfl ?_;refine gi rfl ?_;refine gc (G3 (rt p) (rt q) (qx p (by simp)).ok (qy q (by simp)).ok) ?_;refine gD ?_;refine ae ?_;rw[JB h1,bt,bt];rfl
 have h2:x.length≠1:=by have:=t28;simp only[aa,beq_eq_false_iff_ne,ne_eq]at this;omega
 have h3:x≠[]:=fun h=>h1 (.inl (by rw[h];rfl))
 obtain⟨i,hij,hxl⟩:∃i,i+1<=j/\x.length=2^(i+1):=by
  rcases nf hx with h |h |h
  ·exact absurd (List.length_eq_zero_iff.1 h) h3
  ·exact absurd h h2
  ·exact h
 obtain⟨k',rfl⟩:∃k',k=k'+1:=⟨k-1,by omega⟩
 have hp2:=Nat.two_pow_pos i;have hpi:2^i<=32:=bT (b:=5) oz;have hps:2^(i+1)=2*2^i:=by rw[Nat.pow_succ];omega
 have hes:eB r (i+1)<=eB r j:=gz r hij;have hee:eB r (i+1)=2*eB r i+r+2:=rfl;have n1:Nl i (x.take (2^i)):=.inr ⟨i,le_refl _,eY hxl⟩;have n2:Nl i (x.drop (2^i)):=.inr ⟨i,le_refl _,ft hxl⟩;refine gl ?_;refine gs (dS (.tmp rfl) (.const _) oz (show _=((2^i:Nat):Int) by rw[eF oz,hxl,d8]) rfl) ?_;refine gs (cz (.tmp rfl) (.none _) (.some _ (.tmp rfl) oz) T67 rfl T45 rfl oz (by simp only[length_map];omega) rfl) ?_;refine gs (cz (.tmp rfl) (.some _ (.tmp rfl) oz) (.none _) T67 rfl T45 rfl (by simp only[length_map];omega) oz rfl) ?_;refine gD ?_ (9,0);refine gW (Wk.of (sl:=[(1,some (nA x)),(2,some (nA y)),(3,some (.ptr 3 0)),(7,some (i64 ((2^i:Nat):Int))),(8,some (nA (x.take (2^i)))),(9,some (nA (x.drop (2^i))))]) (hp:=[(3,some (.box [.lst 1 (ts.map nA)]))]) (.k (.k (.k (.k (.cons rfl (Sub.of (jI x (2^i))) (.cons rfl (Sub.of (jP x (2^i))) .nil)))))) (.k .nil)) ?_;refine gl ?_;refine gC (fun t52=>?_) (fun t52=>?_)
 ·have h4 : y.length <= 2 ^ i := by have := t52; simp only [aa, decide_eq_true_eq] at this; omega
  have n3:Nl i y:=Pt hy h4;have s1:=fY ts m ht.1 i k' _ _ oz oz n1 n3;have s2:=fY ts m ht.1 i k' _ _ oz oz n2 n3;refine gc (ih k' oz i _ _ e1 f1 oz oz n1 n3 cx.take cy oz) ?_;refine gc (ih k' oz i _ _ e1 f1 oz oz n2 n3 cx.drop cy oz) ?_;refine gc (Bo _ _ (2^i) s1.1.le s2.1.le oz) ?_;refine gD ?_;refine ae ?_;rw[OI hxl h4 h1]
 have h4:¬y.length<=2^i:=by have:=t52;simp only[aa,decide_eq_false_iff_not]at this;omega
 have hyl:=Rw hy h4 oz;have n3:Nl i (y.take (2^i)):=.inr ⟨i,le_refl _,eY hyl⟩;have n4:Nl i (y.drop (2^i)):=.inr ⟨i,le_refl _,ft hyl⟩;have nd:=ht.1 i oz;have cd:=ht.2.cb i;have s1:=fY ts m ht.1 i k' _ _ oz oz n1 n3;have s2:=fY ts m ht.1 i k' _ _ oz oz n2 n4;have s3:=fY ts m ht.1 i k' _ _ oz oz s2.1 nd;have s4:=fY ts m ht.1 i k' _ _ oz oz n1 n4;have s5:=fY ts m ht.1 i k' _ _ oz oz n2 n3;have c1:=Cb.mul ht (k:=k') (show i<=m by omega) oz n1 n3 cx.take cy.take;have c2:=Cb.mul ht (k:=k') (show i<=m by omega) oz n2 n4 cx.drop cy.drop;have c3:=Cb.mul ht (k:=k') (show i<=m by omega) oz s2.1 nd c2 cd;have c4:=Cb.mul ht (k:=k') (show i<=m by omega) oz n1 n4 cx.take cy.drop;have c5:=Cb.mul ht (k:=k') (show i<=m by omega) oz n2 n3 cx.drop cy.take;have hpT:=Vo (ts:=ts) (k:=k') hxl h4 hyx h1;refine gs (cz (.tmp rfl) (.none _) (.some _ (.tmp rfl) oz) T67 rfl T45 rfl oz (by simp only[length_map];omega) rfl) ?_;refine gs (cz (.tmp rfl) (.some _ (.tmp rfl) oz) (.none _) T67 rfl T45 rfl (by simp only[length_map];omega) oz rfl) ?_;refine gD ?_ (12,0);refine gW (Wk.of (sl:=[(1,some (nA x)),(3,some (.ptr 3 0)),(7,some (i64 ((2^i:Nat):Int))),(8,some (nA (x.take (2^i)))),(9,some (nA (x.drop (2^i)))),(10,some (nA (y.take (2^i)))),(11,some (nA (y.drop (2^i))))]) (hp:=[(3,some (.box [.lst 1 (ts.map nA)]))]) (.k (.k (.k (.k (.k (.cons rfl (Sub.of (jI y (2^i))) (.cons rfl (Sub.of (jP y (2^i))) .nil))))))) (.k .nil)) ?_;refine gc (tN qA x oz) ?_;refine ga (show _=(i:Int) by rw[hxl,pU,dq oz];omega) ?_;refine gi (jX (j:=i) oz) ?_;refine gD ?_;refine gc (ih k' oz i _ _ e1 f1 oz oz n1 n3 cx.take cy.take oz) ?_;refine gc (ih k' oz i _ _ e1 f1 oz oz n2 n4 cx.drop cy.drop oz) ?_;refine gc (ih k' oz i _ _ _ _ oz oz s2.1 nd c2 cd oz) ?_;refine gc (qO _ _ (fun q hq=>c1.qs oz hq) (fun q hq=>c3.qs oz hq) (by have:=s1.1.le;omega) (by have:=s3.1.le;omega)) ?_;refine gD ?_;refine gc (ih k' oz i _ _ e1 f1 oz oz n1 n4 cx.take cy.drop oz) ?_;refine gc (ih k' oz i _ _ e1 f1 oz oz n2 n3 cx.drop cy.take oz) ?_;refine gc (qO _ _ (fun q hq=>c4.qs oz hq) (fun q hq=>c5.qs oz hq) (by have:=s4.1.le;omega) (by have:=s5.1.le;omega)) ?_;refine gc (Bo _ _ (2^i) (by have:=s1.1.le;have:=s3.1.le;rw[dP];omega) (by have:=s4.1.le;have:=s5.1.le;rw[dP];omega) oz) ?_;refine gD ?_;refine ae ?_;rw[hpT]
theorem Be(ts:LL)(m r:Nat)(ht:fQ ts m r)(hm:m<=5)(hml:m<=ts.length)(i:Nat)(a:List Rat)(e:Nat)(hi:i+1<=m)(hal:a.length=2^(i+1))(ca:Cb e a)(hs:4*e+3*eB r i+r+1<4398046511104) :
  FP 327 [an ts,nA a] (nA (g9 ts i a)):=by
 have hp2:=Nat.two_pow_pos i;have hpi:2^i<=32:=bT (b:=5) oz;have hps:2^(i+1)=2*2^i:=by rw[Nat.pow_succ];omega
 have n1:Nl i (a.take (2^i)):=.inr ⟨i,le_refl _,eY hal⟩;have n2:Nl i (a.drop (2^i)):=.inr ⟨i,le_refl _,ft hal⟩;have nd:=ht.1 i oz;have cd:=ht.2.cb i;have s1:=fY ts m ht.1 i i _ _ oz oz n1 n1;have s2:=fY ts m ht.1 i i _ _ oz oz n2 n2;have s3:=fY ts m ht.1 i i _ _ oz oz s2.1 nd;have c1:=Cb.mul ht (k:=i) (show i<=m by omega) oz n1 n1 ca.take ca.take;have c2:=Cb.mul ht (k:=i) (show i<=m by omega) oz n2 n2 ca.drop ca.drop;have c3:=Cb.mul ht (k:=i) (show i<=m by omega) oz s2.1 nd c2 cd;refine af func327 ?_;refine gl ?_;refine gs (dS (.tmp rfl) (.const _) oz (show _=((2^i:Nat):Int) by rw[eF oz,hal,d8]) rfl) ?_;refine gs (cz (.tmp rfl) (.none _) (.some _ (.tmp rfl) oz) T67 rfl T45 rfl oz (by simp only[length_map];omega) rfl) ?_;refine gs (cz (.tmp rfl) (.some _ (.tmp rfl) oz) (.none _) T67 rfl T45 rfl (by simp only[length_map];omega) oz rfl) ?_;refine gD ?_ (3,0);refine gW (Wk.of (sl:=[(1,some (nA a)),(2,some (.ptr 2 0)),(6,some (nA (a.take (2^i)))),(7,some (nA (a.drop (2^i))))]) (hp:=[(2,some (.box [.lst 1 (ts.map nA)]))]) (.k (.k (.cons rfl (Sub.of (jI a (2^i))) (.cons rfl (Sub.of (jP a (2^i))) .nil)))) (.k .nil)) ?_;refine gc (pE ts m r ht hm hml i i _ _ e e oz oz n1 n1 ca.take ca.take oz) ?_;refine gc (pE ts m r ht hm hml i i _ _ e e oz oz n2 n2 ca.drop ca.drop oz) ?_;refine gc (tN qA a oz) ?_;refine ga (show _=(i:Int) by rw[hal,pU,dq oz];omega) ?_;refine gi (jX (j:=i) oz) ?_;refine gc (pE ts m r ht hm hml i i _ _ _ _ oz oz s2.1 nd c2 cd oz) ?_;refine gc (wX _ (fun q hq=>c3.qs oz hq) (by have:=s3.1.le;omega)) ?_;refine gc (qO _ _ (fun q hq=>c1.qs oz hq) (fun q hq=>c3.minus.qs oz hq) (by have:=s1.1.le;omega) (by have:=s3.1.le;rw[fE];omega)) ?_;refine gD ?_;refine ae ?_;rfl
theorem pq(ts:LL)(m r:Nat)(ht:fQ ts m r)(hm:m<=5)(hml:m<=ts.length)(j:Nat):∀(a:List Rat)(e:Nat),j<=m->Nl j a->Cb e a->sB r j e<4398046511104 ->
  FP 228 [an ts,nA a] (i64 (T.sgn (aj ts) j (ad j a))):=by
 induction j using Nat.strongRecOn
 rename_i j ih;intro a e hj ha ca hs;have hse:=mi r j e;have qa:∀q∈a,Qs q:=fun q hq=>ca.qs oz hq
 obtain⟨s,hsa⟩:∃s,s=sh j (ad j a):=⟨_,rfl⟩
 have hsd:ad j s=ad j a:=by rw[hsa,bq]
 have hsn:Nl j s:=by rw[hsa];exact eg j _
 have cs:Cb e s:=by rw[hsa];exact ca.sh ha
 have hls:=hsn.len5 oz;rw[<- hsd];refine af func228 ?_;refine gc (hsa▸kT a oz ha qa) ?_;refine gl ?_;refine gC (fun t12=>?_) (fun t12=>?_)
 ·have h1 : s=[] := List.length_eq_zero_iff.1 (by have := t12;simp only[aa,beq_iff_eq]at this;omega);refine ae ?_;rw[h1,iN,T.sgn_zero];rfl
 have h1:s.length≠0:=by have:=t12;simp only[aa,beq_eq_false_iff_ne,ne_eq]at this;omega
 refine gl ?_;refine gC (fun t15=>?_) (fun t15=>?_)
 ·have h2 : s.length = 1 := by have := t15; simp only [aa, beq_iff_eq] at this; omega
  obtain⟨q,rfl⟩:=List.length_eq_one_iff.1 h2;refine gi rfl ?_;refine gc (uP (rt q) (cs.qs oz (by simp:q∈[q])).ok) ?_;refine ae ?_;rw[kR,T.sgn_ofQ,bt]
 have h2:s.length≠1:=by have:=t15;simp only[aa,beq_eq_false_iff_ne,ne_eq]at this;omega
 obtain⟨i,hij,hsl⟩:∃i,i+1<=j/\s.length=2^(i+1):=by
  rcases nf hsn with h |h |h
  ·exact absurd h h1
  ·exact absurd h h2
  ·exact h
 have hp2:=Nat.two_pow_pos i;have hpi:2^i<=32:=bT (b:=5) oz;have hps:2^(i+1)=2*2^i:=by rw[Nat.pow_succ];omega
 have n1:Nl i (s.take (2^i)):=.inr ⟨i,le_refl _,eY hsl⟩;have n2:Nl i (s.drop (2^i)):=.inr ⟨i,le_refl _,ft hsl⟩;have nd:=ht.1 i oz;have cd:=ht.2.cb i;obtain⟨nn,dn,cn⟩:=vK ht oz hsl cs;have b1:sB r i (4*e+3*eB r i+r+1)<=sB r j e:=pV r e hij;have b2:sB r i e<=sB r i (4*e+3*eB r i+r+1):=mz r i oz;have b3:sB r i r<=sB r i (4*e+3*eB r i+r+1):=mz r i oz;have b4:=mi r i (4*e+3*eB r i+r+1);have k1:=ih i oz (s.take (2^i)) e oz n1 cs.take oz;have k2:=ih i oz (s.drop (2^i)) e oz n2 cs.drop oz;have k3:=ih i oz _ r oz nd cd oz;have k4:=ih i oz _ _ oz nn cn oz
 have hres:T.sgn (aj ts) j (ad j s)=T.sgn3 (T.sgn (aj ts) i (ad i (s.take (2^i)))) (T.sgn (aj ts) i (ad i (s.drop (2^i)))) (T.sgn (aj ts) i (ad i (ts.getD i []))) (T.sgn (aj ts) i (ad i (g9 ts i s))):=by
  rw[om _ oz hij,dn];rfl
 have v1:=T.sgn_cases (aj ts) i (ad i (s.take (2^i)));have v4:=T.sgn_cases (aj ts) i (ad i (g9 ts i s));refine gl ?_;refine gs (dS (.tmp rfl) (.const _) oz (show _=((2^i:Nat):Int) by rw[eF oz,hsl,d8]) rfl) ?_;refine gs (cz (.tmp rfl) (.none _) (.some _ (.tmp rfl) oz) T67 rfl T45 rfl oz (by simp only[length_map];omega) rfl) ?_;refine gc (by have h9:=k1;rw[<- jI]at h9;exact h9) ?_;refine gs (cz (.tmp rfl) (.some _ (.tmp rfl) oz) (.none _) T67 rfl T45 rfl (by simp only[length_map];omega) oz rfl) ?_;refine gc (by have h9:=k2;rw[<- jP]at h9;exact h9) ?_;refine gD ?_;refine gc (tN qA s oz) ?_;refine ga (show _=(i:Int) by rw[hsl,pU,dq oz];omega) ?_;refine gi (jX (j:=i) oz) ?_;refine gc k3 ?_;refine gD ?_;refine gC (fun t42=>?_) (fun t42=>?_)
 ·have e1 : T.sgn (aj ts) i (ad i (ts.getD i [])) = 0 := by simpa [aa] using t42
  refine ae ?_;rw[hres];unfold T.sgn3;rw[VQ e1]
 have e1:¬T.sgn (aj ts) i (ad i (ts.getD i []))=0:=by simpa[aa]using t42
 refine gC (fun t44=>?_) (fun t44=>?_)
 ·have e2:T.sgn (aj ts) i (ad i (s.take (2^i)))=T.sgn (aj ts) i (ad i (s.drop (2^i)))\/T.sgn (aj ts) i (ad i (s.drop (2^i)))=0:=z7 t44;refine ae ?_;rw[hres];unfold T.sgn3;rw[VP e1,VQ e2]
 have e2:¬(T.sgn (aj ts) i (ad i (s.take (2^i)))=T.sgn (aj ts) i (ad i (s.drop (2^i)))\/T.sgn (aj ts) i (ad i (s.drop (2^i)))=0):=AT t44;refine gC (fun t53=>?_) (fun t53=>?_)
 ·have e3 : T.sgn (aj ts) i (ad i (s.take (2 ^ i))) = 0 := by simpa [aa] using t53
  refine ae ?_;rw[hres];unfold T.sgn3;rw[VP e1,VP e2,VQ e3]
 have e3:¬T.sgn (aj ts) i (ad i (s.take (2^i)))=0:=by simpa[aa]using t53
 refine gc (Be ts m r ht hm hml i s e oz hsl cs oz) ?_;refine gc k4 ?_;refine ga (zW v1 v4) ?_;refine gD ?_;refine ae ?_;rw[hres];unfold T.sgn3;rw[VP e1,VP e2,VP e3];rfl
theorem oT(rs:List (List Rt))(r:Nat)(h:TR rs r):FP 121 [cf rs] (bm (bc rs)):=by
 have hll:=h.ll;have hr:=h.le;refine af func121 ?_;refine gl ?_;refine gC (fun t10=>?_) (fun t10=>?_)
 ·have h5 : 5 < rs.length := by have := t10; simp only [aa, decide_eq_true_eq] at this; omega
  refine ae ?_;rw[HX h5];rfl
 have h5:rs.length<=5:=by have:=t10;simp only[aa,decide_eq_false_iff_not]at this;omega
 refine gl ?_;refine aN [1,13,14] [1] (fun(k:Nat)=>[(15,some (i64 k))]) (fun _=>[]) (fun k=>k<=rs.length/\∀j,j<k->gX rs j) (fun k=>rs.length-k) 0 ⟨zero_le _,fun j hj=>by omega⟩ ?_;rintro k ⟨hk,hj⟩ K1 J1;refine gC (fun t16=>?_) (fun t16=>?_)
 ·have hin : k < rs.length := by simpa [aa] using t16
  obtain⟨d,hd⟩:=az hin;have hdm:=mem_of_getElem? hd;have hdl:=h.len d hdm;refine gi (ay hd) ?_;refine gl ?_;refine gs (fj (.const _) (.tmp rfl) oz (kD oz) rfl) ?_;refine gC (fun t24=>?_) (fun t24=>?_)
  ·have h1 : d.length ≠ 2 ^ k := by have := t24; simp only [aa, bne_iff_ne, ne_eq] at this; omega
   refine ae ?_;rw[GQ h5 hd hj h1];rfl
  have h1:d.length=2^k:=by have:=t24;simp only[aa,bne_eq_false_iff_eq]at this;omega
  have htl:(rs.take k).length=k:=by simp;omega
  have hnu:=C7 (rs.take k) d (h.ok d hdm) hdl oz;rw[htl]at hnu;refine gs (cz (.tmp rfl) (.none _) (.some _ (.tmp rfl) oz) T35 rfl T67 rfl oz (by simp only[length_map];omega) rfl) ?_ (9,0);refine gW (Wk.of (sl:=[(1,some (.ptr 1 0)),(3,some (i64 k)),(4,some (nR d)),(5,some (.ptr 5 0)),(13,some (.lst 1 (rs.map nR))),(14,some (i64 rs.length)),(15,some (i64 k))]) (hp:=[(1,some (.box [.lst 1 (rs.map nR)])),(5,some (.box [.lst 1 ((rs.take k).map nR)]))]) aR (.k (.cons rfl (BlkSub.bL (.cons (.of (TD nR rs k)) .nil) rfl) .nil))) ?_;refine gc hnu ?_;refine gC (fun t35=>?_) (fun t35=>?_)
  ·have h2:=de t35;refine ae ?_;rw[E1 h5 hd hj h1 h2]
  have h2:=cR t35;have hts:=Hq (ts:=llq rs) (fun j hjk=>(hj j hjk).nl) h.rb;have hq:=wi h2 (h.ok d hdm);have hcb:Cb r (lq d):=by have:=h.rb.cb k;rw[rH,getD_eq_getElem?_getD,hd]at this;exact this
  have hsg:FP 228 [cf (rs.take k),nR d] (i64 (T.sgn (aj (llq rs)) k (ad k (lq d)))):=by
   have h9:=pq ((llq rs).take k) k r hts oz (by simp;omega) k (lq d) r (le_refl _) hq.2 hcb (ke (le_refl k) (by have:=h.three;omega) hr (by have:=ju k;omega));rw[T.sgn_congr k (fun j hjk=>pf hjk)]at h9;rw[UG h.ok oz hj,hq.1,dc];rw[<- hq.1];exact h9
  refine gc hsg ?_;refine gC (fun t40=>?_) (fun t40=>?_)
  ·have h3 : T.sgn (aj (llq rs)) k (ad k (lq d)) < 0 := by simpa [aa] using t40
   refine ae ?_;rw[Iu h5 hd hj h1 h2 h3];rfl
  have h3:¬T.sgn (aj (llq rs)) k (ad k (lq d))<0:=by simpa[aa]using t40
  refine ga aE ?_;exact aH J1 (k+1) ⟨hin,fun j hjk=>by rcases lt_or_ge j k with h9 |h9;exact hj j h9;(have:j=k:=by omega);subst this;exact CP hd h1 h2 h3⟩
 have hin:k=rs.length:=by have:rs.length<=k:=(by simpa[aa]using t16);omega
 subst hin;refine ae ?_;rw[G1 h5 hj];rfl
theorem oY(rs:List (List Rt))(r:Nat)(h:TR rs r)(xs:List (List Rt))(hx:∀a∈xs,(∀x∈a,x.ok)/\a.length<=281474976710656)(hl:xs.length<=281474976710656):FP 243 [cf rs,.lst 1 (xs.map nR)] (bm (aZ rs xs)):=by
 refine af func243 ?_;refine gc (oT rs r h) ?_;refine gC (fun t12=>?_) (fun t12=>?_)
 ·have h1:=de t12;refine ae ?_;rw[vc h1]
 have h1:=cR t12;refine gl ?_;refine aN [2,14,15] [2] (fun(i:Nat)=>[(16,some (i64 i))]) (fun _=>[]) (fun i=>i<=xs.length/\∀x∈xs.take i,bQ rs.length x=0) (fun i=>xs.length-i) 0 ⟨zero_le _,fun x hx=>by simp at hx⟩ ?_;rintro i ⟨hi,hj⟩ K1 J1;refine gC (fun t17=>?_) (fun t17=>?_)
 ·have hin : i < xs.length := by simpa [aa] using t17
  obtain⟨a,ha⟩:=az hin;have hok:=hx a (mem_of_getElem? ha);refine gi (ay ha) ?_;refine gc (C7 rs a hok.1 hok.2 h.ll) ?_;refine gC (fun t24=>?_) (fun t24=>?_)
  ·have h2:=de t24;refine ae ?_;rw[rZ h1 ha hj h2]
  have h2:=cR t24;refine ga aE ?_;exact aH J1 (i+1) ⟨hin,fun x hx=>by rw[cD ha]at hx;rcases List.mem_append.1 hx with h9 |h9;exact hj x h9;(rw[List.mem_singleton.1 h9];exact h2)⟩
 have hin:i=xs.length:=by have:xs.length<=i:=(by simpa[aa]using t17);omega
 subst hin;rw[take_length]at hj;refine ae ?_;rw[o6 h1 hj];rfl
theorem Ac(rs:List (List Rt))(r:Nat)(h:TR rs r)(a:List Rt)(e:Nat)(ha:NR a e)(he:e<=lm rs.length) :
  FP 138 [cf rs,nR a] (.tup [nA (if aZ rs [a]=0 then sh rs.length (T.neg rs.length (ad rs.length (lq a)))else[]),bm (aZ rs [a])]):=by
 have hlm:=fg rs.length;refine af func138 ?_;refine gc (oY rs r h [a] (fun x hx=>by rw[List.mem_singleton.1 hx];exact⟨ha.ok,ha.len⟩) (by simp)) ?_;refine gC (fun t12=>?_) (fun t12=>?_) (st2:=(77777,0))
 ·have h1:=de t12;refine gR ?_;exact bw (by rw[VP h1];exact Sub.tup (.cons (.nil _ _ _) (.cons (.refl _) .nil)))
 have h1:=cR t12;obtain⟨h2,h3⟩:=iX h1;obtain⟨tw,_⟩:=bN h h2;obtain⟨e1,na⟩:=ha.num (h3 a (by simp));have h5:rs.length<=5:=by have:=tw.five;rwa [length_map]at this
 have hl:=na.len5 h5;have qa:∀q∈lq a,Qs q:=fun q hq=>ha.cb.qs oz hq
 have qm:∀q∈co (lq a),Qs q:=fun q hq=>ha.cb.minus.qs oz hq
 have nm:=oe na;refine gW (Wk.of (sl:=[(1,some (nA (lq a))),(2,some (.ptr 2 0)),(6,some (bm (aZ rs [a])))]) (hp:=[(2,some (.box [.lst 1 (rs.map nR)]))]) (.cons rfl (Sub.of e1) (.k (.k .nil))) (.k .nil)) ?_;refine gc (wX _ qa oz) ?_;refine gc (kT _ h5 nm qm) ?_;refine bf ?_;rw[VQ h1,h1,lB];rfl
theorem Sw(rs:List (List Rt))(r:Nat)(h:TR rs r)(a b:List Rt)(e f:Nat)(ha:NR a e)(hb:NR b f)(he:e+f<=lm rs.length) :
  FP 329 [cf rs,nR a,nR b] (.tup [nA (if aZ rs [a,b]=0 then sh rs.length (T.add rs.length (ad rs.length (lq a)) (ad rs.length (lq b)))else[]),bm (aZ rs [a,b])]):=by
 have hlm:=fg rs.length;refine af func329 ?_;refine gc (oY rs r h [a,b] (lV ha hb) (by simp)) ?_;refine gC (fun t15=>?_) (fun t15=>?_) (st2:=(77777,0))
 ·have h1:=de t15;refine gR ?_;exact bw (by rw[VP h1];exact Sub.tup (.cons (.nil _ _ _) (.cons (.refl _) .nil)))
 have h1:=cR t15;obtain⟨h2,h3⟩:=iX h1;obtain⟨tw,e0⟩:=bN h h2;obtain⟨e1,na⟩:=ha.num (h3 a (by simp));obtain⟨e2,nb⟩:=hb.num (h3 b (by simp));have h5:rs.length<=5:=by have:=tw.five;rwa [length_map]at this
 have hla:=na.len5 h5;have hlb:=nb.len5 h5;have qa:∀q∈lq a,Qs q:=fun q hq=>ha.cb.qs oz hq
 have qb:∀q∈lq b,Qs q:=fun q hq=>hb.cb.qs oz hq
 have qp:∀q∈bR (lq a) (lq b),Qs q:=fun q hq=>(ha.cb.plus hb.cb).qs oz hq
 have np:=mI na nb;refine gW (Wk.of (sl:=[(1,some (nA (lq a))),(2,some (nA (lq b))),(3,some (.ptr 3 0)),(8,some (bm (aZ rs [a,b])))]) (hp:=[(3,some (.box [.lst 1 (rs.map nR)]))]) (.cons rfl (Sub.of e1) (.cons rfl (Sub.of e2) (.k (.k .nil)))) (.k .nil)) ?_;refine gc (qO _ _ qa qb oz oz) ?_;refine gc (kT _ h5 np qp) ?_;refine bf ?_;rw[VQ h1,h1,gk];rfl
theorem TP(rs:List (List Rt))(r:Nat)(h:TR rs r)(a b:List Rt)(e f:Nat)(ha:NR a e)(hb:NR b f)(he:e+f<=lm rs.length) :
  FP 163 [cf rs,nR a,nR b] (.tup [nA (if aZ rs [a,b]=0 then sh rs.length (T.add rs.length (ad rs.length (lq a)) (T.neg rs.length (ad rs.length (lq b))))else[]),bm (aZ rs [a,b])]):=by
 have hlm:=fg rs.length;refine af func163 ?_;refine gc (oY rs r h [a,b] (lV ha hb) (by simp)) ?_;refine gC (fun t15=>?_) (fun t15=>?_) (st2:=(77777,0))
 ·have h1:=de t15;refine gR ?_;exact bw (by rw[VP h1];exact Sub.tup (.cons (.nil _ _ _) (.cons (.refl _) .nil)))
 have h1:=cR t15;obtain⟨h2,h3⟩:=iX h1;obtain⟨tw,e0⟩:=bN h h2;obtain⟨e1,na⟩:=ha.num (h3 a (by simp));obtain⟨e2,nb⟩:=hb.num (h3 b (by simp));have h5:rs.length<=5:=by have:=tw.five;rwa [length_map]at this
 have hla:=na.len5 h5;have hlb:=nb.len5 h5;have qa:∀q∈lq a,Qs q:=fun q hq=>ha.cb.qs oz hq
 have qb:∀q∈lq b,Qs q:=fun q hq=>hb.cb.qs oz hq
 have qm:∀q∈co (lq b),Qs q:=fun q hq=>hb.cb.minus.qs oz hq
 have qp:∀q∈bR (lq a) (co (lq b)),Qs q:=fun q hq=>(ha.cb.plus hb.cb.minus).qs oz hq
 have np:=mI na (oe nb);refine gW (Wk.of (sl:=[(1,some (nA (lq a))),(2,some (nA (lq b))),(3,some (.ptr 3 0)),(8,some (bm (aZ rs [a,b])))]) (hp:=[(3,some (.box [.lst 1 (rs.map nR)]))]) (.cons rfl (Sub.of e1) (.cons rfl (Sub.of e2) (.k (.k .nil)))) (.k .nil)) ?_;refine gc (wX _ qb oz) ?_;refine gc (qO _ _ qa qm oz (by rw[fE];omega)) ?_;refine gc (kT _ h5 np qp) ?_;refine bf ?_;rw[VQ h1,h1,gk,lB];rfl
theorem RG(rs:List (List Rt))(r:Nat)(h:TR rs r)(a b:List Rt)(e f:Nat)(ha:NR a e)(hb:NR b f)(he:e+f<=lm rs.length) :
  FP 164 [cf rs,nR a,nR b] (.tup [nA (if aZ rs [a,b]=0 then sh rs.length (T.mul (aj (llq rs)) rs.length (ad rs.length (lq a)) (ad rs.length (lq b)))else[]),bm (aZ rs [a,b])]):=by
 have hr:=h.le;have hlm:=fg rs.length;refine af func164 ?_;refine gc (oY rs r h [a,b] (lV ha hb) (by simp)) ?_;refine gC (fun t15=>?_) (fun t15=>?_) (st2:=(77777,0))
 ·have h1:=de t15;refine gR ?_;exact bw (by rw[VP h1];exact Sub.tup (.cons (.nil _ _ _) (.cons (.refl _) .nil)))
 have h1:=cR t15;obtain⟨h2,h3⟩:=iX h1;obtain⟨tw,e0⟩:=bN h h2;obtain⟨e1,na⟩:=ha.num (h3 a (by simp));obtain⟨e2,nb⟩:=hb.num (h3 b (by simp));have hlen:(llq rs).length=rs.length:=length_map _;have h5:rs.length<=5:=by have:=tw.five;omega
 have hla:=na.len5 h5;have hlb:=nb.len5 h5;have htw:=tw.ok;rw[hlen]at htw;have hE:=Gq r h5;have np:=fY (llq rs) rs.length htw.1 rs.length rs.length _ _ (le_refl _) (le_refl _) na nb;have cp:=Cb.mul htw (k:=rs.length) (le_refl rs.length) (le_refl _) na nb ha.cb hb.cb;have hti:=pE (llq rs) rs.length r htw h5 oz rs.length rs.length _ _ e f (le_refl _) (le_refl _) na nb ha.cb hb.cb oz;refine gW (Wk.of (sl:=[(1,some (nA (lq a))),(2,some (nA (lq b))),(3,some (.ptr 3 0)),(8,some (bm (aZ rs [a,b])))]) (hp:=[(3,some (.box [.lst 1 ((llq rs).map nA)]))]) (.cons rfl (Sub.of e1) (.cons rfl (Sub.of e2) (.k (.k .nil)))) (.cons rfl (BlkSub.bL (.cons (.of (gY e0)) .nil) rfl) .nil)) ?_;refine gc hti ?_;refine gc (kT _ h5 np.1 (fun q hq=>cp.qs oz hq)) ?_;refine bf ?_;rw[VQ h1,h1,np.2];rfl
theorem MD(rs:List (List Rt))(r:Nat)(h:TR rs r)(a:List Rt)(e:Nat)(ha:NR a e)(he:e<=lm rs.length) :
  FP 267 [cf rs,nR a] (.tup [i64 (if aZ rs [a]=0 then T.sgn (aj (llq rs)) rs.length (ad rs.length (lq a))else 0),bm (aZ rs [a])]):=by
 have hr:=h.le;have hlm:=fg rs.length;refine af func267 ?_;refine gc (oY rs r h [a] (fun x hx=>by rw[List.mem_singleton.1 hx];exact⟨ha.ok,ha.len⟩) (by simp)) ?_;refine gC (fun t12=>?_) (fun t12=>?_) (st2:=(77777,0))
 ·have h1:=de t12;refine bf ?_;rw[VP h1];rfl
 have h1:=cR t12;obtain⟨h2,h3⟩:=iX h1;obtain⟨tw,e0⟩:=bN h h2;obtain⟨e1,na⟩:=ha.num (h3 a (by simp));have hlen:(llq rs).length=rs.length:=length_map _;have h5:rs.length<=5:=by have:=tw.five;omega
 have htw:=tw.ok;rw[hlen]at htw;have hsg:=pq (llq rs) rs.length r htw h5 oz rs.length _ _ (le_refl _) na ha.cb (ke (le_refl rs.length) (by have:=tw.three;omega) hr oz);refine gW (Wk.of (sl:=[(1,some (nA (lq a))),(2,some (.ptr 2 0)),(6,some (bm (aZ rs [a])))]) (hp:=[(2,some (.box [.lst 1 ((llq rs).map nA)]))]) (.cons rfl (Sub.of e1) (.k (.k .nil))) (.cons rfl (BlkSub.bL (.cons (.of (gY e0)) .nil) rfl) .nil)) ?_;refine gc hsg ?_;refine bf ?_;rw[VQ h1,h1];rfl
theorem zY(x:Rt)(hx:x.ok)(hs:Qs x.q):FP 126 [x.av] (nA (sh 0 (x.q:Rat))):=by
 have hadd:=n6 x (rt 0) hx Qs.zero.ok;rw[uw]at hadd;refine af func126 ?_;refine gc (Con.sA (.cons (.refl _) (.cons gL .nil)) hadd) ?_;refine gc (kT (n:=0) [x.q] oz (.inr ⟨0,le_refl _,rfl⟩) (fun q hq=>by rw[List.mem_singleton.1 hq];exact hs)) ?_;refine ae ?_;rfl
theorem rD(n:Nat)(hn:n<=281474976710656):FP 277 [i64 n] (.tup [i64 (kq n),bl (kr n)]):=by
 refine af func277 ?_;refine aN [0] [] (fun(k:Nat)=>[(5,some (i64 k))]) (fun _=>[]) (fun k=>k<=6/\∀j,j<k->n≠2^j) (fun k=>6-k) 0 ⟨by omega,fun j h=>by omega⟩ ?_;rintro k ⟨hk,hj⟩ K1 J1;refine gC (fun t6=>?_) (fun t6=>?_)
 ·have h1 : k < 6 := by have := t6; simp only [aa, decide_eq_true_eq] at this; omega
  refine gs (fj (.const _) (.tmp rfl) oz (kD oz) rfl) ?_;refine gC (fun t11=>?_) (fun t11=>?_)
  ·have h2 : n = 2 ^ k := by have := t11; simp only [aa, beq_iff_eq] at this; omega
   refine bf ?_;rw[h2,(lE oz).1,(lE oz).2];rfl
  have h2:n≠2^k:=by have:=t11;simp only[aa,beq_eq_false_iff_ne,ne_eq]at this;omega
  refine ga (cV oz) ?_;exact aH J1 (k+1) ⟨by omega,fun j h=>by rcases lt_or_ge j k with h3 |h3;exact hj j h3;(have:j=k:=by omega);subst this;exact h2⟩
 have h1:k=6:=by have:=t6;simp only[aa,decide_eq_false_iff_not]at this;omega
 subst h1;refine bf ?_;rw[(DK hj).1,(DK hj).2];rfl
theorem DZ(m:Nat)(hm:m<=5)(a:List Rt)(ha:∀r∈a,r.ok)(hl:a.length<=281474976710656):FP 180 [i64 m,nR a] (i64 (bQ m a)):=by
 refine af func180 ?_;refine gl ?_;refine gc (rD a.length hl) ?_;refine gl ?_;refine gC (fun t26=>?_) (fun t26=>?_)
 ·have h1:a≠[]/\(cI a.length<0\/(m:Int)<cI a.length):=(Ex hm a).2 (JR t26);refine ae ?_;unfold bQ;rw[VQ h1];rfl
 have hn:¬(a≠[]/\(cI a.length<0\/(m:Int)<cI a.length)):=fun h=>Vl t26 ((Ex hm a).1 h)
 refine gl ?_;refine aN [27,28] [] (fun(i:Nat)=>[(29,some (i64 i))]) (fun _=>[]) (fun i=>i<=a.length/\(a.take i).all Rt.valid=true) (fun i=>a.length-i) 0 ⟨zero_le _,by simp⟩ ?_;rintro i ⟨hi,hv⟩ K1 J1;refine gC (fun t30=>?_) (fun t30=>?_)
 ·have hin : i < a.length := by simpa [aa] using t30
  obtain⟨r,hr⟩:=az hin;have hrok:=ha r (mem_of_getElem? hr);refine gi (ay hr) ?_;refine gc (uu r hrok) ?_;refine gC (fun t35=>?_) (fun t35=>?_)
  ·have hrv : r.valid = false := by simpa using t35
   refine ae ?_;unfold bQ;rw[VP hn,VP]
   ·rfl
   ·rw[all_eq_true];intro h;rw[h r (mem_of_getElem? hr)]at hrv;cases hrv
  have hrv:r.valid=true:=by simpa using t35
  refine ga aE ?_;exact aH J1 (i+1) ⟨by omega,by rw[cD hr,all_append,hv];simp[hrv]⟩
 have hin:i=a.length:=by have:a.length<=i:=(by simpa[aa]using t30);omega
 subst hin;rw[take_length]at hv;refine ae ?_;unfold bQ;rw[VP hn,VQ hv];rfl
theorem Fz(a:List Rat)(hl:a.length<=281474976710656):FP 283 [nA a] (bl (bj a)):=by
 refine af func283 ?_;refine gl ?_;refine aN [5,6] [] (fun(i:Nat)=>[(7,some (i64 i))]) (fun _=>[]) (fun i=>i<=a.length/\bj (a.take i)=true) (fun i=>a.length-i) 0 ⟨zero_le _,by simp[bj]⟩ ?_;rintro i ⟨hi,hv⟩ K1 J1;refine gC (fun t8=>?_) (fun t8=>?_)
 ·have hin : i < a.length := by simpa [aa] using t8
  obtain⟨q,hq⟩:=az hin;refine gi (ay hq) ?_;refine bS ?_;refine bS ?_;refine gC (fun t24=>?_) (fun t24=>?_)
  ·have h0:q≠0:=PN t24;refine ae ?_
   have:bj a=false:=by
    rw[Bool.eq_false_iff];intro h;exact h0 (by simpa using List.all_eq_true.1 h q (mem_of_getElem? hq))
   rw[this];rfl
  have h0:q=0:=OX t24;refine ga aE ?_;exact aH J1 (i+1) ⟨by omega,by rw[cD hq];simp only[bj,all_append,and_eq_true];exact⟨hv,by simp[h0]⟩⟩
 have hin:i=a.length:=by have:a.length<=i:=(by simpa[aa]using t8);omega
 subst hin;rw[take_length]at hv;refine ae ?_;rw[hv];rfl
theorem kt{n:Nat}(a:List Rat)(hn:n<=5)(ha:Nl n a):FP 182 [nA a] (nA (sh n (ad n a))):=by
 have hl:=ha.len5 hn;rw[<- rz ha hn];refine af func182 ?_;refine gl ?_;refine gc (rD a.length oz) ?_;refine gC (fun t13=>?_) (fun t13=>?_)
 ·have h0:a=[]:=by
   rcases ha with h |⟨j,hj,h⟩
   ·exact h
   ·have h9:=t13;rw[h,(lE oz).2]at h9;cases h9
  refine gs (gf T67 rfl T45 rfl rfl rfl) ?_;refine gs (lS (.tmp rfl) rfl rfl (.tmp rfl) T67 rfl T45 rfl rfl (by simp[h0]) rfl rfl) ?_;refine ae ?_;subst h0;rfl
 refine gl ?_;refine aN [0] [] (fun(m:Nat)=>[(5,some (i64 m))]) (fun _=>[]) (fun m=>l6 a m) (fun m=>m) a.length (Iw (ha.mono hn)) ?_;rintro m hm K1 J1;refine gs (ez rfl rfl rfl (fun h=>dS (.opt rfl (o1 h)) (.const _) oz (eF (by have:=hm.le;omega)) rfl)) ?_;refine gs (ez rfl rfl rfl (fun h=>cz (.opt rfl (o1 h)) (.some _ (.opt rfl (o1 h)) oz) (.some _ (.opt rfl (o1 h)) oz) T67 rfl T45 rfl oz (by have:=hm.le;simp;omega) rfl)) ?_;refine bM (fun _=>(by have h9:=Fz ((a.drop (m/2)).take (m-m/2)) (by simp;omega);rw[<- sY]at h9;exact h9)) ?_;refine gC (fun t28=>?_) (fun t28=>?_)
 ·have h1:1<m/\bj ((a.drop (m/2)).take (m-m/2))=true:=by
   have h9:=t28
   by_cases h:(m:Int)>1
   ·simp only[aa,decide_eq_true h,cond_true]at h9;exact⟨by omega,h9⟩
   ·simp only[aa,decide_eq_false h,cond_false]at h9;cases h9
  refine gs (dS (.tmp rfl) (.const _) oz (eF (by have:=hm.le;omega)) rfl) ?_;exact aH J1 (m/2) (CG hm h1.1 h1.2)
 have h1:1<m->bj ((a.drop (m/2)).take (m-m/2))=false:=by
  intro h;have h9:=t28;simp only[aa,decide_eq_true (show(m:Int)>1 by omega),cond_true]at h9;exact h9
 refine gs (ez rfl rfl rfl (fun h=>cz (.opt rfl (o1 h)) (.none _) (.some _ (.const _) oz) T67 rfl T45 rfl oz (by have h8:(m:Int)=1:=(by simpa[aa]using h);have:=hm.le;simp only[length_map];omega) rfl)) ?_;refine bM (fun _=>(by have h9:=Fz ((a.drop 0).take 1) (by simp;omega);rw[<- sY]at h9;exact h9)) ?_;refine gC (fun t37=>?_) (fun t37=>?_)
 ·have h2:m=1/\bj (a.take 1)=true:=by
   have h9:=t37
   by_cases h:m=1
   ·rw[h]at h9;exact⟨h,h9⟩
   ·rw[show aa .eql (m:Int) 1=false by simp[aa];omega]at h9;cases h9
  obtain⟨rfl,h3⟩:=h2;refine gR ?_;exact iC (by rw[Jq hm h3];exact Sub.nil _ _ _)
 have h2:m=1->bj (a.take 1)=false:=by
  intro h;have h9:=t37;rw[h]at h9;exact h9
 have h3:=Jr hm h1 h2;refine gs (gf T67 rfl T45 rfl rfl rfl) ?_;refine gs (cz (.tmp rfl) (.none _) (.some _ (.tmp rfl) oz) T67 rfl T45 rfl oz (by have:=hm.le;simp;omega) rfl) ?_;refine gs (lS (.tmp rfl) rfl rfl (.tmp rfl) T67 rfl T45 rfl rfl (by simp only[length_take,List.length_drop,length_map];omega) rfl rfl) ?_;refine ae ?_;rw[h3];simp[nA,map_take]
theorem Br(d:Nat)(hd:Nat.blt d 1000=true)(a:List Rat)(n:Nat)(hl:a.length<=n)(hn:n<=1099511627776) :
  Con prog 181 [nA a,i64 n] [] (.ms d 3 0 n) [(d,some (.row 3 ((aS a n).map qA)))]:=by
 refine gF func181 (fun k z h=>by cases h) ?_;refine gs (gf T67 rfl T45 rfl rfl rfl) ?_;refine gs (bO (.tmp rfl) rfl rfl (.tmp rfl) T67 rfl T45 rfl rfl (by simp only[length_map];omega) rfl rfl) ?_;refine gW (Wk.of (sl:=[(1,some (i64 n)),(5,some (.ms 8 3 0 a.length))]) (hp:=[(8,some (.row 3 ((aS a a.length).map qA)))]) (.k (.cons rfl (Sub.of (by simp)) .nil)) (.cons rfl (BlkSub.of (by simp[aS])) .nil)) ?_ (99999,0);refine gW (Wk.rk (k:=8) (d:=900) rfl rfl) ?_;refine aN [1] [] (fun(i:Nat)=>[(5,some (.ms 900 3 0 i))]) (fun i=>[(900,some (.row 3 ((aS a i).map qA)))]) (fun i=>a.length<=i/\i<=n) (fun i=>n-i) a.length ⟨le_refl _,hl⟩ ?_;rintro i ⟨hi,hin⟩ K1 J1;refine gC (fun t12=>?_) (fun t12=>?_)
 ·have h1 : i < n := by have := t12; simp only [aa, decide_eq_true_eq] at this; omega
  refine gs (bO (.tmp rfl) rfl (by rw[length_map,dw hi]) (.tmp rfl) T67 rfl T45 rfl rfl (by simp;omega) rfl rfl) ?_;exact aH J1 (i+1) ⟨by omega,h1⟩ (hw:=(Wk.of (sl:=[(1,some (i64 n)),(5,some (.ms 16 3 0 (i+1)))]) (hp:=[(16,some (.row 3 ((aS a (i+1)).map qA)))]) aR (.cons rfl (QY a i hi) .nil)).trans<|(Wk.rk (k:=16) (d:=900) rfl rfl).trans<|Wk.o)
 have h1:i=n:=by have:=t12;simp only[aa,decide_eq_false_iff_not]at this;omega
 subst h1;refine gR ?_;exact aA.own1 rfl hd rfl
theorem ox(a:List Rat)(n:Nat)(hl:a.length<=n)(hn:n<=1099511627776):FP 181 [nA a,i64 n] (nA (aS a n)):=by
 have h:=Con.freeze (by rw[length_map,dw hl];omega) (Br 0 rfl a n hl hn);rw[drop_zero,take_of_length_le (by rw[length_map,dw hl];exact le_refl _)]at h;exact h
theorem ou(a b:List Rat)(ha:∀q∈a,Qs q)(hb:∀q∈b,Qs q)(la:a.length<=1099511627776)(lb:b.length<=1099511627776):FP 171 [nA a,nA b] (nA (bR a b)):=by
 obtain⟨n,hn⟩:∃n,n=max a.length b.length:=⟨_,rfl⟩
 have hwa:=dw (show a.length<=n by omega);have hwb:=dw (show b.length<=n by omega);have hp:=dP (a:=a) (b:=b);rw[<- hn]at hp;have qa:∀q∈aS a n,Qs q:=fun q hq=>by rcases List.mem_append.1 hq with h |h;exact ha q h;(rw[(List.mem_replicate.1 h).2];exact Qs.zero)
 have qb:∀q∈aS b n,Qs q:=fun q hq=>by rcases List.mem_append.1 hq with h |h;exact hb q h;(rw[(List.mem_replicate.1 h).2];exact Qs.zero)
 refine af func171 ?_;refine gl ?_;refine gl ?_;refine gs (qg (.tmp rfl) (.tmp rfl) rfl) ?_ (2,0);refine gW (Wk.of (sl:=[(0,some (nA a)),(1,some (nA b)),(5,some (i64 n))]) (hp:=[]) (.k (.k (.cons rfl (Sub.int oz) .nil))) .nil) ?_;refine go ?_;refine gt (aJ (Br 900 rfl a n oz oz) (bA rfl rfl) aM rfl rfl) ?_;refine gc (ox b n oz oz) ?_;refine aN [1,19] [] (fun(i:Nat)=>[(0,some (.ms 900 3 0 n)),(20,some (i64 i))]) (fun i=>[(900,some (.row 3 (((bR a b).take i++(aS a n).drop i).map qA)))]) (fun i=>i<=n) (fun i=>n-i) 0 (zero_le _) ?_;rintro i hi K1 J1;refine gC (fun t21=>?_) (fun t21=>?_) (st2:=(8,0))
 ·have hin : i < n := by simpa [aa] using t21
  have hmx:=BS (p:=bR a b) (w:=aS a n) (i:=i) oz oz;have hqa:=(qa _ (r8 (i:=i) oz)).ok;have hqb:=(qb _ (r8 (i:=i) oz)).ok;refine gs (bP (n:=i) (.tmp rfl) (.tmp rfl) T67 rfl T45 rfl oz oz rfl) ?_;refine gs (dR (.tmp rfl) rfl (ay hmx) T45 rfl rfl rfl) ?_;refine gi (ay (getD_some (i:=i) (l:=aS b n) oz)) ?_;refine gc (xc (rt ((aS a n).getD i 0)) (rt ((aS b n).getD i 0)) hqa hqb) ?_;refine gs (bP (n:=i) (.tmp rfl) (.tmp rfl) T67 rfl T45 rfl oz oz rfl) ?_;refine gs (cO (.tmp rfl) rfl (ay hmx) rfl (.tmp rfl) rfl rfl T45 rfl rfl) ?_;refine gD ?_ (7,0);refine gW (Wk.of (sl:=[(0,some (.ms 900 3 0 n)),(1,some (nA (aS b n))),(19,some (i64 n)),(20,some (i64 i))]) (hp:=[(900,some (.row 3 (((bR a b).take (i+1)++(aS a n).drop (i+1)).map qA)))]) aR (.cons rfl (BlkSub.of (by rw[A5 oz oz (by rw[Cc,<- hn,bt,bt])])) .nil)) ?_;refine ga aE ?_;exact aH J1 (i+1) hin
 have hin:i=n:=by have:n<=i:=(by simpa[aa]using t21);omega
 refine gW ((Wk.freeze (k:=900) rfl).trans<|Wk.of (sl:=[(0,some (nA (bR a b)))]) (hp:=[]) (.cons rfl (Sub.of (by rw[bD (by simp;omega),hin,List.drop_of_length_le oz,take_of_length_le oz,append_nil];rfl)) .nil) .nil) ?_;refine ae ?_;rfl
theorem u6(a:List Rat)(ha:∀q∈a,Qs q)(hl:a.length<=1099511627776):FP 172 [nA a] (nA (co a)):=by
 refine af func172 ?_;refine gl ?_;refine gW (Wk.virt 900 3 rfl) ?_;refine aN [6,7] [] (fun(i:Nat)=>[(3,some (.ms 900 3 0 i)),(8,some (i64 i))]) (fun i=>[(900,some (.row 3 ((co (a.take i)).map qA)))]) (fun i=>i<=a.length) (fun i=>a.length-i) 0 (zero_le _) ?_;rintro i hi K1 J1;refine gC (fun t9=>?_) (fun t9=>?_) (st2:=(7,0))
 ·have hin : i < a.length := by simpa [aa] using t9
  obtain⟨q,hq⟩:=az hin;have hqs:=(ha q (mem_of_getElem? hq)).ok;refine gi (ay hq) ?_;refine gc (EK (rt q) hqs) ?_;refine gs (bO (.tmp rfl) rfl (by simp[co];omega) (.tmp rfl) T67 rfl T45 rfl rfl (by simp;omega) rfl rfl) ?_ (6,0);refine gW (Wk.of (sl:=[(3,some (.ms 16 3 0 (i+1))),(6,some (nA a)),(7,some (i64 a.length)),(8,some (i64 i))]) (hp:=[(16,some (.row 3 ((co (a.take (i+1))).map qA)))]) aR (.cons rfl (BlkSub.of (by rw[cD hq];simp only[co,map_append,bt];rfl)) .nil)) ?_ (6,0);refine gW (Wk.rk (k:=16) (d:=900) rfl rfl) ?_;refine ga aE ?_;exact aH J1 (i+1) hin
 have hin:i=a.length:=by have:a.length<=i:=(by simpa[aa]using t9);omega
 subst hin;refine gW ((Wk.freeze (k:=900) rfl).trans<|Wk.of (sl:=[(3,some (nA (co a)))]) (hp:=[]) (.cons rfl (Sub.of (by rw[bD (by simp[co]),take_length];rfl)) .nil) .nil) ?_;refine ae ?_;rfl
theorem pJ(ts:LL)(m r:Nat)(ht:fQ ts m r)(hm:m<=5)(R:List AV)(hR:∀j,j<m->R[j]?=some (nA (ts.getD j [])))(k:Nat):∀(j:Nat)(a b:List Rat)(e f:Nat),j<=m->j<=k->Nl j a->Nl j b->Cb e a->Cb f b->e+f+eB r j<4398046511104 ->
  FP 183 [.agg [.lst 1 R],nA a,nA b] (nA (rT ts k a b)):=by
 induction k using Nat.strongRecOn
 rename_i k ih;intro j a b e f hj hjk ha hb ca cb hs;obtain⟨nx,dx⟩:=vu ha oz;obtain⟨ny,dy⟩:=vu hb oz;have cx:Cb e (bh 5 a):=ca.sub (fun q hq=>rK 5 hq);have cy:Cb f (bh 5 b):=cb.sub (fun q hq=>rK 5 hq);have k1:=kt a oz ha;have k2:=kt b oz hb;rw[<- rz ha oz]at k1;rw[<- rz hb oz]at k2;obtain⟨x,hx⟩:∃x,x=bh 5 a:=⟨_,rfl⟩
 obtain⟨y,hy⟩:∃y,y=bh 5 b:=⟨_,rfl⟩
 rw[<- hx]at k1 nx dx cx;rw[<- hy]at k2 ny dy cy;have hlx:=nx.len5 oz;have hly:=ny.len5 oz;obtain⟨n,hn⟩:∃n,n=max x.length y.length:=⟨_,rfl⟩
 refine af func183 ?_;refine gc k1 ?_;refine gc k2 ?_;refine gl ?_;refine gl ?_;refine gs (qg (.tmp rfl) (.tmp rfl) rfl) ?_ (3,0);refine gW (Wk.of (sl:=[(1,some (nA x)),(2,some (nA y)),(3,some (.ptr 3 0)),(7,some (i64 n))]) (hp:=[(3,some (.box [.lst 1 R]))]) (.k (.k (.k (.cons rfl (Sub.int oz) .nil)))) (.k .nil)) ?_;refine gl ?_;refine bS ?_;refine gC (fun t32=>?_) (fun t32=>?_)
 ·have h0 : x.length = 0 \/ y.length = 0 := by have := z7 t32; omega
  refine gR ?_;exact iC (by rw[Dc (by rw[<- hx,<- hy];exact h0)];exact Sub.nil _ _ _)
 have h0:¬(x.length=0\/y.length=0):=by have:=AT t32;omega
 refine gC (fun t34=>?_) (fun t34=>?_)
 ·have h1 : max x.length y.length = 1 := by have := t34; simp only [aa, beq_iff_eq] at this; omega
  have e1:=DB (ts:=ts) (k:=k) (a:=a) (b:=b) (by rw[<- hx,<- hy];exact h0) (by rw[<- hx,<- hy];exact h1);rw[<- hx,<- hy]at e1;clear hx hy;have lx1:x.length=1:=by omega
  have ly1:y.length=1:=by omega
  clear hn;obtain⟨p,rfl⟩:∃p,x=[p]:=List.length_eq_one_iff.1 lx1;obtain⟨q,rfl⟩:∃q,y=[q]:=List.length_eq_one_iff.1 ly1;refine gi rfl ?_;refine gi rfl ?_;refine gc (DF (rt p) (rt q) (cx.qs oz (by simp:p∈[p])).ok (cy.qs oz (by simp:q∈[q])).ok) ?_;refine gD ?_;refine ae ?_;rw[e1,bt,bt];rfl
 have h1:n≠1:=by have:=t34;simp only[aa,beq_eq_false_iff_ne,ne_eq]at this;omega
 obtain⟨i,hij,hmax⟩:=(DG nx ny h0).resolve_left oz;obtain⟨k',rfl⟩:∃k',k=k'+1:=⟨k-1,by omega⟩
 have hp2:=Nat.two_pow_pos i;have hpi:2^i<=32:=bT (b:=5) oz;have hps:2^(i+1)=2*2^i:=by rw[Nat.pow_succ];omega
 have hnn:n=2^(i+1):=by omega
 have hes:eB r (i+1)<=eB r j:=gz r hij;have hee:eB r (i+1)=2*eB r i+r+2:=rfl;have lx:(aS x (2^(i+1))).length=2^(i+1):=dw oz;have ly:(aS y (2^(i+1))).length=2^(i+1):=dw oz;obtain⟨X,hX⟩:∃X,X=aS x (2^(i+1)):=⟨_,rfl⟩
 obtain⟨Y,hY⟩:∃Y,Y=aS y (2^(i+1)):=⟨_,rfl⟩
 have cX:Cb e X:=by rw[hX];exact cx.wide
 have cY:Cb f Y:=by rw[hY];exact cy.wide
 rw[<- hX]at lx;rw[<- hY]at ly;have n1:Nl i (X.take (2^i)):=.inr ⟨i,le_refl _,eY lx⟩;have n2:Nl i (X.drop (2^i)):=.inr ⟨i,le_refl _,ft lx⟩;have n3:Nl i (Y.take (2^i)):=.inr ⟨i,le_refl _,eY ly⟩;have n4:Nl i (Y.drop (2^i)):=.inr ⟨i,le_refl _,ft ly⟩;have nd:=ht.1 i oz;have cd:=ht.2.cb i;have s1:=iy hm ht (k:=k') (show i<=m by omega) oz n1 n3 cX.take cY.take;have s2:=iy hm ht (k:=k') (show i<=m by omega) oz n2 n4 cX.drop cY.drop;have s3:=iy hm ht (k:=k') (show i<=m by omega) oz s2.1 nd s2.2.2 cd;have s4:=iy hm ht (k:=k') (show i<=m by omega) oz n1 n4 cX.take cY.drop;have s5:=iy hm ht (k:=k') (show i<=m by omega) oz n2 n3 cX.drop cY.take;have hrt:=I0 (ts:=ts) (k:=k') (a:=a) (b:=b) rfl (by rw[<- hx,<- hy];exact h0) (by rw[<- hx,<- hy];exact hmax);rw[<- hx,<- hy,<- hX,<- hY]at hrt;have w1:=ox x n oz oz;have w2:=ox y n oz oz;rw[hnn,<- hX]at w1;rw[hnn,<- hY]at w2;rw[<- hnn]at w1 w2;have pw:=rD n oz;rw[show kq n=i+1 by rw[hnn];exact(lE oz).1,show kr n=true by rw[hnn];exact(lE oz).2]at pw;refine gc w1 ?_;refine gc w2 ?_;refine gc pw ?_;refine gs (dS (.tmp rfl) (.const _) oz (show _=((2^i:Nat):Int) by rw[eF oz,hnn,d8]) rfl) ?_;refine gs (cz (.tmp rfl) (.none _) (.some _ (.tmp rfl) oz) T67 rfl T45 rfl oz (by simp only[length_map];omega) rfl) ?_;refine gs (dS (.tmp rfl) (.const _) oz (show _=((2^i:Nat):Int) by rw[eF oz,hnn,d8]) rfl) ?_;refine gs (cz (.tmp rfl) (.some _ (.tmp rfl) oz) (.none _) T67 rfl T45 rfl (by simp only[length_map];omega) oz rfl) ?_;refine gs (dS (.tmp rfl) (.const _) oz (show _=((2^i:Nat):Int) by rw[eF oz,hnn,d8]) rfl) ?_;refine gs (cz (.tmp rfl) (.none _) (.some _ (.tmp rfl) oz) T67 rfl T45 rfl oz (by simp only[length_map];omega) rfl) ?_;refine gs (dS (.tmp rfl) (.const _) oz (show _=((2^i:Nat):Int) by rw[eF oz,hnn,d8]) rfl) ?_;refine gs (cz (.tmp rfl) (.some _ (.tmp rfl) oz) (.none _) T67 rfl T45 rfl (by simp only[length_map];omega) oz rfl) ?_;refine gD ?_ (10,0);refine gW (Wk.of (sl:=[(3,some (.ptr 3 0)),(7,some (i64 n)),(8,some (i64 ((i+1:Nat):Int))),(10,some (nA (X.take (2^i)))),(11,some (nA (X.drop (2^i)))),(12,some (nA (Y.take (2^i)))),(13,some (nA (Y.drop (2^i))))]) (hp:=[(3,some (.box [.lst 1 R]))]) (.k (.k (.k (.cons rfl (Sub.of (jI X (2^i))) (.cons rfl (Sub.of (jP X (2^i))) (.cons rfl (Sub.of (jI Y (2^i))) (.cons rfl (Sub.of (jP Y (2^i))) .nil))))))) (.k .nil)) ?_
 refine gc (ih k' oz i _ _ e f oz oz n1 n3 cX.take cY.take oz) ?_;refine gc (ih k' oz i _ _ e f oz oz n2 n4 cX.drop cY.drop oz) ?_;refine ga (show _=(i:Int) by rw[dq oz];omega) ?_;refine gi (hR i oz) ?_;refine gc (ih k' oz i _ _ _ _ oz oz s2.1 nd s2.2.2 cd oz) ?_;refine gc (ou _ _ (fun q hq=>s1.2.2.qs oz hq) (fun q hq=>s3.2.2.qs oz hq) (by have:=s1.1.le;omega) (by have:=s3.1.le;omega)) ?_;refine gD ?_;refine gc (ih k' oz i _ _ e f oz oz n1 n4 cX.take cY.drop oz) ?_;refine gc (ih k' oz i _ _ e f oz oz n2 n3 cX.drop cY.take oz) ?_;refine gc (ou _ _ (fun q hq=>s4.2.2.qs oz hq) (fun q hq=>s5.2.2.qs oz hq) (by have:=s4.1.le;omega) (by have:=s5.1.le;omega)) ?_;refine gD ?_;refine gs (dS (.tmp rfl) (.const _) oz (show _=((2^i:Nat):Int) by rw[eF oz,hnn,d8]) rfl) ?_;refine gt (aJ (Br 900 rfl _ (2^i) (by have:=s1.1.le;have:=s3.1.le;rw[dP];omega) oz) (bA rfl rfl) aM rfl rfl) ?_;refine gs (dS (.tmp rfl) (.const _) oz (show _=((2^i:Nat):Int) by rw[eF oz,hnn,d8]) rfl) ?_;refine gc (ox _ (2^i) (by have:=s4.1.le;have:=s5.1.le;rw[dP];omega) oz) ?_;refine gs (lS (.tmp rfl) rfl (by have:=s1.1.le;have:=s3.1.le;rw[length_map,dw (by rw[dP];omega)]) (.tmp rfl) T67 rfl T45 rfl rfl (by have:=s4.1.le;have:=s5.1.le;rw[length_map,dw (by rw[dP];omega)];show(2^i+2^i)*56<=140737488355328;omega) rfl rfl) ?_;refine ae ?_;rw[hrt,<- map_append];rfl
theorem A7(ts:LL)(m r:Nat)(ht:fQ ts m r)(hm:m<=5)(R:List AV)(hR:∀j,j<m->R[j]?=some (nA (ts.getD j [])))(i n:Nat)(a:List Rat)(e:Nat)(hi:i+1<=m)(hnn:n=2^(i+1))(hal:a.length=2^(i+1))(ca:Cb e a)(hs:4*e+3*eB r i+r+1<4398046511104) :
  FP 278 [.agg [.lst 1 R],nA a,i64 n] (nA (j4 ts i a)):=by
 have hp2:=Nat.two_pow_pos i;have hpi:2^i<=32:=bT (b:=5) oz;have hps:2^(i+1)=2*2^i:=by rw[Nat.pow_succ];omega
 have n1:Nl i (a.take (2^i)):=.inr ⟨i,le_refl _,eY hal⟩;have n2:Nl i (a.drop (2^i)):=.inr ⟨i,le_refl _,ft hal⟩;have nd:=ht.1 i oz;have cd:=ht.2.cb i;have s1:=iy hm ht (k:=i) (show i<=m by omega) oz n1 n1 ca.take ca.take;have s2:=iy hm ht (k:=i) (show i<=m by omega) oz n2 n2 ca.drop ca.drop;have s3:=iy hm ht (k:=i) (show i<=m by omega) oz s2.1 nd s2.2.2 cd;have w1:=ox a n oz oz;rw[show aS a n=a by unfold aS;rw[hnn,hal];simp]at w1;have pw:=rD n oz;rw[show kq n=i+1 by rw[hnn];exact(lE oz).1,show kr n=true by rw[hnn];exact(lE oz).2]at pw;refine af func278 ?_;refine gc w1 ?_;refine gc pw ?_;refine gs (dS (.tmp rfl) (.const _) oz (show _=((2^i:Nat):Int) by rw[eF oz,hnn,d8]) rfl) ?_;refine gs (cz (.tmp rfl) (.none _) (.some _ (.tmp rfl) oz) T67 rfl T45 rfl oz (by simp only[length_map];omega) rfl) ?_;refine gs (dS (.tmp rfl) (.const _) oz (show _=((2^i:Nat):Int) by rw[eF oz,hnn,d8]) rfl) ?_;refine gs (cz (.tmp rfl) (.some _ (.tmp rfl) oz) (.none _) T67 rfl T45 rfl (by simp only[length_map];omega) oz rfl) ?_;refine gD ?_ (4,0);refine gW (Wk.of (sl:=[(3,some (.ptr 3 0)),(7,some (i64 ((i+1:Nat):Int))),(9,some (nA (a.take (2^i)))),(10,some (nA (a.drop (2^i))))]) (hp:=[(3,some (.box [.lst 1 R]))]) (.k (.k (.cons rfl (Sub.of (jI a (2^i))) (.cons rfl (Sub.of (jP a (2^i))) .nil)))) (.k .nil)) ?_;refine gc (pJ ts m r ht hm R hR i i _ _ e e oz oz n1 n1 ca.take ca.take oz) ?_;refine gc (pJ ts m r ht hm R hR i i _ _ e e oz oz n2 n2 ca.drop ca.drop oz) ?_;refine ga (show _=(i:Int) by rw[dq oz];omega) ?_;refine gi (hR i oz) ?_;refine gc (pJ ts m r ht hm R hR i i _ _ _ _ oz oz s2.1 nd s2.2.2 cd oz) ?_;refine gc (u6 _ (fun q hq=>s3.2.2.qs oz hq) (by have:=s3.1.le;omega)) ?_;refine gc (ou _ _ (fun q hq=>s1.2.2.qs oz hq) (fun q hq=>s3.2.2.minus.qs oz hq) (by have:=s1.1.le;omega) (by have:=s3.1.le;rw[fE];omega)) ?_;refine gD ?_;refine ae ?_;rfl
theorem nT(ts:LL)(m r:Nat)(ht:fQ ts m r)(hm:m<=5)(hpos:∀j,j<m->0<=T.sgn (aj ts) j (aj ts j))(R:List AV)(hR:∀j,j<m->R[j]?=some (nA (ts.getD j [])))(j:Nat):∀(a:List Rat)(e:Nat),j<=m->Nl j a->Cb e a->sB r j e<4398046511104 ->
  FP 170 [.agg [.lst 1 R],nA a] (i64 (T.sgn (aj ts) j (ad j a))):=by
 induction j using Nat.strongRecOn
 rename_i j ih;intro a e hj ha ca hs;have hse:=mi r j e;obtain⟨s,hsa⟩:∃s,s=sh j (ad j a):=⟨_,rfl⟩
 have hsd:ad j s=ad j a:=by rw[hsa,bq]
 have hsn:Nl j s:=by rw[hsa];exact eg j _
 have cs:Cb e s:=by rw[hsa];exact ca.sh ha
 have hls:=hsn.len5 oz;rw[<- hsd];refine af func170 ?_;refine gc (hsa▸kt a oz ha) ?_;refine gl ?_;refine gC (fun t15=>?_) (fun t15=>?_)
 ·have h1 : s=[] := List.length_eq_zero_iff.1 (by have := t15;simp only[aa,beq_iff_eq]at this;omega);refine ae ?_;rw[h1,iN,T.sgn_zero];rfl
 have h1:s.length≠0:=by have:=t15;simp only[aa,beq_eq_false_iff_ne,ne_eq]at this;omega
 refine gl ?_;refine gC (fun t19=>?_) (fun t19=>?_)
 ·have h2 : s.length = 1 := by have := t19; simp only [aa, beq_iff_eq] at this; omega
  obtain⟨q,rfl⟩:=List.length_eq_one_iff.1 h2;refine gi rfl ?_;refine gc (wG (rt q) (cs.qs oz (by simp:q∈[q])).ok) ?_;refine ae ?_;rw[kR,T.sgn_ofQ,bt]
 have h2:s.length≠1:=by have:=t19;simp only[aa,beq_eq_false_iff_ne,ne_eq]at this;omega
 obtain⟨i,hij,hsl⟩:∃i,i+1<=j/\s.length=2^(i+1):=by
  rcases nf hsn with h |h |h
  ·exact absurd h h1
  ·exact absurd h h2
  ·exact h
 have hp2:=Nat.two_pow_pos i;have hpi:2^i<=32:=bT (b:=5) oz;have hps:2^(i+1)=2*2^i:=by rw[Nat.pow_succ];omega
 have n1:Nl i (s.take (2^i)):=.inr ⟨i,le_refl _,eY hsl⟩;have n2:Nl i (s.drop (2^i)):=.inr ⟨i,le_refl _,ft hsl⟩;have nd:=ht.1 i oz;have cd:=ht.2.cb i;obtain⟨nn,dn,cn⟩:=vo hm ht oz hsl cs;have b1:sB r i (4*e+3*eB r i+r+1)<=sB r j e:=pV r e hij;have b2:sB r i e<=sB r i (4*e+3*eB r i+r+1):=mz r i oz;have b3:sB r i r<=sB r i (4*e+3*eB r i+r+1):=mz r i oz;have b4:=mi r i (4*e+3*eB r i+r+1);have k1:=ih i oz (s.take (2^i)) e oz n1 cs.take oz;have k2:=ih i oz (s.drop (2^i)) e oz n2 cs.drop oz;have k3:=ih i oz _ r oz nd cd oz;have k4:=ih i oz _ _ oz nn cn oz
 have v3:T.sgn (aj ts) i (ad i (ts.getD i []))=0\/T.sgn (aj ts) i (ad i (ts.getD i []))=1:=by
  have h9:0<=T.sgn (aj ts) i (ad i (ts.getD i [])):=hpos i oz;have:=T.sgn_cases (aj ts) i (ad i (ts.getD i []));omega
 have hres:T.sgn (aj ts) j (ad j s)=T.sgn3 (T.sgn (aj ts) i (ad i (s.take (2^i)))) (T.sgn (aj ts) i (ad i (s.drop (2^i)))) (T.sgn (aj ts) i (ad i (ts.getD i []))) (T.sgn (aj ts) i (ad i (j4 ts i s))):=by
  rw[om _ oz hij,dn];rfl
 rw[QA v3]at hres;have v1:=T.sgn_cases (aj ts) i (ad i (s.take (2^i)));have v2:=T.sgn_cases (aj ts) i (ad i (s.drop (2^i)));have v4:=T.sgn_cases (aj ts) i (ad i (j4 ts i s));have pw:=rD s.length oz;rw[show kq s.length=i+1 by rw[hsl];exact(lE oz).1,show kr s.length=true by rw[hsl];exact(lE oz).2]at pw;refine gc pw ?_;refine ga (show _=(i:Int) by rw[dq oz];omega) ?_;refine gi (hR i oz) ?_;refine gs (dS (.tmp rfl) (.const _) oz (show _=((2^i:Nat):Int) by rw[eF oz,hsl,d8]) rfl) ?_;refine gs (cz (.tmp rfl) (.none _) (.some _ (.tmp rfl) oz) T67 rfl T45 rfl oz (by simp only[length_map];omega) rfl) ?_;refine gc (by have h9:=k1;rw[<- jI]at h9;exact h9) ?_;refine gs (dS (.tmp rfl) (.const _) oz (show _=((2^i:Nat):Int) by rw[eF oz,hsl,d8]) rfl) ?_;refine gs (cz (.tmp rfl) (.some _ (.tmp rfl) oz) (.none _) T67 rfl T45 rfl (by simp only[length_map];omega) oz rfl) ?_;refine gc (by have h9:=k2;rw[<- jP]at h9;exact h9) ?_;refine gc k3 ?_;refine ga (zW v2 (.inr v3)) ?_;refine gD ?_;refine gC (fun t57=>?_) (fun t57=>?_)
 ·have e2:=z7 t57;refine ae ?_;rw[hres,VQ e2]
 have e2:=AT t57;refine gC (fun t60=>?_) (fun t60=>?_)
 ·have e3 : T.sgn (aj ts) i (ad i (s.take (2 ^ i))) = 0 := by simpa [aa] using t60
  refine ae ?_;rw[hres,VP e2,VQ e3];rfl
 have e3:¬T.sgn (aj ts) i (ad i (s.take (2^i)))=0:=by simpa[aa]using t60
 refine gc (A7 ts m r ht hm R hR i s.length s e oz hsl hsl cs oz) ?_;refine gc k4 ?_;refine ga (zW v1 v4) ?_;refine gD ?_;refine ae ?_;rw[hres,VP e2,VP e3];rfl
theorem yd(rs:List (List Rt))(r:Nat)(h:TR rs r):FP 89 [cf rs] (i64 (bc rs)):=by
 have hll:=h.ll;have hr:=h.le;refine af func89 ?_;refine gl ?_;refine gC (fun t9=>?_) (fun t9=>?_)
 ·have h5 : 5 < rs.length := by have := t9; simp only [aa, decide_eq_true_eq] at this; omega
  refine ae ?_;rw[HX h5];rfl
 have h5:rs.length<=5:=by have:=t9;simp only[aa,decide_eq_false_iff_not]at this;omega
 refine gl ?_;refine aN [1,11,12] [1] (fun(k:Nat)=>[(13,some (i64 k))]) (fun _=>[]) (fun k=>k<=rs.length/\∀j,j<k->gX rs j) (fun k=>rs.length-k) 0 ⟨zero_le _,fun j hj=>by omega⟩ ?_;rintro k ⟨hk,hj⟩ K1 J1;refine gC (fun t14=>?_) (fun t14=>?_)
 ·have hin : k < rs.length := by simpa [aa] using t14
  obtain⟨d,hd⟩:=az hin;have hdm:=mem_of_getElem? hd;have hdl:=h.len d hdm;refine gi (ay hd) ?_;refine gl ?_;refine gs (fj (.const _) (.tmp rfl) oz (kD oz) rfl) ?_;refine gC (fun t22=>?_) (fun t22=>?_)
  ·have h1 : d.length ≠ 2 ^ k := by have := t22; simp only [aa, bne_iff_ne, ne_eq] at this; omega
   refine ae ?_;rw[GQ h5 hd hj h1];rfl
  have h1:d.length=2^k:=by have:=t22;simp only[aa,bne_eq_false_iff_eq]at this;omega
  have hnu:=DZ k oz d (h.ok d hdm) hdl;refine gc hnu ?_;refine gC (fun t27=>?_) (fun t27=>?_)
  ·have h2:=dY t27;refine ae ?_;rw[E1 h5 hd hj h1 h2]
  have h2:=dD t27;have hts:=Hq (ts:=llq rs) (fun j hjk=>(hj j hjk).nl) h.rb;have hq:=wi h2 (h.ok d hdm);have hcb:Cb r (lq d):=by have:=h.rb.cb k;rw[rH,getD_eq_getElem?_getD,hd]at this;exact this
  have hsg:FP 170 [cf rs,nR d] (i64 (T.sgn (aj (llq rs)) k (ad k (lq d)))):=by
   have h9:=nT ((llq rs).take k) k r hts oz (fun j hjk=>by rw[T.sgn_congr j (fun i hi=>pf (show i<k by omega)),pf hjk];exact(hj j hjk).2.2) (rs.map nR) (fun j hjk=>QQ h.ok (show k<=rs.length by omega) hj hjk) k (lq d) r (le_refl _) hq.2 hcb (ke (le_refl k) (by have:=h.three;omega) hr (by have:=ju k;omega));rw[T.sgn_congr k (fun j hjk=>pf hjk)]at h9;rw[hq.1,dc];rw[<- hq.1];exact h9
  refine gc hsg ?_;refine gC (fun t32=>?_) (fun t32=>?_)
  ·have h3 : T.sgn (aj (llq rs)) k (ad k (lq d)) < 0 := by simpa [aa] using t32
   refine ae ?_;rw[Iu h5 hd hj h1 h2 h3];rfl
  have h3:¬T.sgn (aj (llq rs)) k (ad k (lq d))<0:=by simpa[aa]using t32
  refine ga aE ?_;exact aH J1 (k+1) ⟨hin,fun j hjk=>by rcases lt_or_ge j k with h9 |h9;exact hj j h9;(have:j=k:=by omega);subst this;exact CP hd h1 h2 h3⟩
 have hin:k=rs.length:=by have:rs.length<=k:=(by simpa[aa]using t14);omega
 subst hin;refine ae ?_;rw[G1 h5 hj];rfl
theorem mv(rs:List (List Rt))(r:Nat)(h:TR rs r)(xs:List (List Rt))(hx:∀a∈xs,(∀x∈a,x.ok)/\a.length<=281474976710656)(hl:xs.length<=281474976710656):FP 169 [cf rs,.lst 1 (xs.map nR)] (i64 (aZ rs xs)):=by
 refine af func169 ?_;refine gc (yd rs r h) ?_;refine gC (fun t12=>?_) (fun t12=>?_)
 ·have h1:=dY t12;refine ae ?_;rw[vc h1]
 have h1:=dD t12;have h5:rs.length<=5:=by have:=(bN h h1).1.five;rwa [length_map]at this
 refine gl ?_;refine aN [2,14,15] [2] (fun(i:Nat)=>[(16,some (i64 i))]) (fun _=>[]) (fun i=>i<=xs.length/\∀x∈xs.take i,bQ rs.length x=0) (fun i=>xs.length-i) 0 ⟨zero_le _,fun x hx=>by simp at hx⟩ ?_;rintro i ⟨hi,hj⟩ K1 J1;refine gC (fun t17=>?_) (fun t17=>?_)
 ·have hin : i < xs.length := by simpa [aa] using t17
  obtain⟨a,ha⟩:=az hin;have hok:=hx a (mem_of_getElem? ha);refine gi (ay ha) ?_;refine gl ?_;refine gc (DZ rs.length h5 a hok.1 hok.2) ?_;refine gC (fun t26=>?_) (fun t26=>?_)
  ·have h2:=dY t26;refine ae ?_;rw[rZ h1 ha hj h2]
  have h2:=dD t26;refine ga aE ?_;exact aH J1 (i+1) ⟨hin,fun x hx=>by rw[cD ha]at hx;rcases List.mem_append.1 hx with h9 |h9;exact hj x h9;(rw[List.mem_singleton.1 h9];exact h2)⟩
 have hin:i=xs.length:=by have:xs.length<=i:=(by simpa[aa]using t17);omega
 subst hin;rw[take_length]at hj;refine ae ?_;rw[o6 h1 hj];rfl
theorem QT(rs:List (List Rt))(r:Nat)(h:TR rs r)(a b:List Rt)(e f:Nat)(ha:NR a e)(hb:NR b f)(he:e+f<=lm rs.length) :
  FP 173 [cf rs,nR a,nR b] (.tup [nA (if aZ rs [a,b]=0 then sh rs.length (T.add rs.length (ad rs.length (lq a)) (ad rs.length (lq b)))else[]),i64 (aZ rs [a,b])]):=by
 have hlm:=fg rs.length;refine af func173 ?_;refine gc (mv rs r h [a,b] (lV ha hb) (by simp)) ?_;refine gC (fun t15=>?_) (fun t15=>?_) (st2:=(77777,0))
 ·have h1:=dY t15;refine gR ?_;exact bw (by rw[VP h1];exact Sub.tup (.cons (.nil _ _ _) (.cons (.refl _) .nil)))
 have h1:=dD t15;obtain⟨h2,h3⟩:=iX h1;obtain⟨tw,e0⟩:=bN h h2;obtain⟨e1,na⟩:=ha.num (h3 a (by simp));obtain⟨e2,nb⟩:=hb.num (h3 b (by simp));have h5:rs.length<=5:=by have:=tw.five;rwa [length_map]at this
 have hla:=na.len5 h5;have hlb:=nb.len5 h5;have qa:∀q∈lq a,Qs q:=fun q hq=>ha.cb.qs oz hq
 have qb:∀q∈lq b,Qs q:=fun q hq=>hb.cb.qs oz hq
 have qp:∀q∈bR (lq a) (lq b),Qs q:=fun q hq=>(ha.cb.plus hb.cb).qs oz hq
 have np:=mI na nb;refine gW (Wk.of (sl:=[(1,some (nA (lq a))),(2,some (nA (lq b))),(3,some (.ptr 3 0)),(8,some (i64 (aZ rs [a,b])))]) (hp:=[(3,some (.box [.lst 1 (rs.map nR)]))]) (.cons rfl (Sub.of e1) (.cons rfl (Sub.of e2) (.k (.k .nil)))) (.k .nil)) ?_;refine gc (ou _ _ qa qb oz oz) ?_;refine gc (kt _ h5 np) ?_;refine bf ?_;rw[VQ h1,h1,gk];rfl
theorem Kl(rs:List (List Rt))(r:Nat)(h:TR rs r)(a b:List Rt)(e f:Nat)(ha:NR a e)(hb:NR b f)(he:e+f<=lm rs.length) :
  FP 359 [cf rs,nR a,nR b] (.tup [nA (if aZ rs [a,b]=0 then sh rs.length (T.add rs.length (ad rs.length (lq a)) (T.neg rs.length (ad rs.length (lq b))))else[]),i64 (aZ rs [a,b])]):=by
 have hlm:=fg rs.length;refine af func359 ?_;refine gc (mv rs r h [a,b] (lV ha hb) (by simp)) ?_;refine gC (fun t15=>?_) (fun t15=>?_) (st2:=(77777,0))
 ·have h1:=dY t15;refine gR ?_;exact bw (by rw[VP h1];exact Sub.tup (.cons (.nil _ _ _) (.cons (.refl _) .nil)))
 have h1:=dD t15;obtain⟨h2,h3⟩:=iX h1;obtain⟨tw,e0⟩:=bN h h2;obtain⟨e1,na⟩:=ha.num (h3 a (by simp));obtain⟨e2,nb⟩:=hb.num (h3 b (by simp));have h5:rs.length<=5:=by have:=tw.five;rwa [length_map]at this
 have hla:=na.len5 h5;have hlb:=nb.len5 h5;have qa:∀q∈lq a,Qs q:=fun q hq=>ha.cb.qs oz hq
 have qb:∀q∈lq b,Qs q:=fun q hq=>hb.cb.qs oz hq
 have qm:∀q∈co (lq b),Qs q:=fun q hq=>hb.cb.minus.qs oz hq
 have qp:∀q∈bR (lq a) (co (lq b)),Qs q:=fun q hq=>(ha.cb.plus hb.cb.minus).qs oz hq
 have np:=mI na (oe nb);refine gW (Wk.of (sl:=[(1,some (nA (lq a))),(2,some (nA (lq b))),(3,some (.ptr 3 0)),(8,some (i64 (aZ rs [a,b])))]) (hp:=[(3,some (.box [.lst 1 (rs.map nR)]))]) (.cons rfl (Sub.of e1) (.cons rfl (Sub.of e2) (.k (.k .nil)))) (.k .nil)) ?_;refine gc (u6 _ qb oz) ?_;refine gc (ou _ _ qa qm oz (by rw[fE];omega)) ?_;refine gc (kt _ h5 np) ?_;refine bf ?_;rw[VQ h1,h1,gk,lB];rfl
theorem J8(rs:List (List Rt))(r:Nat)(h:TR rs r)(a b:List Rt)(e f:Nat)(ha:NR a e)(hb:NR b f)(he:e+f<=lm rs.length) :
  FP 92 [cf rs,nR a,nR b] (.tup [nA (if aZ rs [a,b]=0 then sh rs.length (T.mul (aj (llq rs)) rs.length (ad rs.length (lq a)) (ad rs.length (lq b)))else[]),i64 (aZ rs [a,b])]):=by
 have hr:=h.le;have hlm:=fg rs.length;refine af func92 ?_;refine gc (mv rs r h [a,b] (lV ha hb) (by simp)) ?_;refine gC (fun t15=>?_) (fun t15=>?_) (st2:=(77777,0))
 ·have h1:=dY t15;refine gR ?_;exact bw (by rw[VP h1];exact Sub.tup (.cons (.nil _ _ _) (.cons (.refl _) .nil)))
 have h1:=dD t15;obtain⟨h2,h3⟩:=iX h1;obtain⟨tw,e0⟩:=bN h h2;obtain⟨e1,na⟩:=ha.num (h3 a (by simp));obtain⟨e2,nb⟩:=hb.num (h3 b (by simp));have hlen:(llq rs).length=rs.length:=length_map _;have h5:rs.length<=5:=by have:=tw.five;omega
 have hla:=na.len5 h5;have hlb:=nb.len5 h5;have htw:=tw.ok;rw[hlen]at htw;have hE:=Gq r h5;have np:=iy h5 htw (k:=rs.length) (le_refl rs.length) (le_refl _) na nb ha.cb hb.cb;have hti:=pJ (llq rs) rs.length r htw h5 ((llq rs).map nA) (fun j hj=>jX oz) rs.length rs.length _ _ e f (le_refl _) (le_refl _) na nb ha.cb hb.cb oz;refine gW (Wk.of (sl:=[(1,some (nA (lq a))),(2,some (nA (lq b))),(3,some (.ptr 3 0)),(8,some (i64 (aZ rs [a,b])))]) (hp:=[(3,some (.box [.lst 1 ((llq rs).map nA)]))]) (.cons rfl (Sub.of e1) (.cons rfl (Sub.of e2) (.k (.k .nil)))) (.cons rfl (BlkSub.bL (.cons (.of (gY e0)) .nil) rfl) .nil)) ?_;refine gc hti ?_;refine gc (kt _ h5 np.1) ?_;refine bf ?_;rw[VQ h1,h1,np.2.1];rfl
theorem QG(rs:List (List Rt))(r:Nat)(h:TR rs r)(a b:List Rt)(e f:Nat)(ha:NR a e)(hb:NR b f)(he:e+f+1<=lm rs.length) :
  FP 83 [cf rs,nR a,nR b] (.tup [i64 (if aZ rs [a,b]=0 then T.sgn (aj (llq rs)) rs.length (T.add rs.length (ad rs.length (lq a)) (T.neg rs.length (ad rs.length (lq b))))else 0),i64 (aZ rs [a,b])]):=by
 have hr:=h.le;have hlm:=fg rs.length;refine af func83 ?_;refine gc (mv rs r h [a,b] (lV ha hb) (by simp)) ?_;refine gC (fun t15=>?_) (fun t15=>?_) (st2:=(77777,0))
 ·have h1:=dY t15;refine bf ?_;rw[VP h1];rfl
 have h1:=dD t15;obtain⟨h2,h3⟩:=iX h1;obtain⟨tw,e0⟩:=bN h h2;obtain⟨e1,na⟩:=ha.num (h3 a (by simp));obtain⟨e2,nb⟩:=hb.num (h3 b (by simp));have hlen:(llq rs).length=rs.length:=length_map _;have h5:rs.length<=5:=by have:=tw.five;omega
 have hla:=na.len5 h5;have hlb:=nb.len5 h5;have htw:=tw.ok;rw[hlen]at htw;have qa:∀q∈lq a,Qs q:=fun q hq=>ha.cb.qs oz hq
 have qb:∀q∈lq b,Qs q:=fun q hq=>hb.cb.qs oz hq
 have qm:∀q∈co (lq b),Qs q:=fun q hq=>hb.cb.minus.qs oz hq
 have np:=mI na (oe nb);have hsg:=nT (llq rs) rs.length r htw h5 (fun j hj=>tw.pos j oz) ((llq rs).map nA) (fun j hj=>jX oz) rs.length _ _ (le_refl _) np (ha.cb.plus hb.cb.minus) (ke (le_refl rs.length) (by have:=tw.three;omega) hr oz);refine gW (Wk.of (sl:=[(1,some (nA (lq a))),(2,some (nA (lq b))),(3,some (.ptr 3 0)),(8,some (i64 (aZ rs [a,b])))]) (hp:=[(3,some (.box [.lst 1 ((llq rs).map nA)]))]) (.cons rfl (Sub.of e1) (.cons rfl (Sub.of e2) (.k (.k .nil)))) (.cons rfl (BlkSub.bL (.cons (.of (gY e0)) .nil) rfl) .nil)) ?_;refine gc (u6 _ qb oz) ?_;refine gc (ou _ _ qa qm oz (by rw[fE];omega)) ?_;refine gc hsg ?_;refine gD ?_;refine bf ?_;rw[VQ h1,h1,gk,lB];rfl
theorem Uw(rs:List (List Rt))(r:Nat)(h:TR rs r)(a:List Rt)(e:Nat)(ha:NR a e)(he:e<=lm rs.length) :
  FP 91 [cf rs,nR a] (.tup [i64 (if aZ rs [a]=0 then T.sgn (aj (llq rs)) rs.length (ad rs.length (lq a))else 0),i64 (aZ rs [a])]):=by
 have hr:=h.le;have hlm:=fg rs.length;refine af func91 ?_;refine gc (mv rs r h [a] (fun x hx=>by rw[List.mem_singleton.1 hx];exact⟨ha.ok,ha.len⟩) (by simp)) ?_;refine gC (fun t12=>?_) (fun t12=>?_) (st2:=(77777,0))
 ·have h1:=dY t12;refine bf ?_;rw[VP h1];rfl
 have h1:=dD t12;obtain⟨h2,h3⟩:=iX h1;obtain⟨tw,e0⟩:=bN h h2;obtain⟨e1,na⟩:=ha.num (h3 a (by simp));have hlen:(llq rs).length=rs.length:=length_map _;have h5:rs.length<=5:=by have:=tw.five;omega
 have htw:=tw.ok;rw[hlen]at htw;have hsg:=nT (llq rs) rs.length r htw h5 (fun j hj=>tw.pos j oz) ((llq rs).map nA) (fun j hj=>jX oz) rs.length _ _ (le_refl _) na ha.cb (ke (le_refl rs.length) (by have:=tw.three;omega) hr oz);refine gW (Wk.of (sl:=[(1,some (nA (lq a))),(2,some (.ptr 2 0)),(6,some (i64 (aZ rs [a])))]) (hp:=[(2,some (.box [.lst 1 ((llq rs).map nA)]))]) (.cons rfl (Sub.of e1) (.k (.k .nil))) (.cons rfl (BlkSub.bL (.cons (.of (gY e0)) .nil) rfl) .nil)) ?_;refine gc hsg ?_;refine bf ?_;rw[VQ h1,h1];rfl
theorem TL(rs:List (List Rt))(r:Nat)(h:TR rs r)(a:List Rt)(e:Nat)(ha:NR a e)(he:e<=lm rs.length) :
  FP 90 [cf rs,nR a] (.tup [nA (if aZ rs [a]=0 then aS (lq a) (2^rs.length)else[]),i64 (aZ rs [a])]):=by
 have hlm:=fg rs.length;refine af func90 ?_;refine gc (mv rs r h [a] (fun x hx=>by rw[List.mem_singleton.1 hx];exact⟨ha.ok,ha.len⟩) (by simp)) ?_;refine gC (fun t12=>?_) (fun t12=>?_) (st2:=(77777,0))
 ·have h1:=dY t12;refine gR ?_;exact bw (by rw[VP h1];exact Sub.tup (.cons (.nil _ _ _) (.cons (.refl _) .nil)))
 have h1:=dD t12;obtain⟨h2,h3⟩:=iX h1;obtain⟨tw,e0⟩:=bN h h2;obtain⟨e1,na⟩:=ha.num (h3 a (by simp));have hlen:(llq rs).length=rs.length:=length_map _;have h5:rs.length<=5:=by have:=tw.five;omega
 have hp5:2^rs.length<=32:=bT (b:=5) h5;refine gW (Wk.of (sl:=[(1,some (nA (lq a))),(2,some (.ptr 2 0)),(6,some (i64 (aZ rs [a])))]) (hp:=[(2,some (.box [.lst 1 (rs.map nR)]))]) (.cons rfl (Sub.of e1) (.k (.k .nil))) (.k .nil)) ?_;refine gl ?_;refine gs (fj (.const _) (.tmp rfl) oz (kD oz) rfl) ?_;refine gc (ox _ _ na.le oz) ?_;refine bf ?_;rw[VQ h1,h1];rfl
theorem Up(x:Rt)(hx:x.ok)(hs:Qs x.q):FP 37 [x.av] (nA (sh 0 (x.q:Rat))):=by
 have hadd:=xc x (rt 0) hx Qs.zero.ok;rw[uw]at hadd;refine af func37 ?_;refine gc (wG x hx) ?_;refine gC (fun t5=>?_) (fun t5=>?_)
 ·have h0 : x.q=0 := lN (by simpa[aa]using t5);refine gR ?_;exact iC (by rw[h0];exact Sub.nil _ _ _)
 have h0:x.q≠0:=fun h=>by rw[h]at t5;cases t5
 refine gc (Con.sA (.cons (.refl _) (.cons gL .nil)) hadd) ?_;refine ae ?_;have:sh 0 (x.q:Rat)=[x.q]:=VP h0;rw[this];rfl
theorem Bf{p q:Rat}(hp:Qs p)(hq:Qs q):FP 233 [qA p,qA q] (qA (p+q)):=by
 have h:=n6 (rt p) (rt q) hp.ok hq.ok;rw[bt,bt]at h;exact h
theorem xf{p q:Rat}(hp:Qs p)(hq:Qs q):FP 252 [qA p,qA q] (qA (p-q)):=by
 have h:=Jv (rt p) (rt q) hp.ok hq.ok;rw[bt,bt]at h;exact h
theorem uo{p q:Rat}(hp:Qs p)(hq:Qs q):FP 274 [qA p,qA q] (qA (p*q)):=by
 have h:=G3 (rt p) (rt q) hp.ok hq.ok;rw[bt,bt]at h;exact h
theorem PI{p q:Rat}(hp:Qs p)(hq:Qs q):FP 388 [qA p,qA q] (.tup [qA (p/q),bm (if q=0 then 8 else 0)]):=by
 have h:=IJ (rt p) (rt q) hp.ok hq.ok;rw[bt,bt]at h;exact h
theorem TW{p:Rat}(hp:Qs p):FP 216 [qA p] (i64 (bI p)):=by
 have h:=uP (rt p) hp.ok;rw[bt]at h;exact h
theorem Bg{p q:Rat}(hp:Qs p)(hq:Qs q):FP 104 [qA p,qA q] (qA (p+q)):=by
 have h:=xc (rt p) (rt q) hp.ok hq.ok;rw[bt,bt]at h;exact h
theorem Th{p q:Rat}(hp:Qs p)(hq:Qs q):FP 107 [qA p,qA q] (qA (p-q)):=by
 have h:=FR (rt p) (rt q) hp.ok hq.ok;rw[bt,bt]at h;exact h
theorem GO{p q:Rat}(hp:Qs p)(hq:Qs q):FP 105 [qA p,qA q] (qA (p*q)):=by
 have h:=DF (rt p) (rt q) hp.ok hq.ok;rw[bt,bt]at h;exact h
theorem Pe{p q:Rat}(hp:Qs p)(hq:Qs q):FP 198 [qA p,qA q] (.tup [qA (p/q),i64 (if q=0 then 8 else 0)]):=by
 have h:=Dp (rt p) (rt q) hp.ok hq.ok;rw[bt,bt]at h;exact h
theorem AP(x:Tn)(hx:x.t.ok):FP 119 [x.av] (bm x.err):=by
 refine af func119 ?_;refine gc (tX x.t hx) ?_;refine bM (fun _=>(uP x.t hx)) ?_;refine gC (fun t16=>?_) (fun t16=>?_)
 ·have h0:=Tn.err_yes t16;refine ae ?_;rw[h0];rfl
 have h0:=Tn.err_no t16;refine ae ?_;rw[h0];rfl
theorem He{p q:Rat}(hp:Qs p)(hq:Qs q):FP 349 [qA p,qA q] (qA (p/q)):=by
 refine af func349 ?_;refine gc (PI hp hq) ?_;refine gC (fun t14=>?_) (fun t14=>?_)
 ·have h0:q=0:=by
   have:=de t14
   by_cases h:q=0
   ·exact h
   ·rw[VP h]at this;exact absurd rfl this
  refine gR ?_;exact iC (by rw[h0,JM];exact gL)
 refine ae ?_;rfl
theorem Ia(half:Bool){t:Rat}{e:Nat}(ht:Qb e t)(he:e<=1000000):FP 245 [Tn.av ⟨rt t,half⟩] (.tup [qA (fv half t),qA (fA half t)]):=by
 have qt:Qs t:=ht.qs oz;have m2:=ht.mul ht;have one:Qb 1 (((1:Int):Rat)):=Qb.one;have d:=one.add m2;refine af func245 ?_;refine gC (fun t8=>?_) (fun t8=>?_)
 ·have h0:half=true:=t8;refine gc (m8 (-1) oz) ?_;refine gR ?_;exact bw (by subst h0;exact Sub.tup (.cons (.refl _) (.cons gL .nil)))
 have h0:half=false:=t8;refine gc (m8 1 oz) ?_;refine gc (uo qt qt) ?_;refine gD ?_;refine gc (Bf (one.qs oz) (m2.qs oz)) ?_;refine gc (xf (one.qs oz) (m2.qs oz)) ?_;refine gc (He ((one.sub m2).qs oz) (d.qs oz)) ?_;refine gc (Bf qt qt) ?_;refine gc (He ((ht.add ht).qs oz) (d.qs oz)) ?_;refine gD ?_;refine bf ?_;subst h0;rfl
theorem HS(x:Tn)(hx:x.t.ok){e:Nat}(hq:Qb e x.t.q)(he:e<=1000000):FP 139 [x.av] (.tup [qA (if x.err=0 then fv x.half x.t.q else 0),bm x.err]):=by
 refine af func139 ?_;refine gc (AP x hx) ?_;refine gC (fun t10=>?_) (fun t10=>?_)
 ·have h1:=de t10;refine gR ?_;exact bw (by rw[VP h1];exact Sub.tup (.cons gL (.cons (.refl _) .nil)))
 have h1:=cR t10;have hd:=Ia x.half hq he;rw[<- Rt.eq_rt hx (Tn.ok_valid h1)]at hd;refine gc hd ?_;refine bf ?_;rw[VQ h1,h1];rfl
theorem K9(x:Tn)(hx:x.t.ok){e:Nat}(hq:Qb e x.t.q)(he:e<=1000000):FP 140 [x.av] (.tup [qA (if x.err=0 then fA x.half x.t.q else 0),bm x.err]):=by
 refine af func140 ?_;refine gc (AP x hx) ?_;refine gC (fun t10=>?_) (fun t10=>?_)
 ·have h1:=de t10;refine gR ?_;exact bw (by rw[VP h1];exact Sub.tup (.cons gL (.cons (.refl _) .nil)))
 have h1:=cR t10;have hd:=Ia x.half hq he;rw[<- Rt.eq_rt hx (Tn.ok_valid h1)]at hd;refine gc hd ?_;refine bf ?_;rw[VQ h1,h1];rfl
theorem HP(x:Tn)(hx:x.t.ok):FP 102 [x.av] (i64 x.err):=by
 refine af func102 ?_;refine gc (uu x.t hx) ?_;refine bM (fun _=>(wG x.t hx)) ?_;refine gC (fun t16=>?_) (fun t16=>?_)
 ·have h0:=Tn.err_yes t16;refine ae ?_;rw[h0];rfl
 have h0:=Tn.err_no t16;refine ae ?_;rw[h0];rfl
theorem Aw:FP 108 [] (qA 1):=by
 refine af func108 ?_;refine gc (lg 1 oz) ?_;refine ae ?_
 first |rfl |(simp;done)
theorem B5{p q:Rat}(hp:Qs p)(hq:Qs q):FP 106 [qA p,qA q] (qA (p/q)):=by
 refine af func106 ?_;refine gc (Pe hp hq) ?_;refine ae ?_
 first |rfl |(simp;done)
theorem S8(half:Bool){t:Rat}{e:Nat}(ht:Qb e t)(he:e<=1000000):FP 38 [Tn.av ⟨rt t,half⟩] (qA (fv half t)):=by
 have qt:Qs t:=ht.qs oz;have m2:=ht.mul ht;have d:=Qb.one.add m2;refine af func38 ?_;refine gC (fun t5=>?_) (fun t5=>?_)
 ·have h0:half=true:=t5;refine gc (lg (-1) oz) ?_;refine ae ?_;subst h0;rfl
 have h0:half=false:=t5;refine gc (GO qt qt) ?_;refine gc Aw ?_;refine gc (Th (Qb.one.qs oz) (m2.qs oz)) ?_;refine gc Aw ?_;refine gc (Bg (Qb.one.qs oz) (m2.qs oz)) ?_;refine gc (B5 ((Qb.one.sub m2).qs oz) (d.qs oz)) ?_;refine gD ?_;refine ae ?_;subst h0;rfl
theorem Tf(half:Bool){t:Rat}{e:Nat}(ht:Qb e t)(he:e<=1000000):FP 39 [Tn.av ⟨rt t,half⟩] (qA (fA half t)):=by
 have qt:Qs t:=ht.qs oz;have m2:=ht.mul ht;have d:=Qb.one.add m2;refine af func39 ?_;refine gC (fun t4=>?_) (fun t4=>?_)
 ·have h0:half=true:=t4;refine gR ?_;exact iC (by subst h0;exact gL)
 have h0:half=false:=t4;refine gc (Bg qt qt) ?_;refine gc Aw ?_;refine gc (GO qt qt) ?_;refine gc (Bg (Qb.one.qs oz) (m2.qs oz)) ?_;refine gc (B5 ((ht.add ht).qs oz) (d.qs oz)) ?_;refine gD ?_;refine ae ?_;subst h0;rfl
theorem yE{ts:LL}{r e f:Nat}(tw:Tw ts r){a b:List Rat}(ha:Nm ts.length e a)(hb:Nm ts.length f b)(he:e+f<=lm ts.length) :
  FP 329 [an ts,nA a,nA b] (.tup [nA (sh ts.length (T.add ts.length (ad ts.length a) (ad ts.length b))),.v .nilIface]):=by
 have h:=Sw (ts.map (List.map rt)) r tw.tr (a.map rt) (b.map rt) e f (ha.rt oz) (hb.rt oz) (by rw[length_map];exact he);have h0:aZ (ts.map (List.map rt)) [a.map rt,b.map rt]=0:=lG tw ha hb;rw[h0,VQ rfl,gn,dc,dc,fx,fx,length_map]at h;exact h
theorem oK{ts:LL}{r e f:Nat}(tw:Tw ts r){a b:List Rat}(ha:Nm ts.length e a)(hb:Nm ts.length f b)(he:e+f<=lm ts.length) :
  FP 163 [an ts,nA a,nA b] (.tup [nA (sh ts.length (T.add ts.length (ad ts.length a) (T.neg ts.length (ad ts.length b)))),.v .nilIface]):=by
 have h:=TP (ts.map (List.map rt)) r tw.tr (a.map rt) (b.map rt) e f (ha.rt oz) (hb.rt oz) (by rw[length_map];exact he);have h0:aZ (ts.map (List.map rt)) [a.map rt,b.map rt]=0:=lG tw ha hb;rw[h0,VQ rfl,gn,dc,dc,fx,fx,length_map]at h;exact h
theorem yV{ts:LL}{r e f:Nat}(tw:Tw ts r){a b:List Rat}(ha:Nm ts.length e a)(hb:Nm ts.length f b)(he:e+f<=lm ts.length) :
  FP 164 [an ts,nA a,nA b] (.tup [nA (sh ts.length (T.mul (aj ts) ts.length (ad ts.length a) (ad ts.length b))),.v .nilIface]):=by
 have h:=RG (ts.map (List.map rt)) r tw.tr (a.map rt) (b.map rt) e f (ha.rt oz) (hb.rt oz) (by rw[length_map];exact he);have h0:aZ (ts.map (List.map rt)) [a.map rt,b.map rt]=0:=lG tw ha hb;rw[h0,VQ rfl,gn,dc,dc,mo,fx,fx,length_map]at h;exact h
theorem Hk{ts:LL}{r e:Nat}(tw:Tw ts r){a:List Rat}(ha:Nm ts.length e a)(he:e<=lm ts.length) :
  FP 267 [an ts,nA a] (.tup [i64 (T.sgn (aj ts) ts.length (ad ts.length a)),.v .nilIface]):=by
 have h:=MD (ts.map (List.map rt)) r tw.tr (a.map rt) e (ha.rt he) (by rw[length_map];exact he);have h0:aZ (ts.map (List.map rt)) [a.map rt]=0:=tD tw ha;rw[h0,VQ rfl,gn,dc,mo,fx,length_map]at h;exact h
theorem R6{ts:LL}{r e f:Nat}(tw:Tw ts r){a b:List Rat}(ha:Nm ts.length e a)(hb:Nm ts.length f b)(he:e+f<=lm ts.length) :
  FP 173 [an ts,nA a,nA b] (.tup [nA (sh ts.length (T.add ts.length (ad ts.length a) (ad ts.length b))),i64 0]):=by
 have h:=QT (ts.map (List.map rt)) r tw.tr (a.map rt) (b.map rt) e f (ha.rt oz) (hb.rt oz) (by rw[length_map];exact he);have h0:aZ (ts.map (List.map rt)) [a.map rt,b.map rt]=0:=lG tw ha hb;rw[h0,VQ rfl,gn,dc,dc,fx,fx,length_map]at h;exact h
theorem J0{ts:LL}{r e f:Nat}(tw:Tw ts r){a b:List Rat}(ha:Nm ts.length e a)(hb:Nm ts.length f b)(he:e+f<=lm ts.length) :
  FP 359 [an ts,nA a,nA b] (.tup [nA (sh ts.length (T.add ts.length (ad ts.length a) (T.neg ts.length (ad ts.length b)))),i64 0]):=by
 have h:=Kl (ts.map (List.map rt)) r tw.tr (a.map rt) (b.map rt) e f (ha.rt oz) (hb.rt oz) (by rw[length_map];exact he);have h0:aZ (ts.map (List.map rt)) [a.map rt,b.map rt]=0:=lG tw ha hb;rw[h0,VQ rfl,gn,dc,dc,fx,fx,length_map]at h;exact h
theorem SC{ts:LL}{r e f:Nat}(tw:Tw ts r){a b:List Rat}(ha:Nm ts.length e a)(hb:Nm ts.length f b)(he:e+f<=lm ts.length) :
  FP 92 [an ts,nA a,nA b] (.tup [nA (sh ts.length (T.mul (aj ts) ts.length (ad ts.length a) (ad ts.length b))),i64 0]):=by
 have h:=J8 (ts.map (List.map rt)) r tw.tr (a.map rt) (b.map rt) e f (ha.rt oz) (hb.rt oz) (by rw[length_map];exact he);have h0:aZ (ts.map (List.map rt)) [a.map rt,b.map rt]=0:=lG tw ha hb;rw[h0,VQ rfl,gn,dc,dc,mo,fx,fx,length_map]at h;exact h
theorem OT{ts:LL}{r e f:Nat}(tw:Tw ts r){a b:List Rat}(ha:Nm ts.length e a)(hb:Nm ts.length f b)(he:e+f+1<=lm ts.length) :
  FP 83 [an ts,nA a,nA b] (.tup [i64 (T.sgn (aj ts) ts.length (T.add ts.length (ad ts.length a) (T.neg ts.length (ad ts.length b)))),i64 0]):=by
 have h:=QG (ts.map (List.map rt)) r tw.tr (a.map rt) (b.map rt) e f (ha.rt oz) (hb.rt oz) (by rw[length_map];exact he);have h0:aZ (ts.map (List.map rt)) [a.map rt,b.map rt]=0:=lG tw ha hb;rw[h0,VQ rfl,gn,dc,dc,mo,fx,fx,length_map]at h;exact h
theorem Ul{ts:LL}{r e:Nat}(tw:Tw ts r){a:List Rat}(ha:Nm ts.length e a)(he:e<=lm ts.length) :
  FP 91 [an ts,nA a] (.tup [i64 (T.sgn (aj ts) ts.length (ad ts.length a)),i64 0]):=by
 have h:=Uw (ts.map (List.map rt)) r tw.tr (a.map rt) e (ha.rt he) (by rw[length_map];exact he);have h0:aZ (ts.map (List.map rt)) [a.map rt]=0:=tD tw ha;rw[h0,VQ rfl,gn,dc,mo,fx,length_map]at h;exact h
theorem AK{ts:LL}{r e:Nat}(tw:Tw ts r){a:List Rat}(ha:Nm ts.length e a)(he:e<=lm ts.length) :
  FP 138 [an ts,nA a] (.tup [nA (sh ts.length (T.neg ts.length (ad ts.length a))),.v .nilIface]):=by
 have h:=Ac (ts.map (List.map rt)) r tw.tr (a.map rt) e (ha.rt he) (by rw[length_map];exact he);have h0:aZ (ts.map (List.map rt)) [a.map rt]=0:=tD tw ha;rw[h0,VQ rfl,gn,dc,fx,length_map]at h;exact h
theorem LI{ts:LL}{r:Nat}(tw:Tw ts r):FP 121 [an ts] (.v .nilIface):=by
 have h:=oT (ts.map (List.map rt)) r tw.tr;rw[tw.chk,gn]at h;exact h
theorem oM{q:Rat}(h:Qs q):FP 126 [qA q] (nA (sh 0 (q:Rat))):=by
 have h1:=zY (rt q) h.ok (by rw[bt];exact h);rw[bt]at h1;exact h1
theorem pO{q:Rat}(h:Qs q):FP 37 [qA q] (nA (sh 0 (q:Rat))):=by
 have h1:=Up (rt q) h.ok (by rw[bt];exact h);rw[bt]at h1;exact h1
theorem vn{ts:LL}{r e:Nat}(tw:Tw ts r)(ls:LL)(hl:∀l∈ls,Nm ts.length e l)(he:e<=lm ts.length)(hn:ls.length<=1000):FP 177 [an ts,.lst 1 (ls.map nA)] (.v .nilIface):=by
 refine af func177 ?_;refine gc (LI tw) ?_;refine gC (fun t13=>?_) (fun t13=>?_) (st1:=(3,0));cases t13;refine gl ?_;refine aN [2,15,16] [2] (fun(i:Nat)=>[(17,some (i64 i))]) (fun _=>[]) (fun i=>i<=ls.length) (fun i=>ls.length-i) 0 (zero_le _) ?_;rintro i hi K1 J1;refine gC (fun t18=>?_) (fun t18=>?_)
 ·have hin : i < ls.length := by simpa [aa] using t18
  obtain⟨l,hll⟩:=az hin;have hok:=hl l (mem_of_getElem? hll);refine gi (ay hll) ?_;refine gc (AK tw hok he) ?_;refine gC (fun t28=>?_) (fun t28=>?_) (st1:=(9,0));cases t28;refine ga aE ?_;exact aH J1 (i+1) hin
 have hin:i=ls.length:=by have:ls.length<=i:=(by simpa[aa]using t18);omega
 refine ae ?_
 first |rfl |(simp;done)
theorem r6{ts:LL}{r e:Nat}(tw:Tw ts r)(ps:List (List Rat×List Rat))(hl:∀p∈ps,Nm ts.length e p.1/\Nm ts.length e p.2)(he:e<=lm ts.length)(hn:ps.length<=500):FP 122 [an ts,.lst 2 (ps.map fun p=>ao p.1 p.2)] (.v .nilIface):=by
 refine af func122 ?_;refine gl ?_;refine gW (Wk.virt 900 1 rfl) ?_;refine aN [2,8,9] [2] (fun(i:Nat)=>[(5,some (.ms 900 1 0 (2*i))),(10,some (i64 i))]) (fun i=>[(900,some (.row 1 ((iO (ps.take i)).map nA)))]) (fun i=>i<=ps.length) (fun i=>ps.length-i) 0 (zero_le _) ?_;rintro i hi K1 J1;refine gC (fun t11=>?_) (fun t11=>?_) (st2:=(7,0))
 ·have hin : i < ps.length := by simpa [aa] using t11
  obtain⟨p,hp⟩:=az hin;have hfl:(iO (ps.take i)).length=2*i:=by rw[vM,length_take];omega
  refine gi (ay hp) ?_;refine gs (bO (.tmp rfl) rfl (by rw[length_map,hfl]) (.tmp rfl) T35 rfl T67 rfl rfl (by simp;omega) rfl rfl) ?_ (6,0);refine gW (Wk.of (sl:=[(2,some (.ptr 2 0)),(5,some (.ms 20 1 0 (2*i+2))),(8,some (.lst 2 (ps.map fun p=>ao p.1 p.2))),(9,some (i64 ps.length)),(10,some (i64 i))]) (hp:=[(2,some (.box [.lst 1 (ts.map nA)])),(20,some (.row 1 ((iO (ps.take (i+1))).map nA)))]) aR (.k (.cons rfl (BlkSub.of (by rw[cD hp,E5,map_append];rfl)) .nil))) ?_ (6,0);refine gW (Wk.rk (k:=20) (d:=900) rfl rfl) ?_;refine ga aE ?_;exact aH J1 (i+1) hin
 have hin:i=ps.length:=by have:ps.length<=i:=(by simpa[aa]using t11);omega
 subst hin;refine gW ((Wk.freeze (k:=900) rfl).trans<|Wk.of (sl:=[(2,some (.ptr 2 0)),(5,some (.lst 1 ((iO ps).map nA)))]) (hp:=[(2,some (.box [.lst 1 (ts.map nA)]))]) (.k (.cons rfl (Sub.of (by rw[bD (by rw[length_map,vM,length_take];omega),take_length])) .nil)) (.k .nil)) ?_;refine gc (vn tw (iO ps) (IY hl) he (by rw[vM];omega)) ?_;refine ae ?_
 first |rfl |(simp;done)
theorem yp(R:List AV)(a:List Rat):Con prog 328 [.ptr 1000 0,nA a,.v .nilIface] [(1000,some (.box [.lst 1 R,.v .nilIface]))] (nA a) [(1000,some (.box [.lst 1 R,.v .nilIface]))]:=by
 refine gF func328 (fun k z h=>bB h) ?_;refine gC (fun t11=>?_) (fun t11=>?_) (st2:=(77777,0))
 ·refine gR ?_;exact aA.keep (bi rfl)
 cases t11
theorem vJ{ts:LL}{r e f:Nat}(tw:Tw ts r){a b:List Rat}(ha:Nm ts.length e a)(hb:Nm ts.length f b)(he:e+f<=lm ts.length) :
  Con prog 230 [.ptr 1000 0,nA a,nA b] [(1000,some (gP ts))] (nA (sh ts.length (T.add ts.length (ad ts.length a) (ad ts.length b)))) [(1000,some (gP ts))]:=by
 refine gF func230 (fun k z h=>bB h) ?_;refine gc (yE tw ha hb he) ?_;refine gt (aJ (yp _ _) (aL rfl rfl rfl) aM rfl rfl) ?_;refine gR ?_;exact aA.keep (bi rfl)
theorem uT{ts:LL}{r e f:Nat}(tw:Tw ts r){a b:List Rat}(ha:Nm ts.length e a)(hb:Nm ts.length f b)(he:e+f<=lm ts.length) :
  Con prog 229 [.ptr 1000 0,nA a,nA b] [(1000,some (gP ts))] (nA (sh ts.length (T.add ts.length (ad ts.length a) (T.neg ts.length (ad ts.length b))))) [(1000,some (gP ts))]:=by
 refine gF func229 (fun k z h=>bB h) ?_;refine gc (oK tw ha hb he) ?_;refine gt (aJ (yp _ _) (aL rfl rfl rfl) aM rfl rfl) ?_;refine gR ?_;exact aA.keep (bi rfl)
theorem kW{ts:LL}{r e f:Nat}(tw:Tw ts r){a b:List Rat}(ha:Nm ts.length e a)(hb:Nm ts.length f b)(he:e+f<=lm ts.length) :
  Con prog 231 [.ptr 1000 0,nA a,nA b] [(1000,some (gP ts))] (nA (sh ts.length (T.mul (aj ts) ts.length (ad ts.length a) (ad ts.length b)))) [(1000,some (gP ts))]:=by
 refine gF func231 (fun k z h=>bB h) ?_;refine gc (yV tw ha hb he) ?_;refine gt (aJ (yp _ _) (aL rfl rfl rfl) aM rfl rfl) ?_;refine gR ?_;exact aA.keep (bi rfl)
theorem Ee{ts:LL}{r e f:Nat}(tw:Tw ts r){a b c d:List Rat}(ha:Nm ts.length e a)(hb:Nm ts.length e b)(hc:Nm ts.length f c)(hd:Nm ts.length f d)(he:2*(e+f+kB r ts.length)<=lm ts.length) :
  Con prog 125 [.ptr 1000 0,ao a b,ao c d] [(1000,some (gP ts))] (nA (sh ts.length (kH ts (ad ts.length a) (ad ts.length b) (ad ts.length c) (ad ts.length d)))) [(1000,some (gP ts))]:=by
 refine gF func125 (fun k z h=>bB h) ?_;refine gt (aJ (kW tw ha hc oz) (aL rfl rfl rfl) aM rfl rfl) ?_;refine gt (aJ (kW tw hb hd oz) (aL rfl rfl rfl) aM rfl rfl) ?_;refine gt (aJ (sJ▸vJ tw (ha.mul tw rfl hc) (hb.mul tw rfl hd) oz) (aL rfl rfl rfl) aM rfl rfl) ?_;refine gD ?_;refine gR ?_;exact aA.keep (bi rfl)
theorem S4{ts:LL}{r e f:Nat}(tw:Tw ts r){a b c d:List Rat}(ha:Nm ts.length e a)(hb:Nm ts.length e b)(hc:Nm ts.length f c)(hd:Nm ts.length f d)(he:2*(e+f+kB r ts.length)<=lm ts.length) :
  Con prog 162 [.ptr 1000 0,ao a b,ao c d] [(1000,some (gP ts))] (nA (sh ts.length (mR ts (ad ts.length a) (ad ts.length b) (ad ts.length c) (ad ts.length d)))) [(1000,some (gP ts))]:=by
 refine gF func162 (fun k z h=>bB h) ?_;refine gt (aJ (kW tw ha hd oz) (aL rfl rfl rfl) aM rfl rfl) ?_;refine gt (aJ (kW tw hb hc oz) (aL rfl rfl rfl) aM rfl rfl) ?_;refine gt (aJ (sP▸uT tw (ha.mul tw rfl hd) (hb.mul tw rfl hc) oz) (aL rfl rfl rfl) aM rfl rfl) ?_;refine gD ?_;refine gR ?_;exact aA.keep (bi rfl)
def T.inv(r:(k:Nat)->T k):(k:Nat)->T k->T k
  |0,q=>(1:Rat)/q
  |k+1,x =>
    if T.isZ k x.2=true then(T.inv r k x.1,T.zero k)
    else if T.sgn r k (T.norm r k x)=0 then(T.inv r k (T.add k x.1 x.1),T.zero k)
    else(T.mul r k x.1 (T.inv r k (T.norm r k x)),T.mul r k (T.neg k x.2) (T.inv r k (T.norm r k x)))
theorem T.inv_low(r:(k:Nat)->T k)(k:Nat)(x:T k):T.inv r (k+1) (x,T.zero k)=(T.inv r k x,T.zero k):=by
 have h:=(T.isZ_iff k (T.zero k)).2 rfl
 conv=>lhs;unfold T.inv
 simp only[VQ h]
theorem mW(r:(k:Nat)->T k){i j:Nat}{s L:List Rat}(hs:s.length<=2^i)(hL:L.length<=2^i)(h:ad i L=T.inv r i (ad i s))(hij:i<=j):ad j L=T.inv r j (ad j s):=by
  induction j with
  | zero => have : i = 0 := by omega
            subst this;exact h
  |succ j ih =>
    by_cases h':i=j+1
    · rw[<- h'];exact h
    · rw[fV (le_trans hs (bT oz)),fV (le_trans hL (bT oz)),T.inv_low,ih oz]
def iB(r:Nat):Nat->Nat->Nat
  |0,e=>e
  |j+1,e=>e+iB r j (4*e+3*eB r j+r+1)+eB r (j+1)
theorem pa(r:Nat):∀j e,e<=iB r j e
 |0,e=>le_refl _
 |j+1,e=>by simp only[iB];omega
theorem tB(r:Nat):∀j {e f:Nat},e<=f->iB r j e<=iB r j f
 |0,e,f,h=>h
 |j+1,e,f,h=>by
  have:=tB r j (e:=4*e+3*eB r j+r+1) (f:=4*f+3*eB r j+r+1) oz;simp only[iB];omega
theorem NO(r j e:Nat):iB r j e<=iB r (j+1) e:=by
 have:=tB r j (e:=e) (f:=4*e+3*eB r j+r+1) oz;simp only[iB];omega
theorem xb(r e:Nat){i j:Nat}(h:i<=j):iB r i e<=iB r j e:=by
  induction j with
  | zero => have : i = 0 := by omega
            subst this;exact le_refl _
  |succ j ih =>
    by_cases hij:i=j+1
    · rw[hij];exact le_refl _
    · exact le_trans (ih oz) (NO r j e)
theorem IB(r e:Nat){j:Nat}(h:j<=1):iB r j e<=5*e+2*eB r j:=by
 match j,h with
 |0,_=>simp only[iB,eB];omega
 |1,_=>simp only[iB,eB];omega
theorem Ei{r:(k:Nat)->T k}{n:Nat}(h:Sg (E r n) (sg r n))(hd:0<=sg r n (bC r n)){x y:E r n}(hz:sg r (n+1) (dI x y)≠0)(hN:sg r n (a5 x y)=0):sg r n (x+x)≠0:=by
 have hx:sg r n x≠0:=by
  intro hx;rw[kF,hN,hx]at hz;have h1:sg r n (x*x)=0:=by rw[h.mul,hx];simp
  have h2:=h.zadd (y:=-(y*y*bC r n)) h1;unfold a5 at hN;rw[h2,h.neg,h.mul,h.mul]at hN;unfold T.sgn3 at hz;have c1:=h.cs y;have c2:=h.cs (bC r n);rcases c1 with e |e |e <;> rcases c2 with e' |e' |e' <;> rw[e,e']at hN <;> rw[e,e']at hz <;> first |omega |(simp at hz) |(simp at hN)
 rcases h.cs x with e |e |e
 ·have := h.padd (x := -x) (y := -x) (by rw[h.neg,e];rfl) (by rw[h.neg,e];decide);rw[show -x+-x=-(x+x) by grind,h.neg]at this;omega
 ·exact absurd e hx
 ·have:=h.padd (x:=x) (y:=x) e oz;omega
theorem Cb.inv1{e:Nat}{q:Rat}(h:Cb e [q])(hq:q≠0):Cb e [(1:Rat)/q]:=by
 obtain⟨D,N,⟨h0,h1⟩,h2,h3⟩:=h;obtain⟨n,hn,hl⟩:=h1 q (by simp)
 have hD:((D:Int):Rat)≠0:=by
  intro h9;have:(D:Int)=0:=Rat.intCast_eq_zero_iff.1 h9;omega
 have hn0:n≠0:=by
  rintro rfl;rw[show((0:Int):Rat)=0 from rfl]at hn;rcases Rat.mul_eq_zero.1 hn with h9 |h9
  ·exact hq h9
  ·exact hD h9
 have hnq:((n:Int):Rat)≠0:=fun h9=>hn0 (Rat.intCast_eq_zero_iff.1 h9)
 refine⟨n.natAbs,D,⟨by omega,?_⟩,le_trans hl h3,h2⟩;intro x hx;rw[List.mem_singleton.1 hx];have key:(1:Rat)/q*(n:Rat)=((D:Int):Rat):=by rw[<- hn];grind
 rcases Int.natAbs_eq n with e9 |e9
 ·refine⟨D,?_,by simp⟩;rw[<- e9];exact key
 ·refine ⟨-(D : Int), ?_, by simp⟩;rw [Rat.intCast_neg,<- key]
  conv=>rhs;rw[e9]
  rw[Rat.intCast_neg];grind
theorem xx{e n:Nat}{s:List Rat}(h:Cb e s):Cb e (dt (s.take n) (co (s.drop n)) n):=by
 obtain⟨D,N,h1,h2,h3⟩:=h;exact⟨D,N,(h1.sub (fun q hq=>mem_of_mem_take hq)).join (h1.sub (fun q hq=>List.mem_of_mem_drop hq)).minus,h2,h3⟩
theorem Bx:∀{j i:Nat}{x:T j},(sh j x).length=2^(i+1)->i+1<=j->T.isZ i (ad i ((sh j x).drop (2^i)))=false
 |0,i,x,_,h=>by omega
 |j+1,i,x,hl,h=>by
  cases hz:T.isZ j x.2
  ·have h1:=VH hz;rw[h1]at hl
   have e:i=j:=by
    rcases Nat.lt_trichotomy i j with h9 |h9 |h9
    ·have := Nat.pow_lt_pow_right (a := 2) oz (show i+1<j+1 by omega);omega
    ·exact h9
    ·omega
   subst e;have h2:ad (i+1) (sh (i+1) x)=x:=bq (i+1) x;have h3:ad i ((sh (i+1) x).drop (2^i))=x.2:=congrArg Prod.snd h2;rw[h3];exact hz
  ·have h1:sh (j+1) x=sh j x.1:=by
    conv=>lhs;unfold sh
    rw[VQ hz]
   rw[h1]at hl ⊢;have h2:=(eg j x.1).le
   have h3:i+1<=j:=by
    rcases lt_or_ge j (i+1)with h9 |h9
    ·have:=Nat.pow_lt_pow_right (a:=2) oz h9;omega
    ·exact h9
   exact Bx hl h3
theorem Fh(r:(k:Nat)->T k){i:Nat}{x:T (i+1)}(hz:T.isZ i x.2=false)(h0:T.sgn r i (T.norm r i x)=0):T.inv r (i+1) x=(T.inv r i (T.add i x.1 x.1),T.zero i):=by
 conv=>lhs;unfold T.inv
 rw[VP (by rw[hz];decide),VQ h0]
theorem D6(r:(k:Nat)->T k){i:Nat}{x:T (i+1)}(hz:T.isZ i x.2=false)(h0:T.sgn r i (T.norm r i x)≠0) :
  T.inv r (i+1) x=(T.mul r i x.1 (T.inv r i (T.norm r i x)),T.mul r i (T.neg i x.2) (T.inv r i (T.norm r i x))):=by
 conv=>lhs;unfold T.inv
 rw[VP (by rw[hz];decide),VP h0]
theorem mul_low(r:(k:Nat)->T k)(i:Nat)(x y w:T i):T.mul r (i+1) (x,y) (w,T.zero i)=(T.mul r i x w,T.mul r i y w):=by
 show(T.add i (T.mul r i x w) (T.mul r i (T.mul r i y (T.zero i)) (r i)),T.add i (T.mul r i x (T.zero i)) (T.mul r i y w))=_;rw[T.mul_zero,T.zero_mul,T.mul_zero,T.add_zero,T.zero_add]
theorem oE{n e:Nat}{l:List Rat}(h:Nm n e l)(he:e<=4398046511103):NR (l.map rt) e:=by
 refine⟨?_,by have:=h.nl.len5 h.five;rw[length_map];omega,by rw[fx];exact h.cb⟩;intro x hx;obtain⟨q,hq,rfl⟩:=List.mem_map.1 hx;exact(h.cb.qs oz hq).ok
theorem Uv{ts:LL}{j e:Nat}{a:List Rat}{q:Rat}(h5:j<=5)(ha:Nl j a)(ca:Cb e a)(he:e<4398046511104)(hs:sh j (ad j a)=[q])(hq:q≠0) :
  FP 356 [an ts,nA a] (nA [1/q]):=by
 have qa:∀q∈a,Qs q:=fun q hq=>ca.qs he hq
 have cs:=ca.sh ha;rw[hs]at cs;have qq:Qs q:=cs.qs he (by simp);have hsh:=kT a h5 ha qa;rw[hs]at hsh;have hdv:=IJ (rt 1) (rt q) (Qb.one.qs oz).ok qq.ok;rw[bt,bt,VP hq]at hdv;refine af func356 ?_;refine gc hsh ?_;refine gl ?_;refine gC (fun t13=>?_) (fun t13=>?_) (st2:=(77777,0))
 ·refine gc (m8 1 oz) ?_;refine gi rfl ?_;refine gc hdv ?_;refine gD ?_;refine ae ?_;rfl
 cases t13
theorem J6{ts:LL}{m r:Nat}(ht:fQ ts m r)(hm:m<=5)(hml:m<=ts.length){j e i:Nat}{a s L:List Rat}(h5:j<=5)(ha:Nl j a)(ca:Cb e a)(he:4*e+3*eB r i+r+1<4398046511104)(hs:sh j (ad j a)=s)(hi:i+1<=m)
  (hsl:s.length=2^(i+1)) (hb:sB r i (4*e+3*eB r i+r+1)<4398046511104) (h0:T.sgn (aj ts) i (ad i (g9 ts i s))=0)
  (hL:FP 356 [an ts,nA (bR (s.take (2^i)) (s.take (2^i)))] (nA L)):FP 356 [an ts,nA a] (nA L):=by
 have qa:∀q∈a,Qs q:=fun q hq=>ca.qs oz hq
 have cs:=ca.sh ha;have hsh:=kT a h5 ha qa;rw[hs]at cs hsh;have hp2:=Nat.two_pow_pos i;have hpi:2^i<=32:=bT (b:=5) oz;have hps:2^(i+1)=2*2^i:=by rw[Nat.pow_succ];omega
 obtain⟨nn,dn,cn⟩:=vK ht oz hsl cs;have k4:=pq ts m r ht hm hml i _ _ oz nn cn hb;have qs:∀q∈s.take (2^i),Qs q:=fun q hq=>cs.take.qs oz hq
 refine af func356 ?_;refine gc hsh ?_;refine gl ?_;refine gC (fun t13=>?_) (fun t13=>?_) (st1:=(3,0));exact absurd t13 (by simp only[aa,beq_iff_eq];omega);refine gl ?_;refine gs (dS (.tmp rfl) (.const _) oz (show _=((2^i:Nat):Int) by rw[eF oz,hsl,d8]) rfl) ?_;refine gc (Be ts m r ht hm hml i s e oz hsl cs oz) ?_;refine gc k4 ?_;refine gC (fun t33=>?_) (fun t33=>?_) (st2:=(77777,0))
 ·refine gs (cz (.tmp rfl) (.none _) (.some _ (.tmp rfl) oz) T67 rfl T45 rfl oz (by simp only[length_map];omega) rfl) ?_;refine gs (cz (.tmp rfl) (.none _) (.some _ (.tmp rfl) oz) T67 rfl T45 rfl oz (by simp only[length_map];omega) rfl) ?_;refine gc (by have h9:=qO _ _ qs qs (by simp;omega) (by simp;omega);rw[<- jI]at h9;exact h9) ?_;refine gc hL ?_;refine gD ?_;refine ae ?_;rfl
 exact absurd t33 (by rw[h0];decide)
theorem NC{ts:LL}{m r:Nat}(ht:fQ ts m r)(hm:m<=5)(hml:m<=ts.length){j e f i:Nat}{a s L:List Rat}(h5:j<=5)(ha:Nl j a)(ca:Cb e a)(he:4*e+3*eB r i+r+1<4398046511104)(hs:sh j (ad j a)=s)(hi:i+1<=m)
  (hsl:s.length=2^(i+1)) (hb:sB r i (4*e+3*eB r i+r+1)<4398046511104) (h0:T.sgn (aj ts) i (ad i (g9 ts i s))≠0)
  (hL:FP 356 [an ts,nA (g9 ts i s)] (nA L)) (nL:Nl i L) (cL:Cb f L) (hf:e+f+eB r (i+1)<4398046511104) :
  FP 356 [an ts,nA a] (nA (pT ts (i+1) (dt (s.take (2^i)) (co (s.drop (2^i))) (2^i)) L)):=by
 have qa:∀q∈a,Qs q:=fun q hq=>ca.qs oz hq
 have cs:=ca.sh ha;have hsh:=kT a h5 ha qa;rw[hs]at cs hsh;have hp2:=Nat.two_pow_pos i;have hpi:2^i<=32:=bT (b:=5) oz;have hps:2^(i+1)=2*2^i:=by rw[Nat.pow_succ];omega
 obtain⟨nn,dn,cn⟩:=vK ht oz hsl cs;have k4:=pq ts m r ht hm hml i _ _ oz nn cn hb;have qy:∀q∈s.drop (2^i),Qs q:=fun q hq=>cs.drop.qs oz hq
 have lx:(s.take (2^i)).length=2^i:=eY hsl;have ly:(s.drop (2^i)).length=2^i:=ft hsl;have nj:Nl (i+1) (dt (s.take (2^i)) (co (s.drop (2^i))) (2^i)):=.inr ⟨i+1,le_refl _,by rw[l8 oz (by rw[fE];omega)];omega⟩;have cj:Cb e (dt (s.take (2^i)) (co (s.drop (2^i))) (2^i)):=xx cs;have hti:=pE ts m r ht hm hml (i+1) (i+1) _ _ e f hi (le_refl _) nj (nL.mono oz) cj cL hf;refine af func356 ?_;refine gc hsh ?_;refine gl ?_;refine gC (fun t13=>?_) (fun t13=>?_) (st1:=(3,0));exact absurd t13 (by simp only[aa,beq_iff_eq];omega);refine gl ?_;refine gs (dS (.tmp rfl) (.const _) oz (show _=((2^i:Nat):Int) by rw[eF oz,hsl,d8]) rfl) ?_;refine gc (Be ts m r ht hm hml i s e oz hsl cs oz) ?_;refine gc k4 ?_;refine gC (fun t33=>?_) (fun t33=>?_) (st1:=(8,0));exact absurd t33 (by simp only[aa,beq_iff_eq];omega);refine gs (cz (.tmp rfl) (.none _) (.some _ (.tmp rfl) oz) T67 rfl T45 rfl oz (by simp only[length_map];omega) rfl) ?_;refine gs (cz (.tmp rfl) (.some _ (.tmp rfl) oz) (.none _) T67 rfl T45 rfl (by simp only[length_map];omega) oz rfl) ?_;refine gc (by have h9:=wX _ qy oz;rw[<- jP]at h9;exact h9) ?_;refine gc (by have h9:=Bo (s.take (2^i)) (co (s.drop (2^i))) (2^i) oz (by rw[fE];omega) oz;rw[<- jI]at h9;exact h9) ?_;refine gc hL ?_;refine gc hti ?_;refine gD ?_;refine ae ?_;rfl
theorem O3{ts:LL}{m r:Nat}(ht:fQ ts m r)(hp:sM (aj ts) m)(hm:m<=5)(hml:m<=ts.length)(j:Nat):∀(a:List Rat)(e:Nat),j<=m->Nl j a->Cb e a->T.sgn (aj ts) j (ad j a)≠0 ->
  sB r j e<4398046511104->iB r j e<4398046511104->∃L,FP 356 [an ts,nA a] (nA L)/\Nl j L/\Cb (iB r j e) L/\ad j L=T.inv (aj ts) j (ad j a):=by
 induction j using Nat.strongRecOn
 rename_i j ih;intro a e hj ha ca h0 hs hi;have hse:=mi r j e;have cs:=ca.sh ha;have hsn:=eg j (ad j a);have hsd:=bq j (ad j a);have hle:=pa r j e;obtain⟨s,hsa⟩:∃s,sh j (ad j a)=s:=⟨_,rfl⟩
 rcases nf hsn with h |h |⟨i,hij,h⟩
 ·exfalso;have h1:=List.length_eq_zero_iff.1 h;rw[h1,iN]at hsd;rw[<- hsd,T.sgn_zero]at h0;exact h0 rfl
 ·obtain ⟨q, hq⟩:=List.length_eq_one_iff.1 h;rw [hq,kR] at hsd;rw [<- hsd,T.sgn_ofQ] at h0;have q0:q ≠ 0:=by rintro rfl; exact h0 rfl
  refine⟨[1/q],Uv oz ha ca oz hq q0,.inr ⟨0,by omega,rfl⟩,(Cb.inv1 (hq▸cs) q0).mono hle,?_⟩;rw[<- hsd,<- kR j q];exact mW (aj ts) (i:=0) (s:=[q]) (L:=[1/q]) (by simp) (by simp) rfl oz
 ·have hz:=Bx h hij;rw [hsa] at h cs hsd hsn hz;obtain ⟨nn,dn,cn⟩:=vK ht oz h cs;have hsl:s.length <= 2 ^ (i + 1):=by omega
  have b1:sB r i (4*e+3*eB r i+r+1)<=sB r j e:=pV r e hij;have b2:=mi r i (4*e+3*eB r i+r+1);have b3:iB r (i+1) e<=iB r j e:=xb r e hij;have b4:iB r (i+1) e=e+iB r i (4*e+3*eB r i+r+1)+eB r (i+1):=rfl;have lx:(s.take (2^i)).length=2^i:=eY h;have ly:(s.drop (2^i)).length=2^i:=ft h;have hpi:2^i<=2^(i+1):=Nat.pow_le_pow_right oz oz;rw[<- hsd]at h0 ⊢
  by_cases hN:T.sgn (aj ts) i (ad i (g9 ts i s))=0
  ·have hS:=mu (aj ts) i (fun k hk=>hp k oz)
   have hx:T.sgn (aj ts) i (ad i (bR (s.take (2^i)) (s.take (2^i))))≠0:=by
    rw[gk];rw[om (aj ts) hsl hij]at h0;rw[dn]at hN;exact Ei hS (hp i oz) (x:=ad i (s.take (2^i))) (y:=ad i (s.drop (2^i))) h0 hN
   have np:Nl i (bR (s.take (2^i)) (s.take (2^i))):=.inr ⟨i,le_refl _,by rw[dP];omega⟩;have b5:=mz r i (e:=e+e+1) (f:=4*e+3*eB r i+r+1) oz;have b6:=tB r i (e:=e+e+1) (f:=4*e+3*eB r i+r+1) oz;obtain⟨L,k1,k2,k3,k4⟩:=ih i oz _ _ oz np (cs.take.plus cs.take) hx oz oz;refine⟨L,J6 ht hm hml oz ha ca oz hsa oz h oz hN k1,k2.mono oz,k3.mono oz,?_⟩;refine mW (aj ts) (i:=i+1) hsl (le_trans k2.le hpi) ?_ hij;rw[Fh (aj ts) hz (by rw[<- dn];exact hN),fV k2.le,k4,gk];rfl
  ·obtain⟨L,k1,k2,k3,k4⟩:=ih i oz _ _ oz nn cn hN oz oz;have nj:Nl (i+1) (dt (s.take (2^i)) (co (s.drop (2^i))) (2^i)):=.inr ⟨i+1,le_refl _,by rw[l8 oz (by rw[fE];omega),Nat.pow_succ];omega⟩;have s1:=fY ts m ht.1 (i+1) (i+1) _ _ oz (le_refl _) nj (k2.mono oz);have c1:=Cb.mul ht (k:=i+1) (show i+1<=m by omega) (le_refl _) nj (k2.mono oz) (xx cs) k3;refine⟨_,NC ht hm hml oz ha ca oz hsa oz h oz hN k1 k2 k3 oz,s1.1.mono hij,c1.mono oz,?_⟩;refine mW (aj ts) (i:=i+1) hsl s1.1.le ?_ hij;rw[D6 (aj ts) hz (by rw[<- dn];exact hN),s1.2,sE oz,fV k2.le,mul_low,lB,k4,dn];rfl
theorem L4{ts:LL}{r e f:Nat}(tw:Tw ts r){a b:List Rat}(ha:Nm ts.length e a)(hb:Nm ts.length f b)(he:e<=4398046511103)(hf:f<=4398046511103):FP 243 [an ts,.lst 1 [nA a,nA b]] (.v .nilIface):=by
 have hck:=oY (ts.map (List.map rt)) r tw.tr [a.map rt,b.map rt] (lV (oE ha he) (oE hb hf)) (by simp);have hc0:aZ (ts.map (List.map rt)) [a.map rt,b.map rt]=0:=lG tw ha hb;rw[hc0,gn]at hck;rw[show[nA a,nA b]=[a.map rt,b.map rt].map nR by simp[dc]];exact hck
theorem yn{ts:LL}{r f j:Nat}(tw:Tw ts r){b:List Rat}(hb:Nm ts.length f b)(hj:j<=ts.length)(nb:Nl j b)(h0:T.sgn (aj ts) ts.length (ad ts.length b)≠0)(hf:f<=lm ts.length)(hi:iB r j f<4398046511104) :
  ∃L,FP 356 [an ts,nA b] (nA L)/\Nl ts.length L/\Cb (iB r j f) L/\ad ts.length L=T.inv (aj ts) ts.length (ad ts.length b):=by
 rw[om (aj ts) nb.le hj]at h0;obtain⟨L,k1,k2,k3,k4⟩:=O3 tw.ok tw.pos tw.five (le_refl _) j b f hj nb hb.cb h0 (ke hj tw.three tw.le hf) hi;exact⟨L,k1,k2.mono hj,k3,mW (aj ts) nb.le k2.le k4 hj⟩
theorem zL{ts:LL}{r e f j:Nat}(tw:Tw ts r){a b:List Rat}(ha:Nm ts.length e a)(hb:Nm ts.length f b)(hj:j<=ts.length)(nb:Nl j b)(h0:T.sgn (aj ts) ts.length (ad ts.length b)≠0)(hf:f<=lm ts.length)(he:e+iB r j f+eB r ts.length<=200000000000) :
  FP 271 [an ts,nA a,nA b] (.tup [nA (sh ts.length (T.mul (aj ts) ts.length (ad ts.length a) (T.inv (aj ts) ts.length (ad ts.length b)))),.v .nilIface]):=by
 have hlm:=fg ts.length;have h5:=tw.five;have h3:=tw.three;have hfe:=pa r j f;have hsB:=ke (le_refl ts.length) h3 tw.le hf;have hsg:=pq ts ts.length r tw.ok h5 (le_refl _) ts.length _ _ (le_refl _) hb.nl hb.cb hsB;obtain⟨L,k1,k2,k3,k4⟩:=yn tw hb hj nb h0 hf oz;have hti:=pE ts ts.length r tw.ok h5 (le_refl _) ts.length ts.length _ _ _ _ (le_refl _) (le_refl _) ha.nl k2 ha.cb k3 oz;have s1:=fY ts ts.length tw.ok.1 ts.length ts.length _ _ (le_refl _) (le_refl _) ha.nl k2;have c1:=Cb.mul tw.ok (k:=ts.length) (le_refl _) (le_refl _) ha.nl k2 ha.cb k3;have hsh:=kT _ h5 s1.1 (fun q hq=>c1.qs oz hq);rw[s1.2,k4]at hsh;refine af func271 ?_;refine gc (L4 tw ha hb oz oz) ?_;refine gC (fun t15=>?_) (fun t15=>?_) (st1:=(3,0));cases t15;refine gc hsg ?_;refine gC (fun t20=>?_) (fun t20=>?_) (st1:=(5,0));exact absurd t20 (by simp only[aa,beq_iff_eq];omega);refine gc k1 ?_;refine gc hti ?_;refine gc hsh ?_;refine gD ?_;refine bf ?_;rfl
theorem s6{ts:LL}{r e f j:Nat}(tw:Tw ts r){a b:List Rat}(ha:Nm ts.length e a)(hb:Nm ts.length f b)(hj:j<=ts.length)(nb:Nl j b)(h0:T.sgn (aj ts) ts.length (ad ts.length b)≠0)(hf:f<=lm ts.length)(he:e+iB r j f+eB r ts.length<=200000000000) :
  Nm ts.length (e+iB r j f+eB r ts.length) (sh ts.length (T.mul (aj ts) ts.length (ad ts.length a) (T.inv (aj ts) ts.length (ad ts.length b)))):=by
 obtain⟨L,k1,k2,k3,k4⟩:=yn tw hb hj nb h0 hf oz;have s1:=fY ts ts.length tw.ok.1 ts.length ts.length _ _ (le_refl _) (le_refl _) ha.nl k2;have c1:=Cb.mul tw.ok (k:=ts.length) (le_refl _) (le_refl _) ha.nl k2 ha.cb k3;refine⟨tw.five,eg _ _,?_⟩;rw[<- k4,<- s1.2];exact c1.sh s1.1
def cc(k:Nat):List Rat:=(List.replicate (2^(k+1)) 0).set (2^k) 1
def aI(ts:LL)(a:List Rat):LL:=ts++[aS a (2^ts.length)]
theorem Jm(k:Nat):BlkSub (.row 3 ((List.replicate (2^(k+1)) (.agg [.v (.bool false),nS,nS])).set (2^k) (qA 1))) (.row 3 ((cc k).map qA)):=by
 unfold cc;refine .row ?_ ?_
 ·simp
 ·intro i e e' he he';rw[map_set,map_replicate]at he';rw[List.getElem?_set]at he he';split at he
  ·rename_i h1;rw[VQ h1]at he';split at he
   ·rename_i h2;rw[length_replicate]at h2;rw[length_replicate,VQ h2]at he';cases he;cases he'
    exact jL.refl (Bh 1)
   ·cases he
  ·rename_i h1;rw[VP h1]at he';rw[getElem?_replicate]at he he';split at he
   ·rename_i h2;rw[VQ h2]at he';cases he;cases he'
    exact qZ
   ·cases he
theorem ul(k:Nat):(cc k).length=2^(k+1):=by simp[cc]
theorem G8{k:Nat}(hk:k<=5):IntKind.i64.wrap ((2:Int)*2^(min (k:Int).toNat IntKind.i64.bits))=((2^(k+1):Nat):Int):=by
 have h:k=0\/k=1\/k=2\/k=3\/k=4\/k=5:=by omega
 rcases h with rfl |rfl |rfl |rfl |rfl |rfl <;> rfl
theorem UA(d:Nat)(hd:Nat.blt d 1000=true)(k:Nat)(hk:k<=5):Con prog 270 [i64 k] [] (.ms d 3 0 (2^(k+1))) [(d,some (.row 3 ((cc k).map qA)))]:=by
 have hp:2^(k+1)<=64:=bT (b:=6) oz;have hp2:2^k<2^(k+1):=Nat.pow_lt_pow_right oz oz;have hp0:=Nat.two_pow_pos k;refine gF func270 (fun k z h=>by cases h) ?_;refine gs (fj (.const _) (.tmp rfl) oz (G8 hk) rfl) ?_;refine gs (fD (.tmp rfl) T67 rfl T45 rfl rfl oz (by dsimp only;omega) rfl) ?_;refine gs (fj (.const _) (.tmp rfl) oz (kD oz) rfl) ?_;refine gc (m8 1 oz) ?_;refine gs (bP (n:=2^k) (.tmp rfl) (.tmp rfl) T67 rfl T45 rfl oz oz rfl) ?_;refine gs (cO (.tmp rfl) rfl (by rw[getElem?_replicate,VQ oz]) rfl (.tmp rfl) rfl rfl T45 rfl rfl) ?_;refine gD ?_ (3,0);refine gW (Wk.of (sl:=[(3,some (.ms 6 3 0 (2^(k+1))))]) (hp:=[(6,some (.row 3 ((cc k).map qA)))]) (.cons rfl (Sub.of (congrArg (AV.ms 6 3 0) (toNat_natCast _))) .nil) (.cons rfl (Jm k) .nil)) ?_;refine gR ?_;exact aA.own1 rfl hd rfl
theorem Oo(k:Nat)(hk:k<=5):FP 270 [i64 k] (nA (cc k)):=by
 have h:=Con.freeze (by rw[length_map,ul];omega) (UA 0 rfl k hk);rw[drop_zero,take_of_length_le (by rw[length_map,ul];exact le_refl _)]at h;exact h
theorem Kp{ts:LL}{r e:Nat}(tw:Tw ts r){a:List Rat}(ha:Nm ts.length e a)(he:e<=4398046511103):FP 243 [an ts,.lst 1 [nA a]] (.v .nilIface):=by
 have hx:=oE ha he;have hck:=oY (ts.map (List.map rt)) r tw.tr [a.map rt] (fun x h=>by rw[List.mem_singleton.1 h];exact⟨hx.ok,hx.len⟩) (by simp);have hc0:aZ (ts.map (List.map rt)) [a.map rt]=0:=tD tw ha;rw[hc0,gn]at hck;rw[show[nA a]=[a.map rt].map nR by simp[dc]];exact hck
theorem Lm{ts:LL}{r e:Nat}(tw:Tw ts r){a:List Rat}(ha:Nm ts.length e a)(he:e<=4398046511103):FP 268 [an ts,nA a] (.tup [nA (aS a (2^ts.length)),.v .nilIface]):=by
 have h5:=tw.five;have hl:=ha.nl.le;have hp:2^ts.length<=32:=bT (b:=5) oz;have qa:∀q∈a,Qs q:=fun q hq=>ha.cb.qs oz hq
 refine af func268 ?_;refine gc (Kp tw ha he) ?_;refine gC (fun t12=>?_) (fun t12=>?_) (st1:=(3,0));cases t12;refine gc (AW a qa oz) ?_;refine gl ?_;refine gs (fj (.const _) (.tmp rfl) oz (kD oz) rfl) ?_;refine gc (BO a (2^ts.length) hl oz) ?_;refine gD ?_;refine bf ?_;rfl
theorem Hs{ts:LL}{r e:Nat}(tw:Tw ts r){a:List Rat}(ha:Nm ts.length e a)(he:e<=lm ts.length)(hs:0<=T.sgn (aj ts) ts.length (ad ts.length a)) :
  FP 151 [an ts,nA a] (.tup [an (aI ts a),nA (cc ts.length),.v .nilIface]):=by
 have h3:=tw.three;have h5:=tw.five;have hlm:=fg ts.length;have hl:=ha.nl.le;have nw:Nl ts.length (aS a (2^ts.length)):=.inr ⟨_,le_refl _,dw hl⟩;have hsg:=pq ts ts.length r tw.ok h5 (le_refl _) ts.length _ _ (le_refl _) nw ha.cb.wide (ke (le_refl ts.length) h3 tw.le he);rw[s8]at hsg;have hqs:=tw.rb.qs tw.le;refine af func151 ?_;refine gc (Lm tw ha oz) ?_;refine gC (fun t18=>?_) (fun t18=>?_) (st1:=(3,0));cases t18;refine gc hsg ?_;refine gC (fun t23=>?_) (fun t23=>?_) (st1:=(5,0));exact absurd t23 (by simp only[aa,decide_eq_true_eq];omega);refine gl ?_;refine gC (fun t30=>?_) (fun t30=>?_) (st1:=(7,0));exact absurd t30 (by simp only[aa,decide_eq_true_eq];omega);refine gl ?_;refine gW (Wk.virt 900 1 rfl) ?_;refine aN [2,4,7,9,38,39] [2,4] (fun(i:Nat)=>[(40,some (i64 i))]) (fun i=>[(9,some (.box [.ms 900 1 0 i])),(900,some (.row 1 ((ts.take i).map nA)))]) (fun i=>i<=ts.length) (fun i=>ts.length-i) 0 (zero_le _) ?_ (h2:=(.cons rfl (BlkSub.bL (.cons (.nM _ _ _) .nil) rfl) (.k .nil)));rintro i hi K1 J1;refine gC (fun t41=>?_) (fun t41=>?_)
 ·have hin:=aT t41;obtain⟨d,hd⟩:=az hin
  have hdl:d.length<=32:=by
   have h9:=tw.len i hin;rw[aO hd]at h9;have:2^i<=32:=bT (b:=5) oz;omega
  refine gi (ay hd) ?_;refine gc (AW d (hqs d (mem_of_getElem? hd)) oz) ?_;refine gs (bO (.tmp rfl) rfl (by rw[length_map,length_take];omega) (.tmp rfl) T35 rfl T67 rfl rfl (by simp only[length_cons,length_nil];omega) rfl rfl) ?_;refine gD ?_ (13,0);refine gW (Wk.of (sl:=[(2,some (.ptr 2 0)),(4,some (.ptr 4 0)),(7,some (nA (aS a (2^ts.length)))),(9,some (.ptr 9 0)),(38,some (.lst 1 (ts.map nA))),(39,some (i64 ts.length)),(40,some (i64 i))]) (hp:=[(2,some (.box [.lst 1 (ts.map nA)])),(4,some (.box [nS])),(9,some (.box [.ms 49 1 0 (i+1)])),(49,some (.row 1 ((ts.take (i+1)).map nA)))]) aR (.k (.k (.k (.cons rfl (BlkSub.of (by rw[cD hd,map_append];rfl)) .nil))))) ?_ (13,0)
  refine gW (Wk.rk (k:=49) (d:=900) rfl rfl) ?_;refine ga aE ?_;exact aH J1 (i+1) hin
 have hin:=a8 hi t41;subst hin;refine gs (bO (.tmp rfl) rfl (by rw[length_map,length_take];omega) (.tmp rfl) T35 rfl T67 rfl rfl (by simp only[length_cons,length_nil];omega) rfl rfl) ?_ (15,0);refine gW ((Wk.freeze (k:=56) rfl).trans<|Wk.of (sl:=[(2,some (.ptr 2 0)),(4,some (.ptr 4 0)),(9,some (.ptr 9 0))]) (hp:=[(2,some (.box [.lst 1 (ts.map nA)])),(4,some (.box [nS])),(9,some (.box [.lst 1 ((aI ts a).map nA)]))]) aR (.k (.k (.cons rfl (BlkSub.bL (.cons (Sub.of (by rw[bD (by simp)];unfold aI;simp)) .nil) rfl) .nil)))) ?_;refine gl ?_;refine gc (Oo ts.length oz) ?_;refine gD ?_;refine uV ?_;rfl
theorem yJ{ts:LL}{r:Nat}(tw:Tw ts r):FP 144 [an ts] (an ts):=by
 have h3:=tw.three;have hqs:=tw.rb.qs tw.le;refine af func144 ?_;refine gl ?_;refine gW (Wk.virt 900 1 rfl) ?_;refine aN [2,3,10,11] [2] (fun(i:Nat)=>[(12,some (i64 i))]) (fun i=>[(3,some (.box [.ms 900 1 0 i])),(900,some (.row 1 ((ts.take i).map nA)))]) (fun i=>i<=ts.length) (fun i=>ts.length-i) 0 (zero_le _) ?_ (h2:=(.cons rfl (BlkSub.bL (.cons (.nM _ _ _) .nil) rfl) (.k .nil)));rintro i hi K1 J1;refine gC (fun t13=>?_) (fun t13=>?_) (st2:=(13,0))
 ·have hin:=aT t13;obtain⟨d,hd⟩:=az hin
  have hdl:d.length<=32:=by
   have h9:=tw.len i hin;rw[aO hd]at h9;have:2^i<=32:=bT (b:=5) oz;omega
  have hdq:=hqs d (mem_of_getElem? hd);refine gi (ay hd) ?_;refine gl ?_;refine gW (Wk.virt 901 3 rfl) ?_;refine aN [2,3,10,11,12,16,17] [2,3,900] (fun(j:Nat)=>[(6,some (.ms 901 3 0 j)),(18,some (i64 j))]) (fun j=>[(901,some (.row 3 ((d.take j).map qA)))]) (fun j=>j<=d.length) (fun j=>d.length-j) 0 (zero_le _) ?_;rintro j hj K2 J2;refine gC (fun t19=>?_) (fun t19=>?_) (st2:=(11,0))
  ·have hjn:=aT t19;obtain ⟨q,hq⟩:=az hjn;have hadd:=n6 (rt q) (rt 0) (hdq q (mem_of_getElem? hq)).ok Qs.zero.ok;rw [uw,bt] at hadd;refine gi (ay hq) ?_;refine gc (Con.sA (.cons (.refl _) (.cons gL .nil)) hadd) ?_;refine gs (bO (.tmp rfl) rfl (by rw [length_map,length_take]; omega) (.tmp rfl) T67 rfl T45 rfl rfl (by simp only [length_cons,length_nil]; omega) rfl rfl) ?_ (10,0);refine gW (Wk.of (sl:=[(2,some (.ptr 2 0)),(3,some (.ptr 3 0)),(10,some (.lst 1 (ts.map nA))),(11,some (i64 ts.length)),(12,some (i64 i)),(6,some (.ms 27 3 0 (j + 1))),(16,some (nA d)),(17,some (i64 d.length)),(18,some (i64 j))]) (hp:=[(2,some (.box [nS])),(3,some (.box [.ms 900 1 0 i])),(900,some (.row 1 ((ts.take i).map nA))),(27,some (.row 3 ((d.take (j + 1)).map qA)))]) aR (.k (.k (.k (.cons rfl (BlkSub.of (by rw [cD hq,map_append]; rfl)) .nil))))) ?_ (10,0)
   refine gW (Wk.rk (k:=27) (d:=901) rfl rfl) ?_;refine ga aE ?_;exact aH J2 (j+1) hjn
  have hjn:=a8 hj t19;subst hjn;refine gW ((Wk.freeze (k:=901) rfl).trans<|Wk.of (sl:=[(2,some (.ptr 2 0)),(3,some (.ptr 3 0)),(10,some (.lst 1 (ts.map nA))),(11,some (i64 ts.length)),(12,some (i64 i)),(6,some (nA d))]) (hp:=[(2,some (.box [nS])),(3,some (.box [.ms 900 1 0 i])),(900,some (.row 1 ((ts.take i).map nA)))]) (.k (.k (.k (.k (.k (.cons rfl (Sub.of (by rw[bD (by simp)];simp[nA])) .nil)))))) (.k (.k (.k .nil)))) ?_
  refine gs (bO (.tmp rfl) rfl (by rw[length_map,length_take];omega) (.tmp rfl) T35 rfl T67 rfl rfl (by simp only[length_cons,length_nil];omega) rfl rfl) ?_ (12,0);refine gW (Wk.of (sl:=[(2,some (.ptr 2 0)),(3,some (.ptr 3 0)),(10,some (.lst 1 (ts.map nA))),(11,some (i64 ts.length)),(12,some (i64 i))]) (hp:=[(2,some (.box [nS])),(3,some (.box [.ms 33 1 0 (i+1)])),(33,some (.row 1 ((ts.take (i+1)).map nA)))]) aR (.k (.k (.cons rfl (BlkSub.of (by rw[cD hd,map_append];rfl)) .nil)))) ?_ (12,0);refine gW (Wk.rk (k:=33) (d:=900) rfl rfl) ?_;refine ga aE ?_;exact aH J1 (i+1) hin
 have hin:=a8 hi t13;subst hin;refine gW ((Wk.freeze (k:=900) rfl).trans<|Wk.of (sl:=[(2,some (.ptr 2 0)),(3,some (.ptr 3 0))]) (hp:=[(2,some (.box [nS])),(3,some (.box [.lst 1 (ts.map nA)]))]) aR (.k (.cons rfl (BlkSub.bL (.cons (Sub.of (by rw[bD (by simp)];simp)) .nil) rfl) .nil))) ?_;refine ae ?_;rfl
abbrev dJ(l:Li)(kw driven:List Bool)(r:List AV):List AV:=l.av.cells++(.lst 1 (kw.map bl) :: .lst 1 (driven.map bl)::r)
theorem Us(j:Jt)(b:Int):FP 415 [j.av,i64 b] (i64 (jz j b)):=by
 refine af func415 ?_;refine gC (fun t6=>?_) (fun t6=>?_)
 ·have h1:b=j.a:=bV t6;refine ae ?_;unfold jz;rw[VQ h1]
 have h1:b≠j.a:=cr t6;refine gC (fun t12=>?_) (fun t12=>?_)
 ·have h2:b=j.b:=bV t12;refine ae ?_;unfold jz;rw[VP h1,VQ h2]
 have h2:b≠j.b:=cr t12;refine ae ?_;unfold jz;rw[VP h1,VP h2];rfl
theorem PS(j:Jt)(kind body:Int)(f:FuncId)(pre caps:List AV)(p:Int->Bool)(hp:0<=jz j body->FP f (pre++[i64 (jz j body)]++caps) (bl (p (jz j body)))) :
  FP 414 [j.av,.iptr [i64 body],.iptr [i64 kind],.iptr [.cl f pre caps]] (bl (vW kind body p j)):=by
 refine af func414 ?_;refine gc (Us j body) ?_;refine bM (fun h=>(hp (Ka h))) ?_;refine ae ?_;exact congrArg bl KP
theorem UO(bs:List Jt)(hl:bs.length<=281474976710656)(f:FuncId)(pre caps:List AV)(ok:Nat->Bool)
  (hf:∀(i:Nat)(b:Jt),bs[i]?=some b->(∀j,j<i->ok j=true)->FP f (pre++[b.av]++caps) (bl (!ok i))) :
  FP 413 [.lst 7 (bs.map Jt.av),.cl f pre caps] (i64 (mK (df bs.length ok))):=by
 refine af func413 ?_;refine gl ?_;refine aN [0,1,7] [] (fun(i:Nat)=>[(8,some (i64 i))]) (fun _=>[]) (fun i=>i<=bs.length/\∀j,j<i->ok j=true) (fun i=>bs.length-i) 0 ⟨zero_le _,fun j h=>by omega⟩ ?_;rintro i ⟨hi,hj⟩ K1 J1;refine gC (fun t9=>?_) (fun t9=>?_)
 ·have hin:=aT t9;obtain⟨b,hb⟩:=az hin;refine gi (ay hb) ?_;refine gc (hf i b hb hj) ?_;refine gC (fun t16=>?_) (fun t16=>?_)
  ·have h2:=di t16;refine ae ?_;rw[iJ hin hj h2];rfl
  have h2:=dr t16;refine ga aE ?_;exact aH J1 (i+1) ⟨hin,fun j h9=>by rcases lt_or_ge j i with g |g;exact hj j g;(have:j=i:=by omega);subst this;exact h2⟩
 have hin:=a8 hi t9;subst hin;refine ae ?_;rw[iQ hj];rfl
theorem HR(l:Li)(hl:l.ok)(hli:aG l=0)(Fd:List AV)(kind body:Int)(f:FuncId)(pre caps:List AV)(p:Int->Bool)
  (hp:∀o:Int,0<=o->o<l.bo.length->FP f (pre++[i64 o]++caps) (bl (p o))) :
  FP 405 [.iptr (l.av.cells++Fd),i64 kind,i64 body,.cl f pre caps] (i64 (gJ l kind body p)):=by
 refine af func405 ?_ (1,0);refine gW ((Wk.freezeB (k:=7) rfl rfl).trans<|(Wk.freezeB (k:=5) rfl rfl).trans<|(Wk.freezeB (k:=6) rfl rfl).trans<|Wk.o (sl:=[(0,some (.iptr (l.av.cells++Fd))),(5,some (.iptr [i64 kind])),(6,some (.iptr [i64 body])),(7,some (.iptr [.cl f pre caps]))]) (hp:=[])) ?_;refine gc (Con.sA (.cons (.refl _) (.cons (uq rfl) .nil)) (UO l.jo hl.lj 414 [] [.iptr [i64 body],.iptr [i64 kind],.iptr [.cl f pre caps]] (fun i=>!vW kind body p (l.jo.getD i default)) (fun i b hb hj=>by rw[Bool.not_not,aO hb];exact PS b kind body f pre caps p (fun h=>hp _ h (OK hli hb body))))) ?_;refine ae ?_;rfl
theorem RH(l:Li)(kw driven:List Bool)(r:List AV)(b:Int)(h0:0<=b)(h1:b<kw.length):FP 411 [.iptr (dJ l kw driven r),i64 b] (bl (kn kw b)):=by
 obtain⟨v,hv⟩:∃v,kw[b.toNat]?=some v:=az oz;have ev:kn kw b=v:=aO hv;refine af func411 ?_;refine gi (dg (n:=b.toNat) oz hv) ?_;refine ae ?_;rw[ev]
theorem Eh(l:Li)(hl:l.ok)(hli:aG l=0)(kw driven:List Bool)(hk:kw.length=l.bo.length)(r:List AV)(kind body:Int) :
  FP 403 [.iptr (dJ l kw driven r),i64 kind,i64 body] (i64 (gJ l kind body (kn kw))):=by
 refine af func403 ?_;refine gc (HR l hl hli _ kind body 411 [.iptr (dJ l kw driven r)] [] (kn kw) (fun o h0 h1=>RH l kw driven r o h0 oz)) ?_;refine ae ?_;rfl
theorem Sd(o j:Int):FP 406 [i64 o,.iptr [i64 j]] (bl (decide (o=j))):=by
 refine af func406 ?_;refine ae ?_;exact congrArg bl lR
theorem NW(l:Li)(kw driven:List Bool)(hd:driven.length=kw.length)(r:List AV)(b:Int)(h0:0<=b)(h1:b<kw.length) :
  FP 407 [.iptr (dJ l kw driven r),i64 b] (bl (!kn kw b&&!kn driven b)):=by
 obtain⟨v,hv⟩:∃v,kw[b.toNat]?=some v:=az oz;have ev:kn kw b=v:=aO hv;obtain⟨u,hu⟩:∃u,driven[b.toNat]?=some u:=az oz;have eu:kn driven b=u:=aO hu;refine af func407 ?_;refine gi (dg (n:=b.toNat) oz hv) ?_;refine lJ (fun _=>(dg (n:=b.toNat) oz hu)) ?_;refine ae ?_;rw[ev,eu];exact congrArg bl (iH _ _)
theorem My(l:Li)(hl:l.ok)(hli:aG l=0)(kw driven:List Bool)(hk:kw.length=l.bo.length)(r:List AV) :
  FP 379 [.iptr (dJ l kw driven r)] (.tup [((dA l kw).getD default).av,bl (dA l kw).isSome]):=by
 have hld:=hl.ld;refine af func379 ?_;refine gl ?_;refine aN [0,2,11,12] [2] (fun(i:Nat)=>[(13,some (i64 i))]) (fun _=>[]) (fun i=>i<=l.dv.length/\∀j,j<i->(!fO l kw j)=true) (fun i=>l.dv.length-i) 0 ⟨zero_le _,fun j h=>by omega⟩ ?_;rintro i ⟨hi,hj⟩ K1 J1;refine gC (fun t14=>?_) (fun t14=>?_)
 ·have hin:=aT t14;obtain⟨d,hd⟩:=az hin;have hdd:l.dv.getD i default=d:=aO hd;have hb:=eK (lK hli hd);obtain⟨v,hv⟩:∃v,kw[d.body.toNat]?=some v:=az oz;have ev:kn kw d.body=v:=aO hv;have ej:gJ l 0 d.body (kn kw)=b7 l 0 d.body kw:=yH hli (fun o _ _=>rfl);refine gi (ay hd) ?_;refine gi (dg (n:=d.body.toNat) oz hv) ?_;refine gD ?_;refine gC (fun t25=>?_) (fun t25=>?_)
  ·have h2 : fO l kw i = false := by unfold fO; rw [hdd, ev, t25]; rfl
   refine ga aE ?_;exact aH J1 (i+1) ⟨hin,fun k h9=>by rcases lt_or_ge k i with g |g;exact hj k g;(have:k=i:=by omega);subst this;rw[h2];rfl⟩
  have hv0:v=false:=t25;refine gc (show il _ _ _ (i64 (b7 l 0 d.body kw)) by rw[<- ej];exact Eh l hl hli kw driven hk r 0 d.body) ?_;refine gC (fun t31=>?_) (fun t31=>?_)
  ·have h2 : fO l kw i = true := by unfold fO; rw [hdd, ev, hv0, decide_eq_true (Cu t31)]; rfl
   have hg:dA l kw=some ⟨0,[d.body],[b7 l 0 d.body kw],i⟩:=by unfold dA;rw[iJ hin hj (by rw[h2];rfl),<- hdd];rfl
   refine bf ?_;rw[hg];rfl
  have h2:fO l kw i=false:=by unfold fO;rw[hdd,decide_eq_false (HZ t31),Bool.and_false]
  refine ga aE ?_;exact aH J1 (i+1) ⟨hin,fun k h9=>by rcases lt_or_ge k i with g |g;exact hj k g;(have:k=i:=by omega);subst this;rw[h2];rfl⟩
 have hin:=a8 hi t14;subst hin;have hg:dA l kw=none:=by unfold dA;rw[iQ hj];rfl
 refine gR ?_;exact aA.sub aA.pure (by rw[hg];exact Sub.tup (.cons qi (.cons (.refl _) .nil)))
theorem BM(l:Li)(hli:aG l=0)(kw:List Bool)(hk:kw.length=l.bo.length)(r:List AV)(b:Nat)(h1:b<l.bo.length) :
  FP 407 [.iptr (dJ l kw (bX l) r),i64 b] (bl (ef l kw b)):=by
 have h:=NW l kw (bX l) (by rw[tH,hk]) r b oz oz;rw[P9 hli oz]at h;exact h
theorem wN(l:Li)(hl:l.ok)(hli:aG l=0)(kw:List Bool)(hk:kw.length=l.bo.length)(r:List AV)(kind body:Int) :
  FP 403 [.iptr (dJ l kw (bX l) r),i64 kind,i64 body] (i64 (b7 l kind body kw)):=by
 have h:=Eh l hl hli kw (bX l) hk r kind body;rw[yH hli (fun o _ _=>rfl)]at h;exact h
theorem Kw(l:Li)(hl:l.ok)(hli:aG l=0)(kw:List Bool)(hk:kw.length=l.bo.length)(r:List AV) :
  FP 381 [.iptr (dJ l kw (bX l) r)] (.tup [((eO l kw).getD default).av,bl (eO l kw).isSome]):=by
 have h8:=(dp hli).2.2.2.1;refine af func381 ?_;refine gl ?_;refine aN [0,2,12,13] [2] (fun(i:Nat)=>[(14,some (i64 i))]) (fun _=>[]) (fun i=>i<=l.bo.length/\∀j,j<i->(!fL l kw j)=true) (fun i=>l.bo.length-i) 0 ⟨zero_le _,fun j h=>by omega⟩ ?_;rintro i ⟨hi,hj⟩ K1 J1;refine gC (fun t15=>?_) (fun t15=>?_)
 ·have hin:=aT t15;refine gc (BM l hli kw hk r i hin) ?_;refine gC (fun t20=>?_) (fun t20=>?_)
  ·have h2 : fL l kw i = false := by unfold fL; rw [di t20]; rfl
   refine ga aE ?_;exact aH J1 (i+1) ⟨hin,fun k h9=>by rcases lt_or_ge k i with g |g;exact hj k g;(have:k=i:=by omega);subst this;rw[h2];rfl⟩
  have hf:=dr t20;refine gc (wN l hl hli kw hk r 0 i) ?_;refine gc (wN l hl hli kw hk r 1 i) ?_;refine gC (fun t32=>?_) (fun t32=>?_)
  ·have h2 : fL l kw i = false := by unfold fL; rw [GP t32, Bool.and_false]
   refine ga aE ?_;exact aH J1 (i+1) ⟨hin,fun k h9=>by rcases lt_or_ge k i with g |g;exact hj k g;(have:k=i:=by omega);subst this;rw[h2];rfl⟩
  obtain⟨p0,s0⟩:=CD t32;have s1:=(mN (l:=l) (kind:=1) (body:=i) (oth:=kw)).2;have h2:fL l kw i=true:=by unfold fL;rw[hf,decide_eq_true p0,decide_eq_true s0];rfl
  obtain⟨j,hjt⟩:∃j,l.jo[(b7 l 1 i kw).toNat]?=some j:=az oz;have hjd:l.jo.getD (b7 l 1 i kw).toNat default=j:=aO hjt;have hg:eO l kw=some (jh l kw i):=by unfold eO;rw[iJ hin hj (by rw[h2];rfl),Option.map_some]
  refine gi (dg (n:=(b7 l 1 i kw).toNat) oz hjt) ?_;refine gC (fun t43=>?_) (fun t43=>?_)
  ·have hji:j.a=i:=bV t43;refine bf ?_;rw[hg];unfold jh;rw[hjd];simp only[Option.getD_some,VQ hji];rfl
  have hji:j.a≠i:=cr t43;refine bf ?_;rw[hg];unfold jh;rw[hjd];simp only[Option.getD_some,VP hji];rfl
 have hin:=a8 hi t15;subst hin;have hg:eO l kw=none:=by unfold eO;rw[iQ hj];rfl
 refine gR ?_;exact aA.sub aA.pure (by rw[hg];exact Sub.tup (.cons qi (.cons (.refl _) .nil)))
theorem UF(Fd:List AV):FP 404 [.iptr Fd] (.fn 412 [.iptr [.iptr Fd]]):=by
 refine af func404 ?_ (1,0);refine gW ((Wk.freezeB (k:=1) rfl rfl).trans<|Wk.o (sl:=[(1,some (.iptr [.iptr Fd]))]) (hp:=[])) ?_;refine ae ?_;rfl
def uE:Code->Option (Array Tmp×Code×Code)
  | .rangeFunc _ ps x y=>some (ps,x,y)
  | .seq a b=>match uE a with
    |some r=>some r
    |none=>uE b
  | .block _ c=>uE c
  |_=>none
def I5(n:Nat)(o:Option Code):LpD:=match o with
  |some c=>match uE c with
    |some (ps,x,y)=>⟨ps,x,y,n⟩
    |none=>⟨#[],.skip,.skip,0⟩
  |none=>⟨#[],.skip,.skip,0⟩
def CV(D:LpD)(Fd:List AV)(h:Bool):Blk:=.loop D (match h with |true=>.done |false=>.ready) (match h with |true=>some .ret |false=>none) [(1,some (.iptr [.iptr Fd])),(2,some (.ptr 1001 0)),(3,some (.ptr 1002 0))]
def zO(g:Gr):Blk:=.box [i64 g.kind,.lst 1 (g.bo.map i64),.lst 1 (g.jo.map i64),i64 g.driver]
def BC(h:Bool):Blk:=.box [bl h]
def fm(D:LpD)(Fd:List AV)(h:Bool)(g:Gr):Hp:=[(1000,some (CV D Fd h)),(1001,some (zO g)),(1002,some (BC h))]
theorem Fy{D:LpD}{Fd:List AV}{h:Bool}{g:Gr}{k:Nat}{z:Blk}(hz:lk (fm D Fd h g) k=some z):1000<=k:=by
 unfold fm at hz;simp only[aP]at hz;split at hz
 ·omega
 ·split at hz
  ·omega
  ·split at hz
   ·omega
   ·cases hz
theorem TH{D:LpD}{Fd:List AV}{s:AS}(hs:∀k z,lk (fm D Fd false default) k=some z->s.blk k=some z) :
  ∀k∈(fm D Fd false default++cW (fm D Fd false default)).map (·.1),k∈(fm D Fd false default).map (·.1)/\lk (fm D Fd false default++cW (fm D Fd false default)) k=s.blk k:=by
 intro k hk
 have hk':k=1000\/k=1001\/k=1002:=by
  simp[fm,cW]at hk;omega
 rcases hk' with rfl |rfl |rfl
 ·exact⟨by simp[fm],(hs _ _ rfl).symm⟩
 ·exact⟨by simp[fm],(hs _ _ rfl).symm⟩
 ·exact⟨by simp[fm],(hs _ _ rfl).symm⟩
theorem Fk{l:Li}{kw:List Bool}{i k:Nat}(h:cond (ef l kw i) (ef l kw k) false=false):dz l kw i k=false:=by
 rw[iH]at h;unfold dz;rw[h];rfl
theorem Kr{H R:Hp}{k:Nat}{z:Blk}(h:lk H k=some z):lk (H++R) k=some z:=by rw[mr,VQ (mX h)];exact h
theorem Qy{a b:Bool}(h:cond a b false=true):a=true:=by cases a <;> simp_all
theorem z9{a b:Bool}(h:cond a b false=true):b=true:=by cases a <;> simp_all
theorem TS(D:LpD)(l:Li)(hl:l.ok)(hli:aG l=0)(kw:List Bool)(hk:kw.length=l.bo.length)(r:List AV)
  (hy:∀i k:Nat,i<k->k<l.bo.length->ef l kw i=true->ef l kw k=true ->
   xk prog 1000 [i64 i,i64 k] (fm D (dJ l kw (bX l) r) false default) (bl (!dz l kw i k)) (fm D (dJ l kw (bX l) r) (dz l kw i k) (cond (dz l kw i k) (kK l kw i k) default))) :
  Con prog 412 [.yl 1000,.iptr [.iptr (dJ l kw (bX l) r)]] (fm D (dJ l kw (bX l) r) false default) (.tup []) (fm D (dJ l kw (bX l) r) (cT l kw).isSome ((cT l kw).getD default)):=by
 have h8:=(dp hli).2.2.2.1;refine gF func412 (fun k z h=>Fy h) ?_;refine gl ?_;refine aN [0,1,10] [1000,1001,1002] (fun(i:Nat)=>[(11,some (i64 i))]) (fun _=>[]) (fun i=>i<=l.bo.length/\∀j,j<i->(gB l kw j).isNone=true) (fun i=>l.bo.length-i) 0 ⟨zero_le _,fun j h=>by omega⟩ ?_;rintro i ⟨hi,hj⟩ K1 J1;refine gC (fun t12=>?_) (fun t12=>?_)
 ·have hin:=aT t12;refine ga aE ?_;refine aN [0,1,3,10,11] [] (fun (k:Nat)=>[(4,some (i64 (i + 1 + k:Nat)))]) (fun _=>[(1000,some (CV D (dJ l kw (bX l) r) false)),(1001,some (zO default)),(1002,some (BC false))]) (fun k=>i + 1 + k <= l.bo.length /\ ∀ j,j < k -> (!dz l kw i (i + 1 + j)) = true) (fun k=>l.bo.length - k) 0 ⟨by omega,fun j h=>by omega⟩ ?_;rintro k ⟨hkl,hkj⟩ K2 J2;refine gl ?_;refine gC (fun t23=>?_) (fun t23=>?_)
  ·have hkn:i + 1 + k < l.bo.length:=aT t23;refine gc (BM l hli kw hk r i hin) ?_;refine bM (fun _=>(BM l hli kw hk r (i + 1 + k) hkn)) ?_;refine gs (KS rfl rfl rfl (by intro hb; have h0:dz l kw i (i + 1 + k) = false:=Fk (by simpa using hb); simp only [h0,cond_false]; exact TH (by intro k z h; exact h)) (fun hb=>Oi (k:=1000) (.opt rfl (by rw [hb]; rfl)) (hy i (i + 1 + k) oz hkn (Qy hb) (z9 hb)) (.cons (.opt rfl (by rw [hb]; rfl)) (.cons (.opt rfl (by rw [hb]; rfl)) .nil)) (by intro k z h; exact h) rfl rfl)) ?_;refine gC (fun t40=>?_) (fun t40=>?_)
   ·have h2 : dz l kw i (i + 1 + k) = true := by have h9 := z9 t40; rw [Bool.not_not] at h9; exact h9
    have hat:gB l kw i=some (i+1+k):=by unfold gB;rw[iJ oz hkj (by rw[h2];rfl),Option.map_some];congr 1;omega
    have hg:cT l kw=some (kK l kw i (i+1+k)):=by unfold cT;rw[iJ hin hj (by rw[hat];rfl),Option.map_some,hat]
    refine gR ?_;simp only[hg,h2,Option.isSome_some,Option.getD_some,cond_true];exact aA.keep (fun k z h=>Kr h)
   have h2:dz l kw i (i+1+k)=false:=by cases hc:cond (ef l kw i) (ef l kw ((i+1+k:Nat):Int)) false with |false=>exact Fk hc |true=>rw[hc,Bool.not_not]at t40;exact t40
   refine ga aE ?_;exact aH J2 (k+1) ⟨by omega,fun j h9=>by rcases lt_or_ge j k with g |g;exact hkj j g;(have:j=k:=by omega);subst this;rw[h2];rfl⟩ (hw:=Wk.of aR (.cons rfl (BlkSub.of (by rw[h2])) (.cons rfl (BlkSub.of (by rw[h2];rfl)) (.cons rfl (BlkSub.of (by rw[h2])) .nil))))
  have hkn:¬i+1+k<l.bo.length:=fun h=>by have h1:=rO t23;omega
  have hat:gB l kw i=none:=by unfold gB;rw[show l.bo.length-(i+1)=k by omega,iQ hkj];rfl
  refine ga aE ?_;exact aH J1 (i+1) ⟨hin,fun j h9=>by rcases lt_or_ge j i with g |g;exact hj j g;(have:j=i:=by omega);subst this;rw[hat];rfl⟩
 have hin:=a8 hi t12;have hg:cT l kw=none:=by unfold cT;rw[<- hin,iQ hj];rfl
 refine gR ?_;simp only[hg,Option.isSome_none,Option.getD_none];exact aA.keep (fun k z h=>h)
variable{P:Program}
mutual
def AV.pm(σ:Nat->Nat):AV->AV
  | .ms k sz off len=>.ms (σ k) sz off len
  | .ptr k off=>.ptr (σ k) off
  | .eptr k sz i off=>.eptr (σ k) sz i off
  | .yl k=>.yl (σ k)
  | .agg cs=>.agg (AV.pms σ cs)
  | .tup cs=>.tup (AV.pms σ cs)
  | .fn f cs=>.fn f (AV.pms σ cs)
  | .opt b x=>.opt b (AV.pm σ x)
  | .v x=>.v x
  | .lst sz l=>.lst sz l
  | .iptr l=>.iptr l
  | .cl f cs ds=>.cl f cs ds
def AV.pms(σ:Nat->Nat):List AV->List AV
  |[]=>[]
  |x::l=>AV.pm σ x::AV.pms σ l
end
theorem AV.pms_eq(σ:Nat->Nat):∀l,AV.pms σ l=l.map (AV.pm σ)
 |[]=>rfl
 |x::l=>by simp only[AV.pms,map_cons,AV.pms_eq σ l]
theorem AV.pm_one(σ:Nat->Nat)(x:AV)(h:x.one=true):(x.pm σ).one=true:=by
 cases x <;> simp only[AV.pm] <;> exact h
mutual
theorem AV.pm_pm{σ:Nat->Nat}(hσ:∀k,σ (σ k)=k):∀x:AV,(x.pm σ).pm σ=x
 | .ms k sz off len=>by simp only[AV.pm,hσ]
 | .ptr k off=>by simp only[AV.pm,hσ]
 | .eptr k sz i off=>by simp only[AV.pm,hσ]
 | .yl k=>by simp only[AV.pm,hσ]
 | .agg cs=>by simp only[AV.pm];rw[AV.pms_pms hσ cs]
 | .tup cs=>by simp only[AV.pm];rw[AV.pms_pms hσ cs]
 | .fn f cs=>by simp only[AV.pm];rw[AV.pms_pms hσ cs]
 | .opt b x=>by simp only[AV.pm];rw[AV.pm_pm hσ x]
 | .v x=>by simp only[AV.pm]
 | .lst sz l=>by simp only[AV.pm]
 | .iptr l=>by simp only[AV.pm]
 | .cl f cs ds=>by simp only[AV.pm]
theorem AV.pms_pms{σ:Nat->Nat}(hσ:∀k,σ (σ k)=k):∀l:List AV,AV.pms σ (AV.pms σ l)=l
 |[]=>by simp only[AV.pms]
 |x::l=>by simp only[AV.pms];rw[AV.pm_pm hσ x,AV.pms_pms hσ l]
end
theorem vS{g:Nat->Array Value->Prop}{S:Nat->Nat->Prop}{σ:Nat->Nat}(hσ:∀k,σ (σ k)=k){m:Nat->Option Nat}{v:Value}{x:AV}(h:Rep g S m v x):Rep g S (fun k=>m (σ k)) v (x.pm σ):=by
 induction h with
 |v x=>exact .v x
 |lst0 a cap sz'=>exact .lst0 a cap sz'
 |lst u hb hc hl hs ho hu hr _=>exact .lst u hb hc hl hs ho hu hr
 |iptr u hb ho hu hr _=>exact .iptr u hb ho hu hr
 |cl a b c d _ _=>exact .cl a b c d
 |ptr hm=>exact .ptr (by simp only[hσ];exact hm)
 |eptr hm=>exact .eptr (by simp only[hσ];exact hm)
 |yl hm=>exact .yl (by simp only[hσ];exact hm)
 |ms0 a k sz off=>exact .ms0 _ _ _ _
 |ms hm hc hS=>exact .ms (by simp only[hσ];exact hm) hc hS
 |opt h h' ih=>exact .opt ih h'
 |agg hn h1 hr ih =>
  simp only[AV.pm,AV.pms_eq];refine .agg (by simpa using hn) ?_ ?_
  ·intro j c hc;simp only[getElem?_map,map_eq_some_iff]at hc;obtain⟨y,hy,rfl⟩:=hc;exact AV.pm_one _ _ (h1 j y hy)
  ·intro j u c hu hc;simp only[getElem?_map,map_eq_some_iff]at hc;obtain⟨y,hy,rfl⟩:=hc;exact ih j u y hu hy
 |tup hn hr ih =>
  simp only[AV.pm,AV.pms_eq];refine .tup (by simpa using hn) ?_;intro j u c hu hc;simp only[getElem?_map,map_eq_some_iff]at hc;obtain⟨y,hy,rfl⟩:=hc;exact ih j u y hu hy
 |fn hn hr ih =>
  simp only[AV.pm,AV.pms_eq];refine .fn (by simpa using hn) ?_;intro j u c hu hc;simp only[getElem?_map,map_eq_some_iff]at hc;obtain⟨y,hy,rfl⟩:=hc;exact ih j u y hu hy
theorem RK{g:Nat->Array Value->Prop}{S:Nat->Nat->Prop}{σ:Nat->Nat}(hσ:∀k,σ (σ k)=k){m:Nat->Option Nat}{w:World}{o:Option Nat}{x:Blk}(h:BlkRep g S m w o x) :
  BlkRep g S (fun k=>m (σ k)) w o (x.map (AV.pm σ)):=by
 cases x with
 |row sz es=>exact h.mono (fun _ _ h=>h) (fun _ _ h=>h) (fun _ _ hk=>hk.elim) rfl (fun _ _=>rfl)
 |vec vs=>exact h.mono (fun _ _ h=>h) (fun _ _ h=>h) (fun _ _ hk=>hk.elim) rfl (fun _ _=>rfl)
 |loop=>exact h.mapLoop _ (fun _ _ _ _ h=>vS hσ h)
 |box cs =>
  cases h with
  |box hw hn h1 hrr =>
   refine .box hw (by simpa using hn) ?_ ?_
   ·intro j x hx;simp only[getElem?_map,map_eq_some_iff]at hx;obtain⟨y,hy,rfl⟩:=hx;exact AV.pm_one _ _ (h1 j y hy)
   ·intro j u x hu hx;simp only[getElem?_map,map_eq_some_iff]at hx;obtain⟨y,hy,rfl⟩:=hx;exact vS hσ (hrr j u y hu hy)
theorem xJ{σ:Nat->Nat}(hσ:∀k,σ (σ k)=k):∀sl:bG,i7 (AV.pm σ) (i7 (AV.pm σ) sl)=sl
 |[]=>rfl
 |(t,none)::l=>by simp only[i7,xJ hσ l]
 |(t,some x)::l=>by simp only[i7,xJ hσ l,AV.pm_pm hσ x]
theorem Blk.pm_pm{σ:Nat->Nat}(hσ:∀k,σ (σ k)=k)(x:Blk):(x.map (AV.pm σ)).map (AV.pm σ)=x:=by
 cases x with
 |row sz es=>rfl
 |vec vs=>rfl
 |loop d st pe sl=>simp only[Blk.map,xJ hσ]
 |box cs =>
  simp only[Blk.map];rw[<- AV.pms_eq,<- AV.pms_eq,AV.pms_pms hσ]
def iZ(σ:Nat->Nat):Hp->Hp
  |[]=>[]
  |(k,x)::l=>(σ k,match x with |some b=>some (b.map (AV.pm σ)) |none=>none)::iZ σ l
theorem kM{σ:Nat->Nat}(hσ:∀k,σ (σ k)=k):∀(H:Hp)(k:Nat),lk (iZ σ H) k=(lk H (σ k)).map (Blk.map (AV.pm σ))
 |[],k=>rfl
 |(k',x)::l,k=>by
  simp only[iZ,aP,kM hσ l k]
  by_cases h:k=σ k'
  ·rw[VQ h,VQ (by rw[h,hσ])];cases x <;> rfl
  ·rw[VP h,VP (fun e=>h (by rw[<- e,hσ]))]
theorem Bl{σ:Nat->Nat}(hσ:∀k,σ (σ k)=k)(H:Hp)(m:Nat->Option Nat):a6 (iZ σ H) (fun k=>m (σ k))=a6 H m:=by
 funext b;apply propext;constructor
 ·rintro⟨k,z,hz,hb⟩;rw[kM hσ,map_eq_some_iff]at hz;obtain⟨y,hy,rfl⟩:=hz;exact⟨σ k,y,hy,hb⟩
 ·rintro⟨k,y,hy,hb⟩;exact⟨σ k,y.map (AV.pm σ),by rw[kM hσ,hσ,hy];rfl,by simp only[hσ];exact hb⟩
theorem Eo{σ:Nat->Nat}(hσ:∀k,σ (σ k)=k){ext:Nat->Prop}{H:Hp}{m:Nat->Option Nat}{w:World}(h:HeapRel ext H m w):HeapRel ext (iZ σ H) (fun k=>m (σ k)) w:=by
 have e:Im ext (iZ σ H) (fun k=>m (σ k)) w=Im ext H m w:=by funext b cs;simp only[Im,Bl hσ]
 refine⟨?_,?_,?_⟩
 ·intro k z hz;rw[kM hσ,map_eq_some_iff]at hz;obtain⟨y,hy,rfl⟩:=hz;rw[e];exact RK hσ (h.blk _ y hy)
 ·intro k k' z z' b hz hz' hb hb';rw[kM hσ,map_eq_some_iff]at hz hz';obtain⟨y,hy,_⟩:=hz;obtain⟨y',hy',_⟩:=hz';have:=h.inj _ _ y y' b hy hy' hb hb';rw[<- hσ k,this,hσ]
 ·intro k z b hz hb;rw[kM hσ,map_eq_some_iff]at hz;obtain⟨y,hy,_⟩:=hz;exact h.sep _ y b hy hb
theorem Con.pm{σ:Nat->Nat}(hσ:∀k,σ (σ k)=k){f:FuncId}{args:List AV}{H H':Hp}{r:AV}(h:Con P f args H r H'):Con P f (args.map (AV.pm σ)) (iZ σ H) (r.pm σ) (iZ σ H'):=by
 refine⟨h.ok,?_⟩;intro ext m w vs hext hheap hvs hrep
 have hlk:∀k,lk (iZ σ (iZ σ H)) k=lk H k:=by
  intro k;rw[kM hσ,kM hσ,hσ];cases lk H k with
  |none=>rfl
  |some y=>simp only[Option.map_some,Blk.pm_pm hσ]
 have hh:=HeapRel.congr hlk (Eo hσ hheap);have em:(fun k=>(fun k=>m (σ k)) (σ k))=m:=by funext k;simp only[hσ]
 have eo:a6 (iZ σ H) m=a6 H (fun k=>m (σ k)):=by
  have:=Bl hσ H (fun k=>m (σ k));rw[em]at this;exact this
 have ei:Im ext (iZ σ H) m w=Im ext H (fun k=>m (σ k)) w:=by funext b cs;simp only[Im,eo]
 refine Calls.mono (h.ret ext (fun k=>m (σ k)) w vs hext hh (by simpa using hvs) (fun j v x hv hx=>?_)) ?_
 ·have h1 := hrep j v (x.pm σ) hv (by simp[hx]);have h2:=vS hσ h1;rw[AV.pm_pm hσ,ei]at h2;exact h2
 ·rintro e w' ⟨v,m',rfl,hf,hh',hn,hk,hrr⟩;refine⟨v,fun k=>m' (σ k),rfl,eo▸hf,Eo hσ hh',?_,?_,?_⟩
  ·intro k x b hx hb;rw[kM hσ,map_eq_some_iff]at hx;obtain⟨y,hy,_⟩:=hx;rw[eo];exact hn _ y b hy hb
  ·intro k x y hx hy;rw[kM hσ,map_eq_some_iff]at hx hy;obtain⟨x',hx',_⟩:=hx;obtain⟨y',hy',_⟩:=hy;have:=hk _ x' y' hx' hy';simpa only[hσ]using this
  ·have e2 : Im ext (iZ σ H') (fun k => m' (σ k)) w' = Im ext H' m' w' := by funext b cs; simp only [Im, Bl hσ]
   rw[e2];exact vS hσ hrr
end Go.Lw
namespace Go.Lw
open Go.Proofs
theorem gZ{P:Program}{N:Nat}{Q:Exit->AS->Prop}{c:Code}{s:AS}(h:Gd P N Q (.code c [] s)):bH P N c Q s:=h
theorem K6{P:Program}{N:Nat}{Q:Exit->AS->Prop}{c:Code}{s s':AS}(hw:Wk s s')(h:jE P N c Q s'):jE P N c Q s:=by
 intro C m a w n hro hN hr;obtain⟨m',hr'⟩:=hw C m a w hr;exact h C m' a w n hro hN hr'
def uQ(k:Nat):Nat:=bif Nat.beq k 1000 then 900 else bif Nat.beq k 900 then 1000 else bif Nat.beq k 1001 then 2 else bif Nat.beq k 2 then 1001 else bif Nat.beq k 1002 then 3 else bif Nat.beq k 3 then 1002 else k
theorem nb{a b:Nat}(h:¬a=b):Nat.beq a b=false:=by
 cases h1:Nat.beq a b
 ·rfl
 ·exact absurd (eq_of_beq_eq_true h1) h
theorem UI(k:Nat):uQ (uQ k)=k:=by
 by_cases h1:k=1000
 ·subst h1;rfl
 by_cases h2:k=900
 ·subst h2;rfl
 by_cases h3:k=1001
 ·subst h3;rfl
 by_cases h4:k=2
 ·subst h4;rfl
 by_cases h5:k=1002
 ·subst h5;rfl
 by_cases h6:k=3
 ·subst h6;rfl
 have e:uQ k=k:=by simp only[uQ,nb h1,nb h2,nb h3,nb h4,nb h5,nb h6,cond_false]
 rw[e,e]
theorem OG(l:Li)(hl:l.ok)(hli:aG l=0)(kw:List Bool)(hk:kw.length=l.bo.length)(r:List AV) :
  FP 380 [.iptr (dJ l kw (bX l) r)] (.tup [((cT l kw).getD default).av,bl (cT l kw).isSome]):=by
 refine B8 (rs:=Tryz.f380.results.toList) func380 rfl rfl (by simp) rfl (fun k z h=>by cases h) ?_;refine zH (gZ (go ?_));refine K6 (s':=⟨[(1,some (.iptr [.iptr (dJ l kw (bX l) r)])),(2,some (.ptr 2 0)),(3,some (.ptr 3 0))],[(2,some (zO default)),(3,some (BC false))]⟩) ((Wk.freezeB (k:=1) rfl rfl).trans (Wk.of (.k (.k (.k .nil))) (.cons rfl (BlkSub.bL (.cons (.refl _) (.cons (.nil _ _ _) (.cons (.nil _ _ _) (.cons (.refl _) .nil)))) rfl) (.k .nil)))) ?_;refine Vz ?_;refine zH (gZ (go ?_));refine gc (UF (dJ l kw (bX l) r)) ?_;refine Nj ?_
 have hy:∀i k:Nat,i<k->k<l.bo.length->ef l kw i=true->ef l kw k=true ->
   xk prog 1000 [i64 i,i64 k] (fm (I5 Tryz.f380.ntmps Tryz.f380.body) (dJ l kw (bX l) r) false default) (bl (!dz l kw i k)) (fm (I5 Tryz.f380.ntmps Tryz.f380.body) (dJ l kw (bX l) r) (dz l kw i k) (cond (dz l kw i k) (kK l kw i k) default)):=by
  intro i k hik hkn hfi hfk;refine ML (k:=1000) (fun k z h=>Fy h) rfl rfl (by intro p hp;have h9:p∈[11,12]:=hp;have h8:p=11\/p=12:=(by simpa using h9);show p<42;rcases h8 with h7 |h7 <;> (rw[h7];decide)) ?_;refine gZ (go ?_);refine⟨rfl,_,_,rfl,?_⟩;have hJ:gJ l 0 i (fun o=>decide (o=(k:Int)))=b7 l 0 i (cU l.bo.length k):=yH hli (fun o h0 h1=>(vd h0 oz oz).symm);refine gZ (go ?_);refine gc (wN l hl hli kw hk r 0 i) ?_;refine gc (wN l hl hli kw hk r 0 k) ?_;refine gD ?_ (5,0);refine gW (Wk.freezeB (k:=5) rfl rfl) ?_;refine gc (r:=i64 (b7 l 0 i (cU l.bo.length k))) (by rw[<- hJ];exact Con.sA (.cons (.refl _) (.cons (.refl _) (.cons (.refl _) (.cons (uq rfl) .nil)))) (HR l hl hli _ 0 i 406 [] [.iptr [i64 k]] (fun o=>decide (o=(k:Int))) (fun o h0 h1=>Sd o k))) ?_;refine gC (fun ht=>?_) (fun ht=>?_)
  ·have h2 : dz l kw i k = true := by unfold dz; rw [hfi, hfk]; exact (uD.symm.trans ht)
   rw[h2];exact⟨_,_,rfl,aA.keep (by intro q z h;simp only[fm,aP]at h;split at h;(subst_vars;exact h);split at h;(subst_vars;exact h);split at h;(subst_vars;exact h);cases h)⟩
  ·have h2 : dz l kw i k = false := by unfold dz; rw [hfi, hfk]; exact (uD.symm.trans ht)
   rw[h2];exact⟨_,_,rfl,aA.keep (by intro q z h;simp only[fm,aP]at h;split at h;(subst_vars;exact h);split at h;(subst_vars;exact h);split at h;(subst_vars;exact h);cases h)⟩
 have hcon:=Con.pm UI (TS _ l hl hli kw hk r hy);cases hg:cT l kw with
 |none =>
  rw[hg]at hcon;refine HG (k:=900) (sl0:=[(1,some (.iptr [.iptr (dJ l kw (bX l) r)])),(2,some (.ptr 2 0)),(3,some (.ptr 3 0))]) (.tmp rfl) (by intro t x h;simp only[aP]at h;split at h;(subst_vars;exact h);split at h;(subst_vars;exact h);split at h;(subst_vars;exact h);cases h) rfl rfl hcon (fun k' z h=>h) rfl rfl rfl rfl (by intro h;cases h) (.inl ⟨rfl,?_⟩);refine zH (gZ (go ?_));refine bH.out (gZ (go ?_));refine gR ?_;exact aA.sub aA.pure (Sub.tup (.cons qi (.cons (.refl _) .nil)))
 |some g =>
  rw[hg]at hcon;refine HG (k:=900) (sl0:=[(1,some (.iptr [.iptr (dJ l kw (bX l) r)])),(2,some (.ptr 2 0)),(3,some (.ptr 3 0))]) (.tmp rfl) (by intro t x h;simp only[aP]at h;split at h;(subst_vars;exact h);split at h;(subst_vars;exact h);split at h;(subst_vars;exact h);cases h) rfl rfl hcon (fun k' z h=>h) rfl rfl rfl rfl (by intro h;cases h) (.inr ⟨rfl,?_⟩);exact(bf (P:=prog) (N:=Tryz.f380.ntmps) (e:=.ret) rfl)
theorem yx{α:Type}{o:Option α}(h:o.isSome=true):∃x,o=some x:=by cases o <;> simp_all
theorem Al{α:Type}{o:Option α}(h:o.isSome=false):o=none:=by cases o <;> simp_all
theorem MP(l:Li)(hl:l.ok)(hli:aG l=0)(kw:List Bool)(hk:kw.length=l.bo.length)(r:List AV) :
  FP 334 [.iptr (dJ l kw (bX l) r)] (.tup [((cq l kw).getD default).av,bl (cq l kw).isSome]):=by
 refine af func334 ?_;refine gc (My l hl hli kw (bX l) hk r) ?_;refine gC (fun t13=>?_) (fun t13=>?_)
 ·obtain⟨g,hg⟩:=yx t13;refine bf ?_;unfold cq;rw[hg];rfl
 have hg:=Al t13;refine gc (OG l hl hli kw hk r) ?_;refine gC (fun t20=>?_) (fun t20=>?_)
 ·obtain⟨g,hg2⟩:=yx t20;refine bf ?_;unfold cq;rw[hg,hg2];rfl
 have hg2:=Al t20;refine gc (Kw l hl hli kw hk r) ?_;refine bf ?_;unfold cq;rw[hg,hg2];rfl
theorem DC{ts:LL}{r e:Nat}(tw:Tw ts r){a b c d:List Rat}(ha:Nm ts.length e a)(hb:Nm ts.length e b)(hc:Nm ts.length e c)(hd:Nm ts.length e d)(he:2*e<=lm ts.length) :
  Con prog 123 [.ptr 1000 0,ao a b,ao c d] [(1000,some (gP ts))] (ao (sh ts.length (subT ts (ad ts.length a) (ad ts.length c))) (sh ts.length (subT ts (ad ts.length b) (ad ts.length d)))) [(1000,some (gP ts))]:=by
 refine gF func123 (fun k z h=>bB h) ?_;refine gt (aJ (uT tw ha hc oz) (aL rfl rfl rfl) aM rfl rfl) ?_;refine gt (aJ (uT tw hb hd oz) (aL rfl rfl rfl) aM rfl rfl) ?_;refine gD ?_;refine gR ?_;exact aA.keep (bi rfl)
theorem EC(R:List AV)(a:List Rat):Con prog 124 [.ptr 1000 0,nA a] [(1000,some (.box [.lst 1 R,.v .nilIface]))] (.tup [nA a,.v .nilIface]) [(1000,some (.box [.lst 1 R,.v .nilIface]))]:=by
 refine gF func124 (fun k z h=>bB h) ?_;refine gC (fun t10=>?_) (fun t10=>?_) (st1:=(2,0));cases t10;refine gR ?_;show aA _ (AV.tup [nA a,.v .nilIface]) _ _;exact aA.keep (bi rfl)
theorem xB(R:List AV)(a b:List Rat):Con prog 160 [.ptr 1000 0,ao a b] [(1000,some (.box [.lst 1 R,.v .nilIface]))] (.tup [ao a b,.v .nilIface]) [(1000,some (.box [.lst 1 R,.v .nilIface]))]:=by
 refine gF func160 (fun k z h=>bB h) ?_;refine gC (fun t10=>?_) (fun t10=>?_) (st1:=(2,0));cases t10;refine gR ?_;show aA _ (AV.tup [ao a b,.v .nilIface]) _ _;exact aA.keep (bi rfl)
theorem H3{ts:LL}{r e:Nat}(tw:Tw ts r){a b c d:List Rat}(ha:Nm ts.length e a)(hb:Nm ts.length e b)(hc:Nm ts.length e c)(hd:Nm ts.length e d)(he:e<=lm ts.length)(f:FuncId)(v:List Rat)
  (hf:Con prog f [.ptr 1000 0,ao a b,ao c d] [(1000,some (gP ts))] (nA v) [(1000,some (gP ts))]) :
  FP 161 [an ts,ao a b,ao c d,.fn f []] (.tup [nA v,.v .nilIface]):=by
 refine af func161 ?_;refine gc (r6 (e:=e) tw [(a,b),(c,d)] (by simp only[mem_cons,not_mem_nil,or_false];rintro p (rfl |rfl);exact⟨ha,hb⟩;exact⟨hc,hd⟩) he (by simp)) ?_;refine gC (fun t18=>?_) (fun t18=>?_) (st1:=(3,0));cases t18;refine gs (Ma (.tmp rfl) (show Con prog f ([.ptr 22 0,ao a b,ao c d]++[]) [(22,some (gP ts))] (nA v) [(22,some (gP ts))]from Con.rB 22 rfl rfl rfl rfl hf) (aL rfl rfl rfl) aM rfl rfl) ?_;refine gt (aJ (Con.rB 22 rfl rfl rfl rfl (EC _ _)) (bA rfl rfl) aM rfl rfl) ?_;refine bf ?_;rfl
theorem yA{ts:LL}{r e:Nat}(tw:Tw ts r){a b c d:List Rat}(ha:Nm ts.length e a)(hb:Nm ts.length e b)(hc:Nm ts.length e c)(hd:Nm ts.length e d)(he:2*(e+e+kB r ts.length)<=lm ts.length) :
  FP 77 [an ts,ao a b,ao c d] (.tup [nA (sh ts.length (kH ts (ad ts.length a) (ad ts.length b) (ad ts.length c) (ad ts.length d))),.v .nilIface]):=by
 refine af func77 ?_;refine gc (Con.sA (.cons (.refl _) (.cons (.refl _) (.cons (.refl _) (.cons (Sub.fn0 _) .nil)))) (H3 tw ha hb hc hd oz _ _ (Ee tw ha hb hc hd he))) ?_;refine bf ?_
 first |rfl |(simp;done)
theorem zI{ts:LL}{r e:Nat}(tw:Tw ts r){a b c d:List Rat}(ha:Nm ts.length e a)(hb:Nm ts.length e b)(hc:Nm ts.length e c)(hd:Nm ts.length e d)(he:2*(e+e+kB r ts.length)<=lm ts.length) :
  FP 178 [an ts,nA a,nA b,ao c d] (.tup [ao (sh ts.length (n7 ts (ad ts.length a) (ad ts.length b) (ad ts.length c) (ad ts.length d))) (sh ts.length (oU ts (ad ts.length a) (ad ts.length b) (ad ts.length c) (ad ts.length d))),.v .nilIface]):=by
 refine af func178 ?_;refine gc (vn (e:=e) tw [a,b,c,d] (by simp only[mem_cons,not_mem_nil,or_false];rintro x (rfl |rfl |rfl |rfl) <;> assumption) oz (by simp)) ?_;refine gC (fun t22=>?_) (fun t22=>?_) (st1:=(3,0));cases t22;refine gt (aJ (Con.rB 27 rfl rfl rfl rfl (kW tw ha hc oz)) (aL rfl rfl rfl) aM rfl rfl) ?_;refine gt (aJ (Con.rB 27 rfl rfl rfl rfl (kW tw hb hd oz)) (aL rfl rfl rfl) aM rfl rfl) ?_;refine gt (aJ (Con.rB 27 rfl rfl rfl rfl (sP▸uT tw (ha.mul tw rfl hc) (hb.mul tw rfl hd) oz)) (aL rfl rfl rfl) aM rfl rfl) ?_;refine gt (aJ (Con.rB 27 rfl rfl rfl rfl (kW tw hb hc oz)) (aL rfl rfl rfl) aM rfl rfl) ?_;refine gt (aJ (Con.rB 27 rfl rfl rfl rfl (kW tw ha hd oz)) (aL rfl rfl rfl) aM rfl rfl) ?_;refine gt (aJ (Con.rB 27 rfl rfl rfl rfl (sJ▸vJ tw (hb.mul tw rfl hc) (ha.mul tw rfl hd) oz)) (aL rfl rfl rfl) aM rfl rfl) ?_;refine gt (aJ (Con.rB 27 rfl rfl rfl rfl (xB _ _ _)) (bA rfl rfl) aM rfl rfl) ?_;refine gD ?_;refine bf ?_;rfl
theorem I6{ts:LL}{r e:Nat}(tw:Tw ts r){a b c d:List Rat}(ha:Nm ts.length e a)(hb:Nm ts.length e b)(hc:Nm ts.length e c)(hd:Nm ts.length e d)(he:2*e<=lm ts.length) :
  FP 179 [an ts,ao a b,ao c d] (.tup [ao (sh ts.length (T.add ts.length (ad ts.length a) (ad ts.length c))) (sh ts.length (T.add ts.length (ad ts.length b) (ad ts.length d))),.v .nilIface]):=by
 refine af func179 ?_;refine gc (r6 (e:=e) tw [(a,b),(c,d)] (by simp only[mem_cons,not_mem_nil,or_false];rintro p (rfl |rfl);exact⟨ha,hb⟩;exact⟨hc,hd⟩) oz (by simp)) ?_;refine gC (fun t16=>?_) (fun t16=>?_) (st1:=(3,0));cases t16;refine gt (aJ (Con.rB 21 rfl rfl rfl rfl (vJ tw ha hc oz)) (aL rfl rfl rfl) aM rfl rfl) ?_;refine gt (aJ (Con.rB 21 rfl rfl rfl rfl (vJ tw hb hd oz)) (aL rfl rfl rfl) aM rfl rfl) ?_;refine gt (aJ (Con.rB 21 rfl rfl rfl rfl (xB _ _ _)) (bA rfl rfl) aM rfl rfl) ?_;refine gD ?_;refine bf ?_;rfl
theorem xn{x y:Rat}(hx:Qs x)(hy:Qs y):FP 54 [qA x,qA y] (ao (sh 0 (x:Rat)) (sh 0 (y:Rat))):=by
 refine af func54 ?_;refine gc (oM hx) ?_;refine gc (oM hy) ?_;refine gD ?_;refine ae ?_
 first |rfl |(simp;done)
theorem TA{ts:LL}{r e:Nat}(tw:Tw ts r){a b c d:List Rat}(ha:Nm ts.length e a)(hb:Nm ts.length e b)(hc:Nm ts.length e c)(hd:Nm ts.length e d){x y:Rat}(hx:Qb e x)(hy:Qb e y)(he:8*e+4*kB r ts.length+4<=lm ts.length) :
  FP 86 [an ts,.agg [nA a,nA b,nA c,nA d],qA x,qA y] (.tup [ao (sh ts.length (r4 ts (ad ts.length a) (ad ts.length b) (ad ts.length c) x y)) (sh ts.length (sF ts (ad ts.length a) (ad ts.length b) (ad ts.length d) x y)),.v .nilIface]):=by
 have hlm:=fg ts.length;have nx:=Nm.ofQ ha.five (Cb.one hx);have ny:=Nm.ofQ ha.five (Cb.one hy);have nX:=qU tw ha hb nx ny;have nY:=pj tw ha hb nx ny;have z1:e<=2*(e+e+kB r ts.length)+1:=by omega
 have z2:2*(2*(e+e+kB r ts.length)+1)<=lm ts.length:=zp he;have hadd:=I6 tw nX nY (hc.mono z1) (hd.mono z1) z2;refine af func86 ?_;refine gc (vn (e:=e) tw [a,b,c,d] (by simp only[mem_cons,not_mem_nil,or_false];rintro x (rfl |rfl |rfl |rfl) <;> assumption) oz (by simp)) ?_;refine gC (fun t25=>?_) (fun t25=>?_) (st1:=(3,0));cases t25;refine gc (xn (hx.qs oz) (hy.qs oz)) ?_;refine gc (zI tw ha hb nx ny oz) ?_;refine gD ?_;refine gC (fun t41=>?_) (fun t41=>?_) (st1:=(6,0));cases t41;refine gc hadd ?_;refine bf ?_;rw[vz,wU];rfl
theorem Jn(rs:List (List Rt))(r e:Nat)(h:TR rs r)(xs:List (List Rt))(hx:∀a∈xs,NR a e)(he:e<=lm rs.length)(hl:xs.length<=1000):FP 27 [cf rs,.lst 1 (xs.map nR)] (i64 (aZ rs xs)):=by
 refine af func27 ?_;refine gc (yd rs r h) ?_;refine gC (fun t13=>?_) (fun t13=>?_)
 ·have h1:=dY t13;refine ae ?_;rw[vc h1]
 have h1:=dD t13;refine gl ?_;refine aN [2,15,16] [2] (fun(i:Nat)=>[(17,some (i64 i))]) (fun _=>[]) (fun i=>i<=xs.length/\∀x∈xs.take i,bQ rs.length x=0) (fun i=>xs.length-i) 0 ⟨zero_le _,fun x hx=>by simp at hx⟩ ?_;rintro i ⟨hi,hj⟩ K1 J1;refine gC (fun t18=>?_) (fun t18=>?_)
 ·have hin : i < xs.length := by simpa [aa] using t18
  obtain⟨a,ha⟩:=az hin;have hok:=hx a (mem_of_getElem? ha);have hone:aZ rs [a]=bQ rs.length a:=xK h1;refine gi (ay ha) ?_;refine gc (TL rs r h a e hok he) ?_;refine gC (fun t28=>?_) (fun t28=>?_)
  ·have h2:=dY t28;refine ae ?_;rw[hone]at h2 ⊢;rw[rZ h1 ha hj h2]
  have h2:=dD t28;rw[hone]at h2;refine ga aE ?_;exact aH J1 (i+1) ⟨hin,fun x hx=>by rw[cD ha]at hx;rcases List.mem_append.1 hx with h9 |h9;exact hj x h9;(rw[List.mem_singleton.1 h9];exact h2)⟩
 have hin:i=xs.length:=by have:xs.length<=i:=(by simpa[aa]using t18);omega
 subst hin;rw[take_length]at hj;refine ae ?_;rw[o6 h1 hj];rfl
theorem r7{ts:LL}{r e f:Nat}(tw:Tw ts r){a b:List Rat}(ha:Nm ts.length e a)(hb:Nm ts.length f b)(he:e+f<=lm ts.length):FP 84 [an ts,nA a,nA b] (nA (sh ts.length (T.add ts.length (ad ts.length a) (ad ts.length b)))):=by
 refine af func84 ?_;refine gc (R6 tw ha hb he) ?_;refine ae ?_
 first |rfl |(simp;done)
theorem qT{ts:LL}{r e f:Nat}(tw:Tw ts r){a b:List Rat}(ha:Nm ts.length e a)(hb:Nm ts.length f b)(he:e+f<=lm ts.length):FP 276 [an ts,nA a,nA b] (nA (sh ts.length (T.add ts.length (ad ts.length a) (T.neg ts.length (ad ts.length b))))):=by
 refine af func276 ?_;refine gc (J0 tw ha hb he) ?_;refine ae ?_
 first |rfl |(simp;done)
theorem jT{ts:LL}{r e f:Nat}(tw:Tw ts r){a b:List Rat}(ha:Nm ts.length e a)(hb:Nm ts.length f b)(he:e+f<=lm ts.length):FP 29 [an ts,nA a,nA b] (nA (sh ts.length (T.mul (aj ts) ts.length (ad ts.length a) (ad ts.length b)))):=by
 refine af func29 ?_;refine gc (SC tw ha hb he) ?_;refine ae ?_
 first |rfl |(simp;done)
theorem Q4{ts:LL}{r e:Nat}(tw:Tw ts r){a:List Rat}(ha:Nm ts.length e a)(he:e<=lm ts.length):FP 28 [an ts,nA a] (i64 (T.sgn (aj ts) ts.length (ad ts.length a))):=by
 refine af func28 ?_;refine gc (Ul tw ha he) ?_;refine ae ?_
 first |rfl |(simp;done)
theorem nC{ts:LL}{r e f:Nat}(tw:Tw ts r){a b:List Rat}(ha:Nm ts.length e a)(hb:Nm ts.length f b)(he:e+f+1<=lm ts.length):FP 23 [an ts,nA a,nA b] (bl (iY ts (ad ts.length a) (ad ts.length b))):=by
 refine af func23 ?_;refine gc (OT tw ha hb he) ?_;refine ae ?_;exact congrArg bl (RJ _)
theorem KQ{ts:LL}{r e:Nat}(tw:Tw ts r){a b c d:List Rat}(ha:Nm ts.length e a)(hb:Nm ts.length e b)(hc:Nm ts.length e c)(hd:Nm ts.length e d)(he:2*e+1<=lm ts.length):FP 81 [an ts,ao a b,ao c d] (bl (iY ts (ad ts.length a) (ad ts.length c)&&iY ts (ad ts.length b) (ad ts.length d))):=by
 refine af func81 ?_;refine gc (nC tw ha hc oz) ?_;refine bM (fun _=>(nC tw hb hd oz)) ?_;refine ae ?_;exact congrArg bl (iH _ _)
theorem Bm{ts:LL}{r e:Nat}(tw:Tw ts r){a b c d:List Rat}(ha:Nm ts.length e a)(hb:Nm ts.length e b)(hc:Nm ts.length e c)(hd:Nm ts.length e d)(he:2*(e+e+kB r ts.length)<=lm ts.length):FP 24 [an ts,ao a b,ao c d] (nA (sh ts.length (kH ts (ad ts.length a) (ad ts.length b) (ad ts.length c) (ad ts.length d)))):=by
 refine af func24 ?_;refine gc (jT tw ha hc oz) ?_;refine gc (jT tw hb hd oz) ?_;refine gc (sJ▸r7 tw (ha.mul tw rfl hc) (hb.mul tw rfl hd) oz) ?_;refine gD ?_;refine ae ?_
 first |rfl |(simp;done)
theorem Gs{ts:LL}{r e:Nat}(tw:Tw ts r){a b c d:List Rat}(ha:Nm ts.length e a)(hb:Nm ts.length e b)(hc:Nm ts.length e c)(hd:Nm ts.length e d)(he:2*(e+e+kB r ts.length)<=lm ts.length):FP 167 [an ts,ao a b,ao c d] (nA (sh ts.length (mR ts (ad ts.length a) (ad ts.length b) (ad ts.length c) (ad ts.length d)))):=by
 refine af func167 ?_;refine gc (jT tw ha hd oz) ?_;refine gc (jT tw hb hc oz) ?_;refine gc (sP▸qT tw (ha.mul tw rfl hd) (hb.mul tw rfl hc) oz) ?_;refine gD ?_;refine ae ?_
 first |rfl |(simp;done)
theorem tU{ts:LL}{r e:Nat}(tw:Tw ts r){a b c d:List Rat}(ha:Nm ts.length e a)(hb:Nm ts.length e b)(hc:Nm ts.length e c)(hd:Nm ts.length e d)(he:2*e<=lm ts.length):FP 168 [an ts,ao a b,ao c d] (ao (sh ts.length (subT ts (ad ts.length a) (ad ts.length c))) (sh ts.length (subT ts (ad ts.length b) (ad ts.length d)))):=by
 refine af func168 ?_;refine gc (qT tw ha hc oz) ?_;refine gc (qT tw hb hd oz) ?_;refine gD ?_;refine ae ?_
 first |rfl |(simp;done)
theorem Gy{ts:LL}{r e:Nat}(tw:Tw ts r){a b c d:List Rat}(ha:Nm ts.length e a)(hb:Nm ts.length e b)(hc:Nm ts.length e c)(hd:Nm ts.length e d)(he:2*e<=lm ts.length):FP 275 [an ts,ao a b,ao c d] (ao (sh ts.length (T.add ts.length (ad ts.length a) (ad ts.length c))) (sh ts.length (T.add ts.length (ad ts.length b) (ad ts.length d)))):=by
 refine af func275 ?_;refine gc (r7 tw ha hc oz) ?_;refine gc (r7 tw hb hd oz) ?_;refine gD ?_;refine ae ?_
 first |rfl |(simp;done)
theorem Ek{ts:LL}{r e:Nat}(tw:Tw ts r){a b c d:List Rat}(ha:Nm ts.length e a)(hb:Nm ts.length e b)(hc:Nm ts.length e c)(hd:Nm ts.length e d)(he:2*(e+e+kB r ts.length)<=lm ts.length):FP 202 [an ts,nA a,nA b,ao c d] (ao (sh ts.length (n7 ts (ad ts.length a) (ad ts.length b) (ad ts.length c) (ad ts.length d))) (sh ts.length (oU ts (ad ts.length a) (ad ts.length b) (ad ts.length c) (ad ts.length d)))):=by
 refine af func202 ?_;refine gc (jT tw ha hc oz) ?_;refine gc (jT tw hb hd oz) ?_;refine gc (sP▸qT tw (ha.mul tw rfl hc) (hb.mul tw rfl hd) oz) ?_;refine gc (jT tw hb hc oz) ?_;refine gc (jT tw ha hd oz) ?_;refine gc (sJ▸r7 tw (hb.mul tw rfl hc) (ha.mul tw rfl hd) oz) ?_;refine gD ?_;refine ae ?_
 first |rfl |(simp;done)
theorem xM{x y:Rat}(hx:Qs x)(hy:Qs y):FP 93 [qA x,qA y] (ao (sh 0 (x:Rat)) (sh 0 (y:Rat))):=by
 refine af func93 ?_;refine gc (pO hx) ?_;refine gc (pO hy) ?_;refine gD ?_;refine ae ?_
 first |rfl |(simp;done)
theorem Jw{ts:LL}{r e:Nat}(tw:Tw ts r){a b c d:List Rat}(ha:Nm ts.length e a)(hb:Nm ts.length e b)(hc:Nm ts.length e c)(hd:Nm ts.length e d){x y:Rat}(hx:Qb e x)(hy:Qb e y)(he:8*e+4*kB r ts.length+4<=lm ts.length) :
  FP 166 [an ts,.agg [nA a,nA b,nA c,nA d],qA x,qA y] (ao (sh ts.length (r4 ts (ad ts.length a) (ad ts.length b) (ad ts.length c) x y)) (sh ts.length (sF ts (ad ts.length a) (ad ts.length b) (ad ts.length d) x y))):=by
 have hlm:=fg ts.length;have nx:=Nm.ofQ ha.five (Cb.one hx);have ny:=Nm.ofQ ha.five (Cb.one hy);have nX:=qU tw ha hb nx ny;have nY:=pj tw ha hb nx ny;have z1:e<=2*(e+e+kB r ts.length)+1:=by omega
 have z2:2*(2*(e+e+kB r ts.length)+1)<=lm ts.length:=zp he;have hadd:=Gy tw nX nY (hc.mono z1) (hd.mono z1) z2;refine af func166 ?_;refine gc (xM (hx.qs oz) (hy.qs oz)) ?_;refine gc (Ek tw ha hb nx ny oz) ?_;refine gc hadd ?_;refine gD ?_;refine ae ?_;rw[vz,wU];rfl
theorem uG(n:Int)(h:-9223372036854775808<=n/\n<=9223372036854775807):FP 25 [i64 n] (nA (sh 0 ((n:Rat):Rat))):=by
 refine af func25 ?_;refine gc (lg n h) ?_;refine gc (pO (nN h)) ?_;refine ae ?_
 first |rfl |(simp;done)
theorem Pi{ts:LL}{r e:Nat}(tw:Tw ts r){a b c d p q u v:List Rat}(ha:Nm ts.length e a)(hb:Nm ts.length e b)(hc:Nm ts.length e c)(hd:Nm ts.length e d)(hp:Nm ts.length e p)(hq:Nm ts.length e q)(hu:Nm ts.length e u)(hv:Nm ts.length e v)(he:2*e+1<=lm ts.length) :
  FP 20 [an ts,.agg [nA a,nA b,nA c,nA d],.agg [nA p,nA q,nA u,nA v]] (bl (iY ts (ad ts.length a) (ad ts.length p)&&iY ts (ad ts.length b) (ad ts.length q)&&iY ts (ad ts.length c) (ad ts.length u)&&iY ts (ad ts.length d) (ad ts.length v))):=by
 refine af func20 ?_;refine gc (nC tw ha hp oz) ?_;refine bM (fun _=>(nC tw hb hq oz)) ?_;refine bM (fun _=>(nC tw hc hu oz)) ?_;refine bM (fun _=>(nC tw hd hv oz)) ?_;refine ae ?_;exact congrArg bl (NF _ _ _ _)
theorem Lf:FP 36 [] (.agg [nA [1],nA [],nA [],nA []]):=by
 refine af func36 ?_;refine gc (lg 1 oz) ?_;refine gc (pO (nN (n:=1) oz)) ?_;refine gR ?_;exact iC (.agg (.cons (.refl _) (.cons (.nil _ _ _) (.cons (.nil _ _ _) (.cons (.nil _ _ _) .nil)))) rfl)
def u8(n:Nat):AV:=.v (.int .u8 n)
theorem ta{p q:Bool}{a b:Nat}{c:Nat}(hp:p=decide (a<=c))(hq:q=decide (c<=b)):cond p q false=decide (a<=c/\c<=b):=by
 subst hp;subst hq
 by_cases h:a<=c
 ·simp[h]
 ·simp[h]
theorem sj(c k:Nat):aa .geq (c:Int) (k:Int)=decide (k<=c):=by simp only[aa,decide_eq_decide];omega
theorem td(c k:Nat):aa .leq (c:Int) (k:Int)=decide (c<=k):=by simp only[aa,decide_eq_decide];omega
theorem Vp(c:Nat):cond (cond (aa .geq (c:Int) 97) (aa .leq (c:Int) 122) false) true (cond (aa .geq (c:Int) 65) (aa .leq (c:Int) 90) false)=eI c:=by
 have e1:cond (aa .geq (c:Int) 97) (aa .leq (c:Int) 122) false=decide (97<=c/\c<=122):=ta (sj c 97) (td c 122);have e2:cond (aa .geq (c:Int) 65) (aa .leq (c:Int) 90) false=decide (65<=c/\c<=90):=ta (sj c 65) (td c 90);rw[e1,e2];unfold eI;cases decide (97<=c/\c<=122) <;> rfl
theorem TJ(c:Nat):cond (cond (aa .geq (c:Int) 65) (aa .leq (c:Int) 90) false) true (cond (aa .geq (c:Int) 97) (aa .leq (c:Int) 122) false)=eI c:=by
 have e1:cond (aa .geq (c:Int) 97) (aa .leq (c:Int) 122) false=decide (97<=c/\c<=122):=ta (sj c 97) (td c 122);have e2:cond (aa .geq (c:Int) 65) (aa .leq (c:Int) 90) false=decide (65<=c/\c<=90):=ta (sj c 65) (td c 90);rw[e1,e2];unfold eI;cases decide (97<=c/\c<=122) <;> cases decide (65<=c/\c<=90) <;> rfl
theorem FA(c:Nat):cond (aa .geq (c:Int) 48) (aa .leq (c:Int) 57) false=qf c:=ta (sj c 48) (td c 57)
theorem yY(c:Nat):cond (cond (eI c) true (qf c)) true (aa .eql (c:Int) 95)=ky c:=by
 unfold ky
 have:aa .eql (c:Int) 95=decide (c=95):=by
  rw[Bool.eq_iff_iff];simp only[aa,beq_iff_eq,decide_eq_true_eq];omega
 rw[this];cases eI c <;> cases qf c <;> rfl
theorem Ib(c:Nat):FP 368 [u8 c] (bl (eI c)):=by
 refine af func368 ?_;refine ae ?_;exact congrArg bl (Vp c)
theorem Pv(c:Nat):FP 395 [u8 c] (bl (qf c)):=by
 refine af func395 ?_;refine ae ?_;exact congrArg bl (FA c)
theorem LG(c:Nat):FP 369 [u8 c] (bl (ky c)):=by
 refine af func369 ?_;refine gc (Ib c) ?_;refine bM (fun _=>(Pv c)) ?_;refine ae ?_;exact congrArg bl (yY c)
theorem HN(c:Nat):FP 284 [u8 c] (bl (eI c)):=by
 refine af func284 ?_;refine ae ?_;exact congrArg bl (TJ c)
theorem OY(c:Nat):FP 286 [u8 c] (bl (qf c)):=by
 refine af func286 ?_;refine ae ?_;exact congrArg bl (FA c)
theorem N6(s:ByteArray)(hs:s.size<=281474976710656):FP 313 [.v (.string s)] (i64 (eP s)):=by
 refine af func313 ?_;refine gs (ez rfl rfl rfl (fun h=>v5 (.opt rfl (o1 h)) (.const _) T9 rfl oz (by have:=E0 h;omega) rfl)) ?_;refine bM (fun _=>(Ib (dT s 0))) ?_;refine gC (fun t11=>?_) (fun t11=>?_)
 ·have h0:eP s=0:=NX t11;refine ae ?_;rw[h0];rfl
 obtain⟨h0,h1⟩:=M0 t11;refine aN [0] [] (fun(n:Nat)=>[(3,some (i64 n))]) (fun _=>[]) (fun n=>1<=n/\n<=s.size/\eZ s 1 (s.size-1)=eZ s n (s.size-n)) (fun n=>s.size-n) 1 ⟨le_refl _,h0,rfl⟩ ?_;rintro n ⟨hn1,hn,hw⟩ K1 J1;refine gs (ez rfl rfl rfl (fun h=>v5 (.opt rfl (o1 h)) (.opt rfl (o1 h)) T9 rfl oz (by have:=aT h;omega) rfl)) ?_;refine bM (fun _=>(LG (dT s n))) ?_;refine gC (fun t21=>?_) (fun t21=>?_)
 ·have h2:n<s.size/\ky (dT s n)=true:=Q3 t21;refine ga aE ?_;exact aH J1 (n+1) ⟨by omega,by omega,by rw[hw,show s.size-n=(s.size-(n+1))+1 by omega];simp only[eZ,h2.2,if_true]⟩
 have h2:n<s.size->ky (dT s n)=false:=MK t21
 have h3:eP s=n:=by
  unfold eP;rw[VQ ⟨h0,h1⟩,hw];rcases lt_or_ge n s.size with h |h
  ·rw[show s.size-n=(s.size-(n+1))+1 by omega];simp only[eZ,h2 h,Bool.false_eq_true,if_false]
  ·rw[show s.size-n=0 by omega];rfl
 refine ae ?_;rw[h3]
theorem rW(s:ByteArray)(hs:s.size<=281474976710656):FP 211 [.v (.string s)] (bl (ii s)):=by
 refine af func211 ?_;refine gc (N6 s hs) ?_;refine ae ?_;exact congrArg bl (JS s)
theorem vi(s:ByteArray)(i:Nat):FP 285 [.v (.string s),i64 i] (u8 (dT s i)):=by
 refine af func285 ?_;refine gC (fun t8=>?_) (fun t8=>?_)
 ·have h0:=aT t8;refine gs (v5 (.tmp rfl) (.tmp rfl) T9 rfl oz oz rfl) ?_;refine ae ?_;rfl
 have h0:=rO t8;refine ae ?_;rw[Is oz];rfl
theorem KW(s:ByteArray)(hs:s.size<=281474976710656):FP 185 [.v (.string s),i64 0] (i64 ((if eI (dT s 0)then eZ s 0 s.size else 0:Nat))):=by
 refine af func185 ?_;refine gc (vi s 0) ?_;refine gc (HN (dT s 0)) ?_;refine gC (fun t9=>?_) (fun t9=>?_)
 ·have h0 : eI (dT s 0) = false := by simpa using t9
  refine ae ?_;rw[h0];rfl
 have h0:eI (dT s 0)=true:=by simpa using t9
 refine aN [0] [] (fun(n:Nat)=>[(1,some (i64 n))]) (fun _=>[]) (fun n=>n<=s.size/\eZ s 0 s.size=eZ s n (s.size-n)) (fun n=>s.size-n) 0 ⟨zero_le _,rfl⟩ ?_;rintro n ⟨hn,hw⟩ K1 J1;refine gc (vi s n) ?_;refine gc (HN (dT s n)) ?_;refine bM (fun _=>(vi s n)) ?_;refine bM (fun _=>(OY (dT s n))) ?_;refine bM (fun _=>(vi s n)) ?_;refine gC (fun t26=>?_) (fun t26=>?_)
 ·have h1:ky (dT s n)=true:=(yY _).symm.trans t26
  have h2:n<s.size:=by
   rcases lt_or_ge n s.size with h |h
   ·exact h
   ·rw[Is h]at h1;cases h1
  refine ga aE ?_;exact aH J1 (n+1) ⟨by omega,by rw[hw,show s.size-n=(s.size-(n+1))+1 by omega];simp only[eZ,h1,if_true]⟩
 have h1:ky (dT s n)=false:=(yY _).symm.trans t26
 have h2:eZ s 0 s.size=n:=by
  rw[hw];rcases lt_or_ge n s.size with h |h
  ·rw[show s.size-n=(s.size-(n+1))+1 by omega];simp only[eZ,h1,Bool.false_eq_true,if_false]
  ·rw[show s.size-n=0 by omega];rfl
 refine ae ?_;rw[h0,h2];rfl
theorem tG(s:ByteArray)(hs:s.size<=281474976710656):FP 95 [.v (.string s)] (bl (ii s)):=by
 refine af func95 ?_;refine bM (fun _=>(KW s hs)) ?_;refine ae ?_;exact congrArg bl (Lc s)
theorem ql(i:Int)(n:Nat):FP 315 [i64 i,i64 n] (bl (br i n)):=by
 refine af func315 ?_;refine ae ?_;exact congrArg bl (Eu i n)
theorem UZ(bs:List Bd)(hbs:∀b∈bs,b.ok)(hl:bs.length<=281474976710656):FP 212 [.lst 2 (bs.map Bd.av)] (bm (eU bs.length (d6 bs))):=by
 refine af func212 ?_;refine gl ?_;refine aN [0,11,12] [] (fun(i:Nat)=>[(13,some (i64 i))]) (fun _=>[]) (fun i=>i<=bs.length/\∀j,j<i->d6 bs j=0) (fun i=>bs.length-i) 0 ⟨zero_le _,fun j h=>by omega⟩ ?_;rintro i ⟨hi,hj⟩ K1 J1;refine gC (fun t14=>?_) (fun t14=>?_)
 ·have hin:=aT t14;obtain⟨b,hb⟩:=az hin;have hbd:bs.getD i default=b:=aO hb;have hbo:=hbs b (mem_of_getElem? hb);have hbdup:=mZ Bd.name hb;refine gi (ay hb) ?_;refine gc (rW b.name hbo.name) ?_;refine gC (fun t21=>?_) (fun t21=>?_)
  ·have h1:=di t21;have e1:d6 bs i = 5:=by unfold d6; rw [hbd,VQ h1]
   refine ae ?_;rw[dX hin hj (by rw[e1];decide),e1];rfl
  have h1:=dr t21;refine gs (cz (.tmp rfl) (.none _) (.some _ (.tmp rfl) oz) T22 rfl T120 rfl oz (by simp only[length_map];omega) rfl) ?_;refine ge rfl ?_;refine aN [0,3,4,11,12,13] [4] (fun(k:Nat)=>[(25,some (.lst 2 ((bs.take i).map Bd.av))),(26,some (i64 i)),(27,some (i64 k))]) (fun _=>[]) (fun k=>k<=i/\(bs.take k).any (fun y=>dG y.name b.name)=false) (fun k=>i-k) 0 ⟨zero_le _,rfl⟩ ?_ (h1:=(.cons rfl (Sub.of (ux 2 Bd.av bs i)) (.cons rfl (Sub.int (by simp;omega)) (.k .nil))));rintro k ⟨hk,hd⟩ K2 J2;refine gC (fun t28=>?_) (fun t28=>?_)
  ·have hkn:=aT t28;obtain ⟨y,hy'⟩:∃ y,(bs.take i)[k]? = some y:=az (by simp; omega);have hy:=(tQ hy').1;refine gi (ay hy') ?_;refine gC (fun t35=>?_) (fun t35=>?_)
   ·have h2:dG y.name b.name = true:=t35;have e1:d6 bs i = 6:=by unfold d6; rw [hbd,VP (by rw [h1]; decide),VQ (by rw [hbdup]; exact k8 hy hkn h2)]
    refine ae ?_;rw[dX hin hj (by rw[e1];decide),e1];rfl
   have h2:dG y.name b.name=false:=t35;refine ga aE ?_;exact aH J2 (k+1) ⟨hkn,kl hy hd h2⟩
  have hkn:=a8 hk t28;subst hkn;have hnd:¬f7 (bs.map Bd.name) k=true:=by rw[hbdup,hd];decide
  refine gl ?_;refine gC (fun t41=>?_) (fun t41=>?_)
  ·have h3:8 < b.pts.length:=jb t41;have e1:d6 bs k = 4:=by unfold d6; rw [hbd,VP (by rw [h1]; decide),VP hnd,VQ h3]
   refine ae ?_;rw[dX hin hj (by rw[e1];decide),e1];rfl
  have h3:b.pts.length<=8:=gp t41;have e1:d6 bs k=eU b.pts.length (dZ b.pts):=by unfold d6;rw[hbd,VP (by rw[h1];decide),VP hnd,VP oz]
  refine gl ?_;refine aN [0,4,11,12,13,44,45] [4] (fun(p:Nat)=>[(46,some (i64 p))]) (fun _=>[]) (fun p=>p<=b.pts.length/\∀j,j<p->dZ b.pts j=0) (fun p=>b.pts.length-p) 0 ⟨zero_le _,fun j h=>by omega⟩ ?_;rintro p ⟨hp,hpj⟩ K3 J3;refine gC (fun t47=>?_) (fun t47=>?_)
  ·have hpn:=aT t47;obtain⟨m,hm⟩:=az hpn;have hmd:b.pts.getD p default=m:=aO hm;have hmm:=mem_of_getElem? hm;have hmdup:=mZ Mk.name hm;have hmo:=hbo.pts m hmm;refine gi (ay hm) ?_;refine gc (rW m.name (hbo.names m hmm)) ?_;refine gC (fun t54=>?_) (fun t54=>?_)
   ·have h4:=di t54;have e2:dZ b.pts p = 5:=by unfold dZ; rw [hmd,VQ h4]
    have e3:d6 bs k=5:=by rw[e1,dX hpn hpj (by rw[e2];decide),e2]
    refine ae ?_;rw[dX hin hj (by rw[e3];decide),e3];rfl
   have h4:=dr t54;refine gs (cz (.tmp rfl) (.none _) (.some _ (.tmp rfl) oz) T118 rfl T122 rfl oz (by simp only[length_map];omega) rfl) ?_;refine ge rfl ?_;refine aN [0,4,8,11,12,13,44,45,46] [4,8] (fun(q:Nat)=>[(59,some (.lst 7 ((b.pts.take p).map Mk.av))),(60,some (i64 p)),(61,some (i64 q))]) (fun _=>[]) (fun q=>q<=p/\(b.pts.take q).any (fun y=>dG y.name m.name)=false) (fun q=>p-q) 0 ⟨zero_le _,rfl⟩ ?_ (h1:=(.cons rfl (Sub.of (ux 7 Mk.av b.pts p)) (.cons rfl (Sub.int (by simp;omega)) (.k .nil))));rintro q ⟨hq,hqd⟩ K4 J4;refine gC (fun t62=>?_) (fun t62=>?_)
   ·have hqn:=aT t62;obtain ⟨y,hy'⟩:∃ y,(b.pts.take p)[q]? = some y:=az (by simp; omega);have hy:=(tQ hy').1;refine gi (ay hy') ?_;refine gC (fun t69=>?_) (fun t69=>?_)
    ·have h5:dG y.name m.name = true:=t69;have e2:dZ b.pts p = 6:=by unfold dZ; rw [hmd,VP (by rw [h4]; decide),VQ (by rw [hmdup]; exact k8 hy hqn h5)]
     have e3:d6 bs k=6:=by rw[e1,dX hpn hpj (by rw[e2];decide),e2]
     refine ae ?_;rw[dX hin hj (by rw[e3];decide),e3];rfl
    have h5:dG y.name m.name=false:=t69;refine ga aE ?_;exact aH J4 (q+1) ⟨hqn,kl hy hqd h5⟩
   have hqn:=a8 hq t62;subst hqn;have hmnd:¬f7 (b.pts.map Mk.name) q=true:=by rw[hmdup,hqd];decide
   refine gc (tX m.x hmo.x) ?_;refine bM (fun _=>(tX m.y hmo.y)) ?_;refine gC (fun t81=>?_) (fun t81=>?_)
   ·have h6:=o9 t81;have e2:dZ b.pts q = 3:=by unfold dZ; rw [hmd,VP (by rw [h4]; decide),VP hmnd,VP (by rintro ⟨g1,g2⟩; rcases h6 with g | g; (rw [g1] at g; cases g); (rw [g2] at g; cases g))]
    have e3:d6 bs k=3:=by rw[e1,dX hpn hpj (by rw[e2];decide),e2]
    refine ae ?_;rw[dX hin hj (by rw[e3];decide),e3];rfl
   have h6:=oF t81;have e2:dZ b.pts q=0:=by unfold dZ;rw[hmd,VP (by rw[h4];decide),VP hmnd,VQ h6]
   refine ga aE ?_;exact aH J3 (q+1) ⟨hpn,fun j h9=>by rcases lt_or_ge j q with g |g;exact hpj j g;(have:j=q:=by omega);subst this;exact e2⟩
  have hpn:=a8 hp t47;subst hpn;have e2:d6 bs k=0:=e1.trans (mT hpj);refine ga aE ?_;exact aH J1 (k+1) ⟨hin,fun j h9=>by rcases lt_or_ge j k with g |g;exact hj j g;(have:j=k:=by omega);subst this;exact e2⟩
 have hin:=a8 hi t14;subst hin;refine ae ?_;rw[mT hj];rfl
theorem Nu(l:Li)(hl:l.ok)(j:Jt):FP 314 [l.av,j.av] (bm (d9 l j)):=by
 refine af func314 ?_;refine gC (fun t15=>?_) (fun t15=>?_)
 ·have h1:=Ig t15;refine ae ?_;unfold d9;rw[VQ h1];rfl
 have h1:=I4 t15;refine gl ?_;refine gc (ql j.a l.bo.length) ?_;refine bS ?_;refine bM (fun _=>(ql j.b l.bo.length)) ?_;refine gC (fun t32=>?_) (fun t32=>?_)
 ·have h2:=o9 t32;refine ae ?_;unfold d9;rw[VP h1,VQ h2];rfl
 have h2:=oF t32;have h2n:¬(br j.a l.bo.length=false\/br j.b l.bo.length=false):=by rw[h2.1,h2.2];simp
 obtain⟨A,hA,pA,mA,zA0⟩:=p8 h2.1;obtain⟨B,hB,pB,mB,zB0⟩:=p8 h2.2;refine gC (fun t38=>?_) (fun t38=>?_)
 ·have h3:=bV t38;refine ae ?_;unfold d9;rw[VP h1,VP h2n,VQ h3];rfl
 have h3:=cr t38;refine gi (ay hB) ?_;refine gi (ay hA) ?_;refine gl ?_;refine gc (ql j.point A.pts.length) ?_;refine bS ?_;refine bM (fun _=>(ql j.on B.pts.length)) ?_;refine gD ?_;refine gC (fun t66=>?_) (fun t66=>?_)
 ·have h4:=o9 t66;refine ae ?_;unfold d9;rw[VP h1,VP h2n,VP h3,pA,pB,VQ h4];rfl
 have h4:=oF t66;have h4n:¬(br j.point A.pts.length=false\/br j.on B.pts.length=false):=by rw[h4.1,h4.2];simp
 refine gC (fun t70=>?_) (fun t70=>?_)
 ·have h5:=bV t70;refine gC (fun t73=>?_) (fun t73=>?_)
  ·have h6:=sr t73;refine ae ?_;unfold d9;rw[VP h1,VP h2n,VP h3,pA,pB,VP h4n,VQ h5,VQ h6];rfl
  have h6:=Ax t73;refine ae ?_;unfold d9;rw[VP h1,VP h2n,VP h3,pA,pB,VP h4n,VQ h5,VP (by rw[h6];simp)];rfl
 have h5:=cr t70;refine gl ?_;refine gc (ql j.to B.pts.length) ?_;refine gC (fun t80=>?_) (fun t80=>?_)
 ·have h6:=di t80;refine ae ?_;unfold d9;rw[VP h1,VP h2n,VP h3,pA,pB,VP h4n,VP h5,VQ h6];rfl
 have h6:=dr t80;obtain⟨m1,g1,d1,mm1,z1⟩:=ui h4.2;obtain⟨m2,g2,d2,mm2,z2⟩:=ui h6;have mo1:=(hl.bo B mB).pts m1 mm1;have mo2:=(hl.bo B mB).pts m2 mm2;refine gi (ay g1) ?_;refine gi (ay g2) ?_;refine gD ?_;refine gc (GW m1.x m2.x mo1.x mo2.x) ?_;refine bM (fun _=>(GW m1.y m2.y mo1.y mo2.y)) ?_;refine gC (fun t105=>?_) (fun t105=>?_)
 ·have h7:=Fc t105;refine ae ?_;unfold d9;rw[VP h1,VP h2n,VP h3,pA,pB,VP h4n,VP h5,VP (by rw[h6];decide),d1,d2,VQ h7];rfl
 have h7:=ET t105;refine ae ?_;unfold d9;rw[VP h1,VP h2n,VP h3,pA,pB,VP h4n,VP h5,VP (by rw[h6];decide),d1,d2,VP h7];rfl
theorem S5(l:Li)(hl:l.ok):FP 213 [l.av] (bm (eL l)):=by
 have hlj:=hl.lj;refine af func213 ?_;refine gl ?_;refine gC (fun t11=>?_) (fun t11=>?_)
 ·have h0:16<l.jo.length:=jb t11;refine ae ?_;unfold eL;rw[VQ h0];rfl
 have h0:l.jo.length<=16:=gp t11;have e0:eL l=eU l.jo.length (f6 l):=by unfold eL;rw[VP oz]
 refine gl ?_;refine aN [1,14,15] [1] (fun(i:Nat)=>[(16,some (i64 i))]) (fun _=>[]) (fun i=>i<=l.jo.length/\∀j,j<i->f6 l j=0) (fun i=>l.jo.length-i) 0 ⟨zero_le _,fun j h=>by omega⟩ ?_;rintro i ⟨hi,hj⟩ K1 J1;refine gC (fun t17=>?_) (fun t17=>?_)
 ·have hin:=aT t17;obtain⟨b,hb⟩:=az hin;have hbd:l.jo.getD i default=b:=aO hb;have hbdup:=mZ Jt.name hb;refine gi (ay hb) ?_;refine gc (rW b.name (hl.jnames b (mem_of_getElem? hb))) ?_;refine gC (fun t24=>?_) (fun t24=>?_)
  ·have h1:=di t24;have e1:f6 l i = 5:=by unfold f6; rw [hbd,VQ h1]
   refine ae ?_;rw[e0,dX hin hj (by rw[e1];decide),e1];rfl
  have h1:=dr t24;refine gs (cz (.tmp rfl) (.none _) (.some _ (.tmp rfl) oz) T23 rfl T75 rfl oz (by simp only[length_map];omega) rfl) ?_;refine ge rfl ?_;refine aN [1,3,4,14,15,16] [1,4] (fun(k:Nat)=>[(29,some (.lst 7 ((l.jo.take i).map Jt.av))),(30,some (i64 i)),(31,some (i64 k))]) (fun _=>[]) (fun k=>k<=i/\(l.jo.take k).any (fun y=>dG y.name b.name)=false) (fun k=>i-k) 0 ⟨zero_le _,rfl⟩ ?_ (h1:=(.cons rfl (Sub.of (ux 7 Jt.av l.jo i)) (.cons rfl (Sub.int (by simp;omega)) (.k .nil))));rintro k ⟨hk,hd⟩ K2 J2;refine gC (fun t32=>?_) (fun t32=>?_)
  ·have hkn:=aT t32;obtain ⟨y,hy'⟩:∃ y,(l.jo.take i)[k]? = some y:=az (by simp; omega);have hy:=(tQ hy').1;refine gi (ay hy') ?_;refine gC (fun t39=>?_) (fun t39=>?_)
   ·have h2:dG y.name b.name = true:=t39;have e1:f6 l i = 6:=by unfold f6; rw [hbd,VP (by rw [h1]; decide),VQ (by rw [hbdup]; exact k8 hy hkn h2)]
    refine ae ?_;rw[e0,dX hin hj (by rw[e1];decide),e1];rfl
   have h2:dG y.name b.name=false:=t39;refine ga aE ?_;exact aH J2 (k+1) ⟨hkn,kl hy hd h2⟩
  have hkn:=a8 hk t32;subst hkn;have hnd:¬f7 (l.jo.map Jt.name) k=true:=by rw[hbdup,hd];decide
  have e1:f6 l k=d9 l b:=by unfold f6;rw[hbd,VP (by rw[h1];decide),VP hnd]
  refine gc (Nu l hl b) ?_;refine gC (fun t46=>?_) (fun t46=>?_)
  ·have h3:=de t46;refine ae ?_;rw[e0,dX hin hj (by rw[e1];exact h3),e1]
  have h3:=cR t46;refine ga aE ?_;exact aH J1 (k+1) ⟨hin,fun j h9=>by rcases lt_or_ge j k with g |g;exact hj j g;(have:j=k:=by omega);subst this;exact e1.trans h3⟩
 have hin:=a8 hi t17;subst hin;refine ae ?_;rw[e0,mT hj];rfl
theorem Nv(l:Li)(hl:l.ok):FP 214 [l.av] (bm (gg l)):=by
 have hld:=hl.ld;refine af func214 ?_;refine gl ?_;refine gC (fun t12=>?_) (fun t12=>?_)
 ·have h0:2<l.dv.length:=jb t12;refine ae ?_;unfold gg;rw[VQ h0];rfl
 have h0:l.dv.length<=2:=gp t12;have e0:gg l=eU l.dv.length (dN l):=by unfold gg;rw[VP oz]
 refine gl ?_;refine aN [1,15,16] [1] (fun(i:Nat)=>[(17,some (i64 i))]) (fun _=>[]) (fun i=>i<=l.dv.length/\∀j,j<i->dN l j=0) (fun i=>l.dv.length-i) 0 ⟨zero_le _,fun j h=>by omega⟩ ?_;rintro i ⟨hi,hj⟩ K1 J1;refine gC (fun t18=>?_) (fun t18=>?_)
 ·have hin:=aT t18;obtain⟨b,hb⟩:=az hin;have hbd:l.dv.getD i default=b:=aO hb;have hbdup:=mZ Dr.name hb;refine gi (ay hb) ?_;refine gc (rW b.name (hl.dnames b (mem_of_getElem? hb))) ?_;refine gC (fun t25=>?_) (fun t25=>?_)
  ·have h1:=di t25;have e1:dN l i = 5:=by unfold dN; rw [hbd,VQ h1]
   refine ae ?_;rw[e0,dX hin hj (by rw[e1];decide),e1];rfl
  have h1:=dr t25;refine gs (cz (.tmp rfl) (.none _) (.some _ (.tmp rfl) oz) T24 rfl T94 rfl oz (by simp only[length_map];omega) rfl) ?_;refine ge rfl ?_;refine aN [1,3,4,15,16,17] [1,4] (fun(k:Nat)=>[(30,some (.lst 2 ((l.dv.take i).map Dr.av))),(31,some (i64 i)),(32,some (i64 k))]) (fun _=>[]) (fun k=>k<=i/\(l.dv.take k).any (fun y=>dG y.name b.name)=false) (fun k=>i-k) 0 ⟨zero_le _,rfl⟩ ?_ (h1:=(.cons rfl (Sub.of (ux 2 Dr.av l.dv i)) (.cons rfl (Sub.int (by simp;omega)) (.k .nil))));rintro k ⟨hk,hd⟩ K2 J2;refine gC (fun t33=>?_) (fun t33=>?_)
  ·have hkn:=aT t33;obtain ⟨y,hy'⟩:∃ y,(l.dv.take i)[k]? = some y:=az (by simp; omega);have hy:=(tQ hy').1;refine gi (ay hy') ?_;refine gC (fun t40=>?_) (fun t40=>?_)
   ·have h2:dG y.name b.name = true:=t40;have e1:dN l i = 6:=by unfold dN; rw [hbd,VP (by rw [h1]; decide),VQ (by rw [hbdup]; exact k8 hy hkn h2)]
    refine ae ?_;rw[e0,dX hin hj (by rw[e1];decide),e1];rfl
   have h2:dG y.name b.name=false:=t40;refine ga aE ?_;exact aH J2 (k+1) ⟨hkn,kl hy hd h2⟩
  have hkn:=a8 hk t33;subst hkn;have hnd:¬f7 (l.dv.map Dr.name) k=true:=by rw[hbdup,hd];decide
  refine gl ?_;refine gc (ql b.body l.bo.length) ?_;refine gC (fun t49=>?_) (fun t49=>?_)
  ·have h3:=di t49;have e1:dN l k = 9:=by unfold dN; rw [hbd,VP (by rw [h1]; decide),VP hnd,VQ h3]
   refine ae ?_;rw[e0,dX hin hj (by rw[e1];decide),e1];rfl
  have h3:=dr t49;refine gC (fun t53=>?_) (fun t53=>?_)
  ·have h4:=bV t53;have e1:dN l k = 7:=by unfold dN; rw [hbd,VP (by rw [h1]; decide),VP hnd,VP (by rw [h3]; decide),VQ h4]
   refine ae ?_;rw[e0,dX hin hj (by rw[e1];decide),e1];rfl
  have h4:=cr t53;have e1:dN l k=if(l.dv.take k).any (fun d=>decide (d.body=b.body))=true then 6 else 0:=by unfold dN;rw[hbd,VP (by rw[h1];decide),VP hnd,VP (by rw[h3];decide),VP h4]
  refine gs (cz (.tmp rfl) (.none _) (.some _ (.tmp rfl) oz) T24 rfl T94 rfl oz (by simp only[length_map];omega) rfl) ?_;refine ge rfl ?_;refine aN [1,4,15,16,17] [1,4] (fun(q:Nat)=>[(58,some (.lst 2 ((l.dv.take k).map Dr.av))),(59,some (i64 k)),(60,some (i64 q))]) (fun _=>[]) (fun q=>q<=k/\(l.dv.take q).any (fun d=>decide (d.body=b.body))=false) (fun q=>k-q) 0 ⟨zero_le _,rfl⟩ ?_ (h1:=(.cons rfl (Sub.of (ux 2 Dr.av l.dv k)) (.cons rfl (Sub.int (by simp;omega)) (.k .nil))));rintro q ⟨hq,hqd⟩ K3 J3;refine gC (fun t61=>?_) (fun t61=>?_)
  ·have hqn:=aT t61;obtain ⟨y,hy'⟩:∃ y,(l.dv.take k)[q]? = some y:=az (by simp; omega);have hy:=(tQ hy').1;refine gi (ay hy') ?_;refine gC (fun t68=>?_) (fun t68=>?_)
   ·have h5:decide (y.body = b.body) = true:=decide_eq_true (bV t68);have e2:dN l k = 6:=by rw [e1,VQ (k8 hy hqn h5)]
    refine ae ?_;rw[e0,dX hin hj (by rw[e2];decide),e2];rfl
   have h5:decide (y.body=b.body)=false:=decide_eq_false (cr t68);refine ga aE ?_;exact aH J3 (q+1) ⟨hqn,kl hy hqd h5⟩
  have hqn:=a8 hq t61;subst hqn;have e2:dN l q=0:=by rw[e1,hqd];rfl
  refine ga aE ?_;exact aH J1 (q+1) ⟨hin,fun j h9=>by rcases lt_or_ge j q with g |g;exact hj j g;(have:j=q:=by omega);subst this;exact e2⟩
 have hin:=a8 hi t18;subst hin;refine ae ?_;rw[e0,mT hj];rfl
theorem Cg(l:Li)(hl:l.ok):FP 118 [l.av] (bm (aG l)):=by
 have hlb:=hl.lb;refine af func118 ?_;refine gc (rW l.name hl.name) ?_;refine gC (fun t8=>?_) (fun t8=>?_)
 ·have h1:=di t8;refine ae ?_;unfold aG;rw[VQ h1];rfl
 have h1:=dr t8;refine gl ?_;refine gC (fun t13=>?_) (fun t13=>?_)
 ·have h2:=E8 t13;refine ae ?_;unfold aG;rw[VP (by rw[h1];decide),VQ h2];rfl
 have h2:=Er t13;refine gl ?_;refine gC (fun t18=>?_) (fun t18=>?_)
 ·have h3:8<l.bo.length:=jb t18;refine ae ?_;unfold aG;rw[VP (by rw[h1];decide),VP h2,VQ h3];rfl
 have h3:l.bo.length<=8:=gp t18;have e0:aG l=if ig l≠0 then ig l else if eL l≠0 then eL l else gg l:=by unfold aG;rw[VP (by rw[h1];decide),VP h2,VP oz]
 refine gc (UZ l.bo hl.bo hlb) ?_;refine gC (fun t24=>?_) (fun t24=>?_)
 ·have h4:ig l≠0:=de t24;refine ae ?_;rw[e0,VQ h4];rfl
 have h4:ig l=0:=cR t24;refine gc (S5 l hl) ?_;refine gC (fun t29=>?_) (fun t29=>?_)
 ·have h5:=de t29;refine ae ?_;rw[e0,VP (by rw[h4];simp),VQ h5]
 have h5:=cR t29;refine gc (Nv l hl) ?_;refine ae ?_;rw[e0,VP (by rw[h4];simp),VP (by rw[h5];simp)]
theorem yP(d:Nat)(hd:Nat.blt d 1000=true)(l:Li)(hl:l.bo.length<=1000)(b:Nat)(hb:b<l.bo.length) :
  Con prog 131 [l.av,i64 b] [] (.ms d 1 0 l.bo.length) [(d,some (.row 1 ((cU l.bo.length b).map bl)))]:=by
 refine gF func131 (fun k z h=>by cases h) ?_;refine gl ?_;refine gs (fD (.tmp rfl) T218 rfl T4 rfl rfl oz (by dsimp only;omega) rfl) ?_;refine gs (jv (.tmp rfl) (.tmp rfl) T218 rfl T4 rfl oz oz rfl) ?_;refine gs (cO (.tmp rfl) rfl (by rw[getElem?_replicate,VQ (by simp;omega)]) rfl (.const _) rfl rfl T4 rfl rfl) ?_ (3,0);refine gW (Wk.of (sl:=[(5,some (.ms 9 1 0 l.bo.length))]) (hp:=[(9,some (.row 1 ((cU l.bo.length b).map bl)))]) (.cons rfl (Sub.of (by rw[toNat_natCast])) .nil) (.cons rfl (BlkSub.of (by unfold cU;simp only[map_set,map_replicate,Nat.zero_add,toNat_natCast];rfl)) .nil)) ?_ (3,0);refine gW (Wk.rk (k:=9) (d:=900) rfl rfl) ?_;refine gR ?_;exact aA.own1 rfl hd rfl
theorem Qr(l:Li)(hl:l.bo.length<=1000)(b:Nat)(hb:b<l.bo.length):FP 131 [l.av,i64 b] (.lst 1 ((cU l.bo.length b).map bl)):=by
 have h:=Con.freeze (by rw[length_map,iI];omega) (yP 0 rfl l hl b hb);rw[drop_zero,take_of_length_le (by rw[length_map,iI];exact le_refl _)]at h;exact h
theorem Mu(l:Li)(hl:l.ok)(b:Int):FP 333 [l.av,i64 b] (bl (nH l b)):=by
 have hld:=hl.ld;refine af func333 ?_;refine gl ?_;refine aN [1,8,9] [] (fun(i:Nat)=>[(10,some (i64 i))]) (fun _=>[]) (fun i=>i<=l.dv.length/\(l.dv.take i).any (fun d=>decide (d.body=b))=false) (fun i=>l.dv.length-i) 0 ⟨zero_le _,rfl⟩ ?_;rintro i ⟨hi,hj⟩ K1 J1;refine gC (fun t11=>?_) (fun t11=>?_)
 ·have hin:=aT t11;obtain⟨d,hd⟩:=az hin;refine gi (ay hd) ?_;refine gC (fun t17=>?_) (fun t17=>?_)
  ·have h1:d.body=b:=bV t17;refine ae ?_;unfold nH;rw[List.any_eq_true.2 ⟨d,mem_of_getElem? hd,decide_eq_true h1⟩];rfl
  have h1:d.body≠b:=cr t17;refine ga aE ?_;exact aH J1 (i+1) ⟨hin,kl hd hj (decide_eq_false h1)⟩
 have hin:=a8 hi t11;subst hin;rw[take_length]at hj;refine ae ?_;unfold nH;rw[hj];rfl
theorem Ic(l:Li)(hl:l.ok)(hli:aG l=0)(kind body:Int)(oth:List Bool)(ho:oth.length=l.bo.length):FP 236 [l.av,i64 kind,i64 body,.lst 1 (oth.map bl)] (i64 (b7 l kind body oth)):=by
 have hlj:=hl.lj;refine af func236 ?_;refine gl ?_;refine aN [1,2,3,12,13] [] (fun(i:Nat)=>[(14,some (i64 i))]) (fun _=>[]) (fun i=>i<=l.jo.length/\∀j,j<i->(!kI kind body oth (l.jo.getD j default))=true) (fun i=>l.jo.length-i) 0 ⟨zero_le _,fun j h=>by omega⟩ ?_;rintro i ⟨hi,hj⟩ K1 J1;refine gC (fun t15=>?_) (fun t15=>?_)
 ·have hin:=aT t15;obtain⟨j,hjt⟩:=az hin;have hjd:l.jo.getD i default=j:=aO hjt;obtain⟨i1,i2,_⟩:=dm hli hjt;have b1:=eK i1;have b2:=eK i2;obtain⟨va,hva⟩:∃v,oth[j.a.toNat]?=some v:=az oz;obtain⟨vb,hvb⟩:∃v,oth[j.b.toNat]?=some v:=az oz;have ea:kn oth j.a=va:=aO hva;have eb:kn oth j.b=vb:=aO hvb;refine gi (ay hjt) ?_;refine lJ (fun _=>(dg (n:=j.b.toNat) oz hvb)) ?_;refine lJ (fun _=>(dg (n:=j.a.toNat) oz hva)) ?_;refine gC (fun t48=>?_) (fun t48=>?_)
  ·have h2 : kI kind body oth j = true := by rw [<- FV (va := va) (vb := vb) ea eb]; exact t48
   refine ae ?_;unfold b7;rw[iJ hin hj (by rw[hjd,h2];rfl)];rfl
  have h2:kI kind body oth j=false:=by rw[<- FV (va:=va) (vb:=vb) ea eb];exact t48
  refine ga aE ?_;exact aH J1 (i+1) ⟨hin,fun k h9=>by rcases lt_or_ge k i with g |g;exact hj k g;(have:k=i:=by omega);subst this;rw[hjd,h2];rfl⟩
 have hin:=a8 hi t15;subst hin;refine ae ?_;unfold b7;rw[iQ hj];rfl
theorem R4(l:Li)(hl:l.ok)(kw:List Bool)(b:Nat)(hb:b<kw.length):FP 237 [l.av,.lst 1 (kw.map bl),i64 b] (bl (ef l kw b)):=by
 obtain⟨v,hv⟩:=az hb;have ev:kn kw (b:Int)=v:=aO (by rw[toNat_natCast];exact hv);refine af func237 ?_;refine gi (ay hv) ?_;refine bM (fun _=>(Mu l hl b)) ?_;refine ae ?_;unfold ef;rw[ev];exact congrArg bl (iH _ _)
theorem ss{l:Li}{kw:List Bool}(hl:l.ok)(hli:aG l=0)(kind body:Int)(hk:kw.length=l.bo.length) :
  Con prog 236 [l.av,i64 kind,i64 body,.ms 1000 1 0 kw.length] [(1000,some (.row 1 (kw.map bl)))] (i64 (b7 l kind body kw)) [(1000,some (.row 1 (kw.map bl)))]:=by
 refine Con.borrow (args:=[l.av,i64 kind,i64 body,.lst 1 (kw.map bl)]) 1000 1 (kw.map bl) rfl rfl rfl ?_ rfl (fun k' x h=>by cases h) (Ic l hl hli kind body kw hk);intro j x' hj
 match j,hj with
 |0,hj=>cases hj;exact .inl rfl
 |1,hj=>cases hj;exact .inl rfl
 |2,hj=>cases hj;exact .inl rfl
 |3,hj=>cases hj;exact .inr ⟨0,kw.length,rfl,by simp,by rw[drop_zero,take_of_length_le (by simp)];rfl⟩
theorem yR{l:Li}{kw:List Bool}(hl:l.ok)(b:Nat)(hb:b<kw.length) :
  Con prog 237 [l.av,.ms 1000 1 0 kw.length,i64 b] [(1000,some (.row 1 (kw.map bl)))] (bl (ef l kw b)) [(1000,some (.row 1 (kw.map bl)))]:=by
 refine Con.borrow (args:=[l.av,.lst 1 (kw.map bl),i64 b]) 1000 1 (kw.map bl) rfl rfl rfl ?_ rfl (fun k' x h=>by cases h) (R4 l hl kw b hb);intro j x' hj
 match j,hj with
 |0,hj=>cases hj;exact .inl rfl
 |1,hj=>cases hj;exact .inr ⟨0,kw.length,rfl,by simp,by rw[drop_zero,take_of_length_le (by simp)];rfl⟩
 |2,hj=>cases hj;exact .inl rfl
theorem UR(l:Li)(hl:l.ok)(hli:aG l=0)(kw:List Bool)(hk:kw.length=l.bo.length):Con prog 132 [l.av,.ms 1000 1 0 kw.length] [(1000,some (.row 1 (kw.map bl)))] (.tup [((dA l kw).getD default).av,bl (dA l kw).isSome]) [(1000,some (.row 1 (kw.map bl)))]:=by
 have hld:=hl.ld;refine gF func132 (fun k z h=>bB h) ?_;refine gl ?_;refine aN [2,4,10,11] [2,4,1000] (fun(i:Nat)=>[(1,some (.ms 1000 1 0 kw.length)),(12,some (i64 i))]) (fun _=>[]) (fun i=>i<=l.dv.length/\∀j,j<i->(!fO l kw j)=true) (fun i=>l.dv.length-i) 0 ⟨zero_le _,fun j h=>by omega⟩ ?_;rintro i ⟨hi,hj⟩ K1 J1;refine gC (fun t13=>?_) (fun t13=>?_)
 ·have hin:=aT t13;obtain ⟨d,hd⟩:=az hin;have hdd:l.dv.getD i default = d:=aO hd;have hb:=eK (lK hli hd);obtain ⟨v,hv⟩:∃ v,kw[d.body.toNat]? = some v:=az oz;have ev:kn kw d.body = v:=aO hv;refine gi (ay hd) ?_;refine gs (jv (.tmp rfl) (.tmp rfl) T218 rfl T4 rfl oz oz rfl) ?_;refine gs (dR (.tmp rfl) rfl (by rw [Nat.zero_add,getElem?_map,hv]; rfl) T4 rfl rfl rfl) ?_;refine gC (fun t21=>?_) (fun t21=>?_)
  ·have h2 : fO l kw i = false := by unfold fO; rw [hdd, ev, t21]; rfl
   refine ga aE ?_;exact aH J1 (i+1) ⟨hin,fun k h9=>by rcases lt_or_ge k i with g |g;exact hj k g;(have:k=i:=by omega);subst this;rw[h2];rfl⟩
  have hv0:v=false:=t21;refine gt (ni (ss hl hli 0 d.body hk) (.cons (.tmp rfl) (.cons (.const _) (bA rfl rfl))) rfl rfl rfl) ?_;refine gC (fun t28=>?_) (fun t28=>?_)
  ·have h2 : fO l kw i = true := by unfold fO; rw [hdd, ev, hv0, decide_eq_true (Cu t28)]; rfl
   have hg:dA l kw=some ⟨0,[d.body],[b7 l 0 d.body kw],i⟩:=by unfold dA;rw[iJ hin hj (by rw[h2];rfl),<- hdd];rfl
   refine gR ?_;rw[hg];exact aA.keep (bi rfl)
  have h2:fO l kw i=false:=by unfold fO;rw[hdd,decide_eq_false (HZ t28),Bool.and_false]
  refine ga aE ?_;exact aH J1 (i+1) ⟨hin,fun k h9=>by rcases lt_or_ge k i with g |g;exact hj k g;(have:k=i:=by omega);subst this;rw[h2];rfl⟩
 have hin:=a8 hi t13;subst hin;have hg:dA l kw=none:=by unfold dA;rw[iQ hj];rfl
 refine gR ?_;exact aA.sub (aA.keep (bi rfl)) (by rw[hg];exact Sub.tup (.cons qi (.cons (.refl _) .nil)))
theorem Vq(l:Li)(hl:l.ok)(hli:aG l=0)(kw:List Bool)(hk:kw.length=l.bo.length):Con prog 133 [l.av,.ms 1000 1 0 kw.length] [(1000,some (.row 1 (kw.map bl)))] (.tup [((cT l kw).getD default).av,bl (cT l kw).isSome]) [(1000,some (.row 1 (kw.map bl)))]:=by
 have h8:=(dp hli).2.2.2.1;refine gF func133 (fun k z h=>bB h) ?_;refine gl ?_;refine aN [2,4,12,13] [2,4,1000] (fun(i:Nat)=>[(1,some (.ms 1000 1 0 kw.length)),(14,some (i64 i))]) (fun _=>[]) (fun i=>i<=l.bo.length/\∀j,j<i->(gB l kw j).isNone=true) (fun i=>l.bo.length-i) 0 ⟨zero_le _,fun j h=>by omega⟩ ?_;rintro i ⟨hi,hj⟩ K1 J1;refine gC (fun t15=>?_) (fun t15=>?_)
 ·have hin:=aT t15;refine ga aE ?_;refine aN [2,4,6,12,13,14] [2,4,1000] (fun (k:Nat)=>[(1,some (.ms 1000 1 0 kw.length)),(7,some (i64 (i + 1 + k:Nat)))]) (fun _=>[]) (fun k=>i + 1 + k <= l.bo.length /\ ∀ j,j < k -> (!dz l kw i (i + 1 + j)) = true) (fun k=>l.bo.length - k) 0 ⟨by omega,fun j h=>by omega⟩ ?_;rintro k ⟨hkl,hkj⟩ K2 J2;refine gl ?_;refine gC (fun t23=>?_) (fun t23=>?_)
  ·have hkn:i+1+k<l.bo.length:=aT t23;refine gt (ni (yR hl i oz) (aL rfl rfl rfl) rfl rfl rfl) ?_;refine gu (ez rfl rfl rfl (fun h=>ni (yR hl (i+1+k) oz) (.cons (.opt rfl (o1 h)) (.cons (.opt rfl (o1 h)) (.cons (.opt rfl (o1 h)) .nil))) rfl rfl rfl)) ?_;refine gC (fun t37=>?_) (fun t37=>?_)
   ·have h2 : dz l kw i (i + 1 + k) = false := by unfold dz; rw [show (ef l kw i && ef l kw ((i + 1 + k : Nat) : Int)) = false from by rcases o9 t37 with g | g; (rw [g]; rfl); (rw [g, Bool.and_false])]; rfl
    refine ga aE ?_;exact aH J2 (k+1) ⟨by omega,fun j h9=>by rcases lt_or_ge j k with g |g;exact hkj j g;(have:j=k:=by omega);subst this;rw[h2];rfl⟩
   have hff:=oF t37;refine gt (ni (ss hl hli 0 i hk) (.cons (.tmp rfl) (.cons (.const _) (bA rfl rfl))) rfl rfl rfl) ?_;refine gt (ni (ss hl hli 0 (i+1+k:Nat) hk) (.cons (.tmp rfl) (.cons (.const _) (bA rfl rfl))) rfl rfl rfl) ?_;refine gc (Qr l oz (i+1+k) hkn) ?_;refine gc (Ic l hl hli 0 i (cU l.bo.length ((i+1+k:Nat):Int)) (iI _ _)) ?_;refine gD ?_;refine gC (fun t61=>?_) (fun t61=>?_)
   ·have h2 : dz l kw i (i + 1 + k) = true := by unfold dz; rw [hff.1, hff.2]; exact (uD.symm.trans t61)
    have hat:gB l kw i=some (i+1+k):=by unfold gB;rw[iJ oz hkj (by rw[h2];rfl),Option.map_some];congr 1;omega
    have hg:cT l kw=some (kK l kw i (i+1+k)):=by unfold cT;rw[iJ hin hj (by rw[hat];rfl),Option.map_some,hat]
    refine gR ?_;rw[hg];exact aA.keep (bi rfl)
   have h2:dz l kw i (i+1+k)=false:=by unfold dz;rw[show(decide (0<=b7 l 0 i kw)&&decide (0<=b7 l 0 ((i+1+k:Nat):Int) kw)&&decide (0<=b7 l 0 i (cU l.bo.length ((i+1+k:Nat):Int))))=false from uD.symm.trans t61,Bool.and_false]
   refine ga aE ?_;exact aH J2 (k+1) ⟨by omega,fun j h9=>by rcases lt_or_ge j k with g |g;exact hkj j g;(have:j=k:=by omega);subst this;rw[h2];rfl⟩
  have hkn:¬i+1+k<l.bo.length:=fun h=>by have h1:=rO t23;omega
  have hat:gB l kw i=none:=by unfold gB;rw[show l.bo.length-(i+1)=k by omega,iQ hkj];rfl
  refine ga aE ?_;exact aH J1 (i+1) ⟨hin,fun j h9=>by rcases lt_or_ge j i with g |g;exact hj j g;(have:j=i:=by omega);subst this;rw[hat];rfl⟩
 have hin:=a8 hi t15;have hg:cT l kw=none:=by unfold cT;rw[<- hin,iQ hj];rfl
 refine gR ?_;exact aA.sub (aA.keep (bi rfl)) (by rw[hg];exact Sub.tup (.cons qi (.cons (.refl _) .nil)))
theorem JO(l:Li)(hl:l.ok)(hli:aG l=0)(kw:List Bool)(hk:kw.length=l.bo.length):Con prog 134 [l.av,.ms 1000 1 0 kw.length] [(1000,some (.row 1 (kw.map bl)))] (.tup [((eO l kw).getD default).av,bl (eO l kw).isSome]) [(1000,some (.row 1 (kw.map bl)))]:=by
 have h8:=(dp hli).2.2.2.1;refine gF func134 (fun k z h=>bB h) ?_;refine gl ?_;refine aN [2,4,11,12] [2,4,1000] (fun(i:Nat)=>[(1,some (.ms 1000 1 0 kw.length)),(13,some (i64 i))]) (fun _=>[]) (fun i=>i<=l.bo.length/\∀j,j<i->(!fL l kw j)=true) (fun i=>l.bo.length-i) 0 ⟨zero_le _,fun j h=>by omega⟩ ?_;rintro i ⟨hi,hj⟩ K1 J1;refine gC (fun t14=>?_) (fun t14=>?_)
 ·have hin:=aT t14;refine gt (ni (yR hl i oz) (aL rfl rfl rfl) rfl rfl rfl) ?_;refine gC (fun t20=>?_) (fun t20=>?_)
  ·have h2 : fL l kw i = false := by unfold fL; rw [di t20]; rfl
   refine ga aE ?_;exact aH J1 (i+1) ⟨hin,fun k h9=>by rcases lt_or_ge k i with g |g;exact hj k g;(have:k=i:=by omega);subst this;rw[h2];rfl⟩
  have hf:=dr t20;refine gt (ni (ss hl hli 0 i hk) (.cons (.tmp rfl) (.cons (.const _) (bA rfl rfl))) rfl rfl rfl) ?_;refine gt (ni (ss hl hli 1 i hk) (.cons (.tmp rfl) (.cons (.const _) (bA rfl rfl))) rfl rfl rfl) ?_;refine gD ?_;refine gC (fun t34=>?_) (fun t34=>?_)
  ·have h2 : fL l kw i = false := by unfold fL; rw [GP t34, Bool.and_false]
   refine ga aE ?_;exact aH J1 (i+1) ⟨hin,fun k h9=>by rcases lt_or_ge k i with g |g;exact hj k g;(have:k=i:=by omega);subst this;rw[h2];rfl⟩
  obtain⟨p0,s0⟩:=CD t34;have s1:=(mN (l:=l) (kind:=1) (body:=i) (oth:=kw)).2;have h2:fL l kw i=true:=by unfold fL;rw[hf,decide_eq_true p0,decide_eq_true s0];rfl
  obtain⟨j,hjt⟩:∃j,l.jo[(b7 l 1 i kw).toNat]?=some j:=az oz;have hjd:l.jo.getD (b7 l 1 i kw).toNat default=j:=aO hjt;have hg:eO l kw=some (jh l kw i):=by unfold eO;rw[iJ hin hj (by rw[h2];rfl),Option.map_some]
  refine gi (dg (n:=(b7 l 1 i kw).toNat) oz hjt) ?_;refine gC (fun t42=>?_) (fun t42=>?_)
  ·have hji:j.a=i:=bV t42;refine gR ?_;rw[hg];unfold jh;rw[hjd];simp only[Option.getD_some,VQ hji]
   exact aA.keep (bi rfl)
  have hji:j.a≠i:=cr t42;refine gR ?_;rw[hg];unfold jh;rw[hjd];simp only[Option.getD_some,VP hji]
  exact aA.keep (bi rfl)
 have hin:=a8 hi t14;have hg:eO l kw=none:=by unfold eO;rw[<- hin,iQ hj];rfl
 refine gR ?_;exact aA.sub (aA.keep (bi rfl)) (by rw[hg];exact Sub.tup (.cons qi (.cons (.refl _) .nil)))
theorem Bn{k:List Bool}{bs:List Int}{q:Nat}{x:Int}(h:bs[q]?=some x):bE k (bs.drop q)=bE (k.set x.toNat true) (bs.drop (q+1)):=by
 have hi:=(List.getElem?_eq_some_iff.1 h).1;rw[List.drop_eq_getElem_cons hi,(List.getElem?_eq_some_iff.1 h).2];rfl
theorem OO{l:Li}{n:Nat}{kw:List Bool}{out:List Gr}{g:Gr}(h:cq l kw=some g):cJ l (n+1) kw out=cJ l n (bE kw g.bo) (out++[g]):=by
 show(match cq l kw with |none=>_ |some g=>_)=_;rw[h]
theorem L5{l:Li}{n:Nat}{kw:List Bool}{out:List Gr}(h:cq l kw=none):cJ l n kw out=(kw,out):=by
 cases n with
 |zero=>rfl
 |succ n=>show(match cq l kw with |none=>_ |some g=>_)=_;rw[h]
theorem xX{α:Type}{o:Option α}(h:o.isSome=false):o=none:=by cases o <;> simp_all
theorem Dj{α:Type}{a b:Option α}(h:a.isSome=true):a=a.or b:=by cases a <;> simp_all
theorem LA{l:Li}{kw:List Bool}(h:(dA l kw).or (cT l kw)=none):cq l kw=eO l kw:=by
 unfold cq;rw[<- Option.or_assoc,h];rfl
theorem Ly{l:Li}{kw:List Bool}(h:((dA l kw).or (cT l kw)).isSome=true):cq l kw=(dA l kw).or (cT l kw):=by
 unfold cq;rw[<- Option.or_assoc];exact(Dj h).symm
theorem FQ(l:Li)(hl:l.ok)(hli:aG l=0):FP 60 [l.av] (.lst 4 ((cE l).map Gr.av)):=by
 have h8:=(dp hli).2.2.2.1;have h0:=(dp hli).2.2.2.2;refine af func60 ?_;refine gt (aJ (yP 900 rfl l oz 0 oz) (.cons (.tmp rfl) (.cons (.const _) .nil)) aM rfl rfl) ?_;refine gl ?_;refine gW (Wk.virt 901 4 rfl) ?_;refine ip [1,13] [1] (fun(i:Nat)(kw:List Bool)(out:List Gr)=>[(3,some (.ms 900 1 0 kw.length)),(4,some (.ms 901 4 0 out.length)),(14,some (i64 i))]) (fun _ kw out=>[(900,some (.row 1 (kw.map bl))),(901,some (.row 4 (out.map Gr.av)))]) (fun i kw out=>i<=l.bo.length/\kw.length=l.bo.length/\out.length<=i/\cJ l (l.bo.length-i) kw out=cJ l l.bo.length (cU l.bo.length 0) []) (fun i _ _=>l.bo.length-i) 0 (cU l.bo.length 0) ([]) ⟨zero_le _,iI _ _,le_refl _,rfl⟩ ?_ (h1:=(.cons rfl (Sub.of (by rw[iI])) (.k (.k .nil))))
 rintro i kw out ⟨hi,hk,hol,hff⟩ K1 J1;refine gC (fun t15=>?_) (fun t15=>?_) (st2:=(18,0))
 ·have hin:=aT t15;have hd1:=Con.rekey1 900 rfl rfl rfl (UR l hl hli kw hk);have hp1:=Con.rekey1 900 rfl rfl rfl (Vq l hl hli kw hk);have hs1:=Con.rekey1 900 rfl rfl rfl (JO l hl hli kw hk);refine gt (aJ hd1 (bA rfl rfl) aM rfl rfl) ?_;refine wl [1,5,13,14] [1,900,901] (fun(o:Option Gr)=>[(3,some (.ms 900 1 0 kw.length)),(4,some (.ms 901 4 0 out.length)),(6,some (bl o.isSome))]) (fun o=>[(5,some (.box (o.getD default).av.cells))]) (fun o=>o=(dA l kw).or (cT l kw)) ?_ ?_
  ·intro K2 J2;refine gC (fun t23=>?_) (fun t23=>?_)
   ·refine gt (aJ hp1 (bA rfl rfl) aM rfl rfl) ?_;exact mJ J2 (cT l kw) (by rw[xX (di t23)];rfl)
   exact mJ J2 (dA l kw) (Dj (dr t23))
  rintro o ho;refine wl [1,5,13,14] [1,900,901] (fun(og:Option Gr)=>[(3,some (.ms 900 1 0 kw.length)),(4,some (.ms 901 4 0 out.length)),(6,some (bl og.isSome))]) (fun og=>[(5,some (.box (og.getD default).av.cells))]) (fun og=>og=cq l kw) ?_ ?_
  ·intro K3 J3;refine gC (fun t31=>?_) (fun t31=>?_)
   ·refine gt (aJ hs1 (bA rfl rfl) aM rfl rfl) ?_;exact mJ J3 (eO l kw) (by have:=xX (di t31);rw[ho]at this;exact(LA this).symm)
   exact mJ J3 o (by rw[ho];exact(Ly (by rw[<- ho];exact dr t31)).symm)
  rintro og hog;refine gC (fun t39=>?_) (fun t39=>?_) (st1:=(18,0))
  ·have hn : cq l kw = none := by rw [<- hog]; exact xX (di t39)
   have hfin:cE l=out:=by unfold cE;rw[<- hff,L5 hn]
   refine gW ((Wk.freeze (k:=901) rfl).trans<|Wk.of (sl:=[(4,some (.lst 4 ((cE l).map Gr.av)))]) (hp:=[]) (.cons rfl (Sub.of (by rw[hfin,bD (by rw[length_map])])) .nil) .nil) ?_;refine ae ?_;rfl
  obtain⟨g,hg⟩:∃g,og=some g:=Option.isSome_iff_exists.1 (dr t39);have hng:cq l kw=some g:=by rw[<- hog,hg]
  have hgo:=vX hli hng;subst hg;refine gs (bO (.tmp rfl) rfl (by rw[length_map]) (.tmp rfl) T32 rfl T53 rfl rfl (by dsimp only;simp only[length_cons,length_nil];omega) rfl rfl) ?_ (12,0);refine gW (Wk.of (sl:=[(1,some (.ptr 1 0)),(3,some (.ms 900 1 0 kw.length)),(4,some (.ms 43 4 0 (out++[g]).length)),(5,some (.ptr 5 0)),(13,some (i64 l.bo.length)),(14,some (i64 i))]) (hp:=[(1,some (.box l.av.cells)),(5,some (.box g.av.cells)),(900,some (.row 1 (kw.map bl))),(43,some (.row 4 ((out++[g]).map Gr.av)))]) (.k (.k (.cons rfl (Sub.of (by rw[length_append];rfl)) (.k (.k (.k .nil)))))) (.k (.k (.k (.cons rfl (BlkSub.of (by rw[map_append];rfl)) .nil))))) ?_ (12,0)
  refine gW (Wk.rk (k:=43) (d:=901) rfl rfl) ?_;refine gl ?_;refine fZ [1,13,14,45,46] [1,901] (fun(q:Nat)(kk:List Bool)=>[(3,some (.ms 900 1 0 kk.length)),(4,some (.ms 901 4 0 (out++[g]).length)),(47,some (i64 q))]) (fun _ kk=>[(900,some (.row 1 (kk.map bl)))]) (fun q kk=>q<=g.bo.length/\kk.length=l.bo.length/\bE kk (g.bo.drop q)=bE kw g.bo) (fun q _=>g.bo.length-q) 0 kw ⟨zero_le _,hk,rfl⟩ ?_;rintro q kk ⟨hq,hkk,hmk⟩ K4 J4;refine gC (fun t48=>?_) (fun t48=>?_)
  ·have hqn:=aT t48;obtain⟨x,hx⟩:=az hqn;have hxb:=hgo.b x (mem_of_getElem? hx);obtain⟨v,hv⟩:∃v,kk[x.toNat]?=some v:=az oz;refine gi (ay hx) ?_;refine gs (jv (.tmp rfl) (.tmp rfl) T218 rfl T4 rfl oz oz rfl) ?_;refine gs (cO (.tmp rfl) rfl (by rw[Nat.zero_add,getElem?_map,hv];rfl) rfl (.const _) rfl rfl T4 rfl rfl) ?_;refine ga (Dk (by have:=hgo.lb;unfold aY;omega)) ?_;exact fB J4 (q+1) (kk.set x.toNat true) ⟨hqn,by rw[length_set];exact hkk,by rw[<- Bn hx];exact hmk⟩ (hw:=Wk.of (.cons rfl (Sub.of (by rw[length_set])) (.k (.k (.k (.k (.k (.k (.k .nil)))))))) (.cons rfl (BlkSub.of (by rw[map_set,Nat.zero_add];rfl)) (.k (.k .nil))))
  have hqn:=a8 hq t48;have hmk2:kk=bE kw g.bo:=by rw[hqn,drop_length]at hmk;exact hmk
  refine ga aE ?_;exact fS J1 (i+1) kk (out++[g]) ⟨hin,hkk,by rw[length_append];simp only[length_cons,length_nil];omega,by rw[hmk2,<- OO hng,<- hff];congr 1;omega⟩
 have hin:=a8 hi t15;have hfin:cE l=out:=by unfold cE;rw[<- hff,show l.bo.length-i=0 by omega];rfl
 refine gW ((Wk.freeze (k:=901) rfl).trans<|Wk.of (sl:=[(4,some (.lst 4 ((cE l).map Gr.av)))]) (hp:=[]) (.cons rfl (Sub.of (by rw[hfin,bD (by rw[length_map])])) .nil) .nil) ?_;refine ae ?_;rfl
end Go.Lw
