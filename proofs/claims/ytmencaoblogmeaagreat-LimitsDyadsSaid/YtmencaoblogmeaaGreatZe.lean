/- LimitsDyads: for any linkage and any turn the law returns true and leaves its arguments as they were. No other condition. Part 5 of 9: what the later parts need -/
import Derived.Test.YtmencaoblogmeaaGreatZd
set_option linter.unusedVariables false
open List (map_take map_map)
open List renaming mem_of_getElem? → ar1, mem_append → ar9, map_cons → atb, mem_cons → asj, length_cons → asi, length_append → asx, length_nil → asu, getD_eq_getElem?_getD → ar2, all_eq_true → asd, getElem?_take → asy, getElem?_drop → as3, getElem?_map → asa, getElem?_eq_getElem → ar7, getElem?_replicate → ast, map_append → asz, length_take → aso, take_of_length_le → asn, drop_zero → as8, take_length → asK, not_mem_nil → asf, length_map → ar3, length_replicate → asr, map_replicate → as5, map_set → as7, length_set → as9, replicate → apf, mem_of_mem_take → apg, contains_iff_mem → api, drop_length → apn, mem_or_eq_of_mem_set → apo, mem_range → apt, length_eq_zero_iff → apv, length_drop → apx, eq_of_mem_replicate → apz, length_eq_one_iff → ap1, append_nil → ap4, drop_eq_getElem_cons → ap7, mem_of_mem_drop → ap8, getElem?_eq_some_iff → ap9, length_pos_iff → aqb, mem_map → aqd, mem_singleton → aqf, range_succ → aqi
open Nat renaming eq_of_beq_eq_true → ar4, le_refl → ar8, lt_of_lt_of_le → asp, lt_or_ge → asb, le_trans → asv, zero_le → ase, blt → aob, two_pow_pos → aoe, blt_eq → aoh, zero_add → aoj, pow_le_pow_right → aok, pow_lt_pow_right → aoq, add_zero → aoy, pow_succ → ao1, beq → ao6
open Option renaming map_eq_some_iff → ar6, getD_some → ary, map_some → arz
open Bool renaming and_eq_true → ar5, eq_iff_iff → aq8, false_eq_true → aq9, and_false → arc
open Array renaming getD_eq_getD_getElem? → asc, getElem?_toList → arn, getElem?_eq_getElem → aro, getElem?_eq_none → arv
open Int renaming toNat_natCast → as4
open Rat renaming intCast_eq_zero_iff → aqy
open Go renaming Operand → atn, Value → ato, TypeId → atp, Program → atq, World → atr
open Go.Result renaming andThen_ok → ats
open Go.Sem renaming run_bind → att, run_pure → atu
open Go.Proofs.Tryz
namespace Go.Lw
open Go.Proofs
theorem oG{n:Nat}(a:List Rat)(hn:n<=5)(ha:Nl n a)(hs:∀q∈a,Qs q):FP 44 [nA a] (nA (sh n (ai n a))):=by
 have hl:=ha.len5 hn;rw[<- VC ha hn];refine am func44 ?_;refine gc (zr qA a oz) ?_;refine gl ?_;refine gC (fun z=>?_) (fun z=>?_) (st1:=(3,0));exact atk z (by rcases ha with rfl |⟨j,hj,h⟩;(simp[aa]);(rw[h,xP];simp[aa];omega));refine gl ?_;refine aP [0] [] (fun(m:Nat)=>[pP 4 (i64 m)]) (fun _=>[]) (fun m=>q6 a m) (fun m=>m) a.length (acj (ha.mono hn)) ?_;rintro m hm K1 J1;refine gs (fM rfl rfl rfl (fun h=>nG (.opt rfl (o1 h)) (.const _) oz (tu (by have:=hm.le;omega)) rfl)) ?_;refine gs (fM rfl rfl rfl (fun h=>fC (.opt rfl (o1 h)) (.some _ (.opt rfl (o1 h)) oz) (.some _ (.opt rfl (o1 h)) oz) T62 rfl T44 rfl oz (by have:=hm.le;simp;omega) rfl)) ?_;refine bV (fun _=>(by have h9:=S0 ((a.drop (m/2)).take (m-m/2)) (by simp;omega);rw[<- FC]at h9;exact h9)) ?_;refine gC (fun t31=>?_) (fun t31=>?_)
 ·have h1:1<m/\bF ((a.drop (m/2)).take (m-m/2))=true:=by
   have h9:=t31
   by_cases h:(m:Int)>1
   ·simp only[aa,ati h,cond_true]at h9;exact⟨by omega,h9⟩
   ·simp only[aa,atj h,cond_false]at h9;cases h9
  refine gs (nG (.tmp rfl) (.const _) oz (tu (by have:=hm.le;omega)) rfl) ?_;exact aM J1 (m/2) (adb hm h1.1 h1.2)
 have h1:1<m->bF ((a.drop (m/2)).take (m-m/2))=false:=by
  intro h;have h9:=t31;simp only[aa,ati (show(m:Int)>1 by omega),cond_true]at h9;exact h9
 refine gs (fM rfl rfl rfl (fun h=>fC (.opt rfl (o1 h)) (.none _) (.some _ (.const _) oz) T62 rfl T44 rfl oz (by have h8:(m:Int)=1:=(by simpa[aa]using h);have:=hm.le;simp only[ar3];omega) rfl)) ?_;refine bV (fun _=>(by have h9:=S0 ((a.drop 0).take 1) (by simp;omega);rw[<- FC]at h9;exact h9)) ?_;refine gC (fun t40=>?_) (fun t40=>?_)
 ·have h2:m=1/\bF (a.take 1)=true:=by
   have h9:=t40
   by_cases h:m=1
   ·rw[h]at h9;exact⟨h,h9⟩
   ·rw[show aa .eql (m:Int) 1=false by simp[aa];omega]at h9;cases h9
  obtain⟨rfl,h3⟩:=h2;refine gR ?_;exact nk (by rw[Vf hm h3];exact Sub.nil _ _ _)
 have h2:m=1->bF (a.take 1)=false:=by
  intro h;have h9:=t40;rw[h]at h9;exact h9
 have h3:=afy hm h1 h2;refine gs (fC (.tmp rfl) (.none _) (.some _ (.tmp rfl) oz) T62 rfl T44 rfl oz (by have:=hm.le;simp;omega) rfl) ?_;refine gc (by have h9:=ajm ((a.drop 0).take m) (fun q hq=>hs q (ap8 (apg hq))) (by simp;omega);have h8:=h9;rw[<- FC]at h9;exact h9) ?_;refine ah ?_;rw[h3];simp[nA,map_take]
theorem Hz(d:Nat)(hd:aob d 1000=true)(a:List Rat)(n:Nat)(hl:a.length<=n)(hn:n<=1099511627776) :
  Con prog 337 [nA a,i64 n] [] (.ms d 3 0 n) [(d,some (.row 3 ((bY a n).map qA)))]:=by
 refine gF func337 (fun k z h=>by cases h) ?_;refine gs (it (.tmp rfl) T62 rfl T44 rfl rfl oz (by dsimp only;omega) rfl) ?_;refine gs (ac0 (.tmp rfl) rfl (by simp) (.tmp rfl) T62 rfl T44 rfl rfl (by simp;omega) rfl) ?_ (3,0);refine gW (Wk.of (sl:=[pP 5 (.ms 7 3 0 n)]) (hp:=[pP 7 (.row 3 ((bY a n).map qA))]) (.cons rfl (.of (by simp)) .nil) (.cons rfl (Rr a n hl) .nil)) ?_;refine gR ?_;exact aD.own1 rfl hd rfl
theorem O8(a:List Rat)(n:Nat)(hl:a.length<=n)(hn:n<=1099511627776):FP 337 [nA a,i64 n] (nA (bY a n)):=by
 have h:=Con.freeze (by rw[ar3,jr hl];omega) (Hz 0 rfl a n hl hn);rw[as8,asn (by rw[ar3,jr hl];exact ar8 _)]at h;exact h
theorem wj(a b:List Rat)(ha:∀q∈a,Qs q)(hb:∀q∈b,Qs q)(la:a.length<=1099511627776)(lb:b.length<=1099511627776):FP 255 [nA a,nA b] (nA (ek a b)):=by
 obtain⟨n,hn⟩:∃n,n=max a.length b.length:=⟨_,rfl⟩
 have hwa:=jr (show a.length<=n by omega);have hwb:=jr (show b.length<=n by omega);have hp:=jc (a:=a) (b:=b);rw[<- hn]at hp;have qa:∀q∈bY a n,Qs q:=fun q hq=>by rcases ar9.1 hq with h |h;exact ha q h;(rw[(List.mem_replicate.1 h).2];exact Qs.zero)
 have qb:∀q∈bY b n,Qs q:=fun q hq=>by rcases ar9.1 hq with h |h;exact hb q h;(rw[(List.mem_replicate.1 h).2];exact Qs.zero)
 refine am func255 ?_;refine gl ?_;refine gl ?_;refine gs (tG (.tmp rfl) (.tmp rfl) rfl) ?_ (2,0);refine gW (Wk.of (sl:=[pP 0 (nA a),pP 1 (nA b),pP 5 (i64 n)]) (hp:=[]) (.k (.k (.cons rfl (Sub.int oz) .nil))) .nil) ?_;refine go ?_;refine gt (aG (Hz 900 rfl a n oz oz) (b9 rfl rfl) aK rfl rfl) ?_;refine gc (O8 b n oz oz) ?_;refine aP [1,19] [] (fun(i:Nat)=>[pP 0 (.ms 900 3 0 n),pP 20 (i64 i)]) (fun i=>[pP 900 (.row 3 (((ek a b).take i++(bY a n).drop i).map qA))]) (fun i=>i<=n) (fun i=>n-i) 0 (ase _) ?_;rintro i hi K1 J1;refine gC (fun z=>?_) (fun z=>?_) (st2:=(8,0))
 ·have af : i < n := by simpa [aa] using z
  have EN:=Nc (p:=ek a b) (w:=bY a n) (i:=i) oz oz;have qN:=(qa _ (FT (i:=i) oz)).ok;have hqb:=(qb _ (FT (i:=i) oz)).ok;refine gs (bI (n:=i) (.tmp rfl) (.tmp rfl) T62 rfl T44 rfl oz oz rfl) ?_;refine gs (dt (.tmp rfl) rfl (aw EN) T44 rfl rfl rfl) ?_;refine gi (aw (getD_some (i:=i) (l:=bY b n) oz)) ?_;refine gc (wX (rt ((bY a n).getD i 0)) (rt ((bY b n).getD i 0)) qN hqb) ?_;refine gs (bI (n:=i) (.tmp rfl) (.tmp rfl) T62 rfl T44 rfl oz oz rfl) ?_;refine gs (dS (.tmp rfl) rfl (aw EN) rfl (.tmp rfl) rfl rfl T44 rfl rfl) ?_;refine gD ?_ (7,0);refine gW (Wk.of (sl:=[pP 0 (.ms 900 3 0 n),pP 1 (nA (bY b n)),pP 19 (i64 n),pP 20 (i64 i)]) (hp:=[pP 900 (.row 3 (((ek a b).take (i+1)++(bY a n).drop (i+1)).map qA))]) a6 (.cons rfl (.of (by rw[Qg oz oz (by rw[ZV,<- hn,bE,bE])])) .nil)) ?_;refine ga aL ?_;exact aM J1 (i+1) af
 have af:i=n:=by have:n<=i:=(by simpa[aa]using z);omega
 refine gW ((Wk.freeze (k:=900) rfl).trans<|Wk.of (sl:=[pP 0 (nA (ek a b))]) (hp:=[]) (.cons rfl (.of (by rw[cq (by simp;omega),af,List.drop_of_length_le oz,asn oz,ap4];rfl)) .nil) .nil) ?_;refine ah ?_;rfl
theorem BX(a:List Rat)(ha:∀q∈a,Qs q)(la:a.length<=1099511627776):FP 226 [nA a] (nA (fB a)):=by
 obtain⟨n,hn⟩:∃n,n=a.length:=⟨_,rfl⟩
 refine am func226 ?_;refine gl ?_;refine gs (it (.tmp rfl) T62 rfl T44 rfl rfl oz (by dsimp only;omega) rfl) ?_ (2,0);refine gW (Wk.of (sl:=[pP 0 (nA a),pP 3 (.ms 7 3 0 n)]) (hp:=[pP 7 (.row 3 ((bY [] n).map qA))]) (.k (.cons rfl (.of (by simp[hn])) .nil)) (.cons rfl (BlkSub.of_ (Rr [] n (by simp)) (by rw[hn];rfl)) .nil)) ?_;refine gl ?_;refine aP [0] [] (fun(i:Nat)=>[pP 3 (.ms 7 3 0 n),pP 9 (i64 n),pP 10 (i64 i)]) (fun i=>[pP 7 (.row 3 (((fB a).take i++(bY [] n).drop i).map qA))]) (fun i=>i<=n) (fun i=>n-i) 0 (ase _) ?_ (h1:=(.k (.cons rfl (Sub.int oz) (.k .nil))));rintro i hi K1 J1;refine gC (fun z=>?_) (fun z=>?_) (st2:=(7,0))
 ·have af : i < n := by simpa [aa] using z
  have iz:=mR (a:=a);have lA:=jr (a:=[]) (n:=n) (by simp);have EN:=Nc (p:=fB a) (w:=bY [] n) (i:=i) oz oz;have qN:=(ha _ (FT (i:=i) oz)).ok;refine gi (aw (getD_some (i:=i) oz)) ?_;refine gc (H8 (rt (a.getD i 0)) qN) ?_;refine gs (bI (n:=i) (.tmp rfl) (.tmp rfl) T62 rfl T44 rfl oz oz rfl) ?_;refine gs (dS (.tmp rfl) rfl (aw EN) rfl (.tmp rfl) rfl rfl T44 rfl rfl) ?_ (6,0);refine gW (Wk.of (sl:=[pP 0 (nA a),pP 3 (.ms 7 3 0 n),pP 9 (i64 n),pP 10 (i64 i)]) (hp:=[pP 7 (.row 3 (((fB a).take (i+1)++(bY [] n).drop (i+1)).map qA))]) a6 (.cons rfl (.of (by rw[Qg oz oz (by rw[aae,bE])])) .nil)) ?_;refine ga aL ?_;exact aM J1 (i+1) af
 have af:i=n:=by have:n<=i:=(by simpa[aa]using z);omega
 have iz:=mR (a:=a);have lA:=jr (a:=[]) (n:=n) (by simp);refine gW ((Wk.freeze (k:=7) rfl).trans<|Wk.of (sl:=[pP 3 (nA (fB a))]) (hp:=[]) (.cons rfl (.of (by rw[cq (by simp;omega),af,List.drop_of_length_le oz,asn oz,ap4];rfl)) .nil) .nil) ?_;refine ah ?_;rfl
theorem Ih(a b:List Rat)(n:Nat)(la:a.length<=n)(lb:b.length<=n)(hn:n<=274877906944):FP 342 [nA a,nA b,i64 n] (nA (ib a b n)):=by
 refine am func342 ?_;refine gt (aG (Hz 900 rfl a n la oz) (b9 rfl rfl) aK rfl rfl) ?_;refine gc (O8 b n lb oz) ?_;refine gs (Gi (.tmp rfl) rfl (by simp[jr la]) (.tmp rfl) T62 rfl T44 rfl rfl (by simp[jr lb];omega) rfl rfl) ?_;refine ah ?_;rw[<- asz];rfl
theorem vM(ts:LL)(m r:Nat)(ht:oS ts m r)(hm:m<=5)(jf:m<=ts.length)(k:Nat):∀(j:Nat)(a b:List Rat)(e f:Nat),j<=m->j<=k->Nl j a->Nl j b->Cb e a->Cb f b->e+f+eB r j<4398046511104 ->
  FP 256 [bA ts,nA a,nA b] (nA (pT ts k a b)):=by
 induction k using Nat.strongRecOn
 rename_i k ih;intro j a b e f hj oq ha hb ca cb hs;have oo:=ha.len5 oz;have eY:=hb.len5 oz;refine am func256 ?_;refine gl ?_;refine gl ?_;refine Yb [3] [3] (fun(x y:List Rat)(e1 f1:Nat)=>[pP 1 (nA x),pP 2 (nA y)]) (fun _ _ _ _=>[]) (fun x y e1 f1=>y.length<=x.length/\Nl j x/\Nl j y/\Cb e1 x/\Cb f1 y/\e1+f1=e+f/\pT ts k a b=pT ts k x y) ?_ ?_
 ·intro K1 J1;refine gC (fun z=>?_) (fun z=>?_)
  ·have h1 : a.length < b.length := by have := z; simp only [aa, atf] at this; omega
   exact QG J1 b a f e ⟨by omega,hb,ha,cb,ca,by omega,H1 ts k a b h1⟩
  have h1:b.length<=a.length:=by have:=z;simp only[aa,decide_eq_false_iff_not]at this;omega
  exact QG J1 a b e f ⟨h1,ha,hb,ca,cb,rfl,rfl⟩
 rintro x y e1 f1 ⟨EE,hx,hy,cx,cy,hef,hp⟩;have hlx:=hx.len5 oz;have hly:=hy.len5 oz;have qx:∀q∈x,Qs q:=fun q hq=>cx.qs oz hq
 have qy:∀q∈y,Qs q:=fun q hq=>cy.qs oz hq
 rw[hp];refine gc (Ss x qx oz) ?_;refine bV (fun _=>(Ss y qy oz)) ?_;refine gC (fun t21=>?_) (fun t21=>?_)
 ·have h1:bF x=true\/bF y=true:=by
   have:=t21;cases hz:bF x
   ·rw[hz]at this;exact .inr this
   ·exact .inl rfl
  refine gR ?_;exact nk (by rw[Yy EE h1];exact Sub.nil _ _ _)
 have h1:¬(bF x=true\/bF y=true):=by
  have:=t21;cases hz:bF x
  ·rw[hz]at this;intro h;rcases h with h |h;cases h;(rw[show bF y=false from this]at h;cases h)
  ·rw[hz]at this;cases this
 refine gl ?_;refine gC (fun z=>?_) (fun z=>?_)
 ·have h2 : x.length = 1 := by have := z; simp only [aa, beq_iff_eq] at this; omega
  obtain⟨p,rfl⟩:=ap1.1 h2;have h3:y≠[]:=fun h=>h1 (.inr (by rw[h];rfl))
  obtain⟨q,rfl⟩:∃q,y=[q]:=ap1.1 (by have:=aqb.2 h3;simp at EE;omega);refine gi rfl ?_;refine gi rfl ?_;refine gc (LZ (rt p) (rt q) (qx p (by simp)).ok (qy q (by simp)).ok) ?_;refine gD ?_;refine ah ?_;rw[afr h1,bE,bE];rfl
 have h2:x.length≠1:=by have:=z;simp only[aa,beq_eq_false_iff_ne,ne_eq]at this;omega
 have h3:x≠[]:=fun h=>h1 (.inl (by rw[h];rfl))
 obtain⟨i,e8,mZ⟩:∃i,i+1<=j/\x.length=2^(i+1):=by
  rcases HO hx with h |h |h
  ·exact atk (apv.1 h) h3
  ·exact atk h h2
  ·exact h
 obtain⟨k',rfl⟩:∃k',k=k'+1:=⟨k-1,by omega⟩
 have lD:=aoe i;have xi:2^i<=32:=fj (b:=5) oz;have qo:2^(i+1)=2*2^i:=by rw[ao1];omega
 have gk:eB r (i+1)<=eB r j:=o8 r e8;have hee:eB r (i+1)=2*eB r i+r+2:=rfl;have n1:Nl i (x.take (2^i)):=.inr ⟨i,ar8 _,my mZ⟩;have n2:Nl i (x.drop (2^i)):=.inr ⟨i,ar8 _,nO mZ⟩;refine gl ?_;refine gs (nG (.tmp rfl) (.const _) oz (show _=((2^i:Nat):Int) by rw[tu oz,mZ,oO]) rfl) ?_;refine gs (fC (.tmp rfl) (.none _) (.some _ (.tmp rfl) oz) T62 rfl T44 rfl oz (by simp only[ar3];omega) rfl) ?_;refine gs (fC (.tmp rfl) (.some _ (.tmp rfl) oz) (.none _) T62 rfl T44 rfl (by simp only[ar3];omega) oz rfl) ?_;refine gD ?_ (9,0);refine gW (Wk.of (sl:=[pP 1 (nA x),pP 2 (nA y),pP 3 (.ptr 3 0),pP 7 (i64 ((2^i:Nat):Int)),pP 8 (nA (x.take (2^i))),pP 9 (nA (x.drop (2^i)))]) (hp:=[pP 3 (.box [.lst 1 (ts.map nA)])]) (.k (.k (.k (.k (.cons rfl (.of (wt x (2^i))) (.cons rfl (.of (yC x (2^i))) .nil)))))) (.k .nil)) ?_;refine gl ?_;refine gC (fun z=>?_) (fun z=>?_)
 ·have h4 : y.length <= 2 ^ i := by have := z; simp only [aa, atf] at this; omega
  have n3:Nl i y:=ZN hy h4;have s1:=iX ts m ht.1 i k' _ _ oz oz n1 n3;have s2:=iX ts m ht.1 i k' _ _ oz oz n2 n3;refine gc (ih k' oz i _ _ e1 f1 oz oz n1 n3 cx.take cy oz) ?_;refine gc (ih k' oz i _ _ e1 f1 oz oz n2 n3 cx.drop cy oz) ?_;refine gc (Ih _ _ (2^i) s1.1.le s2.1.le oz) ?_;refine gD ?_;refine ah ?_;rw[YZ mZ h4 h1]
 have h4:¬y.length<=2^i:=by have:=z;simp only[aa,decide_eq_false_iff_not]at this;omega
 have EO:=Wn hy h4 oz;have n3:Nl i (y.take (2^i)):=.inr ⟨i,ar8 _,my EO⟩;have n4:Nl i (y.drop (2^i)):=.inr ⟨i,ar8 _,nO EO⟩;have nd:=ht.1 i oz;have cd:=ht.2.cb i;have s1:=iX ts m ht.1 i k' _ _ oz oz n1 n3;have s2:=iX ts m ht.1 i k' _ _ oz oz n2 n4;have s3:=iX ts m ht.1 i k' _ _ oz oz s2.1 nd;have s4:=iX ts m ht.1 i k' _ _ oz oz n1 n4;have s5:=iX ts m ht.1 i k' _ _ oz oz n2 n3;have c1:=Cb.mul ht (k:=k') (show i<=m by omega) oz n1 n3 cx.take cy.take;have c2:=Cb.mul ht (k:=k') (show i<=m by omega) oz n2 n4 cx.drop cy.drop;have c3:=Cb.mul ht (k:=k') (show i<=m by omega) oz s2.1 nd c2 cd;have c4:=Cb.mul ht (k:=k') (show i<=m by omega) oz n1 n4 cx.take cy.drop;have c5:=Cb.mul ht (k:=k') (show i<=m by omega) oz n2 n3 cx.drop cy.take;have hpT:=ae7 (ts:=ts) (k:=k') mZ h4 EE h1;refine gs (fC (.tmp rfl) (.none _) (.some _ (.tmp rfl) oz) T62 rfl T44 rfl oz (by simp only[ar3];omega) rfl) ?_;refine gs (fC (.tmp rfl) (.some _ (.tmp rfl) oz) (.none _) T62 rfl T44 rfl (by simp only[ar3];omega) oz rfl) ?_;refine gD ?_ (12,0);refine gW (Wk.of (sl:=[pP 1 (nA x),pP 3 (.ptr 3 0),pP 7 (i64 ((2^i:Nat):Int)),pP 8 (nA (x.take (2^i))),pP 9 (nA (x.drop (2^i))),pP 10 (nA (y.take (2^i))),pP 11 (nA (y.drop (2^i)))]) (hp:=[pP 3 (.box [.lst 1 (ts.map nA)])]) (.k (.k (.k (.k (.k (.cons rfl (.of (wt y (2^i))) (.cons rfl (.of (yC y (2^i))) .nil))))))) (.k .nil)) ?_;refine gc (zr qA x oz) ?_;refine ga (show _=(i:Int) by rw[mZ,xP,eO oz];omega) ?_;refine gi (Fy (j:=i) oz) ?_;refine gD ?_;refine gc (ih k' oz i _ _ e1 f1 oz oz n1 n3 cx.take cy.take oz) ?_;refine gc (ih k' oz i _ _ e1 f1 oz oz n2 n4 cx.drop cy.drop oz) ?_;refine gc (ih k' oz i _ _ _ _ oz oz s2.1 nd c2 cd oz) ?_;refine gc (wj _ _ (fun q hq=>c1.qs oz hq) (fun q hq=>c3.qs oz hq) (by have:=s1.1.le;omega) (by have:=s3.1.le;omega)) ?_;refine gD ?_;refine gc (ih k' oz i _ _ e1 f1 oz oz n1 n4 cx.take cy.drop oz) ?_;refine gc (ih k' oz i _ _ e1 f1 oz oz n2 n3 cx.drop cy.take oz) ?_;refine gc (wj _ _ (fun q hq=>c4.qs oz hq) (fun q hq=>c5.qs oz hq) (by have:=s4.1.le;omega) (by have:=s5.1.le;omega)) ?_;refine gc (Ih _ _ (2^i) (by have:=s1.1.le;have:=s3.1.le;rw[jc];omega) (by have:=s4.1.le;have:=s5.1.le;rw[jc];omega) oz) ?_;refine gD ?_;refine ah ?_;rw[hpT]
theorem Je(ts:LL)(m r:Nat)(ht:oS ts m r)(hm:m<=5)(jf:m<=ts.length)(i:Nat)(a:List Rat)(e:Nat)(hi:i+1<=m)(bG:a.length=2^(i+1))(ca:Cb e a)(hs:4*e+3*eB r i+r+1<4398046511104) :
  FP 159 [bA ts,nA a] (nA (kr ts i a)):=by
 have lD:=aoe i;have xi:2^i<=32:=fj (b:=5) oz;have qo:2^(i+1)=2*2^i:=by rw[ao1];omega
 have n1:Nl i (a.take (2^i)):=.inr ⟨i,ar8 _,my bG⟩;have n2:Nl i (a.drop (2^i)):=.inr ⟨i,ar8 _,nO bG⟩;have nd:=ht.1 i oz;have cd:=ht.2.cb i;have s1:=iX ts m ht.1 i i _ _ oz oz n1 n1;have s2:=iX ts m ht.1 i i _ _ oz oz n2 n2;have s3:=iX ts m ht.1 i i _ _ oz oz s2.1 nd;have c1:=Cb.mul ht (k:=i) (show i<=m by omega) oz n1 n1 ca.take ca.take;have c2:=Cb.mul ht (k:=i) (show i<=m by omega) oz n2 n2 ca.drop ca.drop;have c3:=Cb.mul ht (k:=i) (show i<=m by omega) oz s2.1 nd c2 cd;refine am func159 ?_;refine gl ?_;refine gs (nG (.tmp rfl) (.const _) oz (show _=((2^i:Nat):Int) by rw[tu oz,bG,oO]) rfl) ?_;refine gs (fC (.tmp rfl) (.none _) (.some _ (.tmp rfl) oz) T62 rfl T44 rfl oz (by simp only[ar3];omega) rfl) ?_;refine gs (fC (.tmp rfl) (.some _ (.tmp rfl) oz) (.none _) T62 rfl T44 rfl (by simp only[ar3];omega) oz rfl) ?_;refine gD ?_ (3,0);refine gW (Wk.of (sl:=[pP 1 (nA a),pP 2 (.ptr 2 0),pP 6 (nA (a.take (2^i))),pP 7 (nA (a.drop (2^i)))]) (hp:=[pP 2 (.box [.lst 1 (ts.map nA)])]) (.k (.k (.cons rfl (.of (wt a (2^i))) (.cons rfl (.of (yC a (2^i))) .nil)))) (.k .nil)) ?_;refine gc (vM ts m r ht hm jf i i _ _ e e oz oz n1 n1 ca.take ca.take oz) ?_;refine gc (vM ts m r ht hm jf i i _ _ e e oz oz n2 n2 ca.drop ca.drop oz) ?_;refine gc (zr qA a oz) ?_;refine ga (show _=(i:Int) by rw[bG,xP,eO oz];omega) ?_;refine gi (Fy (j:=i) oz) ?_;refine gc (vM ts m r ht hm jf i i _ _ _ _ oz oz s2.1 nd c2 cd oz) ?_;refine gc (BX _ (fun q hq=>c3.qs oz hq) (by have:=s3.1.le;omega)) ?_;refine gc (wj _ _ (fun q hq=>c1.qs oz hq) (fun q hq=>c3.minus.qs oz hq) (by have:=s1.1.le;omega) (by have:=s3.1.le;rw[mR];omega)) ?_;refine gD ?_;refine ah ?_;rfl
theorem zc(ts:LL)(m r:Nat)(ht:oS ts m r)(hm:m<=5)(jf:m<=ts.length)(j:Nat):∀(a:List Rat)(e:Nat),j<=m->Nl j a->Cb e a->sB r j e<4398046511104 ->
  FP 69 [bA ts,nA a] (i64 (T.sgn (aI ts) j (ai j a))):=by
 induction j using Nat.strongRecOn
 rename_i j ih;intro a e hj ha ca hs;have hse:=xw r j e;have qa:∀q∈a,Qs q:=fun q hq=>ca.qs oz hq
 obtain⟨s,sG⟩:∃s,s=sh j (ai j a):=⟨_,rfl⟩
 have j6:ai j s=ai j a:=by rw[sG,di]
 have Al:Nl j s:=by rw[sG];exact iI j _
 have cs:Cb e s:=by rw[sG];exact ca.sh ha
 have JW:=Al.len5 oz;rw[<- j6];refine am func69 ?_;refine gc (sG▸oG a oz ha qa) ?_;refine gl ?_;refine gC (fun z=>?_) (fun z=>?_)
 ·have h1 : s=[] := apv.1 (by have := z;simp only[aa,beq_iff_eq]at this;omega);refine ah ?_;rw[h1,rz,T.sgn_zero];rfl
 have h1:s.length≠0:=by have:=z;simp only[aa,beq_eq_false_iff_ne,ne_eq]at this;omega
 refine gl ?_;refine gC (fun z=>?_) (fun z=>?_)
 ·have h2 : s.length = 1 := by have := z; simp only [aa, beq_iff_eq] at this; omega
  obtain⟨q,rfl⟩:=ap1.1 h2;refine gi rfl ?_;refine gc (C4 (rt q) (cs.qs oz (by simp:q∈[q])).ok) ?_;refine ah ?_;rw[tT,T.sgn_ofQ,bE]
 have h2:s.length≠1:=by have:=z;simp only[aa,beq_eq_false_iff_ne,ne_eq]at this;omega
 obtain⟨i,e8,fm⟩:∃i,i+1<=j/\s.length=2^(i+1):=by
  rcases HO Al with h |h |h
  ·exact atk h h1
  ·exact atk h h2
  ·exact h
 have lD:=aoe i;have xi:2^i<=32:=fj (b:=5) oz;have qo:2^(i+1)=2*2^i:=by rw[ao1];omega
 have n1:Nl i (s.take (2^i)):=.inr ⟨i,ar8 _,my fm⟩;have n2:Nl i (s.drop (2^i)):=.inr ⟨i,ar8 _,nO fm⟩;have nd:=ht.1 i oz;have cd:=ht.2.cb i;obtain⟨nn,dn,cn⟩:=C9 ht oz fm cs;have b1:sB r i (4*e+3*eB r i+r+1)<=sB r j e:=D8 r e e8;have b2:sB r i e<=sB r i (4*e+3*eB r i+r+1):=zD r i oz;have b3:sB r i r<=sB r i (4*e+3*eB r i+r+1):=zD r i oz;have b4:=xw r i (4*e+3*eB r i+r+1);have k1:=ih i oz (s.take (2^i)) e oz n1 cs.take oz;have k2:=ih i oz (s.drop (2^i)) e oz n2 cs.drop oz;have k3:=ih i oz _ r oz nd cd oz;have k4:=ih i oz _ _ oz nn cn oz
 have qG:T.sgn (aI ts) j (ai j s)=T.sgn3 (T.sgn (aI ts) i (ai i (s.take (2^i)))) (T.sgn (aI ts) i (ai i (s.drop (2^i)))) (T.sgn (aI ts) i (ai i (ts.getD i []))) (T.sgn (aI ts) i (ai i (kr ts i s))):=by
  rw[CW _ oz e8,dn];rfl
 have v1:=T.sgn_cases (aI ts) i (ai i (s.take (2^i)));have v4:=T.sgn_cases (aI ts) i (ai i (kr ts i s));refine gl ?_;refine gs (nG (.tmp rfl) (.const _) oz (show _=((2^i:Nat):Int) by rw[tu oz,fm,oO]) rfl) ?_;refine gs (fC (.tmp rfl) (.none _) (.some _ (.tmp rfl) oz) T62 rfl T44 rfl oz (by simp only[ar3];omega) rfl) ?_;refine gc (by have h9:=k1;rw[<- wt]at h9;exact h9) ?_;refine gs (fC (.tmp rfl) (.some _ (.tmp rfl) oz) (.none _) T62 rfl T44 rfl (by simp only[ar3];omega) oz rfl) ?_;refine gc (by have h9:=k2;rw[<- yC]at h9;exact h9) ?_;refine gD ?_;refine gc (zr qA s oz) ?_;refine ga (show _=(i:Int) by rw[fm,xP,eO oz];omega) ?_;refine gi (Fy (j:=i) oz) ?_;refine gc k3 ?_;refine gD ?_;refine gC (fun z=>?_) (fun z=>?_)
 ·have e1 : T.sgn (aI ts) i (ai i (ts.getD i [])) = 0 := by simpa [aa] using z
  refine ah ?_;rw[qG];unfold T.sgn3;rw[ate e1]
 have e1:¬T.sgn (aI ts) i (ai i (ts.getD i []))=0:=by simpa[aa]using z
 refine gC (fun z=>?_) (fun z=>?_)
 ·have e2:T.sgn (aI ts) i (ai i (s.take (2^i)))=T.sgn (aI ts) i (ai i (s.drop (2^i)))\/T.sgn (aI ts) i (ai i (s.drop (2^i)))=0:=ajz z;refine ah ?_;rw[qG];unfold T.sgn3;rw[atd e1,ate e2]
 have e2:¬(T.sgn (aI ts) i (ai i (s.take (2^i)))=T.sgn (aI ts) i (ai i (s.drop (2^i)))\/T.sgn (aI ts) i (ai i (s.drop (2^i)))=0):=ahu z;refine gC (fun z=>?_) (fun z=>?_)
 ·have e3 : T.sgn (aI ts) i (ai i (s.take (2 ^ i))) = 0 := by simpa [aa] using z
  refine ah ?_;rw[qG];unfold T.sgn3;rw[atd e1,atd e2,ate e3]
 have e3:¬T.sgn (aI ts) i (ai i (s.take (2^i)))=0:=by simpa[aa]using z
 refine gc (Je ts m r ht hm jf i s e oz fm cs oz) ?_;refine gc k4 ?_;refine ga (Ve v1 v4) ?_;refine gD ?_;refine ah ?_;rw[qG];unfold T.sgn3;rw[atd e1,atd e2,atd e3];rfl
theorem AH(rs:List (List Rt))(r:Nat)(h:TR rs r):FP 122 [dN rs] (bQ (bp rs)):=by
 have iM:=h.ll;have hr:=h.le;refine am func122 ?_;refine gl ?_;refine gC (fun z=>?_) (fun z=>?_)
 ·have h5 : 5 < rs.length := by have := z; simp only [aa, atf] at this; omega
  refine ah ?_;rw[ab3 h5];rfl
 have h5:rs.length<=5:=by have:=z;simp only[aa,decide_eq_false_iff_not]at this;omega
 refine gl ?_;refine aP [1,13,14] [1] (fun(k:Nat)=>[pP 15 (i64 k)]) (fun _=>[]) (fun k=>k<=rs.length/\∀j,j<k->lK rs j) (fun k=>rs.length-k) 0 ⟨ase _,fun j hj=>by omega⟩ ?_;rintro k ⟨hk,hj⟩ K1 J1;refine gC (fun z=>?_) (fun z=>?_)
 ·have af : k < rs.length := by simpa [aa] using z
  obtain⟨d,hd⟩:=aJ af;have JX:=ar1 hd;have Uq:=h.len d JX;refine gi (aw hd) ?_;refine gl ?_;refine gs (nQ (.const _) (.tmp rfl) oz (Gp oz) rfl) ?_;refine gC (fun z=>?_) (fun z=>?_)
  ·have h1 : d.length ≠ 2 ^ k := by have := z; simp only [aa, bne_iff_ne, ne_eq] at this; omega
   refine ah ?_;rw[Xt h5 hd hj h1];rfl
  have h1:d.length=2^k:=by have:=z;simp only[aa,bne_eq_false_iff_eq]at this;omega
  have htl:(rs.take k).length=k:=by simp;omega
  have Ur:=KL (rs.take k) d (h.ok d JX) Uq oz;rw[htl]at Ur;refine gs (fC (.tmp rfl) (.none _) (.some _ (.tmp rfl) oz) T57 rfl T62 rfl oz (by simp only[ar3];omega) rfl) ?_ (9,0);refine gW (Wk.of (sl:=[pP 1 (.ptr 1 0),pP 3 (i64 k),pP 4 (nR d),pP 5 (.ptr 5 0),pP 13 (.lst 1 (rs.map nR)),pP 14 (i64 rs.length),pP 15 (i64 k)]) (hp:=[pP 1 (.box [.lst 1 (rs.map nR)]),pP 5 (.box [.lst 1 ((rs.take k).map nR)])]) a6 (.k (.cons rfl (BlkSub.bL (.cons (.of (Zo nR rs k)) .nil) rfl) .nil))) ?_;refine gc Ur ?_;refine gC (fun z=>?_) (fun z=>?_)
  ·have h2:=gQ z;refine ah ?_;rw[VU h5 hd hj h1 h2]
  have h2:=gV z;have ED:=af3 (ts:=llq rs) (fun j oq=>(hj j oq).nl) h.rb;have hq:=Ip h2 (h.ok d JX);have ma:Cb r (lq d):=by have:=h.rb.cb k;rw[Co,ar2,hd]at this;exact this
  have sH:FP 69 [dN (rs.take k),nR d] (i64 (T.sgn (aI (llq rs)) k (ai k (lq d)))):=by
   have h9:=zc ((llq rs).take k) k r ED oz (by simp;omega) k (lq d) r (ar8 _) hq.2 ma (B8 (ar8 k) (by have:=h.three;omega) hr (by have:=pE k;omega));rw[T.sgn_congr k (fun j oq=>ae1 oq)]at h9;rw[V3 h.ok oz hj,hq.1,iV];rw[<- hq.1];exact h9
  refine gc sH ?_;refine gC (fun z=>?_) (fun z=>?_)
  ·have h3 : T.sgn (aI (llq rs)) k (ai k (lq d)) < 0 := by simpa [aa] using z
   refine ah ?_;rw[V6 h5 hd hj h1 h2 h3];rfl
  have h3:¬T.sgn (aI (llq rs)) k (ai k (lq d))<0:=by simpa[aa]using z
  refine ga aL ?_;exact aM J1 (k+1) ⟨af,fun j oq=>by rcases asb j k with h9 |h9;exact hj j h9;(have:j=k:=by omega);subst this;exact ad3 hd h1 h2 h3⟩
 have af:k=rs.length:=by have:rs.length<=k:=(by simpa[aa]using z);omega
 subst af;refine ah ?_;rw[amn h5 hj];rfl
theorem v6(rs:List (List Rt))(r:Nat)(h:TR rs r)(xs:List (List Rt))(hx:∀a∈xs,(∀x∈a,x.ok)/\a.length<=281474976710656)(hl:xs.length<=281474976710656):FP 68 [dN rs,.lst 1 (xs.map nR)] (bQ (cr rs xs)):=by
 refine am func68 ?_;refine gc (AH rs r h) ?_;refine gC (fun z=>?_) (fun z=>?_)
 ·have h1:=gQ z;refine ah ?_;rw[akm h1]
 have h1:=gV z;refine gl ?_;refine aP [2,14,15] [2] (fun(i:Nat)=>[pP 16 (i64 i)]) (fun _=>[]) (fun i=>i<=xs.length/\∀x∈xs.take i,cW rs.length x=0) (fun i=>xs.length-i) 0 ⟨ase _,fun x hx=>by simp at hx⟩ ?_;rintro i ⟨hi,hj⟩ K1 J1;refine gC (fun z=>?_) (fun z=>?_)
 ·have af : i < xs.length := by simpa [aa] using z
  obtain⟨a,ha⟩:=aJ af;have bm:=hx a (ar1 ha);refine gi (aw ha) ?_;refine gc (KL rs a bm.1 bm.2 h.ll) ?_;refine gC (fun z=>?_) (fun z=>?_)
  ·have h2:=gQ z;refine ah ?_;rw[SD h1 ha hj h2]
  have h2:=gV z;refine ga aL ?_;exact aM J1 (i+1) ⟨af,fun x hx=>by rw[fO ha]at hx;rcases ar9.1 hx with h9 |h9;exact hj x h9;(rw[aqf.1 h9];exact h2)⟩
 have af:i=xs.length:=by have:xs.length<=i:=(by simpa[aa]using z);omega
 subst af;rw[asK]at hj;refine ah ?_;rw[BP h1 hj];rfl
theorem Ts(rs:List (List Rt))(r:Nat)(h:TR rs r)(a:List Rt)(e:Nat)(ha:NR a e)(he:e<=lm rs.length) :
  FP 125 [dN rs,nR a] (.tup [nA (if cr rs [a]=0 then sh rs.length (T.neg rs.length (ai rs.length (lq a)))else[]),bQ (cr rs [a])]):=by
 have nh:=rF rs.length;refine am func125 ?_;refine gc (v6 rs r h [a] (fun x hx=>by rw[aqf.1 hx];exact⟨ha.ok,ha.len⟩) (by simp)) ?_;refine gC (fun z=>?_) (fun z=>?_) (st2:=(77777,0))
 ·have h1:=gQ z;refine gR ?_;exact ft (by rw[atd h1];exact Sub.tup (.cons (.nil _ _ _) (.cons (.refl _) .nil)))
 have h1:=gV z;obtain⟨h2,h3⟩:=wn h1;obtain⟨tw,_⟩:=jn h h2;obtain⟨e1,na⟩:=ha.num (h3 a (by simp));have h5:rs.length<=5:=by have:=tw.five;rwa [ar3]at this
 have hl:=na.len5 h5;have qa:∀q∈lq a,Qs q:=fun q hq=>ha.cb.qs oz hq
 have qm:∀q∈fB (lq a),Qs q:=fun q hq=>ha.cb.minus.qs oz hq
 have nm:=Ej na;refine gW (Wk.of (sl:=[pP 1 (nA (lq a)),pP 2 (.ptr 2 0),pP 6 (bQ (cr rs [a]))]) (hp:=[pP 2 (.box [.lst 1 (rs.map nR)])]) (.cons rfl (.of e1) (.k (.k .nil))) (.k .nil)) ?_;refine gc (BX _ qa oz) ?_;refine gc (oG _ h5 nm qm) ?_;refine bu ?_;rw[ate h1,h1,wa];rfl
theorem aey(rs:List (List Rt))(r:Nat)(h:TR rs r)(a b:List Rt)(e f:Nat)(ha:NR a e)(hb:NR b f)(he:e+f<=lm rs.length) :
  FP 336 [dN rs,nR a,nR b] (.tup [nA (if cr rs [a,b]=0 then sh rs.length (T.add rs.length (ai rs.length (lq a)) (ai rs.length (lq b)))else[]),bQ (cr rs [a,b])]):=by
 have nh:=rF rs.length;refine am func336 ?_;refine gc (v6 rs r h [a,b] (Dm ha hb) (by simp)) ?_;refine gC (fun z=>?_) (fun z=>?_) (st2:=(77777,0))
 ·have h1:=gQ z;refine gR ?_;exact ft (by rw[atd h1];exact Sub.tup (.cons (.nil _ _ _) (.cons (.refl _) .nil)))
 have h1:=gV z;obtain⟨h2,h3⟩:=wn h1;obtain⟨tw,e0⟩:=jn h h2;obtain⟨e1,na⟩:=ha.num (h3 a (by simp));obtain⟨e2,nb⟩:=hb.num (h3 b (by simp));have h5:rs.length<=5:=by have:=tw.five;rwa [ar3]at this
 have oo:=na.len5 h5;have eY:=nb.len5 h5;have qa:∀q∈lq a,Qs q:=fun q hq=>ha.cb.qs oz hq
 have qb:∀q∈lq b,Qs q:=fun q hq=>hb.cb.qs oz hq
 have qp:∀q∈ek (lq a) (lq b),Qs q:=fun q hq=>(ha.cb.plus hb.cb).qs oz hq
 have np:=A0 na nb;refine gW (Wk.of (sl:=[pP 1 (nA (lq a)),pP 2 (nA (lq b)),pP 3 (.ptr 3 0),pP 8 (bQ (cr rs [a,b]))]) (hp:=[pP 3 (.box [.lst 1 (rs.map nR)])]) (.cons rfl (.of e1) (.cons rfl (.of e2) (.k (.k .nil)))) (.k .nil)) ?_;refine gc (wj _ _ qa qb oz oz) ?_;refine gc (oG _ h5 np qp) ?_;refine bu ?_;rw[ate h1,h1,qj];rfl
theorem VP(rs:List (List Rt))(r:Nat)(h:TR rs r)(a b:List Rt)(e f:Nat)(ha:NR a e)(hb:NR b f)(he:e+f<=lm rs.length) :
  FP 154 [dN rs,nR a,nR b] (.tup [nA (if cr rs [a,b]=0 then sh rs.length (T.add rs.length (ai rs.length (lq a)) (T.neg rs.length (ai rs.length (lq b))))else[]),bQ (cr rs [a,b])]):=by
 have nh:=rF rs.length;refine am func154 ?_;refine gc (v6 rs r h [a,b] (Dm ha hb) (by simp)) ?_;refine gC (fun z=>?_) (fun z=>?_) (st2:=(77777,0))
 ·have h1:=gQ z;refine gR ?_;exact ft (by rw[atd h1];exact Sub.tup (.cons (.nil _ _ _) (.cons (.refl _) .nil)))
 have h1:=gV z;obtain⟨h2,h3⟩:=wn h1;obtain⟨tw,e0⟩:=jn h h2;obtain⟨e1,na⟩:=ha.num (h3 a (by simp));obtain⟨e2,nb⟩:=hb.num (h3 b (by simp));have h5:rs.length<=5:=by have:=tw.five;rwa [ar3]at this
 have oo:=na.len5 h5;have eY:=nb.len5 h5;have qa:∀q∈lq a,Qs q:=fun q hq=>ha.cb.qs oz hq
 have qb:∀q∈lq b,Qs q:=fun q hq=>hb.cb.qs oz hq
 have qm:∀q∈fB (lq b),Qs q:=fun q hq=>hb.cb.minus.qs oz hq
 have qp:∀q∈ek (lq a) (fB (lq b)),Qs q:=fun q hq=>(ha.cb.plus hb.cb.minus).qs oz hq
 have np:=A0 na (Ej nb);refine gW (Wk.of (sl:=[pP 1 (nA (lq a)),pP 2 (nA (lq b)),pP 3 (.ptr 3 0),pP 8 (bQ (cr rs [a,b]))]) (hp:=[pP 3 (.box [.lst 1 (rs.map nR)])]) (.cons rfl (.of e1) (.cons rfl (.of e2) (.k (.k .nil)))) (.k .nil)) ?_;refine gc (BX _ qb oz) ?_;refine gc (wj _ _ qa qm oz (by rw[mR];omega)) ?_;refine gc (oG _ h5 np qp) ?_;refine bu ?_;rw[ate h1,h1,qj,wa];rfl
theorem acf(rs:List (List Rt))(r:Nat)(h:TR rs r)(a b:List Rt)(e f:Nat)(ha:NR a e)(hb:NR b f)(he:e+f<=lm rs.length) :
  FP 155 [dN rs,nR a,nR b] (.tup [nA (if cr rs [a,b]=0 then sh rs.length (T.mul (aI (llq rs)) rs.length (ai rs.length (lq a)) (ai rs.length (lq b)))else[]),bQ (cr rs [a,b])]):=by
 have hr:=h.le;have nh:=rF rs.length;refine am func155 ?_;refine gc (v6 rs r h [a,b] (Dm ha hb) (by simp)) ?_;refine gC (fun z=>?_) (fun z=>?_) (st2:=(77777,0))
 ·have h1:=gQ z;refine gR ?_;exact ft (by rw[atd h1];exact Sub.tup (.cons (.nil _ _ _) (.cons (.refl _) .nil)))
 have h1:=gV z;obtain⟨h2,h3⟩:=wn h1;obtain⟨tw,e0⟩:=jn h h2;obtain⟨e1,na⟩:=ha.num (h3 a (by simp));obtain⟨e2,nb⟩:=hb.num (h3 b (by simp));have cm:(llq rs).length=rs.length:=ar3 _;have h5:rs.length<=5:=by have:=tw.five;omega
 have oo:=na.len5 h5;have eY:=nb.len5 h5;have uF:=tw.ok;rw[cm]at uF;have hE:=ai8 r h5;have np:=iX (llq rs) rs.length uF.1 rs.length rs.length _ _ (ar8 _) (ar8 _) na nb;have cp:=Cb.mul uF (k:=rs.length) (ar8 rs.length) (ar8 _) na nb ha.cb hb.cb;have bZ:=vM (llq rs) rs.length r uF h5 oz rs.length rs.length _ _ e f (ar8 _) (ar8 _) na nb ha.cb hb.cb oz;refine gW (Wk.of (sl:=[pP 1 (nA (lq a)),pP 2 (nA (lq b)),pP 3 (.ptr 3 0),pP 8 (bQ (cr rs [a,b]))]) (hp:=[pP 3 (.box [.lst 1 ((llq rs).map nA)])]) (.cons rfl (.of e1) (.cons rfl (.of e2) (.k (.k .nil)))) (.cons rfl (BlkSub.bL (.cons (.of (Gl e0)) .nil) rfl) .nil)) ?_;refine gc bZ ?_;refine gc (oG _ h5 np.1 (fun q hq=>cp.qs oz hq)) ?_;refine bu ?_;rw[ate h1,h1,np.2];rfl
theorem aac(rs:List (List Rt))(r:Nat)(h:TR rs r)(a:List Rt)(e:Nat)(ha:NR a e)(he:e<=lm rs.length) :
  FP 22 [dN rs,nR a] (.tup [i64 (if cr rs [a]=0 then T.sgn (aI (llq rs)) rs.length (ai rs.length (lq a))else 0),bQ (cr rs [a])]):=by
 have hr:=h.le;have nh:=rF rs.length;refine am func22 ?_;refine gc (v6 rs r h [a] (fun x hx=>by rw[aqf.1 hx];exact⟨ha.ok,ha.len⟩) (by simp)) ?_;refine gC (fun z=>?_) (fun z=>?_) (st2:=(77777,0))
 ·have h1:=gQ z;refine bu ?_;rw[atd h1];rfl
 have h1:=gV z;obtain⟨h2,h3⟩:=wn h1;obtain⟨tw,e0⟩:=jn h h2;obtain⟨e1,na⟩:=ha.num (h3 a (by simp));have cm:(llq rs).length=rs.length:=ar3 _;have h5:rs.length<=5:=by have:=tw.five;omega
 have uF:=tw.ok;rw[cm]at uF;have sH:=zc (llq rs) rs.length r uF h5 oz rs.length _ _ (ar8 _) na ha.cb (B8 (ar8 rs.length) (by have:=tw.three;omega) hr oz);refine gW (Wk.of (sl:=[pP 1 (nA (lq a)),pP 2 (.ptr 2 0),pP 6 (bQ (cr rs [a]))]) (hp:=[pP 2 (.box [.lst 1 ((llq rs).map nA)])]) (.cons rfl (.of e1) (.k (.k .nil))) (.cons rfl (BlkSub.bL (.cons (.of (Gl e0)) .nil) rfl) .nil)) ?_;refine gc sH ?_;refine bu ?_;rw[ate h1,h1];rfl
theorem Ys(x:Rt)(hx:x.ok)(hs:Qs x.q):FP 18 [x.av] (nA (sh 0 (x.q:Rat))):=by
 have jI:=wX x (rt 0) hx Qs.zero.ok;rw[Dq]at jI;refine am func18 ?_;refine gc (Con.sA (.cons (.refl _) (.cons l6 .nil)) jI) ?_;refine gc (oG (n:=0) [x.q] oz (.inr ⟨0,ar8 _,rfl⟩) (fun q hq=>by rw[aqf.1 hq];exact hs)) ?_;refine ah ?_;rfl
theorem rU{p q:Rat}(hp:Qs p)(hq:Qs q):FP 45 [qA p,qA q] (qA (p+q)):=by
 have h:=wX (rt p) (rt q) hp.ok hq.ok;rw[bE,bE]at h;exact h
theorem oW{p q:Rat}(hp:Qs p)(hq:Qs q):FP 172 [qA p,qA q] (qA (p-q)):=by
 have h:=ami (rt p) (rt q) hp.ok hq.ok;rw[bE,bE]at h;exact h
theorem iG{p q:Rat}(hp:Qs p)(hq:Qs q):FP 71 [qA p,qA q] (qA (p*q)):=by
 have h:=LZ (rt p) (rt q) hp.ok hq.ok;rw[bE,bE]at h;exact h
theorem HW{p q:Rat}(hp:Qs p)(hq:Qs q):FP 389 [qA p,qA q] (.tup [qA (p/q),bQ (if q=0 then 8 else 0)]):=by
 have h:=OK (rt p) (rt q) hp.ok hq.ok;rw[bE,bE]at h;exact h
theorem yy{p:Rat}(hp:Qs p):FP 279 [qA p] (qA (-p)):=by
 have h:=H8 (rt p) hp.ok;rw[bE]at h;exact h
theorem wR{p:Rat}(hp:Qs p):FP 24 [qA p] (i64 (a9 p)):=by
 have h:=C4 (rt p) hp.ok;rw[bE]at h;exact h
theorem Yj{p q:Rat}(hp:Qs p)(hq:Qs q):FP 352 [qA p,qA q] (i64 (a9 (p-q))):=by
 have h:=I0 (rt p) (rt q) hp.ok hq.ok;rw[bE,bE]at h;exact h
theorem Rm(x:Tn)(hx:x.t.ok):FP 37 [x.av] (bQ x.err):=by
 refine am func37 ?_;refine gc (sW x.t hx) ?_;refine bV (fun _=>(C4 x.t hx)) ?_;refine gC (fun z=>?_) (fun z=>?_)
 ·have h0:=Tn.err_yes z;refine ah ?_;rw[h0];rfl
 have h0:=Tn.err_no z;refine ah ?_;rw[h0];rfl
theorem Lu{p q:Rat}(hp:Qs p)(hq:Qs q):FP 333 [qA p,qA q] (qA (p/q)):=by
 refine am func333 ?_;refine gc (HW hp hq) ?_;refine gC (fun t14=>?_) (fun t14=>?_)
 ·have h0:q=0:=by
   have:=gQ t14
   by_cases h:q=0
   ·exact h
   ·rw[atd h]at this;exact atk rfl this
  refine gR ?_;exact nk (by rw[h0,aez];exact l6)
 refine ah ?_;rfl
theorem L1(half:Bool){t:Rat}{e:Nat}(ht:Qb e t)(he:e<=1000000):FP 227 [Tn.av ⟨rt t,half⟩] (.tup [qA (ce half t),qA (b8 half t)]):=by
 have qt:Qs t:=ht.qs oz;have m2:=ht.mul ht;have one:Qb 1 (((1:Int):Rat)):=Qb.one;have d:=one.add m2;refine am func227 ?_;refine gC (fun z=>?_) (fun z=>?_)
 ·have h0:half=true:=z;refine gc (kW (-1) oz) ?_;refine gR ?_;exact ft (by subst h0;exact Sub.tup (.cons (.refl _) (.cons l6 .nil)))
 have h0:half=false:=z;refine gc (kW 1 oz) ?_;refine gc (iG qt qt) ?_;refine gD ?_;refine gc (rU (one.qs oz) (m2.qs oz)) ?_;refine gc (oW (one.qs oz) (m2.qs oz)) ?_;refine gc (Lu ((one.sub m2).qs oz) (d.qs oz)) ?_;refine gc (rU qt qt) ?_;refine gc (Lu ((ht.add ht).qs oz) (d.qs oz)) ?_;refine gD ?_;refine bu ?_;subst h0;rfl
theorem agz(x:Tn)(hx:x.t.ok){e:Nat}(hq:Qb e x.t.q)(he:e<=1000000):FP 126 [x.av] (.tup [qA (if x.err=0 then ce x.half x.t.q else 0),bQ x.err]):=by
 refine am func126 ?_;refine gc (Rm x hx) ?_;refine gC (fun z=>?_) (fun z=>?_)
 ·have h1:=gQ z;refine gR ?_;exact ft (by rw[atd h1];exact Sub.tup (.cons l6 (.cons (.refl _) .nil)))
 have h1:=gV z;have hd:=L1 x.half hq he;rw[<- Rt.eq_rt hx (Tn.ok_valid h1)]at hd;refine gc hd ?_;refine bu ?_;rw[ate h1,h1];rfl
theorem ZX(x:Tn)(hx:x.t.ok){e:Nat}(hq:Qb e x.t.q)(he:e<=1000000):FP 127 [x.av] (.tup [qA (if x.err=0 then b8 x.half x.t.q else 0),bQ x.err]):=by
 refine am func127 ?_;refine gc (Rm x hx) ?_;refine gC (fun z=>?_) (fun z=>?_)
 ·have h1:=gQ z;refine gR ?_;exact ft (by rw[atd h1];exact Sub.tup (.cons l6 (.cons (.refl _) .nil)))
 have h1:=gV z;have hd:=L1 x.half hq he;rw[<- Rt.eq_rt hx (Tn.ok_valid h1)]at hd;refine gc hd ?_;refine bu ?_;rw[ate h1,h1];rfl
theorem aam(x:Tn)(hx:x.t.ok):FP 40 [x.av] (i64 x.err):=by
 refine am func40 ?_;refine gc (zn x.t hx) ?_;refine bV (fun _=>(HU x.t hx)) ?_;refine gC (fun z=>?_) (fun z=>?_)
 ·have h0:=Tn.err_yes z;refine ah ?_;rw[h0];rfl
 have h0:=Tn.err_no z;refine ah ?_;rw[h0];rfl
theorem PC{ts:LL}{r e f:Nat}(tw:Tw ts r){a b:List Rat}(ha:Nm ts.length e a)(hb:Nm ts.length f b)(he:e+f<=lm ts.length) :
  FP 336 [bA ts,nA a,nA b] (.tup [nA (sh ts.length (T.add ts.length (ai ts.length a) (ai ts.length b))),.v .nilIface]):=by
 have h:=aey (ts.map (List.map rt)) r tw.tr (a.map rt) (b.map rt) e f (ha.rt oz) (hb.rt oz) (by rw[ar3];exact he);have h0:cr (ts.map (List.map rt)) [a.map rt,b.map rt]=0:=Dk tw ha hb;rw[h0,ate rfl,sa,iV,iV,kQ,kQ,ar3]at h;exact h
theorem CJ{ts:LL}{r e f:Nat}(tw:Tw ts r){a b:List Rat}(ha:Nm ts.length e a)(hb:Nm ts.length f b)(he:e+f<=lm ts.length) :
  FP 154 [bA ts,nA a,nA b] (.tup [nA (sh ts.length (T.add ts.length (ai ts.length a) (T.neg ts.length (ai ts.length b)))),.v .nilIface]):=by
 have h:=VP (ts.map (List.map rt)) r tw.tr (a.map rt) (b.map rt) e f (ha.rt oz) (hb.rt oz) (by rw[ar3];exact he);have h0:cr (ts.map (List.map rt)) [a.map rt,b.map rt]=0:=Dk tw ha hb;rw[h0,ate rfl,sa,iV,iV,kQ,kQ,ar3]at h;exact h
theorem Ql{ts:LL}{r e f:Nat}(tw:Tw ts r){a b:List Rat}(ha:Nm ts.length e a)(hb:Nm ts.length f b)(he:e+f<=lm ts.length) :
  FP 155 [bA ts,nA a,nA b] (.tup [nA (sh ts.length (T.mul (aI ts) ts.length (ai ts.length a) (ai ts.length b))),.v .nilIface]):=by
 have h:=acf (ts.map (List.map rt)) r tw.tr (a.map rt) (b.map rt) e f (ha.rt oz) (hb.rt oz) (by rw[ar3];exact he);have h0:cr (ts.map (List.map rt)) [a.map rt,b.map rt]=0:=Dk tw ha hb;rw[h0,ate rfl,sa,iV,iV,yD,kQ,kQ,ar3]at h;exact h
theorem Sy{ts:LL}{r e:Nat}(tw:Tw ts r){a:List Rat}(ha:Nm ts.length e a)(he:e<=lm ts.length) :
  FP 22 [bA ts,nA a] (.tup [i64 (T.sgn (aI ts) ts.length (ai ts.length a)),.v .nilIface]):=by
 have h:=aac (ts.map (List.map rt)) r tw.tr (a.map rt) e (ha.rt he) (by rw[ar3];exact he);have h0:cr (ts.map (List.map rt)) [a.map rt]=0:=Oz tw ha;rw[h0,ate rfl,sa,iV,yD,kQ,ar3]at h;exact h
theorem FX{ts:LL}{r e:Nat}(tw:Tw ts r){a:List Rat}(ha:Nm ts.length e a)(he:e<=lm ts.length) :
  FP 125 [bA ts,nA a] (.tup [nA (sh ts.length (T.neg ts.length (ai ts.length a))),.v .nilIface]):=by
 have h:=Ts (ts.map (List.map rt)) r tw.tr (a.map rt) e (ha.rt he) (by rw[ar3];exact he);have h0:cr (ts.map (List.map rt)) [a.map rt]=0:=Oz tw ha;rw[h0,ate rfl,sa,iV,kQ,ar3]at h;exact h
theorem SH{ts:LL}{r:Nat}(tw:Tw ts r):FP 122 [bA ts] (.v .nilIface):=by
 have h:=AH (ts.map (List.map rt)) r tw.tr;rw[tw.chk,sa]at h;exact h
theorem sT{q:Rat}(h:Qs q):FP 18 [qA q] (nA (sh 0 (q:Rat))):=by
 have h1:=Ys (rt q) h.ok (by rw[bE];exact h);rw[bE]at h1;exact h1
theorem FK{ts:LL}{r e:Nat}(tw:Tw ts r)(ls:LL)(hl:∀l∈ls,Nm ts.length e l)(he:e<=lm ts.length)(hn:ls.length<=1000):FP 248 [bA ts,.lst 1 (ls.map nA)] (.v .nilIface):=by
 refine am func248 ?_;refine gc (SH tw) ?_;refine gf ?_;refine gl ?_;refine aP [2,15,16] [2] (fun(i:Nat)=>[pP 17 (i64 i)]) (fun _=>[]) (fun i=>i<=ls.length) (fun i=>ls.length-i) 0 (ase _) ?_;rintro i hi K1 J1;refine gC (fun z=>?_) (fun z=>?_)
 ·have af : i < ls.length := by simpa [aa] using z
  obtain⟨l,iM⟩:=aJ af;have bm:=hl l (ar1 iM);refine gi (aw iM) ?_;refine gc (FX tw bm he) ?_;refine gf ?_;refine ga aL ?_;exact aM J1 (i+1) af
 have af:i=ls.length:=by have:ls.length<=i:=(by simpa[aa]using z);omega
 refine ah ?_
 first |rfl |(simp;done)
theorem ye{ts:LL}{r e:Nat}(tw:Tw ts r)(ps:List (List Rat×List Rat))(hl:∀p∈ps,Nm ts.length e p.1/\Nm ts.length e p.2)(he:e<=lm ts.length)(hn:ps.length<=500):FP 149 [bA ts,.lst 2 (ps.map fun p=>aQ p.1 p.2)] (.v .nilIface):=by
 refine am func149 ?_;refine gl ?_;refine gW (Wk.virt 900 1 rfl) ?_;refine aP [2,8,9] [2] (fun(i:Nat)=>[pP 5 (.ms 900 1 0 (2*i)),pP 10 (i64 i)]) (fun i=>[pP 900 (.row 1 ((kE (ps.take i)).map nA))]) (fun i=>i<=ps.length) (fun i=>ps.length-i) 0 (ase _) ?_;rintro i hi K1 J1;refine gC (fun z=>?_) (fun z=>?_) (st2:=(7,0))
 ·have af : i < ps.length := by simpa [aa] using z
  obtain⟨p,hp⟩:=aJ af;have Ae:(kE (ps.take i)).length=2*i:=by rw[Bl,aso];omega
  refine gi (aw hp) ?_;refine gs (eQ (.tmp rfl) rfl (by rw[ar3,Ae]) (.tmp rfl) T57 rfl T62 rfl rfl (by simp;omega) rfl rfl) ?_ (6,0);refine gW (Wk.of (sl:=[pP 2 (.ptr 2 0),pP 5 (.ms 20 1 0 (2*i+2)),pP 8 (.lst 2 (ps.map fun p=>aQ p.1 p.2)),pP 9 (i64 ps.length),pP 10 (i64 i)]) (hp:=[pP 2 (.box [.lst 1 (ts.map nA)]),pP 20 (.row 1 ((kE (ps.take (i+1))).map nA))]) a6 (.k (.cons rfl (.of (by rw[fO hp,SN,asz];rfl)) .nil))) ?_ (6,0);refine gW (Wk.rk (k:=20) (d:=900) rfl rfl) ?_;refine ga aL ?_;exact aM J1 (i+1) af
 have af:i=ps.length:=by have:ps.length<=i:=(by simpa[aa]using z);omega
 subst af;refine gW ((Wk.freeze (k:=900) rfl).trans<|Wk.of (sl:=[pP 2 (.ptr 2 0),pP 5 (.lst 1 ((kE ps).map nA))]) (hp:=[pP 2 (.box [.lst 1 (ts.map nA)])]) (.k (.cons rfl (.of (by rw[cq (by rw[ar3,Bl,aso];omega),asK])) .nil)) (.k .nil)) ?_;refine gc (FK tw (kE ps) (Qc hl) he (by rw[Bl];omega)) ?_;refine ah ?_
 first |rfl |(simp;done)
theorem Id(R:List AV)(a:List Rat):Con prog 338 [.ptr 1000 0,nA a,.v .nilIface] [pP 1000 (.box [.lst 1 R,.v .nilIface])] (nA a) [pP 1000 (.box [.lst 1 R,.v .nilIface])]:=by
 refine gF func338 (fun k z h=>bD h) ?_;refine gC (fun y=>?_) (fun y=>?_) (st2:=(77777,0))
 ·refine gR ?_;exact aD.keep (bt rfl)
 cases y
theorem DE{ts:LL}{r e f:Nat}(tw:Tw ts r){a b:List Rat}(ha:Nm ts.length e a)(hb:Nm ts.length f b)(he:e+f<=lm ts.length) :
  Con prog 257 [.ptr 1000 0,nA a,nA b] [pP 1000 (jT ts)] (nA (sh ts.length (T.add ts.length (ai ts.length a) (ai ts.length b)))) [pP 1000 (jT ts)]:=by
 refine gF func257 (fun k z h=>bD h) ?_;refine gc (PC tw ha hb he) ?_;refine gt (aG (Id _ _) (aB rfl rfl rfl) aK rfl rfl) ?_;refine gR ?_;exact aD.keep (bt rfl)
theorem Bj{ts:LL}{r e f:Nat}(tw:Tw ts r){a b:List Rat}(ha:Nm ts.length e a)(hb:Nm ts.length f b)(he:e+f<=lm ts.length) :
  Con prog 253 [.ptr 1000 0,nA a,nA b] [pP 1000 (jT ts)] (nA (sh ts.length (T.add ts.length (ai ts.length a) (T.neg ts.length (ai ts.length b))))) [pP 1000 (jT ts)]:=by
 refine gF func253 (fun k z h=>bD h) ?_;refine gc (CJ tw ha hb he) ?_;refine gt (aG (Id _ _) (aB rfl rfl rfl) aK rfl rfl) ?_;refine gR ?_;exact aD.keep (bt rfl)
theorem rD{ts:LL}{r e f:Nat}(tw:Tw ts r){a b:List Rat}(ha:Nm ts.length e a)(hb:Nm ts.length f b)(he:e+f<=lm ts.length) :
  Con prog 249 [.ptr 1000 0,nA a,nA b] [pP 1000 (jT ts)] (nA (sh ts.length (T.mul (aI ts) ts.length (ai ts.length a) (ai ts.length b)))) [pP 1000 (jT ts)]:=by
 refine gF func249 (fun k z h=>bD h) ?_;refine gc (Ql tw ha hb he) ?_;refine gt (aG (Id _ _) (aB rfl rfl rfl) aK rfl rfl) ?_;refine gR ?_;exact aD.keep (bt rfl)
theorem Kr{ts:LL}{r e f:Nat}(tw:Tw ts r){a b c d:List Rat}(ha:Nm ts.length e a)(hb:Nm ts.length e b)(hc:Nm ts.length f c)(hd:Nm ts.length f d)(he:2*(e+f+kB r ts.length)<=lm ts.length) :
  Con prog 156 [.ptr 1000 0,aQ a b,aQ c d] [pP 1000 (jT ts)] (nA (sh ts.length (wd ts (ai ts.length a) (ai ts.length b) (ai ts.length c) (ai ts.length d)))) [pP 1000 (jT ts)]:=by
 refine gF func156 (fun k z h=>bD h) ?_;refine gt (aG (rD tw ha hc oz) (aB rfl rfl rfl) aK rfl rfl) ?_;refine gt (aG (rD tw hb hd oz) (aB rfl rfl rfl) aK rfl rfl) ?_;refine gt (aG (HF▸DE tw (ha.mul tw rfl hc) (hb.mul tw rfl hd) oz) (aB rfl rfl rfl) aK rfl rfl) ?_;refine gD ?_;refine gR ?_;exact aD.keep (bt rfl)
theorem al3{ts:LL}{r e f:Nat}(tw:Tw ts r){a b c d:List Rat}(ha:Nm ts.length e a)(hb:Nm ts.length e b)(hc:Nm ts.length f c)(hd:Nm ts.length f d)(he:2*(e+f+kB r ts.length)<=lm ts.length) :
  Con prog 153 [.ptr 1000 0,aQ a b,aQ c d] [pP 1000 (jT ts)] (nA (sh ts.length (vq ts (ai ts.length a) (ai ts.length b) (ai ts.length c) (ai ts.length d)))) [pP 1000 (jT ts)]:=by
 refine gF func153 (fun k z h=>bD h) ?_;refine gt (aG (rD tw ha hd oz) (aB rfl rfl rfl) aK rfl rfl) ?_;refine gt (aG (rD tw hb hc oz) (aB rfl rfl rfl) aK rfl rfl) ?_;refine gt (aG (Ic▸Bj tw (ha.mul tw rfl hd) (hb.mul tw rfl hc) oz) (aB rfl rfl rfl) aK rfl rfl) ?_;refine gD ?_;refine gR ?_;exact aD.keep (bt rfl)
def T.inv(r:(k:Nat)->T k):(k:Nat)->T k->T k
  |0,q=>(1:Rat)/q
  |k+1,x =>
    if T.isZ k x.2=true then(T.inv r k x.1,T.zero k)
    else if T.sgn r k (T.norm r k x)=0 then(T.inv r k (T.add k x.1 x.1),T.zero k)
    else(T.mul r k x.1 (T.inv r k (T.norm r k x)),T.mul r k (T.neg k x.2) (T.inv r k (T.norm r k x)))
theorem T.inv_low(r:(k:Nat)->T k)(k:Nat)(x:T k):T.inv r (k+1) (x,T.zero k)=(T.inv r k x,T.zero k):=by
 have h:=(T.isZ_iff k (T.zero k)).2 rfl
 conv=>lhs;unfold T.inv
 simp only[ate h]
theorem BC(r:(k:Nat)->T k){i j:Nat}{s L:List Rat}(hs:s.length<=2^i)(hL:L.length<=2^i)(h:ai i L=T.inv r i (ai i s))(e8:i<=j):ai j L=T.inv r j (ai j s):=by
  induction j with
  | zero => have : i = 0 := by omega
            subst this;exact h
  |succ j ih =>
    by_cases h':i=j+1
    · rw[<- h'];exact h
    · rw[mH (asv hs (fj oz)),mH (asv hL (fj oz)),T.inv_low,ih oz]
def iB(r:Nat):Nat->Nat->Nat
  |0,e=>e
  |j+1,e=>e+iB r j (4*e+3*eB r j+r+1)+eB r (j+1)
theorem Hv(r:Nat):∀j e,e<=iB r j e
 |0,e=>ar8 _
 |j+1,e=>by simp only[iB];omega
theorem A8(r:Nat):∀j {e f:Nat},e<=f->iB r j e<=iB r j f
 |0,e,f,h=>h
 |j+1,e,f,h=>by
  have:=A8 r j (e:=4*e+3*eB r j+r+1) (f:=4*f+3*eB r j+r+1) oz;simp only[iB];omega
theorem YK(r j e:Nat):iB r j e<=iB r (j+1) e:=by
 have:=A8 r j (e:=e) (f:=4*e+3*eB r j+r+1) oz;simp only[iB];omega
theorem GQ(r e:Nat){i j:Nat}(h:i<=j):iB r i e<=iB r j e:=by
  induction j with
  | zero => have : i = 0 := by omega
            subst this;exact ar8 _
  |succ j ih =>
    by_cases e8:i=j+1
    · rw[e8];exact ar8 _
    · exact asv (ih oz) (YK r j e)
theorem Vi{r:(k:Nat)->T k}{n:Nat}(h:Sg (E r n) (sg r n))(hd:0<=sg r n (bB r n)){x y:E r n}(hz:sg r (n+1) (eU x y)≠0)(hN:sg r n (aU x y)=0):sg r n (x+x)≠0:=by
 have hx:sg r n x≠0:=by
  intro hx;rw[oR,hN,hx]at hz;have h1:sg r n (x*x)=0:=by rw[h.mul,hx];simp
  have h2:=h.zadd (y:=-(y*y*bB r n)) h1;unfold aU at hN;rw[h2,h.neg,h.mul,h.mul]at hN;unfold T.sgn3 at hz;have c1:=h.cs y;have c2:=h.cs (bB r n);rcases c1 with e |e |e <;> rcases c2 with e' |e' |e' <;> rw[e,e']at hN <;> rw[e,e']at hz <;> first |omega |(simp at hz) |(simp at hN)
 rcases h.cs x with e |e |e
 ·have := h.padd (x := -x) (y := -x) (by rw[h.neg,e];rfl) (by rw[h.neg,e];decide);rw[show -x+-x=-(x+x) by grind,h.neg]at this;omega
 ·exact atk e hx
 ·have:=h.padd (x:=x) (y:=x) e oz;omega
theorem Cb.inv1{e:Nat}{q:Rat}(h:Cb e [q])(hq:q≠0):Cb e [(1:Rat)/q]:=by
 obtain⟨D,N,⟨h0,h1⟩,h2,h3⟩:=h;obtain⟨n,hn,hl⟩:=h1 q (by simp)
 have hD:((D:Int):Rat)≠0:=by
  intro h9;have:(D:Int)=0:=aqy.1 h9;omega
 have kA:n≠0:=by
  rintro rfl;rw[show((0:Int):Rat)=0 from rfl]at hn;rcases Rat.mul_eq_zero.1 hn with h9 |h9
  ·exact hq h9
  ·exact hD h9
 have hnq:((n:Int):Rat)≠0:=fun h9=>kA (aqy.1 h9)
 refine⟨n.natAbs,D,⟨by omega,?_⟩,asv hl h3,h2⟩;intro x hx;rw[aqf.1 hx];have key:(1:Rat)/q*(n:Rat)=((D:Int):Rat):=by rw[<- hn];grind
 rcases Int.natAbs_eq n with e9 |e9
 ·refine⟨D,?_,by simp⟩;rw[<- e9];exact key
 ·refine ⟨-(D : Int), ?_, by simp⟩;rw [Rat.intCast_neg,<- key]
  conv=>rhs;rw[e9]
  rw[Rat.intCast_neg];grind
theorem Pu{e n:Nat}{s:List Rat}(h:Cb e s):Cb e (ib (s.take n) (fB (s.drop n)) n):=by
 obtain⟨D,N,h1,h2,h3⟩:=h;exact⟨D,N,(h1.sub (fun q hq=>apg hq)).join (h1.sub (fun q hq=>ap8 hq)).minus,h2,h3⟩
theorem RV:∀{j i:Nat}{x:T j},(sh j x).length=2^(i+1)->i+1<=j->T.isZ i (ai i ((sh j x).drop (2^i)))=false
 |0,i,x,_,h=>by omega
 |j+1,i,x,hl,h=>by
  cases hz:T.isZ j x.2
  ·have h1:=aj6 hz;rw[h1]at hl
   have e:i=j:=by
    rcases Nat.lt_trichotomy i j with h9 |h9 |h9
    ·have := aoq (a := 2) oz (show i+1<j+1 by omega);omega
    ·exact h9
    ·omega
   subst e;have h2:ai (i+1) (sh (i+1) x)=x:=di (i+1) x;have h3:ai i ((sh (i+1) x).drop (2^i))=x.2:=atl Prod.snd h2;rw[h3];exact hz
  ·have h1:sh (j+1) x=sh j x.1:=by
    conv=>lhs;unfold sh
    rw[ate hz]
   rw[h1]at hl ⊢;have h2:=(iI j x.1).le
   have h3:i+1<=j:=by
    rcases asb j (i+1)with h9 |h9
    ·have:=aoq (a:=2) oz h9;omega
    ·exact h9
   exact RV hl h3
theorem ajd(r:(k:Nat)->T k){i:Nat}{x:T (i+1)}(hz:T.isZ i x.2=false)(h0:T.sgn r i (T.norm r i x)=0):T.inv r (i+1) x=(T.inv r i (T.add i x.1 x.1),T.zero i):=by
 conv=>lhs;unfold T.inv
 rw[atd (by rw[hz];decide),ate h0]
theorem W0(r:(k:Nat)->T k){i:Nat}{x:T (i+1)}(hz:T.isZ i x.2=false)(h0:T.sgn r i (T.norm r i x)≠0) :
  T.inv r (i+1) x=(T.mul r i x.1 (T.inv r i (T.norm r i x)),T.mul r i (T.neg i x.2) (T.inv r i (T.norm r i x))):=by
 conv=>lhs;unfold T.inv
 rw[atd (by rw[hz];decide),atd h0]
theorem mul_low(r:(k:Nat)->T k)(i:Nat)(x y w:T i):T.mul r (i+1) (x,y) (w,T.zero i)=(T.mul r i x w,T.mul r i y w):=by
 show(T.add i (T.mul r i x w) (T.mul r i (T.mul r i y (T.zero i)) (r i)),T.add i (T.mul r i x (T.zero i)) (T.mul r i y w))=_;rw[T.mul_zero,T.zero_mul,T.mul_zero,T.add_zero,T.zero_add]
theorem K9{n e:Nat}{l:List Rat}(h:Nm n e l)(he:e<=4398046511103):NR (l.map rt) e:=by
 refine⟨?_,by have:=h.nl.len5 h.five;rw[ar3];omega,by rw[kQ];exact h.cb⟩;intro x hx;obtain⟨q,hq,rfl⟩:=aqd.1 hx;exact(h.cb.qs oz hq).ok
theorem ab5{ts:LL}{j e:Nat}{a:List Rat}{q:Rat}(h5:j<=5)(ha:Nl j a)(ca:Cb e a)(he:e<4398046511104)(hs:sh j (ai j a)=[q])(hq:q≠0) :
  FP 339 [bA ts,nA a] (nA [1/q]):=by
 have qa:∀q∈a,Qs q:=fun q hq=>ca.qs he hq
 have cs:=ca.sh ha;rw[hs]at cs;have qq:Qs q:=cs.qs he (by simp);have kz:=oG a h5 ha qa;rw[hs]at kz;have ni:=OK (rt 1) (rt q) (Qb.one.qs oz).ok qq.ok;rw[bE,bE,atd hq]at ni;refine am func339 ?_;refine gc kz ?_;refine gl ?_;refine gC (fun z=>?_) (fun z=>?_) (st2:=(77777,0))
 ·refine gc (kW 1 oz) ?_;refine gi rfl ?_;refine gc ni ?_;refine gD ?_;refine ah ?_;rfl
 cases z
theorem afv{ts:LL}{m r:Nat}(ht:oS ts m r)(hm:m<=5)(jf:m<=ts.length){j e i:Nat}{a s L:List Rat}(h5:j<=5)(ha:Nl j a)(ca:Cb e a)(he:4*e+3*eB r i+r+1<4398046511104)(hs:sh j (ai j a)=s)(hi:i+1<=m)
  (fm:s.length=2^(i+1)) (hb:sB r i (4*e+3*eB r i+r+1)<4398046511104) (h0:T.sgn (aI ts) i (ai i (kr ts i s))=0)
  (hL:FP 339 [bA ts,nA (ek (s.take (2^i)) (s.take (2^i)))] (nA L)):FP 339 [bA ts,nA a] (nA L):=by
 have qa:∀q∈a,Qs q:=fun q hq=>ca.qs oz hq
 have cs:=ca.sh ha;have kz:=oG a h5 ha qa;rw[hs]at cs kz;have lD:=aoe i;have xi:2^i<=32:=fj (b:=5) oz;have qo:2^(i+1)=2*2^i:=by rw[ao1];omega
 obtain⟨nn,dn,cn⟩:=C9 ht oz fm cs;have k4:=zc ts m r ht hm jf i _ _ oz nn cn hb;have qs:∀q∈s.take (2^i),Qs q:=fun q hq=>cs.take.qs oz hq
 refine am func339 ?_;refine gc kz ?_;refine gl ?_;refine gC (fun z=>?_) (fun z=>?_) (st1:=(3,0));exact atk z (by simp only[aa,beq_iff_eq];omega);refine gl ?_;refine gs (nG (.tmp rfl) (.const _) oz (show _=((2^i:Nat):Int) by rw[tu oz,fm,oO]) rfl) ?_;refine gc (Je ts m r ht hm jf i s e oz fm cs oz) ?_;refine gc k4 ?_;refine gC (fun z=>?_) (fun z=>?_) (st2:=(77777,0))
 ·refine gs (fC (.tmp rfl) (.none _) (.some _ (.tmp rfl) oz) T62 rfl T44 rfl oz (by simp only[ar3];omega) rfl) ?_;refine gs (fC (.tmp rfl) (.none _) (.some _ (.tmp rfl) oz) T62 rfl T44 rfl oz (by simp only[ar3];omega) rfl) ?_;refine gc (by have h9:=wj _ _ qs qs (by simp;omega) (by simp;omega);rw[<- wt]at h9;exact h9) ?_;refine gc hL ?_;refine gD ?_;refine ah ?_;rfl
 exact atk z (by rw[h0];decide)
theorem adw{ts:LL}{m r:Nat}(ht:oS ts m r)(hm:m<=5)(jf:m<=ts.length){j e f i:Nat}{a s L:List Rat}(h5:j<=5)(ha:Nl j a)(ca:Cb e a)(he:4*e+3*eB r i+r+1<4398046511104)(hs:sh j (ai j a)=s)(hi:i+1<=m)
  (fm:s.length=2^(i+1)) (hb:sB r i (4*e+3*eB r i+r+1)<4398046511104) (h0:T.sgn (aI ts) i (ai i (kr ts i s))≠0)
  (hL:FP 339 [bA ts,nA (kr ts i s)] (nA L)) (nL:Nl i L) (cL:Cb f L) (hf:e+f+eB r (i+1)<4398046511104) :
  FP 339 [bA ts,nA a] (nA (pT ts (i+1) (ib (s.take (2^i)) (fB (s.drop (2^i))) (2^i)) L)):=by
 have qa:∀q∈a,Qs q:=fun q hq=>ca.qs oz hq
 have cs:=ca.sh ha;have kz:=oG a h5 ha qa;rw[hs]at cs kz;have lD:=aoe i;have xi:2^i<=32:=fj (b:=5) oz;have qo:2^(i+1)=2*2^i:=by rw[ao1];omega
 obtain⟨nn,dn,cn⟩:=C9 ht oz fm cs;have k4:=zc ts m r ht hm jf i _ _ oz nn cn hb;have qy:∀q∈s.drop (2^i),Qs q:=fun q hq=>cs.drop.qs oz hq
 have lx:(s.take (2^i)).length=2^i:=my fm;have ly:(s.drop (2^i)).length=2^i:=nO fm;have nj:Nl (i+1) (ib (s.take (2^i)) (fB (s.drop (2^i))) (2^i)):=.inr ⟨i+1,ar8 _,by rw[u9 oz (by rw[mR];omega)];omega⟩;have cj:Cb e (ib (s.take (2^i)) (fB (s.drop (2^i))) (2^i)):=Pu cs;have bZ:=vM ts m r ht hm jf (i+1) (i+1) _ _ e f hi (ar8 _) nj (nL.mono oz) cj cL hf;refine am func339 ?_;refine gc kz ?_;refine gl ?_;refine gC (fun z=>?_) (fun z=>?_) (st1:=(3,0));exact atk z (by simp only[aa,beq_iff_eq];omega);refine gl ?_;refine gs (nG (.tmp rfl) (.const _) oz (show _=((2^i:Nat):Int) by rw[tu oz,fm,oO]) rfl) ?_;refine gc (Je ts m r ht hm jf i s e oz fm cs oz) ?_;refine gc k4 ?_;refine gC (fun z=>?_) (fun z=>?_) (st1:=(8,0));exact atk z (by simp only[aa,beq_iff_eq];omega);refine gs (fC (.tmp rfl) (.none _) (.some _ (.tmp rfl) oz) T62 rfl T44 rfl oz (by simp only[ar3];omega) rfl) ?_;refine gs (fC (.tmp rfl) (.some _ (.tmp rfl) oz) (.none _) T62 rfl T44 rfl (by simp only[ar3];omega) oz rfl) ?_;refine gc (by have h9:=BX _ qy oz;rw[<- yC]at h9;exact h9) ?_;refine gc (by have h9:=Ih (s.take (2^i)) (fB (s.drop (2^i))) (2^i) oz (by rw[mR];omega) oz;rw[<- wt]at h9;exact h9) ?_;refine gc hL ?_;refine gc bZ ?_;refine gD ?_;refine ah ?_;rfl
theorem agk{ts:LL}{m r:Nat}(ht:oS ts m r)(hp:il (aI ts) m)(hm:m<=5)(jf:m<=ts.length)(j:Nat):∀(a:List Rat)(e:Nat),j<=m->Nl j a->Cb e a->T.sgn (aI ts) j (ai j a)≠0 ->
  sB r j e<4398046511104->iB r j e<4398046511104->∃L,FP 339 [bA ts,nA a] (nA L)/\Nl j L/\Cb (iB r j e) L/\ai j L=T.inv (aI ts) j (ai j a):=by
 induction j using Nat.strongRecOn
 rename_i j ih;intro a e hj ha ca h0 hs hi;have hse:=xw r j e;have cs:=ca.sh ha;have Al:=iI j (ai j a);have j6:=di j (ai j a);have bR:=Hv r j e;obtain⟨s,sG⟩:∃s,sh j (ai j a)=s:=⟨_,rfl⟩
 rcases HO Al with h |h |⟨i,e8,h⟩
 ·exfalso;have h1:=apv.1 h;rw[h1,rz]at j6;rw[<- j6,T.sgn_zero]at h0;exact h0 rfl
 ·obtain ⟨q, hq⟩:=ap1.1 h;rw [hq,tT] at j6;rw [<- j6,T.sgn_ofQ] at h0;have q0:q ≠ 0:=by rintro rfl; exact h0 rfl
  refine⟨[1/q],ab5 oz ha ca oz hq q0,.inr ⟨0,by omega,rfl⟩,(Cb.inv1 (hq▸cs) q0).mono bR,?_⟩;rw[<- j6,<- tT j q];exact BC (aI ts) (i:=0) (s:=[q]) (L:=[1/q]) (by simp) (by simp) rfl oz
 ·have hz:=RV h e8;rw [sG] at h cs j6 Al hz;obtain ⟨nn,dn,cn⟩:=C9 ht oz h cs;have fm:s.length <= 2 ^ (i + 1):=by omega
  have b1:sB r i (4*e+3*eB r i+r+1)<=sB r j e:=D8 r e e8;have b2:=xw r i (4*e+3*eB r i+r+1);have b3:iB r (i+1) e<=iB r j e:=GQ r e e8;have b4:iB r (i+1) e=e+iB r i (4*e+3*eB r i+r+1)+eB r (i+1):=rfl;have lx:(s.take (2^i)).length=2^i:=my h;have ly:(s.drop (2^i)).length=2^i:=nO h;have xi:2^i<=2^(i+1):=aok oz oz;rw[<- j6]at h0 ⊢
  by_cases hN:T.sgn (aI ts) i (ai i (kr ts i s))=0
  ·have hS:=rc (aI ts) i (fun k hk=>hp k oz)
   have hx:T.sgn (aI ts) i (ai i (ek (s.take (2^i)) (s.take (2^i))))≠0:=by
    rw[qj];rw[CW (aI ts) fm e8]at h0;rw[dn]at hN;exact Vi hS (hp i oz) (x:=ai i (s.take (2^i))) (y:=ai i (s.drop (2^i))) h0 hN
   have np:Nl i (ek (s.take (2^i)) (s.take (2^i))):=.inr ⟨i,ar8 _,by rw[jc];omega⟩;have b5:=zD r i (e:=e+e+1) (f:=4*e+3*eB r i+r+1) oz;have b6:=A8 r i (e:=e+e+1) (f:=4*e+3*eB r i+r+1) oz;obtain⟨L,k1,k2,k3,k4⟩:=ih i oz _ _ oz np (cs.take.plus cs.take) hx oz oz;refine⟨L,afv ht hm jf oz ha ca oz sG oz h oz hN k1,k2.mono oz,k3.mono oz,?_⟩;refine BC (aI ts) (i:=i+1) fm (asv k2.le xi) ?_ e8;rw[ajd (aI ts) hz (by rw[<- dn];exact hN),mH k2.le,k4,qj];rfl
  ·obtain⟨L,k1,k2,k3,k4⟩:=ih i oz _ _ oz nn cn hN oz oz;have nj:Nl (i+1) (ib (s.take (2^i)) (fB (s.drop (2^i))) (2^i)):=.inr ⟨i+1,ar8 _,by rw[u9 oz (by rw[mR];omega),ao1];omega⟩;have s1:=iX ts m ht.1 (i+1) (i+1) _ _ oz (ar8 _) nj (k2.mono oz);have c1:=Cb.mul ht (k:=i+1) (show i+1<=m by omega) (ar8 _) nj (k2.mono oz) (Pu cs) k3;refine⟨_,adw ht hm jf oz ha ca oz sG oz h oz hN k1 k2 k3 oz,s1.1.mono e8,c1.mono oz,?_⟩;refine BC (aI ts) (i:=i+1) fm s1.1.le ?_ e8;rw[W0 (aI ts) hz (by rw[<- dn];exact hN),s1.2,GI oz,mH k2.le,mul_low,wa,k4,dn];rfl
theorem ZB{ts:LL}{r e f:Nat}(tw:Tw ts r){a b:List Rat}(ha:Nm ts.length e a)(hb:Nm ts.length f b)(he:e<=4398046511103)(hf:f<=4398046511103):FP 68 [bA ts,.lst 1 [nA a,nA b]] (.v .nilIface):=by
 have jJ:=v6 (ts.map (List.map rt)) r tw.tr [a.map rt,b.map rt] (Dm (K9 ha he) (K9 hb hf)) (by simp);have Af:cr (ts.map (List.map rt)) [a.map rt,b.map rt]=0:=Dk tw ha hb;rw[Af,sa]at jJ;rw[show[nA a,nA b]=[a.map rt,b.map rt].map nR by simp[iV]];exact jJ
theorem IP{ts:LL}{r f j:Nat}(tw:Tw ts r){b:List Rat}(hb:Nm ts.length f b)(hj:j<=ts.length)(nb:Nl j b)(h0:T.sgn (aI ts) ts.length (ai ts.length b)≠0)(hf:f<=lm ts.length)(hi:iB r j f<4398046511104) :
  ∃L,FP 339 [bA ts,nA b] (nA L)/\Nl ts.length L/\Cb (iB r j f) L/\ai ts.length L=T.inv (aI ts) ts.length (ai ts.length b):=by
 rw[CW (aI ts) nb.le hj]at h0;obtain⟨L,k1,k2,k3,k4⟩:=agk tw.ok tw.pos tw.five (ar8 _) j b f hj nb hb.cb h0 (B8 hj tw.three tw.le hf) hi;exact⟨L,k1,k2.mono hj,k3,BC (aI ts) nb.le k2.le k4 hj⟩
theorem ON{ts:LL}{r e f j:Nat}(tw:Tw ts r){a b:List Rat}(ha:Nm ts.length e a)(hb:Nm ts.length f b)(hj:j<=ts.length)(nb:Nl j b)(h0:T.sgn (aI ts) ts.length (ai ts.length b)≠0)(hf:f<=lm ts.length)(he:e+iB r j f+eB r ts.length<=200000000000) :
  FP 250 [bA ts,nA a,nA b] (.tup [nA (sh ts.length (T.mul (aI ts) ts.length (ai ts.length a) (T.inv (aI ts) ts.length (ai ts.length b)))),.v .nilIface]):=by
 have nh:=rF ts.length;have h5:=tw.five;have h3:=tw.three;have hfe:=Hv r j f;have hsB:=B8 (ar8 ts.length) h3 tw.le hf;have sH:=zc ts ts.length r tw.ok h5 (ar8 _) ts.length _ _ (ar8 _) hb.nl hb.cb hsB;obtain⟨L,k1,k2,k3,k4⟩:=IP tw hb hj nb h0 hf oz;have bZ:=vM ts ts.length r tw.ok h5 (ar8 _) ts.length ts.length _ _ _ _ (ar8 _) (ar8 _) ha.nl k2 ha.cb k3 oz;have s1:=iX ts ts.length tw.ok.1 ts.length ts.length _ _ (ar8 _) (ar8 _) ha.nl k2;have c1:=Cb.mul tw.ok (k:=ts.length) (ar8 _) (ar8 _) ha.nl k2 ha.cb k3;have kz:=oG _ h5 s1.1 (fun q hq=>c1.qs oz hq);rw[s1.2,k4]at kz;refine am func250 ?_;refine gc (ZB tw ha hb oz oz) ?_;refine gf ?_;refine gc sH ?_;refine gC (fun z=>?_) (fun z=>?_) (st1:=(5,0));exact atk z (by simp only[aa,beq_iff_eq];omega);refine gc k1 ?_;refine gc bZ ?_;refine gc kz ?_;refine gD ?_;refine bu ?_;rfl
theorem Ph{ts:LL}{r e f j:Nat}(tw:Tw ts r){a b:List Rat}(ha:Nm ts.length e a)(hb:Nm ts.length f b)(hj:j<=ts.length)(nb:Nl j b)(h0:T.sgn (aI ts) ts.length (ai ts.length b)≠0)(hf:f<=lm ts.length)(he:e+iB r j f+eB r ts.length<=200000000000) :
  Nm ts.length (e+iB r j f+eB r ts.length) (sh ts.length (T.mul (aI ts) ts.length (ai ts.length a) (T.inv (aI ts) ts.length (ai ts.length b)))):=by
 obtain⟨L,k1,k2,k3,k4⟩:=IP tw hb hj nb h0 hf oz;have s1:=iX ts ts.length tw.ok.1 ts.length ts.length _ _ (ar8 _) (ar8 _) ha.nl k2;have c1:=Cb.mul tw.ok (k:=ts.length) (ar8 _) (ar8 _) ha.nl k2 ha.cb k3;refine⟨tw.five,iI _ _,?_⟩;rw[<- k4,<- s1.2];exact c1.sh s1.1
def se(k:Nat):List Rat:=(apf (2^(k+1)) 0).set (2^k) 1
def cQ(ts:LL)(a:List Rat):LL:=ts++[bY a (2^ts.length)]
theorem XT(k:Nat):(se k).length=2^(k+1):=by simp[se]
theorem Xl{ts:LL}{r:Nat}(tw:Tw ts r):FP 131 [bA ts] (bA ts):=by
 have h3:=tw.three;have sF:=tw.rb.qs tw.le;refine am func131 ?_;refine gl ?_;refine gW (Wk.virt 900 1 rfl) ?_;refine aP [2,3,10,11] [2] (fun(i:Nat)=>[pP 12 (i64 i)]) (fun i=>[pP 3 (.box [.ms 900 1 0 i]),pP 900 (.row 1 ((ts.take i).map nA))]) (fun i=>i<=ts.length) (fun i=>ts.length-i) 0 (ase _) ?_ (h2:=(.cons rfl (BlkSub.bL (.cons (.nM _ _ _) .nil) rfl) (.k .nil)));rintro i hi K1 J1;refine gC (fun z=>?_) (fun z=>?_) (st2:=(13,0))
 ·have af:=aT z;obtain⟨d,hd⟩:=aJ af
  have Uq:d.length<=32:=by
   have h9:=tw.len i af;rw[aS hd]at h9;have:2^i<=32:=fj (b:=5) oz;omega
  have JY:=sF d (ar1 hd);refine gi (aw hd) ?_;refine gl ?_;refine gW (Wk.virt 901 3 rfl) ?_;refine aP [2,3,10,11,12,16,17] [2,3,900] (fun(j:Nat)=>[pP 6 (.ms 901 3 0 j),pP 18 (i64 j)]) (fun j=>[pP 901 (.row 3 ((d.take j).map qA))]) (fun j=>j<=d.length) (fun j=>d.length-j) 0 (ase _) ?_;rintro j hj K2 J2;refine gC (fun z=>?_) (fun z=>?_) (st2:=(11,0))
  ·have fa:=aT z;obtain ⟨q,hq⟩:=aJ fa;have jI:=wX (rt q) (rt 0) (JY q (ar1 hq)).ok Qs.zero.ok;rw [Dq,bE] at jI;refine gi (aw hq) ?_;refine gc (Con.sA (.cons (.refl _) (.cons l6 .nil)) jI) ?_;refine gs (eQ (.tmp rfl) rfl (by rw [ar3,aso]; omega) (.tmp rfl) T62 rfl T44 rfl rfl (by simp only [asi,asu]; omega) rfl rfl) ?_ (10,0);refine gW (Wk.of (sl:=[pP 2 (.ptr 2 0),pP 3 (.ptr 3 0),pP 10 (.lst 1 (ts.map nA)),pP 11 (i64 ts.length),pP 12 (i64 i),pP 6 (.ms 27 3 0 (j + 1)),pP 16 (nA d),pP 17 (i64 d.length),pP 18 (i64 j)]) (hp:=[pP 2 (.box [nS]),pP 3 (.box [.ms 900 1 0 i]),pP 900 (.row 1 ((ts.take i).map nA)),pP 27 (.row 3 ((d.take (j + 1)).map qA))]) a6 (.k (.k (.k (.cons rfl (.of (by rw [fO hq,asz]; rfl)) .nil))))) ?_ (10,0)
   refine gW (Wk.rk (k:=27) (d:=901) rfl rfl) ?_;refine ga aL ?_;exact aM J2 (j+1) fa
  have fa:=bc hj z;subst fa;refine gW ((Wk.freeze (k:=901) rfl).trans<|Wk.of (sl:=[pP 2 (.ptr 2 0),pP 3 (.ptr 3 0),pP 10 (.lst 1 (ts.map nA)),pP 11 (i64 ts.length),pP 12 (i64 i),pP 6 (nA d)]) (hp:=[pP 2 (.box [nS]),pP 3 (.box [.ms 900 1 0 i]),pP 900 (.row 1 ((ts.take i).map nA))]) (.k (.k (.k (.k (.k (.cons rfl (.of (by rw[cq (by simp)];simp[nA])) .nil)))))) (.k (.k (.k .nil)))) ?_;refine gs (eQ (.tmp rfl) rfl (by rw[ar3,aso];omega) (.tmp rfl) T57 rfl T62 rfl rfl (by simp only[asi,asu];omega) rfl rfl) ?_ (12,0);refine gW (Wk.of (sl:=[pP 2 (.ptr 2 0),pP 3 (.ptr 3 0),pP 10 (.lst 1 (ts.map nA)),pP 11 (i64 ts.length),pP 12 (i64 i)]) (hp:=[pP 2 (.box [nS]),pP 3 (.box [.ms 33 1 0 (i+1)]),pP 33 (.row 1 ((ts.take (i+1)).map nA))]) a6 (.k (.k (.cons rfl (.of (by rw[fO hd,asz];rfl)) .nil)))) ?_ (12,0);refine gW (Wk.rk (k:=33) (d:=900) rfl rfl) ?_;refine ga aL ?_;exact aM J1 (i+1) af
 have af:=bc hi z;subst af;refine gW ((Wk.freeze (k:=900) rfl).trans<|Wk.of (sl:=[pP 2 (.ptr 2 0),pP 3 (.ptr 3 0)]) (hp:=[pP 2 (.box [nS]),pP 3 (.box [.lst 1 (ts.map nA)])]) a6 (.k (.cons rfl (BlkSub.bL (.cons (.of (by rw[cq (by simp)];simp)) .nil) rfl) .nil))) ?_;refine ah ?_;rfl
abbrev eA(l:Li)(kw driven:List Bool)(r:List AV):List AV:=l.av.cells++(.lst 1 (kw.map bl) :: .lst 1 (driven.map bl)::r)
theorem ZW(j:Jt)(b:Int):FP 382 [j.av,i64 b] (i64 (mG j b)):=by
 refine am func382 ?_;refine gC (fun z=>?_) (fun z=>?_)
 ·have h1:b=j.a:=dJ z;refine ah ?_;unfold mG;rw[ate h1]
 have h1:b≠j.a:=du z;refine gC (fun z=>?_) (fun z=>?_)
 ·have h2:b=j.b:=dJ z;refine ah ?_;unfold mG;rw[atd h1,ate h2]
 have h2:b≠j.b:=du z;refine ah ?_;unfold mG;rw[atd h1,atd h2];rfl
theorem WW(j:Jt)(kind body:Int)(f:FuncId)(pre caps:List AV)(p:Int->Bool)(hp:0<=mG j body->FP f (pre++[i64 (mG j body)]++caps) (bl (p (mG j body)))) :
  FP 381 [j.av,.iptr [i64 body],.iptr [i64 kind],.iptr [.cl f pre caps]] (bl (Eh kind body p j)):=by
 refine am func381 ?_;refine gc (ZW j body) ?_;refine bV (fun h=>(hp (Yh h))) ?_;refine ah ?_;exact atl bl af7
theorem ag3(bs:List Jt)(hl:bs.length<=281474976710656)(f:FuncId)(pre caps:List AV)(ok:Nat->Bool)
  (hf:∀(i:Nat)(b:Jt),bs[i]?=some b->(∀j,j<i->ok j=true)->FP f (pre++[b.av]++caps) (bl (!ok i))) :
  FP 380 [.lst 7 (bs.map Jt.av),.cl f pre caps] (i64 (wV (ff bs.length ok))):=by
 refine am func380 ?_;refine gl ?_;refine aP [0,1,7] [] (fun(i:Nat)=>[pP 8 (i64 i)]) (fun _=>[]) (fun i=>i<=bs.length/\∀j,j<i->ok j=true) (fun i=>bs.length-i) 0 ⟨ase _,fun j h=>by omega⟩ ?_;rintro i ⟨hi,hj⟩ K1 J1;refine gC (fun z=>?_) (fun z=>?_)
 ·have af:=aT z;obtain⟨b,hb⟩:=aJ af;refine gi (aw hb) ?_;refine gc (hf i b hb hj) ?_;refine gC (fun z=>?_) (fun z=>?_)
  ·have h2:=el z;refine ah ?_;rw[lL af hj h2];rfl
  have h2:=fP z;refine ga aL ?_;exact aM J1 (i+1) ⟨af,fun j h9=>by rcases asb j i with g |g;exact hj j g;(have:j=i:=by omega);subst this;exact h2⟩
 have af:=bc hi z;subst af;refine ah ?_;rw[mz hj];rfl
theorem RD(l:Li)(hl:l.ok)(ae:ax l=0)(Fd:List AV)(kind body:Int)(f:FuncId)(pre caps:List AV)(p:Int->Bool)
  (hp:∀o:Int,0<=o->o<l.bo.length->FP f (pre++[i64 o]++caps) (bl (p o))) :
  FP 311 [.iptr (l.av.cells++Fd),i64 kind,i64 body,.cl f pre caps] (i64 (gJ l kind body p)):=by
 refine am func311 ?_ (1,0);refine gW ((Wk.freezeB (k:=7) rfl rfl).trans<|(Wk.freezeB (k:=5) rfl rfl).trans<|(Wk.freezeB (k:=6) rfl rfl).trans<|Wk.o (sl:=[pP 0 (.iptr (l.av.cells++Fd)),pP 5 (.iptr [i64 kind]),pP 6 (.iptr [i64 body]),pP 7 (.iptr [.cl f pre caps])]) (hp:=[])) ?_;refine gc (Con.sA (.cons (.refl _) (.cons (OS rfl) .nil)) (ag3 l.jo hl.lj 381 [] [.iptr [i64 body],.iptr [i64 kind],.iptr [.cl f pre caps]] (fun i=>!Eh kind body p (l.jo.getD i default)) (fun i b hb hj=>by rw[Bool.not_not,aS hb];exact WW b kind body f pre caps p (fun h=>hp _ h (WE ae hb body))))) ?_;refine ah ?_;rfl
theorem X6(l:Li)(kw driven:List Bool)(r:List AV)(b:Int)(h0:0<=b)(h1:b<kw.length):FP 378 [.iptr (eA l kw driven r),i64 b] (bl (kn kw b)):=by
 obtain⟨v,hv⟩:∃v,kw[b.toNat]?=some v:=aJ oz;have ev:kn kw b=v:=aS hv;refine am func378 ?_;refine gi (eI (n:=b.toNat) oz hv) ?_;refine ah ?_;rw[ev]
theorem R6(l:Li)(hl:l.ok)(ae:ax l=0)(kw driven:List Bool)(hk:kw.length=l.bo.length)(r:List AV)(kind body:Int) :
  FP 309 [.iptr (eA l kw driven r),i64 kind,i64 body] (i64 (gJ l kind body (kn kw))):=by
 refine am func309 ?_;refine gc (RD l hl ae _ kind body 378 [.iptr (eA l kw driven r)] [] (kn kw) (fun o h0 h1=>X6 l kw driven r o h0 oz)) ?_;refine ah ?_;rfl
theorem aku(o j:Int):FP 312 [i64 o,.iptr [i64 j]] (bl (decide (o=j))):=by
 refine am func312 ?_;refine ah ?_;exact atl bl wQ
theorem Zx(l:Li)(kw driven:List Bool)(hd:driven.length=kw.length)(r:List AV)(b:Int)(h0:0<=b)(h1:b<kw.length) :
  FP 313 [.iptr (eA l kw driven r),i64 b] (bl (!kn kw b&&!kn driven b)):=by
 obtain⟨v,hv⟩:∃v,kw[b.toNat]?=some v:=aJ oz;have ev:kn kw b=v:=aS hv;obtain⟨u,hu⟩:∃u,driven[b.toNat]?=some u:=aJ oz;have eu:kn driven b=u:=aS hu;refine am func313 ?_;refine gi (eI (n:=b.toNat) oz hv) ?_;refine nJ (fun _=>(eI (n:=b.toNat) oz hu)) ?_;refine ah ?_;rw[ev,eu];exact atl bl (oP _ _)
theorem YB(l:Li)(hl:l.ok)(ae:ax l=0)(kw driven:List Bool)(hk:kw.length=l.bo.length)(r:List AV) :
  FP 213 [.iptr (eA l kw driven r)] (.tup [((eF l kw).getD default).av,bl (eF l kw).isSome]):=by
 have xj:=hl.ld;refine am func213 ?_;refine gl ?_;refine aP [0,2,11,12] [2] (fun(i:Nat)=>[pP 13 (i64 i)]) (fun _=>[]) (fun i=>i<=l.drivers.length/\∀j,j<i->(!iD l kw j)=true) (fun i=>l.drivers.length-i) 0 ⟨ase _,fun j h=>by omega⟩ ?_;rintro i ⟨hi,hj⟩ K1 J1;refine gC (fun z=>?_) (fun z=>?_)
 ·have af:=aT z;obtain⟨d,hd⟩:=aJ af;have gn:l.drivers.getD i default=d:=aS hd;have hb:=fd (uk ae hd);obtain⟨v,hv⟩:∃v,kw[d.body.toNat]?=some v:=aJ oz;have ev:kn kw d.body=v:=aS hv;have ej:gJ l 0 d.body (kn kw)=cc l 0 d.body kw:=GW ae (fun o _ _=>rfl);refine gi (aw hd) ?_;refine gi (eI (n:=d.body.toNat) oz hv) ?_;refine gD ?_;refine gC (fun z=>?_) (fun z=>?_)
  ·have h2 : iD l kw i = false := by unfold iD; rw [gn, ev, z]; rfl
   refine ga aL ?_;exact aM J1 (i+1) ⟨af,fun k h9=>by rcases asb k i with g |g;exact hj k g;(have:k=i:=by omega);subst this;rw[h2];rfl⟩
  have ol:v=false:=z;refine gc (show kU _ _ _ (i64 (cc l 0 d.body kw)) by rw[<- ej];exact R6 l hl ae kw driven hk r 0 d.body) ?_;refine gC (fun z=>?_) (fun z=>?_)
  ·have h2 : iD l kw i = true := by unfold iD; rw [gn, ev, ol, ati (OM z)]; rfl
   have hg:eF l kw=some ⟨0,[d.body],[cc l 0 d.body kw],i⟩:=by unfold eF;rw[lL af hj (by rw[h2];rfl),<- gn];rfl
   refine bu ?_;rw[hg];rfl
  have h2:iD l kw i=false:=by unfold iD;rw[gn,atj (Sl z),arc]
  refine ga aL ?_;exact aM J1 (i+1) ⟨af,fun k h9=>by rcases asb k i with g |g;exact hj k g;(have:k=i:=by omega);subst this;rw[h2];rfl⟩
 have af:=bc hi z;subst af;have hg:eF l kw=none:=by unfold eF;rw[mz hj];rfl
 refine gR ?_;exact aD.sub aD.pure (by rw[hg];exact Sub.tup (.cons w7 (.cons (.refl _) .nil)))
theorem Ff(l:Li)(ae:ax l=0)(kw:List Bool)(hk:kw.length=l.bo.length)(r:List AV)(b:Nat)(h1:b<l.bo.length) :
  FP 313 [.iptr (eA l kw (ci l) r),i64 b] (bl (gg l kw b)):=by
 have h:=Zx l kw (ci l) (by rw[yH,hk]) r b oz oz;rw[Vo ae oz]at h;exact h
theorem DM(l:Li)(hl:l.ok)(ae:ax l=0)(kw:List Bool)(hk:kw.length=l.bo.length)(r:List AV)(kind body:Int) :
  FP 309 [.iptr (eA l kw (ci l) r),i64 kind,i64 body] (i64 (cc l kind body kw)):=by
 have h:=R6 l hl ae kw (ci l) hk r kind body;rw[GW ae (fun o _ _=>rfl)]at h;exact h
theorem agu(l:Li)(hl:l.ok)(ae:ax l=0)(kw:List Bool)(hk:kw.length=l.bo.length)(r:List AV) :
  FP 215 [.iptr (eA l kw (ci l) r)] (.tup [((fw l kw).getD default).av,bl (fw l kw).isSome]):=by
 have h8:=(f8 ae).2.2.2.1;refine am func215 ?_;refine gl ?_;refine aP [0,2,12,13] [2] (fun(i:Nat)=>[pP 14 (i64 i)]) (fun _=>[]) (fun i=>i<=l.bo.length/\∀j,j<i->(!ip l kw j)=true) (fun i=>l.bo.length-i) 0 ⟨ase _,fun j h=>by omega⟩ ?_;rintro i ⟨hi,hj⟩ K1 J1;refine gC (fun z=>?_) (fun z=>?_)
 ·have af:=aT z;refine gc (Ff l ae kw hk r i af) ?_;refine gC (fun z=>?_) (fun z=>?_)
  ·have h2 : ip l kw i = false := by unfold ip; rw [el z]; rfl
   refine ga aL ?_;exact aM J1 (i+1) ⟨af,fun k h9=>by rcases asb k i with g |g;exact hj k g;(have:k=i:=by omega);subst this;rw[h2];rfl⟩
  have hf:=fP z;refine gc (DM l hl ae kw hk r 0 i) ?_;refine gc (DM l hl ae kw hk r 1 i) ?_;refine gC (fun z=>?_) (fun z=>?_)
  ·have h2 : ip l kw i = false := by unfold ip; rw [Qe z, arc]
   refine ga aL ?_;exact aM J1 (i+1) ⟨af,fun k h9=>by rcases asb k i with g |g;exact hj k g;(have:k=i:=by omega);subst this;rw[h2];rfl⟩
  obtain⟨p0,s0⟩:=Oc z;have s1:=(rX (l:=l) (kind:=1) (body:=i) (oth:=kw)).2;have h2:ip l kw i=true:=by unfold ip;rw[hf,ati p0,ati s0];rfl
  obtain⟨j,qO⟩:∃j,l.jo[(cc l 1 i kw).toNat]?=some j:=aJ oz;have sI:l.jo.getD (cc l 1 i kw).toNat default=j:=aS qO;have hg:fw l kw=some (jR l kw i):=by unfold fw;rw[lL af hj (by rw[h2];rfl),arz]
  refine gi (eI (n:=(cc l 1 i kw).toNat) oz qO) ?_;refine gC (fun z=>?_) (fun z=>?_)
  ·have qQ:j.a=i:=dJ z;refine bu ?_;rw[hg];unfold jR;rw[sI];simp only[ary,ate qQ];rfl
  have qQ:j.a≠i:=du z;refine bu ?_;rw[hg];unfold jR;rw[sI];simp only[ary,atd qQ];rfl
 have af:=bc hi z;subst af;have hg:fw l kw=none:=by unfold fw;rw[mz hj];rfl
 refine gR ?_;exact aD.sub aD.pure (by rw[hg];exact Sub.tup (.cons w7 (.cons (.refl _) .nil)))
theorem aev(Fd:List AV):FP 310 [.iptr Fd] (.fn 379 [.iptr [.iptr Fd]]):=by
 refine am func310 ?_ (1,0);refine gW ((Wk.freezeB (k:=1) rfl rfl).trans<|Wk.o (sl:=[pP 1 (.iptr [.iptr Fd])]) (hp:=[])) ?_;refine ah ?_;rfl
def AX:Code->Option (Array Tmp×Code×Code)
  | .rangeFunc _ ps x y=>some (ps,x,y)
  | .seq a b=>match AX a with
    |some r=>some r
    |none=>AX b
  | .block _ c=>AX c
  |_=>none
def N0(n:Nat)(o:Option Code):LpD:=match o with
  |some c=>match AX c with
    |some (ps,x,y)=>⟨ps,x,y,n⟩
    |none=>⟨#[],.skip,.skip,0⟩
  |none=>⟨#[],.skip,.skip,0⟩
def Rn(D:LpD)(Fd:List AV)(h:Bool):Blk:=.loop D (match h with |true=>.done |false=>.ready) (match h with |true=>some .ret |false=>none) [pP 1 (.iptr [.iptr Fd]),pP 2 (.ptr 1001 0),pP 3 (.ptr 1002 0)]
def FG(g:Gr):Blk:=.box [i64 g.kind,.lst 1 (g.bo.map i64),.lst 1 (g.jo.map i64),i64 g.driver]
def Hx(h:Bool):Blk:=.box [bl h]
def ii(D:LpD)(Fd:List AV)(h:Bool)(g:Gr):Hp:=[pP 1000 (Rn D Fd h),pP 1001 (FG g),pP 1002 (Hx h)]
theorem Oh{D:LpD}{Fd:List AV}{h:Bool}{g:Gr}{k:Nat}{z:Blk}(hz:lk (ii D Fd h g) k=some z):1000<=k:=by
 unfold ii at hz;simp only[aE]at hz;split at hz
 ·omega
 ·split at hz
  ·omega
  ·split at hz
   ·omega
   ·cases hz
theorem Wt{D:LpD}{Fd:List AV}{s:AS}(hs:∀k z,lk (ii D Fd false default) k=some z->s.blk k=some z) :
  ∀k∈(ii D Fd false default++cU (ii D Fd false default)).map (·.1),k∈(ii D Fd false default).map (·.1)/\lk (ii D Fd false default++cU (ii D Fd false default)) k=s.blk k:=by
 intro k hk
 have hk':k=1000\/k=1001\/k=1002:=by
  simp[ii,cU]at hk;omega
 rcases hk' with rfl |rfl |rfl
 ·exact⟨by simp[ii],(hs _ _ rfl).symm⟩
 ·exact⟨by simp[ii],(hs _ _ rfl).symm⟩
 ·exact⟨by simp[ii],(hs _ _ rfl).symm⟩
theorem RW{l:Li}{kw:List Bool}{i k:Nat}(h:cond (gg l kw i) (gg l kw k) false=false):d9 l kw i k=false:=by
 rw[oP]at h;unfold d9;rw[h];rfl
theorem ad7{H R:Hp}{k:Nat}{z:Blk}(h:lk H k=some z):lk (H++R) k=some z:=by rw[mj,ate (lX h)];exact h
theorem XG{a b:Bool}(h:cond a b false=true):a=true:=by cases a <;> simp_all
theorem E6{a b:Bool}(h:cond a b false=true):b=true:=by cases a <;> simp_all
theorem akd(D:LpD)(l:Li)(hl:l.ok)(ae:ax l=0)(kw:List Bool)(hk:kw.length=l.bo.length)(r:List AV)
  (hy:∀i k:Nat,i<k->k<l.bo.length->gg l kw i=true->gg l kw k=true ->
   Bq prog 1000 [i64 i,i64 k] (ii D (eA l kw (ci l) r) false default) (bl (!d9 l kw i k)) (ii D (eA l kw (ci l) r) (d9 l kw i k) (cond (d9 l kw i k) (jz l kw i k) default))) :
  Con prog 379 [.yl 1000,.iptr [.iptr (eA l kw (ci l) r)]] (ii D (eA l kw (ci l) r) false default) (.tup []) (ii D (eA l kw (ci l) r) (dK l kw).isSome ((dK l kw).getD default)):=by
 have h8:=(f8 ae).2.2.2.1;refine gF func379 (fun k z h=>Oh h) ?_;refine gl ?_;refine aP [0,1,10] [1000,1001,1002] (fun(i:Nat)=>[pP 11 (i64 i)]) (fun _=>[]) (fun i=>i<=l.bo.length/\∀j,j<i->(jw l kw j).isNone=true) (fun i=>l.bo.length-i) 0 ⟨ase _,fun j h=>by omega⟩ ?_;rintro i ⟨hi,hj⟩ K1 J1;refine gC (fun y=>?_) (fun y=>?_)
 ·have af:=aT y;refine ga aL ?_;refine aP [0,1,3,10,11] [] (fun (k:Nat)=>[pP 4 (i64 (i + 1 + k:Nat))]) (fun _=>[pP 1000 (Rn D (eA l kw (ci l) r) false),pP 1001 (FG default),pP 1002 (Hx false)]) (fun k=>i + 1 + k <= l.bo.length /\ ∀ j,j < k -> (!d9 l kw i (i + 1 + j)) = true) (fun k=>l.bo.length - k) 0 ⟨by omega,fun j h=>by omega⟩ ?_;rintro k ⟨hkl,jl⟩ K2 J2;refine gl ?_;refine gC (fun y=>?_) (fun y=>?_)
  ·have bh:i + 1 + k < l.bo.length:=aT y;refine gc (Ff l ae kw hk r i af) ?_;refine bV (fun _=>(Ff l ae kw hk r (i + 1 + k) bh)) ?_;refine gs (NV rfl rfl rfl (by intro hb; have h0:d9 l kw i (i + 1 + k) = false:=RW (by simpa using hb); simp only [h0,cond_false]; exact Wt (by intro k z h; exact h)) (fun hb=>aba (k:=1000) (.opt rfl (by rw [hb]; rfl)) (hy i (i + 1 + k) oz bh (XG hb) (E6 hb)) (.cons (.opt rfl (by rw [hb]; rfl)) (.cons (.opt rfl (by rw [hb]; rfl)) .nil)) (by intro k z h; exact h) rfl rfl)) ?_;refine gC (fun y=>?_) (fun y=>?_)
   ·have h2 : d9 l kw i (i + 1 + k) = true := by have h9 := E6 y; rw [Bool.not_not] at h9; exact h9
    have mc:jw l kw i=some (i+1+k):=by unfold jw;rw[lL oz jl (by rw[h2];rfl),arz];congr 1;omega
    have hg:dK l kw=some (jz l kw i (i+1+k)):=by unfold dK;rw[lL af hj (by rw[mc];rfl),arz,mc]
    refine gR ?_;simp only[hg,h2,Option.isSome_some,ary,cond_true];exact aD.keep (fun k z h=>ad7 h)
   have h2:d9 l kw i (i+1+k)=false:=by cases hc:cond (gg l kw i) (gg l kw ((i+1+k:Nat):Int)) false with |false=>exact RW hc |true=>rw[hc,Bool.not_not]at y;exact y
   refine ga aL ?_;exact aM J2 (k+1) ⟨by omega,fun j h9=>by rcases asb j k with g |g;exact jl j g;(have:j=k:=by omega);subst this;rw[h2];rfl⟩ (hw:=Wk.of a6 (.cons rfl (.of (by rw[h2])) (.cons rfl (.of (by rw[h2];rfl)) (.cons rfl (.of (by rw[h2])) .nil))))
  have bh:¬i+1+k<l.bo.length:=fun h=>by have h1:=vL y;omega
  have mc:jw l kw i=none:=by unfold jw;rw[show l.bo.length-(i+1)=k by omega,mz jl];rfl
  refine ga aL ?_;exact aM J1 (i+1) ⟨af,fun j h9=>by rcases asb j i with g |g;exact hj j g;(have:j=i:=by omega);subst this;rw[mc];rfl⟩
 have af:=bc hi y;have hg:dK l kw=none:=by unfold dK;rw[<- af,mz hj];rfl
 refine gR ?_;simp only[hg,Option.isSome_none,Option.getD_none];exact aD.keep (fun k z h=>h)
variable{P:atq}
mutual
def AV.pm(σ:Nat->Nat):AV->AV
  | .ms k sz off len=>.ms (σ k) sz off len
  | .ptr k off=>.ptr (σ k) off
  | .eptr k sz i off=>.eptr (σ k) sz i off
  | .yl k=>.yl (σ k)
  | .agg cs=>.agg (AV.pms σ cs)
  | .tup cs=>.tup (AV.pms σ cs)
  | .fn f cs=>.fn f (AV.pms σ cs)
  | .opt b x=>.opt b (AV.pm σ x)
  | .v x=>.v x
  | .lst sz l=>.lst sz l
  | .iptr l=>.iptr l
  | .cl f cs ds=>.cl f cs ds
def AV.pms(σ:Nat->Nat):List AV->List AV
  |[]=>[]
  |x::l=>AV.pm σ x::AV.pms σ l
end
theorem AV.pms_eq(σ:Nat->Nat):∀l,AV.pms σ l=l.map (AV.pm σ)
 |[]=>rfl
 |x::l=>by simp only[AV.pms,atb,AV.pms_eq σ l]
theorem AV.pm_one(σ:Nat->Nat)(x:AV)(h:x.one=true):(x.pm σ).one=true:=by
 cases x <;> simp only[AV.pm] <;> exact h
mutual
theorem AV.pm_pm{σ:Nat->Nat}(hσ:∀k,σ (σ k)=k):∀x:AV,(x.pm σ).pm σ=x
 | .ms k sz off len=>by simp only[AV.pm,hσ]
 | .ptr k off=>by simp only[AV.pm,hσ]
 | .eptr k sz i off=>by simp only[AV.pm,hσ]
 | .yl k=>by simp only[AV.pm,hσ]
 | .agg cs=>by simp only[AV.pm];rw[AV.pms_pms hσ cs]
 | .tup cs=>by simp only[AV.pm];rw[AV.pms_pms hσ cs]
 | .fn f cs=>by simp only[AV.pm];rw[AV.pms_pms hσ cs]
 | .opt b x=>by simp only[AV.pm];rw[AV.pm_pm hσ x]
 | .v x=>by simp only[AV.pm]
 | .lst sz l=>by simp only[AV.pm]
 | .iptr l=>by simp only[AV.pm]
 | .cl f cs ds=>by simp only[AV.pm]
theorem AV.pms_pms{σ:Nat->Nat}(hσ:∀k,σ (σ k)=k):∀l:List AV,AV.pms σ (AV.pms σ l)=l
 |[]=>by simp only[AV.pms]
 |x::l=>by simp only[AV.pms];rw[AV.pm_pm hσ x,AV.pms_pms hσ l]
end
theorem B7{g:Nat->Array ato->Prop}{S:Nat->Nat->Prop}{σ:Nat->Nat}(hσ:∀k,σ (σ k)=k){m:Nat->Option Nat}{v:ato}{x:AV}(h:Rep g S m v x):Rep g S (fun k=>m (σ k)) v (x.pm σ):=by
 induction h with
 |v x=>exact .v x
 |lst0 a cap sz'=>exact .lst0 a cap sz'
 |lst u hb hc hl hs ho hu hr _=>exact .lst u hb hc hl hs ho hu hr
 |iptr u hb ho hu hr _=>exact .iptr u hb ho hu hr
 |cl a b c d _ _=>exact .cl a b c d
 |ptr hm=>exact .ptr (by simp only[hσ];exact hm)
 |eptr hm=>exact .eptr (by simp only[hσ];exact hm)
 |yl hm=>exact .yl (by simp only[hσ];exact hm)
 |ms0 a k sz off=>exact .ms0 _ _ _ _
 |ms hm hc hS=>exact .ms (by simp only[hσ];exact hm) hc hS
 |opt h h' ih=>exact .opt ih h'
 |agg hn h1 hr ih =>
  simp only[AV.pm,AV.pms_eq];refine .agg (by simpa using hn) ?_ ?_
  ·intro j c hc;simp only[asa,ar6]at hc;obtain⟨y,hy,rfl⟩:=hc;exact AV.pm_one _ _ (h1 j y hy)
  ·intro j u c hu hc;simp only[asa,ar6]at hc;obtain⟨y,hy,rfl⟩:=hc;exact ih j u y hu hy
 |tup hn hr ih =>
  simp only[AV.pm,AV.pms_eq];refine .tup (by simpa using hn) ?_;intro j u c hu hc;simp only[asa,ar6]at hc;obtain⟨y,hy,rfl⟩:=hc;exact ih j u y hu hy
 |fn hn hr ih =>
  simp only[AV.pm,AV.pms_eq];refine .fn (by simpa using hn) ?_;intro j u c hu hc;simp only[asa,ar6]at hc;obtain⟨y,hy,rfl⟩:=hc;exact ih j u y hu hy
theorem Zm{g:Nat->Array ato->Prop}{S:Nat->Nat->Prop}{σ:Nat->Nat}(hσ:∀k,σ (σ k)=k){m:Nat->Option Nat}{w:atr}{o:Option Nat}{x:Blk}(h:BlkRep g S m w o x) :
  BlkRep g S (fun k=>m (σ k)) w o (x.map (AV.pm σ)):=by
 cases x with
 |row sz es=>exact h.mono (fun _ _ h=>h) (fun _ _ h=>h) (fun _ _ hk=>hk.elim) rfl (fun _ _=>rfl)
 |vec vs=>exact h.mono (fun _ _ h=>h) (fun _ _ h=>h) (fun _ _ hk=>hk.elim) rfl (fun _ _=>rfl)
 |loop=>exact h.mapLoop _ (fun _ _ _ _ h=>B7 hσ h)
 |box cs =>
  cases h with
  |box hw hn h1 aV =>
   refine .box hw (by simpa using hn) ?_ ?_
   ·intro j x hx;simp only[asa,ar6]at hx;obtain⟨y,hy,rfl⟩:=hx;exact AV.pm_one _ _ (h1 j y hy)
   ·intro j u x hu hx;simp only[asa,ar6]at hx;obtain⟨y,hy,rfl⟩:=hx;exact B7 hσ (aV j u y hu hy)
theorem F7{σ:Nat->Nat}(hσ:∀k,σ (σ k)=k):∀sl:bN,kj (AV.pm σ) (kj (AV.pm σ) sl)=sl
 |[]=>rfl
 |(t,none)::l=>by simp only[kj,F7 hσ l]
 |(t,some x)::l=>by simp only[kj,F7 hσ l,AV.pm_pm hσ x]
theorem Blk.pm_pm{σ:Nat->Nat}(hσ:∀k,σ (σ k)=k)(x:Blk):(x.map (AV.pm σ)).map (AV.pm σ)=x:=by
 cases x with
 |row sz es=>rfl
 |vec vs=>rfl
 |loop d st pe sl=>simp only[Blk.map,F7 hσ]
 |box cs =>
  simp only[Blk.map];rw[<- AV.pms_eq,<- AV.pms_eq,AV.pms_pms hσ]
def ig(σ:Nat->Nat):Hp->Hp
  |[]=>[]
  |(k,x)::l=>(σ k,match x with |some b=>some (b.map (AV.pm σ)) |none=>none)::ig σ l
theorem oQ{σ:Nat->Nat}(hσ:∀k,σ (σ k)=k):∀(H:Hp)(k:Nat),lk (ig σ H) k=(lk H (σ k)).map (Blk.map (AV.pm σ))
 |[],k=>rfl
 |(k',x)::l,k=>by
  simp only[ig,aE,oQ hσ l k]
  by_cases h:k=σ k'
  ·rw[ate h,ate (by rw[h,hσ])];cases x <;> rfl
  ·rw[atd h,atd (fun e=>h (by rw[<- e,hσ]))]
theorem Jn{σ:Nat->Nat}(hσ:∀k,σ (σ k)=k)(H:Hp)(m:Nat->Option Nat):aW (ig σ H) (fun k=>m (σ k))=aW H m:=by
 funext b;apply propext;constructor
 ·rintro⟨k,z,hz,hb⟩;rw[oQ hσ,ar6]at hz;obtain⟨y,hy,rfl⟩:=hz;exact⟨σ k,y,hy,hb⟩
 ·rintro⟨k,y,hy,hb⟩;exact⟨σ k,y.map (AV.pm σ),by rw[oQ hσ,hσ,hy];rfl,by simp only[hσ];exact hb⟩
theorem KS{σ:Nat->Nat}(hσ:∀k,σ (σ k)=k){ext:Nat->Prop}{H:Hp}{m:Nat->Option Nat}{w:atr}(h:HeapRel ext H m w):HeapRel ext (ig σ H) (fun k=>m (σ k)) w:=by
 have e:Im ext (ig σ H) (fun k=>m (σ k)) w=Im ext H m w:=by funext b cs;simp only[Im,Jn hσ]
 refine⟨?_,?_,?_⟩
 ·intro k z hz;rw[oQ hσ,ar6]at hz;obtain⟨y,hy,rfl⟩:=hz;rw[e];exact Zm hσ (h.blk _ y hy)
 ·intro k k' z z' b hz hz' hb hb';rw[oQ hσ,ar6]at hz hz';obtain⟨y,hy,_⟩:=hz;obtain⟨y',hy',_⟩:=hz';have:=h.inj _ _ y y' b hy hy' hb hb';rw[<- hσ k,this,hσ]
 ·intro k z b hz hb;rw[oQ hσ,ar6]at hz;obtain⟨y,hy,_⟩:=hz;exact h.sep _ y b hy hb
theorem Con.pm{σ:Nat->Nat}(hσ:∀k,σ (σ k)=k){f:FuncId}{args:List AV}{H H':Hp}{r:AV}(h:Con P f args H r H'):Con P f (args.map (AV.pm σ)) (ig σ H) (r.pm σ) (ig σ H'):=by
 refine⟨h.ok,?_⟩;intro ext m w vs hext ch cV db
 have ck:∀k,lk (ig σ (ig σ H)) k=lk H k:=by
  intro k;rw[oQ hσ,oQ hσ,hσ];cases lk H k with
  |none=>rfl
  |some y=>simp only[arz,Blk.pm_pm hσ]
 have hh:=HeapRel.congr ck (KS hσ ch);have em:(fun k=>(fun k=>m (σ k)) (σ k))=m:=by funext k;simp only[hσ]
 have eo:aW (ig σ H) m=aW H (fun k=>m (σ k)):=by
  have:=Jn hσ H (fun k=>m (σ k));rw[em]at this;exact this
 have ei:Im ext (ig σ H) m w=Im ext H (fun k=>m (σ k)) w:=by funext b cs;simp only[Im,eo]
 refine Calls.mono (h.ret ext (fun k=>m (σ k)) w vs hext hh (by simpa using cV) (fun j v x hv hx=>?_)) ?_
 ·have h1 := db j v (x.pm σ) hv (by simp[hx]);have h2:=B7 hσ h1;rw[AV.pm_pm hσ,ei]at h2;exact h2
 ·rintro e w' ⟨v,m',rfl,hf,hh',hn,hk,aV⟩;refine⟨v,fun k=>m' (σ k),rfl,eo▸hf,KS hσ hh',?_,?_,?_⟩
  ·intro k x b hx hb;rw[oQ hσ,ar6]at hx;obtain⟨y,hy,_⟩:=hx;rw[eo];exact hn _ y b hy hb
  ·intro k x y hx hy;rw[oQ hσ,ar6]at hx hy;obtain⟨x',hx',_⟩:=hx;obtain⟨y',hy',_⟩:=hy;have:=hk _ x' y' hx' hy';simpa only[hσ]using this
  ·have e2 : Im ext (ig σ H') (fun k => m' (σ k)) w' = Im ext H' m' w' := by funext b cs; simp only [Im, Jn hσ]
   rw[e2];exact B7 hσ aV
end Go.Lw
namespace Go.Lw
open Go.Proofs
theorem gZ{P:atq}{N:Nat}{Q:Exit->AS->Prop}{c:Code}{s:AS}(h:Gd P N Q (.code c [] s)):bC P N c Q s:=h
theorem aky{P:atq}{N:Nat}{Q:Exit->AS->Prop}{c:Code}{s s':AS}(hw:Wk s s')(h:mS P N c Q s'):mS P N c Q s:=by
 intro C m a w n mU hN hr;obtain⟨m',hr'⟩:=hw C m a w hr;exact h C m' a w n mU hN hr'
def CD(k:Nat):Nat:=bif ao6 k 1000 then 900 else bif ao6 k 900 then 1000 else bif ao6 k 1001 then 2 else bif ao6 k 2 then 1001 else bif ao6 k 1002 then 3 else bif ao6 k 3 then 1002 else k
theorem nb{a b:Nat}(h:¬a=b):ao6 a b=false:=by
 cases h1:ao6 a b
 ·rfl
 ·exact atk (ar4 h1) h
theorem aab(k:Nat):CD (CD k)=k:=by
 by_cases h1:k=1000
 ·subst h1;rfl
 by_cases h2:k=900
 ·subst h2;rfl
 by_cases h3:k=1001
 ·subst h3;rfl
 by_cases h4:k=2
 ·subst h4;rfl
 by_cases h5:k=1002
 ·subst h5;rfl
 by_cases h6:k=3
 ·subst h6;rfl
 have e:CD k=k:=by simp only[CD,nb h1,nb h2,nb h3,nb h4,nb h5,nb h6,cond_false]
 rw[e,e]
theorem air(l:Li)(hl:l.ok)(ae:ax l=0)(kw:List Bool)(hk:kw.length=l.bo.length)(r:List AV) :
  FP 214 [.iptr (eA l kw (ci l) r)] (.tup [((dK l kw).getD default).av,bl (dK l kw).isSome]):=by
 refine Q0 (rs:=Tryz.f214.results.toList) func214 rfl rfl (by simp) rfl (fun k z h=>by cases h) ?_;refine Fv (gZ (go ?_));refine aky (s':=⟨[pP 1 (.iptr [.iptr (eA l kw (ci l) r)]),pP 2 (.ptr 2 0),pP 3 (.ptr 3 0)],[pP 2 (FG default),pP 3 (Hx false)]⟩) ((Wk.freezeB (k:=1) rfl rfl).trans (Wk.of (.k (.k (.k .nil))) (.cons rfl (BlkSub.bL (.cons (.refl _) (.cons (.nil _ _ _) (.cons (.nil _ _ _) (.cons (.refl _) .nil)))) rfl) (.k .nil)))) ?_;refine Yf ?_;refine Fv (gZ (go ?_));refine gc (aev (eA l kw (ci l) r)) ?_;refine U2 ?_
 have hy:∀i k:Nat,i<k->k<l.bo.length->gg l kw i=true->gg l kw k=true ->
   Bq prog 1000 [i64 i,i64 k] (ii (N0 Tryz.f214.ntmps Tryz.f214.body) (eA l kw (ci l) r) false default) (bl (!d9 l kw i k)) (ii (N0 Tryz.f214.ntmps Tryz.f214.body) (eA l kw (ci l) r) (d9 l kw i k) (cond (d9 l kw i k) (jz l kw i k) default)):=by
  intro i k hik bh Us Ut;refine ae4 (k:=1000) (fun k z h=>Oh h) rfl rfl (by intro p hp;have h9:p∈[11,12]:=hp;have h8:p=11\/p=12:=(by simpa using h9);show p<42;rcases h8 with h7 |h7 <;> (rw[h7];decide)) ?_;refine gZ (go ?_);refine⟨rfl,_,_,rfl,?_⟩;have hJ:gJ l 0 i (fun o=>decide (o=(k:Int)))=cc l 0 i (dA l.bo.length k):=GW ae (fun o h0 h1=>(vI h0 oz oz).symm);refine gZ (go ?_);refine gc (DM l hl ae kw hk r 0 i) ?_;refine gc (DM l hl ae kw hk r 0 k) ?_;refine gD ?_ (5,0);refine gW (Wk.freezeB (k:=5) rfl rfl) ?_;refine gc (r:=i64 (cc l 0 i (dA l.bo.length k))) (by rw[<- hJ];exact Con.sA (.cons (.refl _) (.cons (.refl _) (.cons (.refl _) (.cons (OS rfl) .nil)))) (RD l hl ae _ 0 i 312 [] [.iptr [i64 k]] (fun o=>decide (o=(k:Int))) (fun o h0 h1=>aku o k))) ?_;refine gC (fun ht=>?_) (fun ht=>?_)
  ·have h2 : d9 l kw i k = true := by unfold d9; rw [Us, Ut]; exact (AM.symm.trans ht)
   rw[h2];exact⟨_,_,rfl,aD.keep (by intro q z h;simp only[ii,aE]at h;split at h;(subst_vars;exact h);split at h;(subst_vars;exact h);split at h;(subst_vars;exact h);cases h)⟩
  ·have h2 : d9 l kw i k = false := by unfold d9; rw [Us, Ut]; exact (AM.symm.trans ht)
   rw[h2];exact⟨_,_,rfl,aD.keep (by intro q z h;simp only[ii,aE]at h;split at h;(subst_vars;exact h);split at h;(subst_vars;exact h);split at h;(subst_vars;exact h);cases h)⟩
 have dh:=Con.pm aab (akd _ l hl ae kw hk r hy);cases hg:dK l kw with
 |none =>
  rw[hg]at dh;refine Pp (k:=900) (sl0:=[pP 1 (.iptr [.iptr (eA l kw (ci l) r)]),pP 2 (.ptr 2 0),pP 3 (.ptr 3 0)]) (.tmp rfl) (by intro t x h;simp only[aE]at h;split at h;(subst_vars;exact h);split at h;(subst_vars;exact h);split at h;(subst_vars;exact h);cases h) rfl rfl dh (fun k' z h=>h) rfl rfl rfl rfl (by intro h;cases h) (.inl ⟨rfl,?_⟩);refine Fv (gZ (go ?_));refine bC.out (gZ (go ?_));refine gR ?_;exact aD.sub aD.pure (Sub.tup (.cons w7 (.cons (.refl _) .nil)))
 |some g =>
  rw[hg]at dh;refine Pp (k:=900) (sl0:=[pP 1 (.iptr [.iptr (eA l kw (ci l) r)]),pP 2 (.ptr 2 0),pP 3 (.ptr 3 0)]) (.tmp rfl) (by intro t x h;simp only[aE]at h;split at h;(subst_vars;exact h);split at h;(subst_vars;exact h);split at h;(subst_vars;exact h);cases h) rfl rfl dh (fun k' z h=>h) rfl rfl rfl rfl (by intro h;cases h) (.inr ⟨rfl,?_⟩);exact(bu (P:=prog) (N:=Tryz.f214.ntmps) (e:=.ret) rfl)
theorem Gs{α:Type}{o:Option α}(h:o.isSome=true):∃x,o=some x:=by cases o <;> simp_all
theorem Fo{α:Type}{o:Option α}(h:o.isSome=false):o=none:=by cases o <;> simp_all
theorem Zh(l:Li)(hl:l.ok)(ae:ax l=0)(kw:List Bool)(hk:kw.length=l.bo.length)(r:List AV) :
  FP 111 [.iptr (eA l kw (ci l) r)] (.tup [((cM l kw).getD default).av,bl (cM l kw).isSome]):=by
 refine am func111 ?_;refine gc (YB l hl ae kw (ci l) hk r) ?_;refine gC (fun z=>?_) (fun z=>?_)
 ·obtain⟨g,hg⟩:=Gs z;refine bu ?_;unfold cM;rw[hg];rfl
 have hg:=Fo z;refine gc (air l hl ae kw hk r) ?_;refine gC (fun z=>?_) (fun z=>?_)
 ·obtain⟨g,uE⟩:=Gs z;refine bu ?_;unfold cM;rw[hg,uE];rfl
 have uE:=Fo z;refine gc (agu l hl ae kw hk r) ?_;refine bu ?_;unfold cM;rw[hg,uE];rfl
theorem ME{ts:LL}{r e:Nat}(tw:Tw ts r){a b c d:List Rat}(ha:Nm ts.length e a)(hb:Nm ts.length e b)(hc:Nm ts.length e c)(hd:Nm ts.length e d)(he:2*e<=lm ts.length) :
  Con prog 151 [.ptr 1000 0,aQ a b,aQ c d] [pP 1000 (jT ts)] (aQ (sh ts.length (subT ts (ai ts.length a) (ai ts.length c))) (sh ts.length (subT ts (ai ts.length b) (ai ts.length d)))) [pP 1000 (jT ts)]:=by
 refine gF func151 (fun k z h=>bD h) ?_;refine gt (aG (Bj tw ha hc oz) (aB rfl rfl rfl) aK rfl rfl) ?_;refine gt (aG (Bj tw hb hd oz) (aB rfl rfl rfl) aK rfl rfl) ?_;refine gD ?_;refine gR ?_;exact aD.keep (bt rfl)
theorem M1(R:List AV)(a:List Rat):Con prog 254 [.ptr 1000 0,nA a] [pP 1000 (.box [.lst 1 R,.v .nilIface])] (.tup [nA a,.v .nilIface]) [pP 1000 (.box [.lst 1 R,.v .nilIface])]:=by
 refine gF func254 (fun k z h=>bD h) ?_;refine gf ?_;refine gR ?_;show aD _ (AV.tup [nA a,.v .nilIface]) _ _;exact aD.keep (bt rfl)
theorem IM(R:List AV)(a b:List Rat):Con prog 150 [.ptr 1000 0,aQ a b] [pP 1000 (.box [.lst 1 R,.v .nilIface])] (.tup [aQ a b,.v .nilIface]) [pP 1000 (.box [.lst 1 R,.v .nilIface])]:=by
 refine gF func150 (fun k z h=>bD h) ?_;refine gf ?_;refine gR ?_;show aD _ (AV.tup [aQ a b,.v .nilIface]) _ _;exact aD.keep (bt rfl)
theorem OU{ts:LL}{r e:Nat}(tw:Tw ts r){a b c d:List Rat}(ha:Nm ts.length e a)(hb:Nm ts.length e b)(hc:Nm ts.length e c)(hd:Nm ts.length e d)(he:e<=lm ts.length)(f:FuncId)(v:List Rat)
  (hf:Con prog f [.ptr 1000 0,aQ a b,aQ c d] [pP 1000 (jT ts)] (nA v) [pP 1000 (jT ts)]) :
  FP 152 [bA ts,aQ a b,aQ c d,.fn f []] (.tup [nA v,.v .nilIface]):=by
 refine am func152 ?_;refine gc (ye (e:=e) tw [(a,b),(c,d)] (by simp only[asj,asf,or_false];rintro p (rfl |rfl);exact⟨ha,hb⟩;exact⟨hc,hd⟩) he (by simp)) ?_;refine gf ?_;refine gs (PV (.tmp rfl) (show Con prog f ([.ptr 22 0,aQ a b,aQ c d]++[]) [pP 22 (jT ts)] (nA v) [pP 22 (jT ts)]from Con.rekeyB 22 rfl rfl rfl rfl hf) (aB rfl rfl rfl) aK rfl rfl) ?_;refine gt (aG (Con.rekeyB 22 rfl rfl rfl rfl (M1 _ _)) (b9 rfl rfl) aK rfl rfl) ?_;refine bu ?_;rfl
theorem P5{ts:LL}{r e:Nat}(tw:Tw ts r){a b c d:List Rat}(ha:Nm ts.length e a)(hb:Nm ts.length e b)(hc:Nm ts.length e c)(hd:Nm ts.length e d)(he:2*(e+e+kB r ts.length)<=lm ts.length) :
  FP 65 [bA ts,aQ a b,aQ c d] (.tup [nA (sh ts.length (wd ts (ai ts.length a) (ai ts.length b) (ai ts.length c) (ai ts.length d))),.v .nilIface]):=by
 refine am func65 ?_;refine gc (Con.sA (.cons (.refl _) (.cons (.refl _) (.cons (.refl _) (.cons (Sub.fn0 _) .nil)))) (OU tw ha hb hc hd oz _ _ (Kr tw ha hb hc hd he))) ?_;refine bu ?_
 first |rfl |(simp;done)
theorem NO{ts:LL}{r e:Nat}(tw:Tw ts r){a b c d:List Rat}(ha:Nm ts.length e a)(hb:Nm ts.length e b)(hc:Nm ts.length e c)(hd:Nm ts.length e d)(he:2*(e+e+kB r ts.length)<=lm ts.length) :
  FP 228 [bA ts,nA a,nA b,aQ c d] (.tup [aQ (sh ts.length (yR ts (ai ts.length a) (ai ts.length b) (ai ts.length c) (ai ts.length d))) (sh ts.length (zp ts (ai ts.length a) (ai ts.length b) (ai ts.length c) (ai ts.length d))),.v .nilIface]):=by
 refine am func228 ?_;refine gc (FK (e:=e) tw [a,b,c,d] (by simp only[asj,asf,or_false];rintro x (rfl |rfl |rfl |rfl) <;> assumption) oz (by simp)) ?_;refine gf ?_;refine gt (aG (Con.rekeyB 27 rfl rfl rfl rfl (rD tw ha hc oz)) (aB rfl rfl rfl) aK rfl rfl) ?_;refine gt (aG (Con.rekeyB 27 rfl rfl rfl rfl (rD tw hb hd oz)) (aB rfl rfl rfl) aK rfl rfl) ?_;refine gt (aG (Con.rekeyB 27 rfl rfl rfl rfl (Ic▸Bj tw (ha.mul tw rfl hc) (hb.mul tw rfl hd) oz)) (aB rfl rfl rfl) aK rfl rfl) ?_;refine gt (aG (Con.rekeyB 27 rfl rfl rfl rfl (rD tw hb hc oz)) (aB rfl rfl rfl) aK rfl rfl) ?_;refine gt (aG (Con.rekeyB 27 rfl rfl rfl rfl (rD tw ha hd oz)) (aB rfl rfl rfl) aK rfl rfl) ?_;refine gt (aG (Con.rekeyB 27 rfl rfl rfl rfl (HF▸DE tw (hb.mul tw rfl hc) (ha.mul tw rfl hd) oz)) (aB rfl rfl rfl) aK rfl rfl) ?_;refine gt (aG (Con.rekeyB 27 rfl rfl rfl rfl (IM _ _ _)) (b9 rfl rfl) aK rfl rfl) ?_;refine gD ?_;refine bu ?_;rfl
theorem aa7{ts:LL}{r e:Nat}(tw:Tw ts r){a b c d:List Rat}(ha:Nm ts.length e a)(hb:Nm ts.length e b)(hc:Nm ts.length e c)(hd:Nm ts.length e d)(he:2*e<=lm ts.length) :
  FP 340 [bA ts,aQ a b,aQ c d] (.tup [aQ (sh ts.length (T.add ts.length (ai ts.length a) (ai ts.length c))) (sh ts.length (T.add ts.length (ai ts.length b) (ai ts.length d))),.v .nilIface]):=by
 refine am func340 ?_;refine gc (ye (e:=e) tw [(a,b),(c,d)] (by simp only[asj,asf,or_false];rintro p (rfl |rfl);exact⟨ha,hb⟩;exact⟨hc,hd⟩) oz (by simp)) ?_;refine gf ?_;refine gt (aG (Con.rekeyB 21 rfl rfl rfl rfl (DE tw ha hc oz)) (aB rfl rfl rfl) aK rfl rfl) ?_;refine gt (aG (Con.rekeyB 21 rfl rfl rfl rfl (DE tw hb hd oz)) (aB rfl rfl rfl) aK rfl rfl) ?_;refine gt (aG (Con.rekeyB 21 rfl rfl rfl rfl (IM _ _ _)) (b9 rfl rfl) aK rfl rfl) ?_;refine gD ?_;refine bu ?_;rfl
theorem C8{x y:Rat}(hx:Qs x)(hy:Qs y):FP 130 [qA x,qA y] (aQ (sh 0 (x:Rat)) (sh 0 (y:Rat))):=by
 refine am func130 ?_;refine gc (sT hx) ?_;refine gc (sT hy) ?_;refine gD ?_;refine ah ?_
 first |rfl |(simp;done)
theorem O3{ts:LL}{r e:Nat}(tw:Tw ts r){a b c d:List Rat}(ha:Nm ts.length e a)(hb:Nm ts.length e b)(hc:Nm ts.length e c)(hd:Nm ts.length e d){x y:Rat}(hx:Qb e x)(hy:Qb e y)(he:8*e+4*kB r ts.length+4<=lm ts.length) :
  FP 252 [bA ts,.agg [nA a,nA b,nA c,nA d],qA x,qA y] (.tup [aQ (sh ts.length (Dw ts (ai ts.length a) (ai ts.length b) (ai ts.length c) x y)) (sh ts.length (AW ts (ai ts.length a) (ai ts.length b) (ai ts.length d) x y)),.v .nilIface]):=by
 have nh:=rF ts.length;have nx:=Nm.ofQ ha.five (Cb.one hx);have ny:=Nm.ofQ ha.five (Cb.one hy);have nX:=FA tw ha hb nx ny;have nY:=IS tw ha hb nx ny;have z1:e<=2*(e+e+kB r ts.length)+1:=by omega
 have z2:2*(2*(e+e+kB r ts.length)+1)<=lm ts.length:=Yo he;have jI:=aa7 tw nX nY (hc.mono z1) (hd.mono z1) z2;refine am func252 ?_;refine gc (FK (e:=e) tw [a,b,c,d] (by simp only[asj,asf,or_false];rintro x (rfl |rfl |rfl |rfl) <;> assumption) oz (by simp)) ?_;refine gf ?_;refine gc (C8 (hx.qs oz) (hy.qs oz)) ?_;refine gc (NO tw ha hb nx ny oz) ?_;refine gD ?_;refine gf ?_;refine gc jI ?_;refine bu ?_;rw[Tp,Ng];rfl
def u8(n:Nat):AV:=.v (.int .u8 n)
theorem xC{p q:Bool}{a b:Nat}{c:Nat}(hp:p=decide (a<=c))(hq:q=decide (c<=b)):cond p q false=decide (a<=c/\c<=b):=by
 subst hp;subst hq
 by_cases h:a<=c
 ·simp[h]
 ·simp[h]
theorem zk(c k:Nat):aa .geq (c:Int) (k:Int)=decide (k<=c):=by simp only[aa,decide_eq_decide];omega
theorem yX(c k:Nat):aa .leq (c:Int) (k:Int)=decide (c<=k):=by simp only[aa,decide_eq_decide];omega
theorem alj(c:Nat):cond (cond (aa .geq (c:Int) 97) (aa .leq (c:Int) 122) false) true (cond (aa .geq (c:Int) 65) (aa .leq (c:Int) 90) false)=fW c:=by
 have e1:cond (aa .geq (c:Int) 97) (aa .leq (c:Int) 122) false=decide (97<=c/\c<=122):=xC (zk c 97) (yX c 122);have e2:cond (aa .geq (c:Int) 65) (aa .leq (c:Int) 90) false=decide (65<=c/\c<=90):=xC (zk c 65) (yX c 90);rw[e1,e2];unfold fW;cases decide (97<=c/\c<=122) <;> rfl
theorem ad0(c:Nat):cond (cond (aa .geq (c:Int) 65) (aa .leq (c:Int) 90) false) true (cond (aa .geq (c:Int) 97) (aa .leq (c:Int) 122) false)=fW c:=by
 have e1:cond (aa .geq (c:Int) 97) (aa .leq (c:Int) 122) false=decide (97<=c/\c<=122):=xC (zk c 97) (yX c 122);have e2:cond (aa .geq (c:Int) 65) (aa .leq (c:Int) 90) false=decide (65<=c/\c<=90):=xC (zk c 65) (yX c 90);rw[e1,e2];unfold fW;cases decide (97<=c/\c<=122) <;> cases decide (65<=c/\c<=90) <;> rfl
theorem Od(c:Nat):cond (aa .geq (c:Int) 48) (aa .leq (c:Int) 57) false=vJ c:=xC (zk c 48) (yX c 57)
theorem If(c:Nat):cond (cond (fW c) true (vJ c)) true (aa .eql (c:Int) 95)=nv c:=by
 unfold nv
 have:aa .eql (c:Int) 95=decide (c=95):=by
  rw[aq8];simp only[aa,beq_iff_eq,atf];omega
 rw[this];cases fW c <;> cases vJ c <;> rfl
theorem Ri(c:Nat):FP 376 [u8 c] (bl (fW c)):=by
 refine am func376 ?_;refine ah ?_;exact atl bl (alj c)
theorem XE(c:Nat):FP 405 [u8 c] (bl (vJ c)):=by
 refine am func405 ?_;refine ah ?_;exact atl bl (Od c)
theorem acs(c:Nat):FP 377 [u8 c] (bl (nv c)):=by
 refine am func377 ?_;refine gc (Ri c) ?_;refine bV (fun _=>(XE c)) ?_;refine ah ?_;exact atl bl (If c)
theorem Pa(c:Nat):FP 258 [u8 c] (bl (fW c)):=by
 refine am func258 ?_;refine ah ?_;exact atl bl (ad0 c)
theorem Yt(c:Nat):FP 260 [u8 c] (bl (vJ c)):=by
 refine am func260 ?_;refine ah ?_;exact atl bl (Od c)
theorem Vh(s:ByteArray)(hs:s.size<=281474976710656):FP 306 [.v (.string s)] (i64 (gI s)):=by
 refine am func306 ?_;refine gs (fM rfl rfl rfl (fun h=>yt (.opt rfl (o1 h)) (.const _) T9 rfl oz (by have:=Sx h;omega) rfl)) ?_;refine bV (fun _=>(Ri (fg s 0))) ?_;refine gC (fun z=>?_) (fun z=>?_)
 ·have h0:gI s=0:=al4 z;refine ah ?_;rw[h0];rfl
 obtain⟨h0,h1⟩:=adn z;refine aP [0] [] (fun(n:Nat)=>[pP 3 (i64 n)]) (fun _=>[]) (fun n=>1<=n/\n<=s.size/\gY s 1 (s.size-1)=gY s n (s.size-n)) (fun n=>s.size-n) 1 ⟨ar8 _,h0,rfl⟩ ?_;rintro n ⟨jY,hn,hw⟩ K1 J1;refine gs (fM rfl rfl rfl (fun h=>yt (.opt rfl (o1 h)) (.opt rfl (o1 h)) T9 rfl oz (by have:=aT h;omega) rfl)) ?_;refine bV (fun _=>(acs (fg s n))) ?_;refine gC (fun z=>?_) (fun z=>?_)
 ·have h2:n<s.size/\nv (fg s n)=true:=Z9 z;refine ga aL ?_;exact aM J1 (n+1) ⟨by omega,by omega,by rw[hw,show s.size-n=(s.size-(n+1))+1 by omega];simp only[gY,h2.2,if_true]⟩
 have h2:n<s.size->nv (fg s n)=false:=VJ z
 have h3:gI s=n:=by
  unfold gI;rw[ate ⟨h0,h1⟩,hw];rcases asb n s.size with h |h
  ·rw[show s.size-n=(s.size-(n+1))+1 by omega];simp only[gY,h2 h,aq9,if_false]
  ·rw[show s.size-n=0 by omega];rfl
 refine ah ?_;rw[h3]
theorem xO(s:ByteArray)(hs:s.size<=281474976710656):FP 209 [.v (.string s)] (bl (km s)):=by
 refine am func209 ?_;refine gc (Vh s hs) ?_;refine ah ?_;exact atl bl (Z8 s)
theorem CP(s:ByteArray)(i:Nat):FP 259 [.v (.string s),i64 i] (u8 (fg s i)):=by
 refine am func259 ?_;refine gC (fun z=>?_) (fun z=>?_)
 ·have h0:=aT z;refine gs (yt (.tmp rfl) (.tmp rfl) T9 rfl oz oz rfl) ?_;refine ah ?_;rfl
 have h0:=vL z;refine ah ?_;rw[Ns oz];rfl
theorem ahl(s:ByteArray)(hs:s.size<=281474976710656):FP 161 [.v (.string s),i64 0] (i64 ((if fW (fg s 0)then gY s 0 s.size else 0:Nat))):=by
 refine am func161 ?_;refine gc (CP s 0) ?_;refine gc (Pa (fg s 0)) ?_;refine gC (fun z=>?_) (fun z=>?_)
 ·have h0 : fW (fg s 0) = false := by simpa using z
  refine ah ?_;rw[h0];rfl
 have h0:fW (fg s 0)=true:=by simpa using z
 refine aP [0] [] (fun(n:Nat)=>[pP 1 (i64 n)]) (fun _=>[]) (fun n=>n<=s.size/\gY s 0 s.size=gY s n (s.size-n)) (fun n=>s.size-n) 0 ⟨ase _,rfl⟩ ?_;rintro n ⟨hn,hw⟩ K1 J1;refine gc (CP s n) ?_;refine gc (Pa (fg s n)) ?_;refine bV (fun _=>(CP s n)) ?_;refine bV (fun _=>(Yt (fg s n))) ?_;refine bV (fun _=>(CP s n)) ?_;refine gC (fun z=>?_) (fun z=>?_)
 ·have h1:nv (fg s n)=true:=(If _).symm.trans z
  have h2:n<s.size:=by
   rcases asb n s.size with h |h
   ·exact h
   ·rw[Ns h]at h1;cases h1
  refine ga aL ?_;exact aM J1 (n+1) ⟨by omega,by rw[hw,show s.size-n=(s.size-(n+1))+1 by omega];simp only[gY,h1,if_true]⟩
 have h1:nv (fg s n)=false:=(If _).symm.trans z
 have h2:gY s 0 s.size=n:=by
  rw[hw];rcases asb n s.size with h |h
  ·rw[show s.size-n=(s.size-(n+1))+1 by omega];simp only[gY,h1,aq9,if_false]
  ·rw[show s.size-n=0 by omega];rfl
 refine ah ?_;rw[h0,h2];rfl
theorem yx(s:ByteArray)(hs:s.size<=281474976710656):FP 74 [.v (.string s)] (bl (km s)):=by
 refine am func74 ?_;refine bV (fun _=>(ahl s hs)) ?_;refine ah ?_;exact atl bl (agx s)
theorem uU(i:Int)(n:Nat):FP 308 [i64 i,i64 n] (bl (aZ i n)):=by
 refine am func308 ?_;refine ah ?_;exact atl bl (Q4 i n)
theorem Ye(bs:List Bd)(j4:∀b∈bs,b.ok)(hl:bs.length<=281474976710656):FP 210 [.lst 2 (bs.map Bd.av)] (bQ (fI bs.length (fv bs))):=by
 refine am func210 ?_;refine gl ?_;refine aP [0,11,12] [] (fun(i:Nat)=>[pP 13 (i64 i)]) (fun _=>[]) (fun i=>i<=bs.length/\∀j,j<i->fv bs j=0) (fun i=>bs.length-i) 0 ⟨ase _,fun j h=>by omega⟩ ?_;rintro i ⟨hi,hj⟩ K1 J1;refine gC (fun z=>?_) (fun z=>?_)
 ·have af:=aT z;obtain⟨b,hb⟩:=aJ af;have dq:bs.getD i default=b:=aS hb;have oe:=j4 b (ar1 hb);have jK:=ri Bd.name hb;refine gi (aw hb) ?_;refine gc (xO b.name oe.name) ?_;refine gC (fun z=>?_) (fun z=>?_)
  ·have h1:=el z;have e1:fv bs i = 5:=by unfold fv; rw [dq,ate h1]
   refine ah ?_;rw[fx af hj (by rw[e1];decide),e1];rfl
  have h1:=fP z;refine gs (fC (.tmp rfl) (.none _) (.some _ (.tmp rfl) oz) T22 rfl T83 rfl oz (by simp only[ar3];omega) rfl) ?_;refine ge rfl ?_;refine aP [0,3,4,11,12,13] [4] (fun(k:Nat)=>[pP 25 (.lst 2 ((bs.take i).map Bd.av)),pP 26 (i64 i),pP 27 (i64 k)]) (fun _=>[]) (fun k=>k<=i/\(bs.take k).any (fun y=>ez y.name b.name)=false) (fun k=>i-k) 0 ⟨ase _,rfl⟩ ?_ (h1:=(.cons rfl (.of (zq 2 Bd.av bs i)) (.cons rfl (Sub.int (by simp;omega)) (.k .nil))));rintro k ⟨hk,hd⟩ K2 J2;refine gC (fun z=>?_) (fun z=>?_)
  ·have bh:=aT z;obtain ⟨y,hy'⟩:∃ y,(bs.take i)[k]? = some y:=aJ (by simp; omega);have hy:=(yo hy').1;refine gi (aw hy') ?_;refine gC (fun z=>?_) (fun z=>?_)
   ·have h2:ez y.name b.name = true:=z;have e1:fv bs i = 6:=by unfold fv; rw [dq,atd (by rw [h1]; decide),ate (by rw [jK]; exact oD hy bh h2)]
    refine ah ?_;rw[fx af hj (by rw[e1];decide),e1];rfl
   have h2:ez y.name b.name=false:=z;refine ga aL ?_;exact aM J2 (k+1) ⟨bh,nI hy hd h2⟩
  have bh:=bc hk z;subst bh;have cE:¬ic (bs.map Bd.name) k=true:=by rw[jK,hd];decide
  refine gl ?_;refine gC (fun z=>?_) (fun z=>?_)
  ·have h3:8 < b.pts.length:=ee z;have e1:fv bs k = 4:=by unfold fv; rw [dq,atd (by rw [h1]; decide),atd cE,ate h3]
   refine ah ?_;rw[fx af hj (by rw[e1];decide),e1];rfl
  have h3:b.pts.length<=8:=kl z;have e1:fv bs k=fI b.pts.length (fi b.pts):=by unfold fv;rw[dq,atd (by rw[h1];decide),atd cE,atd oz]
  refine gl ?_;refine aP [0,4,11,12,13,44,45] [4] (fun(p:Nat)=>[pP 46 (i64 p)]) (fun _=>[]) (fun p=>p<=b.pts.length/\∀j,j<p->fi b.pts j=0) (fun p=>b.pts.length-p) 0 ⟨ase _,fun j h=>by omega⟩ ?_;rintro p ⟨hp,j7⟩ K3 J3;refine gC (fun z=>?_) (fun z=>?_)
  ·have fo:=aT z;obtain⟨m,hm⟩:=aJ fo;have qR:b.pts.getD p default=m:=aS hm;have so:=ar1 hm;have Am:=ri Mk.name hm;have An:=oe.pts m so;refine gi (aw hm) ?_;refine gc (xO m.name (oe.names m so)) ?_;refine gC (fun z=>?_) (fun z=>?_)
   ·have h4:=el z;have e2:fi b.pts p = 5:=by unfold fi; rw [qR,ate h4]
    have e3:fv bs k=5:=by rw[e1,fx fo j7 (by rw[e2];decide),e2]
    refine ah ?_;rw[fx af hj (by rw[e3];decide),e3];rfl
   have h4:=fP z;refine gs (fC (.tmp rfl) (.none _) (.some _ (.tmp rfl) oz) T81 rfl T85 rfl oz (by simp only[ar3];omega) rfl) ?_;refine ge rfl ?_;refine aP [0,4,8,11,12,13,44,45,46] [4,8] (fun(q:Nat)=>[pP 59 (.lst 7 ((b.pts.take p).map Mk.av)),pP 60 (i64 p),pP 61 (i64 q)]) (fun _=>[]) (fun q=>q<=p/\(b.pts.take q).any (fun y=>ez y.name m.name)=false) (fun q=>p-q) 0 ⟨ase _,rfl⟩ ?_ (h1:=(.cons rfl (.of (zq 7 Mk.av b.pts p)) (.cons rfl (Sub.int (by simp;omega)) (.k .nil))));rintro q ⟨hq,ov⟩ K4 J4;refine gC (fun z=>?_) (fun z=>?_)
   ·have bH:=aT z;obtain ⟨y,hy'⟩:∃ y,(b.pts.take p)[q]? = some y:=aJ (by simp; omega);have hy:=(yo hy').1;refine gi (aw hy') ?_;refine gC (fun z=>?_) (fun z=>?_)
    ·have h5:ez y.name m.name = true:=z;have e2:fi b.pts p = 6:=by unfold fi; rw [qR,atd (by rw [h4]; decide),ate (by rw [Am]; exact oD hy bH h5)]
     have e3:fv bs k=6:=by rw[e1,fx fo j7 (by rw[e2];decide),e2]
     refine ah ?_;rw[fx af hj (by rw[e3];decide),e3];rfl
    have h5:ez y.name m.name=false:=z;refine ga aL ?_;exact aM J4 (q+1) ⟨bH,nI hy ov h5⟩
   have bH:=bc hq z;subst bH;have Ao:¬ic (b.pts.map Mk.name) q=true:=by rw[Am,ov];decide
   refine gc (sW m.x An.x) ?_;refine bV (fun _=>(sW m.y An.y)) ?_;refine gC (fun z=>?_) (fun z=>?_)
   ·have h6:=uc z;have e2:fi b.pts q = 3:=by unfold fi; rw [qR,atd (by rw [h4]; decide),atd Ao,atd (by rintro ⟨g1,g2⟩; rcases h6 with g | g; (rw [g1] at g; cases g); (rw [g2] at g; cases g))]
    have e3:fv bs k=3:=by rw[e1,fx fo j7 (by rw[e2];decide),e2]
    refine ah ?_;rw[fx af hj (by rw[e3];decide),e3];rfl
   have h6:=tb z;have e2:fi b.pts q=0:=by unfold fi;rw[qR,atd (by rw[h4];decide),atd Ao,ate h6]
   refine ga aL ?_;exact aM J3 (q+1) ⟨fo,fun j h9=>by rcases asb j q with g |g;exact j7 j g;(have:j=q:=by omega);subst this;exact e2⟩
  have fo:=bc hp z;subst fo;have e2:fv bs k=0:=e1.trans (ry j7);refine ga aL ?_;exact aM J1 (k+1) ⟨af,fun j h9=>by rcases asb j k with g |g;exact hj j g;(have:j=k:=by omega);subst this;exact e2⟩
 have af:=bc hi z;subst af;refine ah ?_;rw[ry hj];rfl
theorem adt(l:Li)(hl:l.ok)(j:Jt):FP 307 [l.av,j.av] (bQ (fF l j)):=by
 refine am func307 ?_;refine gC (fun z=>?_) (fun z=>?_)
 ·have h1:=Rg z;refine ah ?_;unfold fF;rw[ate h1];rfl
 have h1:=QD z;refine gl ?_;refine gc (uU j.a l.bo.length) ?_;refine cG ?_;refine bV (fun _=>(uU j.b l.bo.length)) ?_;refine gC (fun z=>?_) (fun z=>?_)
 ·have h2:=uc z;refine ah ?_;unfold fF;rw[atd h1,ate h2];rfl
 have h2:=tb z;have kC:¬(aZ j.a l.bo.length=false\/aZ j.b l.bo.length=false):=by rw[h2.1,h2.2];simp
 obtain⟨A,hA,pA,mA,zA0⟩:=vi h2.1;obtain⟨B,hB,pB,mB,zB0⟩:=vi h2.2;refine gC (fun z=>?_) (fun z=>?_)
 ·have h3:=dJ z;refine ah ?_;unfold fF;rw[atd h1,atd kC,ate h3];rfl
 have h3:=du z;refine gi (aw hB) ?_;refine gi (aw hA) ?_;refine gl ?_;refine gc (uU j.point A.pts.length) ?_;refine cG ?_;refine bV (fun _=>(uU j.on B.pts.length)) ?_;refine gD ?_;refine gC (fun z=>?_) (fun z=>?_)
 ·have h4:=uc z;refine ah ?_;unfold fF;rw[atd h1,atd kC,atd h3,pA,pB,ate h4];rfl
 have h4:=tb z;have ow:¬(aZ j.point A.pts.length=false\/aZ j.on B.pts.length=false):=by rw[h4.1,h4.2];simp
 refine gC (fun z=>?_) (fun z=>?_)
 ·have h5:=dJ z;refine gC (fun z=>?_) (fun z=>?_)
  ·have h6:=A7 z;refine ah ?_;unfold fF;rw[atd h1,atd kC,atd h3,pA,pB,atd ow,ate h5,ate h6];rfl
  have h6:=Sb z;refine ah ?_;unfold fF;rw[atd h1,atd kC,atd h3,pA,pB,atd ow,ate h5,atd (by rw[h6];simp)];rfl
 have h5:=du z;refine gl ?_;refine gc (uU j.to B.pts.length) ?_;refine gC (fun z=>?_) (fun z=>?_)
 ·have h6:=el z;refine ah ?_;unfold fF;rw[atd h1,atd kC,atd h3,pA,pB,atd ow,atd h5,ate h6];rfl
 have h6:=fP z;obtain⟨m1,g1,d1,mm1,z1⟩:=zK h4.2;obtain⟨m2,g2,d2,mm2,z2⟩:=zK h6;have mo1:=(hl.bo B mB).pts m1 mm1;have mo2:=(hl.bo B mB).pts m2 mm2;refine gi (aw g1) ?_;refine gi (aw g2) ?_;refine gD ?_;refine gc (I0 m1.x m2.x mo1.x mo2.x) ?_;refine bV (fun _=>(I0 m1.y m2.y mo1.y mo2.y)) ?_;refine gC (fun z=>?_) (fun z=>?_)
 ·have h7:=NH z;refine ah ?_;unfold fF;rw[atd h1,atd kC,atd h3,pA,pB,atd ow,atd h5,atd (by rw[h6];decide),d1,d2,ate h7];rfl
 have h7:=SE z;refine ah ?_;unfold fF;rw[atd h1,atd kC,atd h3,pA,pB,atd ow,atd h5,atd (by rw[h6];decide),d1,d2,atd h7];rfl
theorem YW(l:Li)(hl:l.ok):FP 211 [l.av] (bQ (fE l)):=by
 have md:=hl.lj;refine am func211 ?_;refine gl ?_;refine gC (fun z=>?_) (fun z=>?_)
 ·have h0:16<l.jo.length:=ee z;refine ah ?_;unfold fE;rw[ate h0];rfl
 have h0:l.jo.length<=16:=kl z;have e0:fE l=fI l.jo.length (iK l):=by unfold fE;rw[atd oz]
 refine gl ?_;refine aP [1,14,15] [1] (fun(i:Nat)=>[pP 16 (i64 i)]) (fun _=>[]) (fun i=>i<=l.jo.length/\∀j,j<i->iK l j=0) (fun i=>l.jo.length-i) 0 ⟨ase _,fun j h=>by omega⟩ ?_;rintro i ⟨hi,hj⟩ K1 J1;refine gC (fun z=>?_) (fun z=>?_)
 ·have af:=aT z;obtain⟨b,hb⟩:=aJ af;have dq:l.jo.getD i default=b:=aS hb;have jK:=ri Jt.name hb;refine gi (aw hb) ?_;refine gc (xO b.name (hl.jnames b (ar1 hb))) ?_;refine gC (fun z=>?_) (fun z=>?_)
  ·have h1:=el z;have e1:iK l i = 5:=by unfold iK; rw [dq,ate h1]
   refine ah ?_;rw[e0,fx af hj (by rw[e1];decide),e1];rfl
  have h1:=fP z;refine gs (fC (.tmp rfl) (.none _) (.some _ (.tmp rfl) oz) T23 rfl T102 rfl oz (by simp only[ar3];omega) rfl) ?_;refine ge rfl ?_;refine aP [1,3,4,14,15,16] [1,4] (fun(k:Nat)=>[pP 29 (.lst 7 ((l.jo.take i).map Jt.av)),pP 30 (i64 i),pP 31 (i64 k)]) (fun _=>[]) (fun k=>k<=i/\(l.jo.take k).any (fun y=>ez y.name b.name)=false) (fun k=>i-k) 0 ⟨ase _,rfl⟩ ?_ (h1:=(.cons rfl (.of (zq 7 Jt.av l.jo i)) (.cons rfl (Sub.int (by simp;omega)) (.k .nil))));rintro k ⟨hk,hd⟩ K2 J2;refine gC (fun z=>?_) (fun z=>?_)
  ·have bh:=aT z;obtain ⟨y,hy'⟩:∃ y,(l.jo.take i)[k]? = some y:=aJ (by simp; omega);have hy:=(yo hy').1;refine gi (aw hy') ?_;refine gC (fun z=>?_) (fun z=>?_)
   ·have h2:ez y.name b.name = true:=z;have e1:iK l i = 6:=by unfold iK; rw [dq,atd (by rw [h1]; decide),ate (by rw [jK]; exact oD hy bh h2)]
    refine ah ?_;rw[e0,fx af hj (by rw[e1];decide),e1];rfl
   have h2:ez y.name b.name=false:=z;refine ga aL ?_;exact aM J2 (k+1) ⟨bh,nI hy hd h2⟩
  have bh:=bc hk z;subst bh;have cE:¬ic (l.jo.map Jt.name) k=true:=by rw[jK,hd];decide
  have e1:iK l k=fF l b:=by unfold iK;rw[dq,atd (by rw[h1];decide),atd cE]
  refine gc (adt l hl b) ?_;refine gC (fun z=>?_) (fun z=>?_)
  ·have h3:=gQ z;refine ah ?_;rw[e0,fx af hj (by rw[e1];exact h3),e1]
  have h3:=gV z;refine ga aL ?_;exact aM J1 (k+1) ⟨af,fun j h9=>by rcases asb j k with g |g;exact hj j g;(have:j=k:=by omega);subst this;exact e1.trans h3⟩
 have af:=bc hi z;subst af;refine ah ?_;rw[e0,ry hj];rfl
theorem afs(l:Li)(hl:l.ok):FP 212 [l.av] (bQ (iW l)):=by
 have xj:=hl.ld;refine am func212 ?_;refine gl ?_;refine gC (fun z=>?_) (fun z=>?_)
 ·have h0:2<l.drivers.length:=ee z;refine ah ?_;unfold iW;rw[ate h0];rfl
 have h0:l.drivers.length<=2:=kl z;have e0:iW l=fI l.drivers.length (eL l):=by unfold iW;rw[atd oz]
 refine gl ?_;refine aP [1,15,16] [1] (fun(i:Nat)=>[pP 17 (i64 i)]) (fun _=>[]) (fun i=>i<=l.drivers.length/\∀j,j<i->eL l j=0) (fun i=>l.drivers.length-i) 0 ⟨ase _,fun j h=>by omega⟩ ?_;rintro i ⟨hi,hj⟩ K1 J1;refine gC (fun z=>?_) (fun z=>?_)
 ·have af:=aT z;obtain⟨b,hb⟩:=aJ af;have dq:l.drivers.getD i default=b:=aS hb;have jK:=ri Dr.name hb;refine gi (aw hb) ?_;refine gc (xO b.name (hl.dnames b (ar1 hb))) ?_;refine gC (fun z=>?_) (fun z=>?_)
  ·have h1:=el z;have e1:eL l i = 5:=by unfold eL; rw [dq,ate h1]
   refine ah ?_;rw[e0,fx af hj (by rw[e1];decide),e1];rfl
  have h1:=fP z;refine gs (fC (.tmp rfl) (.none _) (.some _ (.tmp rfl) oz) T24 rfl T73 rfl oz (by simp only[ar3];omega) rfl) ?_;refine ge rfl ?_;refine aP [1,3,4,15,16,17] [1,4] (fun(k:Nat)=>[pP 30 (.lst 2 ((l.drivers.take i).map Dr.av)),pP 31 (i64 i),pP 32 (i64 k)]) (fun _=>[]) (fun k=>k<=i/\(l.drivers.take k).any (fun y=>ez y.name b.name)=false) (fun k=>i-k) 0 ⟨ase _,rfl⟩ ?_ (h1:=(.cons rfl (.of (zq 2 Dr.av l.drivers i)) (.cons rfl (Sub.int (by simp;omega)) (.k .nil))));rintro k ⟨hk,hd⟩ K2 J2;refine gC (fun z=>?_) (fun z=>?_)
  ·have bh:=aT z;obtain ⟨y,hy'⟩:∃ y,(l.drivers.take i)[k]? = some y:=aJ (by simp; omega);have hy:=(yo hy').1;refine gi (aw hy') ?_;refine gC (fun z=>?_) (fun z=>?_)
   ·have h2:ez y.name b.name = true:=z;have e1:eL l i = 6:=by unfold eL; rw [dq,atd (by rw [h1]; decide),ate (by rw [jK]; exact oD hy bh h2)]
    refine ah ?_;rw[e0,fx af hj (by rw[e1];decide),e1];rfl
   have h2:ez y.name b.name=false:=z;refine ga aL ?_;exact aM J2 (k+1) ⟨bh,nI hy hd h2⟩
  have bh:=bc hk z;subst bh;have cE:¬ic (l.drivers.map Dr.name) k=true:=by rw[jK,hd];decide
  refine gl ?_;refine gc (uU b.body l.bo.length) ?_;refine gC (fun z=>?_) (fun z=>?_)
  ·have h3:=el z;have e1:eL l k = 9:=by unfold eL; rw [dq,atd (by rw [h1]; decide),atd cE,ate h3]
   refine ah ?_;rw[e0,fx af hj (by rw[e1];decide),e1];rfl
  have h3:=fP z;refine gC (fun z=>?_) (fun z=>?_)
  ·have h4:=dJ z;have e1:eL l k = 7:=by unfold eL; rw [dq,atd (by rw [h1]; decide),atd cE,atd (by rw [h3]; decide),ate h4]
   refine ah ?_;rw[e0,fx af hj (by rw[e1];decide),e1];rfl
  have h4:=du z;have e1:eL l k=if(l.drivers.take k).any (fun d=>decide (d.body=b.body))=true then 6 else 0:=by unfold eL;rw[dq,atd (by rw[h1];decide),atd cE,atd (by rw[h3];decide),atd h4]
  refine gs (fC (.tmp rfl) (.none _) (.some _ (.tmp rfl) oz) T24 rfl T73 rfl oz (by simp only[ar3];omega) rfl) ?_;refine ge rfl ?_;refine aP [1,4,15,16,17] [1,4] (fun(q:Nat)=>[pP 58 (.lst 2 ((l.drivers.take k).map Dr.av)),pP 59 (i64 k),pP 60 (i64 q)]) (fun _=>[]) (fun q=>q<=k/\(l.drivers.take q).any (fun d=>decide (d.body=b.body))=false) (fun q=>k-q) 0 ⟨ase _,rfl⟩ ?_ (h1:=(.cons rfl (.of (zq 2 Dr.av l.drivers k)) (.cons rfl (Sub.int (by simp;omega)) (.k .nil))));rintro q ⟨hq,ov⟩ K3 J3;refine gC (fun z=>?_) (fun z=>?_)
  ·have bH:=aT z;obtain ⟨y,hy'⟩:∃ y,(l.drivers.take k)[q]? = some y:=aJ (by simp; omega);have hy:=(yo hy').1;refine gi (aw hy') ?_;refine gC (fun z=>?_) (fun z=>?_)
   ·have h5:decide (y.body = b.body) = true:=ati (dJ z);have e2:eL l k = 6:=by rw [e1,ate (oD hy bH h5)]
    refine ah ?_;rw[e0,fx af hj (by rw[e2];decide),e2];rfl
   have h5:decide (y.body=b.body)=false:=atj (du z);refine ga aL ?_;exact aM J3 (q+1) ⟨bH,nI hy ov h5⟩
  have bH:=bc hq z;subst bH;have e2:eL l q=0:=by rw[e1,ov];rfl
  refine ga aL ?_;exact aM J1 (q+1) ⟨af,fun j h9=>by rcases asb j q with g |g;exact hj j g;(have:j=q:=by omega);subst this;exact e2⟩
 have af:=bc hi z;subst af;refine ah ?_;rw[e0,ry hj];rfl
theorem Qq(l:Li)(hl:l.ok):FP 110 [l.av] (bQ (ax l)):=by
 have eY:=hl.lb;refine am func110 ?_;refine gc (xO l.name hl.name) ?_;refine gC (fun z=>?_) (fun z=>?_)
 ·have h1:=el z;refine ah ?_;unfold ax;rw[ate h1];rfl
 have h1:=fP z;refine gl ?_;refine gC (fun z=>?_) (fun z=>?_)
 ·have h2:=Rd z;refine ah ?_;unfold ax;rw[atd (by rw[h1];decide),ate h2];rfl
 have h2:=LD z;refine gl ?_;refine gC (fun z=>?_) (fun z=>?_)
 ·have h3:8<l.bo.length:=ee z;refine ah ?_;unfold ax;rw[atd (by rw[h1];decide),atd h2,ate h3];rfl
 have h3:l.bo.length<=8:=kl z;have e0:ax l=if jx l≠0 then jx l else if fE l≠0 then fE l else iW l:=by unfold ax;rw[atd (by rw[h1];decide),atd h2,atd oz]
 refine gc (Ye l.bo hl.bo eY) ?_;refine gC (fun z=>?_) (fun z=>?_)
 ·have h4:jx l≠0:=gQ z;refine ah ?_;rw[e0,ate h4];rfl
 have h4:jx l=0:=gV z;refine gc (YW l hl) ?_;refine gC (fun z=>?_) (fun z=>?_)
 ·have h5:=gQ z;refine ah ?_;rw[e0,atd (by rw[h4];simp),ate h5]
 have h5:=gV z;refine gc (afs l hl) ?_;refine ah ?_;rw[e0,atd (by rw[h4];simp),atd (by rw[h5];simp)]
theorem HH(d:Nat)(hd:aob d 1000=true)(l:Li)(hl:l.bo.length<=1000)(b:Nat)(hb:b<l.bo.length) :
  Con prog 289 [l.av,i64 b] [] (.ms d 1 0 l.bo.length) [(d,some (.row 1 ((dA l.bo.length b).map bl)))]:=by
 refine gF func289 (fun k z h=>by cases h) ?_;refine gl ?_;refine gs (it (.tmp rfl) T92 rfl T4 rfl rfl oz (by dsimp only;omega) rfl) ?_;refine gs (mL (.tmp rfl) (.tmp rfl) T92 rfl T4 rfl oz oz rfl) ?_;refine gs (dS (.tmp rfl) rfl (by rw[ast,ate (by simp;omega)]) rfl (.const _) rfl rfl T4 rfl rfl) ?_ (3,0);refine gW (Wk.of (sl:=[pP 5 (.ms 9 1 0 l.bo.length)]) (hp:=[pP 9 (.row 1 ((dA l.bo.length b).map bl))]) (.cons rfl (.of (by rw[as4])) .nil) (.cons rfl (.of (by unfold dA;simp only[as7,as5,aoj,as4];rfl)) .nil)) ?_ (3,0);refine gW (Wk.rk (k:=9) (d:=900) rfl rfl) ?_;refine gR ?_;exact aD.own1 rfl hd rfl
theorem ahg(l:Li)(hl:l.bo.length<=1000)(b:Nat)(hb:b<l.bo.length):FP 289 [l.av,i64 b] (.lst 1 ((dA l.bo.length b).map bl)):=by
 have h:=Con.freeze (by rw[ar3,kp];omega) (HH 0 rfl l hl b hb);rw[as8,asn (by rw[ar3,kp];exact ar8 _)]at h;exact h
theorem aga(l:Li)(hl:l.ok)(b:Int):FP 403 [l.av,i64 b] (bl (wE l b)):=by
 have xj:=hl.ld;refine am func403 ?_;refine gl ?_;refine aP [1,8,9] [] (fun(i:Nat)=>[pP 10 (i64 i)]) (fun _=>[]) (fun i=>i<=l.drivers.length/\(l.drivers.take i).any (fun d=>decide (d.body=b))=false) (fun i=>l.drivers.length-i) 0 ⟨ase _,rfl⟩ ?_;rintro i ⟨hi,hj⟩ K1 J1;refine gC (fun z=>?_) (fun z=>?_)
 ·have af:=aT z;obtain⟨d,hd⟩:=aJ af;refine gi (aw hd) ?_;refine gC (fun z=>?_) (fun z=>?_)
  ·have h1:d.body=b:=dJ z;refine ah ?_;unfold wE;rw[List.any_eq_true.2 ⟨d,ar1 hd,ati h1⟩];rfl
  have h1:d.body≠b:=du z;refine ga aL ?_;exact aM J1 (i+1) ⟨af,nI hd hj (atj h1)⟩
 have af:=bc hi z;subst af;rw[asK]at hj;refine ah ?_;unfold wE;rw[hj];rfl
theorem Sj(l:Li)(hl:l.ok)(ae:ax l=0)(kind body:Int)(oth:List Bool)(ho:oth.length=l.bo.length):FP 368 [l.av,i64 kind,i64 body,.lst 1 (oth.map bl)] (i64 (cc l kind body oth)):=by
 have md:=hl.lj;refine am func368 ?_;refine gl ?_;refine aP [1,2,3,12,13] [] (fun(i:Nat)=>[pP 14 (i64 i)]) (fun _=>[]) (fun i=>i<=l.jo.length/\∀j,j<i->(!oM kind body oth (l.jo.getD j default))=true) (fun i=>l.jo.length-i) 0 ⟨ase _,fun j h=>by omega⟩ ?_;rintro i ⟨hi,hj⟩ K1 J1;refine gC (fun z=>?_) (fun z=>?_)
 ·have af:=aT z;obtain⟨j,qO⟩:=aJ af;have sI:l.jo.getD i default=j:=aS qO;obtain⟨i1,i2,_⟩:=cJ ae qO;have b1:=fd i1;have b2:=fd i2;obtain⟨va,Uu⟩:∃v,oth[j.a.toNat]?=some v:=aJ oz;obtain⟨vb,EP⟩:∃v,oth[j.b.toNat]?=some v:=aJ oz;have ea:kn oth j.a=va:=aS Uu;have eb:kn oth j.b=vb:=aS EP;refine gi (aw qO) ?_;refine nJ (fun _=>(eI (n:=j.b.toNat) oz EP)) ?_;refine nJ (fun _=>(eI (n:=j.a.toNat) oz Uu)) ?_;refine gC (fun z=>?_) (fun z=>?_)
  ·have h2 : oM kind body oth j = true := by rw [<- Kw (va := va) (vb := vb) ea eb]; exact z
   refine ah ?_;unfold cc;rw[lL af hj (by rw[sI,h2];rfl)];rfl
  have h2:oM kind body oth j=false:=by rw[<- Kw (va:=va) (vb:=vb) ea eb];exact z
  refine ga aL ?_;exact aM J1 (i+1) ⟨af,fun k h9=>by rcases asb k i with g |g;exact hj k g;(have:k=i:=by omega);subst this;rw[sI,h2];rfl⟩
 have af:=bc hi z;subst af;refine ah ?_;unfold cc;rw[mz hj];rfl
theorem aag(l:Li)(hl:l.ok)(kw:List Bool)(b:Nat)(hb:b<kw.length):FP 369 [l.av,.lst 1 (kw.map bl),i64 b] (bl (gg l kw b)):=by
 obtain⟨v,hv⟩:=aJ hb;have ev:kn kw (b:Int)=v:=aS (by rw[as4];exact hv);refine am func369 ?_;refine gi (aw hv) ?_;refine bV (fun _=>(aga l hl b)) ?_;refine ah ?_;unfold gg;rw[ev];exact atl bl (oP _ _)
theorem zP{l:Li}{kw:List Bool}(hl:l.ok)(ae:ax l=0)(kind body:Int)(hk:kw.length=l.bo.length) :
  Con prog 368 [l.av,i64 kind,i64 body,.ms 1000 1 0 kw.length] [pP 1000 (.row 1 (kw.map bl))] (i64 (cc l kind body kw)) [pP 1000 (.row 1 (kw.map bl))]:=by
 refine Con.borrow (args:=[l.av,i64 kind,i64 body,.lst 1 (kw.map bl)]) 1000 1 (kw.map bl) rfl rfl rfl ?_ rfl (fun k' x h=>by cases h) (Sj l hl ae kind body kw hk);intro j x' hj
 match j,hj with
 |0,hj=>cases hj;exact .inl rfl
 |1,hj=>cases hj;exact .inl rfl
 |2,hj=>cases hj;exact .inl rfl
 |3,hj=>cases hj;exact .inr ⟨0,kw.length,rfl,by simp,by rw[as8,asn (by simp)];rfl⟩
theorem Ik{l:Li}{kw:List Bool}(hl:l.ok)(b:Nat)(hb:b<kw.length) :
  Con prog 369 [l.av,.ms 1000 1 0 kw.length,i64 b] [pP 1000 (.row 1 (kw.map bl))] (bl (gg l kw b)) [pP 1000 (.row 1 (kw.map bl))]:=by
 refine Con.borrow (args:=[l.av,.lst 1 (kw.map bl),i64 b]) 1000 1 (kw.map bl) rfl rfl rfl ?_ rfl (fun k' x h=>by cases h) (aag l hl kw b hb);intro j x' hj
 match j,hj with
 |0,hj=>cases hj;exact .inl rfl
 |1,hj=>cases hj;exact .inr ⟨0,kw.length,rfl,by simp,by rw[as8,asn (by simp)];rfl⟩
 |2,hj=>cases hj;exact .inl rfl
theorem aha(l:Li)(hl:l.ok)(ae:ax l=0)(kw:List Bool)(hk:kw.length=l.bo.length):Con prog 290 [l.av,.ms 1000 1 0 kw.length] [pP 1000 (.row 1 (kw.map bl))] (.tup [((eF l kw).getD default).av,bl (eF l kw).isSome]) [pP 1000 (.row 1 (kw.map bl))]:=by
 have xj:=hl.ld;refine gF func290 (fun k z h=>bD h) ?_;refine gl ?_;refine aP [2,4,10,11] [2,4,1000] (fun(i:Nat)=>[pP 1 (.ms 1000 1 0 kw.length),pP 12 (i64 i)]) (fun _=>[]) (fun i=>i<=l.drivers.length/\∀j,j<i->(!iD l kw j)=true) (fun i=>l.drivers.length-i) 0 ⟨ase _,fun j h=>by omega⟩ ?_;rintro i ⟨hi,hj⟩ K1 J1;refine gC (fun y=>?_) (fun y=>?_)
 ·have af:=aT y;obtain ⟨d,hd⟩:=aJ af;have gn:l.drivers.getD i default = d:=aS hd;have hb:=fd (uk ae hd);obtain ⟨v,hv⟩:∃ v,kw[d.body.toNat]? = some v:=aJ oz;have ev:kn kw d.body = v:=aS hv;refine gi (aw hd) ?_;refine gs (mL (.tmp rfl) (.tmp rfl) T92 rfl T4 rfl oz oz rfl) ?_;refine gs (dt (.tmp rfl) rfl (by rw [aoj,asa,hv]; rfl) T4 rfl rfl rfl) ?_;refine gC (fun y=>?_) (fun y=>?_)
  ·have h2 : iD l kw i = false := by unfold iD; rw [gn, ev, y]; rfl
   refine ga aL ?_;exact aM J1 (i+1) ⟨af,fun k h9=>by rcases asb k i with g |g;exact hj k g;(have:k=i:=by omega);subst this;rw[h2];rfl⟩
  have ol:v=false:=y;refine gt (rm (zP hl ae 0 d.body hk) (.cons (.tmp rfl) (.cons (.const _) (b9 rfl rfl))) rfl rfl rfl) ?_;refine gC (fun y=>?_) (fun y=>?_)
  ·have h2 : iD l kw i = true := by unfold iD; rw [gn, ev, ol, ati (OM y)]; rfl
   have hg:eF l kw=some ⟨0,[d.body],[cc l 0 d.body kw],i⟩:=by unfold eF;rw[lL af hj (by rw[h2];rfl),<- gn];rfl
   refine gR ?_;rw[hg];exact aD.keep (bt rfl)
  have h2:iD l kw i=false:=by unfold iD;rw[gn,atj (Sl y),arc]
  refine ga aL ?_;exact aM J1 (i+1) ⟨af,fun k h9=>by rcases asb k i with g |g;exact hj k g;(have:k=i:=by omega);subst this;rw[h2];rfl⟩
 have af:=bc hi y;subst af;have hg:eF l kw=none:=by unfold eF;rw[mz hj];rfl
 refine gR ?_;exact aD.sub (aD.keep (bt rfl)) (by rw[hg];exact Sub.tup (.cons w7 (.cons (.refl _) .nil)))
theorem aa2(l:Li)(hl:l.ok)(ae:ax l=0)(kw:List Bool)(hk:kw.length=l.bo.length):Con prog 291 [l.av,.ms 1000 1 0 kw.length] [pP 1000 (.row 1 (kw.map bl))] (.tup [((dK l kw).getD default).av,bl (dK l kw).isSome]) [pP 1000 (.row 1 (kw.map bl))]:=by
 have h8:=(f8 ae).2.2.2.1;refine gF func291 (fun k z h=>bD h) ?_;refine gl ?_;refine aP [2,4,12,13] [2,4,1000] (fun(i:Nat)=>[pP 1 (.ms 1000 1 0 kw.length),pP 14 (i64 i)]) (fun _=>[]) (fun i=>i<=l.bo.length/\∀j,j<i->(jw l kw j).isNone=true) (fun i=>l.bo.length-i) 0 ⟨ase _,fun j h=>by omega⟩ ?_;rintro i ⟨hi,hj⟩ K1 J1;refine gC (fun y=>?_) (fun y=>?_)
 ·have af:=aT y;refine ga aL ?_;refine aP [2,4,6,12,13,14] [2,4,1000] (fun (k:Nat)=>[pP 1 (.ms 1000 1 0 kw.length),pP 7 (i64 (i + 1 + k:Nat))]) (fun _=>[]) (fun k=>i + 1 + k <= l.bo.length /\ ∀ j,j < k -> (!d9 l kw i (i + 1 + j)) = true) (fun k=>l.bo.length - k) 0 ⟨by omega,fun j h=>by omega⟩ ?_;rintro k ⟨hkl,jl⟩ K2 J2;refine gl ?_;refine gC (fun y=>?_) (fun y=>?_)
  ·have bh:i+1+k<l.bo.length:=aT y;refine gt (rm (Ik hl i oz) (aB rfl rfl rfl) rfl rfl rfl) ?_;refine gu (fM rfl rfl rfl (fun h=>rm (Ik hl (i+1+k) oz) (.cons (.opt rfl (o1 h)) (.cons (.opt rfl (o1 h)) (.cons (.opt rfl (o1 h)) .nil))) rfl rfl rfl)) ?_;refine gC (fun y=>?_) (fun y=>?_)
   ·have h2 : d9 l kw i (i + 1 + k) = false := by unfold d9; rw [show (gg l kw i && gg l kw ((i + 1 + k : Nat) : Int)) = false from by rcases uc y with g | g; (rw [g]; rfl); (rw [g, arc])]; rfl
    refine ga aL ?_;exact aM J2 (k+1) ⟨by omega,fun j h9=>by rcases asb j k with g |g;exact jl j g;(have:j=k:=by omega);subst this;rw[h2];rfl⟩
   have xk:=tb y;refine gt (rm (zP hl ae 0 i hk) (.cons (.tmp rfl) (.cons (.const _) (b9 rfl rfl))) rfl rfl rfl) ?_;refine gt (rm (zP hl ae 0 (i+1+k:Nat) hk) (.cons (.tmp rfl) (.cons (.const _) (b9 rfl rfl))) rfl rfl rfl) ?_;refine gc (ahg l oz (i+1+k) bh) ?_;refine gc (Sj l hl ae 0 i (dA l.bo.length ((i+1+k:Nat):Int)) (kp _ _)) ?_;refine gD ?_;refine gC (fun y=>?_) (fun y=>?_)
   ·have h2 : d9 l kw i (i + 1 + k) = true := by unfold d9; rw [xk.1, xk.2]; exact (AM.symm.trans y)
    have mc:jw l kw i=some (i+1+k):=by unfold jw;rw[lL oz jl (by rw[h2];rfl),arz];congr 1;omega
    have hg:dK l kw=some (jz l kw i (i+1+k)):=by unfold dK;rw[lL af hj (by rw[mc];rfl),arz,mc]
    refine gR ?_;rw[hg];exact aD.keep (bt rfl)
   have h2:d9 l kw i (i+1+k)=false:=by unfold d9;rw[show(decide (0<=cc l 0 i kw)&&decide (0<=cc l 0 ((i+1+k:Nat):Int) kw)&&decide (0<=cc l 0 i (dA l.bo.length ((i+1+k:Nat):Int))))=false from AM.symm.trans y,arc]
   refine ga aL ?_;exact aM J2 (k+1) ⟨by omega,fun j h9=>by rcases asb j k with g |g;exact jl j g;(have:j=k:=by omega);subst this;rw[h2];rfl⟩
  have bh:¬i+1+k<l.bo.length:=fun h=>by have h1:=vL y;omega
  have mc:jw l kw i=none:=by unfold jw;rw[show l.bo.length-(i+1)=k by omega,mz jl];rfl
  refine ga aL ?_;exact aM J1 (i+1) ⟨af,fun j h9=>by rcases asb j i with g |g;exact hj j g;(have:j=i:=by omega);subst this;rw[mc];rfl⟩
 have af:=bc hi y;have hg:dK l kw=none:=by unfold dK;rw[<- af,mz hj];rfl
 refine gR ?_;exact aD.sub (aD.keep (bt rfl)) (by rw[hg];exact Sub.tup (.cons w7 (.cons (.refl _) .nil)))
theorem Vt(l:Li)(hl:l.ok)(ae:ax l=0)(kw:List Bool)(hk:kw.length=l.bo.length):Con prog 292 [l.av,.ms 1000 1 0 kw.length] [pP 1000 (.row 1 (kw.map bl))] (.tup [((fw l kw).getD default).av,bl (fw l kw).isSome]) [pP 1000 (.row 1 (kw.map bl))]:=by
 have h8:=(f8 ae).2.2.2.1;refine gF func292 (fun k z h=>bD h) ?_;refine gl ?_;refine aP [2,4,11,12] [2,4,1000] (fun(i:Nat)=>[pP 1 (.ms 1000 1 0 kw.length),pP 13 (i64 i)]) (fun _=>[]) (fun i=>i<=l.bo.length/\∀j,j<i->(!ip l kw j)=true) (fun i=>l.bo.length-i) 0 ⟨ase _,fun j h=>by omega⟩ ?_;rintro i ⟨hi,hj⟩ K1 J1;refine gC (fun y=>?_) (fun y=>?_)
 ·have af:=aT y;refine gt (rm (Ik hl i oz) (aB rfl rfl rfl) rfl rfl rfl) ?_;refine gC (fun y=>?_) (fun y=>?_)
  ·have h2 : ip l kw i = false := by unfold ip; rw [el y]; rfl
   refine ga aL ?_;exact aM J1 (i+1) ⟨af,fun k h9=>by rcases asb k i with g |g;exact hj k g;(have:k=i:=by omega);subst this;rw[h2];rfl⟩
  have hf:=fP y;refine gt (rm (zP hl ae 0 i hk) (.cons (.tmp rfl) (.cons (.const _) (b9 rfl rfl))) rfl rfl rfl) ?_;refine gt (rm (zP hl ae 1 i hk) (.cons (.tmp rfl) (.cons (.const _) (b9 rfl rfl))) rfl rfl rfl) ?_;refine gD ?_;refine gC (fun y=>?_) (fun y=>?_)
  ·have h2 : ip l kw i = false := by unfold ip; rw [Qe y, arc]
   refine ga aL ?_;exact aM J1 (i+1) ⟨af,fun k h9=>by rcases asb k i with g |g;exact hj k g;(have:k=i:=by omega);subst this;rw[h2];rfl⟩
  obtain⟨p0,s0⟩:=Oc y;have s1:=(rX (l:=l) (kind:=1) (body:=i) (oth:=kw)).2;have h2:ip l kw i=true:=by unfold ip;rw[hf,ati p0,ati s0];rfl
  obtain⟨j,qO⟩:∃j,l.jo[(cc l 1 i kw).toNat]?=some j:=aJ oz;have sI:l.jo.getD (cc l 1 i kw).toNat default=j:=aS qO;have hg:fw l kw=some (jR l kw i):=by unfold fw;rw[lL af hj (by rw[h2];rfl),arz]
  refine gi (eI (n:=(cc l 1 i kw).toNat) oz qO) ?_;refine gC (fun y=>?_) (fun y=>?_)
  ·have qQ:j.a=i:=dJ y;refine gR ?_;rw[hg];unfold jR;rw[sI];simp only[ary,ate qQ]
   exact aD.keep (bt rfl)
  have qQ:j.a≠i:=du y;refine gR ?_;rw[hg];unfold jR;rw[sI];simp only[ary,atd qQ]
  exact aD.keep (bt rfl)
 have af:=bc hi y;have hg:fw l kw=none:=by unfold fw;rw[<- af,mz hj];rfl
 refine gR ?_;exact aD.sub (aD.keep (bt rfl)) (by rw[hg];exact Sub.tup (.cons w7 (.cons (.refl _) .nil)))
theorem HA{k:List Bool}{bs:List Int}{q:Nat}{x:Int}(h:bs[q]?=some x):bw k (bs.drop q)=bw (k.set x.toNat true) (bs.drop (q+1)):=by
 have hi:=(ap9.1 h).1;rw[ap7 hi,(ap9.1 h).2];rfl
theorem aho{l:Li}{n:Nat}{kw:List Bool}{out:List Gr}{g:Gr}(h:cM l kw=some g):dj l (n+1) kw out=dj l n (bw kw g.bo) (out++[g]):=by
 show(match cM l kw with |none=>_ |some g=>_)=_;rw[h]
theorem We{l:Li}{n:Nat}{kw:List Bool}{out:List Gr}(h:cM l kw=none):dj l n kw out=(kw,out):=by
 cases n with
 |zero=>rfl
 |succ n=>show(match cM l kw with |none=>_ |some g=>_)=_;rw[h]
theorem GZ{α:Type}{o:Option α}(h:o.isSome=false):o=none:=by cases o <;> simp_all
theorem KD{α:Type}{a b:Option α}(h:a.isSome=true):a=a.or b:=by cases a <;> simp_all
theorem VF{l:Li}{kw:List Bool}(h:(eF l kw).or (dK l kw)=none):cM l kw=fw l kw:=by
 unfold cM;rw[<- Option.or_assoc,h];rfl
theorem ZZ{l:Li}{kw:List Bool}(h:((eF l kw).or (dK l kw)).isSome=true):cM l kw=(eF l kw).or (dK l kw):=by
 unfold cM;rw[<- Option.or_assoc];exact(KD h).symm
theorem QB(l:Li)(hl:l.ok)(ae:ax l=0):FP 191 [l.av] (.lst 4 ((cP l).map Gr.av)):=by
 have h8:=(f8 ae).2.2.2.1;have h0:=(f8 ae).2.2.2.2;refine am func191 ?_;refine gt (aG (HH 900 rfl l oz 0 oz) (.cons (.tmp rfl) (.cons (.const _) .nil)) aK rfl rfl) ?_;refine gl ?_;refine gW (Wk.virt 901 4 rfl) ?_;refine kq [1,13] [1] (fun(i:Nat)(kw:List Bool)(out:List Gr)=>[pP 3 (.ms 900 1 0 kw.length),pP 4 (.ms 901 4 0 out.length),pP 14 (i64 i)]) (fun _ kw out=>[pP 900 (.row 1 (kw.map bl)),pP 901 (.row 4 (out.map Gr.av))]) (fun i kw out=>i<=l.bo.length/\kw.length=l.bo.length/\out.length<=i/\dj l (l.bo.length-i) kw out=dj l l.bo.length (dA l.bo.length 0) []) (fun i _ _=>l.bo.length-i) 0 (dA l.bo.length 0) ([]) ⟨ase _,kp _ _,ar8 _,rfl⟩ ?_ (h1:=(.cons rfl (.of (by rw[kp])) (.k (.k .nil))))
 rintro i kw out ⟨hi,hk,m8,xk⟩ K1 J1;refine gC (fun z=>?_) (fun z=>?_) (st2:=(18,0))
 ·have af:=aT z;have hO:=Con.rekey1 900 rfl rfl rfl (aha l hl ae kw hk);have sJ:=Con.rekey1 900 rfl rfl rfl (aa2 l hl ae kw hk);have fL:=Con.rekey1 900 rfl rfl rfl (Vt l hl ae kw hk);refine gt (aG hO (b9 rfl rfl) aK rfl rfl) ?_;refine Gc [1,5,13,14] [1,900,901] (fun(o:Option Gr)=>[pP 3 (.ms 900 1 0 kw.length),pP 4 (.ms 901 4 0 out.length),pP 6 (bl o.isSome)]) (fun o=>[pP 5 (.box (o.getD default).av.cells)]) (fun o=>o=(eF l kw).or (dK l kw)) ?_ ?_
  ·intro K2 J2;refine gC (fun z=>?_) (fun z=>?_)
   ·refine gt (aG sJ (b9 rfl rfl) aK rfl rfl) ?_;exact vZ J2 (dK l kw) (by rw[GZ (el z)];rfl)
   exact vZ J2 (eF l kw) (KD (fP z))
  rintro o ho;refine Gc [1,5,13,14] [1,900,901] (fun(og:Option Gr)=>[pP 3 (.ms 900 1 0 kw.length),pP 4 (.ms 901 4 0 out.length),pP 6 (bl og.isSome)]) (fun og=>[pP 5 (.box (og.getD default).av.cells)]) (fun og=>og=cM l kw) ?_ ?_
  ·intro K3 J3;refine gC (fun z=>?_) (fun z=>?_)
   ·refine gt (aG fL (b9 rfl rfl) aK rfl rfl) ?_;exact vZ J3 (fw l kw) (by have:=GZ (el z);rw[ho]at this;exact(VF this).symm)
   exact vZ J3 o (by rw[ho];exact(ZZ (by rw[<- ho];exact fP z)).symm)
  rintro og sD;refine gC (fun z=>?_) (fun z=>?_) (st1:=(18,0))
  ·have hn : cM l kw = none := by rw [<- sD]; exact GZ (el z)
   have lg:cP l=out:=by unfold cP;rw[<- xk,We hn]
   refine gW ((Wk.freeze (k:=901) rfl).trans<|Wk.of (sl:=[pP 4 (.lst 4 ((cP l).map Gr.av))]) (hp:=[]) (.cons rfl (.of (by rw[lg,cq (by rw[ar3])])) .nil) .nil) ?_;refine ah ?_;rfl
  obtain⟨g,hg⟩:∃g,og=some g:=Option.isSome_iff_exists.1 (fP z);have EQ:cM l kw=some g:=by rw[<- sD,hg]
  have dM:=Iw ae EQ;subst hg;refine gs (eQ (.tmp rfl) rfl (by rw[ar3]) (.tmp rfl) T53 rfl T104 rfl rfl (by dsimp only;simp only[asi,asu];omega) rfl rfl) ?_ (12,0);refine gW (Wk.of (sl:=[pP 1 (.ptr 1 0),pP 3 (.ms 900 1 0 kw.length),pP 4 (.ms 43 4 0 (out++[g]).length),pP 5 (.ptr 5 0),pP 13 (i64 l.bo.length),pP 14 (i64 i)]) (hp:=[pP 1 (.box l.av.cells),pP 5 (.box g.av.cells),pP 900 (.row 1 (kw.map bl)),pP 43 (.row 4 ((out++[g]).map Gr.av))]) (.k (.k (.cons rfl (.of (by rw[asx];rfl)) (.k (.k (.k .nil)))))) (.k (.k (.k (.cons rfl (.of (by rw[asz];rfl)) .nil))))) ?_ (12,0)
  refine gW (Wk.rk (k:=43) (d:=901) rfl rfl) ?_;refine gl ?_;refine fT [1,13,14,45,46] [1,901] (fun(q:Nat)(kk:List Bool)=>[pP 3 (.ms 900 1 0 kk.length),pP 4 (.ms 901 4 0 (out++[g]).length),pP 47 (i64 q)]) (fun _ kk=>[pP 900 (.row 1 (kk.map bl))]) (fun q kk=>q<=g.bo.length/\kk.length=l.bo.length/\bw kk (g.bo.drop q)=bw kw g.bo) (fun q _=>g.bo.length-q) 0 kw ⟨ase _,hk,rfl⟩ ?_;rintro q kk ⟨hq,dg,fA⟩ K4 J4;refine gC (fun z=>?_) (fun z=>?_)
  ·have bH:=aT z;obtain⟨x,hx⟩:=aJ bH;have ox:=dM.b x (ar1 hx);obtain⟨v,hv⟩:∃v,kk[x.toNat]?=some v:=aJ oz;refine gi (aw hx) ?_;refine gs (mL (.tmp rfl) (.tmp rfl) T92 rfl T4 rfl oz oz rfl) ?_;refine gs (dS (.tmp rfl) rfl (by rw[aoj,asa,hv];rfl) rfl (.const _) rfl rfl T4 rfl rfl) ?_;refine ga (AI (by have:=dM.lb;unfold aF;omega)) ?_;exact f7 J4 (q+1) (kk.set x.toNat true) ⟨bH,by rw[as9];exact dg,by rw[<- HA hx];exact fA⟩ (hw:=Wk.of (.cons rfl (.of (by rw[as9])) (.k (.k (.k (.k (.k (.k (.k .nil)))))))) (.cons rfl (.of (by rw[as7,aoj];rfl)) (.k (.k .nil))))
  have bH:=bc hq z;have JZ:kk=bw kw g.bo:=by rw[bH,apn]at fA;exact fA
  refine ga aL ?_;exact js J1 (i+1) kk (out++[g]) ⟨af,dg,by rw[asx];simp only[asi,asu];omega,by rw[JZ,<- aho EQ,<- xk];congr 1;omega⟩
 have af:=bc hi z;have lg:cP l=out:=by unfold cP;rw[<- xk,show l.bo.length-i=0 by omega];rfl
 refine gW ((Wk.freeze (k:=901) rfl).trans<|Wk.of (sl:=[pP 4 (.lst 4 ((cP l).map Gr.av))]) (hp:=[]) (.cons rfl (.of (by rw[lg,cq (by rw[ar3])])) .nil) .nil) ?_;refine ah ?_;rfl
theorem QH{α:Type}{f:List Bool->α->List Bool}{k:List Bool}{l:List α}{i:Nat}{x:α}(h:l[i]?=some x):(l.drop i).foldl f k=(l.drop (i+1)).foldl f (f k x):=by
 have hi:=(ap9.1 h).1;rw[ap7 hi,(ap9.1 h).2];rfl
def jU(k:List Bool)(i:Nat):List Int:=((List.range i).filter (fun j=>!k.getD j false)).map (fun j:Nat=>((j:Nat):Int))
theorem Tm{k:List Bool}{i:Nat}(h:k.getD i false=false):jU k (i+1)=jU k i++[(i:Int)]:=by
 unfold jU;rw[aqi,List.filter_append,asz,List.filter_cons,h];rfl
theorem QY{k:List Bool}{i:Nat}(h:k.getD i false=true):jU k (i+1)=jU k i:=by
 unfold jU;rw[aqi,List.filter_append,asz,List.filter_cons,h];simp
theorem BR(k:List Bool)(i:Nat):(jU k i).length<=i:=by
 unfold jU;rw[ar3];exact asv (List.length_filter_le _ _) (by simp)
theorem wJ{α:Type}{f:α->List Int}:∀(gs:List α)(k:List Bool),(gs.foldl (fun k g=>bw k (f g)) k).length=k.length
 |[],k=>rfl
 |g::gs,k=>by rw[List.foldl_cons,wJ gs,nC]
theorem ZA(l:Li):(f6 (cH l)).length<=l.bo.length:=by
 have h:=BR (cH l) (cH l).length;have e:(cH l).length=l.bo.length:=by unfold cH;rw[wJ,kp]
 rw[e]at h;unfold f6;rw[e];exact h
theorem Xq(l:Li):(f6 (gq l)).length<=l.jo.length:=by
 have h:=BR (gq l) (gq l).length;have e:(gq l).length=l.jo.length:=by unfold gq;rw[wJ,asr]
 rw[e]at h;unfold f6;rw[e];exact h
theorem YX(l:Li)(hl:l.ok)(ae:ax l=0):FP 190 [l.av] (.tup [.lst 1 ((f6 (cH l)).map i64),.lst 1 ((f6 (gq l)).map i64)]):=by
 have h8:=(f8 ae).2.2.2.1;have h0:=(f8 ae).2.2.2.2;have J0:l.jo.length<=16:=by have:=(f8 ae).2.1;unfold fE at this;split at this;cases this;omega
 obtain⟨dM,J6⟩:=y9 ae;refine am func190 ?_;refine gt (aG (HH 900 rfl l oz 0 oz) (.cons (.tmp rfl) (.cons (.const _) .nil)) aK rfl rfl) ?_;refine gl ?_;refine gs (it (.tmp rfl) T92 rfl T4 rfl rfl oz (by dsimp only;omega) rfl) ?_;refine gD ?_ (2,0);refine gW (Wk.of (sl:=[pP 1 (.ptr 1 0),pP 2 (nS),pP 3 (nS),pP 4 (.ms 900 1 0 (dA l.bo.length 0).length),pP 5 (.ms 21 1 0 (apf l.jo.length false).length)]) (hp:=[pP 1 (.box l.av.cells),pP 900 (.row 1 ((dA l.bo.length 0).map bl)),pP 21 (.row 1 ((apf l.jo.length false).map bl))]) (.k (.k (.k (.cons rfl (.of (by rw[kp])) (.cons rfl (.of (by rw[asr,as4])) .nil))))) (.k (.k (.cons rfl (.of (by rw[as5,as4];rfl)) .nil)))) ?_ (2,0)
 refine gW (Wk.rk (k:=21) (d:=901) rfl rfl) ?_;refine gc (QB l hl ae) ?_;refine gl ?_;refine kq [1,2,3,23,24] [1] (fun(i:Nat)(k1 k2:List Bool)=>[pP 4 (.ms 900 1 0 k1.length),pP 5 (.ms 901 1 0 k2.length),pP 25 (i64 i)]) (fun _ k1 k2=>[pP 900 (.row 1 (k1.map bl)),pP 901 (.row 1 (k2.map bl))]) (fun i k1 k2=>i<=(cP l).length/\k1.length=l.bo.length/\k2.length=l.jo.length/\((cP l).drop i).foldl (fun k g=>bw k g.bo) k1=cH l/\((cP l).drop i).foldl (fun k g=>bw k g.jo) k2=gq l) (fun i _ _=>(cP l).length-i) 0 (dA l.bo.length 0) (apf l.jo.length false) ⟨ase _,kp _ _,asr,rfl,rfl⟩ ?_
 rintro i k1 k2 ⟨hi,iA,cg,J7,J8⟩ K1 J1;refine gC (fun z=>?_) (fun z=>?_)
 ·have af:=aT z;obtain⟨g,hg⟩:=aJ af;have ER:=dM g (ar1 hg);have eY:=ER.lb;have md:=ER.lj;refine gi (aw hg) ?_;refine gl ?_;refine fT [1,2,3,7,23,24,25,30,31] [1,7,901] (fun(q:Nat)(kk:List Bool)=>[pP 4 (.ms 900 1 0 kk.length),pP 5 (.ms 901 1 0 k2.length),pP 32 (i64 q)]) (fun _ kk=>[pP 900 (.row 1 (kk.map bl))]) (fun q kk=>q<=g.bo.length/\kk.length=l.bo.length/\bw kk (g.bo.drop q)=bw k1 g.bo) (fun q _=>g.bo.length-q) 0 k1 ⟨ase _,iA,rfl⟩ ?_;rintro q kk ⟨hq,dg,fA⟩ K2 J2;refine gC (fun z=>?_) (fun z=>?_)
  ·have bH:=aT z;obtain⟨x,hx⟩:=aJ bH;have ox:=ER.b x (ar1 hx);obtain⟨v,hv⟩:∃v,kk[x.toNat]?=some v:=aJ oz;refine gi (aw hx) ?_;refine gs (mL (.tmp rfl) (.tmp rfl) T92 rfl T4 rfl oz oz rfl) ?_;refine gs (dS (.tmp rfl) rfl (by rw[aoj,asa,hv];rfl) rfl (.const _) rfl rfl T4 rfl rfl) ?_;refine ga aL ?_;exact f7 J2 (q+1) (kk.set x.toNat true) ⟨bH,by rw[as9];exact dg,by rw[<- HA hx];exact fA⟩ (hw:=Wk.of (.cons rfl (.of (by rw[as9])) (.k (.k (.k (.k (.k (.k (.k (.k (.k (.k (.k .nil)))))))))))) (.cons rfl (.of (by rw[as7,aoj];rfl)) (.k (.k (.k .nil)))))
  have bH:=bc hq z;have JZ:kk=bw k1 g.bo:=by rw[bH,apn]at fA;exact fA
  refine gl ?_;refine fT [1,2,3,23,24,25,41,42] [1,900] (fun(p:Nat)(jj:List Bool)=>[pP 4 (.ms 900 1 0 kk.length),pP 5 (.ms 901 1 0 jj.length),pP 43 (i64 p)]) (fun _ jj=>[pP 901 (.row 1 (jj.map bl))]) (fun p jj=>p<=g.jo.length/\jj.length=l.jo.length/\bw jj (g.jo.drop p)=bw k2 g.jo) (fun p _=>g.jo.length-p) 0 k2 ⟨ase _,cg,rfl⟩ ?_;rintro p jj ⟨hp,qS,J9⟩ K3 J3;refine gC (fun z=>?_) (fun z=>?_)
  ·have fo:=aT z;obtain⟨x,hx⟩:=aJ fo;have ox:=ER.j x (ar1 hx);obtain⟨v,hv⟩:∃v,jj[x.toNat]?=some v:=aJ oz;refine gi (aw hx) ?_;refine gs (mL (.tmp rfl) (.tmp rfl) T92 rfl T4 rfl oz oz rfl) ?_;refine gs (dS (.tmp rfl) rfl (by rw[aoj,asa,hv];rfl) rfl (.const _) rfl rfl T4 rfl rfl) ?_;refine ga aL ?_;exact f7 J3 (p+1) (jj.set x.toNat true) ⟨fo,by rw[as9];exact qS,by rw[<- HA hx];exact J9⟩ (hw:=Wk.of (.k (.cons rfl (.of (by rw[as9])) (.k (.k (.k (.k (.k (.k (.k (.k (.k .nil))))))))))) (.cons rfl (.of (by rw[as7,aoj];rfl)) (.k (.k .nil))))
  have fo:=bc hp z;have ani:jj=bw k2 g.jo:=by rw[fo,apn]at J9;exact J9
  refine ga aL ?_;exact js J1 (i+1) kk jj ⟨af,dg,qS,by rw[JZ,<- J7,QH hg],by rw[ani,<- J8,QH hg]⟩
 have af:=bc hi z;have e1:k1=cH l:=by rw[af,apn]at J7;exact J7
 have e2:k2=gq l:=by rw[af,apn]at J8;exact J8
 refine gW (Wk.virt 902 1 rfl) ?_;refine aP [3,53] [900,901] (fun(i:Nat)=>[pP 2 (.ms 902 1 0 (jU k1 i).length),pP 5 (.ms 901 1 0 k2.length),pP 52 (.ms 900 1 0 k1.length),pP 54 (i64 i)]) (fun i=>[pP 902 (.row 1 ((jU k1 i).map i64))]) (fun i=>i<=k1.length) (fun i=>k1.length-i) 0 (ase _) ?_;rintro i ha K4 J4;refine gC (fun z=>?_) (fun z=>?_) (st2:=(22,0))
 ·have Ap:=aT z;obtain ⟨v,hv⟩:=aJ Ap;have Ar:k1.getD i false = v:=aS hv;have xh:=BR k1 i;refine gs (mL (.tmp rfl) (.tmp rfl) T92 rfl T4 rfl oz oz rfl) ?_;refine gs (dt (.tmp rfl) rfl (by rw [aoj,as4,asa,hv]; rfl) T4 rfl rfl rfl) ?_;refine gC (fun z=>?_) (fun z=>?_)
  ·have hu := Tm (k := k1) (i := i) (by rw [Ar]; exact el z);refine gs (eQ (.tmp rfl) rfl (by rw [ar3]) (.tmp rfl) T30 rfl T3 rfl rfl (by dsimp only; simp only [asi,asu]; omega) rfl rfl) ?_ (21,0);refine gW (Wk.of (sl:=[pP 2 (.ms 64 1 0 (jU k1 (i + 1)).length),pP 3 (nS),pP 5 (.ms 901 1 0 k2.length),pP 52 (.ms 900 1 0 k1.length),pP 53 (i64 k1.length),pP 54 (i64 i)]) (hp:=[pP 900 (.row 1 (k1.map bl)),pP 901 (.row 1 (k2.map bl)),pP 64 (.row 1 ((jU k1 (i + 1)).map i64))]) (.cons rfl (.of (by rw [hu,asx]; rfl)) (.k (.k (.k (.k (.k .nil)))))) (.k (.k (.cons rfl (.of (by rw [hu,asz]; rfl)) .nil)))) ?_ (21,0)
   refine gW (Wk.rk (k:=64) (d:=902) rfl rfl) ?_;refine ga aL ?_;exact aM J4 (i+1) Ap (hw:=Wk.of (.cons rfl (.of (by first |rw[hu];done |rfl)) (.k (.k (.k (.k (.k .nil)))))) (.cons rfl (.of (by first |rw[hu];done |rfl)) (.k (.k .nil))))
  have hu:=QY (k:=k1) (i:=i) (by rw[Ar];exact fP z);refine ga aL ?_;exact aM J4 (i+1) Ap (hw:=Wk.of (.cons rfl (.of (by first |rw[hu];done |rfl)) (.k (.k (.k (.k (.k .nil)))))) (.cons rfl (.of (by first |rw[hu];done |rfl)) (.k (.k .nil))))
 have Ap:=bc ha z;refine gW ((Wk.freeze (k:=902) rfl).trans<|Wk.of (sl:=[pP 2 (.lst 1 ((f6 (cH l)).map i64)),pP 3 (nS),pP 5 (.ms 901 1 0 k2.length)]) (hp:=[pP 901 (.row 1 (k2.map bl))]) (.cons rfl (.of (by rw[cq (by rw[ar3]),Ap,e1];rfl)) (.k (.k .nil))) (.k .nil)) ?_;refine gW (Wk.virt 902 1 rfl) ?_;refine aP [2,67] [901] (fun(i:Nat)=>[pP 3 (.ms 902 1 0 (jU k2 i).length),pP 66 (.ms 901 1 0 k2.length),pP 68 (i64 i)]) (fun i=>[pP 902 (.row 1 ((jU k2 i).map i64))]) (fun i=>i<=k2.length) (fun i=>k2.length-i) 0 (ase _) ?_;rintro i hb K5 J5;refine gC (fun z=>?_) (fun z=>?_) (st2:=(28,0))
 ·have At:=aT z;obtain ⟨v,hv⟩:=aJ At;have Ar:k2.getD i false = v:=aS hv;have xh:=BR k2 i;refine gs (mL (.tmp rfl) (.tmp rfl) T92 rfl T4 rfl oz oz rfl) ?_;refine gs (dt (.tmp rfl) rfl (by rw [aoj,as4,asa,hv]; rfl) T4 rfl rfl rfl) ?_;refine gC (fun z=>?_) (fun z=>?_)
  ·have hu := Tm (k := k2) (i := i) (by rw [Ar]; exact el z);refine gs (eQ (.tmp rfl) rfl (by rw [ar3]) (.tmp rfl) T30 rfl T3 rfl rfl (by dsimp only; simp only [asi,asu]; omega) rfl rfl) ?_ (27,0);refine gW (Wk.of (sl:=[pP 2 (.lst 1 ((f6 (cH l)).map i64)),pP 3 (.ms 78 1 0 (jU k2 (i + 1)).length),pP 66 (.ms 901 1 0 k2.length),pP 67 (i64 k2.length),pP 68 (i64 i)]) (hp:=[pP 901 (.row 1 (k2.map bl)),pP 78 (.row 1 ((jU k2 (i + 1)).map i64))]) (.k (.cons rfl (.of (by rw [hu,asx]; rfl)) (.k (.k (.k .nil))))) (.k (.cons rfl (.of (by rw [hu,asz]; rfl)) .nil))) ?_ (27,0)
   refine gW (Wk.rk (k:=78) (d:=902) rfl rfl) ?_;refine ga aL ?_;exact aM J5 (i+1) At (hw:=Wk.of (.cons rfl (.of (by first |rw[hu];done |rfl)) (.k (.k (.k (.k .nil))))) (.cons rfl (.of (by first |rw[hu];done |rfl)) (.k .nil)))
  have hu:=QY (k:=k2) (i:=i) (by rw[Ar];exact fP z);refine ga aL ?_;exact aM J5 (i+1) At (hw:=Wk.of (.cons rfl (.of (by first |rw[hu];done |rfl)) (.k (.k (.k (.k .nil))))) (.cons rfl (.of (by first |rw[hu];done |rfl)) (.k .nil)))
 have At:=bc hb z;refine gW ((Wk.freeze (k:=902) rfl).trans<|Wk.of (sl:=[pP 2 (.lst 1 ((f6 (cH l)).map i64)),pP 3 (.lst 1 ((f6 (gq l)).map i64))]) (hp:=[]) (.k (.cons rfl (.of (by rw[cq (by rw[ar3]),At,e2];rfl)) .nil)) .nil) ?_;refine bu ?_;rfl
theorem ag2(l:Li)(hl:l.ok)(ae:ax l=0):FP 85 [l.av] (.tup [.lst 4 ((ay l).map Gr.av),i64 (bS l)]):=by
 have h8:=(f8 ae).2.2.2.1;have J0:l.jo.length<=16:=by have:=(f8 ae).2.1;unfold fE at this;split at this;cases this;omega
 have u1:=ZA l;have u2:=Xq l;refine am func85 ?_;refine gc (YX l hl ae) ?_;refine gl ?_;refine gl ?_;refine ga (dx oz) ?_;refine gC (fun z=>?_) (fun z=>?_)
 ·have h1:0 < (f6 (cH l)).length + (f6 (gq l)).length:=ee z;have hE:bS l = 7:=by unfold bS; rw [atd oz]
  refine gR ?_;exact ft (by unfold ay;rw[atd (by rw[hE];decide),hE];exact Sub.tup (.cons (.nil _ _ _) (.cons (.refl _) .nil)))
 have h1:(f6 (cH l)).length+(f6 (gq l)).length<=0:=kl z;have hE:bS l=0:=by unfold bS;rw[ate oz]
 refine gc (QB l hl ae) ?_;refine bu ?_;unfold ay;rw[ate hE,hE];rfl
variable{P:atq}{N:Nat}{R:Array Oper}{s:AS}{pos:String}{after:Array Edge}
theorem Ib{d:Nat}{x:atn}{n:Nat}{z:ato}{T E t:atp}{ti te:TI}(hx:Ev s x (.v (.int .i64 n)))
    (hT:au P T=some ti) (hk:ti.k=.slice E) (hE:au P E=some te) (hz:te.zero=[z]) (df:z.oneCell'=true) (hs:ao6 te.size 1=true) (pv:aob 0 te.bytes=true)
    (hb:(n:Int)*te.bytes<=281474976710656) (hN:aob d N=true) :
    Step P N R s ⟨some d,.makeSlice T x x,t,pos,after,none⟩
      ⟨some (.ms d 1 0 n),[(d,some (.vec (apf n z)))],aj x,[]⟩ :=
  vO rfl rfl hN (by simp) fun s' ao hfr C m a w hr => by
    have d8:=pV hr (hx.agree ao (fun _ h=>h));have hs:=ar4 hs;rw[aoh]at pv;obtain⟨d2,h3,h4,-,-⟩:=dX hT w;obtain rfl:=i9 (h4.trans hk);obtain⟨zv,h5,h6⟩:=yV hE w;obtain⟨ie,h7,h8,-⟩:=Lk hE w;have h6':zv.cells.toList=[z]:=h6.trans hz;have JA:zv.cells=#[z]:=by rw[<- Array.toArray_toList (xs:=zv.cells),h6']
    have uw:(n:Int)<=281474976710656:=by
      have:(n:Int)*1<=n*te.bytes:=Int.mul_le_mul_of_nonneg_left oz oz;omega
    have lw:IntKind.i64.wrap (n:Int)=n:=IntWalk.i64_in n oz;obtain⟨zero,gN⟩:∃zero:Array ato,zero=(if n*te.size=0 then #[]else zv.cells):=⟨_,rfl⟩
    refine⟨.slice (some ⟨w.heap.size,0,none⟩) n n,(Array.range (n*te.size)).map (zero[· % zero.size]!),E,w.drawn,?_,?_,?_,?_⟩
    · have fA:(Instr.makeSlice T (.int .i64 n) (.int .i64 n)).run P w =
          .ok (.slice (some ⟨w.heap.size,0,none⟩) n n) { w with heap:=w.heap.push (.cells ((Array.range (n*te.size)).map (zero[· % zero.size]!)) E) }:=by
        have hc:¬(((n:Int)<0\/281474976710656<(ie.bytes:Int)*n)\/(n:Int)<0):=by
          rw[h8,Int.mul_comm];omega
        simp only[Instr.makeSlice,att,h3,ats,asInt,asIntOf,atu,h7,lw];rw[atd (by simpa using hc)];simp only[att,run_askRoom,ats,gd hE,as4]
        by_cases h0:n*te.size=0
        · rw[ate h0]at gN ⊢
          subst gN;simp only[att,atu,ats,newRow,run_newObj]
        · rw[atd h0]at gN ⊢
          subst gN;simp only[att,atu,ats,h5,newRow,run_newObj]
      simp only[execOp,d8,att,fA,ats,atu]
    · exact fun h=>h
    · intro g S m' w' hg hS hm hw
      refine .vec hw ?_ (fun v hv=>by rw[apz hv];exact df);apply List.ext_getElem?;intro j;rw[arn,ast]
      by_cases hj:j<n
      · have iy : ¬ n * te.size = 0 := by rw [hs]; omega
        rw[atd iy,JA]at gN;subst gN;rw[ate hj];simp only[Array.getElem?_map,Array.getElem?_range,show j<n*te.size by rw[hs];omega,if_true,arz,Option.some.injEq];simp[Nat.mod_one]
      · rw[atd hj,arv (by simp[hs];omega)]
    · intro g S m' hm hS
      have:=Rep.ms (g:=g) (S:=S) (m:=m') (k:=d) (sz:=1) (off:=0) (len:=n) (cap:=n) hm (ar8 _) (by simpa[hs]using hS);simpa using this
theorem DB{x y:atn}{k i:Nat}{vs:List ato}{v:ato}{T t:atp}{ti:TI}
  (hx:Ev s x (.eptr k 1 i 0)) (hk:s.blk k=some (.vec vs)) (hi:i<vs.length) (hy:Ev s y (.v v)) (hv:v.oneCell'=true) (hT:au P T=some ti) (a5:ao6 ti.size 1=true) :
  Step P N R s ⟨none,.store T x y,t,pos,after,none⟩ ⟨none,[(k,some (.vec (vs.set i v)))],aj x++aj y,[k]⟩ :=
 Gy rfl rfl (by simp) hk fun s' ao C m a w hr => by
  have a5:=ar4 a5;obtain⟨b,hm,d8⟩:=BI hr (hx.agree ao (fun _ h=>ar9.2 (.inl h)));have iN:=pV hr (hy.agree ao (fun _ h=>ar9.2 (.inr h)));have hb:=hr.heap.blk k _ ((ao.2 k (by simp)).trans hk);rw[hm]at hb;cases hb with
  | @vec _ _ c t2 hw hc h1 =>
   have bU:c.size=vs.length:=by rw[<- hc];simp
   have ES:v.cells=#[v]:=by cases v <;> simp_all [Value.cells,Value.oneCell']
   refine⟨b,c,(over c.toList i v.cells.toList).toArray,t2,hm,hw,?_,?_,?_⟩
   ·simp[over,ES];omega
   ·have eW := Gg (P := P) (off := i) (v := v) hT hw (by rw[ES,a5];rfl) oz (by rw[ES];simpa using hv);simp[execOp,Instr.storeAt,d8,Instr.sureAddr,iN,eW]
   ·intro g S w' hg hS hw';refine .vec hw' ?_ (fun u hu=>?_)
    ·rw[hc,ES];unfold over;rw[List.set_eq_take_append_cons_drop,ate hi];simp
    ·rcases apo hu with h9 |h9
     ·exact h1 u h9
     ·rw[h9];exact hv
inductive Lent(H:Hp)(hid:List Nat):AV->AV->Prop
  |same {x:AV} (h:x.nm=[]):Lent H hid x x
  |ms {k off len:Nat} {vs:List ato} (hk:lk H k=some (.vec vs)) (hh:k∉hid) (hl:off+len<=vs.length) (hm:vs.length<=aF):Lent H hid (.ms k 1 off len) (.lst 1 (((vs.drop off).take len).map .v))
theorem SA{g:Nat->Array ato->Prop}{S:Nat->Nat->Prop}{m:Nat->Option Nat}{u y:ato}(h:Rep g S m u (.v y)):u=y:=by cases h;rfl
theorem Bw{m:Nat->Option Nat}{b:Nat}:¬aW [] m b:=by rintro⟨k,x,h,_⟩;cases h
def vg(ext:Nat->Prop)(H:Hp)(hid:List Nat)(m:Nat->Option Nat)(b:Nat):Prop:=ext b\/∃k z,k∈hid/\lk H k=some z/\m k=some b
theorem acr{ext:Nat->Prop}{H:Hp}{hid:List Nat}{m m2:Nat->Option Nat}{w:atr}{b:Nat}{cs:Array ato}(h:Im ext H m w b cs):Im (vg ext H hid m) [] m2 w b cs :=
 ⟨fun h'=>h'.elim h.1 (fun⟨k,z,_,hz,hb⟩=>h.2.1 ⟨k,z,hz,hb⟩),Bw,h.2.2⟩
theorem Pm{ext:Nat->Prop}{H:Hp}{hid:List Nat}{m:Nat->Option Nat}{w:atr}(hh:HeapRel ext H m w){k b:Nat}{z:Blk}(hk:lk H k=some z)(hb:m k=some b)(hn:k∉hid):¬vg ext H hid m b:=by
 rintro(h |⟨k',z',h1,h2,h3⟩)
 ·exact(hh.sep k z b hk hb).1 h
 ·have:=hh.inj k k' z z' b hk h2 hb h3;subst this;exact hn h1
theorem Lent.rep{ext:Nat->Prop}{H:Hp}{hid:List Nat}{m:Nat->Option Nat}{w:atr}(hh:HeapRel ext H m w){x x':AV}(h:Lent H hid x x') :
  ∀{v:ato},Rep (Im ext H m w) (Sz w) m v x->∀m2:Nat->Option Nat,Rep (Im (vg ext H hid m) [] m w) (Sz w) m2 v x':=by
 cases h with
 |same hn=>intro v hv m2;exact(kN hn hv).mono (fun _ _ h=>acr h) (fun _ _ h=>h) (fun _ _ _ h=>h)
 | @ms k off len vs hk hnh hl hm =>
  intro v hr m2;have hb:=hh.blk k _ hk;cases hr with
  |ms0 a=>simp only[List.take_zero];exact .lst0 _ _ _
  | @ms _ _ _ _ _ cap b fA hc hS =>
   rw[fA]at hb;cases hb with
   | @vec _ _ c t hw m7 h1 =>
    have bU:c.size=vs.length:=by rw[<- m7];simp
    have cm:(((vs.drop off).take len).map AV.v).length=len:=by rw[ar3,aso,apx];omega
    have he':∀(i:Nat)(e:AV),(((vs.drop off).take len).map AV.v)[i]?=some e->∃u,e=.v u/\c[off+i]?=some u/\u∈vs:=by
     intro i e he;rw[asa,ar6]at he;obtain⟨u,he,rfl⟩:=he;rw[asy]at he;split at he
     ·rw[as3]at he;exact⟨u,rfl,by rw[<- arn,m7];exact he,ar1 he⟩
     ·cases he
    have:=Rep.lst (g:=Im (vg ext H hid m) [] m w) (S:=Sz w) (m:=m2) (b:=b) (off:=off) (cap:=cap) (sz:=1) (es:=((vs.drop off).take len).map AV.v) (cs:=c) (fun i j=>c.getD (off+i) undef)
     ⟨Pm hh hk fA hnh,Bw,t,(0,0),hw⟩ oz oz ?_ ?_ ?_ ?_
    ·rw[cm]at this;simpa using this
    ·intro i e he;obtain⟨u,rfl,_⟩:=he' i e he;rfl
    ·intro i j e x he hx;obtain⟨u,rfl,_,hm⟩:=he' i e he;cases j with
     |zero=>cases hx;exact h1 u hm
     |succ j=>cases hx
    ·intro i j e x he hx;obtain⟨u,rfl,hu,_⟩:=he' i e he;cases j with
     |zero=>rw[Nat.mul_one,aoy,asc,hu];rfl
     |succ j=>cases hx
    ·intro i j e x he hx;obtain⟨u,rfl,hu,_⟩:=he' i e he;cases j with
     |zero=>cases hx;rw[asc,hu];exact .v _
     |succ j=>cases hx
def SM:AV->Bool
  | .v (.int _ _)=>true
  |_=>false
def Oo:AV->Bool
  | .v (.int _ _)=>false
  | .v _=>true
  | .lst _ _=>true
  | .ms _ _ _ _=>true
  |_=>false
mutual
def AV.li:AV->Bool
  | .v _=>true
  | .agg cs=>AV.lis cs
  | .tup cs=>AV.lis cs
  | .lst sz es=>ao6 sz 1&&es.all SM
  |_=>false
def AV.lis:List AV->Bool
  |[]=>true
  |x::l=>x.li&&AV.lis l
end
theorem AV.lis_mem:∀{l:List AV}{c:AV},AV.lis l=true->c∈l->c.li=true
 |x::l,c,h,hc=>by
  simp only[AV.lis,ar5]at h;rcases asj.1 hc with rfl |hc
  ·exact h.1
  ·exact AV.lis_mem h.2 hc
theorem amo{g:Nat->Array ato->Prop}{S:Nat->Nat->Prop}{m:Nat->Option Nat}{u:ato}{x:AV}(hx:Oo x=true)(h:Rep g S m u x)(kk:IntKind)(z:Int):u≠.int kk z:=by
 rintro rfl;cases h <;> cases hx
theorem Wr{g g':Nat->Array ato->Prop}{S S':Nat->Nat->Prop}{m m':Nat->Option Nat}{v:ato}{x:AV}(hx:x.li=true)
  (hg:∀b cs (o:Nat)(kk:IntKind)(z:Int),cs[o]?=some (.int kk z)->g b cs->g' b cs) (h:Rep g S m v x):Rep g' S' m' v x:=by
 induction h with
 |v=>exact .v _
 |agg hn h1 hr ih=>exact .agg hn h1 (fun j u c hu hc=>ih j u c hu hc (AV.lis_mem hx (ar1 hc)))
 |tup hn hr ih=>exact .tup hn (fun j u c hu hc=>ih j u c hu hc (AV.lis_mem hx (ar1 hc)))
 |lst0 a cap sz=>exact .lst0 _ _ _
 | @lst _ b off cap sz es cs u hb hc hl hs h1 hu hr _ =>
  simp only[AV.li,ar5]at hx;have a5:=ar4 hx.1;subst a5
  match es,hx,hc,hl,hs,h1,hu,hr with
  |[],_,_,_,_,_,_,_=>exact .lst0 _ _ _
  |e::es,hx,hc,hl,hs,h1,hu,hr =>
   have gj:∀(i j:Nat)(e' c:AV),(e::es)[i]?=some e'->e'.cells[j]?=some c->∃kk z,c=.v (.int kk z):=by
    intro i j e' c he hc';have h9:=asd.1 hx.2 e' (ar1 he);cases e' with
    |v y=>cases y with
     |int kk z =>
      cases j with
      |zero=>cases hc';exact⟨_,_,rfl⟩
      |succ j=>cases hc'
     |_=>cases h9
    |_=>cases h9
   have he0:∃kk z,e=.v (.int kk z):=by
    have h9:=asd.1 hx.2 e (by simp);cases e with
    |v y=>cases y with
     |int kk z=>exact⟨_,_,rfl⟩
     |_=>cases h9
    |_=>cases h9
   obtain⟨kk,z,rfl⟩:=he0;have h8:=hu 0 0 _ _ rfl rfl;have h7:=hr 0 0 _ _ rfl rfl;have h6:u 0 0=.int kk z:=SA h7;rw[h6]at h8;refine .lst u (hg b cs _ kk z h8 hb) hc hl hs h1 hu (fun i j e' c he hc'=>?_);obtain⟨k2,z2,rfl⟩:=gj i j e' c he hc';rw[SA (hr i j _ _ he hc')];exact .v _
 |_=>cases hx
theorem Con.lend{f:FuncId}{k:Nat}{cs:List AV}{cs':ato->List AV}{H:Hp}{r:AV}(hid:List Nat)(j0:Nat)(hk:lk H k=some (.box cs))(hkh:k∉hid)
  (hc:∀v:ato,v.oneCell'=true->(cs' v).length=cs.length/\(∀(j:Nat)(x:AV),(cs' v)[j]?=some x->x.one=true) /\
   ∀(j:Nat)(x x':AV),cs[j]?=some x->(cs' v)[j]?=some x'->(j=j0/\x'=.v v)\/Lent H hid x x')
  (hj:j0<cs.length)
  (hH:∀k z,lk H k=some z->k∈hid\/(∃cs,z=.box cs/\cs.all Oo=true)\/∃vs,z=.vec vs/\∀v∈vs,∀kk z,v≠.int kk z) (hr:r.li=true) (h:∀v:ato,kU P f [.iptr (cs' v)] r):Con P f [.ptr k 0] H r H:=by
 refine⟨(h undef).ok,?_⟩;intro ext m w vs hext ch cV db;have a5:0<vs.size:=by rw[cV];exact Nat.one_pos
 have ku:=db 0 vs[0] _ (aro a5) rfl;have hb:=ch.blk k _ hk;generalize ol:vs[0]=v0 at ku;cases ku with
 | @ptr _ _ _ b fA =>
  rw[fA]at hb;cases hb with
  | @box _ _ c t hw hn h1 aV =>
   have j5:j0<c.size:=by omega
   have nc:=ar7 (l:=cs) (i:=j0) oz;have qI:(c[j0]).oneCell'=true:=(aV j0 _ _ (aro j5) nc).one (h1 j0 _ nc);obtain⟨g1,g2,g3⟩:=hc c[j0] qI
   have JB:∀b,vg ext H hid m b->b<w.heap.size:=by
    rintro b (h9 |⟨k',z',_,h2,h3⟩)
    ·exact hext b h9
    ·exact(ch.sep k' z' b h2 h3).2
   have anj := (h c[j0]).ret (vg ext H hid m) m w vs JB ⟨fun k z hz => by (cases hz), fun k k' x x' b hx => by (cases hx), fun k x b hx => by (cases hx)⟩ (by rw [cV]; rfl) (by
    intro j v x hv hx
    match j,hx with
    |0,hx =>
     cases hx;rw[aro a5,ol]at hv;cases hv;refine .iptr (cs:=c) (fun j=>c.getD j undef) ⟨Pm ch hk fA hkh,Bw,t,(0,0),hw⟩ g2 ?_ ?_
     ·intro j x hx;have hlt:j < c.size:=by rw [hn,<- g1]; exact (ap9.1 hx).1
      rw[aoj,asc,aro hlt];rfl
     ·intro j x hx;have hlt:j < c.size:=by rw [hn,<- g1]; exact (ap9.1 hx).1
      obtain⟨y,hy⟩:=lc g1 hx;have m7:c[j]?=some (c.getD j undef):=by rw[asc,aro hlt];rfl
      rcases g3 j y x hy hx with⟨rfl,rfl⟩ |hl
      ·have : c.getD j undef = c[j] := by rw [aro hlt] at m7; exact (Option.some.inj m7).symm
       rw[this];exact .v _
      ·exact hl.rep ch (aV j _ y m7 hy) dO)
   refine Calls.mono anj ?_;rintro e w' ⟨v,m',rfl,hf,hh,bP,uy,qG⟩;have ET:∀b,b<w.heap.size->w'.heap[b]?=w.heap[b]? := fun b hb=>hf.keep b hb Bw
   have Ab:Frame (aW H m) w w':=⟨hf.os,hf.tape,hf.output,hf.size,hf.sz,fun b hb _=>ET b hb⟩
   have dD:=f0 (ext:=ext) Ab (hp':=H) (m':=m) (fun k x b hk hb=>.inl ⟨k,x,hk,hb⟩);refine⟨v,m,rfl,Ab,⟨?_,ch.inj,?_⟩,fun k x b hk hb=>.inl ⟨k,x,hk,hb⟩,fun _ _ _ _ _=>rfl,?_⟩
   ·intro k z hz;exact BlkRep.mono (w:=w) dD hf.sz (fun _ _ _ h=>h) rfl (fun b hb=>ET b (ch.sep k z b hz hb).2) (ch.blk k z hz)
   ·intro k z b hz hb;have:=ch.sep k z b hz hb;exact⟨this.1,asp this.2 hf.size⟩
   ·refine Wr hr ?_ qG;rintro b2 cs2 o kk z ho ⟨g1,g2,t2,fl,g3⟩;refine⟨fun h9=>g1 (.inl h9),?_,t2,fl,g3⟩;rintro⟨k2,y,cg,bg⟩;have hlt:=fun b hb=>(ch.sep k2 _ b cg hb).2
    have h3:=ch.blk k2 _ cg;rw[bg]at h3;rcases hH k2 y cg with h9 |⟨cl,rfl,gh⟩ |⟨vs2,rfl,om⟩
    ·exact g1 (.inr ⟨k2,y,h9,cg,bg⟩)
    ·cases h3 with
     | @box _ _ c2 t' ot m9 h12 JM =>
      have Ka:c2=cs2:=by
       rw[ET b2 (hlt b2 bg),ot]at g3
       injection g3 with g3
       injection g3
      subst Ka;have ho':o<c2.size:=(Array.getElem?_eq_some_iff.1 ho).1;have hx:=ar7 (l:=cl) (i:=o) oz;exact amo (asd.1 gh _ (ar1 hx)) (JM o _ _ ho hx) kk z rfl
    ·cases h3 with
     | @vec _ _ c2 t' ot sk h12 =>
      have Ka:c2=cs2:=by
       rw[ET b2 (hlt b2 bg),ot]at g3
       injection g3 with g3
       injection g3
      subst Ka;have:Value.int kk z∈vs2:=by rw[<- sk];exact Array.mem_toList_iff.2 (Array.mem_of_getElem? ho)
      exact om _ this kk z rfl
end Go.Lw
namespace Go.Lw
open Go.Proofs
def bv(xs:List Bool):List ato:=xs.map .bool
theorem ju(xs:List Bool):(bv xs).length=xs.length:=ar3 _
theorem Ba(xs:List Bool)(n:Nat):(bv xs).set n (.bool true)=bv (xs.set n true):=by unfold bv;rw[as7]
theorem Gm(xs:List Bool):∀v∈bv xs,∀kk z,v≠.int kk z:=by
 intro v hv kk z;obtain⟨b,_,rfl⟩:=aqd.1 hv;exact fun h=>by cases h
theorem Cg(xs:List Bool):(bv xs).map AV.v=xs.map bl:=by unfold bv;rw[map_map];rfl
theorem Ge(n:Nat):apf n (Value.bool false)=bv (apf n false):=by unfold bv;rw[as5]
theorem X7(xs:List Int):(xs.map i64).all SM=true:=by
 rw[asd];intro x hx;obtain⟨b,_,rfl⟩:=aqd.1 hx;rfl
theorem ZH(g:Gr)(b:Bool):(AV.tup [g.av,bl b]).li=true:=by
 simp only[AV.li,AV.lis,Gr.av,X7];rfl
def ta(l:Li)(n:Nat):Blk:=.box (l.av.cells++[.ms 23 1 0 l.bo.length,.ms 27 1 0 l.bo.length,.ms 31 1 0 l.jo.length,.ms 900 4 0 n])
def rH(l:Li)(kw used:List Bool)(out:List Gr):Hp :=
  [pP 33 (ta l out.length),pP 23 (.vec (bv kw)),pP 27 (.vec (bv (ci l))),pP 31 (.vec (bv used)),pP 900 (.row 4 (out.map Gr.av))]
theorem Hf{xs:List Bool}{n:Nat}(h:xs.length=n):AV.lst 1 ((((bv xs).drop 0).take n).map .v)=.lst 1 (xs.map bl):=by
 rw[as8,asn (by rw[ju];omega),Cg]
theorem Mp(l:Li)(hl:l.ok)(ae:ax l=0)(kw used:List Bool)(hk:kw.length=l.bo.length)(hu:used.length=l.jo.length)(hm:l.bo.length<=aF/\l.jo.length<=aF)(out:List Gr) :
  Con prog 111 [.ptr 33 0] (rH l kw used out) (.tup [((cM l kw).getD default).av,bl (cM l kw).isSome]) (rH l kw used out):=by
 refine Con.lend (cs:=l.av.cells++[.ms 23 1 0 l.bo.length,.ms 27 1 0 l.bo.length,.ms 31 1 0 l.jo.length,.ms 900 4 0 out.length])
  (cs':=fun v=>eA l kw (ci l) [.lst 1 (used.map bl),.v v]) [900] 7 rfl (by decide) ?_ (by simp[Li.av,AV.cells]) ?_ (ZH _ _) (fun v=>Zh l hl ae kw hk _)
 ·intro v hv;refine⟨rfl,?_,?_⟩
  ·intro j x hx
   match j,hx with
   |0,hx=>cases hx;rfl
   |1,hx=>cases hx;rfl
   |2,hx=>cases hx;rfl
   |3,hx=>cases hx;rfl
   |4,hx=>cases hx;rfl
   |5,hx=>cases hx;rfl
   |6,hx=>cases hx;rfl
   |7,hx=>cases hx;exact hv
   |j+8,hx=>cases hx
  ·intro j x x' hx hx'
   match j,hx,hx' with
   |0,hx,hx'=>cases hx;cases hx';exact .inr (.same rfl)
   |1,hx,hx'=>cases hx;cases hx';exact .inr (.same rfl)
   |2,hx,hx'=>cases hx;cases hx';exact .inr (.same rfl)
   |3,hx,hx'=>cases hx;cases hx';exact .inr (.same rfl)
   |4,hx,hx' =>
    cases hx;cases hx'
    have h:=Lent.ms (H:=rH l kw used out) (hid:=[900]) (k:=23) (off:=0) (len:=l.bo.length) (vs:=bv kw) rfl (by decide) (by rw[ju];omega) (by rw[ju];omega);rw[Hf hk]at h;exact .inr h
   |5,hx,hx' =>
    cases hx;cases hx'
    have h:=Lent.ms (H:=rH l kw used out) (hid:=[900]) (k:=27) (off:=0) (len:=l.bo.length) (vs:=bv (ci l)) rfl (by decide) (by rw[ju,yH];omega) (by rw[ju,yH];omega);rw[Hf (yH l)]at h;exact .inr h
   |6,hx,hx' =>
    cases hx;cases hx'
    have h:=Lent.ms (H:=rH l kw used out) (hid:=[900]) (k:=31) (off:=0) (len:=l.jo.length) (vs:=bv used) rfl (by decide) (by rw[ju];omega) (by rw[ju];omega);rw[Hf hu]at h;exact .inr h
   |7,hx,hx'=>cases hx;cases hx';exact .inl ⟨rfl,rfl⟩
   |j+8,hx,hx'=>cases hx
 ·intro k z hz;simp only[rH,aE]at hz;split at hz
  ·cases hz;exact .inr (.inl ⟨_,rfl,rfl⟩)
  split at hz
  ·cases hz;exact .inr (.inr ⟨_,rfl,Gm _⟩)
  split at hz
  ·cases hz;exact .inr (.inr ⟨_,rfl,Gm _⟩)
  split at hz
  ·cases hz;exact .inr (.inr ⟨_,rfl,Gm _⟩)
  split at hz
  ·subst_vars;exact .inl (by decide)
  ·cases hz
def wF(l:Li):AV:=if ax l=0 then .iptr (eA l (cH l) (ci l) [.lst 1 ((gq l).map bl),.lst 4 ((cP l).map Gr.av)])else .v (.pointer none)
def lT(l:Li)(out:List Gr):List Bool:=out.foldl (fun k g=>bw k g.jo) (apf l.jo.length false)
theorem IR(l:Li)(out:List Gr):(lT l out).length=l.jo.length:=by unfold lT;rw[wJ,asr]
theorem aj2(l:Li)(out:List Gr)(g:Gr):lT l (out++[g])=bw (lT l out) g.jo:=by unfold lT;rw[List.foldl_append];rfl
theorem GV{k:List Bool}{bs:List Int}{i:Nat}{b:Int}(h:bs[i]?=some b):bw k (bs.take (i+1))=(bw k (bs.take i)).set b.toNat true:=by
 unfold bw;rw[fO h,List.foldl_append];rfl
theorem af2{l:Li}(ae:ax l=0){kw:List Bool}{out:List Gr}{g:Gr}(hk:kw.length=l.bo.length)(h:dj l (eM kw) kw out=(cH l,cP l))(hg:cM l kw=some g) :
  dj l (eM (bw kw g.bo)) (bw kw g.bo) (out++[g])=(cH l,cP l):=by
 have hlt:=zC ae hk hg;obtain⟨n,hn⟩:∃n,eM kw=n+1:=⟨eM kw-1,by omega⟩
 rw[hn]at h;unfold dj at h;rw[hg]at h;rw[<- h];exact FM ae _ _ _ _ (by rw[nC];exact hk) (ar8 _) oz
theorem ad5{l:Li}{kw:List Bool}{out:List Gr}(h:dj l (eM kw) kw out=(cH l,cP l))(hg:cM l kw=none):kw=cH l/\out=cP l:=by
 cases hn:eM kw with
 |zero=>rw[hn]at h;exact⟨(Prod.mk.inj h).1,(Prod.mk.inj h).2⟩
 |succ n=>rw[hn]at h;unfold dj at h;rw[hg]at h;exact⟨(Prod.mk.inj h).1,(Prod.mk.inj h).2⟩
theorem adm{n:Nat}:eM (dA n 0)<=n:=by
 unfold eM;exact asv List.countP_le_length (Nat.le_of_eq (kp _ _))
theorem ako{l:Li}(ae:ax l=0):dj l (eM (dA l.bo.length 0)) (dA l.bo.length 0) []=(cH l,cP l):=by
 rw[<- aes];exact FM ae _ _ _ _ (kp _ _) (ar8 _) adm
theorem afe{l:Li}(ae:ax l=0){kw:List Bool}{out:List Gr}(hk:kw.length=l.bo.length)(h:dj l (eM kw) kw out=(cH l,cP l)):out.length<=8:=by
 obtain⟨gs,e⟩:=Gq (l:=l) (eM kw) kw out;rw[e]at h;have h1:=(y9 ae).2;have h2:out++gs=cP l:=(Prod.mk.inj h).2;rw[<- h2,asx]at h1;omega
theorem VA(l:Li)(kw used:List Bool)(out:List Gr)(hk:kw.length=l.bo.length)(hu:used.length=l.jo.length)(hm:l.bo.length<=aF/\l.jo.length<=aF) :
  Wk ⟨[pP 5 (.ptr 33 0)],rH l kw used out⟩ ⟨[pP 5 (.iptr (eA l kw (ci l) [.lst 1 (used.map bl),.lst 4 (out.map Gr.av)]))],[]⟩:=by
 have hd:=yH l;have q1:.ms 23 1 0 l.bo.length=AV.ms 23 1 0 ((bv kw).map AV.v).length:=by rw[ar3,ju,hk]
 refine(Wk.of (sl:=[pP 5 (.ptr 33 0)]) (hp:=[pP 33 (ta l out.length),pP 23 (.row 1 ((bv kw).map .v)),pP 27 (.row 1 ((bv (ci l)).map .v)),pP 31 (.row 1 ((bv used).map .v)),pP 900 (.row 4 (out.map Gr.av))])
  (.k .nil) (.k (.cons rfl (.vecRow (by rw[ju];omega)) (.cons rfl (.vecRow (by rw[ju];omega)) (.cons rfl (.vecRow (by rw[ju];omega)) (.k .nil)))))).trans ?_
 refine(Wk.freeze (k:=23) rfl).trans ?_
 refine(Wk.of (sl:=[pP 5 (.ptr 33 0)]) (hp:=[pP 33 (.box (l.av.cells++[.lst 1 (kw.map bl),.ms 27 1 0 l.bo.length,.ms 31 1 0 l.jo.length,.ms 900 4 0 out.length])),pP 27 (.row 1 ((bv (ci l)).map .v)),pP 31 (.row 1 ((bv used).map .v)),pP 900 (.row 4 (out.map Gr.av))])
  (.k .nil) (.cons rfl (BlkSub.bL (.cons (.refl _) (.cons (.refl _) (.cons (.refl _) (.cons (.refl _) (.cons (.of ((cq (by rw[ar3,ju,hk])).trans (by rw[Cg]))) (.cons (.refl _) (.cons (.refl _) (.cons (.refl _) .nil)))))))) rfl) (.k (.k (.k .nil))))).trans ?_
 refine(Wk.freeze (k:=27) rfl).trans ?_
 refine(Wk.of (sl:=[pP 5 (.ptr 33 0)]) (hp:=[pP 33 (.box (l.av.cells++[.lst 1 (kw.map bl),.lst 1 ((ci l).map bl),.ms 31 1 0 l.jo.length,.ms 900 4 0 out.length])),pP 31 (.row 1 ((bv used).map .v)),pP 900 (.row 4 (out.map Gr.av))])
  (.k .nil) (.cons rfl (BlkSub.bL (.cons (.refl _) (.cons (.refl _) (.cons (.refl _) (.cons (.refl _) (.cons (.refl _) (.cons (.of ((cq (by rw[ar3,ju,hd])).trans (by rw[Cg]))) (.cons (.refl _) (.cons (.refl _) .nil)))))))) rfl) (.k (.k .nil)))).trans ?_
 refine(Wk.freeze (k:=31) rfl).trans ?_
 refine(Wk.of (sl:=[pP 5 (.ptr 33 0)]) (hp:=[pP 33 (.box (l.av.cells++[.lst 1 (kw.map bl),.lst 1 ((ci l).map bl),.lst 1 (used.map bl),.ms 900 4 0 out.length])),pP 900 (.row 4 (out.map Gr.av))])
  (.k .nil) (.cons rfl (BlkSub.bL (.cons (.refl _) (.cons (.refl _) (.cons (.refl _) (.cons (.refl _) (.cons (.refl _) (.cons (.refl _) (.cons (.of ((cq (by rw[ar3,ju,hu])).trans (by rw[Cg]))) (.cons (.refl _) .nil)))))))) rfl) (.k .nil))).trans ?_
 refine(Wk.freeze (k:=900) rfl).trans ?_
 refine(Wk.of (sl:=[pP 5 (.ptr 33 0)]) (hp:=[pP 33 (.box (eA l kw (ci l) [.lst 1 (used.map bl),.lst 4 (out.map Gr.av)]))])
  (.k .nil) (.cons rfl (BlkSub.bL (.cons (.refl _) (.cons (.refl _) (.cons (.refl _) (.cons (.refl _) (.cons (.refl _) (.cons (.refl _) (.cons (.refl _) (.cons (.of (cq (by rw[ar3]))) .nil)))))))) rfl) .nil)).trans ?_
 refine(Wk.freezeB (k:=33) rfl rfl).trans ?_;exact Wk.of (.k .nil) .nil
theorem ac1(l:Li)(hl:l.ok):FP 42 [l.av] (.tup [wF l,bQ (ax l)]):=by
 refine am func42 ?_;refine gc (Qq l hl) ?_;refine gC (fun y=>?_) (fun y=>?_)
 ·have h1:=gQ y;refine bu ?_;unfold wF;rw[atd h1]
 have ae:=gV y;have h8:=(f8 ae).2.2.2.1;have h0:=(f8 ae).2.2.2.2;have J0:l.jo.length<=16:=by have:=(f8 ae).2.1;unfold fE at this;split at this;cases this;omega
 have xj:=hl.ld;have hm:l.bo.length<=aF/\l.jo.length<=aF:=by unfold aF;omega
 refine gl ?_;refine gs (Ib (.tmp rfl) T92 rfl T4 rfl rfl rfl rfl (by dsimp only;omega) rfl) ?_;refine gl ?_;refine gs (Ib (.tmp rfl) T92 rfl T4 rfl rfl rfl rfl (by dsimp only;omega) rfl) ?_;refine gl ?_;refine gs (Ib (.tmp rfl) T92 rfl T4 rfl rfl rfl rfl (by dsimp only;omega) rfl) ?_;refine gD ?_;refine gs (bI (n:=0) (.tmp rfl) (.const _) T92 rfl T4 rfl rfl oz rfl) ?_;refine gs (DB (.tmp rfl) rfl (by rw[asr];omega) (.const _) rfl T4 rfl) ?_ (6,0);refine gW (Wk.of (sl:=[pP 1 (.ptr 1 0),pP 5 (.ptr 33 0)]) (hp:=[pP 1 (.box l.av.cells),pP 33 (.box (l.av.cells++[.ms 23 1 0 l.bo.length,.ms 27 1 0 l.bo.length,.ms 31 1 0 l.jo.length,nS])),pP 23 (.vec (bv (dA l.bo.length 0))),pP 27 (.vec (bv (apf l.bo.length false))),pP 31 (.vec (bv (apf l.jo.length false)))]) a6 (.k (.k (.cons rfl (.of (by rw[Ge,Ba];rfl)) (.cons rfl (.of (by rw[Ge])) (.cons rfl (.of (by rw[Ge])) .nil)))))) ?_
 refine gl ?_;refine aP [1,5,40,41] [1,23,31] (fun(i:Nat)=>[pP 42 (i64 i)]) (fun i=>[pP 33 (.box (l.av.cells++[.ms 23 1 0 l.bo.length,.ms 27 1 0 l.bo.length,.ms 31 1 0 l.jo.length,nS])),pP 27 (.vec (bv (bw (apf l.bo.length false) ((l.drivers.map Dr.body).take i))))]) (fun i=>i<=l.drivers.length) (fun i=>l.drivers.length-i) 0 (ase _) ?_;rintro i hi K1 J1;refine gC (fun y=>?_) (fun y=>?_) (st2:=(11,0))
 ·have af:=aT y;obtain⟨d,hd⟩:=aJ af;have hb:=fd (uk ae hd);have hmt:=GV (k:=apf l.bo.length false) (bs:=l.drivers.map Dr.body) (i:=i) (b:=d.body) (by rw[asa,hd];rfl);refine gi (aw hd) ?_;refine gs (bI (n:=d.body.toNat) (.tmp rfl) (.tmp rfl) T92 rfl T4 rfl oz oz rfl) ?_;refine gs (DB (.tmp rfl) rfl (by rw[ju,nC,asr];omega) (.const _) rfl T4 rfl) ?_;refine gD ?_;refine ga aL ?_;exact aM J1 (i+1) af (hw:=Wk.of a6 (.k (.cons rfl (.of (by rw[Ba,hmt])) (.k (.k (.k .nil))))))
 have af:=bc hi y;have EU:bw (apf l.bo.length false) ((l.drivers.map Dr.body).take i)=ci l:=by rw[af];unfold ci;rw[asn (by rw[ar3];omega)]
 refine gW ((Wk.virt 900 4 rfl).trans<|Wk.of (sl:=[pP 1 (.ptr 1 0),pP 5 (.ptr 33 0)]) (hp:=[pP 33 (ta l 0),pP 23 (.vec (bv (dA l.bo.length 0))),pP 27 (.vec (bv (ci l))),pP 31 (.vec (bv (apf l.jo.length false))),pP 900 (.row 4 [])]) a6 (.cons rfl (BlkSub.bL (.cons (.refl _) (.cons (.refl _) (.cons (.refl _) (.cons (.refl _) (.cons (.refl _) (.cons (.refl _) (.cons (.refl _) (.cons (Sub.nM _ _ _) .nil)))))))) rfl) (.k (.cons rfl (.of (by rw[EU])) (.k (.k .nil)))))) ?_
 refine gt (aG (Mp l hl ae (dA l.bo.length 0) (apf l.jo.length false) (kp _ _) asr hm []) (eJ rfl) (fun k z h=>h) rfl rfl) ?_;refine fT [5,8] [] (fun(kw:List Bool)(out:List Gr)=>[pP 9 (bl (cM l kw).isSome)]) (fun kw out=>[pP 8 (.box ((cM l kw).getD default).av.cells),pP 33 (ta l out.length),pP 23 (.vec (bv kw)),pP 27 (.vec (bv (ci l))),pP 31 (.vec (bv (lT l out))),pP 900 (.row 4 (out.map Gr.av))]) (fun kw out=>kw.length=l.bo.length/\dj l (eM kw) kw out=(cH l,cP l)) (fun kw _=>eM kw) (dA l.bo.length 0) ([]) ⟨kp _ _,ako ae⟩ ?_
 rintro kw out ⟨hk,hf⟩ K2 J2;refine gC (fun y=>?_) (fun y=>?_) (st1:=(77777,0)) (st2:=(27,0))
 ·obtain ⟨g, hg⟩:=Gs y;have dM:=Iw ae hg;have anw:=afe ae hk hf;refine gW (Wk.of (sl:=[pP 5 (.ptr 33 0),pP 8 (.ptr 8 0)]) (hp:=[pP 8 (.box g.av.cells),pP 33 (ta l out.length),pP 23 (.vec (bv kw)),pP 27 (.vec (bv (ci l))),pP 31 (.vec (bv (lT l out))),pP 900 (.row 4 (out.map Gr.av))]) a6 (.cons rfl (.of (by rw [hg]; rfl)) (.k (.k (.k (.k (.k .nil))))))) ?_;refine gl ?_;refine aP [5,8,66,67] [8,33,27,31,900] (fun (j:Nat)=>[pP 68 (i64 j)]) (fun j=>[pP 23 (.vec (bv (bw kw (g.bo.take j))))]) (fun j=>j <= g.bo.length) (fun j=>g.bo.length - j) 0 (ase _) ?_;rintro j hj K3 J3;refine gC (fun y=>?_) (fun y=>?_)
  ·have af:=aT y;obtain⟨b,hb⟩:=aJ af;have pv:=dM.b b (ar1 hb);have eY:=dM.lb;refine gi (aw hb) ?_;refine gs (bI (n:=b.toNat) (.tmp rfl) (.tmp rfl) T92 rfl T4 rfl oz oz rfl) ?_;refine gs (DB (.tmp rfl) rfl (by rw[ju,nC];omega) (.const _) rfl T4 rfl) ?_;refine ga aL ?_;exact aM J3 (j+1) af (hw:=Wk.of a6 (.cons rfl (.of (by rw[Ba,GV hb])) (.k (.k (.k (.k (.k .nil)))))))
  have af:=bc hj y;subst af;refine gl ?_;refine aP [5,8,80,81] [8,33,27,900] (fun(q:Nat)=>[pP 82 (i64 q)]) (fun q=>[pP 23 (.vec (bv (bw kw g.bo))),pP 31 (.vec (bv (bw (lT l out) (g.jo.take q))))]) (fun q=>q<=g.jo.length) (fun q=>g.jo.length-q) 0 (ase _) ?_ (h2:=(.cons rfl (.of (by rw[asK])) (.k .nil)));rintro q hq K4 J4;refine gC (fun y=>?_) (fun y=>?_)
  ·have af:=aT y;obtain⟨b,hb⟩:=aJ af;have pv:=dM.j b (ar1 hb);have md:=dM.lj;refine gi (aw hb) ?_;refine gs (bI (n:=b.toNat) (.tmp rfl) (.tmp rfl) T92 rfl T4 rfl oz oz rfl) ?_;refine gs (DB (.tmp rfl) rfl (by rw[ju,nC,IR];omega) (.const _) rfl T4 rfl) ?_;refine ga aL ?_;exact aM J4 (q+1) af (hw:=Wk.of a6 (.k (.cons rfl (.of (by rw[Ba,GV hb])) (.k (.k (.k (.k .nil)))))))
  have af:=bc hq y;subst af;refine gs (eQ (.tmp rfl) rfl (by rw[ar3]) (.tmp rfl) T53 rfl T104 rfl rfl (by simp only[asi,asu];omega) rfl rfl) ?_;refine gD ?_ (25,0);refine gW (Wk.of (sl:=[pP 5 (.ptr 33 0),pP 8 (.ptr 8 0)]) (hp:=[pP 8 (.box g.av.cells),pP 33 (.box (l.av.cells++[.ms 23 1 0 l.bo.length,.ms 27 1 0 l.bo.length,.ms 31 1 0 l.jo.length,.ms 100 4 0 (out++[g]).length])),pP 100 (.row 4 ((out++[g]).map Gr.av)),pP 23 (.vec (bv (bw kw g.bo))),pP 27 (.vec (bv (ci l))),pP 31 (.vec (bv (lT l (out++[g]))))]) a6 (.k (.cons rfl (.of (by rw[asx];rfl)) (.cons rfl (.of (by rw[asz];rfl)) (.k (.k (.cons rfl (.of (by rw[aj2,asK])) .nil))))))) ?_ (25,0)
  refine gW (Wk.rk (k:=100) (d:=900) rfl rfl) ?_ (26,0);refine gW (Wk.o (sl:=[pP 5 (.ptr 33 0),pP 103 (g.av)]) (hp:=[pP 33 (ta l (out++[g]).length),pP 23 (.vec (bv (bw kw g.bo))),pP 27 (.vec (bv (ci l))),pP 31 (.vec (bv (lT l (out++[g])))),pP 900 (.row 4 ((out++[g]).map Gr.av))])) ?_;refine gt (aG (Mp l hl ae (bw kw g.bo) (lT l (out++[g])) (by rw[nC];exact hk) (IR _ _) hm (out++[g])) (eJ rfl) (by intro k z h;simp only[rH,aE]at h;split at h;(subst_vars;exact h);split at h;(subst_vars;exact h);split at h;(subst_vars;exact h);split at h;(subst_vars;exact h);split at h;(subst_vars;exact h);cases h) rfl rfl) ?_;exact f7 J2 (bw kw g.bo) (out++[g]) ⟨by rw[nC];exact hk,af2 ae hk hf hg⟩ (zC ae hk hg)
 have hg:=Fo y;obtain⟨e1,e2⟩:=ad5 hf hg;subst e1 e2;refine gW (Wk.o (sl:=[pP 5 (.ptr 33 0)]) (hp:=[pP 33 (ta l (cP l).length),pP 23 (.vec (bv (cH l))),pP 27 (.vec (bv (ci l))),pP 31 (.vec (bv (lT l (cP l)))),pP 900 (.row 4 ((cP l).map Gr.av))])) ?_ (27,0);refine gW (VA l (cH l) (lT l (cP l)) (cP l) hk (IR _ _) hm) ?_;refine bu ?_;unfold wF;rw[ate ae,ae];rfl
theorem Tv{α:Type}[BEq α][LawfulBEq α]{xs:List α}{b:α}{ok:Nat->Bool}(h:∀i x,xs[i]?=some x->ok i=!(b==x)):decide (0<=wV (ff xs.length ok))=xs.contains b:=by
 cases hf:ff xs.length ok with
 |some i =>
  obtain⟨h1,h2⟩:=gL hf;obtain⟨x,hx⟩:=aJ h1;rw[h i x hx]at h2;have:b=x:=by simpa using h2
  subst this;rw[api.2 (ar1 hx)];exact ati (by show(0:Int)<=(i:Int);omega)
 |none =>
  rw[atj (by show ¬(0:Int) <= -1;decide)]
  symm
  rw[<- Bool.not_eq_true,api];intro hm;obtain⟨i,hi⟩:=List.mem_iff_getElem?.1 hm;have hlt:=(ap9.1 hi).1;unfold ff at hf;rw[List.find?_eq_none]at hf;have:=hf i (apt.2 hlt);rw[h i b hi]at this;simp at this
theorem age(xs:List Bool)(b:Bool)(hl:xs.length<=281474976710656):FP 112 [.lst 1 (xs.map bl),bl b] (i64 (wV (ff xs.length (fun i=>!(b==xs.getD i false))))):=by
 refine am func112 ?_;refine gl ?_;refine aP [0,1,7] [] (fun(i:Nat)=>[pP 8 (i64 i)]) (fun _=>[]) (fun i=>i<=xs.length/\∀j,j<i->(!(b==xs.getD j false))=true) (fun i=>xs.length-i) 0 ⟨ase _,fun j h=>by omega⟩ ?_;rintro i ⟨hi,hj⟩ K1 J1;refine gC (fun z=>?_) (fun z=>?_)
 ·have af:=aT z;obtain⟨x,hx⟩:=aJ af;have hg:xs.getD i false=x:=aS hx;refine gi (aw hx) ?_;refine gC (fun z=>?_) (fun z=>?_)
  ·have h2:(b==x)=true:=z;refine ah ?_;rw[lL af hj (by rw[hg,h2];rfl)];rfl
  have h2:(b==x)=false:=z;refine ga aL ?_;exact aM J1 (i+1) ⟨af,fun j h9=>by rcases asb j i with g |g;exact hj j g;(have:j=i:=by omega);subst this;rw[hg,h2];rfl⟩
 have af:=bc hi z;subst af;refine ah ?_;rw[mz hj];rfl
theorem Ox(xs:List Bool)(b:Bool)(hl:xs.length<=281474976710656):FP 43 [.lst 1 (xs.map bl),bl b] (bl (xs.contains b)):=by
 refine am func43 ?_;refine gc (age xs b hl) ?_;refine ah ?_;rw[<- Tv (xs:=xs) (b:=b) (ok:=fun i=>!(b==xs.getD i false)) (fun i x hx=>by rw[aS hx])];rfl
theorem aem(xs:List Int)(b:Int)(hl:xs.length<=281474976710656):FP 321 [.lst 1 (xs.map i64),i64 b] (i64 (wV (ff xs.length (fun i=>!(b==xs.getD i 0))))):=by
 refine am func321 ?_;refine gl ?_;refine aP [0,1,7] [] (fun(i:Nat)=>[pP 8 (i64 i)]) (fun _=>[]) (fun i=>i<=xs.length/\∀j,j<i->(!(b==xs.getD j 0))=true) (fun i=>xs.length-i) 0 ⟨ase _,fun j h=>by omega⟩ ?_;rintro i ⟨hi,hj⟩ K1 J1;refine gC (fun z=>?_) (fun z=>?_)
 ·have af:=aT z;obtain⟨x,hx⟩:=aJ af;have hg:xs.getD i 0=x:=aS hx;refine gi (aw hx) ?_;refine gC (fun z=>?_) (fun z=>?_)
  ·have h2:(b==x)=true:=z;refine ah ?_;rw[lL af hj (by rw[hg,h2];rfl)];rfl
  have h2:(b==x)=false:=z;refine ga aL ?_;exact aM J1 (i+1) ⟨af,fun j h9=>by rcases asb j i with g |g;exact hj j g;(have:j=i:=by omega);subst this;rw[hg,h2];rfl⟩
 have af:=bc hi z;subst af;refine ah ?_;rw[mz hj];rfl
theorem PW(xs:List Int)(b:Int)(hl:xs.length<=281474976710656):FP 223 [.lst 1 (xs.map i64),i64 b] (bl (xs.contains b)):=by
 refine am func223 ?_;refine gc (aem xs b hl) ?_;refine ah ?_;rw[<- Tv (xs:=xs) (b:=b) (ok:=fun i=>!(b==xs.getD i 0)) (fun i x hx=>by rw[aS hx])];rfl
theorem Ch(l:Li)(hl:l.ok):FP 17 [l.av] (.tup [.lst 4 (((if ax l=0 then ay l else[])).map Gr.av),bQ (if ax l=0 then bS l else ax l)]):=by
 refine am func17 ?_;refine gc (ac1 l hl) (hnm:=(by unfold wF;split <;> rfl)) ?_;refine gC (fun z=>?_) (fun z=>?_) (st2:=(77777,0))
 ·have h1:=gQ z;refine gR ?_;exact ft (by rw[atd h1,atd h1];exact Sub.tup (.cons (.nil _ _ _) (.cons (.refl _) .nil)))
 have ae:=gV z;have h8:=(f8 ae).2.2.2.1;have J0:l.jo.length<=16:=by have:=(f8 ae).2.1;unfold fE at this;split at this;cases this;omega
 have lk1:(cH l).length=l.bo.length:=by unfold cH;rw[wJ,kp]
 have lk2:(gq l).length=l.jo.length:=by unfold gq;rw[wJ,asr]
 have e1:wF l=.iptr (eA l (cH l) (ci l) [.lst 1 ((gq l).map bl),.lst 4 ((cP l).map Gr.av)]):=by unfold wF;rw[ate ae]
 have c1:=RO (k:=cH l);have c2:=RO (k:=gq l);refine gW (Wk.of (sl:=[pP 4 (.iptr (eA l (cH l) (ci l) [.lst 1 ((gq l).map bl),.lst 4 ((cP l).map Gr.av)])),pP 5 (bQ (ax l))]) (hp:=[]) (.cons rfl (.of e1) (.k .nil)) .nil) ?_;refine gc (Ox (cH l) false oz) ?_;refine bV (fun _=>(Ox (gq l) false oz)) ?_;refine gC (fun t25=>?_) (fun t25=>?_)
 ·have h2:bS l=7:=by
   unfold bS;rw[atd];intro h;have h3:(cH l).contains false=false:=c1.1 oz;have h4:(gq l).contains false=false:=c2.1 oz;rw[h3,h4]at t25;cases t25
  refine gR ?_;exact ft (by rw[ate ae,ate ae];unfold ay;rw[atd (by rw[h2];simp),h2];exact Sub.tup (.cons (.nil _ _ _) (.cons (.refl _) .nil)))
 have h2:bS l=0:=by
  unfold bS;rw[ate];cases h3:(cH l).contains false <;> cases h4:(gq l).contains false <;> rw[h3,h4]at t25 <;> first |(cases t25;done) |(have g1:=c1.2 h3;have g2:=c2.2 h4;omega)
 refine bu ?_;rw[ate ae,ate ae,h2];unfold ay;rw[ate h2];rfl
def SO(ys:List Int)(i:Nat):Prop:=∀p q,p<q->q<i->ys.getD p 0<=ys.getD q 0
def SI(ys:List Int)(i j:Nat):Prop:=∀p q,p<q->q<=i->q≠j->ys.getD p 0<=ys.getD q 0
theorem aco{xs ys:List Int}{i:Nat}(hp:ys.Perm xs)(hi:ys.length<=i)(h:SO ys i):ys=eK xs:=by
 refine VZ hp (List.pairwise_iff_getElem.2 fun p q hp hq hpq=>?_);have h1:=h p q hpq oz;rw[aS (ar7 hp),aS (ar7 hq)]at h1;exact h1
theorem XY{ys:List Int}{i:Nat}(h:SO ys i):SI ys i i:=fun p q h1 h2 h3=>h p q h1 oz
theorem ZG{ys:List Int}{i j:Nat}(h:SI ys i j)(hj:j=0\/ys.getD (j-1) 0<=ys.getD j 0):SO ys (i+1):=by
 intro p q h1 h2
 by_cases hq:q=j
 ·subst hq;rcases hj with hj |hj
  ·omega
  ·by_cases hp:p=q-1
   ·subst hp;exact hj
   ·exact Int.le_trans (h p (q-1) oz oz oz) hj
 ·exact h p q h1 oz hq
theorem KR(ys:List Int)(i:Nat)(x:Int)(p:Nat)(hi:i<ys.length):(ys.set i x).getD p 0=if p=i then x else ys.getD p 0:=by
 rw[ar2,ar2,List.getElem?_set]
 by_cases h:i=p
 ·subst h;simp[hi]
 ·rw[atd h,atd (fun e=>h e.symm)]
theorem agn{ys:List Int}{i j:Nat}(h:SI ys i j)(hj:0<j)(hi:j<=i)(hl:i<ys.length)(hlt:ys.getD j 0<ys.getD (j-1) 0):SI ((ys.set j (ys.getD (j-1) 0)).set (j-1) (ys.getD j 0)) i (j-1):=by
 intro p q h1 h2 h3
 have e:∀r,((ys.set j (ys.getD (j-1) 0)).set (j-1) (ys.getD j 0)).getD r 0=if r=j-1 then ys.getD j 0 else if r=j then ys.getD (j-1) 0 else ys.getD r 0:=fun r=>by
  rw[KR _ _ _ _ (by rw[as9];omega),KR _ _ _ _ oz]
 rw[e,e,atd h3]
 by_cases hq:q=j
 ·rw[ate hq]
  by_cases hp:p=j-1
  ·rw[ate hp];omega
  ·rw[atd hp,atd oz];exact h p (j-1) oz oz oz
 ·rw[atd hq]
  by_cases hp:p=j-1
  ·rw[ate hp];exact h j q oz h2 hq
  ·rw[atd hp]
   by_cases lD:p=j
   ·rw[ate lD];exact h (j-1) q oz h2 hq
   ·rw[atd lD];exact h p q h1 h2 hq
theorem acg{ys:List Int}{j:Nat}{a b:Int}(ha:ys[j]?=some a)(hb:ys[j-1]?=some b):((ys.set j b).set (j-1) a).Perm ys:=by
 obtain⟨h1,rfl⟩:=ap9.1 ha;obtain⟨h2,rfl⟩:=ap9.1 hb;exact List.set_set_perm h1 h2
theorem VN{j:Nat}{a b:Int}(h:cond (aa .gtr (j:Int) 0) (decide (a<b)) false=true):0<j/\a<b:=by
 cases h1:aa .gtr (j:Int) 0 <;> rw[h1]at h
 ·cases h
 ·exact⟨ee (b:=0) h1,atg h⟩
theorem akp{j:Nat}{a b:Int}(h:cond (aa .gtr (j:Int) 0) (decide (a<b)) false=false):j=0\/b<=a:=by
 cases h1:aa .gtr (j:Int) 0 <;> rw[h1]at h
 ·have:=kl (b:=0) h1;omega
 ·have h2:decide (a<b)=false:=h;have:=ath h2;omega
theorem ajh(ys:List Int)(j:Nat)(a b:Int):((ys.map i64).set j (i64 b)).set (j-1) (i64 a)=((ys.set j b).set (j-1) a).map i64:=by rw[as7,as7]
theorem Mz(a:Int):FP 388 [i64 a] (bl false):=by
 refine am func388 ?_;refine ah ?_;simp[aa];rfl
theorem aft(a b:Int):FP 328 [i64 a,i64 b] (bl (decide (a<b))):=by
 refine am func328 ?_;refine gc (Mz a) ?_;refine bV (fun _=>(Mz b)) ?_;refine ah ?_
 first |rfl |(simp;done)
theorem XR(xs:List Int)(hl:xs.length<=12):Con prog 322 [.ms 1000 1 0 xs.length,i64 0,i64 xs.length] [pP 1000 (.row 1 (xs.map i64))] (.tup []) [pP 1000 (.row 1 ((eK xs).map i64))]:=by
 refine gF func322 (fun k z h=>bD h) ?_;refine ga (show _=((1:Nat):Int)from rfl) ?_;refine fT [1,2] [] (fun(ys:List Int)(i:Nat)=>[pP 0 (.ms 1000 1 0 xs.length),pP 6 (i64 i)]) (fun ys _=>[pP 1000 (.row 1 (ys.map i64))]) (fun ys i=>ys.length=xs.length/\ys.Perm xs/\1<=i/\SO ys i) (fun _ i=>xs.length+1-i) xs 1 ⟨rfl,.refl _,ar8 _,fun p q h1 h2=>by omega⟩ ?_;rintro ys i ⟨EO,Uv,hi1,Uw⟩ K1 J1;refine gC (fun y=>?_) (fun y=>?_)
 ·have af:=aT y;refine fT [1,2,6] [] (fun (zs:List Int) (j:Nat)=>[pP 0 (.ms 1000 1 0 xs.length),pP 7 (i64 j)]) (fun zs _=>[pP 1000 (.row 1 (zs.map i64))]) (fun zs j=>zs.length = xs.length /\ zs.Perm xs /\ j <= i /\ SI zs i j) (fun _ j=>j) ys i ⟨EO,Uv,ar8 _,XY Uw⟩ ?_;rintro zs j ⟨Ux,Uy,qQ,Uz⟩ K2 J2;obtain ⟨a,ha⟩:=aJ (show j < zs.length by omega);obtain ⟨b,hb⟩:=aJ (show j - 1 < zs.length by omega);refine gs (fM rfl rfl rfl (fun h=>bI (n:=j) (.opt rfl (o1 h)) (.opt rfl (o1 h)) T30 rfl T3 rfl oz oz rfl)) ?_;refine gs (fM rfl rfl rfl (fun h=>dt (.opt rfl (o1 h)) rfl (aw ha) T3 rfl rfl rfl)) ?_;refine kG (fun h=>(gG (ee (b:=0) h) (by unfold aF; omega))) ?_;refine gs (fM rfl rfl rfl (fun h=>bI (n:=(j - 1)) (.opt rfl (o1 h)) (.opt rfl (o1 h)) T30 rfl T3 rfl oz oz rfl)) ?_;refine gs (fM rfl rfl rfl (fun h=>dt (.opt rfl (o1 h)) rfl (aw hb) T3 rfl rfl rfl)) ?_;refine bV (fun _=>(aft a b)) ?_;refine gD ?_;refine gC (fun y=>?_) (fun y=>?_)
  ·obtain⟨j5,Ud⟩:=VN y;refine ga (gG j5 (by unfold aF;omega)) ?_;refine ga (gG j5 (by unfold aF;omega)) ?_;refine gs (bI (n:=(j-1)) (.tmp rfl) (.tmp rfl) T30 rfl T3 rfl oz oz rfl) ?_;refine gs (dt (.tmp rfl) rfl (aw hb) T3 rfl rfl rfl) ?_;refine gs (bI (n:=j) (.tmp rfl) (.tmp rfl) T30 rfl T3 rfl oz oz rfl) ?_;refine gs (dt (.tmp rfl) rfl (aw ha) T3 rfl rfl rfl) ?_;refine gs (bI (n:=j) (.tmp rfl) (.tmp rfl) T30 rfl T3 rfl oz oz rfl) ?_;refine gs (dS (.tmp rfl) rfl (aw ha) rfl (.tmp rfl) rfl rfl T3 rfl rfl) ?_;refine gs (bI (n:=(j-1)) (.tmp rfl) (.tmp rfl) T30 rfl T3 rfl oz oz rfl) ?_;refine gs (dS (.tmp rfl) rfl ((List.getElem?_set_ne oz).trans (aw hb)) rfl (.tmp rfl) rfl rfl T3 rfl rfl) ?_;refine gD ?_;refine ga (gG j5 (by unfold aF;omega)) ?_;exact f7 J2 ((zs.set j b).set (j-1) a) (j-1) ⟨by rw[as9,as9];exact Ux,(acg ha hb).trans Uy,by omega,by have h9:=agn Uz j5 qQ oz (by rw[aS ha,aS hb];exact Ud);rw[aS ha,aS hb]at h9;exact h9⟩ (hw:=Wk.of a6 (.cons rfl (.of (atl (Blk.row 1) (ajh zs j a b))) .nil))
  have hs:=akp y;refine ga aL ?_;exact f7 J1 zs (i+1) ⟨Ux,Uy,by omega,ZG Uz (by rw[aS ha,aS hb];exact hs)⟩
 have af:=vL y;refine gR ?_;exact aD.own2 rfl (by rw[<- aco Uv oz Uw]) rfl
theorem ajk(xs:List Int)(hl:xs.length<=12)(m:Int):Con prog 224 [.ms 1000 1 0 xs.length,i64 0,i64 xs.length,i64 m] [pP 1000 (.row 1 (xs.map i64))] (.tup []) [pP 1000 (.row 1 ((eK xs).map i64))]:=by
 refine gF func224 (fun k z h=>bD h) ?_;refine gL0 [1,2,3,8,9] [1000] [pP 0 (.ms 1000 1 0 xs.length)] [] (True) (0) trivial ?_;rintro-K1 J1;refine ga (eO oz) ?_;refine gC (fun y=>?_) (fun y=>?_) (st2:=(77777,0))
 ·refine gt (aG (XR xs hl) (aB rfl rfl rfl) aK rfl rfl) ?_;refine gR ?_;exact aD.own2 rfl rfl rfl
 (rw[show aa .leq ((xs.length:Int)-0) 12=true from ati oz]at y;cases y)
theorem ach(x:Nat)(hx:x<256):FP 332 [u64 x] (i64 (aY x)):=by
 refine am func332 ?_;refine gC (fun z=>?_) (fun z=>?_) (st1:=(2,0))
 ·(have:=z;simp[aa]at this;omega)
 refine gC (fun z=>?_) (fun z=>?_) (st1:=(5,0))
 ·(have:=z;simp[aa]at this;omega)
 refine gC (fun z=>?_) (fun z=>?_) (st1:=(8,0))
 ·(have:=z;simp[aa]at this;omega)
 refine gv (lH hx) ?_;refine gs (zL (y:=x) (.const _) (.tmp rfl) T9 rfl (by kernel_rfl) (by first |rfl |omega) oz rfl) ?_;refine gv (i64_in (by have:=kJ hx;omega)) ?_;refine ga (dx (by have:=kJ hx;omega)) ?_;refine ah ?_;simp only[i64];congr 2;omega
theorem Yc(x:Nat)(hx:x<256):FP 225 [u64 x] (i64 (aY x)):=by
 refine am func225 ?_;refine gC (fun UA=>?_) (fun UA=>?_) (st1:=(1,0));cases UA;refine gc (ach x hx) ?_;refine ah ?_
 first |rfl |(simp;done)
theorem Ni(xs:List Int)(hl:xs.length<=12):Con prog 124 [.ms 1000 1 0 xs.length] [pP 1000 (.row 1 (xs.map i64))] (.tup []) [pP 1000 (.row 1 ((eK xs).map i64))]:=by
 refine gF func124 (fun k z h=>bD h) ?_;refine gv (show IntKind.u64.wrap _=((xs.length:Nat):Int)from u64_in oz) ?_;refine gc (Yc xs.length oz) ?_;refine gt (aG (ajk xs hl _) (.cons (.tmp rfl) (.cons (.const _) (b9 rfl rfl))) aK rfl rfl) ?_;refine gR ?_;exact aD.own2 rfl rfl rfl
theorem adl{l:Li}{g:Gr}{i:Nat}{z:Int}{j:Jt}(hz:g.jo[i]?=some z)(hj:l.jo[z.toNat]?=some j):(b7 l g)[i]?=some (fQ g j):=by
 unfold b7;rw[asa,hz,arz,aS hj]
theorem Bc{l:Li}{g:Gr}{i:Nat}{z:Int}{j:Jt}{a:Int}(hz:g.jo[i]?=some z)(hj:l.jo[z.toNat]?=some j)(ha:fQ g j=a):((b7 l g).take i).map i64++[i64 a]=((b7 l g).take (i+1)).map i64:=by
 rw[fO (adl hz hj),ha,asz];rfl
theorem Lq{z:Int}{n:Nat}(h0:0<=z)(h1:z<n):cond (aa .lss z 0) true (aa .geq z (n:Int))=false:=by
 rw[show aa .lss z 0=false from atj oz];exact atj oz
theorem Fq(l:Li)(hl:l.ok)(ae:ax l=0)(g:Gr)(hg:GrOk l g):Con prog 123 [l.av,g.av] [] (.tup [.ms 900 1 0 g.jo.length,.v .nilIface]) [pP 900 (.row 1 ((b7 l g).map i64))]:=by
 have eY:=hg.lb;have md:=hg.lj;refine gF func123 (fun k z h=>by cases h) ?_;refine gc (Qq l hl) ?_;refine gC (fun q=>?_) (fun q=>?_) (st1:=(3,0))
 ·(rw[ae]at q;cases q)
 refine gl ?_;refine gW ((Wk.virt 900 1 rfl).trans<|Wk.of (sl:=[pP 2 (.ptr 2 0),pP 3 (.ptr 3 0),pP 7 (.ms 900 1 0 0),pP 19 (.lst 1 (g.jo.map i64)),pP 20 (i64 g.jo.length),pP 21 (i64 0)]) (hp:=[pP 2 (.box l.av.cells),pP 3 (.box g.av.cells),pP 900 (.row 1 [])]) (.k (.k (.cons rfl (Sub.nM _ _ _) (.k (.k (.k .nil)))))) (.k (.k (.k .nil)))) ?_;refine aP [2,3,19,20] [2,3] (fun(i:Nat)=>[pP 7 (.ms 900 1 0 i),pP 21 (i64 i)]) (fun i=>[pP 900 (.row 1 (((b7 l g).take i).map i64))]) (fun i=>i<=g.jo.length) (fun i=>g.jo.length-i) 0 (ase _) ?_;rintro i hi K1 J1;refine gC (fun q=>?_) (fun q=>?_) (st2:=(18,0))
 ·have af:=aT q;obtain ⟨z,hz⟩:=aJ af;obtain ⟨z0,z1⟩:=hg.j z (ar1 hz);obtain ⟨j,hj⟩:∃ j,l.jo[z.toNat]? = some j:=aJ oz;have hlt:(((b7 l g).take i).map i64).length = i:=by rw [ar3,aso,lV]; omega
  refine gi (aw hz) ?_;refine cG ?_;refine gC (fun q=>?_) (fun q=>?_) (st1:=(9,0))
  ·(rw[Lq z0 z1]at q;cases q)
  refine gi (eI (n:=z.toNat) oz hj) ?_;refine gc (PW g.bo j.a oz) ?_;refine gc (PW g.bo j.b oz) ?_;refine gD ?_;refine gC (fun t55=>?_) (fun t55=>?_)
  ·have ha : fQ g j = -1 := by unfold fQ; cases h1 : g.bo.contains j.a <;> cases h2 : g.bo.contains j.b <;> rw [h1, h2] at t55 <;> first | (cases t55; done) | rfl
   refine gs (eQ (.tmp rfl) rfl hlt.symm (.tmp rfl) T30 rfl T3 rfl rfl (by simp only[asi,asu];omega) rfl rfl) ?_ (17,0);refine gW (Wk.of (sl:=[pP 2 (.ptr 2 0),pP 3 (.ptr 3 0),pP 7 (.ms 62 1 0 (i+1)),pP 19 (.lst 1 (g.jo.map i64)),pP 20 (i64 g.jo.length),pP 21 (i64 i)]) (hp:=[pP 2 (.box l.av.cells),pP 3 (.box g.av.cells),pP 62 (.row 1 (((b7 l g).take (i+1)).map i64))]) a6 (.k (.k (.cons rfl (.of (atl (Blk.row 1) (Bc hz hj ha))) .nil)))) ?_ (17,0);refine gW (Wk.rk (k:=62) (d:=900) rfl rfl) ?_;refine ga aL ?_;exact aM J1 (i+1) af
  refine gC (fun q=>?_) (fun q=>?_)
  ·have ha : fQ g j = j.b := by unfold fQ; cases h1 : g.bo.contains j.a <;> cases h2 : g.bo.contains j.b <;> rw [h1] at q <;> rw [h1, h2] at t55 <;> first | (cases t55; done) | (cases q; done) | rfl
   refine gs (eQ (.tmp rfl) rfl hlt.symm (.tmp rfl) T30 rfl T3 rfl rfl (by simp only[asi,asu];omega) rfl rfl) ?_ (17,0);refine gW (Wk.of (sl:=[pP 2 (.ptr 2 0),pP 3 (.ptr 3 0),pP 7 (.ms 69 1 0 (i+1)),pP 19 (.lst 1 (g.jo.map i64)),pP 20 (i64 g.jo.length),pP 21 (i64 i)]) (hp:=[pP 2 (.box l.av.cells),pP 3 (.box g.av.cells),pP 69 (.row 1 (((b7 l g).take (i+1)).map i64))]) a6 (.k (.k (.cons rfl (.of (atl (Blk.row 1) (Bc hz hj ha))) .nil)))) ?_ (17,0);refine gW (Wk.rk (k:=69) (d:=900) rfl rfl) ?_;refine ga aL ?_;exact aM J1 (i+1) af
  have ha:fQ g j=j.a:=by unfold fQ;rw[atd (by rw[show g.bo.contains j.a=false from q];simp)]
  refine gs (eQ (.tmp rfl) rfl hlt.symm (.tmp rfl) T30 rfl T3 rfl rfl (by simp only[asi,asu];omega) rfl rfl) ?_ (17,0);refine gW (Wk.of (sl:=[pP 2 (.ptr 2 0),pP 3 (.ptr 3 0),pP 7 (.ms 54 1 0 (i+1)),pP 19 (.lst 1 (g.jo.map i64)),pP 20 (i64 g.jo.length),pP 21 (i64 i)]) (hp:=[pP 2 (.box l.av.cells),pP 3 (.box g.av.cells),pP 54 (.row 1 (((b7 l g).take (i+1)).map i64))]) a6 (.k (.k (.cons rfl (.of (atl (Blk.row 1) (Bc hz hj ha))) .nil)))) ?_ (17,0);refine gW (Wk.rk (k:=54) (d:=900) rfl rfl) ?_;refine ga aL ?_;exact aM J1 (i+1) af
 have af:=bc hi q;subst af;refine gW (Wk.of (sl:=[pP 7 (.ms 900 1 0 g.jo.length)]) (hp:=[pP 900 (.row 1 ((b7 l g).map i64))]) a6 (.cons rfl (.of (by rw[asn (by rw[lV];exact ar8 _)])) .nil)) ?_;refine gR ?_;exact aD.keep (bt rfl)
section
variable{ts:LL}{u k:Nat}{a b a2 b2:List Rat}{x y x2 y2:Et ts}{w v w' v' w2 v2 w3 v3:Nat}
theorem GD(c:Ct ts u k)(h:w+v+(w'+v')<=10000):w*u+v*k+(w'*u+v'*k)+1<=lm ts.length:=by
 have h1:=Pf c (w:=w+w') (v:=v+v') (m:=10000) oz;have h2:=pE ts.length;rw[C5];omega
theorem G4(c:Ct ts u k){R:Nat}(h:eB R ts.length<=k):2*(2500*1000000+2500*1000000+kB R ts.length)<=lm ts.length:=by
 have h1:=c.kk h;have h2:=pE ts.length;omega
theorem afx [c : Ct ts u k] [ha : Zl ts u k a x w v] [hb : Zl ts u k b y w' v'] (h : w + v + (w' + v') <= 10000 := by decide) : FP 336 [bA ts, nA a, nA b] (.tup [nA (sX (x + y)), .v .nilIface]) := by
 obtain⟨R,tw,hk⟩:=c.ex;have h0:=GD c h;have h1:=PC tw ha.nm hb.nm oz;rw[ha.eq,hb.eq]at h1;exact h1
theorem OI [c : Ct ts u k] [ha : Zl ts u k a x w v] [hb : Zl ts u k b y w' v'] (h : w + v + (w' + v') <= 10000 := by decide) : FP 154 [bA ts, nA a, nA b] (.tup [nA (sX (x - y)), .v .nilIface]) := by
 obtain⟨R,tw,hk⟩:=c.ex;have h0:=GD c h;have h1:=CJ tw ha.nm hb.nm oz;rw[ha.eq,hb.eq]at h1;exact h1
theorem P9 [c : Ct ts u k] [ha : Zl ts u k a x w v] [hb : Zl ts u k b y w' v'] (h : w + v + (w' + v') <= 10000 := by decide) : FP 155 [bA ts, nA a, nA b] (.tup [nA (sX (x * y)), .v .nilIface]) := by
 obtain⟨R,tw,hk⟩:=c.ex;have h0:=GD c h;have h1:=Ql tw ha.nm hb.nm oz;rw[ha.eq,hb.eq]at h1;exact h1
theorem Tk [c : Ct ts u k] [ha : Zl ts u k a x w v] [hb : Zl ts u k b y w' v'] [sK : Zl ts u k a2 x2 w2 v2] [bg : Zl ts u k b2 y2 w3 v3] (h : w + v + (w' + v') + (w2 + v2 + (w3 + v3)) <= 2500 := by decide) :
  FP 65 [bA ts,aQ a b,aQ a2 b2] (.tup [nA (sX (dotE x y x2 y2)),.v .nilIface]):=by
 obtain⟨R,tw,hk⟩:=c.ex;have h0:=G4 c hk;have h1:=P5 (e:=2500*1000000) tw (ha.up c oz) (hb.up c oz) (sK.up c oz) (bg.up c oz) oz;rw[ha.eq,hb.eq,sK.eq,bg.eq]at h1;exact h1
def atXE(c s X:Et ts)(p q:Rat):Et ts:=(c*qE p-s*qE q)+X
def atYE(c s Y:Et ts)(p q:Rat):Et ts:=(s*qE p+c*qE q)+Y
instance Zu.atXE[c:Ct ts u k]{x y z:Et ts}{p q:Rat}{w1 v1 w2 v2 w3 v3 w4 w5:Nat}[Zu u k x w1 v1][Zu u k y w2 v2][Zu u k z w3 v3][Qz u p w4][Qz u q w5]:Zu u k (atXE x y z p q) (w1+w4+(w2+w5)+w3) (v1+0+1+(v2+0+1)+1+v3+1) :=
  (atm:Zu u k ((x*Lw.qE p-y*Lw.qE q)+z) _ _)
instance Zu.atYE[c:Ct ts u k]{x y z:Et ts}{p q:Rat}{w1 v1 w2 v2 w3 v3 w4 w5:Nat}[Zu u k x w1 v1][Zu u k y w2 v2][Zu u k z w3 v3][Qz u p w4][Qz u q w5]:Zu u k (atYE x y z p q) (w2+w4+(w1+w5)+w3) (v2+0+1+(v1+0+1)+1+v3+1) :=
  (atm:Zu u k ((y*Lw.qE p+x*Lw.qE q)+z) _ _)
end
end Go.Lw
