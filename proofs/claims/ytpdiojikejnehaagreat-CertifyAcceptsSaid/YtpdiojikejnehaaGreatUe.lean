/- CertifyAccepts: for any linkage, any turns and a further turn the law returns true and leaves its arguments as they were. No other condition. Part 5 of 8: what the later parts need -/
import Derived.Test.YtpdiojikejnehaaGreatUd
set_option linter.unusedVariables false
open List (mem_of_getElem? mem_append map_cons mem_cons length_cons foldl_cons length_append length_nil getD_eq_getElem?_getD getElem?_eq_none all_eq_true getElem?_take getElem?_drop getElem?_map getElem?_eq_getElem getElem?_replicate append_nil map_append length_take take_of_length_le drop_zero take_length not_mem_nil length_map map_take map_map length_replicate map_replicate map_set length_set)
open Nat (eq_of_beq_eq_true le_refl lt_of_lt_of_le lt_or_ge le_trans zero_le)
open Option (map_eq_some_iff)
open Bool (and_eq_true)
open Array (getD_eq_getD_getElem?)
open Int (toNat_natCast)
open Go.Proofs.Tryz
namespace Go.Lw
open Go.Proofs
theorem rS{α:Type}(f:α->AV)(l:List α)(hl:l.length<=281474976710656):FP 318 [.lst 3 (l.map f)] (i64 (eY l.length)):=by
 refine ai func318 ?_;refine aN [0] [] (fun(k:Nat)=>[(3,some (i64 k))]) (fun _=>[]) (fun k=>k<=48/\∀j,j<k->2^j<l.length) (fun k=>48-k) 0 ⟨by omega,fun j h=>by omega⟩ ?_;rintro k ⟨hk,hj⟩ K1 J1;refine gs (io (.const _) (.tmp rfl) oz (rz oz) rfl) ?_;refine gl ?_;refine gC (fun t8=>?_) (fun t8=>?_)
 ·have h1 : 2 ^ k < l.length := by have := t8; simp only [aa, decide_eq_true_eq] at this; omega
  have h2:k<48:=by
   rcases lt_or_ge k 48 with h |h
   ·exact h
   ·have:2 ^ 48 <= 2 ^ k:=b7 h;have:(2:Nat) ^ 48 = 281474976710656:=by decide
    omega
  refine ga (cV oz) ?_;exact aH J1 (k+1) ⟨by omega,fun j h=>by rcases lt_or_ge j k with h3 |h3;exact hj j h3;(have:j=k:=by omega);subst this;exact h1⟩
 have h1:l.length<=2^k:=by have:=t8;simp only[aa,decide_eq_false_iff_not]at this;omega
 have h2:=FI hj h1;refine gs (io (.const _) (.tmp rfl) oz (rz oz) rfl) ?_;refine gl ?_;refine gC (fun t15=>?_) (fun t15=>?_)
 ·have h3 : 2 ^ k ≠ l.length := by have := t15; simp only [aa, bne_iff_ne, ne_eq] at this; omega
  refine af ?_;unfold eY;rw[h2,if_neg h3];rfl
 have h3:2^k=l.length:=by have:=t15;simp only[aa,bne_eq_false_iff_eq]at this;omega
 refine af ?_;unfold eY;rw[h2,if_pos h3]
theorem BU(ts:List (List Rt))(a:List Rt)(ha:∀r∈a,r.ok)(hl:a.length<=281474976710656)(ht:ts.length<=281474976710656):FP 252 [de ts,nR a] (bg (bX ts.length a)):=by
 refine ai func252 ?_;refine gl ?_;refine DA [1,4] [] [] [] (¬(a≠[]/\(eY a.length<0\/(ts.length:Int)<eY a.length))) ?_ ?_
 ·intro K1 J1;refine gC (fun t10=>?_) (fun t10=>?_)
  ·have h0 : a ≠ [] := fun h => by rw [h] at t10; simp [aa] at t10
   refine gc (rS Rt.av a hl) ?_;refine cF ?_;refine gC (fun t21=>?_) (fun t21=>?_)
   ·have h1:eY a.length<0\/(ts.length:Int)<eY a.length:=by
     have h9:=t21
     by_cases h:eY a.length<0
     ·exact .inl h
     ·simp only[aa,decide_eq_false h,cond_false,decide_eq_true_eq]at h9;exact .inr h9
    refine af ?_;unfold bX;rw[if_pos ⟨h0,h1⟩];rfl
   have h1:¬(eY a.length<0\/(ts.length:Int)<eY a.length):=by
    have h9:=t21
    by_cases h:eY a.length<0
    ·simp only[aa,decide_eq_true h,cond_true]at h9;cases h9
    ·simp only[aa,decide_eq_false h,cond_false,decide_eq_false_iff_not]at h9;exact fun h'=>h'.elim h h9
   exact uv J1 (fun h=>h1 h.2)
  have h0:a=[]:=by
   cases a with
   |nil=>rfl
   |cons c l=>simp[aa]at t10
  exact uv J1 (fun h=>h.1 h0)
 rintro hn;refine gl ?_;refine aN [23,24] [] (fun(i:Nat)=>[(25,some (i64 i))]) (fun _=>[]) (fun i=>i<=a.length/\(a.take i).all Rt.valid=true) (fun i=>a.length-i) 0 ⟨zero_le _,by simp⟩ ?_;rintro i ⟨hi,hv⟩ K2 J2;refine gC (fun t26=>?_) (fun t26=>?_)
 ·have hin : i < a.length := by simpa [aa] using t26
  obtain⟨r,hr⟩:=ax hin;have hrok:=ha r (mem_of_getElem? hr);refine gi (aA hr) ?_;refine gc (nP r hrok) ?_;refine gC (fun t31=>?_) (fun t31=>?_)
  ·have hrv : r.valid = false := by simpa using t31
   refine af ?_;unfold bX;rw[if_neg hn,if_neg]
   ·rfl
   ·rw[all_eq_true];intro h;rw[h r (mem_of_getElem? hr)]at hrv;cases hrv
  have hrv:r.valid=true:=by simpa using t31
  refine ga aF ?_;exact aH J2 (i+1) ⟨by omega,by rw[dG hr,List.all_append,hv];simp[hrv]⟩
 have hin:i=a.length:=by have:a.length<=i:=(by simpa[aa]using t26);omega
 subst hin;rw[take_length]at hv;refine af ?_;unfold bX;rw[if_neg hn,if_pos hv];rfl
theorem DW(a:List Rat)(ha:∀q∈a,Qs q)(hl:a.length<=281474976710656):FP 329 [nA a] (bl (bw a)):=by
 refine ai func329 ?_;refine gl ?_;refine aN [5,6] [] (fun(i:Nat)=>[(7,some (i64 i))]) (fun _=>[]) (fun i=>i<=a.length/\bw (a.take i)=true) (fun i=>a.length-i) 0 ⟨zero_le _,by simp[bw]⟩ ?_;rintro i ⟨hi,hv⟩ K1 J1;refine gC (fun t8=>?_) (fun t8=>?_)
 ·have hin : i < a.length := by simpa [aa] using t8
  obtain⟨q,hq⟩:=ax hin;have hqs:=ha q (mem_of_getElem? hq);refine gi (aA hq) ?_;refine gc (vt (rt q) hqs.ok) ?_;refine gC (fun t13=>?_) (fun t13=>?_)
  ·have h0:q≠0:=by
    intro h;have h9:=t13;rw[bZ,h]at h9;cases h9
   refine af ?_
   have:bw a=false:=by
    rw[Bool.eq_false_iff];intro h;exact h0 (by simpa using List.all_eq_true.1 h q (mem_of_getElem? hq))
   rw[this];rfl
  have h0:q=0:=by
   have h9:bA q=0:=by have:=t13;rw[bZ]at this;simpa[aa]using this
   exact nN h9
  refine ga aF ?_;exact aH J1 (i+1) ⟨by omega,by rw[dG hq];simp only[bw,List.all_append,and_eq_true];exact⟨hv,by simp[h0]⟩⟩
 have hin:i=a.length:=by have:a.length<=i:=(by simpa[aa]using t8);omega
 subst hin;rw[take_length]at hv;refine af ?_;rw[hv];rfl
theorem CZ(a:List Rat)(hl:a.length<=281474976710656):FP 328 [nA a] (bl (bw a)):=by
 refine ai func328 ?_;refine gl ?_;refine aN [5,6] [] (fun(i:Nat)=>[(7,some (i64 i))]) (fun _=>[]) (fun i=>i<=a.length/\bw (a.take i)=true) (fun i=>a.length-i) 0 ⟨zero_le _,by simp[bw]⟩ ?_;rintro i ⟨hi,hv⟩ K1 J1;refine gC (fun t8=>?_) (fun t8=>?_)
 ·have hin : i < a.length := by simpa [aa] using t8
  obtain⟨q,hq⟩:=ax hin;refine gi (aA hq) ?_;refine cF ?_;refine cF ?_;refine gC (fun t24=>?_) (fun t24=>?_)
  ·have h0:q≠0:=Kg t24;refine af ?_
   have:bw a=false:=by
    rw[Bool.eq_false_iff];intro h;exact h0 (by simpa using List.all_eq_true.1 h q (mem_of_getElem? hq))
   rw[this];rfl
  have h0:q=0:=KB t24;refine ga aF ?_;exact aH J1 (i+1) ⟨by omega,by rw[dG hq];simp only[bw,List.all_append,and_eq_true];exact⟨hv,by simp[h0]⟩⟩
 have hin:i=a.length:=by have:a.length<=i:=(by simpa[aa]using t8);omega
 subst hin;rw[take_length]at hv;refine af ?_;rw[hv];rfl
theorem x7(a:List Rat)(ha:∀q∈a,Qs q)(hl:a.length<=1099511627776):FP 278 [nA a] (nA a):=by
 refine ai func278 ?_;refine gl ?_;refine gW (Wk.virt 900 3 rfl) ?_;refine aN [6,7] [] (fun(i:Nat)=>[(3,some (.ms 900 3 0 i)),(8,some (i64 i))]) (fun i=>[(900,some (.row 3 ((a.take i).map qA)))]) (fun i=>i<=a.length) (fun i=>a.length-i) 0 (zero_le _) ?_;rintro i hi K1 J1;refine gC (fun t9=>?_) (fun t9=>?_) (st2:=(7,0))
 ·have hin : i < a.length := by simpa [aa] using t9
  obtain⟨q,hq⟩:=ax hin;have hqs:=(ha q (mem_of_getElem? hq)).ok;have hl1:(rt q).num.length<=137438953472:=hqs.2.2.1;have hl2:(rt q).den.length<=137438953472:=hqs.2.2.2;refine gi (aA hq) ?_;refine gs (kN T43 rfl T350 rfl rfl rfl) ?_;refine gs (tf (.tmp rfl) rfl rfl (.tmp rfl) T43 rfl T350 rfl rfl (by simp only[length_map];omega) rfl rfl) ?_;refine gs (kN T43 rfl T350 rfl rfl rfl) ?_;refine gs (tf (.tmp rfl) rfl rfl (.tmp rfl) T43 rfl T350 rfl rfl (by simp only[length_map];omega) rfl rfl) ?_;refine gs (ci (.tmp rfl) rfl (by simp;omega) (.tmp rfl) T67 rfl T45 rfl rfl (by simp;omega) rfl rfl) ?_;refine gD ?_ (6,0);refine gW (Wk.of (sl:=[(3,some (.ms 25 3 0 (i+1))),(6,some (nA a)),(7,some (i64 a.length)),(8,some (i64 i))]) (hp:=[(25,some (.row 3 ((a.take (i+1)).map qA)))]) aW (.cons rfl (BlkSub.of (by rw[dG hq,map_append];rfl)) .nil)) ?_ (6,0);refine gW (Wk.rk (k:=25) (d:=900) rfl rfl) ?_;refine ga aF ?_;exact aH J1 (i+1) hin
 have hin:i=a.length:=by have:a.length<=i:=(by simpa[aa]using t9);omega
 subst hin;refine gW ((Wk.freeze (k:=900) rfl).trans<|Wk.of (sl:=[(3,some (nA a))]) (hp:=[]) (.cons rfl (Sub.of (by rw[bJ (by simp),take_length];rfl)) .nil) .nil) ?_;refine af ?_;rfl
theorem kH{n:Nat}(a:List Rat)(hn:n<=5)(ha:Nl n a)(hs:∀q∈a,Qs q):FP 237 [nA a] (nA (sh n (ae n a))):=by
 have hl:=ha.len5 hn;rw[<- QZ ha hn];refine ai func237 ?_;refine gc (rS qA a oz) ?_;refine gl ?_;refine gC (fun t17=>?_) (fun t17=>?_) (st1:=(3,0));exact absurd t17 (by rcases ha with rfl |⟨j,hj,h⟩;(simp[aa]);(rw[h,re];simp[aa];omega));refine gl ?_;refine aN [0] [] (fun(m:Nat)=>[(4,some (i64 m))]) (fun _=>[]) (fun m=>mD a m) (fun m=>m) a.length (Un (ha.mono hn)) ?_;rintro m hm K1 J1;refine gs (d5 rfl rfl rfl (fun h=>jV (.opt rfl (o1 h)) (.const _) oz (nT (by have:=hm.le;omega)) rfl)) ?_;refine gs (d5 rfl rfl rfl (fun h=>d9 (.opt rfl (o1 h)) (.some _ (.opt rfl (o1 h)) oz) (.some _ (.opt rfl (o1 h)) oz) T67 rfl T45 rfl oz (by have:=hm.le;simp;omega) rfl)) ?_;refine bM (fun _=>(by have h9:=CZ ((a.drop (m/2)).take (m-m/2)) (by simp;omega);rw[<- yu]at h9;exact h9)) ?_;refine gC (fun t31=>?_) (fun t31=>?_)
 ·have h1:1<m/\bw ((a.drop (m/2)).take (m-m/2))=true:=by
   have h9:=t31
   by_cases h:(m:Int)>1
   ·simp only[aa,decide_eq_true h,cond_true]at h9;exact⟨by omega,h9⟩
   ·simp only[aa,decide_eq_false h,cond_false]at h9;cases h9
  refine gs (jV (.tmp rfl) (.const _) oz (nT (by have:=hm.le;omega)) rfl) ?_;exact aH J1 (m/2) (Qh hm h1.1 h1.2)
 have h1:1<m->bw ((a.drop (m/2)).take (m-m/2))=false:=by
  intro h;have h9:=t31;simp only[aa,decide_eq_true (show(m:Int)>1 by omega),cond_true]at h9;exact h9
 refine gs (d5 rfl rfl rfl (fun h=>d9 (.opt rfl (o1 h)) (.none _) (.some _ (.const _) oz) T67 rfl T45 rfl oz (by have h8:(m:Int)=1:=(by simpa[aa]using h);have:=hm.le;simp only[length_map];omega) rfl)) ?_;refine bM (fun _=>(by have h9:=CZ ((a.drop 0).take 1) (by simp;omega);rw[<- yu]at h9;exact h9)) ?_;refine gC (fun t40=>?_) (fun t40=>?_)
 ·have h2:m=1/\bw (a.take 1)=true:=by
   have h9:=t40
   by_cases h:m=1
   ·rw[h]at h9;exact⟨h,h9⟩
   ·rw[show aa .eql (m:Int) 1=false by simp[aa];omega]at h9;cases h9
  obtain⟨rfl,h3⟩:=h2;refine gR ?_;exact j8 (by rw[N3 hm h3];exact Sub.nil _ _ _)
 have h2:m=1->bw (a.take 1)=false:=by
  intro h;have h9:=t40;rw[h]at h9;exact h9
 have h3:=RO hm h1 h2;refine gs (d9 (.tmp rfl) (.none _) (.some _ (.tmp rfl) oz) T67 rfl T45 rfl oz (by have:=hm.le;simp;omega) rfl) ?_;refine gc (by have h9:=x7 ((a.drop 0).take m) (fun q hq=>hs q (List.mem_of_mem_drop (List.mem_of_mem_take hq))) (by simp;omega);have h8:=h9;rw[<- yu]at h9;exact h9) ?_;refine af ?_;rw[h3];simp[nA,map_take]
theorem yJ(d:Nat)(hd:Nat.blt d 1000=true)(a:List Rat)(n:Nat)(hl:a.length<=n)(hn:n<=1099511627776) :
  Con prog 331 [nA a,i64 n] [] (.ms d 3 0 n) [(d,some (.row 3 ((bF a n).map qA)))]:=by
 refine gF func331 (fun k z h=>by cases h) ?_;refine gs (gw (.tmp rfl) T67 rfl T45 rfl rfl oz (by dsimp only;omega) rfl) ?_;refine gs (JX (.tmp rfl) rfl (by simp) (.tmp rfl) T67 rfl T45 rfl rfl (by simp;omega) rfl) ?_ (3,0);refine gW (Wk.of (sl:=[(5,some (.ms 7 3 0 n))]) (hp:=[(7,some (.row 3 ((bF a n).map qA)))]) (.cons rfl (Sub.of (by simp)) .nil) (.cons rfl (EO a n hl) .nil)) ?_;refine gR ?_;exact aq.own1 rfl hd rfl
theorem AA(a:List Rat)(n:Nat)(hl:a.length<=n)(hn:n<=1099511627776):FP 331 [nA a,i64 n] (nA (bF a n)):=by
 have h:=Con.freeze (by rw[length_map,fB hl];omega) (yJ 0 rfl a n hl hn);rw[drop_zero,take_of_length_le (by rw[length_map,fB hl];exact le_refl _)]at h;exact h
theorem nH(a b:List Rat)(ha:∀q∈a,Qs q)(hb:∀q∈b,Qs q)(la:a.length<=1099511627776)(lb:b.length<=1099511627776):FP 239 [nA a,nA b] (nA (dc a b)):=by
 obtain⟨n,hn⟩:∃n,n=max a.length b.length:=⟨_,rfl⟩
 have hwa:=fB (show a.length<=n by omega);have hwb:=fB (show b.length<=n by omega);have hp:=fx (a:=a) (b:=b);rw[<- hn]at hp;have qa:∀q∈bF a n,Qs q:=fun q hq=>by rcases List.mem_append.1 hq with h |h;exact ha q h;(rw[(List.mem_replicate.1 h).2];exact Qs.zero)
 have qb:∀q∈bF b n,Qs q:=fun q hq=>by rcases List.mem_append.1 hq with h |h;exact hb q h;(rw[(List.mem_replicate.1 h).2];exact Qs.zero)
 refine ai func239 ?_;refine gl ?_;refine gl ?_;refine gs (v6 (.tmp rfl) (.tmp rfl) rfl) ?_ (2,0);refine gW (Wk.of (sl:=[(0,some (nA a)),(1,some (nA b)),(5,some (i64 n))]) (hp:=[]) (.k (.k (.cons rfl (Sub.int oz) .nil))) .nil) ?_;refine go ?_;refine gt (az (yJ 900 rfl a n oz oz) (bm rfl rfl) aB rfl rfl) ?_;refine gc (AA b n oz oz) ?_;refine aN [1,19] [] (fun(i:Nat)=>[(0,some (.ms 900 3 0 n)),(20,some (i64 i))]) (fun i=>[(900,some (.row 3 (((dc a b).take i++(bF a n).drop i).map qA)))]) (fun i=>i<=n) (fun i=>n-i) 0 (zero_le _) ?_;rintro i hi K1 J1;refine gC (fun t21=>?_) (fun t21=>?_) (st2:=(8,0))
 ·have hin : i < n := by simpa [aa] using t21
  have hmx:=FW (p:=dc a b) (w:=bF a n) (i:=i) oz oz;have hqa:=(qa _ (yc (i:=i) oz)).ok;have hqb:=(qb _ (yc (i:=i) oz)).ok;refine gs (bP (n:=i) (.tmp rfl) (.tmp rfl) T67 rfl T45 rfl oz oz rfl) ?_;refine gs (dQ (.tmp rfl) rfl (aA hmx) T45 rfl rfl rfl) ?_;refine gi (aA (getD_some (i:=i) (l:=bF b n) oz)) ?_;refine gc (mQ (rt ((bF a n).getD i 0)) (rt ((bF b n).getD i 0)) hqa hqb) ?_;refine gs (bP (n:=i) (.tmp rfl) (.tmp rfl) T67 rfl T45 rfl oz oz rfl) ?_;refine gs (dk (.tmp rfl) rfl (aA hmx) rfl (.tmp rfl) rfl rfl T45 rfl rfl) ?_;refine gD ?_ (7,0);refine gW (Wk.of (sl:=[(0,some (.ms 900 3 0 n)),(1,some (nA (bF b n))),(19,some (i64 n)),(20,some (i64 i))]) (hp:=[(900,some (.row 3 (((dc a b).take (i+1)++(bF a n).drop (i+1)).map qA)))]) aW (.cons rfl (BlkSub.of (by rw[H8 oz oz (by rw[Km,<- hn,bZ,bZ])])) .nil)) ?_;refine ga aF ?_;exact aH J1 (i+1) hin
 have hin:i=n:=by have:n<=i:=(by simpa[aa]using t21);omega
 refine gW ((Wk.freeze (k:=900) rfl).trans<|Wk.of (sl:=[(0,some (nA (dc a b)))]) (hp:=[]) (.cons rfl (Sub.of (by rw[bJ (by simp;omega),hin,List.drop_of_length_le oz,take_of_length_le oz,append_nil];rfl)) .nil) .nil) ?_;refine af ?_;rfl
theorem rO(a:List Rat)(ha:∀q∈a,Qs q)(la:a.length<=1099511627776):FP 240 [nA a] (nA (dK a)):=by
 obtain⟨n,hn⟩:∃n,n=a.length:=⟨_,rfl⟩
 refine ai func240 ?_;refine gl ?_;refine gs (gw (.tmp rfl) T67 rfl T45 rfl rfl oz (by dsimp only;omega) rfl) ?_ (2,0);refine gW (Wk.of (sl:=[(0,some (nA a)),(3,some (.ms 7 3 0 n))]) (hp:=[(7,some (.row 3 ((bF [] n).map qA)))]) (.k (.cons rfl (Sub.of (by simp[hn])) .nil)) (.cons rfl (BlkSub.of_ (EO [] n (by simp)) (by rw[hn];rfl)) .nil)) ?_;refine gl ?_;refine aN [0] [] (fun(i:Nat)=>[(3,some (.ms 7 3 0 n)),(9,some (i64 n)),(10,some (i64 i))]) (fun i=>[(7,some (.row 3 (((dK a).take i++(bF [] n).drop i).map qA)))]) (fun i=>i<=n) (fun i=>n-i) 0 (zero_le _) ?_ (h1:=(.k (.cons rfl (Sub.int oz) (.k .nil))));rintro i hi K1 J1;refine gC (fun t11=>?_) (fun t11=>?_) (st2:=(7,0))
 ·have hin : i < n := by simpa [aa] using t11
  have hm1:=iL (a:=a);have hm2:=fB (a:=[]) (n:=n) (by simp);have hmx:=FW (p:=dK a) (w:=bF [] n) (i:=i) oz oz;have hqa:=(ha _ (yc (i:=i) oz)).ok;refine gi (aA (getD_some (i:=i) oz)) ?_;refine gc (Gy (rt (a.getD i 0)) hqa) ?_;refine gs (bP (n:=i) (.tmp rfl) (.tmp rfl) T67 rfl T45 rfl oz oz rfl) ?_;refine gs (dk (.tmp rfl) rfl (aA hmx) rfl (.tmp rfl) rfl rfl T45 rfl rfl) ?_ (6,0);refine gW (Wk.of (sl:=[(0,some (nA a)),(3,some (.ms 7 3 0 n)),(9,some (i64 n)),(10,some (i64 i))]) (hp:=[(7,some (.row 3 (((dK a).take (i+1)++(bF [] n).drop (i+1)).map qA)))]) aW (.cons rfl (BlkSub.of (by rw[H8 oz oz (by rw[P5,bZ])])) .nil)) ?_;refine ga aF ?_;exact aH J1 (i+1) hin
 have hin:i=n:=by have:n<=i:=(by simpa[aa]using t11);omega
 have hm1:=iL (a:=a);have hm2:=fB (a:=[]) (n:=n) (by simp);refine gW ((Wk.freeze (k:=7) rfl).trans<|Wk.of (sl:=[(3,some (nA (dK a)))]) (hp:=[]) (.cons rfl (Sub.of (by rw[bJ (by simp;omega),hin,List.drop_of_length_le oz,take_of_length_le oz,append_nil];rfl)) .nil) .nil) ?_;refine af ?_;rfl
theorem xH(a b:List Rat)(n:Nat)(la:a.length<=n)(lb:b.length<=n)(hn:n<=274877906944):FP 330 [nA a,nA b,i64 n] (nA (eV a b n)):=by
 refine ai func330 ?_;refine gt (az (yJ 900 rfl a n la oz) (bm rfl rfl) aB rfl rfl) ?_;refine gc (AA b n lb oz) ?_;refine gs (tf (.tmp rfl) rfl (by simp[fB la]) (.tmp rfl) T67 rfl T45 rfl rfl (by simp[fB lb];omega) rfl rfl) ?_;refine af ?_;rw[<- map_append];rfl
theorem p8(ts:LL)(m r:Nat)(ht:kz ts m r)(hm:m<=5)(hml:m<=ts.length)(k:Nat):∀(j:Nat)(a b:List Rat)(e f:Nat),j<=m->j<=k->Nl j a->Nl j b->Cb e a->Cb f b->e+f+eB r j<4398046511104 ->
  FP 238 [aO ts,nA a,nA b] (nA (pT ts k a b)):=by
 induction k using Nat.strongRecOn
 rename_i k ih;intro j a b e f hj hjk ha hb ca cb hs;have hla:=ha.len5 oz;have hlb:=hb.len5 oz;refine ai func238 ?_;refine gl ?_;refine gl ?_;refine UC [3] [3] (fun(x y:List Rat)(e1 f1:Nat)=>[(1,some (nA x)),(2,some (nA y))]) (fun _ _ _ _=>[]) (fun x y e1 f1=>y.length<=x.length/\Nl j x/\Nl j y/\Cb e1 x/\Cb f1 y/\e1+f1=e+f/\pT ts k a b=pT ts k x y) ?_ ?_
 ·intro K1 J1;refine gC (fun t18=>?_) (fun t18=>?_)
  ·have h1 : a.length < b.length := by have := t18; simp only [aa, decide_eq_true_eq] at this; omega
   exact F2 J1 b a f e ⟨by omega,hb,ha,cb,ca,by omega,Ak ts k a b h1⟩
  have h1:b.length<=a.length:=by have:=t18;simp only[aa,decide_eq_false_iff_not]at this;omega
  exact F2 J1 a b e f ⟨h1,ha,hb,ca,cb,rfl,rfl⟩
 rintro x y e1 f1 ⟨hyx,hx,hy,cx,cy,hef,hp⟩;have hlx:=hx.len5 oz;have hly:=hy.len5 oz;have qx:∀q∈x,Qs q:=fun q hq=>cx.qs oz hq
 have qy:∀q∈y,Qs q:=fun q hq=>cy.qs oz hq
 rw[hp];refine gc (DW x qx oz) ?_;refine bM (fun _=>(DW y qy oz)) ?_;refine gC (fun t21=>?_) (fun t21=>?_)
 ·have h1:bw x=true\/bw y=true:=by
   have:=t21;cases hz:bw x
   ·rw[hz]at this;exact .inr this
   ·exact .inl rfl
  refine gR ?_;exact j8 (by rw[II hyx h1];exact Sub.nil _ _ _)
 have h1:¬(bw x=true\/bw y=true):=by
  have:=t21;cases hz:bw x
  ·rw[hz]at this;intro h;rcases h with h |h;cases h;(rw[show bw y=false from this]at h;cases h)
  ·rw[hz]at this;cases this
 refine gl ?_;refine gC (fun t28=>?_) (fun t28=>?_)
 ·have h2 : x.length = 1 := by have := t28; simp only [aa, beq_iff_eq] at this; omega
  obtain⟨p,rfl⟩:=List.length_eq_one_iff.1 h2;have h3:y≠[]:=fun h=>h1 (.inr (by rw[h];rfl))
  obtain⟨q,rfl⟩:∃q,y=[q]:=List.length_eq_one_iff.1 (by have:=List.length_pos_iff.2 h3;simp at hyx;omega);refine gi rfl ?_;refine gi rfl ?_;refine gc (CJ (rt p) (rt q) (qx p (by simp)).ok (qy q (by simp)).ok) ?_;refine gD ?_;refine af ?_;rw[Iu h1,bZ,bZ];rfl
 have h2:x.length≠1:=by have:=t28;simp only[aa,beq_eq_false_iff_ne,ne_eq]at this;omega
 have h3:x≠[]:=fun h=>h1 (.inl (by rw[h];rfl))
 obtain⟨i,hij,hxl⟩:∃i,i+1<=j/\x.length=2^(i+1):=by
  rcases xm hx with h |h |h
  ·exact absurd (List.length_eq_zero_iff.1 h) h3
  ·exact absurd h h2
  ·exact h
 obtain⟨k',rfl⟩:∃k',k=k'+1:=⟨k-1,by omega⟩
 have hp2:=Nat.two_pow_pos i;have hpi:2^i<=32:=b7 (b:=5) oz;have hps:2^(i+1)=2*2^i:=by rw[Nat.pow_succ];omega
 have hes:eB r (i+1)<=eB r j:=gT r hij;have hee:eB r (i+1)=2*eB r i+r+2:=rfl;have n1:Nl i (x.take (2^i)):=.inr ⟨i,le_refl _,jr hxl⟩;have n2:Nl i (x.drop (2^i)):=.inr ⟨i,le_refl _,jL hxl⟩;refine gl ?_;refine gs (jV (.tmp rfl) (.const _) oz (show _=((2^i:Nat):Int) by rw[nT oz,hxl,kC]) rfl) ?_;refine gs (d9 (.tmp rfl) (.none _) (.some _ (.tmp rfl) oz) T67 rfl T45 rfl oz (by simp only[length_map];omega) rfl) ?_;refine gs (d9 (.tmp rfl) (.some _ (.tmp rfl) oz) (.none _) T67 rfl T45 rfl (by simp only[length_map];omega) oz rfl) ?_;refine gD ?_ (9,0);refine gW (Wk.of (sl:=[(1,some (nA x)),(2,some (nA y)),(3,some (.ptr 3 0)),(7,some (i64 ((2^i:Nat):Int))),(8,some (nA (x.take (2^i)))),(9,some (nA (x.drop (2^i))))]) (hp:=[(3,some (.box [.lst 1 (ts.map nA)]))]) (.k (.k (.k (.k (.cons rfl (Sub.of (oE x (2^i))) (.cons rfl (Sub.of (qU x (2^i))) .nil)))))) (.k .nil)) ?_;refine gl ?_;refine gC (fun t52=>?_) (fun t52=>?_)
 ·have h4 : y.length <= 2 ^ i := by have := t52; simp only [aa, decide_eq_true_eq] at this; omega
  have n3:Nl i y:=Mh hy h4;have s1:=fv ts m ht.1 i k' _ _ oz oz n1 n3;have s2:=fv ts m ht.1 i k' _ _ oz oz n2 n3;refine gc (ih k' oz i _ _ e1 f1 oz oz n1 n3 cx.take cy oz) ?_;refine gc (ih k' oz i _ _ e1 f1 oz oz n2 n3 cx.drop cy oz) ?_;refine gc (xH _ _ (2^i) s1.1.le s2.1.le oz) ?_;refine gD ?_;refine af ?_;rw[RQ hxl h4 h1]
 have h4:¬y.length<=2^i:=by have:=t52;simp only[aa,decide_eq_false_iff_not]at this;omega
 have hyl:=I4 hy h4 oz;have n3:Nl i (y.take (2^i)):=.inr ⟨i,le_refl _,jr hyl⟩;have n4:Nl i (y.drop (2^i)):=.inr ⟨i,le_refl _,jL hyl⟩;have nd:=ht.1 i oz;have cd:=ht.2.cb i;have s1:=fv ts m ht.1 i k' _ _ oz oz n1 n3;have s2:=fv ts m ht.1 i k' _ _ oz oz n2 n4;have s3:=fv ts m ht.1 i k' _ _ oz oz s2.1 nd;have s4:=fv ts m ht.1 i k' _ _ oz oz n1 n4;have s5:=fv ts m ht.1 i k' _ _ oz oz n2 n3;have c1:=Cb.mul ht (k:=k') (show i<=m by omega) oz n1 n3 cx.take cy.take;have c2:=Cb.mul ht (k:=k') (show i<=m by omega) oz n2 n4 cx.drop cy.drop;have c3:=Cb.mul ht (k:=k') (show i<=m by omega) oz s2.1 nd c2 cd;have c4:=Cb.mul ht (k:=k') (show i<=m by omega) oz n1 n4 cx.take cy.drop;have c5:=Cb.mul ht (k:=k') (show i<=m by omega) oz n2 n3 cx.drop cy.take;have hpT:=US (ts:=ts) (k:=k') hxl h4 hyx h1;refine gs (d9 (.tmp rfl) (.none _) (.some _ (.tmp rfl) oz) T67 rfl T45 rfl oz (by simp only[length_map];omega) rfl) ?_;refine gs (d9 (.tmp rfl) (.some _ (.tmp rfl) oz) (.none _) T67 rfl T45 rfl (by simp only[length_map];omega) oz rfl) ?_;refine gD ?_ (12,0);refine gW (Wk.of (sl:=[(1,some (nA x)),(3,some (.ptr 3 0)),(7,some (i64 ((2^i:Nat):Int))),(8,some (nA (x.take (2^i)))),(9,some (nA (x.drop (2^i)))),(10,some (nA (y.take (2^i)))),(11,some (nA (y.drop (2^i))))]) (hp:=[(3,some (.box [.lst 1 (ts.map nA)]))]) (.k (.k (.k (.k (.k (.cons rfl (Sub.of (oE y (2^i))) (.cons rfl (Sub.of (qU y (2^i))) .nil))))))) (.k .nil)) ?_;refine gc (rS qA x oz) ?_;refine ga (show _=(i:Int) by rw[hxl,re,dI oz];omega) ?_;refine gi (AC (j:=i) oz) ?_;refine gD ?_;refine gc (ih k' oz i _ _ e1 f1 oz oz n1 n3 cx.take cy.take oz) ?_;refine gc (ih k' oz i _ _ e1 f1 oz oz n2 n4 cx.drop cy.drop oz) ?_;refine gc (ih k' oz i _ _ _ _ oz oz s2.1 nd c2 cd oz) ?_;refine gc (nH _ _ (fun q hq=>c1.qs oz hq) (fun q hq=>c3.qs oz hq) (by have:=s1.1.le;omega) (by have:=s3.1.le;omega)) ?_;refine gD ?_;refine gc (ih k' oz i _ _ e1 f1 oz oz n1 n4 cx.take cy.drop oz) ?_;refine gc (ih k' oz i _ _ e1 f1 oz oz n2 n3 cx.drop cy.take oz) ?_;refine gc (nH _ _ (fun q hq=>c4.qs oz hq) (fun q hq=>c5.qs oz hq) (by have:=s4.1.le;omega) (by have:=s5.1.le;omega)) ?_;refine gc (xH _ _ (2^i) (by have:=s1.1.le;have:=s3.1.le;rw[fx];omega) (by have:=s4.1.le;have:=s5.1.le;rw[fx];omega) oz) ?_;refine gD ?_;refine af ?_;rw[hpT]
theorem x4(ts:LL)(m r:Nat)(ht:kz ts m r)(hm:m<=5)(hml:m<=ts.length)(i:Nat)(a:List Rat)(e:Nat)(hi:i+1<=m)(hal:a.length=2^(i+1))(ca:Cb e a)(hs:4*e+3*eB r i+r+1<4398046511104) :
  FP 319 [aO ts,nA a] (nA (gM ts i a)):=by
 have hp2:=Nat.two_pow_pos i;have hpi:2^i<=32:=b7 (b:=5) oz;have hps:2^(i+1)=2*2^i:=by rw[Nat.pow_succ];omega
 have n1:Nl i (a.take (2^i)):=.inr ⟨i,le_refl _,jr hal⟩;have n2:Nl i (a.drop (2^i)):=.inr ⟨i,le_refl _,jL hal⟩;have nd:=ht.1 i oz;have cd:=ht.2.cb i;have s1:=fv ts m ht.1 i i _ _ oz oz n1 n1;have s2:=fv ts m ht.1 i i _ _ oz oz n2 n2;have s3:=fv ts m ht.1 i i _ _ oz oz s2.1 nd;have c1:=Cb.mul ht (k:=i) (show i<=m by omega) oz n1 n1 ca.take ca.take;have c2:=Cb.mul ht (k:=i) (show i<=m by omega) oz n2 n2 ca.drop ca.drop;have c3:=Cb.mul ht (k:=i) (show i<=m by omega) oz s2.1 nd c2 cd;refine ai func319 ?_;refine gl ?_;refine gs (jV (.tmp rfl) (.const _) oz (show _=((2^i:Nat):Int) by rw[nT oz,hal,kC]) rfl) ?_;refine gs (d9 (.tmp rfl) (.none _) (.some _ (.tmp rfl) oz) T67 rfl T45 rfl oz (by simp only[length_map];omega) rfl) ?_;refine gs (d9 (.tmp rfl) (.some _ (.tmp rfl) oz) (.none _) T67 rfl T45 rfl (by simp only[length_map];omega) oz rfl) ?_;refine gD ?_ (3,0);refine gW (Wk.of (sl:=[(1,some (nA a)),(2,some (.ptr 2 0)),(6,some (nA (a.take (2^i)))),(7,some (nA (a.drop (2^i))))]) (hp:=[(2,some (.box [.lst 1 (ts.map nA)]))]) (.k (.k (.cons rfl (Sub.of (oE a (2^i))) (.cons rfl (Sub.of (qU a (2^i))) .nil)))) (.k .nil)) ?_;refine gc (p8 ts m r ht hm hml i i _ _ e e oz oz n1 n1 ca.take ca.take oz) ?_;refine gc (p8 ts m r ht hm hml i i _ _ e e oz oz n2 n2 ca.drop ca.drop oz) ?_;refine gc (rS qA a oz) ?_;refine ga (show _=(i:Int) by rw[hal,re,dI oz];omega) ?_;refine gi (AC (j:=i) oz) ?_;refine gc (p8 ts m r ht hm hml i i _ _ _ _ oz oz s2.1 nd c2 cd oz) ?_;refine gc (rO _ (fun q hq=>c3.qs oz hq) (by have:=s3.1.le;omega)) ?_;refine gc (nH _ _ (fun q hq=>c1.qs oz hq) (fun q hq=>c3.minus.qs oz hq) (by have:=s1.1.le;omega) (by have:=s3.1.le;rw[iL];omega)) ?_;refine gD ?_;refine af ?_;rfl
theorem nC(ts:LL)(m r:Nat)(ht:kz ts m r)(hm:m<=5)(hml:m<=ts.length)(j:Nat):∀(a:List Rat)(e:Nat),j<=m->Nl j a->Cb e a->sB r j e<4398046511104 ->
  FP 230 [aO ts,nA a] (i64 (T.sgn (au ts) j (ae j a))):=by
 induction j using Nat.strongRecOn
 rename_i j ih;intro a e hj ha ca hs;have hse:=qQ r j e;have qa:∀q∈a,Qs q:=fun q hq=>ca.qs oz hq
 obtain⟨s,hsa⟩:∃s,s=sh j (ae j a):=⟨_,rfl⟩
 have hsd:ae j s=ae j a:=by rw[hsa,a7]
 have hsn:Nl j s:=by rw[hsa];exact dZ j _
 have cs:Cb e s:=by rw[hsa];exact ca.sh ha
 have hls:=hsn.len5 oz;rw[<- hsd];refine ai func230 ?_;refine gc (hsa▸kH a oz ha qa) ?_;refine gl ?_;refine gC (fun t12=>?_) (fun t12=>?_)
 ·have h1 : s=[] := List.length_eq_zero_iff.1 (by have := t12;simp only[aa,beq_iff_eq]at this;omega);refine af ?_;rw[h1,je,T.sgn_zero];rfl
 have h1:s.length≠0:=by have:=t12;simp only[aa,beq_eq_false_iff_ne,ne_eq]at this;omega
 refine gl ?_;refine gC (fun t15=>?_) (fun t15=>?_)
 ·have h2 : s.length = 1 := by have := t15; simp only [aa, beq_iff_eq] at this; omega
  obtain⟨q,rfl⟩:=List.length_eq_one_iff.1 h2;refine gi rfl ?_;refine gc (vt (rt q) (cs.qs oz (by simp:q∈[q])).ok) ?_;refine af ?_;rw[ku,T.sgn_ofQ,bZ]
 have h2:s.length≠1:=by have:=t15;simp only[aa,beq_eq_false_iff_ne,ne_eq]at this;omega
 obtain⟨i,hij,hsl⟩:∃i,i+1<=j/\s.length=2^(i+1):=by
  rcases xm hsn with h |h |h
  ·exact absurd h h1
  ·exact absurd h h2
  ·exact h
 have hp2:=Nat.two_pow_pos i;have hpi:2^i<=32:=b7 (b:=5) oz;have hps:2^(i+1)=2*2^i:=by rw[Nat.pow_succ];omega
 have n1:Nl i (s.take (2^i)):=.inr ⟨i,le_refl _,jr hsl⟩;have n2:Nl i (s.drop (2^i)):=.inr ⟨i,le_refl _,jL hsl⟩;have nd:=ht.1 i oz;have cd:=ht.2.cb i;obtain⟨nn,dn,cn⟩:=wB ht oz hsl cs;have b1:sB r i (4*e+3*eB r i+r+1)<=sB r j e:=wj r e hij;have b2:sB r i e<=sB r i (4*e+3*eB r i+r+1):=qr r i oz;have b3:sB r i r<=sB r i (4*e+3*eB r i+r+1):=qr r i oz;have b4:=qQ r i (4*e+3*eB r i+r+1);have k1:=ih i oz (s.take (2^i)) e oz n1 cs.take oz;have k2:=ih i oz (s.drop (2^i)) e oz n2 cs.drop oz;have k3:=ih i oz _ r oz nd cd oz;have k4:=ih i oz _ _ oz nn cn oz
 have hres:T.sgn (au ts) j (ae j s)=T.sgn3 (T.sgn (au ts) i (ae i (s.take (2^i)))) (T.sgn (au ts) i (ae i (s.drop (2^i)))) (T.sgn (au ts) i (ae i (ts.getD i []))) (T.sgn (au ts) i (ae i (gM ts i s))):=by
  rw[vi _ oz hij,dn];rfl
 have v1:=T.sgn_cases (au ts) i (ae i (s.take (2^i)));have v4:=T.sgn_cases (au ts) i (ae i (gM ts i s));refine gl ?_;refine gs (jV (.tmp rfl) (.const _) oz (show _=((2^i:Nat):Int) by rw[nT oz,hsl,kC]) rfl) ?_;refine gs (d9 (.tmp rfl) (.none _) (.some _ (.tmp rfl) oz) T67 rfl T45 rfl oz (by simp only[length_map];omega) rfl) ?_;refine gc (by have h9:=k1;rw[<- oE]at h9;exact h9) ?_;refine gs (d9 (.tmp rfl) (.some _ (.tmp rfl) oz) (.none _) T67 rfl T45 rfl (by simp only[length_map];omega) oz rfl) ?_;refine gc (by have h9:=k2;rw[<- qU]at h9;exact h9) ?_;refine gD ?_;refine gc (rS qA s oz) ?_;refine ga (show _=(i:Int) by rw[hsl,re,dI oz];omega) ?_;refine gi (AC (j:=i) oz) ?_;refine gc k3 ?_;refine gD ?_;refine gC (fun t42=>?_) (fun t42=>?_)
 ·have e1 : T.sgn (au ts) i (ae i (ts.getD i [])) = 0 := by simpa [aa] using t42
  refine af ?_;rw[hres];unfold T.sgn3;rw[if_pos e1]
 have e1:¬T.sgn (au ts) i (ae i (ts.getD i []))=0:=by simpa[aa]using t42
 refine gC (fun t44=>?_) (fun t44=>?_)
 ·have e2:T.sgn (au ts) i (ae i (s.take (2^i)))=T.sgn (au ts) i (ae i (s.drop (2^i)))\/T.sgn (au ts) i (ae i (s.drop (2^i)))=0:=Oo t44;refine af ?_;rw[hres];unfold T.sgn3;rw[if_neg e1,if_pos e2]
 have e2:¬(T.sgn (au ts) i (ae i (s.take (2^i)))=T.sgn (au ts) i (ae i (s.drop (2^i)))\/T.sgn (au ts) i (ae i (s.drop (2^i)))=0):=JD t44;refine gC (fun t53=>?_) (fun t53=>?_)
 ·have e3 : T.sgn (au ts) i (ae i (s.take (2 ^ i))) = 0 := by simpa [aa] using t53
  refine af ?_;rw[hres];unfold T.sgn3;rw[if_neg e1,if_neg e2,if_pos e3]
 have e3:¬T.sgn (au ts) i (ae i (s.take (2^i)))=0:=by simpa[aa]using t53
 refine gc (x4 ts m r ht hm hml i s e oz hsl cs oz) ?_;refine gc k4 ?_;refine ga (QX v1 v4) ?_;refine gD ?_;refine af ?_;rw[hres];unfold T.sgn3;rw[if_neg e1,if_neg e2,if_neg e3];rfl
theorem mN(rs:List (List Rt))(r:Nat)(h:TR rs r):FP 144 [de rs] (bg (ba rs)):=by
 have hll:=h.ll;have hr:=h.le;refine ai func144 ?_;refine gl ?_;refine gC (fun t10=>?_) (fun t10=>?_)
 ·have h5 : 5 < rs.length := by have := t10; simp only [aa, decide_eq_true_eq] at this; omega
  refine af ?_;rw[Ux h5];rfl
 have h5:rs.length<=5:=by have:=t10;simp only[aa,decide_eq_false_iff_not]at this;omega
 refine gl ?_;refine aN [1,13,14] [1] (fun(k:Nat)=>[(15,some (i64 k))]) (fun _=>[]) (fun k=>k<=rs.length/\∀j,j<k->iU rs j) (fun k=>rs.length-k) 0 ⟨zero_le _,fun j hj=>by omega⟩ ?_;rintro k ⟨hk,hj⟩ K1 J1;refine gC (fun t16=>?_) (fun t16=>?_)
 ·have hin : k < rs.length := by simpa [aa] using t16
  obtain⟨d,hd⟩:=ax hin;have hdm:=mem_of_getElem? hd;have hdl:=h.len d hdm;refine gi (aA hd) ?_;refine gl ?_;refine gs (io (.const _) (.tmp rfl) oz (rz oz) rfl) ?_;refine gC (fun t24=>?_) (fun t24=>?_)
  ·have h1 : d.length ≠ 2 ^ k := by have := t24; simp only [aa, bne_iff_ne, ne_eq] at this; omega
   refine af ?_;rw[PQ h5 hd hj h1];rfl
  have h1:d.length=2^k:=by have:=t24;simp only[aa,bne_eq_false_iff_eq]at this;omega
  have htl:(rs.take k).length=k:=by simp;omega
  have hnu:=BU (rs.take k) d (h.ok d hdm) hdl oz;rw[htl]at hnu;refine gs (d9 (.tmp rfl) (.none _) (.some _ (.tmp rfl) oz) T35 rfl T67 rfl oz (by simp only[length_map];omega) rfl) ?_ (9,0);refine gW (Wk.of (sl:=[(1,some (.ptr 1 0)),(3,some (i64 k)),(4,some (nR d)),(5,some (.ptr 5 0)),(13,some (.lst 1 (rs.map nR))),(14,some (i64 rs.length)),(15,some (i64 k))]) (hp:=[(1,some (.box [.lst 1 (rs.map nR)])),(5,some (.box [.lst 1 ((rs.take k).map nR)]))]) aW (.k (.cons rfl (BlkSub.bL (.cons (.of (RJ nR rs k)) .nil) rfl) .nil))) ?_;refine gc hnu ?_;refine gC (fun t35=>?_) (fun t35=>?_)
  ·have h2:=cE t35;refine af ?_;rw[Ix h5 hd hj h1 h2]
  have h2:=cC t35;have hts:=OL (ts:=llq rs) (fun j hjk=>(hj j hjk).nl) h.rb;have hq:=yi h2 (h.ok d hdm);have hcb:Cb r (lq d):=by have:=h.rb.cb k;rw[vg,getD_eq_getElem?_getD,hd]at this;exact this
  have hsg:FP 230 [de (rs.take k),nR d] (i64 (T.sgn (au (llq rs)) k (ae k (lq d)))):=by
   have h9:=nC ((llq rs).take k) k r hts oz (by simp;omega) k (lq d) r (le_refl _) hq.2 hcb (o5 (le_refl k) (by have:=h.three;omega) hr (by have:=iJ k;omega));rw[T.sgn_congr k (fun j hjk=>Ot hjk)]at h9;rw[UA h.ok oz hj,hq.1,ep];rw[<- hq.1];exact h9
  refine gc hsg ?_;refine gC (fun t40=>?_) (fun t40=>?_)
  ·have h3 : T.sgn (au (llq rs)) k (ae k (lq d)) < 0 := by simpa [aa] using t40
   refine af ?_;rw[KL h5 hd hj h1 h2 h3];rfl
  have h3:¬T.sgn (au (llq rs)) k (ae k (lq d))<0:=by simpa[aa]using t40
  refine ga aF ?_;exact aH J1 (k+1) ⟨hin,fun j hjk=>by rcases lt_or_ge j k with h9 |h9;exact hj j h9;(have:j=k:=by omega);subst this;exact OO hd h1 h2 h3⟩
 have hin:k=rs.length:=by have:rs.length<=k:=(by simpa[aa]using t16);omega
 subst hin;refine af ?_;rw[Nx h5 hj];rfl
theorem lH(rs:List (List Rt))(r:Nat)(h:TR rs r)(xs:List (List Rt))(hx:∀a∈xs,(∀x∈a,x.ok)/\a.length<=281474976710656)(hl:xs.length<=281474976710656):FP 229 [de rs,.lst 1 (xs.map nR)] (bg (bt rs xs)):=by
 refine ai func229 ?_;refine gc (mN rs r h) ?_;refine gC (fun t12=>?_) (fun t12=>?_)
 ·have h1:=cE t12;refine af ?_;rw[Ql h1]
 have h1:=cC t12;refine gl ?_;refine aN [2,14,15] [2] (fun(i:Nat)=>[(16,some (i64 i))]) (fun _=>[]) (fun i=>i<=xs.length/\∀x∈xs.take i,bX rs.length x=0) (fun i=>xs.length-i) 0 ⟨zero_le _,fun x hx=>by simp at hx⟩ ?_;rintro i ⟨hi,hj⟩ K1 J1;refine gC (fun t17=>?_) (fun t17=>?_)
 ·have hin : i < xs.length := by simpa [aa] using t17
  obtain⟨a,ha⟩:=ax hin;have hok:=hx a (mem_of_getElem? ha);refine gi (aA ha) ?_;refine gc (BU rs a hok.1 hok.2 h.ll) ?_;refine gC (fun t24=>?_) (fun t24=>?_)
  ·have h2:=cE t24;refine af ?_;rw[vU h1 ha hj h2]
  have h2:=cC t24;refine ga aF ?_;exact aH J1 (i+1) ⟨hin,fun x hx=>by rw[dG ha]at hx;rcases List.mem_append.1 hx with h9 |h9;exact hj x h9;(rw[List.mem_singleton.1 h9];exact h2)⟩
 have hin:i=xs.length:=by have:xs.length<=i:=(by simpa[aa]using t17);omega
 subst hin;rw[take_length]at hj;refine af ?_;rw[rc h1 hj];rfl
theorem NM(rs:List (List Rt))(r:Nat)(h:TR rs r)(a:List Rt)(e:Nat)(ha:NR a e):FP 307 [de rs,nR a] (bl (decide (bt rs [a]=0))):=by
 refine ai func307 ?_;refine gc (lH rs r h [a] (fun x hx=>by rw[List.mem_singleton.1 hx];exact⟨ha.ok,ha.len⟩) (by simp)) ?_;refine af ?_;rw[tx];rfl
theorem xZ(rs:List (List Rt))(r:Nat)(h:TR rs r)(a:List Rt)(e:Nat)(ha:NR a e)(he:e<=lm rs.length) :
  FP 147 [de rs,nR a] (.tup [nA (if bt rs [a]=0 then sh rs.length (T.neg rs.length (ae rs.length (lq a)))else[]),bg (bt rs [a])]):=by
 have hlm:=k8 rs.length;refine ai func147 ?_;refine gc (lH rs r h [a] (fun x hx=>by rw[List.mem_singleton.1 hx];exact⟨ha.ok,ha.len⟩) (by simp)) ?_;refine gC (fun t12=>?_) (fun t12=>?_) (st2:=(77777,0))
 ·have h1:=cE t12;refine gR ?_;exact dV (by rw[if_neg h1];exact Sub.tup (.cons (.nil _ _ _) (.cons (.refl _) .nil)))
 have h1:=cC t12;obtain⟨h2,h3⟩:=ns h1;obtain⟨tw,_⟩:=db h h2;obtain⟨e1,na⟩:=ha.num (h3 a (by simp));have h5:rs.length<=5:=by have:=tw.five;rwa [length_map]at this
 have hl:=na.len5 h5;have qa:∀q∈lq a,Qs q:=fun q hq=>ha.cb.qs oz hq
 have qm:∀q∈dK (lq a),Qs q:=fun q hq=>ha.cb.minus.qs oz hq
 have nm:=qD na;refine gW (Wk.of (sl:=[(1,some (nA (lq a))),(2,some (.ptr 2 0)),(6,some (bg (bt rs [a])))]) (hp:=[(2,some (.box [.lst 1 (rs.map nR)]))]) (.cons rfl (Sub.of e1) (.k (.k .nil))) (.k .nil)) ?_;refine gc (rO _ qa oz) ?_;refine gc (kH _ h5 nm qm) ?_;refine bh ?_;rw[if_pos h1,h1,n8];rfl
theorem IT(rs:List (List Rt))(r:Nat)(h:TR rs r)(a b:List Rt)(e f:Nat)(ha:NR a e)(hb:NR b f)(he:e+f<=lm rs.length) :
  FP 356 [de rs,nR a,nR b] (.tup [nA (if bt rs [a,b]=0 then sh rs.length (T.add rs.length (ae rs.length (lq a)) (ae rs.length (lq b)))else[]),bg (bt rs [a,b])]):=by
 have hlm:=k8 rs.length;refine ai func356 ?_;refine gc (lH rs r h [a,b] (tg ha hb) (by simp)) ?_;refine gC (fun t15=>?_) (fun t15=>?_) (st2:=(77777,0))
 ·have h1:=cE t15;refine gR ?_;exact dV (by rw[if_neg h1];exact Sub.tup (.cons (.nil _ _ _) (.cons (.refl _) .nil)))
 have h1:=cC t15;obtain⟨h2,h3⟩:=ns h1;obtain⟨tw,e0⟩:=db h h2;obtain⟨e1,na⟩:=ha.num (h3 a (by simp));obtain⟨e2,nb⟩:=hb.num (h3 b (by simp));have h5:rs.length<=5:=by have:=tw.five;rwa [length_map]at this
 have hla:=na.len5 h5;have hlb:=nb.len5 h5;have qa:∀q∈lq a,Qs q:=fun q hq=>ha.cb.qs oz hq
 have qb:∀q∈lq b,Qs q:=fun q hq=>hb.cb.qs oz hq
 have qp:∀q∈dc (lq a) (lq b),Qs q:=fun q hq=>(ha.cb.plus hb.cb).qs oz hq
 have np:=qv na nb;refine gW (Wk.of (sl:=[(1,some (nA (lq a))),(2,some (nA (lq b))),(3,some (.ptr 3 0)),(8,some (bg (bt rs [a,b])))]) (hp:=[(3,some (.box [.lst 1 (rs.map nR)]))]) (.cons rfl (Sub.of e1) (.cons rfl (Sub.of e2) (.k (.k .nil)))) (.k .nil)) ?_;refine gc (nH _ _ qa qb oz oz) ?_;refine gc (kH _ h5 np qp) ?_;refine bh ?_;rw[if_pos h1,h1,kj];rfl
theorem Ji(rs:List (List Rt))(r:Nat)(h:TR rs r)(a b:List Rt)(e f:Nat)(ha:NR a e)(hb:NR b f)(he:e+f<=lm rs.length) :
  FP 176 [de rs,nR a,nR b] (.tup [nA (if bt rs [a,b]=0 then sh rs.length (T.add rs.length (ae rs.length (lq a)) (T.neg rs.length (ae rs.length (lq b))))else[]),bg (bt rs [a,b])]):=by
 have hlm:=k8 rs.length;refine ai func176 ?_;refine gc (lH rs r h [a,b] (tg ha hb) (by simp)) ?_;refine gC (fun t15=>?_) (fun t15=>?_) (st2:=(77777,0))
 ·have h1:=cE t15;refine gR ?_;exact dV (by rw[if_neg h1];exact Sub.tup (.cons (.nil _ _ _) (.cons (.refl _) .nil)))
 have h1:=cC t15;obtain⟨h2,h3⟩:=ns h1;obtain⟨tw,e0⟩:=db h h2;obtain⟨e1,na⟩:=ha.num (h3 a (by simp));obtain⟨e2,nb⟩:=hb.num (h3 b (by simp));have h5:rs.length<=5:=by have:=tw.five;rwa [length_map]at this
 have hla:=na.len5 h5;have hlb:=nb.len5 h5;have qa:∀q∈lq a,Qs q:=fun q hq=>ha.cb.qs oz hq
 have qb:∀q∈lq b,Qs q:=fun q hq=>hb.cb.qs oz hq
 have qm:∀q∈dK (lq b),Qs q:=fun q hq=>hb.cb.minus.qs oz hq
 have qp:∀q∈dc (lq a) (dK (lq b)),Qs q:=fun q hq=>(ha.cb.plus hb.cb.minus).qs oz hq
 have np:=qv na (qD nb);refine gW (Wk.of (sl:=[(1,some (nA (lq a))),(2,some (nA (lq b))),(3,some (.ptr 3 0)),(8,some (bg (bt rs [a,b])))]) (hp:=[(3,some (.box [.lst 1 (rs.map nR)]))]) (.cons rfl (Sub.of e1) (.cons rfl (Sub.of e2) (.k (.k .nil)))) (.k .nil)) ?_;refine gc (rO _ qb oz) ?_;refine gc (nH _ _ qa qm oz (by rw[iL];omega)) ?_;refine gc (kH _ h5 np qp) ?_;refine bh ?_;rw[if_pos h1,h1,kj,n8];rfl
theorem Mq(rs:List (List Rt))(r:Nat)(h:TR rs r)(a b:List Rt)(e f:Nat)(ha:NR a e)(hb:NR b f)(he:e+f<=lm rs.length) :
  FP 127 [de rs,nR a,nR b] (.tup [nA (if bt rs [a,b]=0 then sh rs.length (T.mul (au (llq rs)) rs.length (ae rs.length (lq a)) (ae rs.length (lq b)))else[]),bg (bt rs [a,b])]):=by
 have hr:=h.le;have hlm:=k8 rs.length;refine ai func127 ?_;refine gc (lH rs r h [a,b] (tg ha hb) (by simp)) ?_;refine gC (fun t15=>?_) (fun t15=>?_) (st2:=(77777,0))
 ·have h1:=cE t15;refine gR ?_;exact dV (by rw[if_neg h1];exact Sub.tup (.cons (.nil _ _ _) (.cons (.refl _) .nil)))
 have h1:=cC t15;obtain⟨h2,h3⟩:=ns h1;obtain⟨tw,e0⟩:=db h h2;obtain⟨e1,na⟩:=ha.num (h3 a (by simp));obtain⟨e2,nb⟩:=hb.num (h3 b (by simp));have hlen:(llq rs).length=rs.length:=length_map _;have h5:rs.length<=5:=by have:=tw.five;omega
 have hla:=na.len5 h5;have hlb:=nb.len5 h5;have htw:=tw.ok;rw[hlen]at htw;have hE:=Ro r h5;have np:=fv (llq rs) rs.length htw.1 rs.length rs.length _ _ (le_refl _) (le_refl _) na nb;have cp:=Cb.mul htw (k:=rs.length) (le_refl rs.length) (le_refl _) na nb ha.cb hb.cb;have hti:=p8 (llq rs) rs.length r htw h5 oz rs.length rs.length _ _ e f (le_refl _) (le_refl _) na nb ha.cb hb.cb oz;refine gW (Wk.of (sl:=[(1,some (nA (lq a))),(2,some (nA (lq b))),(3,some (.ptr 3 0)),(8,some (bg (bt rs [a,b])))]) (hp:=[(3,some (.box [.lst 1 ((llq rs).map nA)]))]) (.cons rfl (Sub.of e1) (.cons rfl (Sub.of e2) (.k (.k .nil)))) (.cons rfl (BlkSub.bL (.cons (.of (me e0)) .nil) rfl) .nil)) ?_;refine gc hti ?_;refine gc (kH _ h5 np.1 (fun q hq=>cp.qs oz hq)) ?_;refine bh ?_;rw[if_pos h1,h1,np.2];rfl
theorem Ll(rs:List (List Rt))(r:Nat)(h:TR rs r)(a b:List Rt)(e f:Nat)(ha:NR a e)(hb:NR b f)(he:e+f+1<=lm rs.length) :
  FP 128 [de rs,nR a,nR b] (.tup [i64 (if bt rs [a,b]=0 then T.sgn (au (llq rs)) rs.length (T.add rs.length (ae rs.length (lq a)) (T.neg rs.length (ae rs.length (lq b))))else 0),bg (bt rs [a,b])]):=by
 have hr:=h.le;have hlm:=k8 rs.length;refine ai func128 ?_;refine gc (lH rs r h [a,b] (tg ha hb) (by simp)) ?_;refine gC (fun t15=>?_) (fun t15=>?_) (st2:=(77777,0))
 ·have h1:=cE t15;refine bh ?_;rw[if_neg h1];rfl
 have h1:=cC t15;obtain⟨h2,h3⟩:=ns h1;obtain⟨tw,e0⟩:=db h h2;obtain⟨e1,na⟩:=ha.num (h3 a (by simp));obtain⟨e2,nb⟩:=hb.num (h3 b (by simp));have hlen:(llq rs).length=rs.length:=length_map _;have h5:rs.length<=5:=by have:=tw.five;omega
 have hla:=na.len5 h5;have hlb:=nb.len5 h5;have htw:=tw.ok;rw[hlen]at htw;have qa:∀q∈lq a,Qs q:=fun q hq=>ha.cb.qs oz hq
 have qb:∀q∈lq b,Qs q:=fun q hq=>hb.cb.qs oz hq
 have qm:∀q∈dK (lq b),Qs q:=fun q hq=>hb.cb.minus.qs oz hq
 have np:=qv na (qD nb);have hsg:=nC (llq rs) rs.length r htw h5 oz rs.length _ _ (le_refl _) np (ha.cb.plus hb.cb.minus) (o5 (le_refl rs.length) (by have:=tw.three;omega) hr oz);refine gW (Wk.of (sl:=[(1,some (nA (lq a))),(2,some (nA (lq b))),(3,some (.ptr 3 0)),(8,some (bg (bt rs [a,b])))]) (hp:=[(3,some (.box [.lst 1 ((llq rs).map nA)]))]) (.cons rfl (Sub.of e1) (.cons rfl (Sub.of e2) (.k (.k .nil)))) (.cons rfl (BlkSub.bL (.cons (.of (me e0)) .nil) rfl) .nil)) ?_;refine gc (rO _ qb oz) ?_;refine gc (nH _ _ qa qm oz (by rw[iL];omega)) ?_;refine gc hsg ?_;refine gD ?_;refine bh ?_;rw[if_pos h1,h1,kj,n8];rfl
theorem RP(rs:List (List Rt))(r:Nat)(h:TR rs r)(a:List Rt)(e:Nat)(ha:NR a e)(he:e<=lm rs.length) :
  FP 116 [de rs,nR a] (.tup [i64 (if bt rs [a]=0 then T.sgn (au (llq rs)) rs.length (ae rs.length (lq a))else 0),bg (bt rs [a])]):=by
 have hr:=h.le;have hlm:=k8 rs.length;refine ai func116 ?_;refine gc (lH rs r h [a] (fun x hx=>by rw[List.mem_singleton.1 hx];exact⟨ha.ok,ha.len⟩) (by simp)) ?_;refine gC (fun t12=>?_) (fun t12=>?_) (st2:=(77777,0))
 ·have h1:=cE t12;refine bh ?_;rw[if_neg h1];rfl
 have h1:=cC t12;obtain⟨h2,h3⟩:=ns h1;obtain⟨tw,e0⟩:=db h h2;obtain⟨e1,na⟩:=ha.num (h3 a (by simp));have hlen:(llq rs).length=rs.length:=length_map _;have h5:rs.length<=5:=by have:=tw.five;omega
 have htw:=tw.ok;rw[hlen]at htw;have hsg:=nC (llq rs) rs.length r htw h5 oz rs.length _ _ (le_refl _) na ha.cb (o5 (le_refl rs.length) (by have:=tw.three;omega) hr oz);refine gW (Wk.of (sl:=[(1,some (nA (lq a))),(2,some (.ptr 2 0)),(6,some (bg (bt rs [a])))]) (hp:=[(2,some (.box [.lst 1 ((llq rs).map nA)]))]) (.cons rfl (Sub.of e1) (.k (.k .nil))) (.cons rfl (BlkSub.bL (.cons (.of (me e0)) .nil) rfl) .nil)) ?_;refine gc hsg ?_;refine bh ?_;rw[if_pos h1,h1];rfl
theorem yX(x:Rt)(hx:x.ok)(hs:Qs x.q):FP 165 [x.av] (nA (sh 0 (x.q:Rat))):=by
 have hadd:=mQ x (rt 0) hx Qs.zero.ok;rw[sP]at hadd;refine ai func165 ?_;refine gc (Con.sA (.cons (.refl _) (.cons ja .nil)) hadd) ?_;refine gc (kH (n:=0) [x.q] oz (.inr ⟨0,le_refl _,rfl⟩) (fun q hq=>by rw[List.mem_singleton.1 hq];exact hs)) ?_;refine af ?_;rfl
theorem Rs(x:Rt)(hx:x.ok)(hs:Qs x.q):FP 60 [x.av] (nA (sh 0 (x.q:Rat))):=by
 have hadd:=Ga x (rt 0) hx Qs.zero.ok;rw[sP]at hadd;refine ai func60 ?_;refine gc (Fl x hx) ?_;refine gC (fun t5=>?_) (fun t5=>?_)
 ·have h0 : x.q=0 := nN (by simpa[aa]using t5);refine gR ?_;exact j8 (by rw[h0];exact Sub.nil _ _ _)
 have h0:x.q≠0:=fun h=>by rw[h]at t5;cases t5
 refine gc (Con.sA (.cons (.refl _) (.cons ja .nil)) hadd) ?_;refine af ?_;have:sh 0 (x.q:Rat)=[x.q]:=if_neg h0;rw[this];rfl
theorem zO{p q:Rat}(hp:Qs p)(hq:Qs q):FP 231 [qA p,qA q] (qA (p+q)):=by
 have h:=mQ (rt p) (rt q) hp.ok hq.ok;rw[bZ,bZ]at h;exact h
theorem uA{p q:Rat}(hp:Qs p)(hq:Qs q):FP 262 [qA p,qA q] (qA (p-q)):=by
 have h:=PU (rt p) (rt q) hp.ok hq.ok;rw[bZ,bZ]at h;exact h
theorem sH{p q:Rat}(hp:Qs p)(hq:Qs q):FP 286 [qA p,qA q] (qA (p*q)):=by
 have h:=CJ (rt p) (rt q) hp.ok hq.ok;rw[bZ,bZ]at h;exact h
theorem Iq{p q:Rat}(hp:Qs p)(hq:Qs q):FP 385 [qA p,qA q] (.tup [qA (p/q),bg (if q=0 then 8 else 0)]):=by
 have h:=Fu (rt p) (rt q) hp.ok hq.ok;rw[bZ,bZ]at h;exact h
theorem Ml{p:Rat}(hp:Qs p):FP 209 [qA p] (i64 (bA p)):=by
 have h:=vt (rt p) hp.ok;rw[bZ]at h;exact h
theorem sF(x:Tn)(hx:x.t.ok):FP 105 [x.av] (bg x.err):=by
 refine ai func105 ?_;refine gc (nP x.t hx) ?_;refine bM (fun _=>(vt x.t hx)) ?_;refine gC (fun t16=>?_) (fun t16=>?_)
 ·have h0:=Tn.err_yes t16;refine af ?_;rw[h0];rfl
 have h0:=Tn.err_no t16;refine af ?_;rw[h0];rfl
theorem H6{p q:Rat}(hp:Qs p)(hq:Qs q):FP 353 [qA p,qA q] (qA (p/q)):=by
 refine ai func353 ?_;refine gc (Iq hp hq) ?_;refine gC (fun t14=>?_) (fun t14=>?_)
 ·have h0:q=0:=by
   have:=cE t14
   by_cases h:q=0
   ·exact h
   ·rw[if_neg h]at this;exact absurd rfl this
  refine gR ?_;exact j8 (by rw[h0,RS];exact ja)
 refine af ?_;rfl
theorem GK(half:Bool){t:Rat}{e:Nat}(ht:Qb e t)(he:e<=1000000):FP 256 [Tn.av ⟨rt t,half⟩] (.tup [qA (bV half t),qA (cm half t)]):=by
 have qt:Qs t:=ht.qs oz;have m2:=ht.mul ht;have one:Qb 1 (((1:Int):Rat)):=Qb.one;have d:=one.add m2;refine ai func256 ?_;refine gC (fun t8=>?_) (fun t8=>?_)
 ·have h0:half=true:=t8;refine gc (km (-1) oz) ?_;refine gR ?_;exact dV (by subst h0;exact Sub.tup (.cons (.refl _) (.cons ja .nil)))
 have h0:half=false:=t8;refine gc (km 1 oz) ?_;refine gc (sH qt qt) ?_;refine gD ?_;refine gc (zO (one.qs oz) (m2.qs oz)) ?_;refine gc (uA (one.qs oz) (m2.qs oz)) ?_;refine gc (H6 ((one.sub m2).qs oz) (d.qs oz)) ?_;refine gc (zO qt qt) ?_;refine gc (H6 ((ht.add ht).qs oz) (d.qs oz)) ?_;refine gD ?_;refine bh ?_;subst h0;rfl
theorem ut(x:Tn)(hx:x.t.ok){e:Nat}(hq:Qb e x.t.q)(he:e<=1000000):FP 148 [x.av] (.tup [qA (if x.err=0 then bV x.half x.t.q else 0),bg x.err]):=by
 refine ai func148 ?_;refine gc (sF x hx) ?_;refine gC (fun t10=>?_) (fun t10=>?_)
 ·have h1:=cE t10;refine gR ?_;exact dV (by rw[if_neg h1];exact Sub.tup (.cons ja (.cons (.refl _) .nil)))
 have h1:=cC t10;have hd:=GK x.half hq he;rw[<- Rt.eq_rt hx (Tn.ok_valid h1)]at hd;refine gc hd ?_;refine bh ?_;rw[if_pos h1,h1];rfl
theorem Ac(x:Tn)(hx:x.t.ok){e:Nat}(hq:Qb e x.t.q)(he:e<=1000000):FP 149 [x.av] (.tup [qA (if x.err=0 then cm x.half x.t.q else 0),bg x.err]):=by
 refine ai func149 ?_;refine gc (sF x hx) ?_;refine gC (fun t10=>?_) (fun t10=>?_)
 ·have h1:=cE t10;refine gR ?_;exact dV (by rw[if_neg h1];exact Sub.tup (.cons ja (.cons (.refl _) .nil)))
 have h1:=cC t10;have hd:=GK x.half hq he;rw[<- Rt.eq_rt hx (Tn.ok_valid h1)]at hd;refine gc hd ?_;refine bh ?_;rw[if_pos h1,h1];rfl
theorem w9{ts:LL}{r e f:Nat}(tw:Tw ts r){a b:List Rat}(ha:Nm ts.length e a)(hb:Nm ts.length f b)(he:e+f<=lm ts.length) :
  FP 356 [aO ts,nA a,nA b] (.tup [nA (sh ts.length (T.add ts.length (ae ts.length a) (ae ts.length b))),.v .nilIface]):=by
 have h:=IT (ts.map (List.map rt)) r tw.tr (a.map rt) (b.map rt) e f (ha.rt oz) (hb.rt oz) (by rw[length_map];exact he);have h0:bt (ts.map (List.map rt)) [a.map rt,b.map rt]=0:=rT tw ha hb;rw[h0,if_pos rfl,jp,ep,ep,dM,dM,length_map]at h;exact h
theorem nv{ts:LL}{r e f:Nat}(tw:Tw ts r){a b:List Rat}(ha:Nm ts.length e a)(hb:Nm ts.length f b)(he:e+f<=lm ts.length) :
  FP 176 [aO ts,nA a,nA b] (.tup [nA (sh ts.length (T.add ts.length (ae ts.length a) (T.neg ts.length (ae ts.length b)))),.v .nilIface]):=by
 have h:=Ji (ts.map (List.map rt)) r tw.tr (a.map rt) (b.map rt) e f (ha.rt oz) (hb.rt oz) (by rw[length_map];exact he);have h0:bt (ts.map (List.map rt)) [a.map rt,b.map rt]=0:=rT tw ha hb;rw[h0,if_pos rfl,jp,ep,ep,dM,dM,length_map]at h;exact h
theorem z6{ts:LL}{r e f:Nat}(tw:Tw ts r){a b:List Rat}(ha:Nm ts.length e a)(hb:Nm ts.length f b)(he:e+f<=lm ts.length) :
  FP 127 [aO ts,nA a,nA b] (.tup [nA (sh ts.length (T.mul (au ts) ts.length (ae ts.length a) (ae ts.length b))),.v .nilIface]):=by
 have h:=Mq (ts.map (List.map rt)) r tw.tr (a.map rt) (b.map rt) e f (ha.rt oz) (hb.rt oz) (by rw[length_map];exact he);have h0:bt (ts.map (List.map rt)) [a.map rt,b.map rt]=0:=rT tw ha hb;rw[h0,if_pos rfl,jp,ep,ep,pH,dM,dM,length_map]at h;exact h
theorem tZ{ts:LL}{r e f:Nat}(tw:Tw ts r){a b:List Rat}(ha:Nm ts.length e a)(hb:Nm ts.length f b)(he:e+f+1<=lm ts.length) :
  FP 128 [aO ts,nA a,nA b] (.tup [i64 (T.sgn (au ts) ts.length (T.add ts.length (ae ts.length a) (T.neg ts.length (ae ts.length b)))),.v .nilIface]):=by
 have h:=Ll (ts.map (List.map rt)) r tw.tr (a.map rt) (b.map rt) e f (ha.rt oz) (hb.rt oz) (by rw[length_map];exact he);have h0:bt (ts.map (List.map rt)) [a.map rt,b.map rt]=0:=rT tw ha hb;rw[h0,if_pos rfl,jp,ep,ep,pH,dM,dM,length_map]at h;exact h
theorem Al{ts:LL}{r e:Nat}(tw:Tw ts r){a:List Rat}(ha:Nm ts.length e a)(he:e<=lm ts.length) :
  FP 116 [aO ts,nA a] (.tup [i64 (T.sgn (au ts) ts.length (ae ts.length a)),.v .nilIface]):=by
 have h:=RP (ts.map (List.map rt)) r tw.tr (a.map rt) e (ha.rt he) (by rw[length_map];exact he);have h0:bt (ts.map (List.map rt)) [a.map rt]=0:=xd tw ha;rw[h0,if_pos rfl,jp,ep,pH,dM,length_map]at h;exact h
theorem xb{ts:LL}{r e:Nat}(tw:Tw ts r){a:List Rat}(ha:Nm ts.length e a)(he:e<=lm ts.length) :
  FP 147 [aO ts,nA a] (.tup [nA (sh ts.length (T.neg ts.length (ae ts.length a))),.v .nilIface]):=by
 have h:=xZ (ts.map (List.map rt)) r tw.tr (a.map rt) e (ha.rt he) (by rw[length_map];exact he);have h0:bt (ts.map (List.map rt)) [a.map rt]=0:=xd tw ha;rw[h0,if_pos rfl,jp,ep,dM,length_map]at h;exact h
theorem PI{ts:LL}{r:Nat}(tw:Tw ts r):FP 144 [aO ts] (.v .nilIface):=by
 have h:=mN (ts.map (List.map rt)) r tw.tr;rw[tw.chk,jp]at h;exact h
theorem kK{q:Rat}(h:Qs q):FP 165 [qA q] (nA (sh 0 (q:Rat))):=by
 have h1:=yX (rt q) h.ok (by rw[bZ];exact h);rw[bZ]at h1;exact h1
theorem NF{q:Rat}(h:Qs q):FP 60 [qA q] (nA (sh 0 (q:Rat))):=by
 have h1:=Rs (rt q) h.ok (by rw[bZ];exact h);rw[bZ]at h1;exact h1
theorem vJ{ts:LL}{r e:Nat}(tw:Tw ts r)(ls:LL)(hl:∀l∈ls,Nm ts.length e l)(he:e<=lm ts.length)(hn:ls.length<=1000):FP 190 [aO ts,.lst 1 (ls.map nA)] (.v .nilIface):=by
 refine ai func190 ?_;refine gc (PI tw) ?_;refine gC (fun t13=>?_) (fun t13=>?_) (st1:=(3,0));cases t13;refine gl ?_;refine aN [2,15,16] [2] (fun(i:Nat)=>[(17,some (i64 i))]) (fun _=>[]) (fun i=>i<=ls.length) (fun i=>ls.length-i) 0 (zero_le _) ?_;rintro i hi K1 J1;refine gC (fun t18=>?_) (fun t18=>?_)
 ·have hin : i < ls.length := by simpa [aa] using t18
  obtain⟨l,hll⟩:=ax hin;have hok:=hl l (mem_of_getElem? hll);refine gi (aA hll) ?_;refine gc (xb tw hok he) ?_;refine gC (fun t28=>?_) (fun t28=>?_) (st1:=(9,0));cases t28;refine ga aF ?_;exact aH J1 (i+1) hin
 have hin:i=ls.length:=by have:ls.length<=i:=(by simpa[aa]using t18);omega
 refine af ?_
 first |rfl |(simp;done)
theorem mO{ts:LL}{r e:Nat}(tw:Tw ts r)(ps:List (List Rat×List Rat))(hl:∀p∈ps,Nm ts.length e p.1/\Nm ts.length e p.2)(he:e<=lm ts.length)(hn:ps.length<=500):FP 171 [aO ts,.lst 2 (ps.map fun p=>aI p.1 p.2)] (.v .nilIface):=by
 refine ai func171 ?_;refine gl ?_;refine gW (Wk.virt 900 1 rfl) ?_;refine aN [2,8,9] [2] (fun(i:Nat)=>[(5,some (.ms 900 1 0 (2*i))),(10,some (i64 i))]) (fun i=>[(900,some (.row 1 ((g9 (ps.take i)).map nA)))]) (fun i=>i<=ps.length) (fun i=>ps.length-i) 0 (zero_le _) ?_;rintro i hi K1 J1;refine gC (fun t11=>?_) (fun t11=>?_) (st2:=(7,0))
 ·have hin : i < ps.length := by simpa [aa] using t11
  obtain⟨p,hp⟩:=ax hin;have hfl:(g9 (ps.take i)).length=2*i:=by rw[vl,length_take];omega
  refine gi (aA hp) ?_;refine gs (ci (.tmp rfl) rfl (by rw[length_map,hfl]) (.tmp rfl) T35 rfl T67 rfl rfl (by simp;omega) rfl rfl) ?_ (6,0);refine gW (Wk.of (sl:=[(2,some (.ptr 2 0)),(5,some (.ms 20 1 0 (2*i+2))),(8,some (.lst 2 (ps.map fun p=>aI p.1 p.2))),(9,some (i64 ps.length)),(10,some (i64 i))]) (hp:=[(2,some (.box [.lst 1 (ts.map nA)])),(20,some (.row 1 ((g9 (ps.take (i+1))).map nA)))]) aW (.k (.cons rfl (BlkSub.of (by rw[dG hp,BM,map_append];rfl)) .nil))) ?_ (6,0);refine gW (Wk.rk (k:=20) (d:=900) rfl rfl) ?_;refine ga aF ?_;exact aH J1 (i+1) hin
 have hin:i=ps.length:=by have:ps.length<=i:=(by simpa[aa]using t11);omega
 subst hin;refine gW ((Wk.freeze (k:=900) rfl).trans<|Wk.of (sl:=[(2,some (.ptr 2 0)),(5,some (.lst 1 ((g9 ps).map nA)))]) (hp:=[(2,some (.box [.lst 1 (ts.map nA)]))]) (.k (.cons rfl (Sub.of (by rw[bJ (by rw[length_map,vl,length_take];omega),take_length])) .nil)) (.k .nil)) ?_;refine gc (vJ tw (g9 ps) (Fz hl) he (by rw[vl];omega)) ?_;refine af ?_
 first |rfl |(simp;done)
theorem Af(R:List AV)(a:List Rat):Con prog 357 [.ptr 1000 0,nA a,.v .nilIface] [(1000,some (.box [.lst 1 R,.v .nilIface]))] (nA a) [(1000,some (.box [.lst 1 R,.v .nilIface]))]:=by
 refine gF func357 (fun k z h=>bj h) ?_;refine gC (fun t11=>?_) (fun t11=>?_) (st2:=(77777,0))
 ·refine gR ?_;exact aq.keep (a6 rfl)
 cases t11
theorem ud{ts:LL}{r e f:Nat}(tw:Tw ts r){a b:List Rat}(ha:Nm ts.length e a)(hb:Nm ts.length f b)(he:e+f<=lm ts.length) :
  Con prog 285 [.ptr 1000 0,nA a,nA b] [(1000,some (fJ ts))] (nA (sh ts.length (T.add ts.length (ae ts.length a) (ae ts.length b)))) [(1000,some (fJ ts))]:=by
 refine gF func285 (fun k z h=>bj h) ?_;refine gc (w9 tw ha hb he) ?_;refine gt (az (Af _ _) (aE rfl rfl rfl) aB rfl rfl) ?_;refine gR ?_;exact aq.keep (a6 rfl)
theorem ux{ts:LL}{r e f:Nat}(tw:Tw ts r){a b:List Rat}(ha:Nm ts.length e a)(hb:Nm ts.length f b)(he:e+f<=lm ts.length) :
  Con prog 283 [.ptr 1000 0,nA a,nA b] [(1000,some (fJ ts))] (nA (sh ts.length (T.add ts.length (ae ts.length a) (T.neg ts.length (ae ts.length b))))) [(1000,some (fJ ts))]:=by
 refine gF func283 (fun k z h=>bj h) ?_;refine gc (nv tw ha hb he) ?_;refine gt (az (Af _ _) (aE rfl rfl rfl) aB rfl rfl) ?_;refine gR ?_;exact aq.keep (a6 rfl)
theorem kJ{ts:LL}{r e f:Nat}(tw:Tw ts r){a b:List Rat}(ha:Nm ts.length e a)(hb:Nm ts.length f b)(he:e+f<=lm ts.length) :
  Con prog 280 [.ptr 1000 0,nA a,nA b] [(1000,some (fJ ts))] (nA (sh ts.length (T.mul (au ts) ts.length (ae ts.length a) (ae ts.length b)))) [(1000,some (fJ ts))]:=by
 refine gF func280 (fun k z h=>bj h) ?_;refine gc (z6 tw ha hb he) ?_;refine gt (az (Af _ _) (aE rfl rfl rfl) aB rfl rfl) ?_;refine gR ?_;exact aq.keep (a6 rfl)
theorem Cp{ts:LL}{r e f:Nat}(tw:Tw ts r){a b c d:List Rat}(ha:Nm ts.length e a)(hb:Nm ts.length e b)(hc:Nm ts.length f c)(hd:Nm ts.length f d)(he:2*(e+f+kB r ts.length)<=lm ts.length) :
  Con prog 177 [.ptr 1000 0,aI a b,aI c d] [(1000,some (fJ ts))] (nA (sh ts.length (oe ts (ae ts.length a) (ae ts.length b) (ae ts.length c) (ae ts.length d)))) [(1000,some (fJ ts))]:=by
 refine gF func177 (fun k z h=>bj h) ?_;refine gt (az (kJ tw ha hc oz) (aE rfl rfl rfl) aB rfl rfl) ?_;refine gt (az (kJ tw hb hd oz) (aE rfl rfl rfl) aB rfl rfl) ?_;refine gt (az (zg▸ud tw (ha.mul tw rfl hc) (hb.mul tw rfl hd) oz) (aE rfl rfl rfl) aB rfl rfl) ?_;refine gD ?_;refine gR ?_;exact aq.keep (a6 rfl)
theorem Dj{ts:LL}{r e f:Nat}(tw:Tw ts r){a b c d:List Rat}(ha:Nm ts.length e a)(hb:Nm ts.length e b)(hc:Nm ts.length f c)(hd:Nm ts.length f d)(he:2*(e+f+kB r ts.length)<=lm ts.length) :
  Con prog 175 [.ptr 1000 0,aI a b,aI c d] [(1000,some (fJ ts))] (nA (sh ts.length (l7 ts (ae ts.length a) (ae ts.length b) (ae ts.length c) (ae ts.length d)))) [(1000,some (fJ ts))]:=by
 refine gF func175 (fun k z h=>bj h) ?_;refine gt (az (kJ tw ha hd oz) (aE rfl rfl rfl) aB rfl rfl) ?_;refine gt (az (kJ tw hb hc oz) (aE rfl rfl rfl) aB rfl rfl) ?_;refine gt (az (y8▸ux tw (ha.mul tw rfl hd) (hb.mul tw rfl hc) oz) (aE rfl rfl rfl) aB rfl rfl) ?_;refine gD ?_;refine gR ?_;exact aq.keep (a6 rfl)
def T.inv(r:(k:Nat)->T k):(k:Nat)->T k->T k
  |0,q=>(1:Rat)/q
  |k+1,x =>
    if T.isZ k x.2=true then(T.inv r k x.1,T.zero k)
    else if T.sgn r k (T.norm r k x)=0 then(T.inv r k (T.add k x.1 x.1),T.zero k)
    else(T.mul r k x.1 (T.inv r k (T.norm r k x)),T.mul r k (T.neg k x.2) (T.inv r k (T.norm r k x)))
theorem T.inv_low(r:(k:Nat)->T k)(k:Nat)(x:T k):T.inv r (k+1) (x,T.zero k)=(T.inv r k x,T.zero k):=by
 have h:=(T.isZ_iff k (T.zero k)).2 rfl
 conv=>lhs;unfold T.inv
 simp only[if_pos h]
theorem tT(r:(k:Nat)->T k){i j:Nat}{s L:List Rat}(hs:s.length<=2^i)(hL:L.length<=2^i)(h:ae i L=T.inv r i (ae i s))(hij:i<=j):ae j L=T.inv r j (ae j s):=by
  induction j with
  | zero => have : i = 0 := by omega
            subst this;exact h
  |succ j ih =>
    by_cases h':i=j+1
    · rw[<- h'];exact h
    · rw[gN (le_trans hs (b7 oz)),gN (le_trans hL (b7 oz)),T.inv_low,ih oz]
def iB(r:Nat):Nat->Nat->Nat
  |0,e=>e
  |j+1,e=>e+iB r j (4*e+3*eB r j+r+1)+eB r (j+1)
theorem zL(r:Nat):∀j e,e<=iB r j e
 |0,e=>le_refl _
 |j+1,e=>by simp only[iB];omega
theorem we(r:Nat):∀j {e f:Nat},e<=f->iB r j e<=iB r j f
 |0,e,f,h=>h
 |j+1,e,f,h=>by
  have:=we r j (e:=4*e+3*eB r j+r+1) (f:=4*f+3*eB r j+r+1) oz;simp only[iB];omega
theorem NB(r j e:Nat):iB r j e<=iB r (j+1) e:=by
 have:=we r j (e:=e) (f:=4*e+3*eB r j+r+1) oz;simp only[iB];omega
theorem yU(r e:Nat){i j:Nat}(h:i<=j):iB r i e<=iB r j e:=by
  induction j with
  | zero => have : i = 0 := by omega
            subst this;exact le_refl _
  |succ j ih =>
    by_cases hij:i=j+1
    · rw[hij];exact le_refl _
    · exact le_trans (ih oz) (NB r j e)
theorem RL(r e:Nat){j:Nat}(h:j<=1):iB r j e<=5*e+2*eB r j:=by
 match j,h with
 |0,_=>simp only[iB,eB];omega
 |1,_=>simp only[iB,eB];omega
theorem EV{r:(k:Nat)->T k}{n:Nat}(h:Sg (E r n) (sg r n))(hd:0<=sg r n (bq r n)){x y:E r n}(hz:sg r (n+1) (bB x y)≠0)(hN:sg r n (aL x y)=0):sg r n (x+x)≠0:=by
 have hx:sg r n x≠0:=by
  intro hx;rw[jO,hN,hx]at hz;have h1:sg r n (x*x)=0:=by rw[h.mul,hx];simp
  have h2:=h.zadd (y:=-(y*y*bq r n)) h1;unfold aL at hN;rw[h2,h.neg,h.mul,h.mul]at hN;unfold T.sgn3 at hz;have c1:=h.cs y;have c2:=h.cs (bq r n);rcases c1 with e |e |e <;> rcases c2 with e' |e' |e' <;> rw[e,e']at hN <;> rw[e,e']at hz <;> first |omega |(simp at hz) |(simp at hN)
 rcases h.cs x with e |e |e
 ·have := h.padd (x := -x) (y := -x) (by rw[h.neg,e];rfl) (by rw[h.neg,e];decide);rw[show -x+-x=-(x+x) by grind,h.neg]at this;omega
 ·exact absurd e hx
 ·have:=h.padd (x:=x) (y:=x) e oz;omega
theorem Cb.inv1{e:Nat}{q:Rat}(h:Cb e [q])(hq:q≠0):Cb e [(1:Rat)/q]:=by
 obtain⟨D,N,⟨h0,h1⟩,h2,h3⟩:=h;obtain⟨n,hn,hl⟩:=h1 q (by simp)
 have hD:((D:Int):Rat)≠0:=by
  intro h9;have:(D:Int)=0:=Rat.intCast_eq_zero_iff.1 h9;omega
 have hn0:n≠0:=by
  rintro rfl;rw[show((0:Int):Rat)=0 from rfl]at hn;rcases Rat.mul_eq_zero.1 hn with h9 |h9
  ·exact hq h9
  ·exact hD h9
 have hnq:((n:Int):Rat)≠0:=fun h9=>hn0 (Rat.intCast_eq_zero_iff.1 h9)
 refine⟨n.natAbs,D,⟨by omega,?_⟩,le_trans hl h3,h2⟩;intro x hx;rw[List.mem_singleton.1 hx];have key:(1:Rat)/q*(n:Rat)=((D:Int):Rat):=by rw[<- hn];grind
 rcases Int.natAbs_eq n with e9 |e9
 ·refine⟨D,?_,by simp⟩;rw[<- e9];exact key
 ·refine ⟨-(D : Int), ?_, by simp⟩;rw [Rat.intCast_neg,<- key]
  conv=>rhs;rw[e9]
  rw[Rat.intCast_neg];grind
theorem BO{e n:Nat}{s:List Rat}(h:Cb e s):Cb e (eV (s.take n) (dK (s.drop n)) n):=by
 obtain⟨D,N,h1,h2,h3⟩:=h;exact⟨D,N,(h1.sub (fun q hq=>List.mem_of_mem_take hq)).join (h1.sub (fun q hq=>List.mem_of_mem_drop hq)).minus,h2,h3⟩
theorem Ef:∀{j i:Nat}{x:T j},(sh j x).length=2^(i+1)->i+1<=j->T.isZ i (ae i ((sh j x).drop (2^i)))=false
 |0,i,x,_,h=>by omega
 |j+1,i,x,hl,h=>by
  cases hz:T.isZ j x.2
  ·have h1:=Ju hz;rw[h1]at hl
   have e:i=j:=by
    rcases Nat.lt_trichotomy i j with h9 |h9 |h9
    ·have := Nat.pow_lt_pow_right (a := 2) oz (show i+1<j+1 by omega);omega
    ·exact h9
    ·omega
   subst e;have h2:ae (i+1) (sh (i+1) x)=x:=a7 (i+1) x;have h3:ae i ((sh (i+1) x).drop (2^i))=x.2:=congrArg Prod.snd h2;rw[h3];exact hz
  ·have h1:sh (j+1) x=sh j x.1:=by
    conv=>lhs;unfold sh
    rw[if_pos hz]
   rw[h1]at hl ⊢;have h2:=(dZ j x.1).le
   have h3:i+1<=j:=by
    rcases lt_or_ge j (i+1)with h9 |h9
    ·have:=Nat.pow_lt_pow_right (a:=2) oz h9;omega
    ·exact h9
   exact Ef hl h3
theorem CY(r:(k:Nat)->T k){i:Nat}{x:T (i+1)}(hz:T.isZ i x.2=false)(h0:T.sgn r i (T.norm r i x)=0):T.inv r (i+1) x=(T.inv r i (T.add i x.1 x.1),T.zero i):=by
 conv=>lhs;unfold T.inv
 rw[if_neg (by rw[hz];decide),if_pos h0]
theorem Dx(r:(k:Nat)->T k){i:Nat}{x:T (i+1)}(hz:T.isZ i x.2=false)(h0:T.sgn r i (T.norm r i x)≠0) :
  T.inv r (i+1) x=(T.mul r i x.1 (T.inv r i (T.norm r i x)),T.mul r i (T.neg i x.2) (T.inv r i (T.norm r i x))):=by
 conv=>lhs;unfold T.inv
 rw[if_neg (by rw[hz];decide),if_neg h0]
theorem mul_low(r:(k:Nat)->T k)(i:Nat)(x y w:T i):T.mul r (i+1) (x,y) (w,T.zero i)=(T.mul r i x w,T.mul r i y w):=by
 show(T.add i (T.mul r i x w) (T.mul r i (T.mul r i y (T.zero i)) (r i)),T.add i (T.mul r i x (T.zero i)) (T.mul r i y w))=_;rw[T.mul_zero,T.zero_mul,T.mul_zero,T.add_zero,T.zero_add]
theorem yg{n e:Nat}{l:List Rat}(h:Nm n e l)(he:e<=4398046511103):NR (l.map rt) e:=by
 refine⟨?_,by have:=h.nl.len5 h.five;rw[length_map];omega,by rw[dM];exact h.cb⟩;intro x hx;obtain⟨q,hq,rfl⟩:=List.mem_map.1 hx;exact(h.cb.qs oz hq).ok
theorem JN{ts:LL}{j e:Nat}{a:List Rat}{q:Rat}(h5:j<=5)(ha:Nl j a)(ca:Cb e a)(he:e<4398046511104)(hs:sh j (ae j a)=[q])(hq:q≠0) :
  FP 358 [aO ts,nA a] (nA [1/q]):=by
 have qa:∀q∈a,Qs q:=fun q hq=>ca.qs he hq
 have cs:=ca.sh ha;rw[hs]at cs;have qq:Qs q:=cs.qs he (by simp);have hsh:=kH a h5 ha qa;rw[hs]at hsh;have hdv:=Fu (rt 1) (rt q) (Qb.one.qs oz).ok qq.ok;rw[bZ,bZ,if_neg hq]at hdv;refine ai func358 ?_;refine gc hsh ?_;refine gl ?_;refine gC (fun t13=>?_) (fun t13=>?_) (st2:=(77777,0))
 ·refine gc (km 1 oz) ?_;refine gi rfl ?_;refine gc hdv ?_;refine gD ?_;refine af ?_;rfl
 cases t13
theorem Ob{ts:LL}{m r:Nat}(ht:kz ts m r)(hm:m<=5)(hml:m<=ts.length){j e i:Nat}{a s L:List Rat}(h5:j<=5)(ha:Nl j a)(ca:Cb e a)(he:4*e+3*eB r i+r+1<4398046511104)(hs:sh j (ae j a)=s)(hi:i+1<=m)
  (hsl:s.length=2^(i+1)) (hb:sB r i (4*e+3*eB r i+r+1)<4398046511104) (h0:T.sgn (au ts) i (ae i (gM ts i s))=0)
  (hL:FP 358 [aO ts,nA (dc (s.take (2^i)) (s.take (2^i)))] (nA L)):FP 358 [aO ts,nA a] (nA L):=by
 have qa:∀q∈a,Qs q:=fun q hq=>ca.qs oz hq
 have cs:=ca.sh ha;have hsh:=kH a h5 ha qa;rw[hs]at cs hsh;have hp2:=Nat.two_pow_pos i;have hpi:2^i<=32:=b7 (b:=5) oz;have hps:2^(i+1)=2*2^i:=by rw[Nat.pow_succ];omega
 obtain⟨nn,dn,cn⟩:=wB ht oz hsl cs;have k4:=nC ts m r ht hm hml i _ _ oz nn cn hb;have qs:∀q∈s.take (2^i),Qs q:=fun q hq=>cs.take.qs oz hq
 refine ai func358 ?_;refine gc hsh ?_;refine gl ?_;refine gC (fun t13=>?_) (fun t13=>?_) (st1:=(3,0));exact absurd t13 (by simp only[aa,beq_iff_eq];omega);refine gl ?_;refine gs (jV (.tmp rfl) (.const _) oz (show _=((2^i:Nat):Int) by rw[nT oz,hsl,kC]) rfl) ?_;refine gc (x4 ts m r ht hm hml i s e oz hsl cs oz) ?_;refine gc k4 ?_;refine gC (fun t33=>?_) (fun t33=>?_) (st2:=(77777,0))
 ·refine gs (d9 (.tmp rfl) (.none _) (.some _ (.tmp rfl) oz) T67 rfl T45 rfl oz (by simp only[length_map];omega) rfl) ?_;refine gs (d9 (.tmp rfl) (.none _) (.some _ (.tmp rfl) oz) T67 rfl T45 rfl oz (by simp only[length_map];omega) rfl) ?_;refine gc (by have h9:=nH _ _ qs qs (by simp;omega) (by simp;omega);rw[<- oE]at h9;exact h9) ?_;refine gc hL ?_;refine gD ?_;refine af ?_;rfl
 exact absurd t33 (by rw[h0];decide)
theorem Kz{ts:LL}{m r:Nat}(ht:kz ts m r)(hm:m<=5)(hml:m<=ts.length){j e f i:Nat}{a s L:List Rat}(h5:j<=5)(ha:Nl j a)(ca:Cb e a)(he:4*e+3*eB r i+r+1<4398046511104)(hs:sh j (ae j a)=s)(hi:i+1<=m)
  (hsl:s.length=2^(i+1)) (hb:sB r i (4*e+3*eB r i+r+1)<4398046511104) (h0:T.sgn (au ts) i (ae i (gM ts i s))≠0)
  (hL:FP 358 [aO ts,nA (gM ts i s)] (nA L)) (nL:Nl i L) (cL:Cb f L) (hf:e+f+eB r (i+1)<4398046511104) :
  FP 358 [aO ts,nA a] (nA (pT ts (i+1) (eV (s.take (2^i)) (dK (s.drop (2^i))) (2^i)) L)):=by
 have qa:∀q∈a,Qs q:=fun q hq=>ca.qs oz hq
 have cs:=ca.sh ha;have hsh:=kH a h5 ha qa;rw[hs]at cs hsh;have hp2:=Nat.two_pow_pos i;have hpi:2^i<=32:=b7 (b:=5) oz;have hps:2^(i+1)=2*2^i:=by rw[Nat.pow_succ];omega
 obtain⟨nn,dn,cn⟩:=wB ht oz hsl cs;have k4:=nC ts m r ht hm hml i _ _ oz nn cn hb;have qy:∀q∈s.drop (2^i),Qs q:=fun q hq=>cs.drop.qs oz hq
 have lx:(s.take (2^i)).length=2^i:=jr hsl;have ly:(s.drop (2^i)).length=2^i:=jL hsl;have nj:Nl (i+1) (eV (s.take (2^i)) (dK (s.drop (2^i))) (2^i)):=.inr ⟨i+1,le_refl _,by rw[pz oz (by rw[iL];omega)];omega⟩;have cj:Cb e (eV (s.take (2^i)) (dK (s.drop (2^i))) (2^i)):=BO cs;have hti:=p8 ts m r ht hm hml (i+1) (i+1) _ _ e f hi (le_refl _) nj (nL.mono oz) cj cL hf;refine ai func358 ?_;refine gc hsh ?_;refine gl ?_;refine gC (fun t13=>?_) (fun t13=>?_) (st1:=(3,0));exact absurd t13 (by simp only[aa,beq_iff_eq];omega);refine gl ?_;refine gs (jV (.tmp rfl) (.const _) oz (show _=((2^i:Nat):Int) by rw[nT oz,hsl,kC]) rfl) ?_;refine gc (x4 ts m r ht hm hml i s e oz hsl cs oz) ?_;refine gc k4 ?_;refine gC (fun t33=>?_) (fun t33=>?_) (st1:=(8,0));exact absurd t33 (by simp only[aa,beq_iff_eq];omega);refine gs (d9 (.tmp rfl) (.none _) (.some _ (.tmp rfl) oz) T67 rfl T45 rfl oz (by simp only[length_map];omega) rfl) ?_;refine gs (d9 (.tmp rfl) (.some _ (.tmp rfl) oz) (.none _) T67 rfl T45 rfl (by simp only[length_map];omega) oz rfl) ?_;refine gc (by have h9:=rO _ qy oz;rw[<- qU]at h9;exact h9) ?_;refine gc (by have h9:=xH (s.take (2^i)) (dK (s.drop (2^i))) (2^i) oz (by rw[iL];omega) oz;rw[<- oE]at h9;exact h9) ?_;refine gc hL ?_;refine gc hti ?_;refine gD ?_;refine af ?_;rfl
theorem Rq{ts:LL}{m r:Nat}(ht:kz ts m r)(hp:eH (au ts) m)(hm:m<=5)(hml:m<=ts.length)(j:Nat):∀(a:List Rat)(e:Nat),j<=m->Nl j a->Cb e a->T.sgn (au ts) j (ae j a)≠0 ->
  sB r j e<4398046511104->iB r j e<4398046511104->∃L,FP 358 [aO ts,nA a] (nA L)/\Nl j L/\Cb (iB r j e) L/\ae j L=T.inv (au ts) j (ae j a):=by
 induction j using Nat.strongRecOn
 rename_i j ih;intro a e hj ha ca h0 hs hi;have hse:=qQ r j e;have cs:=ca.sh ha;have hsn:=dZ j (ae j a);have hsd:=a7 j (ae j a);have hle:=zL r j e;obtain⟨s,hsa⟩:∃s,sh j (ae j a)=s:=⟨_,rfl⟩
 rcases xm hsn with h |h |⟨i,hij,h⟩
 ·exfalso;have h1:=List.length_eq_zero_iff.1 h;rw[h1,je]at hsd;rw[<- hsd,T.sgn_zero]at h0;exact h0 rfl
 ·obtain ⟨q, hq⟩:=List.length_eq_one_iff.1 h;rw [hq,ku] at hsd;rw [<- hsd,T.sgn_ofQ] at h0;have q0:q ≠ 0:=by rintro rfl; exact h0 rfl
  refine⟨[1/q],JN oz ha ca oz hq q0,.inr ⟨0,by omega,rfl⟩,(Cb.inv1 (hq▸cs) q0).mono hle,?_⟩;rw[<- hsd,<- ku j q];exact tT (au ts) (i:=0) (s:=[q]) (L:=[1/q]) (by simp) (by simp) rfl oz
 ·have hz:=Ef h hij;rw [hsa] at h cs hsd hsn hz;obtain ⟨nn,dn,cn⟩:=wB ht oz h cs;have hsl:s.length <= 2 ^ (i + 1):=by omega
  have b1:sB r i (4*e+3*eB r i+r+1)<=sB r j e:=wj r e hij;have b2:=qQ r i (4*e+3*eB r i+r+1);have b3:iB r (i+1) e<=iB r j e:=yU r e hij;have b4:iB r (i+1) e=e+iB r i (4*e+3*eB r i+r+1)+eB r (i+1):=rfl;have lx:(s.take (2^i)).length=2^i:=jr h;have ly:(s.drop (2^i)).length=2^i:=jL h;have hpi:2^i<=2^(i+1):=Nat.pow_le_pow_right oz oz;rw[<- hsd]at h0 ⊢
  by_cases hN:T.sgn (au ts) i (ae i (gM ts i s))=0
  ·have hS:=gk (au ts) i (fun k hk=>hp k oz)
   have hx:T.sgn (au ts) i (ae i (dc (s.take (2^i)) (s.take (2^i))))≠0:=by
    rw[kj];rw[vi (au ts) hsl hij]at h0;rw[dn]at hN;exact EV hS (hp i oz) (x:=ae i (s.take (2^i))) (y:=ae i (s.drop (2^i))) h0 hN
   have np:Nl i (dc (s.take (2^i)) (s.take (2^i))):=.inr ⟨i,le_refl _,by rw[fx];omega⟩;have b5:=qr r i (e:=e+e+1) (f:=4*e+3*eB r i+r+1) oz;have b6:=we r i (e:=e+e+1) (f:=4*e+3*eB r i+r+1) oz;obtain⟨L,k1,k2,k3,k4⟩:=ih i oz _ _ oz np (cs.take.plus cs.take) hx oz oz;refine⟨L,Ob ht hm hml oz ha ca oz hsa oz h oz hN k1,k2.mono oz,k3.mono oz,?_⟩;refine tT (au ts) (i:=i+1) hsl (le_trans k2.le hpi) ?_ hij;rw[CY (au ts) hz (by rw[<- dn];exact hN),gN k2.le,k4,kj];rfl
  ·obtain⟨L,k1,k2,k3,k4⟩:=ih i oz _ _ oz nn cn hN oz oz;have nj:Nl (i+1) (eV (s.take (2^i)) (dK (s.drop (2^i))) (2^i)):=.inr ⟨i+1,le_refl _,by rw[pz oz (by rw[iL];omega),Nat.pow_succ];omega⟩;have s1:=fv ts m ht.1 (i+1) (i+1) _ _ oz (le_refl _) nj (k2.mono oz);have c1:=Cb.mul ht (k:=i+1) (show i+1<=m by omega) (le_refl _) nj (k2.mono oz) (BO cs) k3;refine⟨_,Kz ht hm hml oz ha ca oz hsa oz h oz hN k1 k2 k3 oz,s1.1.mono hij,c1.mono oz,?_⟩;refine tT (au ts) (i:=i+1) hsl s1.1.le ?_ hij;rw[Dx (au ts) hz (by rw[<- dn];exact hN),s1.2,zG oz,gN k2.le,mul_low,n8,k4,dn];rfl
theorem Ul{ts:LL}{r e f:Nat}(tw:Tw ts r){a b:List Rat}(ha:Nm ts.length e a)(hb:Nm ts.length f b)(he:e<=4398046511103)(hf:f<=4398046511103):FP 229 [aO ts,.lst 1 [nA a,nA b]] (.v .nilIface):=by
 have hck:=lH (ts.map (List.map rt)) r tw.tr [a.map rt,b.map rt] (tg (yg ha he) (yg hb hf)) (by simp);have hc0:bt (ts.map (List.map rt)) [a.map rt,b.map rt]=0:=rT tw ha hb;rw[hc0,jp]at hck;rw[show[nA a,nA b]=[a.map rt,b.map rt].map nR by simp[ep]];exact hck
theorem xa{ts:LL}{r f j:Nat}(tw:Tw ts r){b:List Rat}(hb:Nm ts.length f b)(hj:j<=ts.length)(nb:Nl j b)(h0:T.sgn (au ts) ts.length (ae ts.length b)≠0)(hf:f<=lm ts.length)(hi:iB r j f<4398046511104) :
  ∃L,FP 358 [aO ts,nA b] (nA L)/\Nl ts.length L/\Cb (iB r j f) L/\ae ts.length L=T.inv (au ts) ts.length (ae ts.length b):=by
 rw[vi (au ts) nb.le hj]at h0;obtain⟨L,k1,k2,k3,k4⟩:=Rq tw.ok tw.pos tw.five (le_refl _) j b f hj nb hb.cb h0 (o5 hj tw.three tw.le hf) hi;exact⟨L,k1,k2.mono hj,k3,tT (au ts) nb.le k2.le k4 hj⟩
theorem xS{ts:LL}{r e f j:Nat}(tw:Tw ts r){a b:List Rat}(ha:Nm ts.length e a)(hb:Nm ts.length f b)(hj:j<=ts.length)(nb:Nl j b)(h0:T.sgn (au ts) ts.length (ae ts.length b)≠0)(hf:f<=lm ts.length)(he:e+iB r j f+eB r ts.length<=200000000000) :
  FP 281 [aO ts,nA a,nA b] (.tup [nA (sh ts.length (T.mul (au ts) ts.length (ae ts.length a) (T.inv (au ts) ts.length (ae ts.length b)))),.v .nilIface]):=by
 have hlm:=k8 ts.length;have h5:=tw.five;have h3:=tw.three;have hfe:=zL r j f;have hsB:=o5 (le_refl ts.length) h3 tw.le hf;have hsg:=nC ts ts.length r tw.ok h5 (le_refl _) ts.length _ _ (le_refl _) hb.nl hb.cb hsB;obtain⟨L,k1,k2,k3,k4⟩:=xa tw hb hj nb h0 hf oz;have hti:=p8 ts ts.length r tw.ok h5 (le_refl _) ts.length ts.length _ _ _ _ (le_refl _) (le_refl _) ha.nl k2 ha.cb k3 oz;have s1:=fv ts ts.length tw.ok.1 ts.length ts.length _ _ (le_refl _) (le_refl _) ha.nl k2;have c1:=Cb.mul tw.ok (k:=ts.length) (le_refl _) (le_refl _) ha.nl k2 ha.cb k3;have hsh:=kH _ h5 s1.1 (fun q hq=>c1.qs oz hq);rw[s1.2,k4]at hsh;refine ai func281 ?_;refine gc (Ul tw ha hb oz oz) ?_;refine gC (fun t15=>?_) (fun t15=>?_) (st1:=(3,0));cases t15;refine gc hsg ?_;refine gC (fun t20=>?_) (fun t20=>?_) (st1:=(5,0));exact absurd t20 (by simp only[aa,beq_iff_eq];omega);refine gc k1 ?_;refine gc hti ?_;refine gc hsh ?_;refine gD ?_;refine bh ?_;rfl
theorem yf{ts:LL}{r e f j:Nat}(tw:Tw ts r){a b:List Rat}(ha:Nm ts.length e a)(hb:Nm ts.length f b)(hj:j<=ts.length)(nb:Nl j b)(h0:T.sgn (au ts) ts.length (ae ts.length b)≠0)(hf:f<=lm ts.length)(he:e+iB r j f+eB r ts.length<=200000000000) :
  Nm ts.length (e+iB r j f+eB r ts.length) (sh ts.length (T.mul (au ts) ts.length (ae ts.length a) (T.inv (au ts) ts.length (ae ts.length b)))):=by
 obtain⟨L,k1,k2,k3,k4⟩:=xa tw hb hj nb h0 hf oz;have s1:=fv ts ts.length tw.ok.1 ts.length ts.length _ _ (le_refl _) (le_refl _) ha.nl k2;have c1:=Cb.mul tw.ok (k:=ts.length) (le_refl _) (le_refl _) ha.nl k2 ha.cb k3;refine⟨tw.five,dZ _ _,?_⟩;rw[<- k4,<- s1.2];exact c1.sh s1.1
def bY(k:Nat):List Rat:=(List.replicate (2^(k+1)) 0).set (2^k) 1
def aG(ts:LL)(a:List Rat):LL:=ts++[bF a (2^ts.length)]
theorem O8(k:Nat):BlkSub (.row 3 ((List.replicate (2^(k+1)) (.agg [.v (.bool false),nS,nS])).set (2^k) (qA 1))) (.row 3 ((bY k).map qA)):=by
 unfold bY;refine .row ?_ ?_
 ·simp
 ·intro i e e' he he';rw[map_set,map_replicate]at he';rw[List.getElem?_set]at he he';split at he
  ·rename_i h1;rw[if_pos h1]at he';split at he
   ·rename_i h2;rw[length_replicate]at h2;rw[length_replicate,if_pos h2]at he';cases he;cases he'
    exact gV.refl (HC 1)
   ·cases he
  ·rename_i h1;rw[if_neg h1]at he';rw[getElem?_replicate]at he he';split at he
   ·rename_i h2;rw[if_pos h2]at he';cases he;cases he'
    exact qZ
   ·cases he
theorem zT(k:Nat):(bY k).length=2^(k+1):=by simp[bY]
theorem Oz{k:Nat}(hk:k<=5):IntKind.i64.wrap ((2:Int)*2^(min (k:Int).toNat IntKind.i64.bits))=((2^(k+1):Nat):Int):=by
 have h:k=0\/k=1\/k=2\/k=3\/k=4\/k=5:=by omega
 rcases h with rfl |rfl |rfl |rfl |rfl |rfl <;> rfl
theorem S6(d:Nat)(hd:Nat.blt d 1000=true)(k:Nat)(hk:k<=5):Con prog 279 [i64 k] [] (.ms d 3 0 (2^(k+1))) [(d,some (.row 3 ((bY k).map qA)))]:=by
 have hp:2^(k+1)<=64:=b7 (b:=6) oz;have hp2:2^k<2^(k+1):=Nat.pow_lt_pow_right oz oz;have hp0:=Nat.two_pow_pos k;refine gF func279 (fun k z h=>by cases h) ?_;refine gs (io (.const _) (.tmp rfl) oz (Oz hk) rfl) ?_;refine gs (gw (.tmp rfl) T67 rfl T45 rfl rfl oz (by dsimp only;omega) rfl) ?_;refine gs (io (.const _) (.tmp rfl) oz (rz oz) rfl) ?_;refine gc (km 1 oz) ?_;refine gs (bP (n:=2^k) (.tmp rfl) (.tmp rfl) T67 rfl T45 rfl oz oz rfl) ?_;refine gs (dk (.tmp rfl) rfl (by rw[getElem?_replicate,if_pos oz]) rfl (.tmp rfl) rfl rfl T45 rfl rfl) ?_;refine gD ?_ (3,0);refine gW (Wk.of (sl:=[(3,some (.ms 6 3 0 (2^(k+1))))]) (hp:=[(6,some (.row 3 ((bY k).map qA)))]) (.cons rfl (Sub.of (congrArg (AV.ms 6 3 0) (toNat_natCast _))) .nil) (.cons rfl (O8 k) .nil)) ?_;refine gR ?_;exact aq.own1 rfl hd rfl
theorem IZ(k:Nat)(hk:k<=5):FP 279 [i64 k] (nA (bY k)):=by
 have h:=Con.freeze (by rw[length_map,zT];omega) (S6 0 rfl k hk);rw[drop_zero,take_of_length_le (by rw[length_map,zT];exact le_refl _)]at h;exact h
theorem Ln{ts:LL}{r e:Nat}(tw:Tw ts r){a:List Rat}(ha:Nm ts.length e a)(he:e<=4398046511103):FP 229 [aO ts,.lst 1 [nA a]] (.v .nilIface):=by
 have hx:=yg ha he;have hck:=lH (ts.map (List.map rt)) r tw.tr [a.map rt] (fun x h=>by rw[List.mem_singleton.1 h];exact⟨hx.ok,hx.len⟩) (by simp);have hc0:bt (ts.map (List.map rt)) [a.map rt]=0:=xd tw ha;rw[hc0,jp]at hck;rw[show[nA a]=[a.map rt].map nR by simp[ep]];exact hck
theorem Rw{ts:LL}{r e:Nat}(tw:Tw ts r){a:List Rat}(ha:Nm ts.length e a)(he:e<=4398046511103):FP 277 [aO ts,nA a] (.tup [nA (bF a (2^ts.length)),.v .nilIface]):=by
 have h5:=tw.five;have hl:=ha.nl.le;have hp:2^ts.length<=32:=b7 (b:=5) oz;have qa:∀q∈a,Qs q:=fun q hq=>ha.cb.qs oz hq
 refine ai func277 ?_;refine gc (Ln tw ha he) ?_;refine gC (fun t12=>?_) (fun t12=>?_) (st1:=(3,0));cases t12;refine gc (x7 a qa oz) ?_;refine gl ?_;refine gs (io (.const _) (.tmp rfl) oz (rz oz) rfl) ?_;refine gc (AA a (2^ts.length) hl oz) ?_;refine gD ?_;refine bh ?_;rfl
theorem GY{ts:LL}{r e:Nat}(tw:Tw ts r){a:List Rat}(ha:Nm ts.length e a)(he:e<=lm ts.length)(hs:0<=T.sgn (au ts) ts.length (ae ts.length a)) :
  FP 161 [aO ts,nA a] (.tup [aO (aG ts a),nA (bY ts.length),.v .nilIface]):=by
 have h3:=tw.three;have h5:=tw.five;have hlm:=k8 ts.length;have hl:=ha.nl.le;have nw:Nl ts.length (bF a (2^ts.length)):=.inr ⟨_,le_refl _,fB hl⟩;have hsg:=nC ts ts.length r tw.ok h5 (le_refl _) ts.length _ _ (le_refl _) nw ha.cb.wide (o5 (le_refl ts.length) h3 tw.le he);rw[rH]at hsg;have hqs:=tw.rb.qs tw.le;refine ai func161 ?_;refine gc (Rw tw ha oz) ?_;refine gC (fun t18=>?_) (fun t18=>?_) (st1:=(3,0));cases t18;refine gc hsg ?_;refine gC (fun t23=>?_) (fun t23=>?_) (st1:=(5,0));exact absurd t23 (by simp only[aa,decide_eq_true_eq];omega);refine gl ?_;refine gC (fun t30=>?_) (fun t30=>?_) (st1:=(7,0));exact absurd t30 (by simp only[aa,decide_eq_true_eq];omega);refine gl ?_;refine gW (Wk.virt 900 1 rfl) ?_;refine aN [2,4,7,9,38,39] [2,4] (fun(i:Nat)=>[(40,some (i64 i))]) (fun i=>[(9,some (.box [.ms 900 1 0 i])),(900,some (.row 1 ((ts.take i).map nA)))]) (fun i=>i<=ts.length) (fun i=>ts.length-i) 0 (zero_le _) ?_ (h2:=(.cons rfl (BlkSub.bL (.cons (.nM _ _ _) .nil) rfl) (.k .nil)));rintro i hi K1 J1;refine gC (fun t41=>?_) (fun t41=>?_)
 ·have hin:=aS t41;obtain⟨d,hd⟩:=ax hin
  have hdl:d.length<=32:=by
   have h9:=tw.len i hin;rw[aC hd]at h9;have:2^i<=32:=b7 (b:=5) oz;omega
  refine gi (aA hd) ?_;refine gc (x7 d (hqs d (mem_of_getElem? hd)) oz) ?_;refine gs (ci (.tmp rfl) rfl (by rw[length_map,length_take];omega) (.tmp rfl) T35 rfl T67 rfl rfl (by simp only[length_cons,length_nil];omega) rfl rfl) ?_;refine gD ?_ (13,0);refine gW (Wk.of (sl:=[(2,some (.ptr 2 0)),(4,some (.ptr 4 0)),(7,some (nA (bF a (2^ts.length)))),(9,some (.ptr 9 0)),(38,some (.lst 1 (ts.map nA))),(39,some (i64 ts.length)),(40,some (i64 i))]) (hp:=[(2,some (.box [.lst 1 (ts.map nA)])),(4,some (.box [nS])),(9,some (.box [.ms 49 1 0 (i+1)])),(49,some (.row 1 ((ts.take (i+1)).map nA)))]) aW (.k (.k (.k (.cons rfl (BlkSub.of (by rw[dG hd,map_append];rfl)) .nil))))) ?_ (13,0)
  refine gW (Wk.rk (k:=49) (d:=900) rfl rfl) ?_;refine ga aF ?_;exact aH J1 (i+1) hin
 have hin:=aZ hi t41;subst hin;refine gs (ci (.tmp rfl) rfl (by rw[length_map,length_take];omega) (.tmp rfl) T35 rfl T67 rfl rfl (by simp only[length_cons,length_nil];omega) rfl rfl) ?_ (15,0);refine gW ((Wk.freeze (k:=56) rfl).trans<|Wk.of (sl:=[(2,some (.ptr 2 0)),(4,some (.ptr 4 0)),(9,some (.ptr 9 0))]) (hp:=[(2,some (.box [.lst 1 (ts.map nA)])),(4,some (.box [nS])),(9,some (.box [.lst 1 ((aG ts a).map nA)]))]) aW (.k (.k (.cons rfl (BlkSub.bL (.cons (Sub.of (by rw[bJ (by simp)];unfold aG;simp)) .nil) rfl) .nil)))) ?_;refine gl ?_;refine gc (IZ ts.length oz) ?_;refine gD ?_;refine vH ?_;rfl
theorem yh{ts:LL}{r:Nat}(tw:Tw ts r):FP 154 [aO ts] (aO ts):=by
 have h3:=tw.three;have hqs:=tw.rb.qs tw.le;refine ai func154 ?_;refine gl ?_;refine gW (Wk.virt 900 1 rfl) ?_;refine aN [2,3,10,11] [2] (fun(i:Nat)=>[(12,some (i64 i))]) (fun i=>[(3,some (.box [.ms 900 1 0 i])),(900,some (.row 1 ((ts.take i).map nA)))]) (fun i=>i<=ts.length) (fun i=>ts.length-i) 0 (zero_le _) ?_ (h2:=(.cons rfl (BlkSub.bL (.cons (.nM _ _ _) .nil) rfl) (.k .nil)));rintro i hi K1 J1;refine gC (fun t13=>?_) (fun t13=>?_) (st2:=(13,0))
 ·have hin:=aS t13;obtain⟨d,hd⟩:=ax hin
  have hdl:d.length<=32:=by
   have h9:=tw.len i hin;rw[aC hd]at h9;have:2^i<=32:=b7 (b:=5) oz;omega
  have hdq:=hqs d (mem_of_getElem? hd);refine gi (aA hd) ?_;refine gl ?_;refine gW (Wk.virt 901 3 rfl) ?_;refine aN [2,3,10,11,12,16,17] [2,3,900] (fun(j:Nat)=>[(6,some (.ms 901 3 0 j)),(18,some (i64 j))]) (fun j=>[(901,some (.row 3 ((d.take j).map qA)))]) (fun j=>j<=d.length) (fun j=>d.length-j) 0 (zero_le _) ?_;rintro j hj K2 J2;refine gC (fun t19=>?_) (fun t19=>?_) (st2:=(11,0))
  ·have hjn:=aS t19;obtain ⟨q,hq⟩:=ax hjn;have hadd:=mQ (rt q) (rt 0) (hdq q (mem_of_getElem? hq)).ok Qs.zero.ok;rw [sP,bZ] at hadd;refine gi (aA hq) ?_;refine gc (Con.sA (.cons (.refl _) (.cons ja .nil)) hadd) ?_;refine gs (ci (.tmp rfl) rfl (by rw [length_map,length_take]; omega) (.tmp rfl) T67 rfl T45 rfl rfl (by simp only [length_cons,length_nil]; omega) rfl rfl) ?_ (10,0);refine gW (Wk.of (sl:=[(2,some (.ptr 2 0)),(3,some (.ptr 3 0)),(10,some (.lst 1 (ts.map nA))),(11,some (i64 ts.length)),(12,some (i64 i)),(6,some (.ms 27 3 0 (j + 1))),(16,some (nA d)),(17,some (i64 d.length)),(18,some (i64 j))]) (hp:=[(2,some (.box [nS])),(3,some (.box [.ms 900 1 0 i])),(900,some (.row 1 ((ts.take i).map nA))),(27,some (.row 3 ((d.take (j + 1)).map qA)))]) aW (.k (.k (.k (.cons rfl (BlkSub.of (by rw [dG hq,map_append]; rfl)) .nil))))) ?_ (10,0)
   refine gW (Wk.rk (k:=27) (d:=901) rfl rfl) ?_;refine ga aF ?_;exact aH J2 (j+1) hjn
  have hjn:=aZ hj t19;subst hjn;refine gW ((Wk.freeze (k:=901) rfl).trans<|Wk.of (sl:=[(2,some (.ptr 2 0)),(3,some (.ptr 3 0)),(10,some (.lst 1 (ts.map nA))),(11,some (i64 ts.length)),(12,some (i64 i)),(6,some (nA d))]) (hp:=[(2,some (.box [nS])),(3,some (.box [.ms 900 1 0 i])),(900,some (.row 1 ((ts.take i).map nA)))]) (.k (.k (.k (.k (.k (.cons rfl (Sub.of (by rw[bJ (by simp)];simp[nA])) .nil)))))) (.k (.k (.k .nil)))) ?_
  refine gs (ci (.tmp rfl) rfl (by rw[length_map,length_take];omega) (.tmp rfl) T35 rfl T67 rfl rfl (by simp only[length_cons,length_nil];omega) rfl rfl) ?_ (12,0);refine gW (Wk.of (sl:=[(2,some (.ptr 2 0)),(3,some (.ptr 3 0)),(10,some (.lst 1 (ts.map nA))),(11,some (i64 ts.length)),(12,some (i64 i))]) (hp:=[(2,some (.box [nS])),(3,some (.box [.ms 33 1 0 (i+1)])),(33,some (.row 1 ((ts.take (i+1)).map nA)))]) aW (.k (.k (.cons rfl (BlkSub.of (by rw[dG hd,map_append];rfl)) .nil)))) ?_ (12,0);refine gW (Wk.rk (k:=33) (d:=900) rfl rfl) ?_;refine ga aF ?_;exact aH J1 (i+1) hin
 have hin:=aZ hi t13;subst hin;refine gW ((Wk.freeze (k:=900) rfl).trans<|Wk.of (sl:=[(2,some (.ptr 2 0)),(3,some (.ptr 3 0))]) (hp:=[(2,some (.box [nS])),(3,some (.box [.lst 1 (ts.map nA)]))]) aW (.k (.cons rfl (BlkSub.bL (.cons (Sub.of (by rw[bJ (by simp)];simp)) .nil) rfl) .nil))) ?_;refine af ?_;rfl
abbrev du(l:Li)(kw driven:List Bool)(r:List AV):List AV:=l.av.cells++(.lst 1 (kw.map bl) :: .lst 1 (driven.map bl)::r)
theorem L0(j:Jt)(b:Int):FP 409 [j.av,i64 b] (i64 (jE j b)):=by
 refine ai func409 ?_;refine gC (fun t6=>?_) (fun t6=>?_)
 ·have h1:b=j.a:=cM t6;refine af ?_;unfold jE;rw[if_pos h1]
 have h1:b≠j.a:=dJ t6;refine gC (fun t12=>?_) (fun t12=>?_)
 ·have h2:b=j.b:=cM t12;refine af ?_;unfold jE;rw[if_neg h1,if_pos h2]
 have h2:b≠j.b:=dJ t12;refine af ?_;unfold jE;rw[if_neg h1,if_neg h2];rfl
theorem OV(j:Jt)(kind body:Int)(f:FuncId)(pre caps:List AV)(p:Int->Bool)(hp:0<=jE j body->FP f (pre++[i64 (jE j body)]++caps) (bl (p (jE j body)))) :
  FP 408 [j.av,.iptr [i64 body],.iptr [i64 kind],.iptr [.cl f pre caps]] (bl (wI kind body p j)):=by
 refine ai func408 ?_;refine gc (L0 j body) ?_;refine bM (fun h=>(hp (Mg h))) ?_;refine af ?_;exact congrArg bl O2
theorem LJ(bs:List Jt)(hl:bs.length<=281474976710656)(f:FuncId)(pre caps:List AV)(ok:Nat->Bool)
  (hf:∀(i:Nat)(b:Jt),bs[i]?=some b->(∀j,j<i->ok j=true)->FP f (pre++[b.av]++caps) (bl (!ok i))) :
  FP 407 [.lst 7 (bs.map Jt.av),.cl f pre caps] (i64 (iX (bU bs.length ok))):=by
 refine ai func407 ?_;refine gl ?_;refine aN [0,1,7] [] (fun(i:Nat)=>[(8,some (i64 i))]) (fun _=>[]) (fun i=>i<=bs.length/\∀j,j<i->ok j=true) (fun i=>bs.length-i) 0 ⟨zero_le _,fun j h=>by omega⟩ ?_;rintro i ⟨hi,hj⟩ K1 J1;refine gC (fun t9=>?_) (fun t9=>?_)
 ·have hin:=aS t9;obtain⟨b,hb⟩:=ax hin;refine gi (aA hb) ?_;refine gc (hf i b hb hj) ?_;refine gC (fun t16=>?_) (fun t16=>?_)
  ·have h2:=cI t16;refine af ?_;rw[fL hin hj h2];rfl
  have h2:=cH t16;refine ga aF ?_;exact aH J1 (i+1) ⟨hin,fun j h9=>by rcases lt_or_ge j i with g |g;exact hj j g;(have:j=i:=by omega);subst this;exact h2⟩
 have hin:=aZ hi t9;subst hin;refine af ?_;rw[eP hj];rfl
theorem Fe(l:Li)(hl:l.ok)(hli:ay l=0)(Fd:List AV)(kind body:Int)(f:FuncId)(pre caps:List AV)(p:Int->Bool)
  (hp:∀o:Int,0<=o->o<l.bo.length->FP f (pre++[i64 o]++caps) (bl (p o))) :
  FP 400 [.iptr (l.av.cells++Fd),i64 kind,i64 body,.cl f pre caps] (i64 (gJ l kind body p)):=by
 refine ai func400 ?_ (1,0);refine gW ((Wk.freezeB (k:=7) rfl rfl).trans<|(Wk.freezeB (k:=5) rfl rfl).trans<|(Wk.freezeB (k:=6) rfl rfl).trans<|Wk.o (sl:=[(0,some (.iptr (l.av.cells++Fd))),(5,some (.iptr [i64 kind])),(6,some (.iptr [i64 body])),(7,some (.iptr [.cl f pre caps]))]) (hp:=[])) ?_;refine gc (Con.sA (.cons (.refl _) (.cons (vn rfl) .nil)) (LJ l.jo hl.lj 408 [] [.iptr [i64 body],.iptr [i64 kind],.iptr [.cl f pre caps]] (fun i=>!wI kind body p (l.jo.getD i default)) (fun i b hb hj=>by rw[Bool.not_not,aC hb];exact OV b kind body f pre caps p (fun h=>hp _ h (Jw hli hb body))))) ?_;refine af ?_;rfl
theorem IL(l:Li)(kw driven:List Bool)(r:List AV)(b:Int)(h0:0<=b)(h1:b<kw.length):FP 405 [.iptr (du l kw driven r),i64 b] (bl (kn kw b)):=by
 obtain⟨v,hv⟩:∃v,kw[b.toNat]?=some v:=ax oz;have ev:kn kw b=v:=aC hv;refine ai func405 ?_;refine gi (gO (n:=b.toNat) oz hv) ?_;refine af ?_;rw[ev]
theorem Hw(l:Li)(hl:l.ok)(hli:ay l=0)(kw driven:List Bool)(hk:kw.length=l.bo.length)(r:List AV)(kind body:Int) :
  FP 398 [.iptr (du l kw driven r),i64 kind,i64 body] (i64 (gJ l kind body (kn kw))):=by
 refine ai func398 ?_;refine gc (Fe l hl hli _ kind body 405 [.iptr (du l kw driven r)] [] (kn kw) (fun o h0 h1=>IL l kw driven r o h0 oz)) ?_;refine af ?_;rfl
theorem MK(o j:Int):FP 401 [i64 o,.iptr [i64 j]] (bl (decide (o=j))):=by
 refine ai func401 ?_;refine af ?_;exact congrArg bl pi
theorem SQ(l:Li)(kw driven:List Bool)(hd:driven.length=kw.length)(r:List AV)(b:Int)(h0:0<=b)(h1:b<kw.length) :
  FP 402 [.iptr (du l kw driven r),i64 b] (bl (!kn kw b&&!kn driven b)):=by
 obtain⟨v,hv⟩:∃v,kw[b.toNat]?=some v:=ax oz;have ev:kn kw b=v:=aC hv;obtain⟨u,hu⟩:∃u,driven[b.toNat]?=some u:=ax oz;have eu:kn driven b=u:=aC hu;refine ai func402 ?_;refine gi (gO (n:=b.toNat) oz hv) ?_;refine lO (fun _=>(gO (n:=b.toNat) oz hu)) ?_;refine af ?_;rw[ev,eu];exact congrArg bl (ig _ _)
theorem S7(l:Li)(hl:l.ok)(hli:ay l=0)(kw driven:List Bool)(hk:kw.length=l.bo.length)(r:List AV) :
  FP 376 [.iptr (du l kw driven r)] (.tup [((driverG l kw).getD default).av,bl (driverG l kw).isSome]):=by
 have hld:=hl.ld;refine ai func376 ?_;refine gl ?_;refine aN [0,2,11,12] [2] (fun(i:Nat)=>[(13,some (i64 i))]) (fun _=>[]) (fun i=>i<=l.dv.length/\∀j,j<i->(!drHit l kw j)=true) (fun i=>l.dv.length-i) 0 ⟨zero_le _,fun j h=>by omega⟩ ?_;rintro i ⟨hi,hj⟩ K1 J1;refine gC (fun t14=>?_) (fun t14=>?_)
 ·have hin:=aS t14;obtain⟨d,hd⟩:=ax hin;have hdd:l.dv.getD i default=d:=aC hd;have hb:=c9 (kP hli hd);obtain⟨v,hv⟩:∃v,kw[d.body.toNat]?=some v:=ax oz;have ev:kn kw d.body=v:=aC hv;have ej:gJ l 0 d.body (kn kw)=jointI l 0 d.body kw:=yE hli (fun o _ _=>rfl);refine gi (aA hd) ?_;refine gi (gO (n:=d.body.toNat) oz hv) ?_;refine gD ?_;refine gC (fun t25=>?_) (fun t25=>?_)
  ·have h2 : drHit l kw i = false := by unfold drHit; rw [hdd, ev, t25]; rfl
   refine ga aF ?_;exact aH J1 (i+1) ⟨hin,fun k h9=>by rcases lt_or_ge k i with g |g;exact hj k g;(have:k=i:=by omega);subst this;rw[h2];rfl⟩
  have hv0:v=false:=t25;refine gc (show ia _ _ _ (i64 (jointI l 0 d.body kw)) by rw[<- ej];exact Hw l hl hli kw driven hk r 0 d.body) ?_;refine gC (fun t31=>?_) (fun t31=>?_)
  ·have h2 : drHit l kw i = true := by unfold drHit; rw [hdd, ev, hv0, decide_eq_true (G6 t31)]; rfl
   have hg:driverG l kw=some ⟨0,[d.body],[jointI l 0 d.body kw],i⟩:=by unfold driverG;rw[fL hin hj (by rw[h2];rfl),<- hdd];rfl
   refine bh ?_;rw[hg];rfl
  have h2:drHit l kw i=false:=by unfold drHit;rw[hdd,decide_eq_false (GH t31),Bool.and_false]
  refine ga aF ?_;exact aH J1 (i+1) ⟨hin,fun k h9=>by rcases lt_or_ge k i with g |g;exact hj k g;(have:k=i:=by omega);subst this;rw[h2];rfl⟩
 have hin:=aZ hi t14;subst hin;have hg:driverG l kw=none:=by unfold driverG;rw[eP hj];rfl
 refine gR ?_;exact aq.sub aq.pure (by rw[hg];exact Sub.tup (.cons oD (.cons (.refl _) .nil)))
theorem yt(l:Li)(hli:ay l=0)(kw:List Bool)(hk:kw.length=l.bo.length)(r:List AV)(b:Nat)(h1:b<l.bo.length) :
  FP 402 [.iptr (du l kw (bK l) r),i64 b] (bl (freeB l kw b)):=by
 have h:=SQ l kw (bK l) (by rw[sa,hk]) r b oz oz;rw[Mi hli oz]at h;exact h
theorem ue(l:Li)(hl:l.ok)(hli:ay l=0)(kw:List Bool)(hk:kw.length=l.bo.length)(r:List AV)(kind body:Int) :
  FP 398 [.iptr (du l kw (bK l) r),i64 kind,i64 body] (i64 (jointI l kind body kw)):=by
 have h:=Hw l hl hli kw (bK l) hk r kind body;rw[yE hli (fun o _ _=>rfl)]at h;exact h
theorem LO(l:Li)(hl:l.ok)(hli:ay l=0)(kw:List Bool)(hk:kw.length=l.bo.length)(r:List AV) :
  FP 378 [.iptr (du l kw (bK l) r)] (.tup [((singleG l kw).getD default).av,bl (singleG l kw).isSome]):=by
 have h8:=(cJ hli).2.2.2.1;refine ai func378 ?_;refine gl ?_;refine aN [0,2,12,13] [2] (fun(i:Nat)=>[(14,some (i64 i))]) (fun _=>[]) (fun i=>i<=l.bo.length/\∀j,j<i->(!sgHit l kw j)=true) (fun i=>l.bo.length-i) 0 ⟨zero_le _,fun j h=>by omega⟩ ?_;rintro i ⟨hi,hj⟩ K1 J1;refine gC (fun t15=>?_) (fun t15=>?_)
 ·have hin:=aS t15;refine gc (yt l hli kw hk r i hin) ?_;refine gC (fun t20=>?_) (fun t20=>?_)
  ·have h2 : sgHit l kw i = false := by unfold sgHit; rw [cI t20]; rfl
   refine ga aF ?_;exact aH J1 (i+1) ⟨hin,fun k h9=>by rcases lt_or_ge k i with g |g;exact hj k g;(have:k=i:=by omega);subst this;rw[h2];rfl⟩
  have hf:=cH t20;refine gc (ue l hl hli kw hk r 0 i) ?_;refine gc (ue l hl hli kw hk r 1 i) ?_;refine gC (fun t32=>?_) (fun t32=>?_)
  ·have h2 : sgHit l kw i = false := by unfold sgHit; rw [By t32, Bool.and_false]
   refine ga aF ?_;exact aH J1 (i+1) ⟨hin,fun k h9=>by rcases lt_or_ge k i with g |g;exact hj k g;(have:k=i:=by omega);subst this;rw[h2];rfl⟩
  obtain⟨p0,s0⟩:=Bl t32;have s1:=(mt (l:=l) (kind:=1) (body:=i) (oth:=kw)).2;have h2:sgHit l kw i=true:=by unfold sgHit;rw[hf,decide_eq_true p0,decide_eq_true s0];rfl
  obtain⟨j,hjt⟩:∃j,l.jo[(jointI l 1 i kw).toNat]?=some j:=ax oz;have hjd:l.jo.getD (jointI l 1 i kw).toNat default=j:=aC hjt;have hg:singleG l kw=some (sgG l kw i):=by unfold singleG;rw[fL hin hj (by rw[h2];rfl),Option.map_some]
  refine gi (gO (n:=(jointI l 1 i kw).toNat) oz hjt) ?_;refine gC (fun t43=>?_) (fun t43=>?_)
  ·have hji:j.a=i:=cM t43;refine bh ?_;rw[hg];unfold sgG;rw[hjd];simp only[Option.getD_some,if_pos hji];rfl
  have hji:j.a≠i:=dJ t43;refine bh ?_;rw[hg];unfold sgG;rw[hjd];simp only[Option.getD_some,if_neg hji];rfl
 have hin:=aZ hi t15;subst hin;have hg:singleG l kw=none:=by unfold singleG;rw[eP hj];rfl
 refine gR ?_;exact aq.sub aq.pure (by rw[hg];exact Sub.tup (.cons oD (.cons (.refl _) .nil)))
theorem Pm(Fd:List AV):FP 399 [.iptr Fd] (.fn 406 [.iptr [.iptr Fd]]):=by
 refine ai func399 ?_ (1,0);refine gW ((Wk.freezeB (k:=1) rfl rfl).trans<|Wk.o (sl:=[(1,some (.iptr [.iptr Fd]))]) (hp:=[])) ?_;refine af ?_;rfl
def v8:Code->Option (Array Tmp×Code×Code)
  | .rangeFunc _ ps x y=>some (ps,x,y)
  | .seq a b=>match v8 a with
    |some r=>some r
    |none=>v8 b
  | .block _ c=>v8 c
  |_=>none
def Do(n:Nat)(o:Option Code):LpD:=match o with
  |some c=>match v8 c with
    |some (ps,x,y)=>⟨ps,x,y,n⟩
    |none=>⟨#[],.skip,.skip,0⟩
  |none=>⟨#[],.skip,.skip,0⟩
def E2(D:LpD)(Fd:List AV)(h:Bool):Blk:=.loop D (match h with |true=>.done |false=>.ready) (match h with |true=>some .ret |false=>none) [(1,some (.iptr [.iptr Fd])),(2,some (.ptr 1001 0)),(3,some (.ptr 1002 0))]
def An(g:Gr):Blk:=.box [i64 g.kind,.lst 1 (g.bo.map i64),.lst 1 (g.jo.map i64),i64 g.driver]
def yy(h:Bool):Blk:=.box [bl h]
def fe(D:LpD)(Fd:List AV)(h:Bool)(g:Gr):Hp:=[(1000,some (E2 D Fd h)),(1001,some (An g)),(1002,some (yy h))]
theorem G8{D:LpD}{Fd:List AV}{h:Bool}{g:Gr}{k:Nat}{z:Blk}(hz:lk (fe D Fd h g) k=some z):1000<=k:=by
 unfold fe at hz;simp only[aJ]at hz;split at hz
 ·omega
 ·split at hz
  ·omega
  ·split at hz
   ·omega
   ·cases hz
theorem Lv{D:LpD}{Fd:List AV}{s:AS}(hs:∀k z,lk (fe D Fd false default) k=some z->s.blk k=some z) :
  ∀k∈(fe D Fd false default++cT (fe D Fd false default)).map (·.1),k∈(fe D Fd false default).map (·.1)/\lk (fe D Fd false default++cT (fe D Fd false default)) k=s.blk k:=by
 intro k hk
 have hk':k=1000\/k=1001\/k=1002:=by
  simp[fe,cT]at hk;omega
 rcases hk' with rfl |rfl |rfl
 ·exact⟨by simp[fe],(hs _ _ rfl).symm⟩
 ·exact⟨by simp[fe],(hs _ _ rfl).symm⟩
 ·exact⟨by simp[fe],(hs _ _ rfl).symm⟩
theorem GZ{l:Li}{kw:List Bool}{i k:Nat}(h:cond (freeB l kw i) (freeB l kw k) false=false):prHit l kw i k=false:=by
 rw[ig]at h;unfold prHit;rw[h];rfl
theorem Mz{H R:Hp}{k:Nat}{z:Blk}(h:lk H k=some z):lk (H++R) k=some z:=by rw[mI,if_pos (mK h)];exact h
theorem Lg{a b:Bool}(h:cond a b false=true):a=true:=by cases a <;> simp_all
theorem tV{a b:Bool}(h:cond a b false=true):b=true:=by cases a <;> simp_all
theorem Jq(D:LpD)(l:Li)(hl:l.ok)(hli:ay l=0)(kw:List Bool)(hk:kw.length=l.bo.length)(r:List AV)
  (hy:∀i k:Nat,i<k->k<l.bo.length->freeB l kw i=true->freeB l kw k=true ->
   v7 prog 1000 [i64 i,i64 k] (fe D (du l kw (bK l) r) false default) (bl (!prHit l kw i k)) (fe D (du l kw (bK l) r) (prHit l kw i k) (cond (prHit l kw i k) (prG l kw i k) default))) :
  Con prog 406 [.yl 1000,.iptr [.iptr (du l kw (bK l) r)]] (fe D (du l kw (bK l) r) false default) (.tup []) (fe D (du l kw (bK l) r) (pairG l kw).isSome ((pairG l kw).getD default)):=by
 have h8:=(cJ hli).2.2.2.1;refine gF func406 (fun k z h=>G8 h) ?_;refine gl ?_;refine aN [0,1,10] [1000,1001,1002] (fun(i:Nat)=>[(11,some (i64 i))]) (fun _=>[]) (fun i=>i<=l.bo.length/\∀j,j<i->(prAt l kw j).isNone=true) (fun i=>l.bo.length-i) 0 ⟨zero_le _,fun j h=>by omega⟩ ?_;rintro i ⟨hi,hj⟩ K1 J1;refine gC (fun t12=>?_) (fun t12=>?_)
 ·have hin:=aS t12;refine ga aF ?_;refine aN [0,1,3,10,11] [] (fun (k:Nat)=>[(4,some (i64 (i + 1 + k:Nat)))]) (fun _=>[(1000,some (E2 D (du l kw (bK l) r) false)),(1001,some (An default)),(1002,some (yy false))]) (fun k=>i + 1 + k <= l.bo.length /\ ∀ j,j < k -> (!prHit l kw i (i + 1 + j)) = true) (fun k=>l.bo.length - k) 0 ⟨by omega,fun j h=>by omega⟩ ?_;rintro k ⟨hkl,hkj⟩ K2 J2;refine gl ?_;refine gC (fun t23=>?_) (fun t23=>?_)
  ·have hkn:i + 1 + k < l.bo.length:=aS t23;refine gc (yt l hli kw hk r i hin) ?_;refine bM (fun _=>(yt l hli kw hk r (i + 1 + k) hkn)) ?_;refine gs (AD rfl rfl rfl (by intro hb; have h0:prHit l kw i (i + 1 + k) = false:=GZ (by simpa using hb); simp only [h0,cond_false]; exact Lv (by intro k z h; exact h)) (fun hb=>Rm (k:=1000) (.opt rfl (by rw [hb]; rfl)) (hy i (i + 1 + k) oz hkn (Lg hb) (tV hb)) (.cons (.opt rfl (by rw [hb]; rfl)) (.cons (.opt rfl (by rw [hb]; rfl)) .nil)) (by intro k z h; exact h) rfl rfl)) ?_;refine gC (fun t40=>?_) (fun t40=>?_)
   ·have h2 : prHit l kw i (i + 1 + k) = true := by have h9 := tV t40; rw [Bool.not_not] at h9; exact h9
    have hat:prAt l kw i=some (i+1+k):=by unfold prAt;rw[fL oz hkj (by rw[h2];rfl),Option.map_some];congr 1;omega
    have hg:pairG l kw=some (prG l kw i (i+1+k)):=by unfold pairG;rw[fL hin hj (by rw[hat];rfl),Option.map_some,hat]
    refine gR ?_;simp only[hg,h2,Option.isSome_some,Option.getD_some,cond_true];exact aq.keep (fun k z h=>Mz h)
   have h2:prHit l kw i (i+1+k)=false:=by cases hc:cond (freeB l kw i) (freeB l kw ((i+1+k:Nat):Int)) false with |false=>exact GZ hc |true=>rw[hc,Bool.not_not]at t40;exact t40
   refine ga aF ?_;exact aH J2 (k+1) ⟨by omega,fun j h9=>by rcases lt_or_ge j k with g |g;exact hkj j g;(have:j=k:=by omega);subst this;rw[h2];rfl⟩ (hw:=Wk.of aW (.cons rfl (BlkSub.of (by rw[h2])) (.cons rfl (BlkSub.of (by rw[h2];rfl)) (.cons rfl (BlkSub.of (by rw[h2])) .nil))))
  have hkn:¬i+1+k<l.bo.length:=fun h=>by have h1:=sr t23;omega
  have hat:prAt l kw i=none:=by unfold prAt;rw[show l.bo.length-(i+1)=k by omega,eP hkj];rfl
  refine ga aF ?_;exact aH J1 (i+1) ⟨hin,fun j h9=>by rcases lt_or_ge j i with g |g;exact hj j g;(have:j=i:=by omega);subst this;rw[hat];rfl⟩
 have hin:=aZ hi t12;have hg:pairG l kw=none:=by unfold pairG;rw[<- hin,eP hj];rfl
 refine gR ?_;simp only[hg,Option.isSome_none,Option.getD_none];exact aq.keep (fun k z h=>h)
variable{P:Program}
mutual
def AV.pm(σ:Nat->Nat):AV->AV
  | .ms k sz off len=>.ms (σ k) sz off len
  | .ptr k off=>.ptr (σ k) off
  | .eptr k sz i off=>.eptr (σ k) sz i off
  | .yl k=>.yl (σ k)
  | .agg cs=>.agg (AV.pms σ cs)
  | .tup cs=>.tup (AV.pms σ cs)
  | .fn f cs=>.fn f (AV.pms σ cs)
  | .opt b x=>.opt b (AV.pm σ x)
  | .v x=>.v x
  | .lst sz l=>.lst sz l
  | .iptr l=>.iptr l
  | .cl f cs ds=>.cl f cs ds
def AV.pms(σ:Nat->Nat):List AV->List AV
  |[]=>[]
  |x::l=>AV.pm σ x::AV.pms σ l
end
theorem AV.pms_eq(σ:Nat->Nat):∀l,AV.pms σ l=l.map (AV.pm σ)
 |[]=>rfl
 |x::l=>by simp only[AV.pms,map_cons,AV.pms_eq σ l]
theorem AV.pm_one(σ:Nat->Nat)(x:AV)(h:x.one=true):(x.pm σ).one=true:=by
 cases x <;> simp only[AV.pm] <;> exact h
mutual
theorem AV.pm_pm{σ:Nat->Nat}(hσ:∀k,σ (σ k)=k):∀x:AV,(x.pm σ).pm σ=x
 | .ms k sz off len=>by simp only[AV.pm,hσ]
 | .ptr k off=>by simp only[AV.pm,hσ]
 | .eptr k sz i off=>by simp only[AV.pm,hσ]
 | .yl k=>by simp only[AV.pm,hσ]
 | .agg cs=>by simp only[AV.pm];rw[AV.pms_pms hσ cs]
 | .tup cs=>by simp only[AV.pm];rw[AV.pms_pms hσ cs]
 | .fn f cs=>by simp only[AV.pm];rw[AV.pms_pms hσ cs]
 | .opt b x=>by simp only[AV.pm];rw[AV.pm_pm hσ x]
 | .v x=>by simp only[AV.pm]
 | .lst sz l=>by simp only[AV.pm]
 | .iptr l=>by simp only[AV.pm]
 | .cl f cs ds=>by simp only[AV.pm]
theorem AV.pms_pms{σ:Nat->Nat}(hσ:∀k,σ (σ k)=k):∀l:List AV,AV.pms σ (AV.pms σ l)=l
 |[]=>by simp only[AV.pms]
 |x::l=>by simp only[AV.pms];rw[AV.pm_pm hσ x,AV.pms_pms hσ l]
end
theorem vV{g:Nat->Array Value->Prop}{S:Nat->Nat->Prop}{σ:Nat->Nat}(hσ:∀k,σ (σ k)=k){m:Nat->Option Nat}{v:Value}{x:AV}(h:Rep g S m v x):Rep g S (fun k=>m (σ k)) v (x.pm σ):=by
 induction h with
 |v x=>exact .v x
 |lst0 a cap sz'=>exact .lst0 a cap sz'
 |lst u hb hc hl hs ho hu hr _=>exact .lst u hb hc hl hs ho hu hr
 |iptr u hb ho hu hr _=>exact .iptr u hb ho hu hr
 |cl a b c d _ _=>exact .cl a b c d
 |ptr hm=>exact .ptr (by simp only[hσ];exact hm)
 |eptr hm=>exact .eptr (by simp only[hσ];exact hm)
 |yl hm=>exact .yl (by simp only[hσ];exact hm)
 |ms0 a k sz off=>exact .ms0 _ _ _ _
 |ms hm hc hS=>exact .ms (by simp only[hσ];exact hm) hc hS
 |opt h h' ih=>exact .opt ih h'
 |agg hn h1 hr ih =>
  simp only[AV.pm,AV.pms_eq];refine .agg (by simpa using hn) ?_ ?_
  ·intro j c hc;simp only[getElem?_map,map_eq_some_iff]at hc;obtain⟨y,hy,rfl⟩:=hc;exact AV.pm_one _ _ (h1 j y hy)
  ·intro j u c hu hc;simp only[getElem?_map,map_eq_some_iff]at hc;obtain⟨y,hy,rfl⟩:=hc;exact ih j u y hu hy
 |tup hn hr ih =>
  simp only[AV.pm,AV.pms_eq];refine .tup (by simpa using hn) ?_;intro j u c hu hc;simp only[getElem?_map,map_eq_some_iff]at hc;obtain⟨y,hy,rfl⟩:=hc;exact ih j u y hu hy
 |fn hn hr ih =>
  simp only[AV.pm,AV.pms_eq];refine .fn (by simpa using hn) ?_;intro j u c hu hc;simp only[getElem?_map,map_eq_some_iff]at hc;obtain⟨y,hy,rfl⟩:=hc;exact ih j u y hu hy
theorem Lj{g:Nat->Array Value->Prop}{S:Nat->Nat->Prop}{σ:Nat->Nat}(hσ:∀k,σ (σ k)=k){m:Nat->Option Nat}{w:World}{o:Option Nat}{x:Blk}(h:BlkRep g S m w o x) :
  BlkRep g S (fun k=>m (σ k)) w o (x.map (AV.pm σ)):=by
 cases x with
 |row sz es=>exact h.mono (fun _ _ h=>h) (fun _ _ h=>h) (fun _ _ hk=>hk.elim) rfl (fun _ _=>rfl)
 |vec vs=>exact h.mono (fun _ _ h=>h) (fun _ _ h=>h) (fun _ _ hk=>hk.elim) rfl (fun _ _=>rfl)
 |loop=>exact h.mapLoop _ (fun _ _ _ _ h=>vV hσ h)
 |box cs =>
  cases h with
  |box hw hn h1 hrr =>
   refine .box hw (by simpa using hn) ?_ ?_
   ·intro j x hx;simp only[getElem?_map,map_eq_some_iff]at hx;obtain⟨y,hy,rfl⟩:=hx;exact AV.pm_one _ _ (h1 j y hy)
   ·intro j u x hu hx;simp only[getElem?_map,map_eq_some_iff]at hx;obtain⟨y,hy,rfl⟩:=hx;exact vV hσ (hrr j u y hu hy)
theorem xC{σ:Nat->Nat}(hσ:∀k,σ (σ k)=k):∀sl:bE,iM (AV.pm σ) (iM (AV.pm σ) sl)=sl
 |[]=>rfl
 |(t,none)::l=>by simp only[iM,xC hσ l]
 |(t,some x)::l=>by simp only[iM,xC hσ l,AV.pm_pm hσ x]
theorem Blk.pm_pm{σ:Nat->Nat}(hσ:∀k,σ (σ k)=k)(x:Blk):(x.map (AV.pm σ)).map (AV.pm σ)=x:=by
 cases x with
 |row sz es=>rfl
 |vec vs=>rfl
 |loop d st pe sl=>simp only[Blk.map,xC hσ]
 |box cs =>
  simp only[Blk.map];rw[<- AV.pms_eq,<- AV.pms_eq,AV.pms_pms hσ]
def iY(σ:Nat->Nat):Hp->Hp
  |[]=>[]
  |(k,x)::l=>(σ k,match x with |some b=>some (b.map (AV.pm σ)) |none=>none)::iY σ l
theorem kS{σ:Nat->Nat}(hσ:∀k,σ (σ k)=k):∀(H:Hp)(k:Nat),lk (iY σ H) k=(lk H (σ k)).map (Blk.map (AV.pm σ))
 |[],k=>rfl
 |(k',x)::l,k=>by
  simp only[iY,aJ,kS hσ l k]
  by_cases h:k=σ k'
  ·rw[if_pos h,if_pos (by rw[h,hσ])];cases x <;> rfl
  ·rw[if_neg h,if_neg (fun e=>h (by rw[<- e,hσ]))]
theorem wQ{σ:Nat->Nat}(hσ:∀k,σ (σ k)=k)(H:Hp)(m:Nat->Option Nat):aU (iY σ H) (fun k=>m (σ k))=aU H m:=by
 funext b;apply propext;constructor
 ·rintro⟨k,z,hz,hb⟩;rw[kS hσ,map_eq_some_iff]at hz;obtain⟨y,hy,rfl⟩:=hz;exact⟨σ k,y,hy,hb⟩
 ·rintro⟨k,y,hy,hb⟩;exact⟨σ k,y.map (AV.pm σ),by rw[kS hσ,hσ,hy];rfl,by simp only[hσ];exact hb⟩
theorem Hj{σ:Nat->Nat}(hσ:∀k,σ (σ k)=k){ext:Nat->Prop}{H:Hp}{m:Nat->Option Nat}{w:World}(h:HeapRel ext H m w):HeapRel ext (iY σ H) (fun k=>m (σ k)) w:=by
 have e:Im ext (iY σ H) (fun k=>m (σ k)) w=Im ext H m w:=by funext b cs;simp only[Im,wQ hσ]
 refine⟨?_,?_,?_⟩
 ·intro k z hz;rw[kS hσ,map_eq_some_iff]at hz;obtain⟨y,hy,rfl⟩:=hz;rw[e];exact Lj hσ (h.blk _ y hy)
 ·intro k k' z z' b hz hz' hb hb';rw[kS hσ,map_eq_some_iff]at hz hz';obtain⟨y,hy,_⟩:=hz;obtain⟨y',hy',_⟩:=hz';have:=h.inj _ _ y y' b hy hy' hb hb';rw[<- hσ k,this,hσ]
 ·intro k z b hz hb;rw[kS hσ,map_eq_some_iff]at hz;obtain⟨y,hy,_⟩:=hz;exact h.sep _ y b hy hb
theorem Con.pm{σ:Nat->Nat}(hσ:∀k,σ (σ k)=k){f:FuncId}{args:List AV}{H H':Hp}{r:AV}(h:Con P f args H r H'):Con P f (args.map (AV.pm σ)) (iY σ H) (r.pm σ) (iY σ H'):=by
 refine⟨h.ok,?_⟩;intro ext m w vs hext hheap hvs hrep
 have hlk:∀k,lk (iY σ (iY σ H)) k=lk H k:=by
  intro k;rw[kS hσ,kS hσ,hσ];cases lk H k with
  |none=>rfl
  |some y=>simp only[Option.map_some,Blk.pm_pm hσ]
 have hh:=HeapRel.congr hlk (Hj hσ hheap);have em:(fun k=>(fun k=>m (σ k)) (σ k))=m:=by funext k;simp only[hσ]
 have eo:aU (iY σ H) m=aU H (fun k=>m (σ k)):=by
  have:=wQ hσ H (fun k=>m (σ k));rw[em]at this;exact this
 have ei:Im ext (iY σ H) m w=Im ext H (fun k=>m (σ k)) w:=by funext b cs;simp only[Im,eo]
 refine Calls.mono (h.ret ext (fun k=>m (σ k)) w vs hext hh (by simpa using hvs) (fun j v x hv hx=>?_)) ?_
 ·have h1 := hrep j v (x.pm σ) hv (by simp[hx]);have h2:=vV hσ h1;rw[AV.pm_pm hσ,ei]at h2;exact h2
 ·rintro e w' ⟨v,m',rfl,hf,hh',hn,hk,hrr⟩;refine⟨v,fun k=>m' (σ k),rfl,eo▸hf,Hj hσ hh',?_,?_,?_⟩
  ·intro k x b hx hb;rw[kS hσ,map_eq_some_iff]at hx;obtain⟨y,hy,_⟩:=hx;rw[eo];exact hn _ y b hy hb
  ·intro k x y hx hy;rw[kS hσ,map_eq_some_iff]at hx hy;obtain⟨x',hx',_⟩:=hx;obtain⟨y',hy',_⟩:=hy;have:=hk _ x' y' hx' hy';simpa only[hσ]using this
  ·have e2 : Im ext (iY σ H') (fun k => m' (σ k)) w' = Im ext H' m' w' := by funext b cs; simp only [Im, wQ hσ]
   rw[e2];exact vV hσ hrr
end Go.Lw
namespace Go.Lw
open Go.Proofs
theorem gZ{P:Program}{N:Nat}{Q:Exit->AS->Prop}{c:Code}{s:AS}(h:Gd P N Q (.code c [] s)):bD P N c Q s:=h
theorem SR{P:Program}{N:Nat}{Q:Exit->AS->Prop}{c:Code}{s s':AS}(hw:Wk s s')(h:jv P N c Q s'):jv P N c Q s:=by
 intro C m a w n hro hN hr;obtain⟨m',hr'⟩:=hw C m a w hr;exact h C m' a w n hro hN hr'
def uP(k:Nat):Nat:=bif Nat.beq k 1000 then 900 else bif Nat.beq k 900 then 1000 else bif Nat.beq k 1001 then 2 else bif Nat.beq k 2 then 1001 else bif Nat.beq k 1002 then 3 else bif Nat.beq k 3 then 1002 else k
theorem nb{a b:Nat}(h:¬a=b):Nat.beq a b=false:=by
 cases h1:Nat.beq a b
 ·rfl
 ·exact absurd (eq_of_beq_eq_true h1) h
theorem Mr(k:Nat):uP (uP k)=k:=by
 by_cases h1:k=1000
 ·subst h1;rfl
 by_cases h2:k=900
 ·subst h2;rfl
 by_cases h3:k=1001
 ·subst h3;rfl
 by_cases h4:k=2
 ·subst h4;rfl
 by_cases h5:k=1002
 ·subst h5;rfl
 by_cases h6:k=3
 ·subst h6;rfl
 have e:uP k=k:=by simp only[uP,nb h1,nb h2,nb h3,nb h4,nb h5,nb h6,cond_false]
 rw[e,e]
theorem IQ(l:Li)(hl:l.ok)(hli:ay l=0)(kw:List Bool)(hk:kw.length=l.bo.length)(r:List AV) :
  FP 377 [.iptr (du l kw (bK l) r)] (.tup [((pairG l kw).getD default).av,bl (pairG l kw).isSome]):=by
 refine EC (rs:=Tryz.f377.results.toList) func377 rfl rfl (by simp) rfl (fun k z h=>by cases h) ?_;refine wY (gZ (go ?_));refine SR (s':=⟨[(1,some (.iptr [.iptr (du l kw (bK l) r)])),(2,some (.ptr 2 0)),(3,some (.ptr 3 0))],[(2,some (An default)),(3,some (yy false))]⟩) ((Wk.freezeB (k:=1) rfl rfl).trans (Wk.of (.k (.k (.k .nil))) (.cons rfl (BlkSub.bL (.cons (.refl _) (.cons (.nil _ _ _) (.cons (.nil _ _ _) (.cons (.refl _) .nil)))) rfl) (.k .nil)))) ?_;refine Pb ?_;refine wY (gZ (go ?_));refine gc (Pm (du l kw (bK l) r)) ?_;refine OB ?_
 have hy:∀i k:Nat,i<k->k<l.bo.length->freeB l kw i=true->freeB l kw k=true ->
   v7 prog 1000 [i64 i,i64 k] (fe (Do Tryz.f377.ntmps Tryz.f377.body) (du l kw (bK l) r) false default) (bl (!prHit l kw i k)) (fe (Do Tryz.f377.ntmps Tryz.f377.body) (du l kw (bK l) r) (prHit l kw i k) (cond (prHit l kw i k) (prG l kw i k) default)):=by
  intro i k hik hkn hfi hfk;refine Kj (k:=1000) (fun k z h=>G8 h) rfl rfl (by intro p hp;have h9:p∈[11,12]:=hp;have h8:p=11\/p=12:=(by simpa using h9);show p<42;rcases h8 with h7 |h7 <;> (rw[h7];decide)) ?_;refine gZ (go ?_);refine⟨rfl,_,_,rfl,?_⟩;have hJ:gJ l 0 i (fun o=>decide (o=(k:Int)))=jointI l 0 i (cg l.bo.length k):=yE hli (fun o h0 h1=>(nK h0 oz oz).symm);refine gZ (go ?_);refine gc (ue l hl hli kw hk r 0 i) ?_;refine gc (ue l hl hli kw hk r 0 k) ?_;refine gD ?_ (5,0);refine gW (Wk.freezeB (k:=5) rfl rfl) ?_;refine gc (r:=i64 (jointI l 0 i (cg l.bo.length k))) (by rw[<- hJ];exact Con.sA (.cons (.refl _) (.cons (.refl _) (.cons (.refl _) (.cons (vn rfl) .nil)))) (Fe l hl hli _ 0 i 401 [] [.iptr [i64 k]] (fun o=>decide (o=(k:Int))) (fun o h0 h1=>MK o k))) ?_;refine gC (fun ht=>?_) (fun ht=>?_)
  ·have h2 : prHit l kw i k = true := by unfold prHit; rw [hfi, hfk]; exact (uw.symm.trans ht)
   rw[h2];exact⟨_,_,rfl,aq.keep (by intro q z h;simp only[fe,aJ]at h;split at h;(subst_vars;exact h);split at h;(subst_vars;exact h);split at h;(subst_vars;exact h);cases h)⟩
  ·have h2 : prHit l kw i k = false := by unfold prHit; rw [hfi, hfk]; exact (uw.symm.trans ht)
   rw[h2];exact⟨_,_,rfl,aq.keep (by intro q z h;simp only[fe,aJ]at h;split at h;(subst_vars;exact h);split at h;(subst_vars;exact h);split at h;(subst_vars;exact h);cases h)⟩
 have hcon:=Con.pm Mr (Jq _ l hl hli kw hk r hy);cases hg:pairG l kw with
 |none =>
  rw[hg]at hcon;refine Gv (k:=900) (sl0:=[(1,some (.iptr [.iptr (du l kw (bK l) r)])),(2,some (.ptr 2 0)),(3,some (.ptr 3 0))]) (.tmp rfl) (by intro t x h;simp only[aJ]at h;split at h;(subst_vars;exact h);split at h;(subst_vars;exact h);split at h;(subst_vars;exact h);cases h) rfl rfl hcon (fun k' z h=>h) rfl rfl rfl rfl (by intro h;cases h) (.inl ⟨rfl,?_⟩);refine wY (gZ (go ?_));refine bD.out (gZ (go ?_));refine gR ?_;exact aq.sub aq.pure (Sub.tup (.cons oD (.cons (.refl _) .nil)))
 |some g =>
  rw[hg]at hcon;refine Gv (k:=900) (sl0:=[(1,some (.iptr [.iptr (du l kw (bK l) r)])),(2,some (.ptr 2 0)),(3,some (.ptr 3 0))]) (.tmp rfl) (by intro t x h;simp only[aJ]at h;split at h;(subst_vars;exact h);split at h;(subst_vars;exact h);split at h;(subst_vars;exact h);cases h) rfl rfl hcon (fun k' z h=>h) rfl rfl rfl rfl (by intro h;cases h) (.inr ⟨rfl,?_⟩);exact(bh (P:=prog) (N:=Tryz.f377.ntmps) (e:=.ret) rfl)
theorem xU{α:Type}{o:Option α}(h:o.isSome=true):∃x,o=some x:=by cases o <;> simp_all
theorem yT{α:Type}{o:Option α}(h:o.isSome=false):o=none:=by cases o <;> simp_all
theorem TJ(l:Li)(hl:l.ok)(hli:ay l=0)(kw:List Bool)(hk:kw.length=l.bo.length)(r:List AV) :
  FP 339 [.iptr (du l kw (bK l) r)] (.tup [((nextG l kw).getD default).av,bl (nextG l kw).isSome]):=by
 refine ai func339 ?_;refine gc (S7 l hl hli kw (bK l) hk r) ?_;refine gC (fun t13=>?_) (fun t13=>?_)
 ·obtain⟨g,hg⟩:=xU t13;refine bh ?_;unfold nextG;rw[hg];rfl
 have hg:=yT t13;refine gc (IQ l hl hli kw hk r) ?_;refine gC (fun t20=>?_) (fun t20=>?_)
 ·obtain⟨g,hg2⟩:=xU t20;refine bh ?_;unfold nextG;rw[hg,hg2];rfl
 have hg2:=yT t20;refine gc (LO l hl hli kw hk r) ?_;refine bh ?_;unfold nextG;rw[hg,hg2];rfl
theorem uH{ts:LL}{r e:Nat}(tw:Tw ts r){a b c d:List Rat}(ha:Nm ts.length e a)(hb:Nm ts.length e b)(hc:Nm ts.length e c)(hd:Nm ts.length e d)(he:2*e<=lm ts.length) :
  Con prog 173 [.ptr 1000 0,aI a b,aI c d] [(1000,some (fJ ts))] (aI (sh ts.length (subT ts (ae ts.length a) (ae ts.length c))) (sh ts.length (subT ts (ae ts.length b) (ae ts.length d)))) [(1000,some (fJ ts))]:=by
 refine gF func173 (fun k z h=>bj h) ?_;refine gt (az (ux tw ha hc oz) (aE rfl rfl rfl) aB rfl rfl) ?_;refine gt (az (ux tw hb hd oz) (aE rfl rfl rfl) aB rfl rfl) ?_;refine gD ?_;refine gR ?_;exact aq.keep (a6 rfl)
theorem yK(R:List AV)(a:List Rat):Con prog 284 [.ptr 1000 0,nA a] [(1000,some (.box [.lst 1 R,.v .nilIface]))] (.tup [nA a,.v .nilIface]) [(1000,some (.box [.lst 1 R,.v .nilIface]))]:=by
 refine gF func284 (fun k z h=>bj h) ?_;refine gC (fun t10=>?_) (fun t10=>?_) (st1:=(2,0));cases t10;refine gR ?_;show aq _ (AV.tup [nA a,.v .nilIface]) _ _;exact aq.keep (a6 rfl)
theorem u4(R:List AV)(a b:List Rat):Con prog 172 [.ptr 1000 0,aI a b] [(1000,some (.box [.lst 1 R,.v .nilIface]))] (.tup [aI a b,.v .nilIface]) [(1000,some (.box [.lst 1 R,.v .nilIface]))]:=by
 refine gF func172 (fun k z h=>bj h) ?_;refine gC (fun t10=>?_) (fun t10=>?_) (st1:=(2,0));cases t10;refine gR ?_;show aq _ (AV.tup [aI a b,.v .nilIface]) _ _;exact aq.keep (a6 rfl)
theorem PY{ts:LL}{r e:Nat}(tw:Tw ts r){a b c d p q:List Rat}(ha:Nm ts.length e a)(hb:Nm ts.length e b)(hc:Nm ts.length e c)(hd:Nm ts.length e d)(hp:Nm ts.length e p)(hq:Nm ts.length e q)
  (he:8*e+4+2*kB r ts.length<=lm ts.length) :
  Con prog 332 [.ptr 1000 0,aI a b,aI c d,aI p q] [(1000,some (fJ ts))] (nA (sh ts.length (rh ts (ae ts.length a) (ae ts.length b) (ae ts.length c) (ae ts.length d) (ae ts.length p) (ae ts.length q)))) [(1000,some (fJ ts))]:=by
 refine gF func332 (fun k z h=>bj h) ?_;refine gt (az (uH tw hc hd ha hb oz) (aE rfl rfl rfl) aB rfl rfl) ?_;refine gt (az (uH tw hp hq ha hb oz) (aE rfl rfl rfl) aB rfl rfl) ?_;refine gt (az (Fm▸Dj tw (hc.sub ha) (hd.sub hb) (hp.sub ha) (hq.sub hb) oz) (aE rfl rfl rfl) aB rfl rfl) ?_;refine gD ?_;refine gR ?_;exact aq.keep (a6 rfl)
theorem HV{ts:LL}{r e:Nat}(tw:Tw ts r){a b c d:List Rat}(ha:Nm ts.length e a)(hb:Nm ts.length e b)(hc:Nm ts.length e c)(hd:Nm ts.length e d)(he:e<=lm ts.length)(f:FuncId)(v:List Rat)
  (hf:Con prog f [.ptr 1000 0,aI a b,aI c d] [(1000,some (fJ ts))] (nA v) [(1000,some (fJ ts))]) :
  FP 174 [aO ts,aI a b,aI c d,.fn f []] (.tup [nA v,.v .nilIface]):=by
 refine ai func174 ?_;refine gc (mO (e:=e) tw [(a,b),(c,d)] (by simp only[mem_cons,not_mem_nil,or_false];rintro p (rfl |rfl);exact⟨ha,hb⟩;exact⟨hc,hd⟩) he (by simp)) ?_;refine gC (fun t18=>?_) (fun t18=>?_) (st1:=(3,0));cases t18;refine gs (wg (.tmp rfl) (show Con prog f ([.ptr 22 0,aI a b,aI c d]++[]) [(22,some (fJ ts))] (nA v) [(22,some (fJ ts))]from Con.rB 22 rfl rfl rfl rfl hf) (aE rfl rfl rfl) aB rfl rfl) ?_;refine gt (az (Con.rB 22 rfl rfl rfl rfl (yK _ _)) (bm rfl rfl) aB rfl rfl) ?_;refine bh ?_;rfl
theorem v5{ts:LL}{r e:Nat}(tw:Tw ts r){a b c d:List Rat}(ha:Nm ts.length e a)(hb:Nm ts.length e b)(hc:Nm ts.length e c)(hd:Nm ts.length e d)(he:2*(e+e+kB r ts.length)<=lm ts.length) :
  FP 80 [aO ts,aI a b,aI c d] (.tup [nA (sh ts.length (oe ts (ae ts.length a) (ae ts.length b) (ae ts.length c) (ae ts.length d))),.v .nilIface]):=by
 refine ai func80 ?_;refine gc (Con.sA (.cons (.refl _) (.cons (.refl _) (.cons (.refl _) (.cons (Sub.fn0 _) .nil)))) (HV tw ha hb hc hd oz _ _ (Cp tw ha hb hc hd he))) ?_;refine bh ?_
 first |rfl |(simp;done)
theorem Jy{ts:LL}{r e:Nat}(tw:Tw ts r){a b c d p q:List Rat}(ha:Nm ts.length e a)(hb:Nm ts.length e b)(hc:Nm ts.length e c)(hd:Nm ts.length e d)(hp:Nm ts.length e p)(hq:Nm ts.length e q)
  (he:8*e+10+2*kB r ts.length<=lm ts.length) :
  FP 311 [aO ts,aI a b,aI c d,aI p q] (.tup [i64 (T.sgn (au ts) ts.length (rh ts (ae ts.length a) (ae ts.length b) (ae ts.length c) (ae ts.length d) (ae ts.length p) (ae ts.length q))),.v .nilIface]):=by
 have ho:=On tw ha hb hc hd hp hq;refine ai func311 ?_;refine gc (mO (e:=e) tw [(a,b),(c,d),(p,q)] (by simp only[mem_cons,not_mem_nil,or_false];rintro x (rfl |rfl |rfl);exact⟨ha,hb⟩;exact⟨hc,hd⟩;exact⟨hp,hq⟩) oz (by simp)) ?_;refine gC (fun t21=>?_) (fun t21=>?_) (st1:=(3,0));cases t21;refine gt (az (Con.rB 25 rfl rfl rfl rfl (PY tw ha hb hc hd hp hq oz)) (.cons (.tmp rfl) (.cons (.tmp rfl) (.cons (.tmp rfl) (.cons (.tmp rfl) .nil)))) aB rfl rfl) ?_;refine gt (az (Con.rB 25 rfl rfl rfl rfl (yK _ _)) (bm rfl rfl) aB rfl rfl) ?_;refine gC (fun t37=>?_) (fun t37=>?_) (st1:=(7,0));cases t37;refine gc (Al tw ho oz) ?_;refine bh ?_;rw[a7]
theorem My{ts:LL}{r e:Nat}(tw:Tw ts r){a b c d:List Rat}(ha:Nm ts.length e a)(hb:Nm ts.length e b)(hc:Nm ts.length e c)(hd:Nm ts.length e d)(he:2*e+1<=lm ts.length) :
  FP 310 [aO ts,aI a b,aI c d] (.tup [bl (decide (T.sgn (au ts) ts.length (subT ts (ae ts.length a) (ae ts.length c))=0/\T.sgn (au ts) ts.length (subT ts (ae ts.length b) (ae ts.length d))=0)),.v .nilIface]):=by
 refine ai func310 ?_;refine gc (mO (e:=e) tw [(a,b),(c,d)] (by simp only[mem_cons,not_mem_nil,or_false];rintro p (rfl |rfl);exact⟨ha,hb⟩;exact⟨hc,hd⟩) oz (by simp)) ?_;refine gC (fun t18=>?_) (fun t18=>?_) (st1:=(3,0));cases t18;refine gc (tZ tw ha hc oz) ?_;refine gC (fun t30=>?_) (fun t30=>?_) (st1:=(6,0));cases t30;refine gc (tZ tw hb hd oz) ?_;refine bh ?_;rw[<- Kh];rfl
theorem BH{ts:LL}{r e:Nat}(tw:Tw ts r){a b c d:List Rat}(ha:Nm ts.length e a)(hb:Nm ts.length e b)(hc:Nm ts.length e c)(hd:Nm ts.length e d)(he:2*(e+e+kB r ts.length)<=lm ts.length) :
  FP 191 [aO ts,nA a,nA b,aI c d] (.tup [aI (sh ts.length (qR ts (ae ts.length a) (ae ts.length b) (ae ts.length c) (ae ts.length d))) (sh ts.length (qw ts (ae ts.length a) (ae ts.length b) (ae ts.length c) (ae ts.length d))),.v .nilIface]):=by
 refine ai func191 ?_;refine gc (vJ (e:=e) tw [a,b,c,d] (by simp only[mem_cons,not_mem_nil,or_false];rintro x (rfl |rfl |rfl |rfl) <;> assumption) oz (by simp)) ?_;refine gC (fun t22=>?_) (fun t22=>?_) (st1:=(3,0));cases t22;refine gt (az (Con.rB 27 rfl rfl rfl rfl (kJ tw ha hc oz)) (aE rfl rfl rfl) aB rfl rfl) ?_;refine gt (az (Con.rB 27 rfl rfl rfl rfl (kJ tw hb hd oz)) (aE rfl rfl rfl) aB rfl rfl) ?_;refine gt (az (Con.rB 27 rfl rfl rfl rfl (y8▸ux tw (ha.mul tw rfl hc) (hb.mul tw rfl hd) oz)) (aE rfl rfl rfl) aB rfl rfl) ?_;refine gt (az (Con.rB 27 rfl rfl rfl rfl (kJ tw hb hc oz)) (aE rfl rfl rfl) aB rfl rfl) ?_;refine gt (az (Con.rB 27 rfl rfl rfl rfl (kJ tw ha hd oz)) (aE rfl rfl rfl) aB rfl rfl) ?_;refine gt (az (Con.rB 27 rfl rfl rfl rfl (zg▸ud tw (hb.mul tw rfl hc) (ha.mul tw rfl hd) oz)) (aE rfl rfl rfl) aB rfl rfl) ?_;refine gt (az (Con.rB 27 rfl rfl rfl rfl (u4 _ _ _)) (bm rfl rfl) aB rfl rfl) ?_;refine gD ?_;refine bh ?_;rfl
theorem L8{ts:LL}{r e:Nat}(tw:Tw ts r){a b c d:List Rat}(ha:Nm ts.length e a)(hb:Nm ts.length e b)(hc:Nm ts.length e c)(hd:Nm ts.length e d)(he:2*e<=lm ts.length) :
  FP 192 [aO ts,aI a b,aI c d] (.tup [aI (sh ts.length (T.add ts.length (ae ts.length a) (ae ts.length c))) (sh ts.length (T.add ts.length (ae ts.length b) (ae ts.length d))),.v .nilIface]):=by
 refine ai func192 ?_;refine gc (mO (e:=e) tw [(a,b),(c,d)] (by simp only[mem_cons,not_mem_nil,or_false];rintro p (rfl |rfl);exact⟨ha,hb⟩;exact⟨hc,hd⟩) oz (by simp)) ?_;refine gC (fun t16=>?_) (fun t16=>?_) (st1:=(3,0));cases t16;refine gt (az (Con.rB 21 rfl rfl rfl rfl (ud tw ha hc oz)) (aE rfl rfl rfl) aB rfl rfl) ?_;refine gt (az (Con.rB 21 rfl rfl rfl rfl (ud tw hb hd oz)) (aE rfl rfl rfl) aB rfl rfl) ?_;refine gt (az (Con.rB 21 rfl rfl rfl rfl (u4 _ _ _)) (bm rfl rfl) aB rfl rfl) ?_;refine gD ?_;refine bh ?_;rfl
theorem uQ{x y:Rat}(hx:Qs x)(hy:Qs y):FP 153 [qA x,qA y] (aI (sh 0 (x:Rat)) (sh 0 (y:Rat))):=by
 refine ai func153 ?_;refine gc (kK hx) ?_;refine gc (kK hy) ?_;refine gD ?_;refine af ?_
 first |rfl |(simp;done)
theorem Cu{ts:LL}{r e:Nat}(tw:Tw ts r){a b c d:List Rat}(ha:Nm ts.length e a)(hb:Nm ts.length e b)(hc:Nm ts.length e c)(hd:Nm ts.length e d){x y:Rat}(hx:Qb e x)(hy:Qb e y)(he:8*e+4*kB r ts.length+4<=lm ts.length) :
  FP 89 [aO ts,.agg [nA a,nA b,nA c,nA d],qA x,qA y] (.tup [aI (sh ts.length (ur ts (ae ts.length a) (ae ts.length b) (ae ts.length c) x y)) (sh ts.length (tI ts (ae ts.length a) (ae ts.length b) (ae ts.length d) x y)),.v .nilIface]):=by
 have hlm:=k8 ts.length;have nx:=Nm.ofQ ha.five (Cb.one hx);have ny:=Nm.ofQ ha.five (Cb.one hy);have nX:=wA tw ha hb nx ny;have nY:=ul tw ha hb nx ny;have z1:e<=2*(e+e+kB r ts.length)+1:=by omega
 have z2:2*(2*(e+e+kB r ts.length)+1)<=lm ts.length:=OT he;have hadd:=L8 tw nX nY (hc.mono z1) (hd.mono z1) z2;refine ai func89 ?_;refine gc (vJ (e:=e) tw [a,b,c,d] (by simp only[mem_cons,not_mem_nil,or_false];rintro x (rfl |rfl |rfl |rfl) <;> assumption) oz (by simp)) ?_;refine gC (fun t25=>?_) (fun t25=>?_) (st1:=(3,0));cases t25;refine gc (uQ (hx.qs oz) (hy.qs oz)) ?_;refine gc (BH tw ha hb nx ny oz) ?_;refine gD ?_;refine gC (fun t41=>?_) (fun t41=>?_) (st1:=(6,0));cases t41;refine gc hadd ?_;refine bh ?_;rw[AH,ym];rfl
theorem Ud:FP 45 [] (.agg [nA [1],nA [],nA [],nA []]):=by
 refine ai func45 ?_;refine gc (yM 1 oz) ?_;refine gc (NF (oA (n:=1) oz)) ?_;refine gR ?_;exact j8 (.agg (.cons (.refl _) (.cons (.nil _ _ _) (.cons (.nil _ _ _) (.cons (.nil _ _ _) .nil)))) rfl)
def u8(n:Nat):AV:=.v (.int .u8 n)
theorem qT{p q:Bool}{a b:Nat}{c:Nat}(hp:p=decide (a<=c))(hq:q=decide (c<=b)):cond p q false=decide (a<=c/\c<=b):=by
 subst hp;subst hq
 by_cases h:a<=c
 ·simp[h]
 ·simp[h]
theorem rq(c k:Nat):aa .geq (c:Int) (k:Int)=decide (k<=c):=by simp only[aa,decide_eq_decide];omega
theorem s7(c k:Nat):aa .leq (c:Int) (k:Int)=decide (c<=k):=by simp only[aa,decide_eq_decide];omega
theorem RT(c:Nat):cond (cond (aa .geq (c:Int) 97) (aa .leq (c:Int) 122) false) true (cond (aa .geq (c:Int) 65) (aa .leq (c:Int) 90) false)=d7 c:=by
 have e1:cond (aa .geq (c:Int) 97) (aa .leq (c:Int) 122) false=decide (97<=c/\c<=122):=qT (rq c 97) (s7 c 122);have e2:cond (aa .geq (c:Int) 65) (aa .leq (c:Int) 90) false=decide (65<=c/\c<=90):=qT (rq c 65) (s7 c 90);rw[e1,e2];unfold d7;cases decide (97<=c/\c<=122) <;> rfl
theorem S5(c:Nat):cond (cond (aa .geq (c:Int) 65) (aa .leq (c:Int) 90) false) true (cond (aa .geq (c:Int) 97) (aa .leq (c:Int) 122) false)=d7 c:=by
 have e1:cond (aa .geq (c:Int) 97) (aa .leq (c:Int) 122) false=decide (97<=c/\c<=122):=qT (rq c 97) (s7 c 122);have e2:cond (aa .geq (c:Int) 65) (aa .leq (c:Int) 90) false=decide (65<=c/\c<=90):=qT (rq c 65) (s7 c 90);rw[e1,e2];unfold d7;cases decide (97<=c/\c<=122) <;> cases decide (65<=c/\c<=90) <;> rfl
theorem Ey(c:Nat):cond (aa .geq (c:Int) 48) (aa .leq (c:Int) 57) false=pS c:=qT (rq c 48) (s7 c 57)
theorem zy(c:Nat):cond (cond (d7 c) true (pS c)) true (aa .eql (c:Int) 95)=jM c:=by
 unfold jM
 have:aa .eql (c:Int) 95=decide (c=95):=by
  rw[Bool.eq_iff_iff];simp only[aa,beq_iff_eq,decide_eq_true_eq];omega
 rw[this];cases d7 c <;> cases pS c <;> rfl
theorem DO(c:Nat):FP 363 [u8 c] (bl (d7 c)):=by
 refine ai func363 ?_;refine af ?_;exact congrArg bl (RT c)
theorem I7(c:Nat):FP 390 [u8 c] (bl (pS c)):=by
 refine ai func390 ?_;refine af ?_;exact congrArg bl (Ey c)
theorem Ki(c:Nat):FP 364 [u8 c] (bl (jM c)):=by
 refine ai func364 ?_;refine gc (DO c) ?_;refine bM (fun _=>(I7 c)) ?_;refine af ?_;exact congrArg bl (zy c)
theorem GT(c:Nat):FP 315 [u8 c] (bl (d7 c)):=by
 refine ai func315 ?_;refine af ?_;exact congrArg bl (S5 c)
theorem PO(c:Nat):FP 317 [u8 c] (bl (pS c)):=by
 refine ai func317 ?_;refine af ?_;exact congrArg bl (Ey c)
theorem Mw(s:ByteArray)(hs:s.size<=281474976710656):FP 300 [.v (.string s)] (i64 (er s)):=by
 refine ai func300 ?_;refine gs (d5 rfl rfl rfl (fun h=>vm (.opt rfl (o1 h)) (.const _) T9 rfl oz (by have:=EI h;omega) rfl)) ?_;refine bM (fun _=>(DO (dC s 0))) ?_;refine gC (fun t11=>?_) (fun t11=>?_)
 ·have h0:er s=0:=Ip t11;refine af ?_;rw[h0];rfl
 obtain⟨h0,h1⟩:=TL t11;refine aN [0] [] (fun(n:Nat)=>[(3,some (i64 n))]) (fun _=>[]) (fun n=>1<=n/\n<=s.size/\eM s 1 (s.size-1)=eM s n (s.size-n)) (fun n=>s.size-n) 1 ⟨le_refl _,h0,rfl⟩ ?_;rintro n ⟨hn1,hn,hw⟩ K1 J1;refine gs (d5 rfl rfl rfl (fun h=>vm (.opt rfl (o1 h)) (.opt rfl (o1 h)) T9 rfl oz (by have:=aS h;omega) rfl)) ?_;refine bM (fun _=>(Ki (dC s n))) ?_;refine gC (fun t21=>?_) (fun t21=>?_)
 ·have h2:n<s.size/\jM (dC s n)=true:=N8 t21;refine ga aF ?_;exact aH J1 (n+1) ⟨by omega,by omega,by rw[hw,show s.size-n=(s.size-(n+1))+1 by omega];simp only[eM,h2.2,if_true]⟩
 have h2:n<s.size->jM (dC s n)=false:=Jv t21
 have h3:er s=n:=by
  unfold er;rw[if_pos ⟨h0,h1⟩,hw];rcases lt_or_ge n s.size with h |h
  ·rw[show s.size-n=(s.size-(n+1))+1 by omega];simp only[eM,h2 h,Bool.false_eq_true,if_false]
  ·rw[show s.size-n=0 by omega];rfl
 refine af ?_;rw[h3]
theorem so(s:ByteArray)(hs:s.size<=281474976710656):FP 204 [.v (.string s)] (bl (gI s)):=by
 refine ai func204 ?_;refine gc (Mw s hs) ?_;refine af ?_;exact congrArg bl (Nv s)
theorem tv(s:ByteArray)(i:Nat):FP 316 [.v (.string s),i64 i] (u8 (dC s i)):=by
 refine ai func316 ?_;refine gC (fun t8=>?_) (fun t8=>?_)
 ·have h0:=aS t8;refine gs (vm (.tmp rfl) (.tmp rfl) T9 rfl oz oz rfl) ?_;refine af ?_;rfl
 have h0:=sr t8;refine af ?_;rw[DV oz];rfl
theorem Mm(s:ByteArray)(hs:s.size<=281474976710656):FP 225 [.v (.string s),i64 0] (i64 ((if d7 (dC s 0)then eM s 0 s.size else 0:Nat))):=by
 refine ai func225 ?_;refine gc (tv s 0) ?_;refine gc (GT (dC s 0)) ?_;refine gC (fun t9=>?_) (fun t9=>?_)
 ·have h0 : d7 (dC s 0) = false := by simpa using t9
  refine af ?_;rw[h0];rfl
 have h0:d7 (dC s 0)=true:=by simpa using t9
 refine aN [0] [] (fun(n:Nat)=>[(1,some (i64 n))]) (fun _=>[]) (fun n=>n<=s.size/\eM s 0 s.size=eM s n (s.size-n)) (fun n=>s.size-n) 0 ⟨zero_le _,rfl⟩ ?_;rintro n ⟨hn,hw⟩ K1 J1;refine gc (tv s n) ?_;refine gc (GT (dC s n)) ?_;refine bM (fun _=>(tv s n)) ?_;refine bM (fun _=>(PO (dC s n))) ?_;refine bM (fun _=>(tv s n)) ?_;refine gC (fun t26=>?_) (fun t26=>?_)
 ·have h1:jM (dC s n)=true:=(zy _).symm.trans t26
  have h2:n<s.size:=by
   rcases lt_or_ge n s.size with h |h
   ·exact h
   ·rw[DV h]at h1;cases h1
  refine ga aF ?_;exact aH J1 (n+1) ⟨by omega,by rw[hw,show s.size-n=(s.size-(n+1))+1 by omega];simp only[eM,h1,if_true]⟩
 have h1:jM (dC s n)=false:=(zy _).symm.trans t26
 have h2:eM s 0 s.size=n:=by
  rw[hw];rcases lt_or_ge n s.size with h |h
  ·rw[show s.size-n=(s.size-(n+1))+1 by omega];simp only[eM,h1,Bool.false_eq_true,if_false]
  ·rw[show s.size-n=0 by omega];rfl
 refine af ?_;rw[h0,h2];rfl
theorem sN(s:ByteArray)(hs:s.size<=281474976710656):FP 111 [.v (.string s)] (bl (gI s)):=by
 refine ai func111 ?_;refine bM (fun _=>(Mm s hs)) ?_;refine af ?_;exact congrArg bl (QS s)
theorem p5(i:Int)(n:Nat):FP 302 [i64 i,i64 n] (bl (bi i n)):=by
 refine ai func302 ?_;refine af ?_;exact congrArg bl (BG i n)
theorem UW(bs:List Bd)(hbs:∀b∈bs,b.ok)(hl:bs.length<=281474976710656):FP 205 [.lst 2 (bs.map Bd.av)] (bg (eD bs.length (dT bs))):=by
 refine ai func205 ?_;refine gl ?_;refine aN [0,11,12] [] (fun(i:Nat)=>[(13,some (i64 i))]) (fun _=>[]) (fun i=>i<=bs.length/\∀j,j<i->dT bs j=0) (fun i=>bs.length-i) 0 ⟨zero_le _,fun j h=>by omega⟩ ?_;rintro i ⟨hi,hj⟩ K1 J1;refine gC (fun t14=>?_) (fun t14=>?_)
 ·have hin:=aS t14;obtain⟨b,hb⟩:=ax hin;have hbd:bs.getD i default=b:=aC hb;have hbo:=hbs b (mem_of_getElem? hb);have hbdup:=mM Bd.name hb;refine gi (aA hb) ?_;refine gc (so b.name hbo.name) ?_;refine gC (fun t21=>?_) (fun t21=>?_)
  ·have h1:=cI t21;have e1:dT bs i = 5:=by unfold dT; rw [hbd,if_pos h1]
   refine af ?_;rw[dH hin hj (by rw[e1];decide),e1];rfl
  have h1:=cH t21;refine gs (d9 (.tmp rfl) (.none _) (.some _ (.tmp rfl) oz) T22 rfl T173 rfl oz (by simp only[length_map];omega) rfl) ?_;refine ge rfl ?_;refine aN [0,3,4,11,12,13] [4] (fun(k:Nat)=>[(25,some (.lst 2 ((bs.take i).map Bd.av))),(26,some (i64 i)),(27,some (i64 k))]) (fun _=>[]) (fun k=>k<=i/\(bs.take k).any (fun y=>dq y.name b.name)=false) (fun k=>i-k) 0 ⟨zero_le _,rfl⟩ ?_ (h1:=(.cons rfl (Sub.of (rC 2 Bd.av bs i)) (.cons rfl (Sub.int (by simp;omega)) (.k .nil))));rintro k ⟨hk,hd⟩ K2 J2;refine gC (fun t28=>?_) (fun t28=>?_)
  ·have hkn:=aS t28;obtain ⟨y,hy'⟩:∃ y,(bs.take i)[k]? = some y:=ax (by simp; omega);have hy:=(ra hy').1;refine gi (aA hy') ?_;refine gC (fun t35=>?_) (fun t35=>?_)
   ·have h2:dq y.name b.name = true:=t35;have e1:dT bs i = 6:=by unfold dT; rw [hbd,if_neg (by rw [h1]; decide),if_pos (by rw [hbdup]; exact kE hy hkn h2)]
    refine af ?_;rw[dH hin hj (by rw[e1];decide),e1];rfl
   have h2:dq y.name b.name=false:=t35;refine ga aF ?_;exact aH J2 (k+1) ⟨hkn,jP hy hd h2⟩
  have hkn:=aZ hk t28;subst hkn;have hnd:¬fO (bs.map Bd.name) k=true:=by rw[hbdup,hd];decide
  refine gl ?_;refine gC (fun t41=>?_) (fun t41=>?_)
  ·have h3:8 < b.pts.length:=iH t41;have e1:dT bs k = 4:=by unfold dT; rw [hbd,if_neg (by rw [h1]; decide),if_neg hnd,if_pos h3]
   refine af ?_;rw[dH hin hj (by rw[e1];decide),e1];rfl
  have h3:b.pts.length<=8:=gj t41;have e1:dT bs k=eD b.pts.length (dL b.pts):=by unfold dT;rw[hbd,if_neg (by rw[h1];decide),if_neg hnd,if_neg oz]
  refine gl ?_;refine aN [0,4,11,12,13,44,45] [4] (fun(p:Nat)=>[(46,some (i64 p))]) (fun _=>[]) (fun p=>p<=b.pts.length/\∀j,j<p->dL b.pts j=0) (fun p=>b.pts.length-p) 0 ⟨zero_le _,fun j h=>by omega⟩ ?_;rintro p ⟨hp,hpj⟩ K3 J3;refine gC (fun t47=>?_) (fun t47=>?_)
  ·have hpn:=aS t47;obtain⟨m,hm⟩:=ax hpn;have hmd:b.pts.getD p default=m:=aC hm;have hmm:=mem_of_getElem? hm;have hmdup:=mM Mk.name hm;have hmo:=hbo.pts m hmm;refine gi (aA hm) ?_;refine gc (so m.name (hbo.names m hmm)) ?_;refine gC (fun t54=>?_) (fun t54=>?_)
   ·have h4:=cI t54;have e2:dL b.pts p = 5:=by unfold dL; rw [hmd,if_pos h4]
    have e3:dT bs k=5:=by rw[e1,dH hpn hpj (by rw[e2];decide),e2]
    refine af ?_;rw[dH hin hj (by rw[e3];decide),e3];rfl
   have h4:=cH t54;refine gs (d9 (.tmp rfl) (.none _) (.some _ (.tmp rfl) oz) T171 rfl T175 rfl oz (by simp only[length_map];omega) rfl) ?_;refine ge rfl ?_;refine aN [0,4,8,11,12,13,44,45,46] [4,8] (fun(q:Nat)=>[(59,some (.lst 7 ((b.pts.take p).map Mk.av))),(60,some (i64 p)),(61,some (i64 q))]) (fun _=>[]) (fun q=>q<=p/\(b.pts.take q).any (fun y=>dq y.name m.name)=false) (fun q=>p-q) 0 ⟨zero_le _,rfl⟩ ?_ (h1:=(.cons rfl (Sub.of (rC 7 Mk.av b.pts p)) (.cons rfl (Sub.int (by simp;omega)) (.k .nil))));rintro q ⟨hq,hqd⟩ K4 J4;refine gC (fun t62=>?_) (fun t62=>?_)
   ·have hqn:=aS t62;obtain ⟨y,hy'⟩:∃ y,(b.pts.take p)[q]? = some y:=ax (by simp; omega);have hy:=(ra hy').1;refine gi (aA hy') ?_;refine gC (fun t69=>?_) (fun t69=>?_)
    ·have h5:dq y.name m.name = true:=t69;have e2:dL b.pts p = 6:=by unfold dL; rw [hmd,if_neg (by rw [h4]; decide),if_pos (by rw [hmdup]; exact kE hy hqn h5)]
     have e3:dT bs k=6:=by rw[e1,dH hpn hpj (by rw[e2];decide),e2]
     refine af ?_;rw[dH hin hj (by rw[e3];decide),e3];rfl
    have h5:dq y.name m.name=false:=t69;refine ga aF ?_;exact aH J4 (q+1) ⟨hqn,jP hy hqd h5⟩
   have hqn:=aZ hq t62;subst hqn;have hmnd:¬fO (b.pts.map Mk.name) q=true:=by rw[hmdup,hqd];decide
   refine gc (nP m.x hmo.x) ?_;refine bM (fun _=>(nP m.y hmo.y)) ?_;refine gC (fun t81=>?_) (fun t81=>?_)
   ·have h6:=mR t81;have e2:dL b.pts q = 3:=by unfold dL; rw [hmd,if_neg (by rw [h4]; decide),if_neg hmnd,if_neg (by rintro ⟨g1,g2⟩; rcases h6 with g | g; (rw [g1] at g; cases g); (rw [g2] at g; cases g))]
    have e3:dT bs k=3:=by rw[e1,dH hpn hpj (by rw[e2];decide),e2]
    refine af ?_;rw[dH hin hj (by rw[e3];decide),e3];rfl
   have h6:=mY t81;have e2:dL b.pts q=0:=by unfold dL;rw[hmd,if_neg (by rw[h4];decide),if_neg hmnd,if_pos h6]
   refine ga aF ?_;exact aH J3 (q+1) ⟨hpn,fun j h9=>by rcases lt_or_ge j q with g |g;exact hpj j g;(have:j=q:=by omega);subst this;exact e2⟩
  have hpn:=aZ hp t47;subst hpn;have e2:dT bs k=0:=e1.trans (mh hpj);refine ga aF ?_;exact aH J1 (k+1) ⟨hin,fun j h9=>by rcases lt_or_ge j k with g |g;exact hj j g;(have:j=k:=by omega);subst this;exact e2⟩
 have hin:=aZ hi t14;subst hin;refine af ?_;rw[mh hj];rfl
theorem PB(l:Li)(hl:l.ok)(j:Jt):FP 301 [l.av,j.av] (bg (dO l j)):=by
 refine ai func301 ?_;refine gC (fun t15=>?_) (fun t15=>?_)
 ·have h1:=GB t15;refine af ?_;unfold dO;rw[if_pos h1];rfl
 have h1:=BV t15;refine gl ?_;refine gc (p5 j.a l.bo.length) ?_;refine cF ?_;refine bM (fun _=>(p5 j.b l.bo.length)) ?_;refine gC (fun t32=>?_) (fun t32=>?_)
 ·have h2:=mR t32;refine af ?_;unfold dO;rw[if_neg h1,if_pos h2];rfl
 have h2:=mY t32;have h2n:¬(bi j.a l.bo.length=false\/bi j.b l.bo.length=false):=by rw[h2.1,h2.2];simp
 obtain⟨A,hA,pA,mA,zA0⟩:=p6 h2.1;obtain⟨B,hB,pB,mB,zB0⟩:=p6 h2.2;refine gC (fun t38=>?_) (fun t38=>?_)
 ·have h3:=cM t38;refine af ?_;unfold dO;rw[if_neg h1,if_neg h2n,if_pos h3];rfl
 have h3:=dJ t38;refine gi (aA hB) ?_;refine gi (aA hA) ?_;refine gl ?_;refine gc (p5 j.point A.pts.length) ?_;refine cF ?_;refine bM (fun _=>(p5 j.on B.pts.length)) ?_;refine gD ?_;refine gC (fun t66=>?_) (fun t66=>?_)
 ·have h4:=mR t66;refine af ?_;unfold dO;rw[if_neg h1,if_neg h2n,if_neg h3,pA,pB,if_pos h4];rfl
 have h4:=mY t66;have h4n:¬(bi j.point A.pts.length=false\/bi j.on B.pts.length=false):=by rw[h4.1,h4.2];simp
 refine gC (fun t70=>?_) (fun t70=>?_)
 ·have h5:=cM t70;refine gC (fun t73=>?_) (fun t73=>?_)
  ·have h6:=lN t73;refine af ?_;unfold dO;rw[if_neg h1,if_neg h2n,if_neg h3,pA,pB,if_neg h4n,if_pos h5,if_pos h6];rfl
  have h6:=oI t73;refine af ?_;unfold dO;rw[if_neg h1,if_neg h2n,if_neg h3,pA,pB,if_neg h4n,if_pos h5,if_neg (by rw[h6];simp)];rfl
 have h5:=dJ t70;refine gl ?_;refine gc (p5 j.to B.pts.length) ?_;refine gC (fun t80=>?_) (fun t80=>?_)
 ·have h6:=cI t80;refine af ?_;unfold dO;rw[if_neg h1,if_neg h2n,if_neg h3,pA,pB,if_neg h4n,if_neg h5,if_pos h6];rfl
 have h6:=cH t80;obtain⟨m1,g1,d1,mm1,z1⟩:=sW h4.2;obtain⟨m2,g2,d2,mm2,z2⟩:=sW h6;have mo1:=(hl.bo B mB).pts m1 mm1;have mo2:=(hl.bo B mB).pts m2 mm2;refine gi (aA g1) ?_;refine gi (aA g2) ?_;refine gD ?_;refine gc (HM m1.x m2.x mo1.x mo2.x) ?_;refine bM (fun _=>(HM m1.y m2.y mo1.y mo2.y)) ?_;refine gC (fun t105=>?_) (fun t105=>?_)
 ·have h7:=CI t105;refine af ?_;unfold dO;rw[if_neg h1,if_neg h2n,if_neg h3,pA,pB,if_neg h4n,if_neg h5,if_neg (by rw[h6];decide),d1,d2,if_pos h7];rfl
 have h7:=DE t105;refine af ?_;unfold dO;rw[if_neg h1,if_neg h2n,if_neg h3,pA,pB,if_neg h4n,if_neg h5,if_neg (by rw[h6];decide),d1,d2,if_neg h7];rfl
theorem JC(l:Li)(hl:l.ok):FP 206 [l.av] (bg (ee l)):=by
 have hlj:=hl.lj;refine ai func206 ?_;refine gl ?_;refine gC (fun t11=>?_) (fun t11=>?_)
 ·have h0:16<l.jo.length:=iH t11;refine af ?_;unfold ee;rw[if_pos h0];rfl
 have h0:l.jo.length<=16:=gj t11;have e0:ee l=eD l.jo.length (fH l):=by unfold ee;rw[if_neg oz]
 refine gl ?_;refine aN [1,14,15] [1] (fun(i:Nat)=>[(16,some (i64 i))]) (fun _=>[]) (fun i=>i<=l.jo.length/\∀j,j<i->fH l j=0) (fun i=>l.jo.length-i) 0 ⟨zero_le _,fun j h=>by omega⟩ ?_;rintro i ⟨hi,hj⟩ K1 J1;refine gC (fun t17=>?_) (fun t17=>?_)
 ·have hin:=aS t17;obtain⟨b,hb⟩:=ax hin;have hbd:l.jo.getD i default=b:=aC hb;have hbdup:=mM Jt.name hb;refine gi (aA hb) ?_;refine gc (so b.name (hl.jnames b (mem_of_getElem? hb))) ?_;refine gC (fun t24=>?_) (fun t24=>?_)
  ·have h1:=cI t24;have e1:fH l i = 5:=by unfold fH; rw [hbd,if_pos h1]
   refine af ?_;rw[e0,dH hin hj (by rw[e1];decide),e1];rfl
  have h1:=cH t24;refine gs (d9 (.tmp rfl) (.none _) (.some _ (.tmp rfl) oz) T23 rfl T75 rfl oz (by simp only[length_map];omega) rfl) ?_;refine ge rfl ?_;refine aN [1,3,4,14,15,16] [1,4] (fun(k:Nat)=>[(29,some (.lst 7 ((l.jo.take i).map Jt.av))),(30,some (i64 i)),(31,some (i64 k))]) (fun _=>[]) (fun k=>k<=i/\(l.jo.take k).any (fun y=>dq y.name b.name)=false) (fun k=>i-k) 0 ⟨zero_le _,rfl⟩ ?_ (h1:=(.cons rfl (Sub.of (rC 7 Jt.av l.jo i)) (.cons rfl (Sub.int (by simp;omega)) (.k .nil))));rintro k ⟨hk,hd⟩ K2 J2;refine gC (fun t32=>?_) (fun t32=>?_)
  ·have hkn:=aS t32;obtain ⟨y,hy'⟩:∃ y,(l.jo.take i)[k]? = some y:=ax (by simp; omega);have hy:=(ra hy').1;refine gi (aA hy') ?_;refine gC (fun t39=>?_) (fun t39=>?_)
   ·have h2:dq y.name b.name = true:=t39;have e1:fH l i = 6:=by unfold fH; rw [hbd,if_neg (by rw [h1]; decide),if_pos (by rw [hbdup]; exact kE hy hkn h2)]
    refine af ?_;rw[e0,dH hin hj (by rw[e1];decide),e1];rfl
   have h2:dq y.name b.name=false:=t39;refine ga aF ?_;exact aH J2 (k+1) ⟨hkn,jP hy hd h2⟩
  have hkn:=aZ hk t32;subst hkn;have hnd:¬fO (l.jo.map Jt.name) k=true:=by rw[hbdup,hd];decide
  have e1:fH l k=dO l b:=by unfold fH;rw[hbd,if_neg (by rw[h1];decide),if_neg hnd]
  refine gc (PB l hl b) ?_;refine gC (fun t46=>?_) (fun t46=>?_)
  ·have h3:=cE t46;refine af ?_;rw[e0,dH hin hj (by rw[e1];exact h3),e1]
  have h3:=cC t46;refine ga aF ?_;exact aH J1 (k+1) ⟨hin,fun j h9=>by rcases lt_or_ge j k with g |g;exact hj j g;(have:j=k:=by omega);subst this;exact e1.trans h3⟩
 have hin:=aZ hi t17;subst hin;refine af ?_;rw[e0,mh hj];rfl
theorem Tx(l:Li)(hl:l.ok):FP 207 [l.av] (bg (fN l)):=by
 have hld:=hl.ld;refine ai func207 ?_;refine gl ?_;refine gC (fun t12=>?_) (fun t12=>?_)
 ·have h0:2<l.dv.length:=iH t12;refine af ?_;unfold fN;rw[if_pos h0];rfl
 have h0:l.dv.length<=2:=gj t12;have e0:fN l=eD l.dv.length (dD l):=by unfold fN;rw[if_neg oz]
 refine gl ?_;refine aN [1,15,16] [1] (fun(i:Nat)=>[(17,some (i64 i))]) (fun _=>[]) (fun i=>i<=l.dv.length/\∀j,j<i->dD l j=0) (fun i=>l.dv.length-i) 0 ⟨zero_le _,fun j h=>by omega⟩ ?_;rintro i ⟨hi,hj⟩ K1 J1;refine gC (fun t18=>?_) (fun t18=>?_)
 ·have hin:=aS t18;obtain⟨b,hb⟩:=ax hin;have hbd:l.dv.getD i default=b:=aC hb;have hbdup:=mM Dr.name hb;refine gi (aA hb) ?_;refine gc (so b.name (hl.dnames b (mem_of_getElem? hb))) ?_;refine gC (fun t25=>?_) (fun t25=>?_)
  ·have h1:=cI t25;have e1:dD l i = 5:=by unfold dD; rw [hbd,if_pos h1]
   refine af ?_;rw[e0,dH hin hj (by rw[e1];decide),e1];rfl
  have h1:=cH t25;refine gs (d9 (.tmp rfl) (.none _) (.some _ (.tmp rfl) oz) T24 rfl T185 rfl oz (by simp only[length_map];omega) rfl) ?_;refine ge rfl ?_;refine aN [1,3,4,15,16,17] [1,4] (fun(k:Nat)=>[(30,some (.lst 2 ((l.dv.take i).map Dr.av))),(31,some (i64 i)),(32,some (i64 k))]) (fun _=>[]) (fun k=>k<=i/\(l.dv.take k).any (fun y=>dq y.name b.name)=false) (fun k=>i-k) 0 ⟨zero_le _,rfl⟩ ?_ (h1:=(.cons rfl (Sub.of (rC 2 Dr.av l.dv i)) (.cons rfl (Sub.int (by simp;omega)) (.k .nil))));rintro k ⟨hk,hd⟩ K2 J2;refine gC (fun t33=>?_) (fun t33=>?_)
  ·have hkn:=aS t33;obtain ⟨y,hy'⟩:∃ y,(l.dv.take i)[k]? = some y:=ax (by simp; omega);have hy:=(ra hy').1;refine gi (aA hy') ?_;refine gC (fun t40=>?_) (fun t40=>?_)
   ·have h2:dq y.name b.name = true:=t40;have e1:dD l i = 6:=by unfold dD; rw [hbd,if_neg (by rw [h1]; decide),if_pos (by rw [hbdup]; exact kE hy hkn h2)]
    refine af ?_;rw[e0,dH hin hj (by rw[e1];decide),e1];rfl
   have h2:dq y.name b.name=false:=t40;refine ga aF ?_;exact aH J2 (k+1) ⟨hkn,jP hy hd h2⟩
  have hkn:=aZ hk t33;subst hkn;have hnd:¬fO (l.dv.map Dr.name) k=true:=by rw[hbdup,hd];decide
  refine gl ?_;refine gc (p5 b.body l.bo.length) ?_;refine gC (fun t49=>?_) (fun t49=>?_)
  ·have h3:=cI t49;have e1:dD l k = 9:=by unfold dD; rw [hbd,if_neg (by rw [h1]; decide),if_neg hnd,if_pos h3]
   refine af ?_;rw[e0,dH hin hj (by rw[e1];decide),e1];rfl
  have h3:=cH t49;refine gC (fun t53=>?_) (fun t53=>?_)
  ·have h4:=cM t53;have e1:dD l k = 7:=by unfold dD; rw [hbd,if_neg (by rw [h1]; decide),if_neg hnd,if_neg (by rw [h3]; decide),if_pos h4]
   refine af ?_;rw[e0,dH hin hj (by rw[e1];decide),e1];rfl
  have h4:=dJ t53;have e1:dD l k=if(l.dv.take k).any (fun d=>decide (d.body=b.body))=true then 6 else 0:=by unfold dD;rw[hbd,if_neg (by rw[h1];decide),if_neg hnd,if_neg (by rw[h3];decide),if_neg h4]
  refine gs (d9 (.tmp rfl) (.none _) (.some _ (.tmp rfl) oz) T24 rfl T185 rfl oz (by simp only[length_map];omega) rfl) ?_;refine ge rfl ?_;refine aN [1,4,15,16,17] [1,4] (fun(q:Nat)=>[(58,some (.lst 2 ((l.dv.take k).map Dr.av))),(59,some (i64 k)),(60,some (i64 q))]) (fun _=>[]) (fun q=>q<=k/\(l.dv.take q).any (fun d=>decide (d.body=b.body))=false) (fun q=>k-q) 0 ⟨zero_le _,rfl⟩ ?_ (h1:=(.cons rfl (Sub.of (rC 2 Dr.av l.dv k)) (.cons rfl (Sub.int (by simp;omega)) (.k .nil))));rintro q ⟨hq,hqd⟩ K3 J3;refine gC (fun t61=>?_) (fun t61=>?_)
  ·have hqn:=aS t61;obtain ⟨y,hy'⟩:∃ y,(l.dv.take k)[q]? = some y:=ax (by simp; omega);have hy:=(ra hy').1;refine gi (aA hy') ?_;refine gC (fun t68=>?_) (fun t68=>?_)
   ·have h5:decide (y.body = b.body) = true:=decide_eq_true (cM t68);have e2:dD l k = 6:=by rw [e1,if_pos (kE hy hqn h5)]
    refine af ?_;rw[e0,dH hin hj (by rw[e2];decide),e2];rfl
   have h5:decide (y.body=b.body)=false:=decide_eq_false (dJ t68);refine ga aF ?_;exact aH J3 (q+1) ⟨hqn,jP hy hqd h5⟩
  have hqn:=aZ hq t61;subst hqn;have e2:dD l q=0:=by rw[e1,hqd];rfl
  refine ga aF ?_;exact aH J1 (q+1) ⟨hin,fun j h9=>by rcases lt_or_ge j q with g |g;exact hj j g;(have:j=q:=by omega);subst this;exact e2⟩
 have hin:=aZ hi t18;subst hin;refine af ?_;rw[e0,mh hj];rfl
theorem A6(l:Li)(hl:l.ok):FP 104 [l.av] (bg (ay l)):=by
 have hlb:=hl.lb;refine ai func104 ?_;refine gc (so l.name hl.name) ?_;refine gC (fun t8=>?_) (fun t8=>?_)
 ·have h1:=cI t8;refine af ?_;unfold ay;rw[if_pos h1];rfl
 have h1:=cH t8;refine gl ?_;refine gC (fun t13=>?_) (fun t13=>?_)
 ·have h2:=BR t13;refine af ?_;unfold ay;rw[if_neg (by rw[h1];decide),if_pos h2];rfl
 have h2:=qX t13;refine gl ?_;refine gC (fun t18=>?_) (fun t18=>?_)
 ·have h3:8<l.bo.length:=iH t18;refine af ?_;unfold ay;rw[if_neg (by rw[h1];decide),if_neg h2,if_pos h3];rfl
 have h3:l.bo.length<=8:=gj t18;have e0:ay l=if gH l≠0 then gH l else if ee l≠0 then ee l else fN l:=by unfold ay;rw[if_neg (by rw[h1];decide),if_neg h2,if_neg oz]
 refine gc (UW l.bo hl.bo hlb) ?_;refine gC (fun t24=>?_) (fun t24=>?_)
 ·have h4:gH l≠0:=cE t24;refine af ?_;rw[e0,if_pos h4];rfl
 have h4:gH l=0:=cC t24;refine gc (JC l hl) ?_;refine gC (fun t29=>?_) (fun t29=>?_)
 ·have h5:=cE t29;refine af ?_;rw[e0,if_neg (by rw[h4];simp),if_pos h5]
 have h5:=cC t29;refine gc (Tx l hl) ?_;refine af ?_;rw[e0,if_neg (by rw[h4];simp),if_neg (by rw[h5];simp)]
theorem wP(d:Nat)(hd:Nat.blt d 1000=true)(l:Li)(hl:l.bo.length<=1000)(b:Nat)(hb:b<l.bo.length) :
  Con prog 135 [l.av,i64 b] [] (.ms d 1 0 l.bo.length) [(d,some (.row 1 ((cg l.bo.length b).map bl)))]:=by
 refine gF func135 (fun k z h=>by cases h) ?_;refine gl ?_;refine gs (gw (.tmp rfl) T219 rfl T4 rfl rfl oz (by dsimp only;omega) rfl) ?_;refine gs (lw (.tmp rfl) (.tmp rfl) T219 rfl T4 rfl oz oz rfl) ?_;refine gs (dk (.tmp rfl) rfl (by rw[getElem?_replicate,if_pos (by simp;omega)]) rfl (.const _) rfl rfl T4 rfl rfl) ?_ (3,0);refine gW (Wk.of (sl:=[(5,some (.ms 9 1 0 l.bo.length))]) (hp:=[(9,some (.row 1 ((cg l.bo.length b).map bl)))]) (.cons rfl (Sub.of (by rw[toNat_natCast])) .nil) (.cons rfl (BlkSub.of (by unfold cg;simp only[map_set,map_replicate,Nat.zero_add,toNat_natCast];rfl)) .nil)) ?_ (3,0);refine gW (Wk.rk (k:=9) (d:=900) rfl rfl) ?_;refine gR ?_;exact aq.own1 rfl hd rfl
theorem MC(l:Li)(hl:l.bo.length<=1000)(b:Nat)(hb:b<l.bo.length):FP 135 [l.av,i64 b] (.lst 1 ((cg l.bo.length b).map bl)):=by
 have h:=Con.freeze (by rw[length_map,gy];omega) (wP 0 rfl l hl b hb);rw[drop_zero,take_of_length_le (by rw[length_map,gy];exact le_refl _)]at h;exact h
theorem Mv(l:Li)(hl:l.ok)(b:Int):FP 333 [l.av,i64 b] (bl (k9 l b)):=by
 have hld:=hl.ld;refine ai func333 ?_;refine gl ?_;refine aN [1,8,9] [] (fun(i:Nat)=>[(10,some (i64 i))]) (fun _=>[]) (fun i=>i<=l.dv.length/\(l.dv.take i).any (fun d=>decide (d.body=b))=false) (fun i=>l.dv.length-i) 0 ⟨zero_le _,rfl⟩ ?_;rintro i ⟨hi,hj⟩ K1 J1;refine gC (fun t11=>?_) (fun t11=>?_)
 ·have hin:=aS t11;obtain⟨d,hd⟩:=ax hin;refine gi (aA hd) ?_;refine gC (fun t17=>?_) (fun t17=>?_)
  ·have h1:d.body=b:=cM t17;refine af ?_;unfold k9;rw[List.any_eq_true.2 ⟨d,mem_of_getElem? hd,decide_eq_true h1⟩];rfl
  have h1:d.body≠b:=dJ t17;refine ga aF ?_;exact aH J1 (i+1) ⟨hin,jP hd hj (decide_eq_false h1)⟩
 have hin:=aZ hi t11;subst hin;rw[take_length]at hj;refine af ?_;unfold k9;rw[hj];rfl
theorem FG(l:Li)(hl:l.ok)(hli:ay l=0)(kind body:Int)(oth:List Bool)(ho:oth.length=l.bo.length):FP 245 [l.av,i64 kind,i64 body,.lst 1 (oth.map bl)] (i64 (jointI l kind body oth)):=by
 have hlj:=hl.lj;refine ai func245 ?_;refine gl ?_;refine aN [1,2,3,12,13] [] (fun(i:Nat)=>[(14,some (i64 i))]) (fun _=>[]) (fun i=>i<=l.jo.length/\∀j,j<i->(!kA kind body oth (l.jo.getD j default))=true) (fun i=>l.jo.length-i) 0 ⟨zero_le _,fun j h=>by omega⟩ ?_;rintro i ⟨hi,hj⟩ K1 J1;refine gC (fun t15=>?_) (fun t15=>?_)
 ·have hin:=aS t15;obtain⟨j,hjt⟩:=ax hin;have hjd:l.jo.getD i default=j:=aC hjt;obtain⟨i1,i2,_⟩:=dx hli hjt;have b1:=c9 i1;have b2:=c9 i2;obtain⟨va,hva⟩:∃v,oth[j.a.toNat]?=some v:=ax oz;obtain⟨vb,hvb⟩:∃v,oth[j.b.toNat]?=some v:=ax oz;have ea:kn oth j.a=va:=aC hva;have eb:kn oth j.b=vb:=aC hvb;refine gi (aA hjt) ?_;refine lO (fun _=>(gO (n:=j.b.toNat) oz hvb)) ?_;refine lO (fun _=>(gO (n:=j.a.toNat) oz hva)) ?_;refine gC (fun t48=>?_) (fun t48=>?_)
  ·have h2 : kA kind body oth j = true := by rw [<- D4 (va := va) (vb := vb) ea eb]; exact t48
   refine af ?_;unfold jointI;rw[fL hin hj (by rw[hjd,h2];rfl)];rfl
  have h2:kA kind body oth j=false:=by rw[<- D4 (va:=va) (vb:=vb) ea eb];exact t48
  refine ga aF ?_;exact aH J1 (i+1) ⟨hin,fun k h9=>by rcases lt_or_ge k i with g |g;exact hj k g;(have:k=i:=by omega);subst this;rw[hjd,h2];rfl⟩
 have hin:=aZ hi t15;subst hin;refine af ?_;unfold jointI;rw[eP hj];rfl
theorem Uz(l:Li)(hl:l.ok)(kw:List Bool)(b:Nat)(hb:b<kw.length):FP 246 [l.av,.lst 1 (kw.map bl),i64 b] (bl (freeB l kw b)):=by
 obtain⟨v,hv⟩:=ax hb;have ev:kn kw (b:Int)=v:=aC (by rw[toNat_natCast];exact hv);refine ai func246 ?_;refine gi (aA hv) ?_;refine bM (fun _=>(Mv l hl b)) ?_;refine af ?_;unfold freeB;rw[ev];exact congrArg bl (ig _ _)
theorem tc{l:Li}{kw:List Bool}(hl:l.ok)(hli:ay l=0)(kind body:Int)(hk:kw.length=l.bo.length) :
  Con prog 245 [l.av,i64 kind,i64 body,.ms 1000 1 0 kw.length] [(1000,some (.row 1 (kw.map bl)))] (i64 (jointI l kind body kw)) [(1000,some (.row 1 (kw.map bl)))]:=by
 refine Con.borrow (args:=[l.av,i64 kind,i64 body,.lst 1 (kw.map bl)]) 1000 1 (kw.map bl) rfl rfl rfl ?_ rfl (fun k' x h=>by cases h) (FG l hl hli kind body kw hk);intro j x' hj
 match j,hj with
 |0,hj=>cases hj;exact .inl rfl
 |1,hj=>cases hj;exact .inl rfl
 |2,hj=>cases hj;exact .inl rfl
 |3,hj=>cases hj;exact .inr ⟨0,kw.length,rfl,by simp,by rw[drop_zero,take_of_length_le (by simp)];rfl⟩
theorem xO{l:Li}{kw:List Bool}(hl:l.ok)(b:Nat)(hb:b<kw.length) :
  Con prog 246 [l.av,.ms 1000 1 0 kw.length,i64 b] [(1000,some (.row 1 (kw.map bl)))] (bl (freeB l kw b)) [(1000,some (.row 1 (kw.map bl)))]:=by
 refine Con.borrow (args:=[l.av,.lst 1 (kw.map bl),i64 b]) 1000 1 (kw.map bl) rfl rfl rfl ?_ rfl (fun k' x h=>by cases h) (Uz l hl kw b hb);intro j x' hj
 match j,hj with
 |0,hj=>cases hj;exact .inl rfl
 |1,hj=>cases hj;exact .inr ⟨0,kw.length,rfl,by simp,by rw[drop_zero,take_of_length_le (by simp)];rfl⟩
 |2,hj=>cases hj;exact .inl rfl
theorem Rg(l:Li)(hl:l.ok)(hli:ay l=0)(kw:List Bool)(hk:kw.length=l.bo.length):Con prog 136 [l.av,.ms 1000 1 0 kw.length] [(1000,some (.row 1 (kw.map bl)))] (.tup [((driverG l kw).getD default).av,bl (driverG l kw).isSome]) [(1000,some (.row 1 (kw.map bl)))]:=by
 have hld:=hl.ld;refine gF func136 (fun k z h=>bj h) ?_;refine gl ?_;refine aN [2,4,10,11] [2,4,1000] (fun(i:Nat)=>[(1,some (.ms 1000 1 0 kw.length)),(12,some (i64 i))]) (fun _=>[]) (fun i=>i<=l.dv.length/\∀j,j<i->(!drHit l kw j)=true) (fun i=>l.dv.length-i) 0 ⟨zero_le _,fun j h=>by omega⟩ ?_;rintro i ⟨hi,hj⟩ K1 J1;refine gC (fun t13=>?_) (fun t13=>?_)
 ·have hin:=aS t13;obtain ⟨d,hd⟩:=ax hin;have hdd:l.dv.getD i default = d:=aC hd;have hb:=c9 (kP hli hd);obtain ⟨v,hv⟩:∃ v,kw[d.body.toNat]? = some v:=ax oz;have ev:kn kw d.body = v:=aC hv;refine gi (aA hd) ?_;refine gs (lw (.tmp rfl) (.tmp rfl) T219 rfl T4 rfl oz oz rfl) ?_;refine gs (dQ (.tmp rfl) rfl (by rw [Nat.zero_add,getElem?_map,hv]; rfl) T4 rfl rfl rfl) ?_;refine gC (fun t21=>?_) (fun t21=>?_)
  ·have h2 : drHit l kw i = false := by unfold drHit; rw [hdd, ev, t21]; rfl
   refine ga aF ?_;exact aH J1 (i+1) ⟨hin,fun k h9=>by rcases lt_or_ge k i with g |g;exact hj k g;(have:k=i:=by omega);subst this;rw[h2];rfl⟩
  have hv0:v=false:=t21;refine gt (lZ (tc hl hli 0 d.body hk) (.cons (.tmp rfl) (.cons (.const _) (bm rfl rfl))) rfl rfl rfl) ?_;refine gC (fun t28=>?_) (fun t28=>?_)
  ·have h2 : drHit l kw i = true := by unfold drHit; rw [hdd, ev, hv0, decide_eq_true (G6 t28)]; rfl
   have hg:driverG l kw=some ⟨0,[d.body],[jointI l 0 d.body kw],i⟩:=by unfold driverG;rw[fL hin hj (by rw[h2];rfl),<- hdd];rfl
   refine gR ?_;rw[hg];exact aq.keep (a6 rfl)
  have h2:drHit l kw i=false:=by unfold drHit;rw[hdd,decide_eq_false (GH t28),Bool.and_false]
  refine ga aF ?_;exact aH J1 (i+1) ⟨hin,fun k h9=>by rcases lt_or_ge k i with g |g;exact hj k g;(have:k=i:=by omega);subst this;rw[h2];rfl⟩
 have hin:=aZ hi t13;subst hin;have hg:driverG l kw=none:=by unfold driverG;rw[eP hj];rfl
 refine gR ?_;exact aq.sub (aq.keep (a6 rfl)) (by rw[hg];exact Sub.tup (.cons oD (.cons (.refl _) .nil)))
theorem TD(l:Li)(hl:l.ok)(hli:ay l=0)(kw:List Bool)(hk:kw.length=l.bo.length):Con prog 137 [l.av,.ms 1000 1 0 kw.length] [(1000,some (.row 1 (kw.map bl)))] (.tup [((pairG l kw).getD default).av,bl (pairG l kw).isSome]) [(1000,some (.row 1 (kw.map bl)))]:=by
 have h8:=(cJ hli).2.2.2.1;refine gF func137 (fun k z h=>bj h) ?_;refine gl ?_;refine aN [2,4,12,13] [2,4,1000] (fun(i:Nat)=>[(1,some (.ms 1000 1 0 kw.length)),(14,some (i64 i))]) (fun _=>[]) (fun i=>i<=l.bo.length/\∀j,j<i->(prAt l kw j).isNone=true) (fun i=>l.bo.length-i) 0 ⟨zero_le _,fun j h=>by omega⟩ ?_;rintro i ⟨hi,hj⟩ K1 J1;refine gC (fun t15=>?_) (fun t15=>?_)
 ·have hin:=aS t15;refine ga aF ?_;refine aN [2,4,6,12,13,14] [2,4,1000] (fun (k:Nat)=>[(1,some (.ms 1000 1 0 kw.length)),(7,some (i64 (i + 1 + k:Nat)))]) (fun _=>[]) (fun k=>i + 1 + k <= l.bo.length /\ ∀ j,j < k -> (!prHit l kw i (i + 1 + j)) = true) (fun k=>l.bo.length - k) 0 ⟨by omega,fun j h=>by omega⟩ ?_;rintro k ⟨hkl,hkj⟩ K2 J2;refine gl ?_;refine gC (fun t23=>?_) (fun t23=>?_)
  ·have hkn:i+1+k<l.bo.length:=aS t23;refine gt (lZ (xO hl i oz) (aE rfl rfl rfl) rfl rfl rfl) ?_;refine gu (d5 rfl rfl rfl (fun h=>lZ (xO hl (i+1+k) oz) (.cons (.opt rfl (o1 h)) (.cons (.opt rfl (o1 h)) (.cons (.opt rfl (o1 h)) .nil))) rfl rfl rfl)) ?_;refine gC (fun t37=>?_) (fun t37=>?_)
   ·have h2 : prHit l kw i (i + 1 + k) = false := by unfold prHit; rw [show (freeB l kw i && freeB l kw ((i + 1 + k : Nat) : Int)) = false from by rcases mR t37 with g | g; (rw [g]; rfl); (rw [g, Bool.and_false])]; rfl
    refine ga aF ?_;exact aH J2 (k+1) ⟨by omega,fun j h9=>by rcases lt_or_ge j k with g |g;exact hkj j g;(have:j=k:=by omega);subst this;rw[h2];rfl⟩
   have hff:=mY t37;refine gt (lZ (tc hl hli 0 i hk) (.cons (.tmp rfl) (.cons (.const _) (bm rfl rfl))) rfl rfl rfl) ?_;refine gt (lZ (tc hl hli 0 (i+1+k:Nat) hk) (.cons (.tmp rfl) (.cons (.const _) (bm rfl rfl))) rfl rfl rfl) ?_;refine gc (MC l oz (i+1+k) hkn) ?_;refine gc (FG l hl hli 0 i (cg l.bo.length ((i+1+k:Nat):Int)) (gy _ _)) ?_;refine gD ?_;refine gC (fun t61=>?_) (fun t61=>?_)
   ·have h2 : prHit l kw i (i + 1 + k) = true := by unfold prHit; rw [hff.1, hff.2]; exact (uw.symm.trans t61)
    have hat:prAt l kw i=some (i+1+k):=by unfold prAt;rw[fL oz hkj (by rw[h2];rfl),Option.map_some];congr 1;omega
    have hg:pairG l kw=some (prG l kw i (i+1+k)):=by unfold pairG;rw[fL hin hj (by rw[hat];rfl),Option.map_some,hat]
    refine gR ?_;rw[hg];exact aq.keep (a6 rfl)
   have h2:prHit l kw i (i+1+k)=false:=by unfold prHit;rw[show(decide (0<=jointI l 0 i kw)&&decide (0<=jointI l 0 ((i+1+k:Nat):Int) kw)&&decide (0<=jointI l 0 i (cg l.bo.length ((i+1+k:Nat):Int))))=false from uw.symm.trans t61,Bool.and_false]
   refine ga aF ?_;exact aH J2 (k+1) ⟨by omega,fun j h9=>by rcases lt_or_ge j k with g |g;exact hkj j g;(have:j=k:=by omega);subst this;rw[h2];rfl⟩
  have hkn:¬i+1+k<l.bo.length:=fun h=>by have h1:=sr t23;omega
  have hat:prAt l kw i=none:=by unfold prAt;rw[show l.bo.length-(i+1)=k by omega,eP hkj];rfl
  refine ga aF ?_;exact aH J1 (i+1) ⟨hin,fun j h9=>by rcases lt_or_ge j i with g |g;exact hj j g;(have:j=i:=by omega);subst this;rw[hat];rfl⟩
 have hin:=aZ hi t15;have hg:pairG l kw=none:=by unfold pairG;rw[<- hin,eP hj];rfl
 refine gR ?_;exact aq.sub (aq.keep (a6 rfl)) (by rw[hg];exact Sub.tup (.cons oD (.cons (.refl _) .nil)))
theorem QN(l:Li)(hl:l.ok)(hli:ay l=0)(kw:List Bool)(hk:kw.length=l.bo.length):Con prog 138 [l.av,.ms 1000 1 0 kw.length] [(1000,some (.row 1 (kw.map bl)))] (.tup [((singleG l kw).getD default).av,bl (singleG l kw).isSome]) [(1000,some (.row 1 (kw.map bl)))]:=by
 have h8:=(cJ hli).2.2.2.1;refine gF func138 (fun k z h=>bj h) ?_;refine gl ?_;refine aN [2,4,11,12] [2,4,1000] (fun(i:Nat)=>[(1,some (.ms 1000 1 0 kw.length)),(13,some (i64 i))]) (fun _=>[]) (fun i=>i<=l.bo.length/\∀j,j<i->(!sgHit l kw j)=true) (fun i=>l.bo.length-i) 0 ⟨zero_le _,fun j h=>by omega⟩ ?_;rintro i ⟨hi,hj⟩ K1 J1;refine gC (fun t14=>?_) (fun t14=>?_)
 ·have hin:=aS t14;refine gt (lZ (xO hl i oz) (aE rfl rfl rfl) rfl rfl rfl) ?_;refine gC (fun t20=>?_) (fun t20=>?_)
  ·have h2 : sgHit l kw i = false := by unfold sgHit; rw [cI t20]; rfl
   refine ga aF ?_;exact aH J1 (i+1) ⟨hin,fun k h9=>by rcases lt_or_ge k i with g |g;exact hj k g;(have:k=i:=by omega);subst this;rw[h2];rfl⟩
  have hf:=cH t20;refine gt (lZ (tc hl hli 0 i hk) (.cons (.tmp rfl) (.cons (.const _) (bm rfl rfl))) rfl rfl rfl) ?_;refine gt (lZ (tc hl hli 1 i hk) (.cons (.tmp rfl) (.cons (.const _) (bm rfl rfl))) rfl rfl rfl) ?_;refine gD ?_;refine gC (fun t34=>?_) (fun t34=>?_)
  ·have h2 : sgHit l kw i = false := by unfold sgHit; rw [By t34, Bool.and_false]
   refine ga aF ?_;exact aH J1 (i+1) ⟨hin,fun k h9=>by rcases lt_or_ge k i with g |g;exact hj k g;(have:k=i:=by omega);subst this;rw[h2];rfl⟩
  obtain⟨p0,s0⟩:=Bl t34;have s1:=(mt (l:=l) (kind:=1) (body:=i) (oth:=kw)).2;have h2:sgHit l kw i=true:=by unfold sgHit;rw[hf,decide_eq_true p0,decide_eq_true s0];rfl
  obtain⟨j,hjt⟩:∃j,l.jo[(jointI l 1 i kw).toNat]?=some j:=ax oz;have hjd:l.jo.getD (jointI l 1 i kw).toNat default=j:=aC hjt;have hg:singleG l kw=some (sgG l kw i):=by unfold singleG;rw[fL hin hj (by rw[h2];rfl),Option.map_some]
  refine gi (gO (n:=(jointI l 1 i kw).toNat) oz hjt) ?_;refine gC (fun t42=>?_) (fun t42=>?_)
  ·have hji:j.a=i:=cM t42;refine gR ?_;rw[hg];unfold sgG;rw[hjd];simp only[Option.getD_some,if_pos hji]
   exact aq.keep (a6 rfl)
  have hji:j.a≠i:=dJ t42;refine gR ?_;rw[hg];unfold sgG;rw[hjd];simp only[Option.getD_some,if_neg hji]
  exact aq.keep (a6 rfl)
 have hin:=aZ hi t14;have hg:singleG l kw=none:=by unfold singleG;rw[<- hin,eP hj];rfl
 refine gR ?_;exact aq.sub (aq.keep (a6 rfl)) (by rw[hg];exact Sub.tup (.cons oD (.cons (.refl _) .nil)))
theorem wT{k:List Bool}{bs:List Int}{q:Nat}{x:Int}(h:bs[q]?=some x):bf k (bs.drop q)=bf (k.set x.toNat true) (bs.drop (q+1)):=by
 have hi:=(List.getElem?_eq_some_iff.1 h).1;rw[List.drop_eq_getElem_cons hi,(List.getElem?_eq_some_iff.1 h).2];rfl
theorem M2{l:Li}{n:Nat}{kw:List Bool}{out:List Gr}{g:Gr}(h:nextG l kw=some g):findFrom l (n+1) kw out=findFrom l n (bf kw g.bo) (out++[g]):=by
 show(match nextG l kw with |none=>_ |some g=>_)=_;rw[h]
theorem TF{l:Li}{n:Nat}{kw:List Bool}{out:List Gr}(h:nextG l kw=none):findFrom l n kw out=(kw,out):=by
 cases n with
 |zero=>rfl
 |succ n=>show(match nextG l kw with |none=>_ |some g=>_)=_;rw[h]
theorem xg{α:Type}{o:Option α}(h:o.isSome=false):o=none:=by cases o <;> simp_all
theorem GS{α:Type}{a b:Option α}(h:a.isSome=true):a=a.or b:=by cases a <;> simp_all
theorem LN{l:Li}{kw:List Bool}(h:(driverG l kw).or (pairG l kw)=none):nextG l kw=singleG l kw:=by
 unfold nextG;rw[<- Option.or_assoc,h];rfl
theorem Qj{l:Li}{kw:List Bool}(h:((driverG l kw).or (pairG l kw)).isSome=true):nextG l kw=(driverG l kw).or (pairG l kw):=by
 unfold nextG;rw[<- Option.or_assoc];exact(GS h).symm
theorem GO(l:Li)(hl:l.ok)(hli:ay l=0):FP 59 [l.av] (.lst 4 ((findG l).map Gr.av)):=by
 have h8:=(cJ hli).2.2.2.1;have h0:=(cJ hli).2.2.2.2;refine ai func59 ?_;refine gt (az (wP 900 rfl l oz 0 oz) (.cons (.tmp rfl) (.cons (.const _) .nil)) aB rfl rfl) ?_;refine gl ?_;refine gW (Wk.virt 901 4 rfl) ?_;refine ii [1,13] [1] (fun(i:Nat)(kw:List Bool)(out:List Gr)=>[(3,some (.ms 900 1 0 kw.length)),(4,some (.ms 901 4 0 out.length)),(14,some (i64 i))]) (fun _ kw out=>[(900,some (.row 1 (kw.map bl))),(901,some (.row 4 (out.map Gr.av)))]) (fun i kw out=>i<=l.bo.length/\kw.length=l.bo.length/\out.length<=i/\findFrom l (l.bo.length-i) kw out=findFrom l l.bo.length (cg l.bo.length 0) []) (fun i _ _=>l.bo.length-i) 0 (cg l.bo.length 0) ([]) ⟨zero_le _,gy _ _,le_refl _,rfl⟩ ?_ (h1:=(.cons rfl (Sub.of (by rw[gy])) (.k (.k .nil))))
 rintro i kw out ⟨hi,hk,hol,hff⟩ K1 J1;refine gC (fun t15=>?_) (fun t15=>?_) (st2:=(18,0))
 ·have hin:=aS t15;have hd1:=Con.rekey1 900 rfl rfl rfl (Rg l hl hli kw hk);have hp1:=Con.rekey1 900 rfl rfl rfl (TD l hl hli kw hk);have hs1:=Con.rekey1 900 rfl rfl rfl (QN l hl hli kw hk);refine gt (az hd1 (bm rfl rfl) aB rfl rfl) ?_;refine xY [1,5,13,14] [1,900,901] (fun(o:Option Gr)=>[(3,some (.ms 900 1 0 kw.length)),(4,some (.ms 901 4 0 out.length)),(6,some (bl o.isSome))]) (fun o=>[(5,some (.box (o.getD default).av.cells))]) (fun o=>o=(driverG l kw).or (pairG l kw)) ?_ ?_
  ·intro K2 J2;refine gC (fun t23=>?_) (fun t23=>?_)
   ·refine gt (az hp1 (bm rfl rfl) aB rfl rfl) ?_;exact pv J2 (pairG l kw) (by rw[xg (cI t23)];rfl)
   exact pv J2 (driverG l kw) (GS (cH t23))
  rintro o ho;refine xY [1,5,13,14] [1,900,901] (fun(og:Option Gr)=>[(3,some (.ms 900 1 0 kw.length)),(4,some (.ms 901 4 0 out.length)),(6,some (bl og.isSome))]) (fun og=>[(5,some (.box (og.getD default).av.cells))]) (fun og=>og=nextG l kw) ?_ ?_
  ·intro K3 J3;refine gC (fun t31=>?_) (fun t31=>?_)
   ·refine gt (az hs1 (bm rfl rfl) aB rfl rfl) ?_;exact pv J3 (singleG l kw) (by have:=xg (cI t31);rw[ho]at this;exact(LN this).symm)
   exact pv J3 o (by rw[ho];exact(Qj (by rw[<- ho];exact cH t31)).symm)
  rintro og hog;refine gC (fun t39=>?_) (fun t39=>?_) (st1:=(18,0))
  ·have hn : nextG l kw = none := by rw [<- hog]; exact xg (cI t39)
   have hfin:findG l=out:=by unfold findG;rw[<- hff,TF hn]
   refine gW ((Wk.freeze (k:=901) rfl).trans<|Wk.of (sl:=[(4,some (.lst 4 ((findG l).map Gr.av)))]) (hp:=[]) (.cons rfl (Sub.of (by rw[hfin,bJ (by rw[length_map])])) .nil) .nil) ?_;refine af ?_;rfl
  obtain⟨g,hg⟩:∃g,og=some g:=Option.isSome_iff_exists.1 (cH t39);have hng:nextG l kw=some g:=by rw[<- hog,hg]
  have hgo:=vo hli hng;subst hg;refine gs (ci (.tmp rfl) rfl (by rw[length_map]) (.tmp rfl) T32 rfl T53 rfl rfl (by dsimp only;simp only[length_cons,length_nil];omega) rfl rfl) ?_ (12,0);refine gW (Wk.of (sl:=[(1,some (.ptr 1 0)),(3,some (.ms 900 1 0 kw.length)),(4,some (.ms 43 4 0 (out++[g]).length)),(5,some (.ptr 5 0)),(13,some (i64 l.bo.length)),(14,some (i64 i))]) (hp:=[(1,some (.box l.av.cells)),(5,some (.box g.av.cells)),(900,some (.row 1 (kw.map bl))),(43,some (.row 4 ((out++[g]).map Gr.av)))]) (.k (.k (.cons rfl (Sub.of (by rw[length_append];rfl)) (.k (.k (.k .nil)))))) (.k (.k (.k (.cons rfl (BlkSub.of (by rw[map_append];rfl)) .nil))))) ?_ (12,0)
  refine gW (Wk.rk (k:=43) (d:=901) rfl rfl) ?_;refine gl ?_;refine f0 [1,13,14,45,46] [1,901] (fun(q:Nat)(kk:List Bool)=>[(3,some (.ms 900 1 0 kk.length)),(4,some (.ms 901 4 0 (out++[g]).length)),(47,some (i64 q))]) (fun _ kk=>[(900,some (.row 1 (kk.map bl)))]) (fun q kk=>q<=g.bo.length/\kk.length=l.bo.length/\bf kk (g.bo.drop q)=bf kw g.bo) (fun q _=>g.bo.length-q) 0 kw ⟨zero_le _,hk,rfl⟩ ?_;rintro q kk ⟨hq,hkk,hmk⟩ K4 J4;refine gC (fun t48=>?_) (fun t48=>?_)
  ·have hqn:=aS t48;obtain⟨x,hx⟩:=ax hqn;have hxb:=hgo.b x (mem_of_getElem? hx);obtain⟨v,hv⟩:∃v,kk[x.toNat]?=some v:=ax oz;refine gi (aA hx) ?_;refine gs (lw (.tmp rfl) (.tmp rfl) T219 rfl T4 rfl oz oz rfl) ?_;refine gs (dk (.tmp rfl) rfl (by rw[Nat.zero_add,getElem?_map,hv];rfl) rfl (.const _) rfl rfl T4 rfl rfl) ?_;refine ga (C0 (by have:=hgo.lb;unfold aR;omega)) ?_;exact fC J4 (q+1) (kk.set x.toNat true) ⟨hqn,by rw[length_set];exact hkk,by rw[<- wT hx];exact hmk⟩ (hw:=Wk.of (.cons rfl (Sub.of (by rw[length_set])) (.k (.k (.k (.k (.k (.k (.k .nil)))))))) (.cons rfl (BlkSub.of (by rw[map_set,Nat.zero_add];rfl)) (.k (.k .nil))))
  have hqn:=aZ hq t48;have hmk2:kk=bf kw g.bo:=by rw[hqn,List.drop_length]at hmk;exact hmk
  refine ga aF ?_;exact f8 J1 (i+1) kk (out++[g]) ⟨hin,hkk,by rw[length_append];simp only[length_cons,length_nil];omega,by rw[hmk2,<- M2 hng,<- hff];congr 1;omega⟩
 have hin:=aZ hi t15;have hfin:findG l=out:=by unfold findG;rw[<- hff,show l.bo.length-i=0 by omega];rfl
 refine gW ((Wk.freeze (k:=901) rfl).trans<|Wk.of (sl:=[(4,some (.lst 4 ((findG l).map Gr.av)))]) (hp:=[]) (.cons rfl (Sub.of (by rw[hfin,bJ (by rw[length_map])])) .nil) .nil) ?_;refine af ?_;rfl
theorem Cg{α:Type}{f:List Bool->α->List Bool}{k:List Bool}{l:List α}{i:Nat}{x:α}(h:l[i]?=some x):(l.drop i).foldl f k=(l.drop (i+1)).foldl f (f k x):=by
 have hi:=(List.getElem?_eq_some_iff.1 h).1;rw[List.drop_eq_getElem_cons hi,(List.getElem?_eq_some_iff.1 h).2];rfl
def f7(k:List Bool)(i:Nat):List Int:=((List.range i).filter (fun j=>!k.getD j false)).map (fun j:Nat=>((j:Nat):Int))
theorem GM{k:List Bool}{i:Nat}(h:k.getD i false=false):f7 k (i+1)=f7 k i++[(i:Int)]:=by
 unfold f7;rw[List.range_succ,List.filter_append,map_append,List.filter_cons,h];rfl
theorem Br{k:List Bool}{i:Nat}(h:k.getD i false=true):f7 k (i+1)=f7 k i:=by
 unfold f7;rw[List.range_succ,List.filter_append,map_append,List.filter_cons,h];simp
theorem uz(k:List Bool)(i:Nat):(f7 k i).length<=i:=by
 unfold f7;rw[length_map];exact le_trans (List.length_filter_le _ _) (by simp)
theorem pU{α:Type}{f:α->List Int}:∀(gs:List α)(k:List Bool),(gs.foldl (fun k g=>bf k (f g)) k).length=k.length
 |[],k=>rfl
 |g::gs,k=>by rw[foldl_cons,pU gs,jd]
theorem UQ(l:Li):(dW (bH l)).length<=l.bo.length:=by
 have h:=uz (bH l) (bH l).length;have e:(bH l).length=l.bo.length:=by unfold bH;rw[pU,gy]
 rw[e]at h;unfold dW;rw[e];exact h
theorem U7(l:Li):(dW (dA l)).length<=l.jo.length:=by
 have h:=uz (dA l) (dA l).length;have e:(dA l).length=l.jo.length:=by unfold dA;rw[pU,length_replicate]
 rw[e]at h;unfold dW;rw[e];exact h
theorem Th(l:Li)(hl:l.ok)(hli:ay l=0):FP 58 [l.av] (.tup [.lst 1 ((dW (bH l)).map i64),.lst 1 ((dW (dA l)).map i64)]):=by
 have h8:=(cJ hli).2.2.2.1;have h0:=(cJ hli).2.2.2.2;have hj16:l.jo.length<=16:=by have:=(cJ hli).2.1;unfold ee at this;split at this;cases this;omega
 obtain⟨hgo,hgl⟩:=r5 hli;refine ai func58 ?_;refine gt (az (wP 900 rfl l oz 0 oz) (.cons (.tmp rfl) (.cons (.const _) .nil)) aB rfl rfl) ?_;refine gl ?_;refine gs (gw (.tmp rfl) T219 rfl T4 rfl rfl oz (by dsimp only;omega) rfl) ?_;refine gD ?_ (2,0);refine gW (Wk.of (sl:=[(1,some (.ptr 1 0)),(2,some (nS)),(3,some (nS)),(4,some (.ms 900 1 0 (cg l.bo.length 0).length)),(5,some (.ms 21 1 0 (List.replicate l.jo.length false).length))]) (hp:=[(1,some (.box l.av.cells)),(900,some (.row 1 ((cg l.bo.length 0).map bl))),(21,some (.row 1 ((List.replicate l.jo.length false).map bl)))]) (.k (.k (.k (.cons rfl (Sub.of (by rw[gy])) (.cons rfl (Sub.of (by rw[length_replicate,toNat_natCast])) .nil))))) (.k (.k (.cons rfl (BlkSub.of (by rw[map_replicate,toNat_natCast];rfl)) .nil)))) ?_ (2,0)
 refine gW (Wk.rk (k:=21) (d:=901) rfl rfl) ?_;refine gc (GO l hl hli) ?_;refine gl ?_;refine ii [1,2,3,23,24] [1] (fun(i:Nat)(k1 k2:List Bool)=>[(4,some (.ms 900 1 0 k1.length)),(5,some (.ms 901 1 0 k2.length)),(25,some (i64 i))]) (fun _ k1 k2=>[(900,some (.row 1 (k1.map bl))),(901,some (.row 1 (k2.map bl)))]) (fun i k1 k2=>i<=(findG l).length/\k1.length=l.bo.length/\k2.length=l.jo.length/\((findG l).drop i).foldl (fun k g=>bf k g.bo) k1=bH l/\((findG l).drop i).foldl (fun k g=>bf k g.jo) k2=dA l) (fun i _ _=>(findG l).length-i) 0 (cg l.bo.length 0) (List.replicate l.jo.length false) ⟨zero_le _,gy _ _,length_replicate,rfl,rfl⟩ ?_
 rintro i k1 k2 ⟨hi,hk1,hk2,hf1,hf2⟩ K1 J1;refine gC (fun t26=>?_) (fun t26=>?_)
 ·have hin:=aS t26;obtain⟨g,hg⟩:=ax hin;have hgk:=hgo g (mem_of_getElem? hg);have hlb:=hgk.lb;have hlj:=hgk.lj;refine gi (aA hg) ?_;refine gl ?_;refine f0 [1,2,3,7,23,24,25,30,31] [1,7,901] (fun(q:Nat)(kk:List Bool)=>[(4,some (.ms 900 1 0 kk.length)),(5,some (.ms 901 1 0 k2.length)),(32,some (i64 q))]) (fun _ kk=>[(900,some (.row 1 (kk.map bl)))]) (fun q kk=>q<=g.bo.length/\kk.length=l.bo.length/\bf kk (g.bo.drop q)=bf k1 g.bo) (fun q _=>g.bo.length-q) 0 k1 ⟨zero_le _,hk1,rfl⟩ ?_;rintro q kk ⟨hq,hkk,hmk⟩ K2 J2;refine gC (fun t33=>?_) (fun t33=>?_)
  ·have hqn:=aS t33;obtain⟨x,hx⟩:=ax hqn;have hxb:=hgk.b x (mem_of_getElem? hx);obtain⟨v,hv⟩:∃v,kk[x.toNat]?=some v:=ax oz;refine gi (aA hx) ?_;refine gs (lw (.tmp rfl) (.tmp rfl) T219 rfl T4 rfl oz oz rfl) ?_;refine gs (dk (.tmp rfl) rfl (by rw[Nat.zero_add,getElem?_map,hv];rfl) rfl (.const _) rfl rfl T4 rfl rfl) ?_;refine ga aF ?_;exact fC J2 (q+1) (kk.set x.toNat true) ⟨hqn,by rw[length_set];exact hkk,by rw[<- wT hx];exact hmk⟩ (hw:=Wk.of (.cons rfl (Sub.of (by rw[length_set])) (.k (.k (.k (.k (.k (.k (.k (.k (.k (.k (.k .nil)))))))))))) (.cons rfl (BlkSub.of (by rw[map_set,Nat.zero_add];rfl)) (.k (.k (.k .nil)))))
  have hqn:=aZ hq t33;have hmk2:kk=bf k1 g.bo:=by rw[hqn,List.drop_length]at hmk;exact hmk
  refine gl ?_;refine f0 [1,2,3,23,24,25,41,42] [1,900] (fun(p:Nat)(jj:List Bool)=>[(4,some (.ms 900 1 0 kk.length)),(5,some (.ms 901 1 0 jj.length)),(43,some (i64 p))]) (fun _ jj=>[(901,some (.row 1 (jj.map bl)))]) (fun p jj=>p<=g.jo.length/\jj.length=l.jo.length/\bf jj (g.jo.drop p)=bf k2 g.jo) (fun p _=>g.jo.length-p) 0 k2 ⟨zero_le _,hk2,rfl⟩ ?_;rintro p jj ⟨hp,hjj,hmj⟩ K3 J3;refine gC (fun t44=>?_) (fun t44=>?_)
  ·have hpn:=aS t44;obtain⟨x,hx⟩:=ax hpn;have hxb:=hgk.j x (mem_of_getElem? hx);obtain⟨v,hv⟩:∃v,jj[x.toNat]?=some v:=ax oz;refine gi (aA hx) ?_;refine gs (lw (.tmp rfl) (.tmp rfl) T219 rfl T4 rfl oz oz rfl) ?_;refine gs (dk (.tmp rfl) rfl (by rw[Nat.zero_add,getElem?_map,hv];rfl) rfl (.const _) rfl rfl T4 rfl rfl) ?_;refine ga aF ?_;exact fC J3 (p+1) (jj.set x.toNat true) ⟨hpn,by rw[length_set];exact hjj,by rw[<- wT hx];exact hmj⟩ (hw:=Wk.of (.k (.cons rfl (Sub.of (by rw[length_set])) (.k (.k (.k (.k (.k (.k (.k (.k (.k .nil))))))))))) (.cons rfl (BlkSub.of (by rw[map_set,Nat.zero_add];rfl)) (.k (.k .nil))))
  have hpn:=aZ hp t44;have hmj2:jj=bf k2 g.jo:=by rw[hpn,List.drop_length]at hmj;exact hmj
  refine ga aF ?_;exact f8 J1 (i+1) kk jj ⟨hin,hkk,hjj,by rw[hmk2,<- hf1,Cg hg],by rw[hmj2,<- hf2,Cg hg]⟩
 have hin:=aZ hi t26;have e1:k1=bH l:=by rw[hin,List.drop_length]at hf1;exact hf1
 have e2:k2=dA l:=by rw[hin,List.drop_length]at hf2;exact hf2
 refine gW (Wk.virt 902 1 rfl) ?_;refine aN [3,53] [900,901] (fun(i:Nat)=>[(2,some (.ms 902 1 0 (f7 k1 i).length)),(5,some (.ms 901 1 0 k2.length)),(52,some (.ms 900 1 0 k1.length)),(54,some (i64 i))]) (fun i=>[(902,some (.row 1 ((f7 k1 i).map i64)))]) (fun i=>i<=k1.length) (fun i=>k1.length-i) 0 (zero_le _) ?_;rintro i ha K4 J4;refine gC (fun t55=>?_) (fun t55=>?_) (st2:=(22,0))
 ·have hin6:=aS t55;obtain ⟨v,hv⟩:=ax hin6;have hvd:k1.getD i false = v:=aC hv;have hul:=uz k1 i;refine gs (lw (.tmp rfl) (.tmp rfl) T219 rfl T4 rfl oz oz rfl) ?_;refine gs (dQ (.tmp rfl) rfl (by rw [Nat.zero_add,toNat_natCast,getElem?_map,hv]; rfl) T4 rfl rfl rfl) ?_;refine gC (fun t60=>?_) (fun t60=>?_)
  ·have hu := GM (k := k1) (i := i) (by rw [hvd]; exact cI t60);refine gs (ci (.tmp rfl) rfl (by rw [length_map]) (.tmp rfl) T39 rfl T3 rfl rfl (by dsimp only; simp only [length_cons,length_nil]; omega) rfl rfl) ?_ (21,0);refine gW (Wk.of (sl:=[(2,some (.ms 64 1 0 (f7 k1 (i + 1)).length)),(3,some (nS)),(5,some (.ms 901 1 0 k2.length)),(52,some (.ms 900 1 0 k1.length)),(53,some (i64 k1.length)),(54,some (i64 i))]) (hp:=[(900,some (.row 1 (k1.map bl))),(901,some (.row 1 (k2.map bl))),(64,some (.row 1 ((f7 k1 (i + 1)).map i64)))]) (.cons rfl (Sub.of (by rw [hu,length_append]; rfl)) (.k (.k (.k (.k (.k .nil)))))) (.k (.k (.cons rfl (BlkSub.of (by rw [hu,map_append]; rfl)) .nil)))) ?_ (21,0)
   refine gW (Wk.rk (k:=64) (d:=902) rfl rfl) ?_;refine ga aF ?_;exact aH J4 (i+1) hin6 (hw:=Wk.of (.cons rfl (Sub.of (by first |rw[hu];done |rfl)) (.k (.k (.k (.k (.k .nil)))))) (.cons rfl (BlkSub.of (by first |rw[hu];done |rfl)) (.k (.k .nil))))
  have hu:=Br (k:=k1) (i:=i) (by rw[hvd];exact cH t60);refine ga aF ?_;exact aH J4 (i+1) hin6 (hw:=Wk.of (.cons rfl (Sub.of (by first |rw[hu];done |rfl)) (.k (.k (.k (.k (.k .nil)))))) (.cons rfl (BlkSub.of (by first |rw[hu];done |rfl)) (.k (.k .nil))))
 have hin6:=aZ ha t55;refine gW ((Wk.freeze (k:=902) rfl).trans<|Wk.of (sl:=[(2,some (.lst 1 ((dW (bH l)).map i64))),(3,some (nS)),(5,some (.ms 901 1 0 k2.length))]) (hp:=[(901,some (.row 1 (k2.map bl)))]) (.cons rfl (Sub.of (by rw[bJ (by rw[length_map]),hin6,e1];rfl)) (.k (.k .nil))) (.k .nil)) ?_;refine gW (Wk.virt 902 1 rfl) ?_;refine aN [2,67] [901] (fun(i:Nat)=>[(3,some (.ms 902 1 0 (f7 k2 i).length)),(66,some (.ms 901 1 0 k2.length)),(68,some (i64 i))]) (fun i=>[(902,some (.row 1 ((f7 k2 i).map i64)))]) (fun i=>i<=k2.length) (fun i=>k2.length-i) 0 (zero_le _) ?_;rintro i hb K5 J5;refine gC (fun t69=>?_) (fun t69=>?_) (st2:=(28,0))
 ·have hin8:=aS t69;obtain ⟨v,hv⟩:=ax hin8;have hvd:k2.getD i false = v:=aC hv;have hul:=uz k2 i;refine gs (lw (.tmp rfl) (.tmp rfl) T219 rfl T4 rfl oz oz rfl) ?_;refine gs (dQ (.tmp rfl) rfl (by rw [Nat.zero_add,toNat_natCast,getElem?_map,hv]; rfl) T4 rfl rfl rfl) ?_;refine gC (fun t74=>?_) (fun t74=>?_)
  ·have hu := GM (k := k2) (i := i) (by rw [hvd]; exact cI t74);refine gs (ci (.tmp rfl) rfl (by rw [length_map]) (.tmp rfl) T39 rfl T3 rfl rfl (by dsimp only; simp only [length_cons,length_nil]; omega) rfl rfl) ?_ (27,0);refine gW (Wk.of (sl:=[(2,some (.lst 1 ((dW (bH l)).map i64))),(3,some (.ms 78 1 0 (f7 k2 (i + 1)).length)),(66,some (.ms 901 1 0 k2.length)),(67,some (i64 k2.length)),(68,some (i64 i))]) (hp:=[(901,some (.row 1 (k2.map bl))),(78,some (.row 1 ((f7 k2 (i + 1)).map i64)))]) (.k (.cons rfl (Sub.of (by rw [hu,length_append]; rfl)) (.k (.k (.k .nil))))) (.k (.cons rfl (BlkSub.of (by rw [hu,map_append]; rfl)) .nil))) ?_ (27,0)
   refine gW (Wk.rk (k:=78) (d:=902) rfl rfl) ?_;refine ga aF ?_;exact aH J5 (i+1) hin8 (hw:=Wk.of (.cons rfl (Sub.of (by first |rw[hu];done |rfl)) (.k (.k (.k (.k .nil))))) (.cons rfl (BlkSub.of (by first |rw[hu];done |rfl)) (.k .nil)))
  have hu:=Br (k:=k2) (i:=i) (by rw[hvd];exact cH t74);refine ga aF ?_;exact aH J5 (i+1) hin8 (hw:=Wk.of (.cons rfl (Sub.of (by first |rw[hu];done |rfl)) (.k (.k (.k (.k .nil))))) (.cons rfl (BlkSub.of (by first |rw[hu];done |rfl)) (.k .nil)))
 have hin8:=aZ hb t69;refine gW ((Wk.freeze (k:=902) rfl).trans<|Wk.of (sl:=[(2,some (.lst 1 ((dW (bH l)).map i64))),(3,some (.lst 1 ((dW (dA l)).map i64)))]) (hp:=[]) (.k (.cons rfl (Sub.of (by rw[bJ (by rw[length_map]),hin8,e2];rfl)) .nil)) .nil) ?_;refine bh ?_;rfl
theorem KO(l:Li)(hl:l.ok)(hli:ay l=0):FP 16 [l.av] (.tup [.lst 4 ((splitG l).map Gr.av),i64 (splitE l)]):=by
 have h8:=(cJ hli).2.2.2.1;have hj16:l.jo.length<=16:=by have:=(cJ hli).2.1;unfold ee at this;split at this;cases this;omega
 have u1:=UQ l;have u2:=U7 l;refine ai func16 ?_;refine gc (Th l hl hli) ?_;refine gl ?_;refine gl ?_;refine ga (cV oz) ?_;refine gC (fun t16=>?_) (fun t16=>?_)
 ·have h1:0 < (dW (bH l)).length + (dW (dA l)).length:=iH t16;have hE:splitE l = 7:=by unfold splitE; rw [if_neg oz]
  refine gR ?_;exact dV (by unfold splitG;rw[if_neg (by rw[hE];decide),hE];exact Sub.tup (.cons (.nil _ _ _) (.cons (.refl _) .nil)))
 have h1:(dW (bH l)).length+(dW (dA l)).length<=0:=gj t16;have hE:splitE l=0:=by unfold splitE;rw[if_pos oz]
 refine gc (GO l hl hli) ?_;refine bh ?_;unfold splitG;rw[if_pos hE,hE];rfl
variable{P:Program}{N:Nat}{R:Array Oper}{s:AS}{pos:String}{after:Array Edge}
theorem zE{d:Nat}{x:Operand}{n:Nat}{z:Value}{T E t:TypeId}{ti te:TI}(hx:Ev s x (.v (.int .i64 n)))
    (hT:ao P T=some ti) (hk:ti.k=.slice E) (hE:ao P E=some te) (hz:te.zero=[z]) (hz1:z.oneCell'=true) (hs:Nat.beq te.size 1=true) (hbb:Nat.blt 0 te.bytes=true)
    (hb:(n:Int)*te.bytes<=281474976710656) (hN:Nat.blt d N=true) :
    Step P N R s ⟨some d,.makeSlice T x x,t,pos,after,none⟩
      ⟨some (.ms d 1 0 n),[(d,some (.vec (List.replicate n z)))],am x,[]⟩ :=
  oM rfl rfl hN (by simp) fun s' hag hfr C m a w hr => by
    have hxv:=mP hr (hx.agree hag (fun _ h=>h));have hs:=eq_of_beq_eq_true hs;rw[Nat.blt_eq]at hbb;obtain⟨d2,h3,h4,-,-⟩:=dj hT w;obtain rfl:=ir (h4.trans hk);obtain⟨zv,h5,h6⟩:=oK hE w;obtain⟨ie,h7,h8,-⟩:=Ib hE w;have h6':zv.cells.toList=[z]:=h6.trans hz;have hzc:zv.cells=#[z]:=by rw[<- Array.toArray_toList (xs:=zv.cells),h6']
    have hnb:(n:Int)<=281474976710656:=by
      have:(n:Int)*1<=n*te.bytes:=Int.mul_le_mul_of_nonneg_left oz oz;omega
    have hw1:IntKind.i64.wrap (n:Int)=n:=IntWalk.i64_in n oz;obtain⟨zero,hzero⟩:∃zero:Array Value,zero=(if n*te.size=0 then #[]else zv.cells):=⟨_,rfl⟩
    refine⟨.slice (some ⟨w.heap.size,0,none⟩) n n,(Array.range (n*te.size)).map (zero[· % zero.size]!),E,w.drawn,?_,?_,?_,?_⟩
    · have hmk:(Instr.makeSlice T (.int .i64 n) (.int .i64 n)).run P w =
          .ok (.slice (some ⟨w.heap.size,0,none⟩) n n) { w with heap:=w.heap.push (.cells ((Array.range (n*te.size)).map (zero[· % zero.size]!)) E) }:=by
        have hc:¬(((n:Int)<0\/281474976710656<(ie.bytes:Int)*n)\/(n:Int)<0):=by
          rw[h8,Int.mul_comm];omega
        simp only[Instr.makeSlice,Sem.run_bind,h3,Result.andThen_ok,asInt,asIntOf,Sem.run_pure,h7,hw1];rw[if_neg (by simpa using hc)];simp only[Sem.run_bind,run_askRoom,Result.andThen_ok,fj hE,toNat_natCast]
        by_cases h0:n*te.size=0
        · rw[if_pos h0]at hzero ⊢
          subst hzero;simp only[Sem.run_bind,Sem.run_pure,Result.andThen_ok,newRow,run_newObj]
        · rw[if_neg h0]at hzero ⊢
          subst hzero;simp only[Sem.run_bind,Sem.run_pure,Result.andThen_ok,h5,newRow,run_newObj]
      simp only[execOp,hxv,Sem.run_bind,hmk,Result.andThen_ok,Sem.run_pure]
    · exact fun h=>h
    · intro g S m' w' hg hS hm hw
      refine .vec hw ?_ (fun v hv=>by rw[List.eq_of_mem_replicate hv];exact hz1);apply List.ext_getElem?;intro j;rw[Array.getElem?_toList,getElem?_replicate]
      by_cases hj:j<n
      · have hpos : ¬ n * te.size = 0 := by rw [hs]; omega
        rw[if_neg hpos,hzc]at hzero;subst hzero;rw[if_pos hj];simp only[Array.getElem?_map,Array.getElem?_range,show j<n*te.size by rw[hs];omega,if_true,Option.map_some,Option.some.injEq];simp[Nat.mod_one]
      · rw[if_neg hj,Array.getElem?_eq_none (by simp[hs];omega)]
    · intro g S m' hm hS
      have:=Rep.ms (g:=g) (S:=S) (m:=m') (k:=d) (sz:=1) (off:=0) (len:=n) (cap:=n) hm (le_refl _) (by simpa[hs]using hS);simpa using this
theorem wk{x y:Operand}{k i:Nat}{vs:List Value}{v:Value}{T t:TypeId}{ti:TI}
  (hx:Ev s x (.eptr k 1 i 0)) (hk:s.blk k=some (.vec vs)) (hi:i<vs.length) (hy:Ev s y (.v v)) (hv:v.oneCell'=true) (hT:ao P T=some ti) (hsz:Nat.beq ti.size 1=true) :
  Step P N R s ⟨none,.store T x y,t,pos,after,none⟩ ⟨none,[(k,some (.vec (vs.set i v)))],am x++am y,[k]⟩ :=
 xt rfl rfl (by simp) hk fun s' hag C m a w hr => by
  have hsz:=eq_of_beq_eq_true hsz;obtain⟨b,hm,hxv⟩:=tt hr (hx.agree hag (fun _ h=>List.mem_append.2 (.inl h)));have hyv:=mP hr (hy.agree hag (fun _ h=>List.mem_append.2 (.inr h)));have hb:=hr.heap.blk k _ ((hag.2 k (by simp)).trans hk);rw[hm]at hb;cases hb with
  | @vec _ _ c t2 hw hc h1 =>
   have hcs:c.size=vs.length:=by rw[<- hc];simp
   have hvc:v.cells=#[v]:=by cases v <;> simp_all [Value.cells,Value.oneCell']
   refine⟨b,c,(over c.toList i v.cells.toList).toArray,t2,hm,hw,?_,?_,?_⟩
   ·simp[over,hvc];omega
   ·have hrun := xL (P := P) (off := i) (v := v) hT hw (by rw[hvc,hsz];rfl) oz (by rw[hvc];simpa using hv);simp[execOp,Instr.storeAt,hxv,Instr.sureAddr,hyv,hrun]
   ·intro g S w' hg hS hw';refine .vec hw' ?_ (fun u hu=>?_)
    ·rw[hc,hvc];unfold over;rw[List.set_eq_take_append_cons_drop,if_pos hi];simp
    ·rcases List.mem_or_eq_of_mem_set hu with h9 |h9
     ·exact h1 u h9
     ·rw[h9];exact hv
inductive Lent(H:Hp)(hid:List Nat):AV->AV->Prop
  |same {x:AV} (h:x.nm=[]):Lent H hid x x
  |ms {k off len:Nat} {vs:List Value} (hk:lk H k=some (.vec vs)) (hh:k∉hid) (hl:off+len<=vs.length) (hm:vs.length<=aR):Lent H hid (.ms k 1 off len) (.lst 1 (((vs.drop off).take len).map .v))
theorem E7{g:Nat->Array Value->Prop}{S:Nat->Nat->Prop}{m:Nat->Option Nat}{u y:Value}(h:Rep g S m u (.v y)):u=y:=by cases h;rfl
theorem vO{m:Nat->Option Nat}{b:Nat}:¬aU [] m b:=by rintro⟨k,x,h,_⟩;cases h
def pF(ext:Nat->Prop)(H:Hp)(hid:List Nat)(m:Nat->Option Nat)(b:Nat):Prop:=ext b\/∃k z,k∈hid/\lk H k=some z/\m k=some b
theorem L5{ext:Nat->Prop}{H:Hp}{hid:List Nat}{m m2:Nat->Option Nat}{w:World}{b:Nat}{cs:Array Value}(h:Im ext H m w b cs):Im (pF ext H hid m) [] m2 w b cs :=
 ⟨fun h'=>h'.elim h.1 (fun⟨k,z,_,hz,hb⟩=>h.2.1 ⟨k,z,hz,hb⟩),vO,h.2.2⟩
theorem FQ{ext:Nat->Prop}{H:Hp}{hid:List Nat}{m:Nat->Option Nat}{w:World}(hh:HeapRel ext H m w){k b:Nat}{z:Blk}(hk:lk H k=some z)(hb:m k=some b)(hn:k∉hid):¬pF ext H hid m b:=by
 rintro(h |⟨k',z',h1,h2,h3⟩)
 ·exact(hh.sep k z b hk hb).1 h
 ·have:=hh.inj k k' z z' b hk h2 hb h3;subst this;exact hn h1
theorem Lent.rep{ext:Nat->Prop}{H:Hp}{hid:List Nat}{m:Nat->Option Nat}{w:World}(hh:HeapRel ext H m w){x x':AV}(h:Lent H hid x x') :
  ∀{v:Value},Rep (Im ext H m w) (Sz w) m v x->∀m2:Nat->Option Nat,Rep (Im (pF ext H hid m) [] m w) (Sz w) m2 v x':=by
 cases h with
 |same hn=>intro v hv m2;exact(gX hn hv).mono (fun _ _ h=>L5 h) (fun _ _ h=>h) (fun _ _ _ h=>h)
 | @ms k off len vs hk hnh hl hm =>
  intro v hr m2;have hb:=hh.blk k _ hk;cases hr with
  |ms0 a=>simp only[List.take_zero];exact .lst0 _ _ _
  | @ms _ _ _ _ _ cap b hmk hc hS =>
   rw[hmk]at hb;cases hb with
   | @vec _ _ c t hw hcv h1 =>
    have hcs:c.size=vs.length:=by rw[<- hcv];simp
    have hlen:(((vs.drop off).take len).map AV.v).length=len:=by rw[length_map,length_take,List.length_drop];omega
    have he':∀(i:Nat)(e:AV),(((vs.drop off).take len).map AV.v)[i]?=some e->∃u,e=.v u/\c[off+i]?=some u/\u∈vs:=by
     intro i e he;rw[getElem?_map,map_eq_some_iff]at he;obtain⟨u,he,rfl⟩:=he;rw[getElem?_take]at he;split at he
     ·rw[getElem?_drop]at he;exact⟨u,rfl,by rw[<- Array.getElem?_toList,hcv];exact he,mem_of_getElem? he⟩
     ·cases he
    have:=Rep.lst (g:=Im (pF ext H hid m) [] m w) (S:=Sz w) (m:=m2) (b:=b) (off:=off) (cap:=cap) (sz:=1) (es:=((vs.drop off).take len).map AV.v) (cs:=c) (fun i j=>c.getD (off+i) undef)
     ⟨FQ hh hk hmk hnh,vO,t,(0,0),hw⟩ oz oz ?_ ?_ ?_ ?_
    ·rw[hlen]at this;simpa using this
    ·intro i e he;obtain⟨u,rfl,_⟩:=he' i e he;rfl
    ·intro i j e x he hx;obtain⟨u,rfl,_,hm⟩:=he' i e he;cases j with
     |zero=>cases hx;exact h1 u hm
     |succ j=>cases hx
    ·intro i j e x he hx;obtain⟨u,rfl,hu,_⟩:=he' i e he;cases j with
     |zero=>rw[Nat.mul_one,Nat.add_zero,getD_eq_getD_getElem?,hu];rfl
     |succ j=>cases hx
    ·intro i j e x he hx;obtain⟨u,rfl,hu,_⟩:=he' i e he;cases j with
     |zero=>cases hx;rw[getD_eq_getD_getElem?,hu];exact .v _
     |succ j=>cases hx
def CA:AV->Bool
  | .v (.int _ _)=>true
  |_=>false
def Dl:AV->Bool
  | .v (.int _ _)=>false
  | .v _=>true
  | .lst _ _=>true
  | .ms _ _ _ _=>true
  |_=>false
mutual
def AV.li:AV->Bool
  | .v _=>true
  | .agg cs=>AV.lis cs
  | .tup cs=>AV.lis cs
  | .lst sz es=>Nat.beq sz 1&&es.all CA
  |_=>false
def AV.lis:List AV->Bool
  |[]=>true
  |x::l=>x.li&&AV.lis l
end
theorem AV.lis_mem:∀{l:List AV}{c:AV},AV.lis l=true->c∈l->c.li=true
 |x::l,c,h,hc=>by
  simp only[AV.lis,and_eq_true]at h;rcases List.mem_cons.1 hc with rfl |hc
  ·exact h.1
  ·exact AV.lis_mem h.2 hc
theorem Oh{g:Nat->Array Value->Prop}{S:Nat->Nat->Prop}{m:Nat->Option Nat}{u:Value}{x:AV}(hx:Dl x=true)(h:Rep g S m u x)(kk:IntKind)(z:Int):u≠.int kk z:=by
 rintro rfl;cases h <;> cases hx
theorem Sp{g g':Nat->Array Value->Prop}{S S':Nat->Nat->Prop}{m m':Nat->Option Nat}{v:Value}{x:AV}(hx:x.li=true)
  (hg:∀b cs (o:Nat)(kk:IntKind)(z:Int),cs[o]?=some (.int kk z)->g b cs->g' b cs) (h:Rep g S m v x):Rep g' S' m' v x:=by
 induction h with
 |v=>exact .v _
 |agg hn h1 hr ih=>exact .agg hn h1 (fun j u c hu hc=>ih j u c hu hc (AV.lis_mem hx (mem_of_getElem? hc)))
 |tup hn hr ih=>exact .tup hn (fun j u c hu hc=>ih j u c hu hc (AV.lis_mem hx (mem_of_getElem? hc)))
 |lst0 a cap sz=>exact .lst0 _ _ _
 | @lst _ b off cap sz es cs u hb hc hl hs h1 hu hr _ =>
  simp only[AV.li,and_eq_true]at hx;have hsz:=eq_of_beq_eq_true hx.1;subst hsz
  match es,hx,hc,hl,hs,h1,hu,hr with
  |[],_,_,_,_,_,_,_=>exact .lst0 _ _ _
  |e::es,hx,hc,hl,hs,h1,hu,hr =>
   have hcell:∀(i j:Nat)(e' c:AV),(e::es)[i]?=some e'->e'.cells[j]?=some c->∃kk z,c=.v (.int kk z):=by
    intro i j e' c he hc';have h9:=List.all_eq_true.1 hx.2 e' (mem_of_getElem? he);cases e' with
    |v y=>cases y with
     |int kk z =>
      cases j with
      |zero=>cases hc';exact⟨_,_,rfl⟩
      |succ j=>cases hc'
     |_=>cases h9
    |_=>cases h9
   have he0:∃kk z,e=.v (.int kk z):=by
    have h9:=List.all_eq_true.1 hx.2 e (by simp);cases e with
    |v y=>cases y with
     |int kk z=>exact⟨_,_,rfl⟩
     |_=>cases h9
    |_=>cases h9
   obtain⟨kk,z,rfl⟩:=he0;have h8:=hu 0 0 _ _ rfl rfl;have h7:=hr 0 0 _ _ rfl rfl;have h6:u 0 0=.int kk z:=E7 h7;rw[h6]at h8;refine .lst u (hg b cs _ kk z h8 hb) hc hl hs h1 hu (fun i j e' c he hc'=>?_);obtain⟨k2,z2,rfl⟩:=hcell i j e' c he hc';rw[E7 (hr i j _ _ he hc')];exact .v _
 |_=>cases hx
theorem Con.lend{f:FuncId}{k:Nat}{cs:List AV}{cs':Value->List AV}{H:Hp}{r:AV}(hid:List Nat)(j0:Nat)(hk:lk H k=some (.box cs))(hkh:k∉hid)
  (hc:∀v:Value,v.oneCell'=true->(cs' v).length=cs.length/\(∀(j:Nat)(x:AV),(cs' v)[j]?=some x->x.one=true) /\
   ∀(j:Nat)(x x':AV),cs[j]?=some x->(cs' v)[j]?=some x'->(j=j0/\x'=.v v)\/Lent H hid x x')
  (hj:j0<cs.length)
  (hH:∀k z,lk H k=some z->k∈hid\/(∃cs,z=.box cs/\cs.all Dl=true)\/∃vs,z=.vec vs/\∀v∈vs,∀kk z,v≠.int kk z) (hr:r.li=true) (h:∀v:Value,ia P f [.iptr (cs' v)] r):Con P f [.ptr k 0] H r H:=by
 refine⟨(h undef).ok,?_⟩;intro ext m w vs hext hheap hvs hrep;have hsz:0<vs.size:=by rw[hvs];exact Nat.one_pos
 have hr0:=hrep 0 vs[0] _ (Array.getElem?_eq_getElem hsz) rfl;have hb:=hheap.blk k _ hk;generalize hv0:vs[0]=v0 at hr0;cases hr0 with
 | @ptr _ _ _ b hmk =>
  rw[hmk]at hb;cases hb with
  | @box _ _ c t hw hn h1 hrr =>
   have hj0:j0<c.size:=by omega
   have hx0:=getElem?_eq_getElem (l:=cs) (i:=j0) oz;have hone:(c[j0]).oneCell'=true:=(hrr j0 _ _ (Array.getElem?_eq_getElem hj0) hx0).one (h1 j0 _ hx0);obtain⟨g1,g2,g3⟩:=hc c[j0] hone
   have hext':∀b,pF ext H hid m b->b<w.heap.size:=by
    rintro b (h9 |⟨k',z',_,h2,h3⟩)
    ·exact hext b h9
    ·exact(hheap.sep k' z' b h2 h3).2
   have hcall := (h c[j0]).ret (pF ext H hid m) m w vs hext' ⟨fun k z hz => by (cases hz), fun k k' x x' b hx => by (cases hx), fun k x b hx => by (cases hx)⟩ (by rw [hvs]; rfl) (by
    intro j v x hv hx
    match j,hx with
    |0,hx =>
     cases hx;rw[Array.getElem?_eq_getElem hsz,hv0]at hv;cases hv;refine .iptr (cs:=c) (fun j=>c.getD j undef) ⟨FQ hheap hk hmk hkh,vO,t,(0,0),hw⟩ g2 ?_ ?_
     ·intro j x hx;have hlt:j < c.size:=by rw [hn,<- g1]; exact (List.getElem?_eq_some_iff.1 hx).1
      rw[Nat.zero_add,getD_eq_getD_getElem?,Array.getElem?_eq_getElem hlt];rfl
     ·intro j x hx;have hlt:j < c.size:=by rw [hn,<- g1]; exact (List.getElem?_eq_some_iff.1 hx).1
      obtain⟨y,hy⟩:=iy g1 hx;have hcv:c[j]?=some (c.getD j undef):=by rw[getD_eq_getD_getElem?,Array.getElem?_eq_getElem hlt];rfl
      rcases g3 j y x hy hx with⟨rfl,rfl⟩ |hl
      ·have : c.getD j undef = c[j] := by rw [Array.getElem?_eq_getElem hlt] at hcv; exact (Option.some.inj hcv).symm
       rw[this];exact .v _
      ·exact hl.rep hheap (hrr j _ y hcv hy) cB)
   refine Calls.mono hcall ?_;rintro e w' ⟨v,m',rfl,hf,hh,hnew,hkeep,hres⟩;have hkeepB:∀b,b<w.heap.size->w'.heap[b]?=w.heap[b]? := fun b hb=>hf.keep b hb vO
   have hframe:Frame (aU H m) w w':=⟨hf.os,hf.tape,hf.output,hf.size,hf.sz,fun b hb _=>hkeepB b hb⟩
   have him:=d8 (ext:=ext) hframe (hp':=H) (m':=m) (fun k x b hk hb=>.inl ⟨k,x,hk,hb⟩);refine⟨v,m,rfl,hframe,⟨?_,hheap.inj,?_⟩,fun k x b hk hb=>.inl ⟨k,x,hk,hb⟩,fun _ _ _ _ _=>rfl,?_⟩
   ·intro k z hz;exact BlkRep.mono (w:=w) him hf.sz (fun _ _ _ h=>h) rfl (fun b hb=>hkeepB b (hheap.sep k z b hz hb).2) (hheap.blk k z hz)
   ·intro k z b hz hb;have:=hheap.sep k z b hz hb;exact⟨this.1,lt_of_lt_of_le this.2 hf.size⟩
   ·refine Sp hr ?_ hres;rintro b2 cs2 o kk z ho ⟨g1,g2,t2,fl,g3⟩;refine⟨fun h9=>g1 (.inl h9),?_,t2,fl,g3⟩;rintro⟨k2,y,hk2,hb2⟩;have hlt:=fun b hb=>(hheap.sep k2 _ b hk2 hb).2
    have h3:=hheap.blk k2 _ hk2;rw[hb2]at h3;rcases hH k2 y hk2 with h9 |⟨cl,rfl,hcl⟩ |⟨vs2,rfl,hvl⟩
    ·exact g1 (.inr ⟨k2,y,h9,hk2,hb2⟩)
    ·cases h3 with
     | @box _ _ c2 t' hw2 hn2 h12 hrr2 =>
      have hcc:c2=cs2:=by
       rw[hkeepB b2 (hlt b2 hb2),hw2]at g3
       injection g3 with g3
       injection g3
      subst hcc;have ho':o<c2.size:=(Array.getElem?_eq_some_iff.1 ho).1;have hx:=getElem?_eq_getElem (l:=cl) (i:=o) oz;exact Oh (List.all_eq_true.1 hcl _ (mem_of_getElem? hx)) (hrr2 o _ _ ho hx) kk z rfl
    ·cases h3 with
     | @vec _ _ c2 t' hw2 hc2 h12 =>
      have hcc:c2=cs2:=by
       rw[hkeepB b2 (hlt b2 hb2),hw2]at g3
       injection g3 with g3
       injection g3
      subst hcc;have:Value.int kk z∈vs2:=by rw[<- hc2];exact Array.mem_toList_iff.2 (Array.mem_of_getElem? ho)
      exact hvl _ this kk z rfl
end Go.Lw
namespace Go.Lw
open Go.Proofs
def bv(xs:List Bool):List Value:=xs.map .bool
theorem fW(xs:List Bool):(bv xs).length=xs.length:=length_map _
theorem vR(xs:List Bool)(n:Nat):(bv xs).set n (.bool true)=bv (xs.set n true):=by unfold bv;rw[map_set]
theorem xi(xs:List Bool):∀v∈bv xs,∀kk z,v≠.int kk z:=by
 intro v hv kk z;obtain⟨b,_,rfl⟩:=List.mem_map.1 hv;exact fun h=>by cases h
theorem vf(xs:List Bool):(bv xs).map AV.v=xs.map bl:=by unfold bv;rw[map_map];rfl
theorem wW(n:Nat):List.replicate n (Value.bool false)=bv (List.replicate n false):=by unfold bv;rw[map_replicate]
theorem Uh(xs:List Int):(xs.map i64).all CA=true:=by
 rw[all_eq_true];intro x hx;obtain⟨b,_,rfl⟩:=List.mem_map.1 hx;rfl
theorem KK(g:Gr)(b:Bool):(AV.tup [g.av,bl b]).li=true:=by
 simp only[AV.li,AV.lis,Gr.av,Uh];rfl
def mX(l:Li)(n:Nat):Blk:=.box (l.av.cells++[.ms 23 1 0 l.bo.length,.ms 27 1 0 l.bo.length,.ms 31 1 0 l.jo.length,.ms 900 4 0 n])
def l6(l:Li)(kw used:List Bool)(out:List Gr):Hp :=
  [(33,some (mX l out.length)),(23,some (.vec (bv kw))),(27,some (.vec (bv (bK l)))),(31,some (.vec (bv used))),(900,some (.row 4 (out.map Gr.av)))]
theorem xM{xs:List Bool}{n:Nat}(h:xs.length=n):AV.lst 1 ((((bv xs).drop 0).take n).map .v)=.lst 1 (xs.map bl):=by
 rw[drop_zero,take_of_length_le (by rw[fW];omega),vf]
theorem DL(l:Li)(hl:l.ok)(hli:ay l=0)(kw used:List Bool)(hk:kw.length=l.bo.length)(hu:used.length=l.jo.length)(hm:l.bo.length<=aR/\l.jo.length<=aR)(out:List Gr) :
  Con prog 339 [.ptr 33 0] (l6 l kw used out) (.tup [((nextG l kw).getD default).av,bl (nextG l kw).isSome]) (l6 l kw used out):=by
 refine Con.lend (cs:=l.av.cells++[.ms 23 1 0 l.bo.length,.ms 27 1 0 l.bo.length,.ms 31 1 0 l.jo.length,.ms 900 4 0 out.length])
  (cs':=fun v=>du l kw (bK l) [.lst 1 (used.map bl),.v v]) [900] 7 rfl (by decide) ?_ (by simp[Li.av,AV.cells]) ?_ (KK _ _) (fun v=>TJ l hl hli kw hk _)
 ·intro v hv;refine⟨rfl,?_,?_⟩
  ·intro j x hx
   match j,hx with
   |0,hx=>cases hx;rfl
   |1,hx=>cases hx;rfl
   |2,hx=>cases hx;rfl
   |3,hx=>cases hx;rfl
   |4,hx=>cases hx;rfl
   |5,hx=>cases hx;rfl
   |6,hx=>cases hx;rfl
   |7,hx=>cases hx;exact hv
   |j+8,hx=>cases hx
  ·intro j x x' hx hx'
   match j,hx,hx' with
   |0,hx,hx'=>cases hx;cases hx';exact .inr (.same rfl)
   |1,hx,hx'=>cases hx;cases hx';exact .inr (.same rfl)
   |2,hx,hx'=>cases hx;cases hx';exact .inr (.same rfl)
   |3,hx,hx'=>cases hx;cases hx';exact .inr (.same rfl)
   |4,hx,hx' =>
    cases hx;cases hx'
    have h:=Lent.ms (H:=l6 l kw used out) (hid:=[900]) (k:=23) (off:=0) (len:=l.bo.length) (vs:=bv kw) rfl (by decide) (by rw[fW];omega) (by rw[fW];omega);rw[xM hk]at h;exact .inr h
   |5,hx,hx' =>
    cases hx;cases hx'
    have h:=Lent.ms (H:=l6 l kw used out) (hid:=[900]) (k:=27) (off:=0) (len:=l.bo.length) (vs:=bv (bK l)) rfl (by decide) (by rw[fW,sa];omega) (by rw[fW,sa];omega);rw[xM (sa l)]at h;exact .inr h
   |6,hx,hx' =>
    cases hx;cases hx'
    have h:=Lent.ms (H:=l6 l kw used out) (hid:=[900]) (k:=31) (off:=0) (len:=l.jo.length) (vs:=bv used) rfl (by decide) (by rw[fW];omega) (by rw[fW];omega);rw[xM hu]at h;exact .inr h
   |7,hx,hx'=>cases hx;cases hx';exact .inl ⟨rfl,rfl⟩
   |j+8,hx,hx'=>cases hx
 ·intro k z hz;simp only[l6,aJ]at hz;split at hz
  ·cases hz;exact .inr (.inl ⟨_,rfl,rfl⟩)
  split at hz
  ·cases hz;exact .inr (.inr ⟨_,rfl,xi _⟩)
  split at hz
  ·cases hz;exact .inr (.inr ⟨_,rfl,xi _⟩)
  split at hz
  ·cases hz;exact .inr (.inr ⟨_,rfl,xi _⟩)
  split at hz
  ·subst_vars;exact .inl (by decide)
  ·cases hz
def oF(l:Li):AV:=if ay l=0 then .iptr (du l (bH l) (bK l) [.lst 1 ((dA l).map bl),.lst 4 ((findG l).map Gr.av)])else .v (.pointer none)
def i7(l:Li)(out:List Gr):List Bool:=out.foldl (fun k g=>bf k g.jo) (List.replicate l.jo.length false)
theorem xJ(l:Li)(out:List Gr):(i7 l out).length=l.jo.length:=by unfold i7;rw[pU,length_replicate]
theorem Pk(l:Li)(out:List Gr)(g:Gr):i7 l (out++[g])=bf (i7 l out) g.jo:=by unfold i7;rw[List.foldl_append];rfl
theorem xT{k:List Bool}{bs:List Int}{i:Nat}{b:Int}(h:bs[i]?=some b):bf k (bs.take (i+1))=(bf k (bs.take i)).set b.toNat true:=by
 unfold bf;rw[dG h,List.foldl_append];rfl
theorem Pe{l:Li}(hli:ay l=0){kw:List Bool}{out:List Gr}{g:Gr}(hk:kw.length=l.bo.length)(h:findFrom l (dw kw) kw out=(bH l,findG l))(hg:nextG l kw=some g) :
  findFrom l (dw (bf kw g.bo)) (bf kw g.bo) (out++[g])=(bH l,findG l):=by
 have hlt:=ru hli hk hg;obtain⟨n,hn⟩:∃n,dw kw=n+1:=⟨dw kw-1,by omega⟩
 rw[hn]at h;unfold findFrom at h;rw[hg]at h;rw[<- h];exact yY hli _ _ _ _ (by rw[jd];exact hk) (le_refl _) oz
theorem Lu{l:Li}{kw:List Bool}{out:List Gr}(h:findFrom l (dw kw) kw out=(bH l,findG l))(hg:nextG l kw=none):kw=bH l/\out=findG l:=by
 cases hn:dw kw with
 |zero=>rw[hn]at h;exact⟨(Prod.mk.inj h).1,(Prod.mk.inj h).2⟩
 |succ n=>rw[hn]at h;unfold findFrom at h;rw[hg]at h;exact⟨(Prod.mk.inj h).1,(Prod.mk.inj h).2⟩
theorem LS{n:Nat}:dw (cg n 0)<=n:=by
 unfold dw;exact le_trans List.countP_le_length (Nat.le_of_eq (gy _ _))
theorem Up{l:Li}(hli:ay l=0):findFrom l (dw (cg l.bo.length 0)) (cg l.bo.length 0) []=(bH l,findG l):=by
 rw[<- BD];exact yY hli _ _ _ _ (gy _ _) (le_refl _) LS
theorem TZ{l:Li}(hli:ay l=0){kw:List Bool}{out:List Gr}(hk:kw.length=l.bo.length)(h:findFrom l (dw kw) kw out=(bH l,findG l)):out.length<=8:=by
 obtain⟨gs,e⟩:=zN (l:=l) (dw kw) kw out;rw[e]at h;have h1:=(r5 hli).2;have h2:out++gs=findG l:=(Prod.mk.inj h).2;rw[<- h2,length_append]at h1;omega
theorem Sb(l:Li)(kw used:List Bool)(out:List Gr)(hk:kw.length=l.bo.length)(hu:used.length=l.jo.length)(hm:l.bo.length<=aR/\l.jo.length<=aR) :
  Wk ⟨[(5,some (.ptr 33 0))],l6 l kw used out⟩ ⟨[(5,some (.iptr (du l kw (bK l) [.lst 1 (used.map bl),.lst 4 (out.map Gr.av)])))],[]⟩:=by
 have hd:=sa l;have q1:.ms 23 1 0 l.bo.length=AV.ms 23 1 0 ((bv kw).map AV.v).length:=by rw[length_map,fW,hk]
 refine(Wk.of (sl:=[(5,some (.ptr 33 0))]) (hp:=[(33,some (mX l out.length)),(23,some (.row 1 ((bv kw).map .v))),(27,some (.row 1 ((bv (bK l)).map .v))),(31,some (.row 1 ((bv used).map .v))),(900,some (.row 4 (out.map Gr.av)))])
  (.k .nil) (.k (.cons rfl (.vecRow (by rw[fW];omega)) (.cons rfl (.vecRow (by rw[fW];omega)) (.cons rfl (.vecRow (by rw[fW];omega)) (.k .nil)))))).trans ?_
 refine(Wk.freeze (k:=23) rfl).trans ?_
 refine(Wk.of (sl:=[(5,some (.ptr 33 0))]) (hp:=[(33,some (.box (l.av.cells++[.lst 1 (kw.map bl),.ms 27 1 0 l.bo.length,.ms 31 1 0 l.jo.length,.ms 900 4 0 out.length]))),(27,some (.row 1 ((bv (bK l)).map .v))),(31,some (.row 1 ((bv used).map .v))),(900,some (.row 4 (out.map Gr.av)))])
  (.k .nil) (.cons rfl (BlkSub.bL (.cons (.refl _) (.cons (.refl _) (.cons (.refl _) (.cons (.refl _) (.cons (.of ((bJ (by rw[length_map,fW,hk])).trans (by rw[vf]))) (.cons (.refl _) (.cons (.refl _) (.cons (.refl _) .nil)))))))) rfl) (.k (.k (.k .nil))))).trans ?_
 refine(Wk.freeze (k:=27) rfl).trans ?_
 refine(Wk.of (sl:=[(5,some (.ptr 33 0))]) (hp:=[(33,some (.box (l.av.cells++[.lst 1 (kw.map bl),.lst 1 ((bK l).map bl),.ms 31 1 0 l.jo.length,.ms 900 4 0 out.length]))),(31,some (.row 1 ((bv used).map .v))),(900,some (.row 4 (out.map Gr.av)))])
  (.k .nil) (.cons rfl (BlkSub.bL (.cons (.refl _) (.cons (.refl _) (.cons (.refl _) (.cons (.refl _) (.cons (.refl _) (.cons (.of ((bJ (by rw[length_map,fW,hd])).trans (by rw[vf]))) (.cons (.refl _) (.cons (.refl _) .nil)))))))) rfl) (.k (.k .nil)))).trans ?_
 refine(Wk.freeze (k:=31) rfl).trans ?_
 refine(Wk.of (sl:=[(5,some (.ptr 33 0))]) (hp:=[(33,some (.box (l.av.cells++[.lst 1 (kw.map bl),.lst 1 ((bK l).map bl),.lst 1 (used.map bl),.ms 900 4 0 out.length]))),(900,some (.row 4 (out.map Gr.av)))])
  (.k .nil) (.cons rfl (BlkSub.bL (.cons (.refl _) (.cons (.refl _) (.cons (.refl _) (.cons (.refl _) (.cons (.refl _) (.cons (.refl _) (.cons (.of ((bJ (by rw[length_map,fW,hu])).trans (by rw[vf]))) (.cons (.refl _) .nil)))))))) rfl) (.k .nil))).trans ?_
 refine(Wk.freeze (k:=900) rfl).trans ?_
 refine(Wk.of (sl:=[(5,some (.ptr 33 0))]) (hp:=[(33,some (.box (du l kw (bK l) [.lst 1 (used.map bl),.lst 4 (out.map Gr.av)])))])
  (.k .nil) (.cons rfl (BlkSub.bL (.cons (.refl _) (.cons (.refl _) (.cons (.refl _) (.cons (.refl _) (.cons (.refl _) (.cons (.refl _) (.cons (.refl _) (.cons (.of (bJ (by rw[length_map]))) .nil)))))))) rfl) .nil)).trans ?_
 refine(Wk.freezeB (k:=33) rfl rfl).trans ?_;exact Wk.of (.k .nil) .nil
theorem I1(l:Li)(hl:l.ok):FP 250 [l.av] (.tup [oF l,bg (ay l)]):=by
 refine ai func250 ?_;refine gc (A6 l hl) ?_;refine gC (fun t17=>?_) (fun t17=>?_)
 ·have h1:=cE t17;refine bh ?_;unfold oF;rw[if_neg h1]
 have hli:=cC t17;have h8:=(cJ hli).2.2.2.1;have h0:=(cJ hli).2.2.2.2;have hj16:l.jo.length<=16:=by have:=(cJ hli).2.1;unfold ee at this;split at this;cases this;omega
 have hld:=hl.ld;have hm:l.bo.length<=aR/\l.jo.length<=aR:=by unfold aR;omega
 refine gl ?_;refine gs (zE (.tmp rfl) T219 rfl T4 rfl rfl rfl rfl (by dsimp only;omega) rfl) ?_;refine gl ?_;refine gs (zE (.tmp rfl) T219 rfl T4 rfl rfl rfl rfl (by dsimp only;omega) rfl) ?_;refine gl ?_;refine gs (zE (.tmp rfl) T219 rfl T4 rfl rfl rfl rfl (by dsimp only;omega) rfl) ?_;refine gD ?_;refine gs (bP (n:=0) (.tmp rfl) (.const _) T219 rfl T4 rfl rfl oz rfl) ?_;refine gs (wk (.tmp rfl) rfl (by rw[length_replicate];omega) (.const _) rfl T4 rfl) ?_ (6,0);refine gW (Wk.of (sl:=[(1,some (.ptr 1 0)),(5,some (.ptr 33 0))]) (hp:=[(1,some (.box l.av.cells)),(33,some (.box (l.av.cells++[.ms 23 1 0 l.bo.length,.ms 27 1 0 l.bo.length,.ms 31 1 0 l.jo.length,nS]))),(23,some (.vec (bv (cg l.bo.length 0)))),(27,some (.vec (bv (List.replicate l.bo.length false)))),(31,some (.vec (bv (List.replicate l.jo.length false))))]) aW (.k (.k (.cons rfl (BlkSub.of (by rw[wW,vR];rfl)) (.cons rfl (BlkSub.of (by rw[wW])) (.cons rfl (BlkSub.of (by rw[wW])) .nil)))))) ?_
 refine gl ?_;refine aN [1,5,40,41] [1,23,31] (fun(i:Nat)=>[(42,some (i64 i))]) (fun i=>[(33,some (.box (l.av.cells++[.ms 23 1 0 l.bo.length,.ms 27 1 0 l.bo.length,.ms 31 1 0 l.jo.length,nS]))),(27,some (.vec (bv (bf (List.replicate l.bo.length false) ((l.dv.map Dr.body).take i)))))]) (fun i=>i<=l.dv.length) (fun i=>l.dv.length-i) 0 (zero_le _) ?_;rintro i hi K1 J1;refine gC (fun t43=>?_) (fun t43=>?_) (st2:=(11,0))
 ·have hin:=aS t43;obtain⟨d,hd⟩:=ax hin;have hb:=c9 (kP hli hd);have hmt:=xT (k:=List.replicate l.bo.length false) (bs:=l.dv.map Dr.body) (i:=i) (b:=d.body) (by rw[getElem?_map,hd];rfl);refine gi (aA hd) ?_;refine gs (bP (n:=d.body.toNat) (.tmp rfl) (.tmp rfl) T219 rfl T4 rfl oz oz rfl) ?_;refine gs (wk (.tmp rfl) rfl (by rw[fW,jd,length_replicate];omega) (.const _) rfl T4 rfl) ?_;refine gD ?_;refine ga aF ?_;exact aH J1 (i+1) hin (hw:=Wk.of aW (.k (.cons rfl (BlkSub.of (by rw[vR,hmt])) (.k (.k (.k .nil))))))
 have hin:=aZ hi t43;have hall:bf (List.replicate l.bo.length false) ((l.dv.map Dr.body).take i)=bK l:=by rw[hin];unfold bK;rw[take_of_length_le (by rw[length_map];omega)]
 refine gW ((Wk.virt 900 4 rfl).trans<|Wk.of (sl:=[(1,some (.ptr 1 0)),(5,some (.ptr 33 0))]) (hp:=[(33,some (mX l 0)),(23,some (.vec (bv (cg l.bo.length 0)))),(27,some (.vec (bv (bK l)))),(31,some (.vec (bv (List.replicate l.jo.length false)))),(900,some (.row 4 []))]) aW (.cons rfl (BlkSub.bL (.cons (.refl _) (.cons (.refl _) (.cons (.refl _) (.cons (.refl _) (.cons (.refl _) (.cons (.refl _) (.cons (.refl _) (.cons (Sub.nM _ _ _) .nil)))))))) rfl) (.k (.cons rfl (BlkSub.of (by rw[hall])) (.k (.k .nil)))))) ?_
 refine gt (az (DL l hl hli (cg l.bo.length 0) (List.replicate l.jo.length false) (gy _ _) length_replicate hm []) (cq rfl) (fun k z h=>h) rfl rfl) ?_;refine f0 [5,8] [] (fun(kw:List Bool)(out:List Gr)=>[(9,some (bl (nextG l kw).isSome))]) (fun kw out=>[(8,some (.box ((nextG l kw).getD default).av.cells)),(33,some (mX l out.length)),(23,some (.vec (bv kw))),(27,some (.vec (bv (bK l)))),(31,some (.vec (bv (i7 l out)))),(900,some (.row 4 (out.map Gr.av)))]) (fun kw out=>kw.length=l.bo.length/\findFrom l (dw kw) kw out=(bH l,findG l)) (fun kw _=>dw kw) (cg l.bo.length 0) ([]) ⟨gy _ _,Up hli⟩ ?_
 rintro kw out ⟨hk,hf⟩ K2 J2;refine gC (fun t59=>?_) (fun t59=>?_) (st1:=(77777,0)) (st2:=(27,0))
 ·obtain ⟨g, hg⟩:=xU t59;have hgo:=vo hli hg;have hout:=TZ hli hk hf;refine gW (Wk.of (sl:=[(5,some (.ptr 33 0)),(8,some (.ptr 8 0))]) (hp:=[(8,some (.box g.av.cells)),(33,some (mX l out.length)),(23,some (.vec (bv kw))),(27,some (.vec (bv (bK l)))),(31,some (.vec (bv (i7 l out)))),(900,some (.row 4 (out.map Gr.av)))]) aW (.cons rfl (BlkSub.of (by rw [hg]; rfl)) (.k (.k (.k (.k (.k .nil))))))) ?_;refine gl ?_;refine aN [5,8,66,67] [8,33,27,31,900] (fun (j:Nat)=>[(68,some (i64 j))]) (fun j=>[(23,some (.vec (bv (bf kw (g.bo.take j)))))]) (fun j=>j <= g.bo.length) (fun j=>g.bo.length - j) 0 (zero_le _) ?_;rintro j hj K3 J3;refine gC (fun t69=>?_) (fun t69=>?_)
  ·have hin:=aS t69;obtain⟨b,hb⟩:=ax hin;have hbb:=hgo.b b (mem_of_getElem? hb);have hlb:=hgo.lb;refine gi (aA hb) ?_;refine gs (bP (n:=b.toNat) (.tmp rfl) (.tmp rfl) T219 rfl T4 rfl oz oz rfl) ?_;refine gs (wk (.tmp rfl) rfl (by rw[fW,jd];omega) (.const _) rfl T4 rfl) ?_;refine ga aF ?_;exact aH J3 (j+1) hin (hw:=Wk.of aW (.cons rfl (BlkSub.of (by rw[vR,xT hb])) (.k (.k (.k (.k (.k .nil)))))))
  have hin:=aZ hj t69;subst hin;refine gl ?_;refine aN [5,8,80,81] [8,33,27,900] (fun(q:Nat)=>[(82,some (i64 q))]) (fun q=>[(23,some (.vec (bv (bf kw g.bo)))),(31,some (.vec (bv (bf (i7 l out) (g.jo.take q)))))]) (fun q=>q<=g.jo.length) (fun q=>g.jo.length-q) 0 (zero_le _) ?_ (h2:=(.cons rfl (BlkSub.of (by rw[take_length])) (.k .nil)));rintro q hq K4 J4;refine gC (fun t83=>?_) (fun t83=>?_)
  ·have hin:=aS t83;obtain⟨b,hb⟩:=ax hin;have hbb:=hgo.j b (mem_of_getElem? hb);have hlj:=hgo.lj;refine gi (aA hb) ?_;refine gs (bP (n:=b.toNat) (.tmp rfl) (.tmp rfl) T219 rfl T4 rfl oz oz rfl) ?_;refine gs (wk (.tmp rfl) rfl (by rw[fW,jd,xJ];omega) (.const _) rfl T4 rfl) ?_;refine ga aF ?_;exact aH J4 (q+1) hin (hw:=Wk.of aW (.k (.cons rfl (BlkSub.of (by rw[vR,xT hb])) (.k (.k (.k (.k .nil)))))))
  have hin:=aZ hq t83;subst hin;refine gs (ci (.tmp rfl) rfl (by rw[length_map]) (.tmp rfl) T32 rfl T53 rfl rfl (by simp only[length_cons,length_nil];omega) rfl rfl) ?_;refine gD ?_ (25,0);refine gW (Wk.of (sl:=[(5,some (.ptr 33 0)),(8,some (.ptr 8 0))]) (hp:=[(8,some (.box g.av.cells)),(33,some (.box (l.av.cells++[.ms 23 1 0 l.bo.length,.ms 27 1 0 l.bo.length,.ms 31 1 0 l.jo.length,.ms 100 4 0 (out++[g]).length]))),(100,some (.row 4 ((out++[g]).map Gr.av))),(23,some (.vec (bv (bf kw g.bo)))),(27,some (.vec (bv (bK l)))),(31,some (.vec (bv (i7 l (out++[g])))))]) aW (.k (.cons rfl (BlkSub.of (by rw[length_append];rfl)) (.cons rfl (BlkSub.of (by rw[map_append];rfl)) (.k (.k (.cons rfl (BlkSub.of (by rw[Pk,take_length])) .nil))))))) ?_ (25,0)
  refine gW (Wk.rk (k:=100) (d:=900) rfl rfl) ?_ (26,0);refine gW (Wk.o (sl:=[(5,some (.ptr 33 0)),(103,some (g.av))]) (hp:=[(33,some (mX l (out++[g]).length)),(23,some (.vec (bv (bf kw g.bo)))),(27,some (.vec (bv (bK l)))),(31,some (.vec (bv (i7 l (out++[g]))))),(900,some (.row 4 ((out++[g]).map Gr.av)))])) ?_;refine gt (az (DL l hl hli (bf kw g.bo) (i7 l (out++[g])) (by rw[jd];exact hk) (xJ _ _) hm (out++[g])) (cq rfl) (by intro k z h;simp only[l6,aJ]at h;split at h;(subst_vars;exact h);split at h;(subst_vars;exact h);split at h;(subst_vars;exact h);split at h;(subst_vars;exact h);split at h;(subst_vars;exact h);cases h) rfl rfl) ?_;exact fC J2 (bf kw g.bo) (out++[g]) ⟨by rw[jd];exact hk,Pe hli hk hf hg⟩ (ru hli hk hg)
 have hg:=yT t59;obtain⟨e1,e2⟩:=Lu hf hg;subst e1 e2;refine gW (Wk.o (sl:=[(5,some (.ptr 33 0))]) (hp:=[(33,some (mX l (findG l).length)),(23,some (.vec (bv (bH l)))),(27,some (.vec (bv (bK l)))),(31,some (.vec (bv (i7 l (findG l))))),(900,some (.row 4 ((findG l).map Gr.av)))])) ?_ (27,0);refine gW (Sb l (bH l) (i7 l (findG l)) (findG l) hk (xJ _ _) hm) ?_;refine bh ?_;unfold oF;rw[if_pos hli,hli];rfl
end Go.Lw
