/- ModesFrame: for any linkage and any turns the law returns true and leaves its arguments as they were. No other condition. Part 5 of 8: what the later parts need -/
import Derived.Test.YtpdiojikejnehaaGreatWd
set_option linter.unusedVariables false
open List (mem_of_getElem? mem_append map_cons mem_cons length_cons length_append length_nil getD_eq_getElem?_getD all_eq_true getElem?_map getElem?_replicate append_nil map_append length_take take_of_length_le drop_zero take_length not_mem_nil length_map mem_of_mem_take map_take all_append length_replicate map_replicate map_set length_set)
open Nat (eq_of_beq_eq_true le_refl lt_or_ge le_trans zero_le)
open Option (map_eq_some_iff)
open Bool (and_eq_true)
open Int (toNat_natCast)
open Go.Proofs.Tryz
namespace Go.Lw
open Go.Proofs
theorem sw{α:Type}(f:α->AV)(l:List α)(hl:l.length<=281474976710656):FP 318 [.lst 3 (l.map f)] (i64 (cE l.length)):=by
 refine ah func318 ?_;refine aJ [0] [] (fun(k:Nat)=>[(3,some (i64 k))]) (fun _=>[]) (fun k=>k<=48/\∀j,j<k->2^j<l.length) (fun k=>48-k) 0 ⟨by omega,fun j h=>by omega⟩ ?_;rintro k ⟨hk,hj⟩ K1 J1;refine gs (gp (.const _) (.tmp rfl) oz (nE oz) rfl) ?_;refine gl ?_;refine gC (fun t8=>?_) (fun t8=>?_)
 ·have h1 : 2 ^ k < l.length := by have := t8; simp only [aa, decide_eq_true_eq] at this; omega
  have h2:k<48:=by
   rcases lt_or_ge k 48 with h |h
   ·exact h
   ·have:2 ^ 48 <= 2 ^ k:=bV h;have:(2:Nat) ^ 48 = 281474976710656:=by decide
    omega
  refine ga (cV oz) ?_;exact aD J1 (k+1) ⟨by omega,fun j h=>by rcases lt_or_ge j k with h3 |h3;exact hj j h3;(have:j=k:=by omega);subst this;exact h1⟩
 have h1:l.length<=2^k:=by have:=t8;simp only[aa,decide_eq_false_iff_not]at this;omega
 have h2:=CX hj h1;refine gs (gp (.const _) (.tmp rfl) oz (nE oz) rfl) ?_;refine gl ?_;refine gC (fun t15=>?_) (fun t15=>?_)
 ·have h3 : 2 ^ k ≠ l.length := by have := t15; simp only [aa, bne_iff_ne, ne_eq] at this; omega
  refine af ?_;unfold cE;rw[h2,if_neg h3];rfl
 have h3:2^k=l.length:=by have:=t15;simp only[aa,bne_eq_false_iff_eq]at this;omega
 refine af ?_;unfold cE;rw[h2,if_pos h3]
theorem IZ(ts:List (List Rt))(a:List Rt)(ha:∀r∈a,r.ok)(hl:a.length<=281474976710656)(ht:ts.length<=281474976710656):FP 252 [cJ ts,nR a] (bh (bW ts.length a)):=by
 refine ah func252 ?_;refine gl ?_;refine Ao [1,4] [] [] [] (¬(a≠[]/\(cE a.length<0\/(ts.length:Int)<cE a.length))) ?_ ?_
 ·intro K1 J1;refine gC (fun t10=>?_) (fun t10=>?_)
  ·have h0 : a ≠ [] := fun h => by rw [h] at t10; simp [aa] at t10
   refine gc (sw Rt.av a hl) ?_;refine bP ?_;refine gC (fun t21=>?_) (fun t21=>?_)
   ·have h1:cE a.length<0\/(ts.length:Int)<cE a.length:=by
     have h9:=t21
     by_cases h:cE a.length<0
     ·exact .inl h
     ·simp only[aa,decide_eq_false h,cond_false,decide_eq_true_eq]at h9;exact .inr h9
    refine af ?_;unfold bW;rw[if_pos ⟨h0,h1⟩];rfl
   have h1:¬(cE a.length<0\/(ts.length:Int)<cE a.length):=by
    have h9:=t21
    by_cases h:cE a.length<0
    ·simp only[aa,decide_eq_true h,cond_true]at h9;cases h9
    ·simp only[aa,decide_eq_false h,cond_false,decide_eq_false_iff_not]at h9;exact fun h'=>h'.elim h h9
   exact nJ J1 (fun h=>h1 h.2)
  have h0:a=[]:=by
   cases a with
   |nil=>rfl
   |cons c l=>simp[aa]at t10
  exact nJ J1 (fun h=>h.1 h0)
 rintro hn;refine gl ?_;refine aJ [23,24] [] (fun(i:Nat)=>[(25,some (i64 i))]) (fun _=>[]) (fun i=>i<=a.length/\(a.take i).all Rt.valid=true) (fun i=>a.length-i) 0 ⟨zero_le _,by simp⟩ ?_;rintro i ⟨hi,hv⟩ K2 J2;refine gC (fun t26=>?_) (fun t26=>?_)
 ·have hin : i < a.length := by simpa [aa] using t26
  obtain⟨r,hr⟩:=aq hin;have hrok:=ha r (mem_of_getElem? hr);refine gi (au hr) ?_;refine gc (ua r hrok) ?_;refine gC (fun t31=>?_) (fun t31=>?_)
  ·have hrv : r.valid = false := by simpa using t31
   refine af ?_;unfold bW;rw[if_neg hn,if_neg]
   ·rfl
   ·rw[all_eq_true];intro h;rw[h r (mem_of_getElem? hr)]at hrv;cases hrv
  have hrv:r.valid=true:=by simpa using t31
  refine ga aE ?_;exact aD J2 (i+1) ⟨by omega,by rw[cS hr,all_append,hv];simp[hrv]⟩
 have hin:i=a.length:=by have:a.length<=i:=(by simpa[aa]using t26);omega
 subst hin;rw[take_length]at hv;refine af ?_;unfold bW;rw[if_neg hn,if_pos hv];rfl
theorem H7(a:List Rat)(ha:∀q∈a,Qs q)(hl:a.length<=281474976710656):FP 329 [nA a] (bl (bj a)):=by
 refine ah func329 ?_;refine gl ?_;refine aJ [5,6] [] (fun(i:Nat)=>[(7,some (i64 i))]) (fun _=>[]) (fun i=>i<=a.length/\bj (a.take i)=true) (fun i=>a.length-i) 0 ⟨zero_le _,by simp[bj]⟩ ?_;rintro i ⟨hi,hv⟩ K1 J1;refine gC (fun t8=>?_) (fun t8=>?_)
 ·have hin : i < a.length := by simpa [aa] using t8
  obtain⟨q,hq⟩:=aq hin;have hqs:=ha q (mem_of_getElem? hq);refine gi (au hq) ?_;refine gc (vV (rt q) hqs.ok) ?_;refine gC (fun t13=>?_) (fun t13=>?_)
  ·have h0:q≠0:=by
    intro h;have h9:=t13;rw[bM,h]at h9;cases h9
   refine af ?_
   have:bj a=false:=by
    rw[Bool.eq_false_iff];intro h;exact h0 (by simpa using List.all_eq_true.1 h q (mem_of_getElem? hq))
   rw[this];rfl
  have h0:q=0:=by
   have h9:bN q=0:=by have:=t13;rw[bM]at this;simpa[aa]using this
   exact oL h9
  refine ga aE ?_;exact aD J1 (i+1) ⟨by omega,by rw[cS hq];simp only[bj,all_append,and_eq_true];exact⟨hv,by simp[h0]⟩⟩
 have hin:i=a.length:=by have:a.length<=i:=(by simpa[aa]using t8);omega
 subst hin;rw[take_length]at hv;refine af ?_;rw[hv];rfl
theorem Hb(a:List Rat)(hl:a.length<=281474976710656):FP 328 [nA a] (bl (bj a)):=by
 refine ah func328 ?_;refine gl ?_;refine aJ [5,6] [] (fun(i:Nat)=>[(7,some (i64 i))]) (fun _=>[]) (fun i=>i<=a.length/\bj (a.take i)=true) (fun i=>a.length-i) 0 ⟨zero_le _,by simp[bj]⟩ ?_;rintro i ⟨hi,hv⟩ K1 J1;refine gC (fun t8=>?_) (fun t8=>?_)
 ·have hin : i < a.length := by simpa [aa] using t8
  obtain⟨q,hq⟩:=aq hin;refine gi (au hq) ?_;refine bP ?_;refine bP ?_;refine gC (fun t24=>?_) (fun t24=>?_)
  ·have h0:q≠0:=Il t24;refine af ?_
   have:bj a=false:=by
    rw[Bool.eq_false_iff];intro h;exact h0 (by simpa using List.all_eq_true.1 h q (mem_of_getElem? hq))
   rw[this];rfl
  have h0:q=0:=FM t24;refine ga aE ?_;exact aD J1 (i+1) ⟨by omega,by rw[cS hq];simp only[bj,all_append,and_eq_true];exact⟨hv,by simp[h0]⟩⟩
 have hin:i=a.length:=by have:a.length<=i:=(by simpa[aa]using t8);omega
 subst hin;rw[take_length]at hv;refine af ?_;rw[hv];rfl
theorem Be(a:List Rat)(ha:∀q∈a,Qs q)(hl:a.length<=1099511627776):FP 278 [nA a] (nA a):=by
 refine ah func278 ?_;refine gl ?_;refine gW (Wk.virt 900 3 rfl) ?_;refine aJ [6,7] [] (fun(i:Nat)=>[(3,some (.ms 900 3 0 i)),(8,some (i64 i))]) (fun i=>[(900,some (.row 3 ((a.take i).map qA)))]) (fun i=>i<=a.length) (fun i=>a.length-i) 0 (zero_le _) ?_;rintro i hi K1 J1;refine gC (fun t9=>?_) (fun t9=>?_) (st2:=(7,0))
 ·have hin : i < a.length := by simpa [aa] using t9
  obtain⟨q,hq⟩:=aq hin;have hqs:=(ha q (mem_of_getElem? hq)).ok;have hl1:(rt q).num.length<=137438953472:=hqs.2.2.1;have hl2:(rt q).den.length<=137438953472:=hqs.2.2.2;refine gi (au hq) ?_;refine gs (f0 T43 rfl T350 rfl rfl rfl) ?_;refine gs (k9 (.tmp rfl) rfl rfl (.tmp rfl) T43 rfl T350 rfl rfl (by simp only[length_map];omega) rfl rfl) ?_;refine gs (f0 T43 rfl T350 rfl rfl rfl) ?_;refine gs (k9 (.tmp rfl) rfl rfl (.tmp rfl) T43 rfl T350 rfl rfl (by simp only[length_map];omega) rfl rfl) ?_;refine gs (bR (.tmp rfl) rfl (by simp;omega) (.tmp rfl) T67 rfl T45 rfl rfl (by simp;omega) rfl rfl) ?_;refine gD ?_ (6,0);refine gW (Wk.of (sl:=[(3,some (.ms 25 3 0 (i+1))),(6,some (nA a)),(7,some (i64 a.length)),(8,some (i64 i))]) (hp:=[(25,some (.row 3 ((a.take (i+1)).map qA)))]) aQ (.cons rfl (BlkSub.of (by rw[cS hq,map_append];rfl)) .nil)) ?_ (6,0);refine gW (Wk.rk (k:=25) (d:=900) rfl rfl) ?_;refine ga aE ?_;exact aD J1 (i+1) hin
 have hin:i=a.length:=by have:a.length<=i:=(by simpa[aa]using t9);omega
 subst hin;refine gW ((Wk.freeze (k:=900) rfl).trans<|Wk.of (sl:=[(3,some (nA a))]) (hp:=[]) (.cons rfl (Sub.of (by rw[bI (by simp),take_length];rfl)) .nil) .nil) ?_;refine af ?_;rfl
theorem lL{n:Nat}(a:List Rat)(hn:n<=5)(ha:Nl n a)(hs:∀q∈a,Qs q):FP 237 [nA a] (nA (sh n (ae n a))):=by
 have hl:=ha.len5 hn;rw[<- tg ha hn];refine ah func237 ?_;refine gc (sw qA a oz) ?_;refine gl ?_;refine gC (fun t17=>?_) (fun t17=>?_) (st1:=(3,0));exact absurd t17 (by rcases ha with rfl |⟨j,hj,h⟩;(simp[aa]);(rw[h,pZ];simp[aa];omega));refine gl ?_;refine aJ [0] [] (fun(m:Nat)=>[(4,some (i64 m))]) (fun _=>[]) (fun m=>mo a m) (fun m=>m) a.length (I5 (ha.mono hn)) ?_;rintro m hm K1 J1;refine gs (ef rfl rfl rfl (fun h=>eI (.opt rfl (o1 h)) (.const _) oz (fD (by have:=hm.le;omega)) rfl)) ?_;refine gs (ef rfl rfl rfl (fun h=>cQ (.opt rfl (o1 h)) (.some _ (.opt rfl (o1 h)) oz) (.some _ (.opt rfl (o1 h)) oz) T67 rfl T45 rfl oz (by have:=hm.le;simp;omega) rfl)) ?_;refine bF (fun _=>(by have h9:=Hb ((a.drop (m/2)).take (m-m/2)) (by simp;omega);rw[<- tW]at h9;exact h9)) ?_;refine gC (fun t31=>?_) (fun t31=>?_)
 ·have h1:1<m/\bj ((a.drop (m/2)).take (m-m/2))=true:=by
   have h9:=t31
   by_cases h:(m:Int)>1
   ·simp only[aa,decide_eq_true h,cond_true]at h9;exact⟨by omega,h9⟩
   ·simp only[aa,decide_eq_false h,cond_false]at h9;cases h9
  refine gs (eI (.tmp rfl) (.const _) oz (fD (by have:=hm.le;omega)) rfl) ?_;exact aD J1 (m/2) (CG hm h1.1 h1.2)
 have h1:1<m->bj ((a.drop (m/2)).take (m-m/2))=false:=by
  intro h;have h9:=t31;simp only[aa,decide_eq_true (show(m:Int)>1 by omega),cond_true]at h9;exact h9
 refine gs (ef rfl rfl rfl (fun h=>cQ (.opt rfl (o1 h)) (.none _) (.some _ (.const _) oz) T67 rfl T45 rfl oz (by have h8:(m:Int)=1:=(by simpa[aa]using h);have:=hm.le;simp only[length_map];omega) rfl)) ?_;refine bF (fun _=>(by have h9:=Hb ((a.drop 0).take 1) (by simp;omega);rw[<- tW]at h9;exact h9)) ?_;refine gC (fun t40=>?_) (fun t40=>?_)
 ·have h2:m=1/\bj (a.take 1)=true:=by
   have h9:=t40
   by_cases h:m=1
   ·rw[h]at h9;exact⟨h,h9⟩
   ·rw[show aa .eql (m:Int) 1=false by simp[aa];omega]at h9;cases h9
  obtain⟨rfl,h3⟩:=h2;refine gR ?_;exact i9 (by rw[D8 hm h3];exact Sub.nil _ _ _)
 have h2:m=1->bj (a.take 1)=false:=by
  intro h;have h9:=t40;rw[h]at h9;exact h9
 have h3:=C0 hm h1 h2;refine gs (cQ (.tmp rfl) (.none _) (.some _ (.tmp rfl) oz) T67 rfl T45 rfl oz (by have:=hm.le;simp;omega) rfl) ?_;refine gc (by have h9:=Be ((a.drop 0).take m) (fun q hq=>hs q (List.mem_of_mem_drop (mem_of_mem_take hq))) (by simp;omega);have h8:=h9;rw[<- tW]at h9;exact h9) ?_;refine af ?_;rw[h3];simp[nA,map_take]
theorem yo(d:Nat)(hd:Nat.blt d 1000=true)(a:List Rat)(n:Nat)(hl:a.length<=n)(hn:n<=1099511627776) :
  Con prog 331 [nA a,i64 n] [] (.ms d 3 0 n) [(d,some (.row 3 ((aU a n).map qA)))]:=by
 refine gF func331 (fun k z h=>by cases h) ?_;refine gs (gO (.tmp rfl) T67 rfl T45 rfl rfl oz (by dsimp only;omega) rfl) ?_;refine gs (Kc (.tmp rfl) rfl (by simp) (.tmp rfl) T67 rfl T45 rfl rfl (by simp;omega) rfl) ?_ (3,0);refine gW (Wk.of (sl:=[(5,some (.ms 7 3 0 n))]) (hp:=[(7,some (.row 3 ((aU a n).map qA)))]) (.cons rfl (Sub.of (by simp)) .nil) (.cons rfl (D6 a n hl) .nil)) ?_;refine gR ?_;exact aw.own1 rfl hd rfl
theorem Au(a:List Rat)(n:Nat)(hl:a.length<=n)(hn:n<=1099511627776):FP 331 [nA a,i64 n] (nA (aU a n)):=by
 have h:=Con.freeze (by rw[length_map,dz hl];omega) (yo 0 rfl a n hl hn);rw[drop_zero,take_of_length_le (by rw[length_map,dz hl];exact le_refl _)]at h;exact h
theorem oC(a b:List Rat)(ha:∀q∈a,Qs q)(hb:∀q∈b,Qs q)(la:a.length<=1099511627776)(lb:b.length<=1099511627776):FP 239 [nA a,nA b] (nA (cg a b)):=by
 obtain⟨n,hn⟩:∃n,n=max a.length b.length:=⟨_,rfl⟩
 have hwa:=dz (show a.length<=n by omega);have hwb:=dz (show b.length<=n by omega);have hp:=dU (a:=a) (b:=b);rw[<- hn]at hp;have qa:∀q∈aU a n,Qs q:=fun q hq=>by rcases List.mem_append.1 hq with h |h;exact ha q h;(rw[(List.mem_replicate.1 h).2];exact Qs.zero)
 have qb:∀q∈aU b n,Qs q:=fun q hq=>by rcases List.mem_append.1 hq with h |h;exact hb q h;(rw[(List.mem_replicate.1 h).2];exact Qs.zero)
 refine ah func239 ?_;refine gl ?_;refine gl ?_;refine gs (pJ (.tmp rfl) (.tmp rfl) rfl) ?_ (2,0);refine gW (Wk.of (sl:=[(0,some (nA a)),(1,some (nA b)),(5,some (i64 n))]) (hp:=[]) (.k (.k (.cons rfl (Sub.int oz) .nil))) .nil) ?_;refine go ?_;refine gt (aA (yo 900 rfl a n oz oz) (bp rfl rfl) aC rfl rfl) ?_;refine gc (Au b n oz oz) ?_;refine aJ [1,19] [] (fun(i:Nat)=>[(0,some (.ms 900 3 0 n)),(20,some (i64 i))]) (fun i=>[(900,some (.row 3 (((cg a b).take i++(aU a n).drop i).map qA)))]) (fun i=>i<=n) (fun i=>n-i) 0 (zero_le _) ?_;rintro i hi K1 J1;refine gC (fun t21=>?_) (fun t21=>?_) (st2:=(8,0))
 ·have hin : i < n := by simpa [aa] using t21
  have hmx:=yY (p:=cg a b) (w:=aU a n) (i:=i) oz oz;have hqa:=(qa _ (sW (i:=i) oz)).ok;have hqb:=(qb _ (sW (i:=i) oz)).ok;refine gs (bT (n:=i) (.tmp rfl) (.tmp rfl) T67 rfl T45 rfl oz oz rfl) ?_;refine gs (dW (.tmp rfl) rfl (au hmx) T45 rfl rfl rfl) ?_;refine gi (au (getD_some (i:=i) (l:=aU b n) oz)) ?_;refine gc (mN (rt ((aU a n).getD i 0)) (rt ((aU b n).getD i 0)) hqa hqb) ?_;refine gs (bT (n:=i) (.tmp rfl) (.tmp rfl) T67 rfl T45 rfl oz oz rfl) ?_;refine gs (dw (.tmp rfl) rfl (au hmx) rfl (.tmp rfl) rfl rfl T45 rfl rfl) ?_;refine gD ?_ (7,0);refine gW (Wk.of (sl:=[(0,some (.ms 900 3 0 n)),(1,some (nA (aU b n))),(19,some (i64 n)),(20,some (i64 i))]) (hp:=[(900,some (.row 3 (((cg a b).take (i+1)++(aU a n).drop (i+1)).map qA)))]) aQ (.cons rfl (BlkSub.of (by rw[A6 oz oz (by rw[Ht,<- hn,bM,bM])])) .nil)) ?_;refine ga aE ?_;exact aD J1 (i+1) hin
 have hin:i=n:=by have:n<=i:=(by simpa[aa]using t21);omega
 refine gW ((Wk.freeze (k:=900) rfl).trans<|Wk.of (sl:=[(0,some (nA (cg a b)))]) (hp:=[]) (.cons rfl (Sub.of (by rw[bI (by simp;omega),hin,List.drop_of_length_le oz,take_of_length_le oz,append_nil];rfl)) .nil) .nil) ?_;refine af ?_;rfl
theorem sN(a:List Rat)(ha:∀q∈a,Qs q)(la:a.length<=1099511627776):FP 240 [nA a] (nA (cG a)):=by
 obtain⟨n,hn⟩:∃n,n=a.length:=⟨_,rfl⟩
 refine ah func240 ?_;refine gl ?_;refine gs (gO (.tmp rfl) T67 rfl T45 rfl rfl oz (by dsimp only;omega) rfl) ?_ (2,0);refine gW (Wk.of (sl:=[(0,some (nA a)),(3,some (.ms 7 3 0 n))]) (hp:=[(7,some (.row 3 ((aU [] n).map qA)))]) (.k (.cons rfl (Sub.of (by simp[hn])) .nil)) (.cons rfl (BlkSub.of_ (D6 [] n (by simp)) (by rw[hn];rfl)) .nil)) ?_;refine gl ?_;refine aJ [0] [] (fun(i:Nat)=>[(3,some (.ms 7 3 0 n)),(9,some (i64 n)),(10,some (i64 i))]) (fun i=>[(7,some (.row 3 (((cG a).take i++(aU [] n).drop i).map qA)))]) (fun i=>i<=n) (fun i=>n-i) 0 (zero_le _) ?_ (h1:=(.k (.cons rfl (Sub.int oz) (.k .nil))));rintro i hi K1 J1;refine gC (fun t11=>?_) (fun t11=>?_) (st2:=(7,0))
 ·have hin : i < n := by simpa [aa] using t11
  have hm1:=io (a:=a);have hm2:=dz (a:=[]) (n:=n) (by simp);have hmx:=yY (p:=cG a) (w:=aU [] n) (i:=i) oz oz;have hqa:=(ha _ (sW (i:=i) oz)).ok;refine gi (au (getD_some (i:=i) oz)) ?_;refine gc (ul (rt (a.getD i 0)) hqa) ?_;refine gs (bT (n:=i) (.tmp rfl) (.tmp rfl) T67 rfl T45 rfl oz oz rfl) ?_;refine gs (dw (.tmp rfl) rfl (au hmx) rfl (.tmp rfl) rfl rfl T45 rfl rfl) ?_ (6,0);refine gW (Wk.of (sl:=[(0,some (nA a)),(3,some (.ms 7 3 0 n)),(9,some (i64 n)),(10,some (i64 i))]) (hp:=[(7,some (.row 3 (((cG a).take (i+1)++(aU [] n).drop (i+1)).map qA)))]) aQ (.cons rfl (BlkSub.of (by rw[A6 oz oz (by rw[PL,bM])])) .nil)) ?_;refine ga aE ?_;exact aD J1 (i+1) hin
 have hin:i=n:=by have:n<=i:=(by simpa[aa]using t11);omega
 have hm1:=io (a:=a);have hm2:=dz (a:=[]) (n:=n) (by simp);refine gW ((Wk.freeze (k:=7) rfl).trans<|Wk.of (sl:=[(3,some (nA (cG a)))]) (hp:=[]) (.cons rfl (Sub.of (by rw[bI (by simp;omega),hin,List.drop_of_length_le oz,take_of_length_le oz,append_nil];rfl)) .nil) .nil) ?_;refine af ?_;rfl
theorem yS(a b:List Rat)(n:Nat)(la:a.length<=n)(lb:b.length<=n)(hn:n<=274877906944):FP 330 [nA a,nA b,i64 n] (nA (eK a b n)):=by
 refine ah func330 ?_;refine gt (aA (yo 900 rfl a n la oz) (bp rfl rfl) aC rfl rfl) ?_;refine gc (Au b n lb oz) ?_;refine gs (k9 (.tmp rfl) rfl (by simp[dz la]) (.tmp rfl) T67 rfl T45 rfl rfl (by simp[dz lb];omega) rfl rfl) ?_;refine af ?_;rw[<- map_append];rfl
theorem pc(ts:LL)(m r:Nat)(ht:ik ts m r)(hm:m<=5)(hml:m<=ts.length)(k:Nat):∀(j:Nat)(a b:List Rat)(e f:Nat),j<=m->j<=k->Nl j a->Nl j b->Cb e a->Cb f b->e+f+eB r j<4398046511104 ->
  FP 238 [aN ts,nA a,nA b] (nA (pT ts k a b)):=by
 induction k using Nat.strongRecOn
 rename_i k ih;intro j a b e f hj hjk ha hb ca cb hs;have hla:=ha.len5 oz;have hlb:=hb.len5 oz;refine ah func238 ?_;refine gl ?_;refine gl ?_;refine Ri [3] [3] (fun(x y:List Rat)(e1 f1:Nat)=>[(1,some (nA x)),(2,some (nA y))]) (fun _ _ _ _=>[]) (fun x y e1 f1=>y.length<=x.length/\Nl j x/\Nl j y/\Cb e1 x/\Cb f1 y/\e1+f1=e+f/\pT ts k a b=pT ts k x y) ?_ ?_
 ·intro K1 J1;refine gC (fun t18=>?_) (fun t18=>?_)
  ·have h1 : a.length < b.length := by have := t18; simp only [aa, decide_eq_true_eq] at this; omega
   exact HC J1 b a f e ⟨by omega,hb,ha,cb,ca,by omega,yv ts k a b h1⟩
  have h1:b.length<=a.length:=by have:=t18;simp only[aa,decide_eq_false_iff_not]at this;omega
  exact HC J1 a b e f ⟨h1,ha,hb,ca,cb,rfl,rfl⟩
 rintro x y e1 f1 ⟨hyx,hx,hy,cx,cy,hef,hp⟩;have hlx:=hx.len5 oz;have hly:=hy.len5 oz;have qx:∀q∈x,Qs q:=fun q hq=>cx.qs oz hq
 have qy:∀q∈y,Qs q:=fun q hq=>cy.qs oz hq
 rw[hp];refine gc (H7 x qx oz) ?_;refine bF (fun _=>(H7 y qy oz)) ?_;refine gC (fun t21=>?_) (fun t21=>?_)
 ·have h1:bj x=true\/bj y=true:=by
   have:=t21;cases hz:bj x
   ·rw[hz]at this;exact .inr this
   ·exact .inl rfl
  refine gR ?_;exact i9 (by rw[SF hyx h1];exact Sub.nil _ _ _)
 have h1:¬(bj x=true\/bj y=true):=by
  have:=t21;cases hz:bj x
  ·rw[hz]at this;intro h;rcases h with h |h;cases h;(rw[show bj y=false from this]at h;cases h)
  ·rw[hz]at this;cases this
 refine gl ?_;refine gC (fun t28=>?_) (fun t28=>?_)
 ·have h2 : x.length = 1 := by have := t28; simp only [aa, beq_iff_eq] at this; omega
  obtain⟨p,rfl⟩:=List.length_eq_one_iff.1 h2;have h3:y≠[]:=fun h=>h1 (.inr (by rw[h];rfl))
  obtain⟨q,rfl⟩:∃q,y=[q]:=List.length_eq_one_iff.1 (by have:=List.length_pos_iff.2 h3;simp at hyx;omega);refine gi rfl ?_;refine gi rfl ?_;refine gc (F5 (rt p) (rt q) (qx p (by simp)).ok (qy q (by simp)).ok) ?_;refine gD ?_;refine af ?_;rw[O3 h1,bM,bM];rfl
 have h2:x.length≠1:=by have:=t28;simp only[aa,beq_eq_false_iff_ne,ne_eq]at this;omega
 have h3:x≠[]:=fun h=>h1 (.inl (by rw[h];rfl))
 obtain⟨i,hij,hxl⟩:∃i,i+1<=j/\x.length=2^(i+1):=by
  rcases oQ hx with h |h |h
  ·exact absurd (List.length_eq_zero_iff.1 h) h3
  ·exact absurd h h2
  ·exact h
 obtain⟨k',rfl⟩:∃k',k=k'+1:=⟨k-1,by omega⟩
 have hp2:=Nat.two_pow_pos i;have hpi:2^i<=32:=bV (b:=5) oz;have hps:2^(i+1)=2*2^i:=by rw[Nat.pow_succ];omega
 have hes:eB r (i+1)<=eB r j:=gV r hij;have hee:eB r (i+1)=2*eB r i+r+2:=rfl;have n1:Nl i (x.take (2^i)):=.inr ⟨i,le_refl _,fy hxl⟩;have n2:Nl i (x.drop (2^i)):=.inr ⟨i,le_refl _,fJ hxl⟩;refine gl ?_;refine gs (eI (.tmp rfl) (.const _) oz (show _=((2^i:Nat):Int) by rw[fD oz,hxl,fp]) rfl) ?_;refine gs (cQ (.tmp rfl) (.none _) (.some _ (.tmp rfl) oz) T67 rfl T45 rfl oz (by simp only[length_map];omega) rfl) ?_;refine gs (cQ (.tmp rfl) (.some _ (.tmp rfl) oz) (.none _) T67 rfl T45 rfl (by simp only[length_map];omega) oz rfl) ?_;refine gD ?_ (9,0);refine gW (Wk.of (sl:=[(1,some (nA x)),(2,some (nA y)),(3,some (.ptr 3 0)),(7,some (i64 ((2^i:Nat):Int))),(8,some (nA (x.take (2^i)))),(9,some (nA (x.drop (2^i))))]) (hp:=[(3,some (.box [.lst 1 (ts.map nA)]))]) (.k (.k (.k (.k (.cons rfl (Sub.of (kH x (2^i))) (.cons rfl (Sub.of (mi x (2^i))) .nil)))))) (.k .nil)) ?_;refine gl ?_;refine gC (fun t52=>?_) (fun t52=>?_)
 ·have h4 : y.length <= 2 ^ i := by have := t52; simp only [aa, decide_eq_true_eq] at this; omega
  have n3:Nl i y:=Rg hy h4;have s1:=fL ts m ht.1 i k' _ _ oz oz n1 n3;have s2:=fL ts m ht.1 i k' _ _ oz oz n2 n3;refine gc (ih k' oz i _ _ e1 f1 oz oz n1 n3 cx.take cy oz) ?_;refine gc (ih k' oz i _ _ e1 f1 oz oz n2 n3 cx.drop cy oz) ?_;refine gc (yS _ _ (2^i) s1.1.le s2.1.le oz) ?_;refine gD ?_;refine af ?_;rw[UE hxl h4 h1]
 have h4:¬y.length<=2^i:=by have:=t52;simp only[aa,decide_eq_false_iff_not]at this;omega
 have hyl:=Nw hy h4 oz;have n3:Nl i (y.take (2^i)):=.inr ⟨i,le_refl _,fy hyl⟩;have n4:Nl i (y.drop (2^i)):=.inr ⟨i,le_refl _,fJ hyl⟩;have nd:=ht.1 i oz;have cd:=ht.2.cb i;have s1:=fL ts m ht.1 i k' _ _ oz oz n1 n3;have s2:=fL ts m ht.1 i k' _ _ oz oz n2 n4;have s3:=fL ts m ht.1 i k' _ _ oz oz s2.1 nd;have s4:=fL ts m ht.1 i k' _ _ oz oz n1 n4;have s5:=fL ts m ht.1 i k' _ _ oz oz n2 n3;have c1:=Cb.mul ht (k:=k') (show i<=m by omega) oz n1 n3 cx.take cy.take;have c2:=Cb.mul ht (k:=k') (show i<=m by omega) oz n2 n4 cx.drop cy.drop;have c3:=Cb.mul ht (k:=k') (show i<=m by omega) oz s2.1 nd c2 cd;have c4:=Cb.mul ht (k:=k') (show i<=m by omega) oz n1 n4 cx.take cy.drop;have c5:=Cb.mul ht (k:=k') (show i<=m by omega) oz n2 n3 cx.drop cy.take;have hpT:=OC (ts:=ts) (k:=k') hxl h4 hyx h1;refine gs (cQ (.tmp rfl) (.none _) (.some _ (.tmp rfl) oz) T67 rfl T45 rfl oz (by simp only[length_map];omega) rfl) ?_;refine gs (cQ (.tmp rfl) (.some _ (.tmp rfl) oz) (.none _) T67 rfl T45 rfl (by simp only[length_map];omega) oz rfl) ?_;refine gD ?_ (12,0);refine gW (Wk.of (sl:=[(1,some (nA x)),(3,some (.ptr 3 0)),(7,some (i64 ((2^i:Nat):Int))),(8,some (nA (x.take (2^i)))),(9,some (nA (x.drop (2^i)))),(10,some (nA (y.take (2^i)))),(11,some (nA (y.drop (2^i))))]) (hp:=[(3,some (.box [.lst 1 (ts.map nA)]))]) (.k (.k (.k (.k (.k (.cons rfl (Sub.of (kH y (2^i))) (.cons rfl (Sub.of (mi y (2^i))) .nil))))))) (.k .nil)) ?_;refine gc (sw qA x oz) ?_;refine ga (show _=(i:Int) by rw[hxl,pZ,dA oz];omega) ?_;refine gi (wC (j:=i) oz) ?_;refine gD ?_;refine gc (ih k' oz i _ _ e1 f1 oz oz n1 n3 cx.take cy.take oz) ?_;refine gc (ih k' oz i _ _ e1 f1 oz oz n2 n4 cx.drop cy.drop oz) ?_;refine gc (ih k' oz i _ _ _ _ oz oz s2.1 nd c2 cd oz) ?_;refine gc (oC _ _ (fun q hq=>c1.qs oz hq) (fun q hq=>c3.qs oz hq) (by have:=s1.1.le;omega) (by have:=s3.1.le;omega)) ?_;refine gD ?_;refine gc (ih k' oz i _ _ e1 f1 oz oz n1 n4 cx.take cy.drop oz) ?_;refine gc (ih k' oz i _ _ e1 f1 oz oz n2 n3 cx.drop cy.take oz) ?_;refine gc (oC _ _ (fun q hq=>c4.qs oz hq) (fun q hq=>c5.qs oz hq) (by have:=s4.1.le;omega) (by have:=s5.1.le;omega)) ?_;refine gc (yS _ _ (2^i) (by have:=s1.1.le;have:=s3.1.le;rw[dU];omega) (by have:=s4.1.le;have:=s5.1.le;rw[dU];omega) oz) ?_;refine gD ?_;refine af ?_;rw[hpT]
theorem yH(ts:LL)(m r:Nat)(ht:ik ts m r)(hm:m<=5)(hml:m<=ts.length)(i:Nat)(a:List Rat)(e:Nat)(hi:i+1<=m)(hal:a.length=2^(i+1))(ca:Cb e a)(hs:4*e+3*eB r i+r+1<4398046511104) :
  FP 319 [aN ts,nA a] (nA (gY ts i a)):=by
 have hp2:=Nat.two_pow_pos i;have hpi:2^i<=32:=bV (b:=5) oz;have hps:2^(i+1)=2*2^i:=by rw[Nat.pow_succ];omega
 have n1:Nl i (a.take (2^i)):=.inr ⟨i,le_refl _,fy hal⟩;have n2:Nl i (a.drop (2^i)):=.inr ⟨i,le_refl _,fJ hal⟩;have nd:=ht.1 i oz;have cd:=ht.2.cb i;have s1:=fL ts m ht.1 i i _ _ oz oz n1 n1;have s2:=fL ts m ht.1 i i _ _ oz oz n2 n2;have s3:=fL ts m ht.1 i i _ _ oz oz s2.1 nd;have c1:=Cb.mul ht (k:=i) (show i<=m by omega) oz n1 n1 ca.take ca.take;have c2:=Cb.mul ht (k:=i) (show i<=m by omega) oz n2 n2 ca.drop ca.drop;have c3:=Cb.mul ht (k:=i) (show i<=m by omega) oz s2.1 nd c2 cd;refine ah func319 ?_;refine gl ?_;refine gs (eI (.tmp rfl) (.const _) oz (show _=((2^i:Nat):Int) by rw[fD oz,hal,fp]) rfl) ?_;refine gs (cQ (.tmp rfl) (.none _) (.some _ (.tmp rfl) oz) T67 rfl T45 rfl oz (by simp only[length_map];omega) rfl) ?_;refine gs (cQ (.tmp rfl) (.some _ (.tmp rfl) oz) (.none _) T67 rfl T45 rfl (by simp only[length_map];omega) oz rfl) ?_;refine gD ?_ (3,0);refine gW (Wk.of (sl:=[(1,some (nA a)),(2,some (.ptr 2 0)),(6,some (nA (a.take (2^i)))),(7,some (nA (a.drop (2^i))))]) (hp:=[(2,some (.box [.lst 1 (ts.map nA)]))]) (.k (.k (.cons rfl (Sub.of (kH a (2^i))) (.cons rfl (Sub.of (mi a (2^i))) .nil)))) (.k .nil)) ?_;refine gc (pc ts m r ht hm hml i i _ _ e e oz oz n1 n1 ca.take ca.take oz) ?_;refine gc (pc ts m r ht hm hml i i _ _ e e oz oz n2 n2 ca.drop ca.drop oz) ?_;refine gc (sw qA a oz) ?_;refine ga (show _=(i:Int) by rw[hal,pZ,dA oz];omega) ?_;refine gi (wC (j:=i) oz) ?_;refine gc (pc ts m r ht hm hml i i _ _ _ _ oz oz s2.1 nd c2 cd oz) ?_;refine gc (sN _ (fun q hq=>c3.qs oz hq) (by have:=s3.1.le;omega)) ?_;refine gc (oC _ _ (fun q hq=>c1.qs oz hq) (fun q hq=>c3.minus.qs oz hq) (by have:=s1.1.le;omega) (by have:=s3.1.le;rw[io];omega)) ?_;refine gD ?_;refine af ?_;rfl
theorem ou(ts:LL)(m r:Nat)(ht:ik ts m r)(hm:m<=5)(hml:m<=ts.length)(j:Nat):∀(a:List Rat)(e:Nat),j<=m->Nl j a->Cb e a->sB r j e<4398046511104 ->
  FP 230 [aN ts,nA a] (i64 (T.sgn (am ts) j (ae j a))):=by
 induction j using Nat.strongRecOn
 rename_i j ih;intro a e hj ha ca hs;have hse:=ow r j e;have qa:∀q∈a,Qs q:=fun q hq=>ca.qs oz hq
 obtain⟨s,hsa⟩:∃s,s=sh j (ae j a):=⟨_,rfl⟩
 have hsd:ae j s=ae j a:=by rw[hsa,a7]
 have hsn:Nl j s:=by rw[hsa];exact ee j _
 have cs:Cb e s:=by rw[hsa];exact ca.sh ha
 have hls:=hsn.len5 oz;rw[<- hsd];refine ah func230 ?_;refine gc (hsa▸lL a oz ha qa) ?_;refine gl ?_;refine gC (fun t12=>?_) (fun t12=>?_)
 ·have h1 : s=[] := List.length_eq_zero_iff.1 (by have := t12;simp only[aa,beq_iff_eq]at this;omega);refine af ?_;rw[h1,fV,T.sgn_zero];rfl
 have h1:s.length≠0:=by have:=t12;simp only[aa,beq_eq_false_iff_ne,ne_eq]at this;omega
 refine gl ?_;refine gC (fun t15=>?_) (fun t15=>?_)
 ·have h2 : s.length = 1 := by have := t15; simp only [aa, beq_iff_eq] at this; omega
  obtain⟨q,rfl⟩:=List.length_eq_one_iff.1 h2;refine gi rfl ?_;refine gc (vV (rt q) (cs.qs oz (by simp:q∈[q])).ok) ?_;refine af ?_;rw[kC,T.sgn_ofQ,bM]
 have h2:s.length≠1:=by have:=t15;simp only[aa,beq_eq_false_iff_ne,ne_eq]at this;omega
 obtain⟨i,hij,hsl⟩:∃i,i+1<=j/\s.length=2^(i+1):=by
  rcases oQ hsn with h |h |h
  ·exact absurd h h1
  ·exact absurd h h2
  ·exact h
 have hp2:=Nat.two_pow_pos i;have hpi:2^i<=32:=bV (b:=5) oz;have hps:2^(i+1)=2*2^i:=by rw[Nat.pow_succ];omega
 have n1:Nl i (s.take (2^i)):=.inr ⟨i,le_refl _,fy hsl⟩;have n2:Nl i (s.drop (2^i)):=.inr ⟨i,le_refl _,fJ hsl⟩;have nd:=ht.1 i oz;have cd:=ht.2.cb i;obtain⟨nn,dn,cn⟩:=uS ht oz hsl cs;have b1:sB r i (4*e+3*eB r i+r+1)<=sB r j e:=rX r e hij;have b2:sB r i e<=sB r i (4*e+3*eB r i+r+1):=oa r i oz;have b3:sB r i r<=sB r i (4*e+3*eB r i+r+1):=oa r i oz;have b4:=ow r i (4*e+3*eB r i+r+1);have k1:=ih i oz (s.take (2^i)) e oz n1 cs.take oz;have k2:=ih i oz (s.drop (2^i)) e oz n2 cs.drop oz;have k3:=ih i oz _ r oz nd cd oz;have k4:=ih i oz _ _ oz nn cn oz
 have hres:T.sgn (am ts) j (ae j s)=T.sgn3 (T.sgn (am ts) i (ae i (s.take (2^i)))) (T.sgn (am ts) i (ae i (s.drop (2^i)))) (T.sgn (am ts) i (ae i (ts.getD i []))) (T.sgn (am ts) i (ae i (gY ts i s))):=by
  rw[tC _ oz hij,dn];rfl
 have v1:=T.sgn_cases (am ts) i (ae i (s.take (2^i)));have v4:=T.sgn_cases (am ts) i (ae i (gY ts i s));refine gl ?_;refine gs (eI (.tmp rfl) (.const _) oz (show _=((2^i:Nat):Int) by rw[fD oz,hsl,fp]) rfl) ?_;refine gs (cQ (.tmp rfl) (.none _) (.some _ (.tmp rfl) oz) T67 rfl T45 rfl oz (by simp only[length_map];omega) rfl) ?_;refine gc (by have h9:=k1;rw[<- kH]at h9;exact h9) ?_;refine gs (cQ (.tmp rfl) (.some _ (.tmp rfl) oz) (.none _) T67 rfl T45 rfl (by simp only[length_map];omega) oz rfl) ?_;refine gc (by have h9:=k2;rw[<- mi]at h9;exact h9) ?_;refine gD ?_;refine gc (sw qA s oz) ?_;refine ga (show _=(i:Int) by rw[hsl,pZ,dA oz];omega) ?_;refine gi (wC (j:=i) oz) ?_;refine gc k3 ?_;refine gD ?_;refine gC (fun t42=>?_) (fun t42=>?_)
 ·have e1 : T.sgn (am ts) i (ae i (ts.getD i [])) = 0 := by simpa [aa] using t42
  refine af ?_;rw[hres];unfold T.sgn3;rw[if_pos e1]
 have e1:¬T.sgn (am ts) i (ae i (ts.getD i []))=0:=by simpa[aa]using t42
 refine gC (fun t44=>?_) (fun t44=>?_)
 ·have e2:T.sgn (am ts) i (ae i (s.take (2^i)))=T.sgn (am ts) i (ae i (s.drop (2^i)))\/T.sgn (am ts) i (ae i (s.drop (2^i)))=0:=A0 t44;refine af ?_;rw[hres];unfold T.sgn3;rw[if_neg e1,if_pos e2]
 have e2:¬(T.sgn (am ts) i (ae i (s.take (2^i)))=T.sgn (am ts) i (ae i (s.drop (2^i)))\/T.sgn (am ts) i (ae i (s.drop (2^i)))=0):=y9 t44;refine gC (fun t53=>?_) (fun t53=>?_)
 ·have e3 : T.sgn (am ts) i (ae i (s.take (2 ^ i))) = 0 := by simpa [aa] using t53
  refine af ?_;rw[hres];unfold T.sgn3;rw[if_neg e1,if_neg e2,if_pos e3]
 have e3:¬T.sgn (am ts) i (ae i (s.take (2^i)))=0:=by simpa[aa]using t53
 refine gc (yH ts m r ht hm hml i s e oz hsl cs oz) ?_;refine gc k4 ?_;refine ga (xO v1 v4) ?_;refine gD ?_;refine af ?_;rw[hres];unfold T.sgn3;rw[if_neg e1,if_neg e2,if_neg e3];rfl
theorem ri(rs:List (List Rt))(r:Nat)(h:TR rs r):FP 144 [cJ rs] (bh (bA rs)):=by
 have hll:=h.ll;have hr:=h.le;refine ah func144 ?_;refine gl ?_;refine gC (fun t10=>?_) (fun t10=>?_)
 ·have h5 : 5 < rs.length := by have := t10; simp only [aa, decide_eq_true_eq] at this; omega
  refine af ?_;rw[G0 h5];rfl
 have h5:rs.length<=5:=by have:=t10;simp only[aa,decide_eq_false_iff_not]at this;omega
 refine gl ?_;refine aJ [1,13,14] [1] (fun(k:Nat)=>[(15,some (i64 k))]) (fun _=>[]) (fun k=>k<=rs.length/\∀j,j<k->ii rs j) (fun k=>rs.length-k) 0 ⟨zero_le _,fun j hj=>by omega⟩ ?_;rintro k ⟨hk,hj⟩ K1 J1;refine gC (fun t16=>?_) (fun t16=>?_)
 ·have hin : k < rs.length := by simpa [aa] using t16
  obtain⟨d,hd⟩:=aq hin;have hdm:=mem_of_getElem? hd;have hdl:=h.len d hdm;refine gi (au hd) ?_;refine gl ?_;refine gs (gp (.const _) (.tmp rfl) oz (nE oz) rfl) ?_;refine gC (fun t24=>?_) (fun t24=>?_)
  ·have h1 : d.length ≠ 2 ^ k := by have := t24; simp only [aa, bne_iff_ne, ne_eq] at this; omega
   refine af ?_;rw[IC h5 hd hj h1];rfl
  have h1:d.length=2^k:=by have:=t24;simp only[aa,bne_eq_false_iff_eq]at this;omega
  have htl:(rs.take k).length=k:=by simp;omega
  have hnu:=IZ (rs.take k) d (h.ok d hdm) hdl oz;rw[htl]at hnu;refine gs (cQ (.tmp rfl) (.none _) (.some _ (.tmp rfl) oz) T35 rfl T67 rfl oz (by simp only[length_map];omega) rfl) ?_ (9,0);refine gW (Wk.of (sl:=[(1,some (.ptr 1 0)),(3,some (i64 k)),(4,some (nR d)),(5,some (.ptr 5 0)),(13,some (.lst 1 (rs.map nR))),(14,some (i64 rs.length)),(15,some (i64 k))]) (hp:=[(1,some (.box [.lst 1 (rs.map nR)])),(5,some (.box [.lst 1 ((rs.take k).map nR)]))]) aQ (.k (.cons rfl (BlkSub.bL (.cons (.of (TA nR rs k)) .nil) rfl) .nil))) ?_;refine gc hnu ?_;refine gC (fun t35=>?_) (fun t35=>?_)
  ·have h2:=cT t35;refine af ?_;rw[H3 h5 hd hj h1 h2]
  have h2:=da t35;have hts:=G8 (ts:=llq rs) (fun j hjk=>(hj j hjk).nl) h.rb;have hq:=uD h2 (h.ok d hdm);have hcb:Cb r (lq d):=by have:=h.rb.cb k;rw[tO,getD_eq_getElem?_getD,hd]at this;exact this
  have hsg:FP 230 [cJ (rs.take k),nR d] (i64 (T.sgn (am (llq rs)) k (ae k (lq d)))):=by
   have h9:=ou ((llq rs).take k) k r hts oz (by simp;omega) k (lq d) r (le_refl _) hq.2 hcb (nC (le_refl k) (by have:=h.three;omega) hr (by have:=jN k;omega));rw[T.sgn_congr k (fun j hjk=>v9 hjk)]at h9;rw[Vq h.ok oz hj,hq.1,dV];rw[<- hq.1];exact h9
  refine gc hsg ?_;refine gC (fun t40=>?_) (fun t40=>?_)
  ·have h3 : T.sgn (am (llq rs)) k (ae k (lq d)) < 0 := by simpa [aa] using t40
   refine af ?_;rw[IR h5 hd hj h1 h2 h3];rfl
  have h3:¬T.sgn (am (llq rs)) k (ae k (lq d))<0:=by simpa[aa]using t40
  refine ga aE ?_;exact aD J1 (k+1) ⟨hin,fun j hjk=>by rcases lt_or_ge j k with h9 |h9;exact hj j h9;(have:j=k:=by omega);subst this;exact DZ hd h1 h2 h3⟩
 have hin:k=rs.length:=by have:rs.length<=k:=(by simpa[aa]using t16);omega
 subst hin;refine af ?_;rw[Eo h5 hj];rfl
theorem l6(rs:List (List Rt))(r:Nat)(h:TR rs r)(xs:List (List Rt))(hx:∀a∈xs,(∀x∈a,x.ok)/\a.length<=281474976710656)(hl:xs.length<=281474976710656):FP 229 [cJ rs,.lst 1 (xs.map nR)] (bh (bg rs xs)):=by
 refine ah func229 ?_;refine gc (ri rs r h) ?_;refine gC (fun t12=>?_) (fun t12=>?_)
 ·have h1:=cT t12;refine af ?_;rw[yO h1]
 have h1:=da t12;refine gl ?_;refine aJ [2,14,15] [2] (fun(i:Nat)=>[(16,some (i64 i))]) (fun _=>[]) (fun i=>i<=xs.length/\∀x∈xs.take i,bW rs.length x=0) (fun i=>xs.length-i) 0 ⟨zero_le _,fun x hx=>by simp at hx⟩ ?_;rintro i ⟨hi,hj⟩ K1 J1;refine gC (fun t17=>?_) (fun t17=>?_)
 ·have hin : i < xs.length := by simpa [aa] using t17
  obtain⟨a,ha⟩:=aq hin;have hok:=hx a (mem_of_getElem? ha);refine gi (au ha) ?_;refine gc (IZ rs a hok.1 hok.2 h.ll) ?_;refine gC (fun t24=>?_) (fun t24=>?_)
  ·have h2:=cT t24;refine af ?_;rw[vt h1 ha hj h2]
  have h2:=da t24;refine ga aE ?_;exact aD J1 (i+1) ⟨hin,fun x hx=>by rw[cS ha]at hx;rcases List.mem_append.1 hx with h9 |h9;exact hj x h9;(rw[List.mem_singleton.1 h9];exact h2)⟩
 have hin:i=xs.length:=by have:xs.length<=i:=(by simpa[aa]using t17);omega
 subst hin;rw[take_length]at hj;refine af ?_;rw[p7 h1 hj];rfl
theorem UX(rs:List (List Rt))(r:Nat)(h:TR rs r)(a:List Rt)(e:Nat)(ha:NR a e):FP 307 [cJ rs,nR a] (bl (decide (bg rs [a]=0))):=by
 refine ah func307 ?_;refine gc (l6 rs r h [a] (fun x hx=>by rw[List.mem_singleton.1 hx];exact⟨ha.ok,ha.len⟩) (by simp)) ?_;refine af ?_;rw[yC];rfl
theorem Hv(rs:List (List Rt))(r:Nat)(h:TR rs r)(a:List Rt)(e:Nat)(ha:NR a e)(he:e<=lm rs.length) :
  FP 147 [cJ rs,nR a] (.tup [nA (if bg rs [a]=0 then sh rs.length (T.neg rs.length (ae rs.length (lq a)))else[]),bh (bg rs [a])]):=by
 have hlm:=jP rs.length;refine ah func147 ?_;refine gc (l6 rs r h [a] (fun x hx=>by rw[List.mem_singleton.1 hx];exact⟨ha.ok,ha.len⟩) (by simp)) ?_;refine gC (fun t12=>?_) (fun t12=>?_) (st2:=(77777,0))
 ·have h1:=cT t12;refine gR ?_;exact dp (by rw[if_neg h1];exact Sub.tup (.cons (.nil _ _ _) (.cons (.refl _) .nil)))
 have h1:=da t12;obtain⟨h2,h3⟩:=lT h1;obtain⟨tw,_⟩:=cK h h2;obtain⟨e1,na⟩:=ha.num (h3 a (by simp));have h5:rs.length<=5:=by have:=tw.five;rwa [length_map]at this
 have hl:=na.len5 h5;have qa:∀q∈lq a,Qs q:=fun q hq=>ha.cb.qs oz hq
 have qm:∀q∈cG (lq a),Qs q:=fun q hq=>ha.cb.minus.qs oz hq
 have nm:=mJ na;refine gW (Wk.of (sl:=[(1,some (nA (lq a))),(2,some (.ptr 2 0)),(6,some (bh (bg rs [a])))]) (hp:=[(2,some (.box [.lst 1 (rs.map nR)]))]) (.cons rfl (Sub.of e1) (.k (.k .nil))) (.k .nil)) ?_;refine gc (sN _ qa oz) ?_;refine gc (lL _ h5 nm qm) ?_;refine br ?_;rw[if_pos h1,h1,my];rfl
theorem Tk(rs:List (List Rt))(r:Nat)(h:TR rs r)(a b:List Rt)(e f:Nat)(ha:NR a e)(hb:NR b f)(he:e+f<=lm rs.length) :
  FP 356 [cJ rs,nR a,nR b] (.tup [nA (if bg rs [a,b]=0 then sh rs.length (T.add rs.length (ae rs.length (lq a)) (ae rs.length (lq b)))else[]),bh (bg rs [a,b])]):=by
 have hlm:=jP rs.length;refine ah func356 ?_;refine gc (l6 rs r h [a,b] (qk ha hb) (by simp)) ?_;refine gC (fun t15=>?_) (fun t15=>?_) (st2:=(77777,0))
 ·have h1:=cT t15;refine gR ?_;exact dp (by rw[if_neg h1];exact Sub.tup (.cons (.nil _ _ _) (.cons (.refl _) .nil)))
 have h1:=da t15;obtain⟨h2,h3⟩:=lT h1;obtain⟨tw,e0⟩:=cK h h2;obtain⟨e1,na⟩:=ha.num (h3 a (by simp));obtain⟨e2,nb⟩:=hb.num (h3 b (by simp));have h5:rs.length<=5:=by have:=tw.five;rwa [length_map]at this
 have hla:=na.len5 h5;have hlb:=nb.len5 h5;have qa:∀q∈lq a,Qs q:=fun q hq=>ha.cb.qs oz hq
 have qb:∀q∈lq b,Qs q:=fun q hq=>hb.cb.qs oz hq
 have qp:∀q∈cg (lq a) (lq b),Qs q:=fun q hq=>(ha.cb.plus hb.cb).qs oz hq
 have np:=oO na nb;refine gW (Wk.of (sl:=[(1,some (nA (lq a))),(2,some (nA (lq b))),(3,some (.ptr 3 0)),(8,some (bh (bg rs [a,b])))]) (hp:=[(3,some (.box [.lst 1 (rs.map nR)]))]) (.cons rfl (Sub.of e1) (.cons rfl (Sub.of e2) (.k (.k .nil)))) (.k .nil)) ?_;refine gc (oC _ _ qa qb oz oz) ?_;refine gc (lL _ h5 np qp) ?_;refine br ?_;rw[if_pos h1,h1,iO];rfl
theorem LQ(rs:List (List Rt))(r:Nat)(h:TR rs r)(a b:List Rt)(e f:Nat)(ha:NR a e)(hb:NR b f)(he:e+f<=lm rs.length) :
  FP 176 [cJ rs,nR a,nR b] (.tup [nA (if bg rs [a,b]=0 then sh rs.length (T.add rs.length (ae rs.length (lq a)) (T.neg rs.length (ae rs.length (lq b))))else[]),bh (bg rs [a,b])]):=by
 have hlm:=jP rs.length;refine ah func176 ?_;refine gc (l6 rs r h [a,b] (qk ha hb) (by simp)) ?_;refine gC (fun t15=>?_) (fun t15=>?_) (st2:=(77777,0))
 ·have h1:=cT t15;refine gR ?_;exact dp (by rw[if_neg h1];exact Sub.tup (.cons (.nil _ _ _) (.cons (.refl _) .nil)))
 have h1:=da t15;obtain⟨h2,h3⟩:=lT h1;obtain⟨tw,e0⟩:=cK h h2;obtain⟨e1,na⟩:=ha.num (h3 a (by simp));obtain⟨e2,nb⟩:=hb.num (h3 b (by simp));have h5:rs.length<=5:=by have:=tw.five;rwa [length_map]at this
 have hla:=na.len5 h5;have hlb:=nb.len5 h5;have qa:∀q∈lq a,Qs q:=fun q hq=>ha.cb.qs oz hq
 have qb:∀q∈lq b,Qs q:=fun q hq=>hb.cb.qs oz hq
 have qm:∀q∈cG (lq b),Qs q:=fun q hq=>hb.cb.minus.qs oz hq
 have qp:∀q∈cg (lq a) (cG (lq b)),Qs q:=fun q hq=>(ha.cb.plus hb.cb.minus).qs oz hq
 have np:=oO na (mJ nb);refine gW (Wk.of (sl:=[(1,some (nA (lq a))),(2,some (nA (lq b))),(3,some (.ptr 3 0)),(8,some (bh (bg rs [a,b])))]) (hp:=[(3,some (.box [.lst 1 (rs.map nR)]))]) (.cons rfl (Sub.of e1) (.cons rfl (Sub.of e2) (.k (.k .nil)))) (.k .nil)) ?_;refine gc (sN _ qb oz) ?_;refine gc (oC _ _ qa qm oz (by rw[io];omega)) ?_;refine gc (lL _ h5 np qp) ?_;refine br ?_;rw[if_pos h1,h1,iO,my];rfl
theorem Mp(rs:List (List Rt))(r:Nat)(h:TR rs r)(a b:List Rt)(e f:Nat)(ha:NR a e)(hb:NR b f)(he:e+f<=lm rs.length) :
  FP 127 [cJ rs,nR a,nR b] (.tup [nA (if bg rs [a,b]=0 then sh rs.length (T.mul (am (llq rs)) rs.length (ae rs.length (lq a)) (ae rs.length (lq b)))else[]),bh (bg rs [a,b])]):=by
 have hr:=h.le;have hlm:=jP rs.length;refine ah func127 ?_;refine gc (l6 rs r h [a,b] (qk ha hb) (by simp)) ?_;refine gC (fun t15=>?_) (fun t15=>?_) (st2:=(77777,0))
 ·have h1:=cT t15;refine gR ?_;exact dp (by rw[if_neg h1];exact Sub.tup (.cons (.nil _ _ _) (.cons (.refl _) .nil)))
 have h1:=da t15;obtain⟨h2,h3⟩:=lT h1;obtain⟨tw,e0⟩:=cK h h2;obtain⟨e1,na⟩:=ha.num (h3 a (by simp));obtain⟨e2,nb⟩:=hb.num (h3 b (by simp));have hlen:(llq rs).length=rs.length:=length_map _;have h5:rs.length<=5:=by have:=tw.five;omega
 have hla:=na.len5 h5;have hlb:=nb.len5 h5;have htw:=tw.ok;rw[hlen]at htw;have hE:=Sw r h5;have np:=fL (llq rs) rs.length htw.1 rs.length rs.length _ _ (le_refl _) (le_refl _) na nb;have cp:=Cb.mul htw (k:=rs.length) (le_refl rs.length) (le_refl _) na nb ha.cb hb.cb;have hti:=pc (llq rs) rs.length r htw h5 oz rs.length rs.length _ _ e f (le_refl _) (le_refl _) na nb ha.cb hb.cb oz;refine gW (Wk.of (sl:=[(1,some (nA (lq a))),(2,some (nA (lq b))),(3,some (.ptr 3 0)),(8,some (bh (bg rs [a,b])))]) (hp:=[(3,some (.box [.lst 1 ((llq rs).map nA)]))]) (.cons rfl (Sub.of e1) (.cons rfl (Sub.of e2) (.k (.k .nil)))) (.cons rfl (BlkSub.bL (.cons (.of (l8 e0)) .nil) rfl) .nil)) ?_;refine gc hti ?_;refine gc (lL _ h5 np.1 (fun q hq=>cp.qs oz hq)) ?_;refine br ?_;rw[if_pos h1,h1,np.2];rfl
theorem N9(rs:List (List Rt))(r:Nat)(h:TR rs r)(a b:List Rt)(e f:Nat)(ha:NR a e)(hb:NR b f)(he:e+f+1<=lm rs.length) :
  FP 128 [cJ rs,nR a,nR b] (.tup [i64 (if bg rs [a,b]=0 then T.sgn (am (llq rs)) rs.length (T.add rs.length (ae rs.length (lq a)) (T.neg rs.length (ae rs.length (lq b))))else 0),bh (bg rs [a,b])]):=by
 have hr:=h.le;have hlm:=jP rs.length;refine ah func128 ?_;refine gc (l6 rs r h [a,b] (qk ha hb) (by simp)) ?_;refine gC (fun t15=>?_) (fun t15=>?_) (st2:=(77777,0))
 ·have h1:=cT t15;refine br ?_;rw[if_neg h1];rfl
 have h1:=da t15;obtain⟨h2,h3⟩:=lT h1;obtain⟨tw,e0⟩:=cK h h2;obtain⟨e1,na⟩:=ha.num (h3 a (by simp));obtain⟨e2,nb⟩:=hb.num (h3 b (by simp));have hlen:(llq rs).length=rs.length:=length_map _;have h5:rs.length<=5:=by have:=tw.five;omega
 have hla:=na.len5 h5;have hlb:=nb.len5 h5;have htw:=tw.ok;rw[hlen]at htw;have qa:∀q∈lq a,Qs q:=fun q hq=>ha.cb.qs oz hq
 have qb:∀q∈lq b,Qs q:=fun q hq=>hb.cb.qs oz hq
 have qm:∀q∈cG (lq b),Qs q:=fun q hq=>hb.cb.minus.qs oz hq
 have np:=oO na (mJ nb);have hsg:=ou (llq rs) rs.length r htw h5 oz rs.length _ _ (le_refl _) np (ha.cb.plus hb.cb.minus) (nC (le_refl rs.length) (by have:=tw.three;omega) hr oz);refine gW (Wk.of (sl:=[(1,some (nA (lq a))),(2,some (nA (lq b))),(3,some (.ptr 3 0)),(8,some (bh (bg rs [a,b])))]) (hp:=[(3,some (.box [.lst 1 ((llq rs).map nA)]))]) (.cons rfl (Sub.of e1) (.cons rfl (Sub.of e2) (.k (.k .nil)))) (.cons rfl (BlkSub.bL (.cons (.of (l8 e0)) .nil) rfl) .nil)) ?_;refine gc (sN _ qb oz) ?_;refine gc (oC _ _ qa qm oz (by rw[io];omega)) ?_;refine gc hsg ?_;refine gD ?_;refine br ?_;rw[if_pos h1,h1,iO,my];rfl
theorem L2(rs:List (List Rt))(r:Nat)(h:TR rs r)(a:List Rt)(e:Nat)(ha:NR a e)(he:e<=lm rs.length) :
  FP 116 [cJ rs,nR a] (.tup [i64 (if bg rs [a]=0 then T.sgn (am (llq rs)) rs.length (ae rs.length (lq a))else 0),bh (bg rs [a])]):=by
 have hr:=h.le;have hlm:=jP rs.length;refine ah func116 ?_;refine gc (l6 rs r h [a] (fun x hx=>by rw[List.mem_singleton.1 hx];exact⟨ha.ok,ha.len⟩) (by simp)) ?_;refine gC (fun t12=>?_) (fun t12=>?_) (st2:=(77777,0))
 ·have h1:=cT t12;refine br ?_;rw[if_neg h1];rfl
 have h1:=da t12;obtain⟨h2,h3⟩:=lT h1;obtain⟨tw,e0⟩:=cK h h2;obtain⟨e1,na⟩:=ha.num (h3 a (by simp));have hlen:(llq rs).length=rs.length:=length_map _;have h5:rs.length<=5:=by have:=tw.five;omega
 have htw:=tw.ok;rw[hlen]at htw;have hsg:=ou (llq rs) rs.length r htw h5 oz rs.length _ _ (le_refl _) na ha.cb (nC (le_refl rs.length) (by have:=tw.three;omega) hr oz);refine gW (Wk.of (sl:=[(1,some (nA (lq a))),(2,some (.ptr 2 0)),(6,some (bh (bg rs [a])))]) (hp:=[(2,some (.box [.lst 1 ((llq rs).map nA)]))]) (.cons rfl (Sub.of e1) (.k (.k .nil))) (.cons rfl (BlkSub.bL (.cons (.of (l8 e0)) .nil) rfl) .nil)) ?_;refine gc hsg ?_;refine br ?_;rw[if_pos h1,h1];rfl
theorem MN(x:Rt)(hx:x.ok)(hs:Qs x.q):FP 165 [x.av] (nA (sh 0 (x.q:Rat))):=by
 have hadd:=mN x (rt 0) hx Qs.zero.ok;rw[pK]at hadd;refine ah func165 ?_;refine gc (Con.sA (.cons (.refl _) (.cons iH .nil)) hadd) ?_;refine gc (lL (n:=0) [x.q] oz (.inr ⟨0,le_refl _,rfl⟩) (fun q hq=>by rw[List.mem_singleton.1 hq];exact hs)) ?_;refine af ?_;rfl
theorem tv(n:Nat)(hn:n<=281474976710656):FP 290 [i64 n] (.tup [i64 (ka n),bl (ke n)]):=by
 refine ah func290 ?_;refine aJ [0] [] (fun(k:Nat)=>[(5,some (i64 k))]) (fun _=>[]) (fun k=>k<=6/\∀j,j<k->n≠2^j) (fun k=>6-k) 0 ⟨by omega,fun j h=>by omega⟩ ?_;rintro k ⟨hk,hj⟩ K1 J1;refine gC (fun t6=>?_) (fun t6=>?_)
 ·have h1 : k < 6 := by have := t6; simp only [aa, decide_eq_true_eq] at this; omega
  refine gs (gp (.const _) (.tmp rfl) oz (nE oz) rfl) ?_;refine gC (fun t11=>?_) (fun t11=>?_)
  ·have h2 : n = 2 ^ k := by have := t11; simp only [aa, beq_iff_eq] at this; omega
   refine br ?_;rw[h2,(mg oz).1,(mg oz).2];rfl
  have h2:n≠2^k:=by have:=t11;simp only[aa,beq_eq_false_iff_ne,ne_eq]at this;omega
  refine ga (cV oz) ?_;exact aD J1 (k+1) ⟨by omega,fun j h=>by rcases lt_or_ge j k with h3 |h3;exact hj j h3;(have:j=k:=by omega);subst this;exact h2⟩
 have h1:k=6:=by have:=t6;simp only[aa,decide_eq_false_iff_not]at this;omega
 subst h1;refine br ?_;rw[(C5 hj).1,(C5 hj).2];rfl
theorem Jc(m:Nat)(hm:m<=5)(a:List Rt)(ha:∀r∈a,r.ok)(hl:a.length<=281474976710656):FP 193 [i64 m,nR a] (i64 (bW m a)):=by
 refine ah func193 ?_;refine gl ?_;refine gc (tv a.length hl) ?_;refine gl ?_;refine gC (fun t26=>?_) (fun t26=>?_)
 ·have h1:a≠[]/\(cE a.length<0\/(m:Int)<cE a.length):=(IP hm a).2 (UG t26);refine af ?_;unfold bW;rw[if_pos h1];rfl
 have hn:¬(a≠[]/\(cE a.length<0\/(m:Int)<cE a.length)):=fun h=>Sl t26 ((IP hm a).1 h)
 refine gl ?_;refine aJ [27,28] [] (fun(i:Nat)=>[(29,some (i64 i))]) (fun _=>[]) (fun i=>i<=a.length/\(a.take i).all Rt.valid=true) (fun i=>a.length-i) 0 ⟨zero_le _,by simp⟩ ?_;rintro i ⟨hi,hv⟩ K1 J1;refine gC (fun t30=>?_) (fun t30=>?_)
 ·have hin : i < a.length := by simpa [aa] using t30
  obtain⟨r,hr⟩:=aq hin;have hrok:=ha r (mem_of_getElem? hr);refine gi (au hr) ?_;refine gc (uo r hrok) ?_;refine gC (fun t35=>?_) (fun t35=>?_)
  ·have hrv : r.valid = false := by simpa using t35
   refine af ?_;unfold bW;rw[if_neg hn,if_neg]
   ·rfl
   ·rw[all_eq_true];intro h;rw[h r (mem_of_getElem? hr)]at hrv;cases hrv
  have hrv:r.valid=true:=by simpa using t35
  refine ga aE ?_;exact aD J1 (i+1) ⟨by omega,by rw[cS hr,all_append,hv];simp[hrv]⟩
 have hin:i=a.length:=by have:a.length<=i:=(by simpa[aa]using t30);omega
 subst hin;rw[take_length]at hv;refine af ?_;unfold bW;rw[if_neg hn,if_pos hv];rfl
theorem Ii(a:List Rat)(hl:a.length<=281474976710656):FP 296 [nA a] (bl (bj a)):=by
 refine ah func296 ?_;refine gl ?_;refine aJ [5,6] [] (fun(i:Nat)=>[(7,some (i64 i))]) (fun _=>[]) (fun i=>i<=a.length/\bj (a.take i)=true) (fun i=>a.length-i) 0 ⟨zero_le _,by simp[bj]⟩ ?_;rintro i ⟨hi,hv⟩ K1 J1;refine gC (fun t8=>?_) (fun t8=>?_)
 ·have hin : i < a.length := by simpa [aa] using t8
  obtain⟨q,hq⟩:=aq hin;refine gi (au hq) ?_;refine bP ?_;refine bP ?_;refine gC (fun t24=>?_) (fun t24=>?_)
  ·have h0:q≠0:=Nu t24;refine af ?_
   have:bj a=false:=by
    rw[Bool.eq_false_iff];intro h;exact h0 (by simpa using List.all_eq_true.1 h q (mem_of_getElem? hq))
   rw[this];rfl
  have h0:q=0:=Vl t24;refine ga aE ?_;exact aD J1 (i+1) ⟨by omega,by rw[cS hq];simp only[bj,all_append,and_eq_true];exact⟨hv,by simp[h0]⟩⟩
 have hin:i=a.length:=by have:a.length<=i:=(by simpa[aa]using t8);omega
 subst hin;rw[take_length]at hv;refine af ?_;rw[hv];rfl
theorem zU{n:Nat}(a:List Rat)(hn:n<=5)(ha:Nl n a):FP 195 [nA a] (nA (sh n (ae n a))):=by
 have hl:=ha.len5 hn;rw[<- tg ha hn];refine ah func195 ?_;refine gl ?_;refine gc (tv a.length oz) ?_;refine gC (fun t13=>?_) (fun t13=>?_)
 ·have h0:a=[]:=by
   rcases ha with h |⟨j,hj,h⟩
   ·exact h
   ·have h9:=t13;rw[h,(mg oz).2]at h9;cases h9
  refine gs (f0 T67 rfl T45 rfl rfl rfl) ?_;refine gs (k9 (.tmp rfl) rfl rfl (.tmp rfl) T67 rfl T45 rfl rfl (by simp[h0]) rfl rfl) ?_;refine af ?_;subst h0;rfl
 refine gl ?_;refine aJ [0] [] (fun(m:Nat)=>[(5,some (i64 m))]) (fun _=>[]) (fun m=>mo a m) (fun m=>m) a.length (I5 (ha.mono hn)) ?_;rintro m hm K1 J1;refine gs (ef rfl rfl rfl (fun h=>eI (.opt rfl (o1 h)) (.const _) oz (fD (by have:=hm.le;omega)) rfl)) ?_;refine gs (ef rfl rfl rfl (fun h=>cQ (.opt rfl (o1 h)) (.some _ (.opt rfl (o1 h)) oz) (.some _ (.opt rfl (o1 h)) oz) T67 rfl T45 rfl oz (by have:=hm.le;simp;omega) rfl)) ?_;refine bF (fun _=>(by have h9:=Ii ((a.drop (m/2)).take (m-m/2)) (by simp;omega);rw[<- tW]at h9;exact h9)) ?_;refine gC (fun t28=>?_) (fun t28=>?_)
 ·have h1:1<m/\bj ((a.drop (m/2)).take (m-m/2))=true:=by
   have h9:=t28
   by_cases h:(m:Int)>1
   ·simp only[aa,decide_eq_true h,cond_true]at h9;exact⟨by omega,h9⟩
   ·simp only[aa,decide_eq_false h,cond_false]at h9;cases h9
  refine gs (eI (.tmp rfl) (.const _) oz (fD (by have:=hm.le;omega)) rfl) ?_;exact aD J1 (m/2) (CG hm h1.1 h1.2)
 have h1:1<m->bj ((a.drop (m/2)).take (m-m/2))=false:=by
  intro h;have h9:=t28;simp only[aa,decide_eq_true (show(m:Int)>1 by omega),cond_true]at h9;exact h9
 refine gs (ef rfl rfl rfl (fun h=>cQ (.opt rfl (o1 h)) (.none _) (.some _ (.const _) oz) T67 rfl T45 rfl oz (by have h8:(m:Int)=1:=(by simpa[aa]using h);have:=hm.le;simp only[length_map];omega) rfl)) ?_;refine bF (fun _=>(by have h9:=Ii ((a.drop 0).take 1) (by simp;omega);rw[<- tW]at h9;exact h9)) ?_;refine gC (fun t37=>?_) (fun t37=>?_)
 ·have h2:m=1/\bj (a.take 1)=true:=by
   have h9:=t37
   by_cases h:m=1
   ·rw[h]at h9;exact⟨h,h9⟩
   ·rw[show aa .eql (m:Int) 1=false by simp[aa];omega]at h9;cases h9
  obtain⟨rfl,h3⟩:=h2;refine gR ?_;exact i9 (by rw[D8 hm h3];exact Sub.nil _ _ _)
 have h2:m=1->bj (a.take 1)=false:=by
  intro h;have h9:=t37;rw[h]at h9;exact h9
 have h3:=C0 hm h1 h2;refine gs (f0 T67 rfl T45 rfl rfl rfl) ?_;refine gs (cQ (.tmp rfl) (.none _) (.some _ (.tmp rfl) oz) T67 rfl T45 rfl oz (by have:=hm.le;simp;omega) rfl) ?_;refine gs (k9 (.tmp rfl) rfl rfl (.tmp rfl) T67 rfl T45 rfl rfl (by simp only[length_take,List.length_drop,length_map];omega) rfl rfl) ?_;refine af ?_;rw[h3];simp[nA,map_take]
theorem yx(d:Nat)(hd:Nat.blt d 1000=true)(a:List Rat)(n:Nat)(hl:a.length<=n)(hn:n<=1099511627776) :
  Con prog 194 [nA a,i64 n] [] (.ms d 3 0 n) [(d,some (.row 3 ((aU a n).map qA)))]:=by
 refine gF func194 (fun k z h=>by cases h) ?_;refine gs (f0 T67 rfl T45 rfl rfl rfl) ?_;refine gs (bR (.tmp rfl) rfl rfl (.tmp rfl) T67 rfl T45 rfl rfl (by simp only[length_map];omega) rfl rfl) ?_;refine gW (Wk.of (sl:=[(1,some (i64 n)),(5,some (.ms 8 3 0 a.length))]) (hp:=[(8,some (.row 3 ((aU a a.length).map qA)))]) (.k (.cons rfl (Sub.of (by simp)) .nil)) (.cons rfl (BlkSub.of (by simp[aU])) .nil)) ?_ (99999,0);refine gW (Wk.rk (k:=8) (d:=900) rfl rfl) ?_;refine aJ [1] [] (fun(i:Nat)=>[(5,some (.ms 900 3 0 i))]) (fun i=>[(900,some (.row 3 ((aU a i).map qA)))]) (fun i=>a.length<=i/\i<=n) (fun i=>n-i) a.length ⟨le_refl _,hl⟩ ?_;rintro i ⟨hi,hin⟩ K1 J1;refine gC (fun t12=>?_) (fun t12=>?_)
 ·have h1 : i < n := by have := t12; simp only [aa, decide_eq_true_eq] at this; omega
  refine gs (bR (.tmp rfl) rfl (by rw[length_map,dz hi]) (.tmp rfl) T67 rfl T45 rfl rfl (by simp;omega) rfl rfl) ?_;exact aD J1 (i+1) ⟨by omega,h1⟩ (hw:=(Wk.of (sl:=[(1,some (i64 n)),(5,some (.ms 16 3 0 (i+1)))]) (hp:=[(16,some (.row 3 ((aU a (i+1)).map qA)))]) aQ (.cons rfl (OQ a i hi) .nil)).trans<|(Wk.rk (k:=16) (d:=900) rfl rfl).trans<|Wk.o)
 have h1:i=n:=by have:=t12;simp only[aa,decide_eq_false_iff_not]at this;omega
 subst h1;refine gR ?_;exact aw.own1 rfl hd rfl
theorem qY(a:List Rat)(n:Nat)(hl:a.length<=n)(hn:n<=1099511627776):FP 194 [nA a,i64 n] (nA (aU a n)):=by
 have h:=Con.freeze (by rw[length_map,dz hl];omega) (yx 0 rfl a n hl hn);rw[drop_zero,take_of_length_le (by rw[length_map,dz hl];exact le_refl _)]at h;exact h
theorem vq(a b:List Rat)(ha:∀q∈a,Qs q)(hb:∀q∈b,Qs q)(la:a.length<=1099511627776)(lb:b.length<=1099511627776):FP 184 [nA a,nA b] (nA (cg a b)):=by
 obtain⟨n,hn⟩:∃n,n=max a.length b.length:=⟨_,rfl⟩
 have hwa:=dz (show a.length<=n by omega);have hwb:=dz (show b.length<=n by omega);have hp:=dU (a:=a) (b:=b);rw[<- hn]at hp;have qa:∀q∈aU a n,Qs q:=fun q hq=>by rcases List.mem_append.1 hq with h |h;exact ha q h;(rw[(List.mem_replicate.1 h).2];exact Qs.zero)
 have qb:∀q∈aU b n,Qs q:=fun q hq=>by rcases List.mem_append.1 hq with h |h;exact hb q h;(rw[(List.mem_replicate.1 h).2];exact Qs.zero)
 refine ah func184 ?_;refine gl ?_;refine gl ?_;refine gs (pJ (.tmp rfl) (.tmp rfl) rfl) ?_ (2,0);refine gW (Wk.of (sl:=[(0,some (nA a)),(1,some (nA b)),(5,some (i64 n))]) (hp:=[]) (.k (.k (.cons rfl (Sub.int oz) .nil))) .nil) ?_;refine go ?_;refine gt (aA (yx 900 rfl a n oz oz) (bp rfl rfl) aC rfl rfl) ?_;refine gc (qY b n oz oz) ?_;refine aJ [1,19] [] (fun(i:Nat)=>[(0,some (.ms 900 3 0 n)),(20,some (i64 i))]) (fun i=>[(900,some (.row 3 (((cg a b).take i++(aU a n).drop i).map qA)))]) (fun i=>i<=n) (fun i=>n-i) 0 (zero_le _) ?_;rintro i hi K1 J1;refine gC (fun t21=>?_) (fun t21=>?_) (st2:=(8,0))
 ·have hin : i < n := by simpa [aa] using t21
  have hmx:=yY (p:=cg a b) (w:=aU a n) (i:=i) oz oz;have hqa:=(qa _ (sW (i:=i) oz)).ok;have hqb:=(qb _ (sW (i:=i) oz)).ok;refine gs (bT (n:=i) (.tmp rfl) (.tmp rfl) T67 rfl T45 rfl oz oz rfl) ?_;refine gs (dW (.tmp rfl) rfl (au hmx) T45 rfl rfl rfl) ?_;refine gi (au (getD_some (i:=i) (l:=aU b n) oz)) ?_;refine gc (xV (rt ((aU a n).getD i 0)) (rt ((aU b n).getD i 0)) hqa hqb) ?_;refine gs (bT (n:=i) (.tmp rfl) (.tmp rfl) T67 rfl T45 rfl oz oz rfl) ?_;refine gs (dw (.tmp rfl) rfl (au hmx) rfl (.tmp rfl) rfl rfl T45 rfl rfl) ?_;refine gD ?_ (7,0);refine gW (Wk.of (sl:=[(0,some (.ms 900 3 0 n)),(1,some (nA (aU b n))),(19,some (i64 n)),(20,some (i64 i))]) (hp:=[(900,some (.row 3 (((cg a b).take (i+1)++(aU a n).drop (i+1)).map qA)))]) aQ (.cons rfl (BlkSub.of (by rw[A6 oz oz (by rw[Ht,<- hn,bM,bM])])) .nil)) ?_;refine ga aE ?_;exact aD J1 (i+1) hin
 have hin:i=n:=by have:n<=i:=(by simpa[aa]using t21);omega
 refine gW ((Wk.freeze (k:=900) rfl).trans<|Wk.of (sl:=[(0,some (nA (cg a b)))]) (hp:=[]) (.cons rfl (Sub.of (by rw[bI (by simp;omega),hin,List.drop_of_length_le oz,take_of_length_le oz,append_nil];rfl)) .nil) .nil) ?_;refine af ?_;rfl
theorem D0(a:List Rat)(ha:∀q∈a,Qs q)(hl:a.length<=1099511627776):FP 185 [nA a] (nA (cG a)):=by
 refine ah func185 ?_;refine gl ?_;refine gW (Wk.virt 900 3 rfl) ?_;refine aJ [6,7] [] (fun(i:Nat)=>[(3,some (.ms 900 3 0 i)),(8,some (i64 i))]) (fun i=>[(900,some (.row 3 ((cG (a.take i)).map qA)))]) (fun i=>i<=a.length) (fun i=>a.length-i) 0 (zero_le _) ?_;rintro i hi K1 J1;refine gC (fun t9=>?_) (fun t9=>?_) (st2:=(7,0))
 ·have hin : i < a.length := by simpa [aa] using t9
  obtain⟨q,hq⟩:=aq hin;have hqs:=(ha q (mem_of_getElem? hq)).ok;refine gi (au hq) ?_;refine gc (IW (rt q) hqs) ?_;refine gs (bR (.tmp rfl) rfl (by simp[cG];omega) (.tmp rfl) T67 rfl T45 rfl rfl (by simp;omega) rfl rfl) ?_ (6,0);refine gW (Wk.of (sl:=[(3,some (.ms 16 3 0 (i+1))),(6,some (nA a)),(7,some (i64 a.length)),(8,some (i64 i))]) (hp:=[(16,some (.row 3 ((cG (a.take (i+1))).map qA)))]) aQ (.cons rfl (BlkSub.of (by rw[cS hq];simp only[cG,map_append,bM];rfl)) .nil)) ?_ (6,0);refine gW (Wk.rk (k:=16) (d:=900) rfl rfl) ?_;refine ga aE ?_;exact aD J1 (i+1) hin
 have hin:i=a.length:=by have:a.length<=i:=(by simpa[aa]using t9);omega
 subst hin;refine gW ((Wk.freeze (k:=900) rfl).trans<|Wk.of (sl:=[(3,some (nA (cG a)))]) (hp:=[]) (.cons rfl (Sub.of (by rw[bI (by simp[cG]),take_length];rfl)) .nil) .nil) ?_;refine af ?_;rfl
theorem zg(ts:LL)(m r:Nat)(ht:ik ts m r)(hm:m<=5)(R:List AV)(hR:∀j,j<m->R[j]?=some (nA (ts.getD j [])))(k:Nat):∀(j:Nat)(a b:List Rat)(e f:Nat),j<=m->j<=k->Nl j a->Nl j b->Cb e a->Cb f b->e+f+eB r j<4398046511104 ->
  FP 196 [.agg [.lst 1 R],nA a,nA b] (nA (rT ts k a b)):=by
 induction k using Nat.strongRecOn
 rename_i k ih;intro j a b e f hj hjk ha hb ca cb hs;obtain⟨nx,dx⟩:=xj ha oz;obtain⟨ny,dy⟩:=xj hb oz;have cx:Cb e (bf 5 a):=ca.sub (fun q hq=>uf 5 hq);have cy:Cb f (bf 5 b):=cb.sub (fun q hq=>uf 5 hq);have k1:=zU a oz ha;have k2:=zU b oz hb;rw[<- tg ha oz]at k1;rw[<- tg hb oz]at k2;obtain⟨x,hx⟩:∃x,x=bf 5 a:=⟨_,rfl⟩
 obtain⟨y,hy⟩:∃y,y=bf 5 b:=⟨_,rfl⟩
 rw[<- hx]at k1 nx dx cx;rw[<- hy]at k2 ny dy cy;have hlx:=nx.len5 oz;have hly:=ny.len5 oz;obtain⟨n,hn⟩:∃n,n=max x.length y.length:=⟨_,rfl⟩
 refine ah func196 ?_;refine gc k1 ?_;refine gc k2 ?_;refine gl ?_;refine gl ?_;refine gs (pJ (.tmp rfl) (.tmp rfl) rfl) ?_ (3,0);refine gW (Wk.of (sl:=[(1,some (nA x)),(2,some (nA y)),(3,some (.ptr 3 0)),(7,some (i64 n))]) (hp:=[(3,some (.box [.lst 1 R]))]) (.k (.k (.k (.cons rfl (Sub.int oz) .nil)))) (.k .nil)) ?_;refine gl ?_;refine bP ?_;refine gC (fun t32=>?_) (fun t32=>?_)
 ·have h0 : x.length = 0 \/ y.length = 0 := by have := A0 t32; omega
  refine gR ?_;exact i9 (by rw[C7 (by rw[<- hx,<- hy];exact h0)];exact Sub.nil _ _ _)
 have h0:¬(x.length=0\/y.length=0):=by have:=y9 t32;omega
 refine gC (fun t34=>?_) (fun t34=>?_)
 ·have h1 : max x.length y.length = 1 := by have := t34; simp only [aa, beq_iff_eq] at this; omega
  have e1:=I6 (ts:=ts) (k:=k) (a:=a) (b:=b) (by rw[<- hx,<- hy];exact h0) (by rw[<- hx,<- hy];exact h1);rw[<- hx,<- hy]at e1;clear hx hy;have lx1:x.length=1:=by omega
  have ly1:y.length=1:=by omega
  clear hn;obtain⟨p,rfl⟩:∃p,x=[p]:=List.length_eq_one_iff.1 lx1;obtain⟨q,rfl⟩:∃q,y=[q]:=List.length_eq_one_iff.1 ly1;refine gi rfl ?_;refine gi rfl ?_;refine gc (VO (rt p) (rt q) (cx.qs oz (by simp:p∈[p])).ok (cy.qs oz (by simp:q∈[q])).ok) ?_;refine gD ?_;refine af ?_;rw[e1,bM,bM];rfl
 have h1:n≠1:=by have:=t34;simp only[aa,beq_eq_false_iff_ne,ne_eq]at this;omega
 obtain⟨i,hij,hmax⟩:=(Gx nx ny h0).resolve_left oz;obtain⟨k',rfl⟩:∃k',k=k'+1:=⟨k-1,by omega⟩
 have hp2:=Nat.two_pow_pos i;have hpi:2^i<=32:=bV (b:=5) oz;have hps:2^(i+1)=2*2^i:=by rw[Nat.pow_succ];omega
 have hnn:n=2^(i+1):=by omega
 have hes:eB r (i+1)<=eB r j:=gV r hij;have hee:eB r (i+1)=2*eB r i+r+2:=rfl;have lx:(aU x (2^(i+1))).length=2^(i+1):=dz oz;have ly:(aU y (2^(i+1))).length=2^(i+1):=dz oz;obtain⟨X,hX⟩:∃X,X=aU x (2^(i+1)):=⟨_,rfl⟩
 obtain⟨Y,hY⟩:∃Y,Y=aU y (2^(i+1)):=⟨_,rfl⟩
 have cX:Cb e X:=by rw[hX];exact cx.wide
 have cY:Cb f Y:=by rw[hY];exact cy.wide
 rw[<- hX]at lx;rw[<- hY]at ly;have n1:Nl i (X.take (2^i)):=.inr ⟨i,le_refl _,fy lx⟩;have n2:Nl i (X.drop (2^i)):=.inr ⟨i,le_refl _,fJ lx⟩;have n3:Nl i (Y.take (2^i)):=.inr ⟨i,le_refl _,fy ly⟩;have n4:Nl i (Y.drop (2^i)):=.inr ⟨i,le_refl _,fJ ly⟩;have nd:=ht.1 i oz;have cd:=ht.2.cb i;have s1:=ku hm ht (k:=k') (show i<=m by omega) oz n1 n3 cX.take cY.take;have s2:=ku hm ht (k:=k') (show i<=m by omega) oz n2 n4 cX.drop cY.drop;have s3:=ku hm ht (k:=k') (show i<=m by omega) oz s2.1 nd s2.2.2 cd;have s4:=ku hm ht (k:=k') (show i<=m by omega) oz n1 n4 cX.take cY.drop;have s5:=ku hm ht (k:=k') (show i<=m by omega) oz n2 n3 cX.drop cY.take;have hrt:=EZ (ts:=ts) (k:=k') (a:=a) (b:=b) rfl (by rw[<- hx,<- hy];exact h0) (by rw[<- hx,<- hy];exact hmax);rw[<- hx,<- hy,<- hX,<- hY]at hrt;have w1:=qY x n oz oz;have w2:=qY y n oz oz;rw[hnn,<- hX]at w1;rw[hnn,<- hY]at w2;rw[<- hnn]at w1 w2;have pw:=tv n oz;rw[show ka n=i+1 by rw[hnn];exact(mg oz).1,show ke n=true by rw[hnn];exact(mg oz).2]at pw;refine gc w1 ?_;refine gc w2 ?_;refine gc pw ?_;refine gs (eI (.tmp rfl) (.const _) oz (show _=((2^i:Nat):Int) by rw[fD oz,hnn,fp]) rfl) ?_;refine gs (cQ (.tmp rfl) (.none _) (.some _ (.tmp rfl) oz) T67 rfl T45 rfl oz (by simp only[length_map];omega) rfl) ?_;refine gs (eI (.tmp rfl) (.const _) oz (show _=((2^i:Nat):Int) by rw[fD oz,hnn,fp]) rfl) ?_;refine gs (cQ (.tmp rfl) (.some _ (.tmp rfl) oz) (.none _) T67 rfl T45 rfl (by simp only[length_map];omega) oz rfl) ?_;refine gs (eI (.tmp rfl) (.const _) oz (show _=((2^i:Nat):Int) by rw[fD oz,hnn,fp]) rfl) ?_;refine gs (cQ (.tmp rfl) (.none _) (.some _ (.tmp rfl) oz) T67 rfl T45 rfl oz (by simp only[length_map];omega) rfl) ?_;refine gs (eI (.tmp rfl) (.const _) oz (show _=((2^i:Nat):Int) by rw[fD oz,hnn,fp]) rfl) ?_;refine gs (cQ (.tmp rfl) (.some _ (.tmp rfl) oz) (.none _) T67 rfl T45 rfl (by simp only[length_map];omega) oz rfl) ?_;refine gD ?_ (10,0);refine gW (Wk.of (sl:=[(3,some (.ptr 3 0)),(7,some (i64 n)),(8,some (i64 ((i+1:Nat):Int))),(10,some (nA (X.take (2^i)))),(11,some (nA (X.drop (2^i)))),(12,some (nA (Y.take (2^i)))),(13,some (nA (Y.drop (2^i))))]) (hp:=[(3,some (.box [.lst 1 R]))]) (.k (.k (.k (.cons rfl (Sub.of (kH X (2^i))) (.cons rfl (Sub.of (mi X (2^i))) (.cons rfl (Sub.of (kH Y (2^i))) (.cons rfl (Sub.of (mi Y (2^i))) .nil))))))) (.k .nil)) ?_
 refine gc (ih k' oz i _ _ e f oz oz n1 n3 cX.take cY.take oz) ?_;refine gc (ih k' oz i _ _ e f oz oz n2 n4 cX.drop cY.drop oz) ?_;refine ga (show _=(i:Int) by rw[dA oz];omega) ?_;refine gi (hR i oz) ?_;refine gc (ih k' oz i _ _ _ _ oz oz s2.1 nd s2.2.2 cd oz) ?_;refine gc (vq _ _ (fun q hq=>s1.2.2.qs oz hq) (fun q hq=>s3.2.2.qs oz hq) (by have:=s1.1.le;omega) (by have:=s3.1.le;omega)) ?_;refine gD ?_;refine gc (ih k' oz i _ _ e f oz oz n1 n4 cX.take cY.drop oz) ?_;refine gc (ih k' oz i _ _ e f oz oz n2 n3 cX.drop cY.take oz) ?_;refine gc (vq _ _ (fun q hq=>s4.2.2.qs oz hq) (fun q hq=>s5.2.2.qs oz hq) (by have:=s4.1.le;omega) (by have:=s5.1.le;omega)) ?_;refine gD ?_;refine gs (eI (.tmp rfl) (.const _) oz (show _=((2^i:Nat):Int) by rw[fD oz,hnn,fp]) rfl) ?_;refine gt (aA (yx 900 rfl _ (2^i) (by have:=s1.1.le;have:=s3.1.le;rw[dU];omega) oz) (bp rfl rfl) aC rfl rfl) ?_;refine gs (eI (.tmp rfl) (.const _) oz (show _=((2^i:Nat):Int) by rw[fD oz,hnn,fp]) rfl) ?_;refine gc (qY _ (2^i) (by have:=s4.1.le;have:=s5.1.le;rw[dU];omega) oz) ?_;refine gs (k9 (.tmp rfl) rfl (by have:=s1.1.le;have:=s3.1.le;rw[length_map,dz (by rw[dU];omega)]) (.tmp rfl) T67 rfl T45 rfl rfl (by have:=s4.1.le;have:=s5.1.le;rw[length_map,dz (by rw[dU];omega)];show(2^i+2^i)*56<=140737488355328;omega) rfl rfl) ?_;refine af ?_;rw[hrt,<- map_append];rfl
theorem Si(ts:LL)(m r:Nat)(ht:ik ts m r)(hm:m<=5)(R:List AV)(hR:∀j,j<m->R[j]?=some (nA (ts.getD j [])))(i n:Nat)(a:List Rat)(e:Nat)(hi:i+1<=m)(hnn:n=2^(i+1))(hal:a.length=2^(i+1))(ca:Cb e a)(hs:4*e+3*eB r i+r+1<4398046511104) :
  FP 291 [.agg [.lst 1 R],nA a,i64 n] (nA (oo ts i a)):=by
 have hp2:=Nat.two_pow_pos i;have hpi:2^i<=32:=bV (b:=5) oz;have hps:2^(i+1)=2*2^i:=by rw[Nat.pow_succ];omega
 have n1:Nl i (a.take (2^i)):=.inr ⟨i,le_refl _,fy hal⟩;have n2:Nl i (a.drop (2^i)):=.inr ⟨i,le_refl _,fJ hal⟩;have nd:=ht.1 i oz;have cd:=ht.2.cb i;have s1:=ku hm ht (k:=i) (show i<=m by omega) oz n1 n1 ca.take ca.take;have s2:=ku hm ht (k:=i) (show i<=m by omega) oz n2 n2 ca.drop ca.drop;have s3:=ku hm ht (k:=i) (show i<=m by omega) oz s2.1 nd s2.2.2 cd;have w1:=qY a n oz oz;rw[show aU a n=a by unfold aU;rw[hnn,hal];simp]at w1;have pw:=tv n oz;rw[show ka n=i+1 by rw[hnn];exact(mg oz).1,show ke n=true by rw[hnn];exact(mg oz).2]at pw;refine ah func291 ?_;refine gc w1 ?_;refine gc pw ?_;refine gs (eI (.tmp rfl) (.const _) oz (show _=((2^i:Nat):Int) by rw[fD oz,hnn,fp]) rfl) ?_;refine gs (cQ (.tmp rfl) (.none _) (.some _ (.tmp rfl) oz) T67 rfl T45 rfl oz (by simp only[length_map];omega) rfl) ?_;refine gs (eI (.tmp rfl) (.const _) oz (show _=((2^i:Nat):Int) by rw[fD oz,hnn,fp]) rfl) ?_;refine gs (cQ (.tmp rfl) (.some _ (.tmp rfl) oz) (.none _) T67 rfl T45 rfl (by simp only[length_map];omega) oz rfl) ?_;refine gD ?_ (4,0);refine gW (Wk.of (sl:=[(3,some (.ptr 3 0)),(7,some (i64 ((i+1:Nat):Int))),(9,some (nA (a.take (2^i)))),(10,some (nA (a.drop (2^i))))]) (hp:=[(3,some (.box [.lst 1 R]))]) (.k (.k (.cons rfl (Sub.of (kH a (2^i))) (.cons rfl (Sub.of (mi a (2^i))) .nil)))) (.k .nil)) ?_;refine gc (zg ts m r ht hm R hR i i _ _ e e oz oz n1 n1 ca.take ca.take oz) ?_;refine gc (zg ts m r ht hm R hR i i _ _ e e oz oz n2 n2 ca.drop ca.drop oz) ?_;refine ga (show _=(i:Int) by rw[dA oz];omega) ?_;refine gi (hR i oz) ?_;refine gc (zg ts m r ht hm R hR i i _ _ _ _ oz oz s2.1 nd s2.2.2 cd oz) ?_;refine gc (D0 _ (fun q hq=>s3.2.2.qs oz hq) (by have:=s3.1.le;omega)) ?_;refine gc (vq _ _ (fun q hq=>s1.2.2.qs oz hq) (fun q hq=>s3.2.2.minus.qs oz hq) (by have:=s1.1.le;omega) (by have:=s3.1.le;rw[io];omega)) ?_;refine gD ?_;refine af ?_;rfl
theorem Cg(ts:LL)(m r:Nat)(ht:ik ts m r)(hm:m<=5)(hpos:∀j,j<m->0<=T.sgn (am ts) j (am ts j))(R:List AV)(hR:∀j,j<m->R[j]?=some (nA (ts.getD j [])))(j:Nat):∀(a:List Rat)(e:Nat),j<=m->Nl j a->Cb e a->sB r j e<4398046511104 ->
  FP 183 [.agg [.lst 1 R],nA a] (i64 (T.sgn (am ts) j (ae j a))):=by
 induction j using Nat.strongRecOn
 rename_i j ih;intro a e hj ha ca hs;have hse:=ow r j e;obtain⟨s,hsa⟩:∃s,s=sh j (ae j a):=⟨_,rfl⟩
 have hsd:ae j s=ae j a:=by rw[hsa,a7]
 have hsn:Nl j s:=by rw[hsa];exact ee j _
 have cs:Cb e s:=by rw[hsa];exact ca.sh ha
 have hls:=hsn.len5 oz;rw[<- hsd];refine ah func183 ?_;refine gc (hsa▸zU a oz ha) ?_;refine gl ?_;refine gC (fun t15=>?_) (fun t15=>?_)
 ·have h1 : s=[] := List.length_eq_zero_iff.1 (by have := t15;simp only[aa,beq_iff_eq]at this;omega);refine af ?_;rw[h1,fV,T.sgn_zero];rfl
 have h1:s.length≠0:=by have:=t15;simp only[aa,beq_eq_false_iff_ne,ne_eq]at this;omega
 refine gl ?_;refine gC (fun t19=>?_) (fun t19=>?_)
 ·have h2 : s.length = 1 := by have := t19; simp only [aa, beq_iff_eq] at this; omega
  obtain⟨q,rfl⟩:=List.length_eq_one_iff.1 h2;refine gi rfl ?_;refine gc (yg (rt q) (cs.qs oz (by simp:q∈[q])).ok) ?_;refine af ?_;rw[kC,T.sgn_ofQ,bM]
 have h2:s.length≠1:=by have:=t19;simp only[aa,beq_eq_false_iff_ne,ne_eq]at this;omega
 obtain⟨i,hij,hsl⟩:∃i,i+1<=j/\s.length=2^(i+1):=by
  rcases oQ hsn with h |h |h
  ·exact absurd h h1
  ·exact absurd h h2
  ·exact h
 have hp2:=Nat.two_pow_pos i;have hpi:2^i<=32:=bV (b:=5) oz;have hps:2^(i+1)=2*2^i:=by rw[Nat.pow_succ];omega
 have n1:Nl i (s.take (2^i)):=.inr ⟨i,le_refl _,fy hsl⟩;have n2:Nl i (s.drop (2^i)):=.inr ⟨i,le_refl _,fJ hsl⟩;have nd:=ht.1 i oz;have cd:=ht.2.cb i;obtain⟨nn,dn,cn⟩:=SR hm ht oz hsl cs;have b1:sB r i (4*e+3*eB r i+r+1)<=sB r j e:=rX r e hij;have b2:sB r i e<=sB r i (4*e+3*eB r i+r+1):=oa r i oz;have b3:sB r i r<=sB r i (4*e+3*eB r i+r+1):=oa r i oz;have b4:=ow r i (4*e+3*eB r i+r+1);have k1:=ih i oz (s.take (2^i)) e oz n1 cs.take oz;have k2:=ih i oz (s.drop (2^i)) e oz n2 cs.drop oz;have k3:=ih i oz _ r oz nd cd oz;have k4:=ih i oz _ _ oz nn cn oz
 have v3:T.sgn (am ts) i (ae i (ts.getD i []))=0\/T.sgn (am ts) i (ae i (ts.getD i []))=1:=by
  have h9:0<=T.sgn (am ts) i (ae i (ts.getD i [])):=hpos i oz;have:=T.sgn_cases (am ts) i (ae i (ts.getD i []));omega
 have hres:T.sgn (am ts) j (ae j s)=T.sgn3 (T.sgn (am ts) i (ae i (s.take (2^i)))) (T.sgn (am ts) i (ae i (s.drop (2^i)))) (T.sgn (am ts) i (ae i (ts.getD i []))) (T.sgn (am ts) i (ae i (oo ts i s))):=by
  rw[tC _ oz hij,dn];rfl
 rw[PD v3]at hres;have v1:=T.sgn_cases (am ts) i (ae i (s.take (2^i)));have v2:=T.sgn_cases (am ts) i (ae i (s.drop (2^i)));have v4:=T.sgn_cases (am ts) i (ae i (oo ts i s));have pw:=tv s.length oz;rw[show ka s.length=i+1 by rw[hsl];exact(mg oz).1,show ke s.length=true by rw[hsl];exact(mg oz).2]at pw;refine gc pw ?_;refine ga (show _=(i:Int) by rw[dA oz];omega) ?_;refine gi (hR i oz) ?_;refine gs (eI (.tmp rfl) (.const _) oz (show _=((2^i:Nat):Int) by rw[fD oz,hsl,fp]) rfl) ?_;refine gs (cQ (.tmp rfl) (.none _) (.some _ (.tmp rfl) oz) T67 rfl T45 rfl oz (by simp only[length_map];omega) rfl) ?_;refine gc (by have h9:=k1;rw[<- kH]at h9;exact h9) ?_;refine gs (eI (.tmp rfl) (.const _) oz (show _=((2^i:Nat):Int) by rw[fD oz,hsl,fp]) rfl) ?_;refine gs (cQ (.tmp rfl) (.some _ (.tmp rfl) oz) (.none _) T67 rfl T45 rfl (by simp only[length_map];omega) oz rfl) ?_;refine gc (by have h9:=k2;rw[<- mi]at h9;exact h9) ?_;refine gc k3 ?_;refine ga (xO v2 (.inr v3)) ?_;refine gD ?_;refine gC (fun t57=>?_) (fun t57=>?_)
 ·have e2:=A0 t57;refine af ?_;rw[hres,if_pos e2]
 have e2:=y9 t57;refine gC (fun t60=>?_) (fun t60=>?_)
 ·have e3 : T.sgn (am ts) i (ae i (s.take (2 ^ i))) = 0 := by simpa [aa] using t60
  refine af ?_;rw[hres,if_neg e2,if_pos e3];rfl
 have e3:¬T.sgn (am ts) i (ae i (s.take (2^i)))=0:=by simpa[aa]using t60
 refine gc (Si ts m r ht hm R hR i s.length s e oz hsl hsl cs oz) ?_;refine gc k4 ?_;refine ga (xO v1 v4) ?_;refine gD ?_;refine af ?_;rw[hres,if_neg e2,if_neg e3];rfl
theorem GX(rs:List (List Rt))(r:Nat)(h:TR rs r):FP 92 [cJ rs] (i64 (bA rs)):=by
 have hll:=h.ll;have hr:=h.le;refine ah func92 ?_;refine gl ?_;refine gC (fun t9=>?_) (fun t9=>?_)
 ·have h5 : 5 < rs.length := by have := t9; simp only [aa, decide_eq_true_eq] at this; omega
  refine af ?_;rw[G0 h5];rfl
 have h5:rs.length<=5:=by have:=t9;simp only[aa,decide_eq_false_iff_not]at this;omega
 refine gl ?_;refine aJ [1,11,12] [1] (fun(k:Nat)=>[(13,some (i64 k))]) (fun _=>[]) (fun k=>k<=rs.length/\∀j,j<k->ii rs j) (fun k=>rs.length-k) 0 ⟨zero_le _,fun j hj=>by omega⟩ ?_;rintro k ⟨hk,hj⟩ K1 J1;refine gC (fun t14=>?_) (fun t14=>?_)
 ·have hin : k < rs.length := by simpa [aa] using t14
  obtain⟨d,hd⟩:=aq hin;have hdm:=mem_of_getElem? hd;have hdl:=h.len d hdm;refine gi (au hd) ?_;refine gl ?_;refine gs (gp (.const _) (.tmp rfl) oz (nE oz) rfl) ?_;refine gC (fun t22=>?_) (fun t22=>?_)
  ·have h1 : d.length ≠ 2 ^ k := by have := t22; simp only [aa, bne_iff_ne, ne_eq] at this; omega
   refine af ?_;rw[IC h5 hd hj h1];rfl
  have h1:d.length=2^k:=by have:=t22;simp only[aa,bne_eq_false_iff_eq]at this;omega
  have hnu:=Jc k oz d (h.ok d hdm) hdl;refine gc hnu ?_;refine gC (fun t27=>?_) (fun t27=>?_)
  ·have h2:=jK t27;refine af ?_;rw[H3 h5 hd hj h1 h2]
  have h2:=jA t27;have hts:=G8 (ts:=llq rs) (fun j hjk=>(hj j hjk).nl) h.rb;have hq:=uD h2 (h.ok d hdm);have hcb:Cb r (lq d):=by have:=h.rb.cb k;rw[tO,getD_eq_getElem?_getD,hd]at this;exact this
  have hsg:FP 183 [cJ rs,nR d] (i64 (T.sgn (am (llq rs)) k (ae k (lq d)))):=by
   have h9:=Cg ((llq rs).take k) k r hts oz (fun j hjk=>by rw[T.sgn_congr j (fun i hi=>v9 (show i<k by omega)),v9 hjk];exact(hj j hjk).2.2) (rs.map nR) (fun j hjk=>Ui h.ok (show k<=rs.length by omega) hj hjk) k (lq d) r (le_refl _) hq.2 hcb (nC (le_refl k) (by have:=h.three;omega) hr (by have:=jN k;omega));rw[T.sgn_congr k (fun j hjk=>v9 hjk)]at h9;rw[hq.1,dV];rw[<- hq.1];exact h9
  refine gc hsg ?_;refine gC (fun t32=>?_) (fun t32=>?_)
  ·have h3 : T.sgn (am (llq rs)) k (ae k (lq d)) < 0 := by simpa [aa] using t32
   refine af ?_;rw[IR h5 hd hj h1 h2 h3];rfl
  have h3:¬T.sgn (am (llq rs)) k (ae k (lq d))<0:=by simpa[aa]using t32
  refine ga aE ?_;exact aD J1 (k+1) ⟨hin,fun j hjk=>by rcases lt_or_ge j k with h9 |h9;exact hj j h9;(have:j=k:=by omega);subst this;exact DZ hd h1 h2 h3⟩
 have hin:k=rs.length:=by have:rs.length<=k:=(by simpa[aa]using t14);omega
 subst hin;refine af ?_;rw[Eo h5 hj];rfl
theorem B2(rs:List (List Rt))(r:Nat)(h:TR rs r)(xs:List (List Rt))(hx:∀a∈xs,(∀x∈a,x.ok)/\a.length<=281474976710656)(hl:xs.length<=281474976710656):FP 182 [cJ rs,.lst 1 (xs.map nR)] (i64 (bg rs xs)):=by
 refine ah func182 ?_;refine gc (GX rs r h) ?_;refine gC (fun t12=>?_) (fun t12=>?_)
 ·have h1:=jK t12;refine af ?_;rw[yO h1]
 have h1:=jA t12;have h5:rs.length<=5:=by have:=(cK h h1).1.five;rwa [length_map]at this
 refine gl ?_;refine aJ [2,14,15] [2] (fun(i:Nat)=>[(16,some (i64 i))]) (fun _=>[]) (fun i=>i<=xs.length/\∀x∈xs.take i,bW rs.length x=0) (fun i=>xs.length-i) 0 ⟨zero_le _,fun x hx=>by simp at hx⟩ ?_;rintro i ⟨hi,hj⟩ K1 J1;refine gC (fun t17=>?_) (fun t17=>?_)
 ·have hin : i < xs.length := by simpa [aa] using t17
  obtain⟨a,ha⟩:=aq hin;have hok:=hx a (mem_of_getElem? ha);refine gi (au ha) ?_;refine gl ?_;refine gc (Jc rs.length h5 a hok.1 hok.2) ?_;refine gC (fun t26=>?_) (fun t26=>?_)
  ·have h2:=jK t26;refine af ?_;rw[vt h1 ha hj h2]
  have h2:=jA t26;refine ga aE ?_;exact aD J1 (i+1) ⟨hin,fun x hx=>by rw[cS ha]at hx;rcases List.mem_append.1 hx with h9 |h9;exact hj x h9;(rw[List.mem_singleton.1 h9];exact h2)⟩
 have hin:i=xs.length:=by have:xs.length<=i:=(by simpa[aa]using t17);omega
 subst hin;rw[take_length]at hj;refine af ?_;rw[p7 h1 hj];rfl
theorem TW(rs:List (List Rt))(r:Nat)(h:TR rs r)(a b:List Rt)(e f:Nat)(ha:NR a e)(hb:NR b f)(he:e+f+1<=lm rs.length) :
  FP 86 [cJ rs,nR a,nR b] (.tup [i64 (if bg rs [a,b]=0 then T.sgn (am (llq rs)) rs.length (T.add rs.length (ae rs.length (lq a)) (T.neg rs.length (ae rs.length (lq b))))else 0),i64 (bg rs [a,b])]):=by
 have hr:=h.le;have hlm:=jP rs.length;refine ah func86 ?_;refine gc (B2 rs r h [a,b] (qk ha hb) (by simp)) ?_;refine gC (fun t15=>?_) (fun t15=>?_) (st2:=(77777,0))
 ·have h1:=jK t15;refine br ?_;rw[if_neg h1];rfl
 have h1:=jA t15;obtain⟨h2,h3⟩:=lT h1;obtain⟨tw,e0⟩:=cK h h2;obtain⟨e1,na⟩:=ha.num (h3 a (by simp));obtain⟨e2,nb⟩:=hb.num (h3 b (by simp));have hlen:(llq rs).length=rs.length:=length_map _;have h5:rs.length<=5:=by have:=tw.five;omega
 have hla:=na.len5 h5;have hlb:=nb.len5 h5;have htw:=tw.ok;rw[hlen]at htw;have qa:∀q∈lq a,Qs q:=fun q hq=>ha.cb.qs oz hq
 have qb:∀q∈lq b,Qs q:=fun q hq=>hb.cb.qs oz hq
 have qm:∀q∈cG (lq b),Qs q:=fun q hq=>hb.cb.minus.qs oz hq
 have np:=oO na (mJ nb);have hsg:=Cg (llq rs) rs.length r htw h5 (fun j hj=>tw.pos j oz) ((llq rs).map nA) (fun j hj=>wC oz) rs.length _ _ (le_refl _) np (ha.cb.plus hb.cb.minus) (nC (le_refl rs.length) (by have:=tw.three;omega) hr oz);refine gW (Wk.of (sl:=[(1,some (nA (lq a))),(2,some (nA (lq b))),(3,some (.ptr 3 0)),(8,some (i64 (bg rs [a,b])))]) (hp:=[(3,some (.box [.lst 1 ((llq rs).map nA)]))]) (.cons rfl (Sub.of e1) (.cons rfl (Sub.of e2) (.k (.k .nil)))) (.cons rfl (BlkSub.bL (.cons (.of (l8 e0)) .nil) rfl) .nil)) ?_;refine gc (D0 _ qb oz) ?_;refine gc (vq _ _ qa qm oz (by rw[io];omega)) ?_;refine gc hsg ?_;refine gD ?_;refine br ?_;rw[if_pos h1,h1,iO,my];rfl
theorem Kd(rs:List (List Rt))(r:Nat)(h:TR rs r)(a:List Rt)(e:Nat)(ha:NR a e)(he:e<=lm rs.length) :
  FP 93 [cJ rs,nR a] (.tup [nA (if bg rs [a]=0 then aU (lq a) (2^rs.length)else[]),i64 (bg rs [a])]):=by
 have hlm:=jP rs.length;refine ah func93 ?_;refine gc (B2 rs r h [a] (fun x hx=>by rw[List.mem_singleton.1 hx];exact⟨ha.ok,ha.len⟩) (by simp)) ?_;refine gC (fun t12=>?_) (fun t12=>?_) (st2:=(77777,0))
 ·have h1:=jK t12;refine gR ?_;exact dp (by rw[if_neg h1];exact Sub.tup (.cons (.nil _ _ _) (.cons (.refl _) .nil)))
 have h1:=jA t12;obtain⟨h2,h3⟩:=lT h1;obtain⟨tw,e0⟩:=cK h h2;obtain⟨e1,na⟩:=ha.num (h3 a (by simp));have hlen:(llq rs).length=rs.length:=length_map _;have h5:rs.length<=5:=by have:=tw.five;omega
 have hp5:2^rs.length<=32:=bV (b:=5) h5;refine gW (Wk.of (sl:=[(1,some (nA (lq a))),(2,some (.ptr 2 0)),(6,some (i64 (bg rs [a])))]) (hp:=[(2,some (.box [.lst 1 (rs.map nR)]))]) (.cons rfl (Sub.of e1) (.k (.k .nil))) (.k .nil)) ?_;refine gl ?_;refine gs (gp (.const _) (.tmp rfl) oz (nE oz) rfl) ?_;refine gc (qY _ _ na.le oz) ?_;refine br ?_;rw[if_pos h1,h1];rfl
theorem TT(x:Rt)(hx:x.ok)(hs:Qs x.q):FP 60 [x.av] (nA (sh 0 (x.q:Rat))):=by
 have hadd:=xV x (rt 0) hx Qs.zero.ok;rw[pK]at hadd;refine ah func60 ?_;refine gc (yg x hx) ?_;refine gC (fun t5=>?_) (fun t5=>?_)
 ·have h0 : x.q=0 := oL (by simpa[aa]using t5);refine gR ?_;exact i9 (by rw[h0];exact Sub.nil _ _ _)
 have h0:x.q≠0:=fun h=>by rw[h]at t5;cases t5
 refine gc (Con.sA (.cons (.refl _) (.cons iH .nil)) hadd) ?_;refine af ?_;have:sh 0 (x.q:Rat)=[x.q]:=if_neg h0;rw[this];rfl
theorem Bq{p q:Rat}(hp:Qs p)(hq:Qs q):FP 231 [qA p,qA q] (qA (p+q)):=by
 have h:=mN (rt p) (rt q) hp.ok hq.ok;rw[bM,bM]at h;exact h
theorem uR{p q:Rat}(hp:Qs p)(hq:Qs q):FP 262 [qA p,qA q] (qA (p-q)):=by
 have h:=Ut (rt p) (rt q) hp.ok hq.ok;rw[bM,bM]at h;exact h
theorem tf{p q:Rat}(hp:Qs p)(hq:Qs q):FP 286 [qA p,qA q] (qA (p*q)):=by
 have h:=F5 (rt p) (rt q) hp.ok hq.ok;rw[bM,bM]at h;exact h
theorem Oj{p q:Rat}(hp:Qs p)(hq:Qs q):FP 385 [qA p,qA q] (.tup [qA (p/q),bh (if q=0 then 8 else 0)]):=by
 have h:=Ft (rt p) (rt q) hp.ok hq.ok;rw[bM,bM]at h;exact h
theorem U3{p:Rat}(hp:Qs p):FP 121 [qA p] (qA (-p)):=by
 have h:=ul (rt p) hp.ok;rw[bM]at h;exact h
theorem QT{p:Rat}(hp:Qs p):FP 209 [qA p] (i64 (bN p)):=by
 have h:=vV (rt p) hp.ok;rw[bM]at h;exact h
theorem uL(x:Tn)(hx:x.t.ok):FP 105 [x.av] (bh x.err):=by
 refine ah func105 ?_;refine gc (ua x.t hx) ?_;refine bF (fun _=>(vV x.t hx)) ?_;refine gC (fun t16=>?_) (fun t16=>?_)
 ·have h0:=Tn.err_yes t16;refine af ?_;rw[h0];rfl
 have h0:=Tn.err_no t16;refine af ?_;rw[h0];rfl
theorem Hk{p q:Rat}(hp:Qs p)(hq:Qs q):FP 353 [qA p,qA q] (qA (p/q)):=by
 refine ah func353 ?_;refine gc (Oj hp hq) ?_;refine gC (fun t14=>?_) (fun t14=>?_)
 ·have h0:q=0:=by
   have:=cT t14
   by_cases h:q=0
   ·exact h
   ·rw[if_neg h]at this;exact absurd rfl this
  refine gR ?_;exact i9 (by rw[h0,KE];exact iH)
 refine af ?_;rfl
theorem Ca(half:Bool){t:Rat}{e:Nat}(ht:Qb e t)(he:e<=1000000):FP 256 [Tn.av ⟨rt t,half⟩] (.tup [qA (dC half t),qA (dF half t)]):=by
 have qt:Qs t:=ht.qs oz;have m2:=ht.mul ht;have one:Qb 1 (((1:Int):Rat)):=Qb.one;have d:=one.add m2;refine ah func256 ?_;refine gC (fun t8=>?_) (fun t8=>?_)
 ·have h0:half=true:=t8;refine gc (kF (-1) oz) ?_;refine gR ?_;exact dp (by subst h0;exact Sub.tup (.cons (.refl _) (.cons iH .nil)))
 have h0:half=false:=t8;refine gc (kF 1 oz) ?_;refine gc (tf qt qt) ?_;refine gD ?_;refine gc (Bq (one.qs oz) (m2.qs oz)) ?_;refine gc (uR (one.qs oz) (m2.qs oz)) ?_;refine gc (Hk ((one.sub m2).qs oz) (d.qs oz)) ?_;refine gc (Bq qt qt) ?_;refine gc (Hk ((ht.add ht).qs oz) (d.qs oz)) ?_;refine gD ?_;refine br ?_;subst h0;rfl
theorem Ap(x:Tn)(hx:x.t.ok){e:Nat}(hq:Qb e x.t.q)(he:e<=1000000):FP 148 [x.av] (.tup [qA (if x.err=0 then dC x.half x.t.q else 0),bh x.err]):=by
 refine ah func148 ?_;refine gc (uL x hx) ?_;refine gC (fun t10=>?_) (fun t10=>?_)
 ·have h1:=cT t10;refine gR ?_;exact dp (by rw[if_neg h1];exact Sub.tup (.cons iH (.cons (.refl _) .nil)))
 have h1:=da t10;have hd:=Ca x.half hq he;rw[<- Rt.eq_rt hx (Tn.ok_valid h1)]at hd;refine gc hd ?_;refine br ?_;rw[if_pos h1,h1];rfl
theorem DU(x:Tn)(hx:x.t.ok){e:Nat}(hq:Qb e x.t.q)(he:e<=1000000):FP 149 [x.av] (.tup [qA (if x.err=0 then dF x.half x.t.q else 0),bh x.err]):=by
 refine ah func149 ?_;refine gc (uL x hx) ?_;refine gC (fun t10=>?_) (fun t10=>?_)
 ·have h1:=cT t10;refine gR ?_;exact dp (by rw[if_neg h1];exact Sub.tup (.cons iH (.cons (.refl _) .nil)))
 have h1:=da t10;have hd:=Ca x.half hq he;rw[<- Rt.eq_rt hx (Tn.ok_valid h1)]at hd;refine gc hd ?_;refine br ?_;rw[if_pos h1,h1];rfl
theorem yy{ts:LL}{r e f:Nat}(tw:Tw ts r){a b:List Rat}(ha:Nm ts.length e a)(hb:Nm ts.length f b)(he:e+f<=lm ts.length) :
  FP 356 [aN ts,nA a,nA b] (.tup [nA (sh ts.length (T.add ts.length (ae ts.length a) (ae ts.length b))),.v .nilIface]):=by
 have h:=Tk (ts.map (List.map rt)) r tw.tr (a.map rt) (b.map rt) e f (ha.rt oz) (hb.rt oz) (by rw[length_map];exact he);have h0:bg (ts.map (List.map rt)) [a.map rt,b.map rt]=0:=pL tw ha hb;rw[h0,if_pos rfl,ig,dV,dV,dO,dO,length_map]at h;exact h
theorem o7{ts:LL}{r e f:Nat}(tw:Tw ts r){a b:List Rat}(ha:Nm ts.length e a)(hb:Nm ts.length f b)(he:e+f<=lm ts.length) :
  FP 176 [aN ts,nA a,nA b] (.tup [nA (sh ts.length (T.add ts.length (ae ts.length a) (T.neg ts.length (ae ts.length b)))),.v .nilIface]):=by
 have h:=LQ (ts.map (List.map rt)) r tw.tr (a.map rt) (b.map rt) e f (ha.rt oz) (hb.rt oz) (by rw[length_map];exact he);have h0:bg (ts.map (List.map rt)) [a.map rt,b.map rt]=0:=pL tw ha hb;rw[h0,if_pos rfl,ig,dV,dV,dO,dO,length_map]at h;exact h
theorem AY{ts:LL}{r e f:Nat}(tw:Tw ts r){a b:List Rat}(ha:Nm ts.length e a)(hb:Nm ts.length f b)(he:e+f<=lm ts.length) :
  FP 127 [aN ts,nA a,nA b] (.tup [nA (sh ts.length (T.mul (am ts) ts.length (ae ts.length a) (ae ts.length b))),.v .nilIface]):=by
 have h:=Mp (ts.map (List.map rt)) r tw.tr (a.map rt) (b.map rt) e f (ha.rt oz) (hb.rt oz) (by rw[length_map];exact he);have h0:bg (ts.map (List.map rt)) [a.map rt,b.map rt]=0:=pL tw ha hb;rw[h0,if_pos rfl,ig,dV,dV,oT,dO,dO,length_map]at h;exact h
theorem z5{ts:LL}{r e f:Nat}(tw:Tw ts r){a b:List Rat}(ha:Nm ts.length e a)(hb:Nm ts.length f b)(he:e+f+1<=lm ts.length) :
  FP 128 [aN ts,nA a,nA b] (.tup [i64 (T.sgn (am ts) ts.length (T.add ts.length (ae ts.length a) (T.neg ts.length (ae ts.length b)))),.v .nilIface]):=by
 have h:=N9 (ts.map (List.map rt)) r tw.tr (a.map rt) (b.map rt) e f (ha.rt oz) (hb.rt oz) (by rw[length_map];exact he);have h0:bg (ts.map (List.map rt)) [a.map rt,b.map rt]=0:=pL tw ha hb;rw[h0,if_pos rfl,ig,dV,dV,oT,dO,dO,length_map]at h;exact h
theorem uU{ts:LL}{r e:Nat}(tw:Tw ts r){a:List Rat}(ha:Nm ts.length e a)(he:e<=lm ts.length) :
  FP 116 [aN ts,nA a] (.tup [i64 (T.sgn (am ts) ts.length (ae ts.length a)),.v .nilIface]):=by
 have h:=L2 (ts.map (List.map rt)) r tw.tr (a.map rt) e (ha.rt he) (by rw[length_map];exact he);have h0:bg (ts.map (List.map rt)) [a.map rt]=0:=xI tw ha;rw[h0,if_pos rfl,ig,dV,oT,dO,length_map]at h;exact h
theorem JV{ts:LL}{r e f:Nat}(tw:Tw ts r){a b:List Rat}(ha:Nm ts.length e a)(hb:Nm ts.length f b)(he:e+f+1<=lm ts.length) :
  FP 86 [aN ts,nA a,nA b] (.tup [i64 (T.sgn (am ts) ts.length (T.add ts.length (ae ts.length a) (T.neg ts.length (ae ts.length b)))),i64 0]):=by
 have h:=TW (ts.map (List.map rt)) r tw.tr (a.map rt) (b.map rt) e f (ha.rt oz) (hb.rt oz) (by rw[length_map];exact he);have h0:bg (ts.map (List.map rt)) [a.map rt,b.map rt]=0:=pL tw ha hb;rw[h0,if_pos rfl,ig,dV,dV,oT,dO,dO,length_map]at h;exact h
theorem ym{ts:LL}{r e:Nat}(tw:Tw ts r){a:List Rat}(ha:Nm ts.length e a)(he:e<=lm ts.length) :
  FP 147 [aN ts,nA a] (.tup [nA (sh ts.length (T.neg ts.length (ae ts.length a))),.v .nilIface]):=by
 have h:=Hv (ts.map (List.map rt)) r tw.tr (a.map rt) e (ha.rt he) (by rw[length_map];exact he);have h0:bg (ts.map (List.map rt)) [a.map rt]=0:=xI tw ha;rw[h0,if_pos rfl,ig,dV,dO,length_map]at h;exact h
theorem Om{ts:LL}{r:Nat}(tw:Tw ts r):FP 144 [aN ts] (.v .nilIface):=by
 have h:=ri (ts.map (List.map rt)) r tw.tr;rw[tw.chk,ig]at h;exact h
theorem mj{q:Rat}(h:Qs q):FP 165 [qA q] (nA (sh 0 (q:Rat))):=by
 have h1:=MN (rt q) h.ok (by rw[bM];exact h);rw[bM]at h1;exact h1
theorem NN{q:Rat}(h:Qs q):FP 60 [qA q] (nA (sh 0 (q:Rat))):=by
 have h1:=TT (rt q) h.ok (by rw[bM];exact h);rw[bM]at h1;exact h1
theorem uv{ts:LL}{r e:Nat}(tw:Tw ts r)(ls:LL)(hl:∀l∈ls,Nm ts.length e l)(he:e<=lm ts.length)(hn:ls.length<=1000):FP 190 [aN ts,.lst 1 (ls.map nA)] (.v .nilIface):=by
 refine ah func190 ?_;refine gc (Om tw) ?_;refine gC (fun t13=>?_) (fun t13=>?_) (st1:=(3,0));cases t13;refine gl ?_;refine aJ [2,15,16] [2] (fun(i:Nat)=>[(17,some (i64 i))]) (fun _=>[]) (fun i=>i<=ls.length) (fun i=>ls.length-i) 0 (zero_le _) ?_;rintro i hi K1 J1;refine gC (fun t18=>?_) (fun t18=>?_)
 ·have hin : i < ls.length := by simpa [aa] using t18
  obtain⟨l,hll⟩:=aq hin;have hok:=hl l (mem_of_getElem? hll);refine gi (au hll) ?_;refine gc (ym tw hok he) ?_;refine gC (fun t28=>?_) (fun t28=>?_) (st1:=(9,0));cases t28;refine ga aE ?_;exact aD J1 (i+1) hin
 have hin:i=ls.length:=by have:ls.length<=i:=(by simpa[aa]using t18);omega
 refine af ?_
 first |rfl |(simp;done)
theorem oe{ts:LL}{r e:Nat}(tw:Tw ts r)(ps:List (List Rat×List Rat))(hl:∀p∈ps,Nm ts.length e p.1/\Nm ts.length e p.2)(he:e<=lm ts.length)(hn:ps.length<=500):FP 171 [aN ts,.lst 2 (ps.map fun p=>aI p.1 p.2)] (.v .nilIface):=by
 refine ah func171 ?_;refine gl ?_;refine gW (Wk.virt 900 1 rfl) ?_;refine aJ [2,8,9] [2] (fun(i:Nat)=>[(5,some (.ms 900 1 0 (2*i))),(10,some (i64 i))]) (fun i=>[(900,some (.row 1 ((iM (ps.take i)).map nA)))]) (fun i=>i<=ps.length) (fun i=>ps.length-i) 0 (zero_le _) ?_;rintro i hi K1 J1;refine gC (fun t11=>?_) (fun t11=>?_) (st2:=(7,0))
 ·have hin : i < ps.length := by simpa [aa] using t11
  obtain⟨p,hp⟩:=aq hin;have hfl:(iM (ps.take i)).length=2*i:=by rw[xk,length_take];omega
  refine gi (au hp) ?_;refine gs (bR (.tmp rfl) rfl (by rw[length_map,hfl]) (.tmp rfl) T35 rfl T67 rfl rfl (by simp;omega) rfl rfl) ?_ (6,0);refine gW (Wk.of (sl:=[(2,some (.ptr 2 0)),(5,some (.ms 20 1 0 (2*i+2))),(8,some (.lst 2 (ps.map fun p=>aI p.1 p.2))),(9,some (i64 ps.length)),(10,some (i64 i))]) (hp:=[(2,some (.box [.lst 1 (ts.map nA)])),(20,some (.row 1 ((iM (ps.take (i+1))).map nA)))]) aQ (.k (.cons rfl (BlkSub.of (by rw[cS hp,Dt,map_append];rfl)) .nil))) ?_ (6,0);refine gW (Wk.rk (k:=20) (d:=900) rfl rfl) ?_;refine ga aE ?_;exact aD J1 (i+1) hin
 have hin:i=ps.length:=by have:ps.length<=i:=(by simpa[aa]using t11);omega
 subst hin;refine gW ((Wk.freeze (k:=900) rfl).trans<|Wk.of (sl:=[(2,some (.ptr 2 0)),(5,some (.lst 1 ((iM ps).map nA)))]) (hp:=[(2,some (.box [.lst 1 (ts.map nA)]))]) (.k (.cons rfl (Sub.of (by rw[bI (by rw[length_map,xk,length_take];omega),take_length])) .nil)) (.k .nil)) ?_;refine gc (uv tw (iM ps) (I3 hl) he (by rw[xk];omega)) ?_;refine af ?_
 first |rfl |(simp;done)
theorem xC(R:List AV)(a:List Rat):Con prog 357 [.ptr 1000 0,nA a,.v .nilIface] [(1000,some (.box [.lst 1 R,.v .nilIface]))] (nA a) [(1000,some (.box [.lst 1 R,.v .nilIface]))]:=by
 refine gF func357 (fun k z h=>bB h) ?_;refine gC (fun t11=>?_) (fun t11=>?_) (st2:=(77777,0))
 ·refine gR ?_;exact aw.keep (bc rfl)
 cases t11
theorem um{ts:LL}{r e f:Nat}(tw:Tw ts r){a b:List Rat}(ha:Nm ts.length e a)(hb:Nm ts.length f b)(he:e+f<=lm ts.length) :
  Con prog 285 [.ptr 1000 0,nA a,nA b] [(1000,some (fP ts))] (nA (sh ts.length (T.add ts.length (ae ts.length a) (ae ts.length b)))) [(1000,some (fP ts))]:=by
 refine gF func285 (fun k z h=>bB h) ?_;refine gc (yy tw ha hb he) ?_;refine gt (aA (xC _ _) (aG rfl rfl rfl) aC rfl rfl) ?_;refine gR ?_;exact aw.keep (bc rfl)
theorem xb{ts:LL}{r e f:Nat}(tw:Tw ts r){a b:List Rat}(ha:Nm ts.length e a)(hb:Nm ts.length f b)(he:e+f<=lm ts.length) :
  Con prog 283 [.ptr 1000 0,nA a,nA b] [(1000,some (fP ts))] (nA (sh ts.length (T.add ts.length (ae ts.length a) (T.neg ts.length (ae ts.length b))))) [(1000,some (fP ts))]:=by
 refine gF func283 (fun k z h=>bB h) ?_;refine gc (o7 tw ha hb he) ?_;refine gt (aA (xC _ _) (aG rfl rfl rfl) aC rfl rfl) ?_;refine gR ?_;exact aw.keep (bc rfl)
theorem lg{ts:LL}{r e f:Nat}(tw:Tw ts r){a b:List Rat}(ha:Nm ts.length e a)(hb:Nm ts.length f b)(he:e+f<=lm ts.length) :
  Con prog 280 [.ptr 1000 0,nA a,nA b] [(1000,some (fP ts))] (nA (sh ts.length (T.mul (am ts) ts.length (ae ts.length a) (ae ts.length b)))) [(1000,some (fP ts))]:=by
 refine gF func280 (fun k z h=>bB h) ?_;refine gc (AY tw ha hb he) ?_;refine gt (aA (xC _ _) (aG rfl rfl rfl) aC rfl rfl) ?_;refine gR ?_;exact aw.keep (bc rfl)
theorem Gp{ts:LL}{r e f:Nat}(tw:Tw ts r){a b c d:List Rat}(ha:Nm ts.length e a)(hb:Nm ts.length e b)(hc:Nm ts.length f c)(hd:Nm ts.length f d)(he:2*(e+f+kB r ts.length)<=lm ts.length) :
  Con prog 177 [.ptr 1000 0,aI a b,aI c d] [(1000,some (fP ts))] (nA (sh ts.length (nQ ts (ae ts.length a) (ae ts.length b) (ae ts.length c) (ae ts.length d)))) [(1000,some (fP ts))]:=by
 refine gF func177 (fun k z h=>bB h) ?_;refine gt (aA (lg tw ha hc oz) (aG rfl rfl rfl) aC rfl rfl) ?_;refine gt (aA (lg tw hb hd oz) (aG rfl rfl rfl) aC rfl rfl) ?_;refine gt (aA (zJ▸um tw (ha.mul tw rfl hc) (hb.mul tw rfl hd) oz) (aG rfl rfl rfl) aC rfl rfl) ?_;refine gD ?_;refine gR ?_;exact aw.keep (bc rfl)
theorem FW{ts:LL}{r e f:Nat}(tw:Tw ts r){a b c d:List Rat}(ha:Nm ts.length e a)(hb:Nm ts.length e b)(hc:Nm ts.length f c)(hd:Nm ts.length f d)(he:2*(e+f+kB r ts.length)<=lm ts.length) :
  Con prog 175 [.ptr 1000 0,aI a b,aI c d] [(1000,some (fP ts))] (nA (sh ts.length (mK ts (ae ts.length a) (ae ts.length b) (ae ts.length c) (ae ts.length d)))) [(1000,some (fP ts))]:=by
 refine gF func175 (fun k z h=>bB h) ?_;refine gt (aA (lg tw ha hd oz) (aG rfl rfl rfl) aC rfl rfl) ?_;refine gt (aA (lg tw hb hc oz) (aG rfl rfl rfl) aC rfl rfl) ?_;refine gt (aA (zG▸xb tw (ha.mul tw rfl hd) (hb.mul tw rfl hc) oz) (aG rfl rfl rfl) aC rfl rfl) ?_;refine gD ?_;refine gR ?_;exact aw.keep (bc rfl)
def T.inv(r:(k:Nat)->T k):(k:Nat)->T k->T k
  |0,q=>(1:Rat)/q
  |k+1,x =>
    if T.isZ k x.2=true then(T.inv r k x.1,T.zero k)
    else if T.sgn r k (T.norm r k x)=0 then(T.inv r k (T.add k x.1 x.1),T.zero k)
    else(T.mul r k x.1 (T.inv r k (T.norm r k x)),T.mul r k (T.neg k x.2) (T.inv r k (T.norm r k x)))
theorem T.inv_low(r:(k:Nat)->T k)(k:Nat)(x:T k):T.inv r (k+1) (x,T.zero k)=(T.inv r k x,T.zero k):=by
 have h:=(T.isZ_iff k (T.zero k)).2 rfl
 conv=>lhs;unfold T.inv
 simp only[if_pos h]
theorem ut(r:(k:Nat)->T k){i j:Nat}{s L:List Rat}(hs:s.length<=2^i)(hL:L.length<=2^i)(h:ae i L=T.inv r i (ae i s))(hij:i<=j):ae j L=T.inv r j (ae j s):=by
  induction j with
  | zero => have : i = 0 := by omega
            subst this;exact h
  |succ j ih =>
    by_cases h':i=j+1
    · rw[<- h'];exact h
    · rw[fS (le_trans hs (bV oz)),fS (le_trans hL (bV oz)),T.inv_low,ih oz]
def iB(r:Nat):Nat->Nat->Nat
  |0,e=>e
  |j+1,e=>e+iB r j (4*e+3*eB r j+r+1)+eB r (j+1)
theorem Ar(r:Nat):∀j e,e<=iB r j e
 |0,e=>le_refl _
 |j+1,e=>by simp only[iB];omega
theorem xi(r:Nat):∀j {e f:Nat},e<=f->iB r j e<=iB r j f
 |0,e,f,h=>h
 |j+1,e,f,h=>by
  have:=xi r j (e:=4*e+3*eB r j+r+1) (f:=4*f+3*eB r j+r+1) oz;simp only[iB];omega
theorem KN(r j e:Nat):iB r j e<=iB r (j+1) e:=by
 have:=xi r j (e:=e) (f:=4*e+3*eB r j+r+1) oz;simp only[iB];omega
theorem yu(r e:Nat){i j:Nat}(h:i<=j):iB r i e<=iB r j e:=by
  induction j with
  | zero => have : i = 0 := by omega
            subst this;exact le_refl _
  |succ j ih =>
    by_cases hij:i=j+1
    · rw[hij];exact le_refl _
    · exact le_trans (ih oz) (KN r j e)
theorem Lv(r e:Nat){j:Nat}(h:j<=1):iB r j e<=5*e+2*eB r j:=by
 match j,h with
 |0,_=>simp only[iB,eB];omega
 |1,_=>simp only[iB,eB];omega
theorem EU{r:(k:Nat)->T k}{n:Nat}(h:Sg (E r n) (sg r n))(hd:0<=sg r n (bD r n)){x y:E r n}(hz:sg r (n+1) (bH x y)≠0)(hN:sg r n (aP x y)=0):sg r n (x+x)≠0:=by
 have hx:sg r n x≠0:=by
  intro hx;rw[kG,hN,hx]at hz;have h1:sg r n (x*x)=0:=by rw[h.mul,hx];simp
  have h2:=h.zadd (y:=-(y*y*bD r n)) h1;unfold aP at hN;rw[h2,h.neg,h.mul,h.mul]at hN;unfold T.sgn3 at hz;have c1:=h.cs y;have c2:=h.cs (bD r n);rcases c1 with e |e |e <;> rcases c2 with e' |e' |e' <;> rw[e,e']at hN <;> rw[e,e']at hz <;> first |omega |(simp at hz) |(simp at hN)
 rcases h.cs x with e |e |e
 ·have := h.padd (x := -x) (y := -x) (by rw[h.neg,e];rfl) (by rw[h.neg,e];decide);rw[show -x+-x=-(x+x) by grind,h.neg]at this;omega
 ·exact absurd e hx
 ·have:=h.padd (x:=x) (y:=x) e oz;omega
theorem Cb.inv1{e:Nat}{q:Rat}(h:Cb e [q])(hq:q≠0):Cb e [(1:Rat)/q]:=by
 obtain⟨D,N,⟨h0,h1⟩,h2,h3⟩:=h;obtain⟨n,hn,hl⟩:=h1 q (by simp)
 have hD:((D:Int):Rat)≠0:=by
  intro h9;have:(D:Int)=0:=Rat.intCast_eq_zero_iff.1 h9;omega
 have hn0:n≠0:=by
  rintro rfl;rw[show((0:Int):Rat)=0 from rfl]at hn;rcases Rat.mul_eq_zero.1 hn with h9 |h9
  ·exact hq h9
  ·exact hD h9
 have hnq:((n:Int):Rat)≠0:=fun h9=>hn0 (Rat.intCast_eq_zero_iff.1 h9)
 refine⟨n.natAbs,D,⟨by omega,?_⟩,le_trans hl h3,h2⟩;intro x hx;rw[List.mem_singleton.1 hx];have key:(1:Rat)/q*(n:Rat)=((D:Int):Rat):=by rw[<- hn];grind
 rcases Int.natAbs_eq n with e9 |e9
 ·refine⟨D,?_,by simp⟩;rw[<- e9];exact key
 ·refine ⟨-(D : Int), ?_, by simp⟩;rw [Rat.intCast_neg,<- key]
  conv=>rhs;rw[e9]
  rw[Rat.intCast_neg];grind
theorem DX{e n:Nat}{s:List Rat}(h:Cb e s):Cb e (eK (s.take n) (cG (s.drop n)) n):=by
 obtain⟨D,N,h1,h2,h3⟩:=h;exact⟨D,N,(h1.sub (fun q hq=>mem_of_mem_take hq)).join (h1.sub (fun q hq=>List.mem_of_mem_drop hq)).minus,h2,h3⟩
theorem Jk:∀{j i:Nat}{x:T j},(sh j x).length=2^(i+1)->i+1<=j->T.isZ i (ae i ((sh j x).drop (2^i)))=false
 |0,i,x,_,h=>by omega
 |j+1,i,x,hl,h=>by
  cases hz:T.isZ j x.2
  ·have h1:=Uk hz;rw[h1]at hl
   have e:i=j:=by
    rcases Nat.lt_trichotomy i j with h9 |h9 |h9
    ·have := Nat.pow_lt_pow_right (a := 2) oz (show i+1<j+1 by omega);omega
    ·exact h9
    ·omega
   subst e;have h2:ae (i+1) (sh (i+1) x)=x:=a7 (i+1) x;have h3:ae i ((sh (i+1) x).drop (2^i))=x.2:=congrArg Prod.snd h2;rw[h3];exact hz
  ·have h1:sh (j+1) x=sh j x.1:=by
    conv=>lhs;unfold sh
    rw[if_pos hz]
   rw[h1]at hl ⊢;have h2:=(ee j x.1).le
   have h3:i+1<=j:=by
    rcases lt_or_ge j (i+1)with h9 |h9
    ·have:=Nat.pow_lt_pow_right (a:=2) oz h9;omega
    ·exact h9
   exact Jk hl h3
theorem B5(r:(k:Nat)->T k){i:Nat}{x:T (i+1)}(hz:T.isZ i x.2=false)(h0:T.sgn r i (T.norm r i x)=0):T.inv r (i+1) x=(T.inv r i (T.add i x.1 x.1),T.zero i):=by
 conv=>lhs;unfold T.inv
 rw[if_neg (by rw[hz];decide),if_pos h0]
theorem CI(r:(k:Nat)->T k){i:Nat}{x:T (i+1)}(hz:T.isZ i x.2=false)(h0:T.sgn r i (T.norm r i x)≠0) :
  T.inv r (i+1) x=(T.mul r i x.1 (T.inv r i (T.norm r i x)),T.mul r i (T.neg i x.2) (T.inv r i (T.norm r i x))):=by
 conv=>lhs;unfold T.inv
 rw[if_neg (by rw[hz];decide),if_neg h0]
theorem mul_low(r:(k:Nat)->T k)(i:Nat)(x y w:T i):T.mul r (i+1) (x,y) (w,T.zero i)=(T.mul r i x w,T.mul r i y w):=by
 show(T.add i (T.mul r i x w) (T.mul r i (T.mul r i y (T.zero i)) (r i)),T.add i (T.mul r i x (T.zero i)) (T.mul r i y w))=_;rw[T.mul_zero,T.zero_mul,T.mul_zero,T.add_zero,T.zero_add]
theorem AZ{n e:Nat}{l:List Rat}(h:Nm n e l)(he:e<=4398046511103):NR (l.map rt) e:=by
 refine⟨?_,by have:=h.nl.len5 h.five;rw[length_map];omega,by rw[dO];exact h.cb⟩;intro x hx;obtain⟨q,hq,rfl⟩:=List.mem_map.1 hx;exact(h.cb.qs oz hq).ok
theorem UT{ts:LL}{j e:Nat}{a:List Rat}{q:Rat}(h5:j<=5)(ha:Nl j a)(ca:Cb e a)(he:e<4398046511104)(hs:sh j (ae j a)=[q])(hq:q≠0) :
  FP 358 [aN ts,nA a] (nA [1/q]):=by
 have qa:∀q∈a,Qs q:=fun q hq=>ca.qs he hq
 have cs:=ca.sh ha;rw[hs]at cs;have qq:Qs q:=cs.qs he (by simp);have hsh:=lL a h5 ha qa;rw[hs]at hsh;have hdv:=Ft (rt 1) (rt q) (Qb.one.qs oz).ok qq.ok;rw[bM,bM,if_neg hq]at hdv;refine ah func358 ?_;refine gc hsh ?_;refine gl ?_;refine gC (fun t13=>?_) (fun t13=>?_) (st2:=(77777,0))
 ·refine gc (kF 1 oz) ?_;refine gi rfl ?_;refine gc hdv ?_;refine gD ?_;refine af ?_;rfl
 cases t13
theorem Mm{ts:LL}{m r:Nat}(ht:ik ts m r)(hm:m<=5)(hml:m<=ts.length){j e i:Nat}{a s L:List Rat}(h5:j<=5)(ha:Nl j a)(ca:Cb e a)(he:4*e+3*eB r i+r+1<4398046511104)(hs:sh j (ae j a)=s)(hi:i+1<=m)
  (hsl:s.length=2^(i+1)) (hb:sB r i (4*e+3*eB r i+r+1)<4398046511104) (h0:T.sgn (am ts) i (ae i (gY ts i s))=0)
  (hL:FP 358 [aN ts,nA (cg (s.take (2^i)) (s.take (2^i)))] (nA L)):FP 358 [aN ts,nA a] (nA L):=by
 have qa:∀q∈a,Qs q:=fun q hq=>ca.qs oz hq
 have cs:=ca.sh ha;have hsh:=lL a h5 ha qa;rw[hs]at cs hsh;have hp2:=Nat.two_pow_pos i;have hpi:2^i<=32:=bV (b:=5) oz;have hps:2^(i+1)=2*2^i:=by rw[Nat.pow_succ];omega
 obtain⟨nn,dn,cn⟩:=uS ht oz hsl cs;have k4:=ou ts m r ht hm hml i _ _ oz nn cn hb;have qs:∀q∈s.take (2^i),Qs q:=fun q hq=>cs.take.qs oz hq
 refine ah func358 ?_;refine gc hsh ?_;refine gl ?_;refine gC (fun t13=>?_) (fun t13=>?_) (st1:=(3,0));exact absurd t13 (by simp only[aa,beq_iff_eq];omega);refine gl ?_;refine gs (eI (.tmp rfl) (.const _) oz (show _=((2^i:Nat):Int) by rw[fD oz,hsl,fp]) rfl) ?_;refine gc (yH ts m r ht hm hml i s e oz hsl cs oz) ?_;refine gc k4 ?_;refine gC (fun t33=>?_) (fun t33=>?_) (st2:=(77777,0))
 ·refine gs (cQ (.tmp rfl) (.none _) (.some _ (.tmp rfl) oz) T67 rfl T45 rfl oz (by simp only[length_map];omega) rfl) ?_;refine gs (cQ (.tmp rfl) (.none _) (.some _ (.tmp rfl) oz) T67 rfl T45 rfl oz (by simp only[length_map];omega) rfl) ?_;refine gc (by have h9:=oC _ _ qs qs (by simp;omega) (by simp;omega);rw[<- kH]at h9;exact h9) ?_;refine gc hL ?_;refine gD ?_;refine af ?_;rfl
 exact absurd t33 (by rw[h0];decide)
theorem M5{ts:LL}{m r:Nat}(ht:ik ts m r)(hm:m<=5)(hml:m<=ts.length){j e f i:Nat}{a s L:List Rat}(h5:j<=5)(ha:Nl j a)(ca:Cb e a)(he:4*e+3*eB r i+r+1<4398046511104)(hs:sh j (ae j a)=s)(hi:i+1<=m)
  (hsl:s.length=2^(i+1)) (hb:sB r i (4*e+3*eB r i+r+1)<4398046511104) (h0:T.sgn (am ts) i (ae i (gY ts i s))≠0)
  (hL:FP 358 [aN ts,nA (gY ts i s)] (nA L)) (nL:Nl i L) (cL:Cb f L) (hf:e+f+eB r (i+1)<4398046511104) :
  FP 358 [aN ts,nA a] (nA (pT ts (i+1) (eK (s.take (2^i)) (cG (s.drop (2^i))) (2^i)) L)):=by
 have qa:∀q∈a,Qs q:=fun q hq=>ca.qs oz hq
 have cs:=ca.sh ha;have hsh:=lL a h5 ha qa;rw[hs]at cs hsh;have hp2:=Nat.two_pow_pos i;have hpi:2^i<=32:=bV (b:=5) oz;have hps:2^(i+1)=2*2^i:=by rw[Nat.pow_succ];omega
 obtain⟨nn,dn,cn⟩:=uS ht oz hsl cs;have k4:=ou ts m r ht hm hml i _ _ oz nn cn hb;have qy:∀q∈s.drop (2^i),Qs q:=fun q hq=>cs.drop.qs oz hq
 have lx:(s.take (2^i)).length=2^i:=fy hsl;have ly:(s.drop (2^i)).length=2^i:=fJ hsl;have nj:Nl (i+1) (eK (s.take (2^i)) (cG (s.drop (2^i))) (2^i)):=.inr ⟨i+1,le_refl _,by rw[oX oz (by rw[io];omega)];omega⟩;have cj:Cb e (eK (s.take (2^i)) (cG (s.drop (2^i))) (2^i)):=DX cs;have hti:=pc ts m r ht hm hml (i+1) (i+1) _ _ e f hi (le_refl _) nj (nL.mono oz) cj cL hf;refine ah func358 ?_;refine gc hsh ?_;refine gl ?_;refine gC (fun t13=>?_) (fun t13=>?_) (st1:=(3,0));exact absurd t13 (by simp only[aa,beq_iff_eq];omega);refine gl ?_;refine gs (eI (.tmp rfl) (.const _) oz (show _=((2^i:Nat):Int) by rw[fD oz,hsl,fp]) rfl) ?_;refine gc (yH ts m r ht hm hml i s e oz hsl cs oz) ?_;refine gc k4 ?_;refine gC (fun t33=>?_) (fun t33=>?_) (st1:=(8,0));exact absurd t33 (by simp only[aa,beq_iff_eq];omega);refine gs (cQ (.tmp rfl) (.none _) (.some _ (.tmp rfl) oz) T67 rfl T45 rfl oz (by simp only[length_map];omega) rfl) ?_;refine gs (cQ (.tmp rfl) (.some _ (.tmp rfl) oz) (.none _) T67 rfl T45 rfl (by simp only[length_map];omega) oz rfl) ?_;refine gc (by have h9:=sN _ qy oz;rw[<- mi]at h9;exact h9) ?_;refine gc (by have h9:=yS (s.take (2^i)) (cG (s.drop (2^i))) (2^i) oz (by rw[io];omega) oz;rw[<- kH]at h9;exact h9) ?_;refine gc hL ?_;refine gc hti ?_;refine gD ?_;refine af ?_;rfl
theorem LI{ts:LL}{m r:Nat}(ht:ik ts m r)(hp:eT (am ts) m)(hm:m<=5)(hml:m<=ts.length)(j:Nat):∀(a:List Rat)(e:Nat),j<=m->Nl j a->Cb e a->T.sgn (am ts) j (ae j a)≠0 ->
  sB r j e<4398046511104->iB r j e<4398046511104->∃L,FP 358 [aN ts,nA a] (nA L)/\Nl j L/\Cb (iB r j e) L/\ae j L=T.inv (am ts) j (ae j a):=by
 induction j using Nat.strongRecOn
 rename_i j ih;intro a e hj ha ca h0 hs hi;have hse:=ow r j e;have cs:=ca.sh ha;have hsn:=ee j (ae j a);have hsd:=a7 j (ae j a);have hle:=Ar r j e;obtain⟨s,hsa⟩:∃s,sh j (ae j a)=s:=⟨_,rfl⟩
 rcases oQ hsn with h |h |⟨i,hij,h⟩
 ·exfalso;have h1:=List.length_eq_zero_iff.1 h;rw[h1,fV]at hsd;rw[<- hsd,T.sgn_zero]at h0;exact h0 rfl
 ·obtain ⟨q, hq⟩:=List.length_eq_one_iff.1 h;rw [hq,kC] at hsd;rw [<- hsd,T.sgn_ofQ] at h0;have q0:q ≠ 0:=by rintro rfl; exact h0 rfl
  refine⟨[1/q],UT oz ha ca oz hq q0,.inr ⟨0,by omega,rfl⟩,(Cb.inv1 (hq▸cs) q0).mono hle,?_⟩;rw[<- hsd,<- kC j q];exact ut (am ts) (i:=0) (s:=[q]) (L:=[1/q]) (by simp) (by simp) rfl oz
 ·have hz:=Jk h hij;rw [hsa] at h cs hsd hsn hz;obtain ⟨nn,dn,cn⟩:=uS ht oz h cs;have hsl:s.length <= 2 ^ (i + 1):=by omega
  have b1:sB r i (4*e+3*eB r i+r+1)<=sB r j e:=rX r e hij;have b2:=ow r i (4*e+3*eB r i+r+1);have b3:iB r (i+1) e<=iB r j e:=yu r e hij;have b4:iB r (i+1) e=e+iB r i (4*e+3*eB r i+r+1)+eB r (i+1):=rfl;have lx:(s.take (2^i)).length=2^i:=fy h;have ly:(s.drop (2^i)).length=2^i:=fJ h;have hpi:2^i<=2^(i+1):=Nat.pow_le_pow_right oz oz;rw[<- hsd]at h0 ⊢
  by_cases hN:T.sgn (am ts) i (ae i (gY ts i s))=0
  ·have hS:=gE (am ts) i (fun k hk=>hp k oz)
   have hx:T.sgn (am ts) i (ae i (cg (s.take (2^i)) (s.take (2^i))))≠0:=by
    rw[iO];rw[tC (am ts) hsl hij]at h0;rw[dn]at hN;exact EU hS (hp i oz) (x:=ae i (s.take (2^i))) (y:=ae i (s.drop (2^i))) h0 hN
   have np:Nl i (cg (s.take (2^i)) (s.take (2^i))):=.inr ⟨i,le_refl _,by rw[dU];omega⟩;have b5:=oa r i (e:=e+e+1) (f:=4*e+3*eB r i+r+1) oz;have b6:=xi r i (e:=e+e+1) (f:=4*e+3*eB r i+r+1) oz;obtain⟨L,k1,k2,k3,k4⟩:=ih i oz _ _ oz np (cs.take.plus cs.take) hx oz oz;refine⟨L,Mm ht hm hml oz ha ca oz hsa oz h oz hN k1,k2.mono oz,k3.mono oz,?_⟩;refine ut (am ts) (i:=i+1) hsl (le_trans k2.le hpi) ?_ hij;rw[B5 (am ts) hz (by rw[<- dn];exact hN),fS k2.le,k4,iO];rfl
  ·obtain⟨L,k1,k2,k3,k4⟩:=ih i oz _ _ oz nn cn hN oz oz;have nj:Nl (i+1) (eK (s.take (2^i)) (cG (s.drop (2^i))) (2^i)):=.inr ⟨i+1,le_refl _,by rw[oX oz (by rw[io];omega),Nat.pow_succ];omega⟩;have s1:=fL ts m ht.1 (i+1) (i+1) _ _ oz (le_refl _) nj (k2.mono oz);have c1:=Cb.mul ht (k:=i+1) (show i+1<=m by omega) (le_refl _) nj (k2.mono oz) (DX cs) k3;refine⟨_,M5 ht hm hml oz ha ca oz hsa oz h oz hN k1 k2 k3 oz,s1.1.mono hij,c1.mono oz,?_⟩;refine ut (am ts) (i:=i+1) hsl s1.1.le ?_ hij;rw[CI (am ts) hz (by rw[<- dn];exact hN),s1.2,wi oz,fS k2.le,mul_low,my,k4,dn];rfl
theorem Ue{ts:LL}{r e f:Nat}(tw:Tw ts r){a b:List Rat}(ha:Nm ts.length e a)(hb:Nm ts.length f b)(he:e<=4398046511103)(hf:f<=4398046511103):FP 229 [aN ts,.lst 1 [nA a,nA b]] (.v .nilIface):=by
 have hck:=l6 (ts.map (List.map rt)) r tw.tr [a.map rt,b.map rt] (qk (AZ ha he) (AZ hb hf)) (by simp);have hc0:bg (ts.map (List.map rt)) [a.map rt,b.map rt]=0:=pL tw ha hb;rw[hc0,ig]at hck;rw[show[nA a,nA b]=[a.map rt,b.map rt].map nR by simp[dV]];exact hck
theorem Bh{ts:LL}{r f j:Nat}(tw:Tw ts r){b:List Rat}(hb:Nm ts.length f b)(hj:j<=ts.length)(nb:Nl j b)(h0:T.sgn (am ts) ts.length (ae ts.length b)≠0)(hf:f<=lm ts.length)(hi:iB r j f<4398046511104) :
  ∃L,FP 358 [aN ts,nA b] (nA L)/\Nl ts.length L/\Cb (iB r j f) L/\ae ts.length L=T.inv (am ts) ts.length (ae ts.length b):=by
 rw[tC (am ts) nb.le hj]at h0;obtain⟨L,k1,k2,k3,k4⟩:=LI tw.ok tw.pos tw.five (le_refl _) j b f hj nb hb.cb h0 (nC hj tw.three tw.le hf) hi;exact⟨L,k1,k2.mono hj,k3,ut (am ts) nb.le k2.le k4 hj⟩
theorem AL{ts:LL}{r e f j:Nat}(tw:Tw ts r){a b:List Rat}(ha:Nm ts.length e a)(hb:Nm ts.length f b)(hj:j<=ts.length)(nb:Nl j b)(h0:T.sgn (am ts) ts.length (ae ts.length b)≠0)(hf:f<=lm ts.length)(he:e+iB r j f+eB r ts.length<=200000000000) :
  FP 281 [aN ts,nA a,nA b] (.tup [nA (sh ts.length (T.mul (am ts) ts.length (ae ts.length a) (T.inv (am ts) ts.length (ae ts.length b)))),.v .nilIface]):=by
 have hlm:=jP ts.length;have h5:=tw.five;have h3:=tw.three;have hfe:=Ar r j f;have hsB:=nC (le_refl ts.length) h3 tw.le hf;have hsg:=ou ts ts.length r tw.ok h5 (le_refl _) ts.length _ _ (le_refl _) hb.nl hb.cb hsB;obtain⟨L,k1,k2,k3,k4⟩:=Bh tw hb hj nb h0 hf oz;have hti:=pc ts ts.length r tw.ok h5 (le_refl _) ts.length ts.length _ _ _ _ (le_refl _) (le_refl _) ha.nl k2 ha.cb k3 oz;have s1:=fL ts ts.length tw.ok.1 ts.length ts.length _ _ (le_refl _) (le_refl _) ha.nl k2;have c1:=Cb.mul tw.ok (k:=ts.length) (le_refl _) (le_refl _) ha.nl k2 ha.cb k3;have hsh:=lL _ h5 s1.1 (fun q hq=>c1.qs oz hq);rw[s1.2,k4]at hsh;refine ah func281 ?_;refine gc (Ue tw ha hb oz oz) ?_;refine gC (fun t15=>?_) (fun t15=>?_) (st1:=(3,0));cases t15;refine gc hsg ?_;refine gC (fun t20=>?_) (fun t20=>?_) (st1:=(5,0));exact absurd t20 (by simp only[aa,beq_iff_eq];omega);refine gc k1 ?_;refine gc hti ?_;refine gc hsh ?_;refine gD ?_;refine br ?_;rfl
theorem AT{ts:LL}{r e f j:Nat}(tw:Tw ts r){a b:List Rat}(ha:Nm ts.length e a)(hb:Nm ts.length f b)(hj:j<=ts.length)(nb:Nl j b)(h0:T.sgn (am ts) ts.length (ae ts.length b)≠0)(hf:f<=lm ts.length)(he:e+iB r j f+eB r ts.length<=200000000000) :
  Nm ts.length (e+iB r j f+eB r ts.length) (sh ts.length (T.mul (am ts) ts.length (ae ts.length a) (T.inv (am ts) ts.length (ae ts.length b)))):=by
 obtain⟨L,k1,k2,k3,k4⟩:=Bh tw hb hj nb h0 hf oz;have s1:=fL ts ts.length tw.ok.1 ts.length ts.length _ _ (le_refl _) (le_refl _) ha.nl k2;have c1:=Cb.mul tw.ok (k:=ts.length) (le_refl _) (le_refl _) ha.nl k2 ha.cb k3;refine⟨tw.five,ee _ _,?_⟩;rw[<- k4,<- s1.2];exact c1.sh s1.1
def cm(k:Nat):List Rat:=(List.replicate (2^(k+1)) 0).set (2^k) 1
def aL(ts:LL)(a:List Rat):LL:=ts++[aU a (2^ts.length)]
theorem MW(k:Nat):BlkSub (.row 3 ((List.replicate (2^(k+1)) (.agg [.v (.bool false),nS,nS])).set (2^k) (qA 1))) (.row 3 ((cm k).map qA)):=by
 unfold cm;refine .row ?_ ?_
 ·simp
 ·intro i e e' he he';rw[map_set,map_replicate]at he';rw[List.getElem?_set]at he he';split at he
  ·rename_i h1;rw[if_pos h1]at he';split at he
   ·rename_i h2;rw[length_replicate]at h2;rw[length_replicate,if_pos h2]at he';cases he;cases he'
    exact jW.refl (Bs 1)
   ·cases he
  ·rename_i h1;rw[if_neg h1]at he';rw[getElem?_replicate]at he he';split at he
   ·rename_i h2;rw[if_pos h2]at he';cases he;cases he'
    exact qZ
   ·cases he
theorem BB(k:Nat):(cm k).length=2^(k+1):=by simp[cm]
theorem MP{k:Nat}(hk:k<=5):IntKind.i64.wrap ((2:Int)*2^(min (k:Int).toNat IntKind.i64.bits))=((2^(k+1):Nat):Int):=by
 have h:k=0\/k=1\/k=2\/k=3\/k=4\/k=5:=by omega
 rcases h with rfl |rfl |rfl |rfl |rfl |rfl <;> rfl
theorem MO(d:Nat)(hd:Nat.blt d 1000=true)(k:Nat)(hk:k<=5):Con prog 279 [i64 k] [] (.ms d 3 0 (2^(k+1))) [(d,some (.row 3 ((cm k).map qA)))]:=by
 have hp:2^(k+1)<=64:=bV (b:=6) oz;have hp2:2^k<2^(k+1):=Nat.pow_lt_pow_right oz oz;have hp0:=Nat.two_pow_pos k;refine gF func279 (fun k z h=>by cases h) ?_;refine gs (gp (.const _) (.tmp rfl) oz (MP hk) rfl) ?_;refine gs (gO (.tmp rfl) T67 rfl T45 rfl rfl oz (by dsimp only;omega) rfl) ?_;refine gs (gp (.const _) (.tmp rfl) oz (nE oz) rfl) ?_;refine gc (kF 1 oz) ?_;refine gs (bT (n:=2^k) (.tmp rfl) (.tmp rfl) T67 rfl T45 rfl oz oz rfl) ?_;refine gs (dw (.tmp rfl) rfl (by rw[getElem?_replicate,if_pos oz]) rfl (.tmp rfl) rfl rfl T45 rfl rfl) ?_;refine gD ?_ (3,0);refine gW (Wk.of (sl:=[(3,some (.ms 6 3 0 (2^(k+1))))]) (hp:=[(6,some (.row 3 ((cm k).map qA)))]) (.cons rfl (Sub.of (congrArg (AV.ms 6 3 0) (toNat_natCast _))) .nil) (.cons rfl (MW k) .nil)) ?_;refine gR ?_;exact aw.own1 rfl hd rfl
theorem Ma(k:Nat)(hk:k<=5):FP 279 [i64 k] (nA (cm k)):=by
 have h:=Con.freeze (by rw[length_map,BB];omega) (MO 0 rfl k hk);rw[drop_zero,take_of_length_le (by rw[length_map,BB];exact le_refl _)]at h;exact h
theorem Pg{ts:LL}{r e:Nat}(tw:Tw ts r){a:List Rat}(ha:Nm ts.length e a)(he:e<=4398046511103):FP 229 [aN ts,.lst 1 [nA a]] (.v .nilIface):=by
 have hx:=AZ ha he;have hck:=l6 (ts.map (List.map rt)) r tw.tr [a.map rt] (fun x h=>by rw[List.mem_singleton.1 h];exact⟨hx.ok,hx.len⟩) (by simp);have hc0:bg (ts.map (List.map rt)) [a.map rt]=0:=xI tw ha;rw[hc0,ig]at hck;rw[show[nA a]=[a.map rt].map nR by simp[dV]];exact hck
theorem Qg{ts:LL}{r e:Nat}(tw:Tw ts r){a:List Rat}(ha:Nm ts.length e a)(he:e<=4398046511103):FP 277 [aN ts,nA a] (.tup [nA (aU a (2^ts.length)),.v .nilIface]):=by
 have h5:=tw.five;have hl:=ha.nl.le;have hp:2^ts.length<=32:=bV (b:=5) oz;have qa:∀q∈a,Qs q:=fun q hq=>ha.cb.qs oz hq
 refine ah func277 ?_;refine gc (Pg tw ha he) ?_;refine gC (fun t12=>?_) (fun t12=>?_) (st1:=(3,0));cases t12;refine gc (Be a qa oz) ?_;refine gl ?_;refine gs (gp (.const _) (.tmp rfl) oz (nE oz) rfl) ?_;refine gc (Au a (2^ts.length) hl oz) ?_;refine gD ?_;refine br ?_;rfl
theorem B6{ts:LL}{r e:Nat}(tw:Tw ts r){a:List Rat}(ha:Nm ts.length e a)(he:e<=lm ts.length)(hs:0<=T.sgn (am ts) ts.length (ae ts.length a)) :
  FP 161 [aN ts,nA a] (.tup [aN (aL ts a),nA (cm ts.length),.v .nilIface]):=by
 have h3:=tw.three;have h5:=tw.five;have hlm:=jP ts.length;have hl:=ha.nl.le;have nw:Nl ts.length (aU a (2^ts.length)):=.inr ⟨_,le_refl _,dz hl⟩;have hsg:=ou ts ts.length r tw.ok h5 (le_refl _) ts.length _ _ (le_refl _) nw ha.cb.wide (nC (le_refl ts.length) h3 tw.le he);rw[o8]at hsg;have hqs:=tw.rb.qs tw.le;refine ah func161 ?_;refine gc (Qg tw ha oz) ?_;refine gC (fun t18=>?_) (fun t18=>?_) (st1:=(3,0));cases t18;refine gc hsg ?_;refine gC (fun t23=>?_) (fun t23=>?_) (st1:=(5,0));exact absurd t23 (by simp only[aa,decide_eq_true_eq];omega);refine gl ?_;refine gC (fun t30=>?_) (fun t30=>?_) (st1:=(7,0));exact absurd t30 (by simp only[aa,decide_eq_true_eq];omega);refine gl ?_;refine gW (Wk.virt 900 1 rfl) ?_;refine aJ [2,4,7,9,38,39] [2,4] (fun(i:Nat)=>[(40,some (i64 i))]) (fun i=>[(9,some (.box [.ms 900 1 0 i])),(900,some (.row 1 ((ts.take i).map nA)))]) (fun i=>i<=ts.length) (fun i=>ts.length-i) 0 (zero_le _) ?_ (h2:=(.cons rfl (BlkSub.bL (.cons (.nM _ _ _) .nil) rfl) (.k .nil)));rintro i hi K1 J1;refine gC (fun t41=>?_) (fun t41=>?_)
 ·have hin:=aT t41;obtain⟨d,hd⟩:=aq hin
  have hdl:d.length<=32:=by
   have h9:=tw.len i hin;rw[aB hd]at h9;have:2^i<=32:=bV (b:=5) oz;omega
  refine gi (au hd) ?_;refine gc (Be d (hqs d (mem_of_getElem? hd)) oz) ?_;refine gs (bR (.tmp rfl) rfl (by rw[length_map,length_take];omega) (.tmp rfl) T35 rfl T67 rfl rfl (by simp only[length_cons,length_nil];omega) rfl rfl) ?_;refine gD ?_ (13,0);refine gW (Wk.of (sl:=[(2,some (.ptr 2 0)),(4,some (.ptr 4 0)),(7,some (nA (aU a (2^ts.length)))),(9,some (.ptr 9 0)),(38,some (.lst 1 (ts.map nA))),(39,some (i64 ts.length)),(40,some (i64 i))]) (hp:=[(2,some (.box [.lst 1 (ts.map nA)])),(4,some (.box [nS])),(9,some (.box [.ms 49 1 0 (i+1)])),(49,some (.row 1 ((ts.take (i+1)).map nA)))]) aQ (.k (.k (.k (.cons rfl (BlkSub.of (by rw[cS hd,map_append];rfl)) .nil))))) ?_ (13,0)
  refine gW (Wk.rk (k:=49) (d:=900) rfl rfl) ?_;refine ga aE ?_;exact aD J1 (i+1) hin
 have hin:=a5 hi t41;subst hin;refine gs (bR (.tmp rfl) rfl (by rw[length_map,length_take];omega) (.tmp rfl) T35 rfl T67 rfl rfl (by simp only[length_cons,length_nil];omega) rfl rfl) ?_ (15,0);refine gW ((Wk.freeze (k:=56) rfl).trans<|Wk.of (sl:=[(2,some (.ptr 2 0)),(4,some (.ptr 4 0)),(9,some (.ptr 9 0))]) (hp:=[(2,some (.box [.lst 1 (ts.map nA)])),(4,some (.box [nS])),(9,some (.box [.lst 1 ((aL ts a).map nA)]))]) aQ (.k (.k (.cons rfl (BlkSub.bL (.cons (Sub.of (by rw[bI (by simp)];unfold aL;simp)) .nil) rfl) .nil)))) ?_;refine gl ?_;refine gc (Ma ts.length oz) ?_;refine gD ?_;refine wU ?_;rfl
theorem BP{ts:LL}{r:Nat}(tw:Tw ts r):FP 154 [aN ts] (aN ts):=by
 have h3:=tw.three;have hqs:=tw.rb.qs tw.le;refine ah func154 ?_;refine gl ?_;refine gW (Wk.virt 900 1 rfl) ?_;refine aJ [2,3,10,11] [2] (fun(i:Nat)=>[(12,some (i64 i))]) (fun i=>[(3,some (.box [.ms 900 1 0 i])),(900,some (.row 1 ((ts.take i).map nA)))]) (fun i=>i<=ts.length) (fun i=>ts.length-i) 0 (zero_le _) ?_ (h2:=(.cons rfl (BlkSub.bL (.cons (.nM _ _ _) .nil) rfl) (.k .nil)));rintro i hi K1 J1;refine gC (fun t13=>?_) (fun t13=>?_) (st2:=(13,0))
 ·have hin:=aT t13;obtain⟨d,hd⟩:=aq hin
  have hdl:d.length<=32:=by
   have h9:=tw.len i hin;rw[aB hd]at h9;have:2^i<=32:=bV (b:=5) oz;omega
  have hdq:=hqs d (mem_of_getElem? hd);refine gi (au hd) ?_;refine gl ?_;refine gW (Wk.virt 901 3 rfl) ?_;refine aJ [2,3,10,11,12,16,17] [2,3,900] (fun(j:Nat)=>[(6,some (.ms 901 3 0 j)),(18,some (i64 j))]) (fun j=>[(901,some (.row 3 ((d.take j).map qA)))]) (fun j=>j<=d.length) (fun j=>d.length-j) 0 (zero_le _) ?_;rintro j hj K2 J2;refine gC (fun t19=>?_) (fun t19=>?_) (st2:=(11,0))
  ·have hjn:=aT t19;obtain ⟨q,hq⟩:=aq hjn;have hadd:=mN (rt q) (rt 0) (hdq q (mem_of_getElem? hq)).ok Qs.zero.ok;rw [pK,bM] at hadd;refine gi (au hq) ?_;refine gc (Con.sA (.cons (.refl _) (.cons iH .nil)) hadd) ?_;refine gs (bR (.tmp rfl) rfl (by rw [length_map,length_take]; omega) (.tmp rfl) T67 rfl T45 rfl rfl (by simp only [length_cons,length_nil]; omega) rfl rfl) ?_ (10,0);refine gW (Wk.of (sl:=[(2,some (.ptr 2 0)),(3,some (.ptr 3 0)),(10,some (.lst 1 (ts.map nA))),(11,some (i64 ts.length)),(12,some (i64 i)),(6,some (.ms 27 3 0 (j + 1))),(16,some (nA d)),(17,some (i64 d.length)),(18,some (i64 j))]) (hp:=[(2,some (.box [nS])),(3,some (.box [.ms 900 1 0 i])),(900,some (.row 1 ((ts.take i).map nA))),(27,some (.row 3 ((d.take (j + 1)).map qA)))]) aQ (.k (.k (.k (.cons rfl (BlkSub.of (by rw [cS hq,map_append]; rfl)) .nil))))) ?_ (10,0)
   refine gW (Wk.rk (k:=27) (d:=901) rfl rfl) ?_;refine ga aE ?_;exact aD J2 (j+1) hjn
  have hjn:=a5 hj t19;subst hjn;refine gW ((Wk.freeze (k:=901) rfl).trans<|Wk.of (sl:=[(2,some (.ptr 2 0)),(3,some (.ptr 3 0)),(10,some (.lst 1 (ts.map nA))),(11,some (i64 ts.length)),(12,some (i64 i)),(6,some (nA d))]) (hp:=[(2,some (.box [nS])),(3,some (.box [.ms 900 1 0 i])),(900,some (.row 1 ((ts.take i).map nA)))]) (.k (.k (.k (.k (.k (.cons rfl (Sub.of (by rw[bI (by simp)];simp[nA])) .nil)))))) (.k (.k (.k .nil)))) ?_
  refine gs (bR (.tmp rfl) rfl (by rw[length_map,length_take];omega) (.tmp rfl) T35 rfl T67 rfl rfl (by simp only[length_cons,length_nil];omega) rfl rfl) ?_ (12,0);refine gW (Wk.of (sl:=[(2,some (.ptr 2 0)),(3,some (.ptr 3 0)),(10,some (.lst 1 (ts.map nA))),(11,some (i64 ts.length)),(12,some (i64 i))]) (hp:=[(2,some (.box [nS])),(3,some (.box [.ms 33 1 0 (i+1)])),(33,some (.row 1 ((ts.take (i+1)).map nA)))]) aQ (.k (.k (.cons rfl (BlkSub.of (by rw[cS hd,map_append];rfl)) .nil)))) ?_ (12,0);refine gW (Wk.rk (k:=33) (d:=900) rfl rfl) ?_;refine ga aE ?_;exact aD J1 (i+1) hin
 have hin:=a5 hi t13;subst hin;refine gW ((Wk.freeze (k:=900) rfl).trans<|Wk.of (sl:=[(2,some (.ptr 2 0)),(3,some (.ptr 3 0))]) (hp:=[(2,some (.box [nS])),(3,some (.box [.lst 1 (ts.map nA)]))]) aQ (.k (.cons rfl (BlkSub.bL (.cons (Sub.of (by rw[bI (by simp)];simp)) .nil) rfl) .nil))) ?_;refine af ?_;rfl
abbrev dL(l:Li)(kw driven:List Bool)(r:List AV):List AV:=l.av.cells++(.lst 1 (kw.map bl) :: .lst 1 (driven.map bl)::r)
theorem Wa(j:Jt)(b:Int):FP 409 [j.av,i64 b] (i64 (jF j b)):=by
 refine ah func409 ?_;refine gC (fun t6=>?_) (fun t6=>?_)
 ·have h1:b=j.a:=cD t6;refine af ?_;unfold jF;rw[if_pos h1]
 have h1:b≠j.a:=dm t6;refine gC (fun t12=>?_) (fun t12=>?_)
 ·have h2:b=j.b:=cD t12;refine af ?_;unfold jF;rw[if_neg h1,if_pos h2]
 have h2:b≠j.b:=dm t12;refine af ?_;unfold jF;rw[if_neg h1,if_neg h2];rfl
theorem VL(j:Jt)(kind body:Int)(f:FuncId)(pre caps:List AV)(p:Int->Bool)(hp:0<=jF j body->FP f (pre++[i64 (jF j body)]++caps) (bl (p (jF j body)))) :
  FP 408 [j.av,.iptr [i64 body],.iptr [i64 kind],.iptr [.cl f pre caps]] (bl (wj kind body p j)):=by
 refine ah func408 ?_;refine gc (Wa j body) ?_;refine bF (fun h=>(hp (Tr h))) ?_;refine af ?_;exact congrArg bl Kf
theorem Ot(bs:List Jt)(hl:bs.length<=281474976710656)(f:FuncId)(pre caps:List AV)(ok:Nat->Bool)
  (hf:∀(i:Nat)(b:Jt),bs[i]?=some b->(∀j,j<i->ok j=true)->FP f (pre++[b.av]++caps) (bl (!ok i))) :
  FP 407 [.lst 7 (bs.map Jt.av),.cl f pre caps] (i64 (iY (cw bs.length ok))):=by
 refine ah func407 ?_;refine gl ?_;refine aJ [0,1,7] [] (fun(i:Nat)=>[(8,some (i64 i))]) (fun _=>[]) (fun i=>i<=bs.length/\∀j,j<i->ok j=true) (fun i=>bs.length-i) 0 ⟨zero_le _,fun j h=>by omega⟩ ?_;rintro i ⟨hi,hj⟩ K1 J1;refine gC (fun t9=>?_) (fun t9=>?_)
 ·have hin:=aT t9;obtain⟨b,hb⟩:=aq hin;refine gi (au hb) ?_;refine gc (hf i b hb hj) ?_;refine gC (fun t16=>?_) (fun t16=>?_)
  ·have h2:=cW t16;refine af ?_;rw[gq hin hj h2];rfl
  have h2:=c9 t16;refine ga aE ?_;exact aD J1 (i+1) ⟨hin,fun j h9=>by rcases lt_or_ge j i with g |g;exact hj j g;(have:j=i:=by omega);subst this;exact h2⟩
 have hin:=a5 hi t9;subst hin;refine af ?_;rw[fC hj];rfl
theorem Jh(l:Li)(hl:l.ok)(hli:ax l=0)(Fd:List AV)(kind body:Int)(f:FuncId)(pre caps:List AV)(p:Int->Bool)
  (hp:∀o:Int,0<=o->o<l.bo.length->FP f (pre++[i64 o]++caps) (bl (p o))) :
  FP 400 [.iptr (l.av.cells++Fd),i64 kind,i64 body,.cl f pre caps] (i64 (gJ l kind body p)):=by
 refine ah func400 ?_ (1,0);refine gW ((Wk.freezeB (k:=7) rfl rfl).trans<|(Wk.freezeB (k:=5) rfl rfl).trans<|(Wk.freezeB (k:=6) rfl rfl).trans<|Wk.o (sl:=[(0,some (.iptr (l.av.cells++Fd))),(5,some (.iptr [i64 kind])),(6,some (.iptr [i64 body])),(7,some (.iptr [.cl f pre caps]))]) (hp:=[])) ?_;refine gc (Con.sA (.cons (.refl _) (.cons (tc rfl) .nil)) (Ot l.jo hl.lj 408 [] [.iptr [i64 body],.iptr [i64 kind],.iptr [.cl f pre caps]] (fun i=>!wj kind body p (l.jo.getD i default)) (fun i b hb hj=>by rw[Bool.not_not,aB hb];exact VL b kind body f pre caps p (fun h=>hp _ h (UR hli hb body))))) ?_;refine af ?_;rfl
theorem Ts(l:Li)(kw driven:List Bool)(r:List AV)(b:Int)(h0:0<=b)(h1:b<kw.length):FP 405 [.iptr (dL l kw driven r),i64 b] (bl (kn kw b)):=by
 obtain⟨v,hv⟩:∃v,kw[b.toNat]?=some v:=aq oz;have ev:kn kw b=v:=aB hv;refine ah func405 ?_;refine gi (f9 (n:=b.toNat) oz hv) ?_;refine af ?_;rw[ev]
theorem C4(l:Li)(hl:l.ok)(hli:ax l=0)(kw driven:List Bool)(hk:kw.length=l.bo.length)(r:List AV)(kind body:Int) :
  FP 398 [.iptr (dL l kw driven r),i64 kind,i64 body] (i64 (gJ l kind body (kn kw))):=by
 refine ah func398 ?_;refine gc (Jh l hl hli _ kind body 405 [.iptr (dL l kw driven r)] [] (kn kw) (fun o h0 h1=>Ts l kw driven r o h0 oz)) ?_;refine af ?_;rfl
theorem ON(o j:Int):FP 401 [i64 o,.iptr [i64 j]] (bl (decide (o=j))):=by
 refine ah func401 ?_;refine af ?_;exact congrArg bl oN
theorem NK(l:Li)(kw driven:List Bool)(hd:driven.length=kw.length)(r:List AV)(b:Int)(h0:0<=b)(h1:b<kw.length) :
  FP 402 [.iptr (dL l kw driven r),i64 b] (bl (!kn kw b&&!kn driven b)):=by
 obtain⟨v,hv⟩:∃v,kw[b.toNat]?=some v:=aq oz;have ev:kn kw b=v:=aB hv;obtain⟨u,hu⟩:∃u,driven[b.toNat]?=some u:=aq oz;have eu:kn driven b=u:=aB hu;refine ah func402 ?_;refine gi (f9 (n:=b.toNat) oz hv) ?_;refine mH (fun _=>(f9 (n:=b.toNat) oz hu)) ?_;refine af ?_;rw[ev,eu];exact congrArg bl (iz _ _)
theorem UM(l:Li)(hl:l.ok)(hli:ax l=0)(kw driven:List Bool)(hk:kw.length=l.bo.length)(r:List AV) :
  FP 376 [.iptr (dL l kw driven r)] (.tup [((driverG l kw).getD default).av,bl (driverG l kw).isSome]):=by
 have hld:=hl.ld;refine ah func376 ?_;refine gl ?_;refine aJ [0,2,11,12] [2] (fun(i:Nat)=>[(13,some (i64 i))]) (fun _=>[]) (fun i=>i<=l.dv.length/\∀j,j<i->(!drHit l kw j)=true) (fun i=>l.dv.length-i) 0 ⟨zero_le _,fun j h=>by omega⟩ ?_;rintro i ⟨hi,hj⟩ K1 J1;refine gC (fun t14=>?_) (fun t14=>?_)
 ·have hin:=aT t14;obtain⟨d,hd⟩:=aq hin;have hdd:l.dv.getD i default=d:=aB hd;have hb:=di (lI hli hd);obtain⟨v,hv⟩:∃v,kw[d.body.toNat]?=some v:=aq oz;have ev:kn kw d.body=v:=aB hv;have ej:gJ l 0 d.body (kn kw)=jointI l 0 d.body kw:=yb hli (fun o _ _=>rfl);refine gi (au hd) ?_;refine gi (f9 (n:=d.body.toNat) oz hv) ?_;refine gD ?_;refine gC (fun t25=>?_) (fun t25=>?_)
  ·have h2 : drHit l kw i = false := by unfold drHit; rw [hdd, ev, t25]; rfl
   refine ga aE ?_;exact aD J1 (i+1) ⟨hin,fun k h9=>by rcases lt_or_ge k i with g |g;exact hj k g;(have:k=i:=by omega);subst this;rw[h2];rfl⟩
  have hv0:v=false:=t25;refine gc (show gP _ _ _ (i64 (jointI l 0 d.body kw)) by rw[<- ej];exact C4 l hl hli kw driven hk r 0 d.body) ?_;refine gC (fun t31=>?_) (fun t31=>?_)
  ·have h2 : drHit l kw i = true := by unfold drHit; rw [hdd, ev, hv0, decide_eq_true (EA t31)]; rfl
   have hg:driverG l kw=some ⟨0,[d.body],[jointI l 0 d.body kw],i⟩:=by unfold driverG;rw[gq hin hj (by rw[h2];rfl),<- hdd];rfl
   refine br ?_;rw[hg];rfl
  have h2:drHit l kw i=false:=by unfold drHit;rw[hdd,decide_eq_false (Fq t31),Bool.and_false]
  refine ga aE ?_;exact aD J1 (i+1) ⟨hin,fun k h9=>by rcases lt_or_ge k i with g |g;exact hj k g;(have:k=i:=by omega);subst this;rw[h2];rfl⟩
 have hin:=a5 hi t14;subst hin;have hg:driverG l kw=none:=by unfold driverG;rw[fC hj];rfl
 refine gR ?_;exact aw.sub aw.pure (by rw[hg];exact Sub.tup (.cons qf (.cons (.refl _) .nil)))
theorem zy(l:Li)(hli:ax l=0)(kw:List Bool)(hk:kw.length=l.bo.length)(r:List AV)(b:Nat)(h1:b<l.bo.length) :
  FP 402 [.iptr (dL l kw (bX l) r),i64 b] (bl (freeB l kw b)):=by
 have h:=NK l kw (bX l) (by rw[tB,hk]) r b oz oz;rw[OL hli oz]at h;exact h
theorem vz(l:Li)(hl:l.ok)(hli:ax l=0)(kw:List Bool)(hk:kw.length=l.bo.length)(r:List AV)(kind body:Int) :
  FP 398 [.iptr (dL l kw (bX l) r),i64 kind,i64 body] (i64 (jointI l kind body kw)):=by
 have h:=C4 l hl hli kw (bX l) hk r kind body;rw[yb hli (fun o _ _=>rfl)]at h;exact h
theorem Qp(l:Li)(hl:l.ok)(hli:ax l=0)(kw:List Bool)(hk:kw.length=l.bo.length)(r:List AV) :
  FP 378 [.iptr (dL l kw (bX l) r)] (.tup [((singleG l kw).getD default).av,bl (singleG l kw).isSome]):=by
 have h8:=(cA hli).2.2.2.1;refine ah func378 ?_;refine gl ?_;refine aJ [0,2,12,13] [2] (fun(i:Nat)=>[(14,some (i64 i))]) (fun _=>[]) (fun i=>i<=l.bo.length/\∀j,j<i->(!sgHit l kw j)=true) (fun i=>l.bo.length-i) 0 ⟨zero_le _,fun j h=>by omega⟩ ?_;rintro i ⟨hi,hj⟩ K1 J1;refine gC (fun t15=>?_) (fun t15=>?_)
 ·have hin:=aT t15;refine gc (zy l hli kw hk r i hin) ?_;refine gC (fun t20=>?_) (fun t20=>?_)
  ·have h2 : sgHit l kw i = false := by unfold sgHit; rw [cW t20]; rfl
   refine ga aE ?_;exact aD J1 (i+1) ⟨hin,fun k h9=>by rcases lt_or_ge k i with g |g;exact hj k g;(have:k=i:=by omega);subst this;rw[h2];rfl⟩
  have hf:=c9 t20;refine gc (vz l hl hli kw hk r 0 i) ?_;refine gc (vz l hl hli kw hk r 1 i) ?_;refine gC (fun t32=>?_) (fun t32=>?_)
  ·have h2 : sgHit l kw i = false := by unfold sgHit; rw [IX t32, Bool.and_false]
   refine ga aE ?_;exact aD J1 (i+1) ⟨hin,fun k h9=>by rcases lt_or_ge k i with g |g;exact hj k g;(have:k=i:=by omega);subst this;rw[h2];rfl⟩
  obtain⟨p0,s0⟩:=FT t32;have s1:=(nB (l:=l) (kind:=1) (body:=i) (oth:=kw)).2;have h2:sgHit l kw i=true:=by unfold sgHit;rw[hf,decide_eq_true p0,decide_eq_true s0];rfl
  obtain⟨j,hjt⟩:∃j,l.jo[(jointI l 1 i kw).toNat]?=some j:=aq oz;have hjd:l.jo.getD (jointI l 1 i kw).toNat default=j:=aB hjt;have hg:singleG l kw=some (sgG l kw i):=by unfold singleG;rw[gq hin hj (by rw[h2];rfl),Option.map_some]
  refine gi (f9 (n:=(jointI l 1 i kw).toNat) oz hjt) ?_;refine gC (fun t43=>?_) (fun t43=>?_)
  ·have hji:j.a=i:=cD t43;refine br ?_;rw[hg];unfold sgG;rw[hjd];simp only[Option.getD_some,if_pos hji];rfl
  have hji:j.a≠i:=dm t43;refine br ?_;rw[hg];unfold sgG;rw[hjd];simp only[Option.getD_some,if_neg hji];rfl
 have hin:=a5 hi t15;subst hin;have hg:singleG l kw=none:=by unfold singleG;rw[fC hj];rfl
 refine gR ?_;exact aw.sub aw.pure (by rw[hg];exact Sub.tup (.cons qf (.cons (.refl _) .nil)))
theorem UD(Fd:List AV):FP 399 [.iptr Fd] (.fn 406 [.iptr [.iptr Fd]]):=by
 refine ah func399 ?_ (1,0);refine gW ((Wk.freezeB (k:=1) rfl rfl).trans<|Wk.o (sl:=[(1,some (.iptr [.iptr Fd]))]) (hp:=[])) ?_;refine af ?_;rfl
def vY:Code->Option (Array Tmp×Code×Code)
  | .rangeFunc _ ps x y=>some (ps,x,y)
  | .seq a b=>match vY a with
    |some r=>some r
    |none=>vY b
  | .block _ c=>vY c
  |_=>none
def Fv(n:Nat)(o:Option Code):LpD:=match o with
  |some c=>match vY c with
    |some (ps,x,y)=>⟨ps,x,y,n⟩
    |none=>⟨#[],.skip,.skip,0⟩
  |none=>⟨#[],.skip,.skip,0⟩
def Hw(D:LpD)(Fd:List AV)(h:Bool):Blk:=.loop D (match h with |true=>.done |false=>.ready) (match h with |true=>some .ret |false=>none) [(1,some (.iptr [.iptr Fd])),(2,some (.ptr 1001 0)),(3,some (.ptr 1002 0))]
def xx(g:Gr):Blk:=.box [i64 g.kind,.lst 1 (g.bo.map i64),.lst 1 (g.jo.map i64),i64 g.driver]
def x4(h:Bool):Blk:=.box [bl h]
def fu(D:LpD)(Fd:List AV)(h:Bool)(g:Gr):Hp:=[(1000,some (Hw D Fd h)),(1001,some (xx g)),(1002,some (x4 h))]
theorem IH{D:LpD}{Fd:List AV}{h:Bool}{g:Gr}{k:Nat}{z:Blk}(hz:lk (fu D Fd h g) k=some z):1000<=k:=by
 unfold fu at hz;simp only[aM]at hz;split at hz
 ·omega
 ·split at hz
  ·omega
  ·split at hz
   ·omega
   ·cases hz
theorem JT{D:LpD}{Fd:List AV}{s:AS}(hs:∀k z,lk (fu D Fd false default) k=some z->s.blk k=some z) :
  ∀k∈(fu D Fd false default++db (fu D Fd false default)).map (·.1),k∈(fu D Fd false default).map (·.1)/\lk (fu D Fd false default++db (fu D Fd false default)) k=s.blk k:=by
 intro k hk
 have hk':k=1000\/k=1001\/k=1002:=by
  simp[fu,db]at hk;omega
 rcases hk' with rfl |rfl |rfl
 ·exact⟨by simp[fu],(hs _ _ rfl).symm⟩
 ·exact⟨by simp[fu],(hs _ _ rfl).symm⟩
 ·exact⟨by simp[fu],(hs _ _ rfl).symm⟩
theorem FR{l:Li}{kw:List Bool}{i k:Nat}(h:cond (freeB l kw i) (freeB l kw k) false=false):prHit l kw i k=false:=by
 rw[iz]at h;unfold prHit;rw[h];rfl
theorem TJ{H R:Hp}{k:Nat}{z:Blk}(h:lk H k=some z):lk (H++R) k=some z:=by rw[mL,if_pos (nH h)];exact h
theorem OH{a b:Bool}(h:cond a b false=true):a=true:=by cases a <;> simp_all
theorem z4{a b:Bool}(h:cond a b false=true):b=true:=by cases a <;> simp_all
theorem Kr(D:LpD)(l:Li)(hl:l.ok)(hli:ax l=0)(kw:List Bool)(hk:kw.length=l.bo.length)(r:List AV)
  (hy:∀i k:Nat,i<k->k<l.bo.length->freeB l kw i=true->freeB l kw k=true ->
   ux prog 1000 [i64 i,i64 k] (fu D (dL l kw (bX l) r) false default) (bl (!prHit l kw i k)) (fu D (dL l kw (bX l) r) (prHit l kw i k) (cond (prHit l kw i k) (prG l kw i k) default))) :
  Con prog 406 [.yl 1000,.iptr [.iptr (dL l kw (bX l) r)]] (fu D (dL l kw (bX l) r) false default) (.tup []) (fu D (dL l kw (bX l) r) (pairG l kw).isSome ((pairG l kw).getD default)):=by
 have h8:=(cA hli).2.2.2.1;refine gF func406 (fun k z h=>IH h) ?_;refine gl ?_;refine aJ [0,1,10] [1000,1001,1002] (fun(i:Nat)=>[(11,some (i64 i))]) (fun _=>[]) (fun i=>i<=l.bo.length/\∀j,j<i->(prAt l kw j).isNone=true) (fun i=>l.bo.length-i) 0 ⟨zero_le _,fun j h=>by omega⟩ ?_;rintro i ⟨hi,hj⟩ K1 J1;refine gC (fun t12=>?_) (fun t12=>?_)
 ·have hin:=aT t12;refine ga aE ?_;refine aJ [0,1,3,10,11] [] (fun (k:Nat)=>[(4,some (i64 (i + 1 + k:Nat)))]) (fun _=>[(1000,some (Hw D (dL l kw (bX l) r) false)),(1001,some (xx default)),(1002,some (x4 false))]) (fun k=>i + 1 + k <= l.bo.length /\ ∀ j,j < k -> (!prHit l kw i (i + 1 + j)) = true) (fun k=>l.bo.length - k) 0 ⟨by omega,fun j h=>by omega⟩ ?_;rintro k ⟨hkl,hkj⟩ K2 J2;refine gl ?_;refine gC (fun t23=>?_) (fun t23=>?_)
  ·have hkn:i + 1 + k < l.bo.length:=aT t23;refine gc (zy l hli kw hk r i hin) ?_;refine bF (fun _=>(zy l hli kw hk r (i + 1 + k) hkn)) ?_;refine gs (OJ rfl rfl rfl (by intro hb; have h0:prHit l kw i (i + 1 + k) = false:=FR (by simpa using hb); simp only [h0,cond_false]; exact JT (by intro k z h; exact h)) (fun hb=>L4 (k:=1000) (.opt rfl (by rw [hb]; rfl)) (hy i (i + 1 + k) oz hkn (OH hb) (z4 hb)) (.cons (.opt rfl (by rw [hb]; rfl)) (.cons (.opt rfl (by rw [hb]; rfl)) .nil)) (by intro k z h; exact h) rfl rfl)) ?_;refine gC (fun t40=>?_) (fun t40=>?_)
   ·have h2 : prHit l kw i (i + 1 + k) = true := by have h9 := z4 t40; rw [Bool.not_not] at h9; exact h9
    have hat:prAt l kw i=some (i+1+k):=by unfold prAt;rw[gq oz hkj (by rw[h2];rfl),Option.map_some];congr 1;omega
    have hg:pairG l kw=some (prG l kw i (i+1+k)):=by unfold pairG;rw[gq hin hj (by rw[hat];rfl),Option.map_some,hat]
    refine gR ?_;simp only[hg,h2,Option.isSome_some,Option.getD_some,cond_true];exact aw.keep (fun k z h=>TJ h)
   have h2:prHit l kw i (i+1+k)=false:=by cases hc:cond (freeB l kw i) (freeB l kw ((i+1+k:Nat):Int)) false with |false=>exact FR hc |true=>rw[hc,Bool.not_not]at t40;exact t40
   refine ga aE ?_;exact aD J2 (k+1) ⟨by omega,fun j h9=>by rcases lt_or_ge j k with g |g;exact hkj j g;(have:j=k:=by omega);subst this;rw[h2];rfl⟩ (hw:=Wk.of aQ (.cons rfl (BlkSub.of (by rw[h2])) (.cons rfl (BlkSub.of (by rw[h2];rfl)) (.cons rfl (BlkSub.of (by rw[h2])) .nil))))
  have hkn:¬i+1+k<l.bo.length:=fun h=>by have h1:=tK t23;omega
  have hat:prAt l kw i=none:=by unfold prAt;rw[show l.bo.length-(i+1)=k by omega,fC hkj];rfl
  refine ga aE ?_;exact aD J1 (i+1) ⟨hin,fun j h9=>by rcases lt_or_ge j i with g |g;exact hj j g;(have:j=i:=by omega);subst this;rw[hat];rfl⟩
 have hin:=a5 hi t12;have hg:pairG l kw=none:=by unfold pairG;rw[<- hin,fC hj];rfl
 refine gR ?_;simp only[hg,Option.isSome_none,Option.getD_none];exact aw.keep (fun k z h=>h)
variable{P:Program}
mutual
def AV.pm(σ:Nat->Nat):AV->AV
  | .ms k sz off len=>.ms (σ k) sz off len
  | .ptr k off=>.ptr (σ k) off
  | .eptr k sz i off=>.eptr (σ k) sz i off
  | .yl k=>.yl (σ k)
  | .agg cs=>.agg (AV.pms σ cs)
  | .tup cs=>.tup (AV.pms σ cs)
  | .fn f cs=>.fn f (AV.pms σ cs)
  | .opt b x=>.opt b (AV.pm σ x)
  | .v x=>.v x
  | .lst sz l=>.lst sz l
  | .iptr l=>.iptr l
  | .cl f cs ds=>.cl f cs ds
def AV.pms(σ:Nat->Nat):List AV->List AV
  |[]=>[]
  |x::l=>AV.pm σ x::AV.pms σ l
end
theorem AV.pms_eq(σ:Nat->Nat):∀l,AV.pms σ l=l.map (AV.pm σ)
 |[]=>rfl
 |x::l=>by simp only[AV.pms,map_cons,AV.pms_eq σ l]
theorem AV.pm_one(σ:Nat->Nat)(x:AV)(h:x.one=true):(x.pm σ).one=true:=by
 cases x <;> simp only[AV.pm] <;> exact h
mutual
theorem AV.pm_pm{σ:Nat->Nat}(hσ:∀k,σ (σ k)=k):∀x:AV,(x.pm σ).pm σ=x
 | .ms k sz off len=>by simp only[AV.pm,hσ]
 | .ptr k off=>by simp only[AV.pm,hσ]
 | .eptr k sz i off=>by simp only[AV.pm,hσ]
 | .yl k=>by simp only[AV.pm,hσ]
 | .agg cs=>by simp only[AV.pm];rw[AV.pms_pms hσ cs]
 | .tup cs=>by simp only[AV.pm];rw[AV.pms_pms hσ cs]
 | .fn f cs=>by simp only[AV.pm];rw[AV.pms_pms hσ cs]
 | .opt b x=>by simp only[AV.pm];rw[AV.pm_pm hσ x]
 | .v x=>by simp only[AV.pm]
 | .lst sz l=>by simp only[AV.pm]
 | .iptr l=>by simp only[AV.pm]
 | .cl f cs ds=>by simp only[AV.pm]
theorem AV.pms_pms{σ:Nat->Nat}(hσ:∀k,σ (σ k)=k):∀l:List AV,AV.pms σ (AV.pms σ l)=l
 |[]=>by simp only[AV.pms]
 |x::l=>by simp only[AV.pms];rw[AV.pm_pm hσ x,AV.pms_pms hσ l]
end
theorem u7{g:Nat->Array Value->Prop}{S:Nat->Nat->Prop}{σ:Nat->Nat}(hσ:∀k,σ (σ k)=k){m:Nat->Option Nat}{v:Value}{x:AV}(h:Rep g S m v x):Rep g S (fun k=>m (σ k)) v (x.pm σ):=by
 induction h with
 |v x=>exact .v x
 |lst0 a cap sz'=>exact .lst0 a cap sz'
 |lst u hb hc hl hs ho hu hr _=>exact .lst u hb hc hl hs ho hu hr
 |iptr u hb ho hu hr _=>exact .iptr u hb ho hu hr
 |cl a b c d _ _=>exact .cl a b c d
 |ptr hm=>exact .ptr (by simp only[hσ];exact hm)
 |eptr hm=>exact .eptr (by simp only[hσ];exact hm)
 |yl hm=>exact .yl (by simp only[hσ];exact hm)
 |ms0 a k sz off=>exact .ms0 _ _ _ _
 |ms hm hc hS=>exact .ms (by simp only[hσ];exact hm) hc hS
 |opt h h' ih=>exact .opt ih h'
 |agg hn h1 hr ih =>
  simp only[AV.pm,AV.pms_eq];refine .agg (by simpa using hn) ?_ ?_
  ·intro j c hc;simp only[getElem?_map,map_eq_some_iff]at hc;obtain⟨y,hy,rfl⟩:=hc;exact AV.pm_one _ _ (h1 j y hy)
  ·intro j u c hu hc;simp only[getElem?_map,map_eq_some_iff]at hc;obtain⟨y,hy,rfl⟩:=hc;exact ih j u y hu hy
 |tup hn hr ih =>
  simp only[AV.pm,AV.pms_eq];refine .tup (by simpa using hn) ?_;intro j u c hu hc;simp only[getElem?_map,map_eq_some_iff]at hc;obtain⟨y,hy,rfl⟩:=hc;exact ih j u y hu hy
 |fn hn hr ih =>
  simp only[AV.pm,AV.pms_eq];refine .fn (by simpa using hn) ?_;intro j u c hu hc;simp only[getElem?_map,map_eq_some_iff]at hc;obtain⟨y,hy,rfl⟩:=hc;exact ih j u y hu hy
theorem LE{g:Nat->Array Value->Prop}{S:Nat->Nat->Prop}{σ:Nat->Nat}(hσ:∀k,σ (σ k)=k){m:Nat->Option Nat}{w:World}{o:Option Nat}{x:Blk}(h:BlkRep g S m w o x) :
  BlkRep g S (fun k=>m (σ k)) w o (x.map (AV.pm σ)):=by
 cases x with
 |row sz es=>exact h.mono (fun _ _ h=>h) (fun _ _ h=>h) (fun _ _ hk=>hk.elim) rfl (fun _ _=>rfl)
 |vec vs=>exact h.mono (fun _ _ h=>h) (fun _ _ h=>h) (fun _ _ hk=>hk.elim) rfl (fun _ _=>rfl)
 |loop=>exact h.mapLoop _ (fun _ _ _ _ h=>u7 hσ h)
 |box cs =>
  cases h with
  |box hw hn h1 hrr =>
   refine .box hw (by simpa using hn) ?_ ?_
   ·intro j x hx;simp only[getElem?_map,map_eq_some_iff]at hx;obtain⟨y,hy,rfl⟩:=hx;exact AV.pm_one _ _ (h1 j y hy)
   ·intro j u x hu hx;simp only[getElem?_map,map_eq_some_iff]at hx;obtain⟨y,hy,rfl⟩:=hx;exact u7 hσ (hrr j u y hu hy)
theorem Az{σ:Nat->Nat}(hσ:∀k,σ (σ k)=k):∀sl:bK,jf (AV.pm σ) (jf (AV.pm σ) sl)=sl
 |[]=>rfl
 |(t,none)::l=>by simp only[jf,Az hσ l]
 |(t,some x)::l=>by simp only[jf,Az hσ l,AV.pm_pm hσ x]
theorem Blk.pm_pm{σ:Nat->Nat}(hσ:∀k,σ (σ k)=k)(x:Blk):(x.map (AV.pm σ)).map (AV.pm σ)=x:=by
 cases x with
 |row sz es=>rfl
 |vec vs=>rfl
 |loop d st pe sl=>simp only[Blk.map,Az hσ]
 |box cs =>
  simp only[Blk.map];rw[<- AV.pms_eq,<- AV.pms_eq,AV.pms_pms hσ]
def iZ(σ:Nat->Nat):Hp->Hp
  |[]=>[]
  |(k,x)::l=>(σ k,match x with |some b=>some (b.map (AV.pm σ)) |none=>none)::iZ σ l
theorem k8{σ:Nat->Nat}(hσ:∀k,σ (σ k)=k):∀(H:Hp)(k:Nat),lk (iZ σ H) k=(lk H (σ k)).map (Blk.map (AV.pm σ))
 |[],k=>rfl
 |(k',x)::l,k=>by
  simp only[iZ,aM,k8 hσ l k]
  by_cases h:k=σ k'
  ·rw[if_pos h,if_pos (by rw[h,hσ])];cases x <;> rfl
  ·rw[if_neg h,if_neg (fun e=>h (by rw[<- e,hσ]))]
theorem yt{σ:Nat->Nat}(hσ:∀k,σ (σ k)=k)(H:Hp)(m:Nat->Option Nat):aY (iZ σ H) (fun k=>m (σ k))=aY H m:=by
 funext b;apply propext;constructor
 ·rintro⟨k,z,hz,hb⟩;rw[k8 hσ,map_eq_some_iff]at hz;obtain⟨y,hy,rfl⟩:=hz;exact⟨σ k,y,hy,hb⟩
 ·rintro⟨k,y,hy,hb⟩;exact⟨σ k,y.map (AV.pm σ),by rw[k8 hσ,hσ,hy];rfl,by simp only[hσ];exact hb⟩
theorem IG{σ:Nat->Nat}(hσ:∀k,σ (σ k)=k){ext:Nat->Prop}{H:Hp}{m:Nat->Option Nat}{w:World}(h:HeapRel ext H m w):HeapRel ext (iZ σ H) (fun k=>m (σ k)) w:=by
 have e:Im ext (iZ σ H) (fun k=>m (σ k)) w=Im ext H m w:=by funext b cs;simp only[Im,yt hσ]
 refine⟨?_,?_,?_⟩
 ·intro k z hz;rw[k8 hσ,map_eq_some_iff]at hz;obtain⟨y,hy,rfl⟩:=hz;rw[e];exact LE hσ (h.blk _ y hy)
 ·intro k k' z z' b hz hz' hb hb';rw[k8 hσ,map_eq_some_iff]at hz hz';obtain⟨y,hy,_⟩:=hz;obtain⟨y',hy',_⟩:=hz';have:=h.inj _ _ y y' b hy hy' hb hb';rw[<- hσ k,this,hσ]
 ·intro k z b hz hb;rw[k8 hσ,map_eq_some_iff]at hz;obtain⟨y,hy,_⟩:=hz;exact h.sep _ y b hy hb
theorem Con.pm{σ:Nat->Nat}(hσ:∀k,σ (σ k)=k){f:FuncId}{args:List AV}{H H':Hp}{r:AV}(h:Con P f args H r H'):Con P f (args.map (AV.pm σ)) (iZ σ H) (r.pm σ) (iZ σ H'):=by
 refine⟨h.ok,?_⟩;intro ext m w vs hext hheap hvs hrep
 have hlk:∀k,lk (iZ σ (iZ σ H)) k=lk H k:=by
  intro k;rw[k8 hσ,k8 hσ,hσ];cases lk H k with
  |none=>rfl
  |some y=>simp only[Option.map_some,Blk.pm_pm hσ]
 have hh:=HeapRel.congr hlk (IG hσ hheap);have em:(fun k=>(fun k=>m (σ k)) (σ k))=m:=by funext k;simp only[hσ]
 have eo:aY (iZ σ H) m=aY H (fun k=>m (σ k)):=by
  have:=yt hσ H (fun k=>m (σ k));rw[em]at this;exact this
 have ei:Im ext (iZ σ H) m w=Im ext H (fun k=>m (σ k)) w:=by funext b cs;simp only[Im,eo]
 refine Calls.mono (h.ret ext (fun k=>m (σ k)) w vs hext hh (by simpa using hvs) (fun j v x hv hx=>?_)) ?_
 ·have h1 := hrep j v (x.pm σ) hv (by simp[hx]);have h2:=u7 hσ h1;rw[AV.pm_pm hσ,ei]at h2;exact h2
 ·rintro e w' ⟨v,m',rfl,hf,hh',hn,hk,hrr⟩;refine⟨v,fun k=>m' (σ k),rfl,eo▸hf,IG hσ hh',?_,?_,?_⟩
  ·intro k x b hx hb;rw[k8 hσ,map_eq_some_iff]at hx;obtain⟨y,hy,_⟩:=hx;rw[eo];exact hn _ y b hy hb
  ·intro k x y hx hy;rw[k8 hσ,map_eq_some_iff]at hx hy;obtain⟨x',hx',_⟩:=hx;obtain⟨y',hy',_⟩:=hy;have:=hk _ x' y' hx' hy';simpa only[hσ]using this
  ·have e2 : Im ext (iZ σ H') (fun k => m' (σ k)) w' = Im ext H' m' w' := by funext b cs; simp only [Im, yt hσ]
   rw[e2];exact u7 hσ hrr
end Go.Lw
namespace Go.Lw
open Go.Proofs
theorem gZ{P:Program}{N:Nat}{Q:Exit->AS->Prop}{c:Code}{s:AS}(h:Gd P N Q (.code c [] s)):bJ P N c Q s:=h
theorem Ko{P:Program}{N:Nat}{Q:Exit->AS->Prop}{c:Code}{s s':AS}(hw:Wk s s')(h:jY P N c Q s'):jY P N c Q s:=by
 intro C m a w n hro hN hr;obtain⟨m',hr'⟩:=hw C m a w hr;exact h C m' a w n hro hN hr'
def vN(k:Nat):Nat:=bif Nat.beq k 1000 then 900 else bif Nat.beq k 900 then 1000 else bif Nat.beq k 1001 then 2 else bif Nat.beq k 2 then 1001 else bif Nat.beq k 1002 then 3 else bif Nat.beq k 3 then 1002 else k
theorem nb{a b:Nat}(h:¬a=b):Nat.beq a b=false:=by
 cases h1:Nat.beq a b
 ·rfl
 ·exact absurd (eq_of_beq_eq_true h1) h
theorem MX(k:Nat):vN (vN k)=k:=by
 by_cases h1:k=1000
 ·subst h1;rfl
 by_cases h2:k=900
 ·subst h2;rfl
 by_cases h3:k=1001
 ·subst h3;rfl
 by_cases h4:k=2
 ·subst h4;rfl
 by_cases h5:k=1002
 ·subst h5;rfl
 by_cases h6:k=3
 ·subst h6;rfl
 have e:vN k=k:=by simp only[vN,nb h1,nb h2,nb h3,nb h4,nb h5,nb h6,cond_false]
 rw[e,e]
theorem Ur(l:Li)(hl:l.ok)(hli:ax l=0)(kw:List Bool)(hk:kw.length=l.bo.length)(r:List AV) :
  FP 377 [.iptr (dL l kw (bX l) r)] (.tup [((pairG l kw).getD default).av,bl (pairG l kw).isSome]):=by
 refine In (rs:=Tryz.f377.results.toList) func377 rfl rfl (by simp) rfl (fun k z h=>by cases h) ?_;refine A8 (gZ (go ?_));refine Ko (s':=⟨[(1,some (.iptr [.iptr (dL l kw (bX l) r)])),(2,some (.ptr 2 0)),(3,some (.ptr 3 0))],[(2,some (xx default)),(3,some (x4 false))]⟩) ((Wk.freezeB (k:=1) rfl rfl).trans (Wk.of (.k (.k (.k .nil))) (.cons rfl (BlkSub.bL (.cons (.refl _) (.cons (.nil _ _ _) (.cons (.nil _ _ _) (.cons (.refl _) .nil)))) rfl) (.k .nil)))) ?_;refine Vz ?_;refine A8 (gZ (go ?_));refine gc (UD (dL l kw (bX l) r)) ?_;refine PC ?_
 have hy:∀i k:Nat,i<k->k<l.bo.length->freeB l kw i=true->freeB l kw k=true ->
   ux prog 1000 [i64 i,i64 k] (fu (Fv Tryz.f377.ntmps Tryz.f377.body) (dL l kw (bX l) r) false default) (bl (!prHit l kw i k)) (fu (Fv Tryz.f377.ntmps Tryz.f377.body) (dL l kw (bX l) r) (prHit l kw i k) (cond (prHit l kw i k) (prG l kw i k) default)):=by
  intro i k hik hkn hfi hfk;refine S6 (k:=1000) (fun k z h=>IH h) rfl rfl (by intro p hp;have h9:p∈[11,12]:=hp;have h8:p=11\/p=12:=(by simpa using h9);show p<42;rcases h8 with h7 |h7 <;> (rw[h7];decide)) ?_;refine gZ (go ?_);refine⟨rfl,_,_,rfl,?_⟩;have hJ:gJ l 0 i (fun o=>decide (o=(k:Int)))=jointI l 0 i (cB l.bo.length k):=yb hli (fun o h0 h1=>(ov h0 oz oz).symm);refine gZ (go ?_);refine gc (vz l hl hli kw hk r 0 i) ?_;refine gc (vz l hl hli kw hk r 0 k) ?_;refine gD ?_ (5,0);refine gW (Wk.freezeB (k:=5) rfl rfl) ?_;refine gc (r:=i64 (jointI l 0 i (cB l.bo.length k))) (by rw[<- hJ];exact Con.sA (.cons (.refl _) (.cons (.refl _) (.cons (.refl _) (.cons (tc rfl) .nil)))) (Jh l hl hli _ 0 i 401 [] [.iptr [i64 k]] (fun o=>decide (o=(k:Int))) (fun o h0 h1=>ON o k))) ?_;refine gC (fun ht=>?_) (fun ht=>?_)
  ·have h2 : prHit l kw i k = true := by unfold prHit; rw [hfi, hfk]; exact (wO.symm.trans ht)
   rw[h2];exact⟨_,_,rfl,aw.keep (by intro q z h;simp only[fu,aM]at h;split at h;(subst_vars;exact h);split at h;(subst_vars;exact h);split at h;(subst_vars;exact h);cases h)⟩
  ·have h2 : prHit l kw i k = false := by unfold prHit; rw [hfi, hfk]; exact (wO.symm.trans ht)
   rw[h2];exact⟨_,_,rfl,aw.keep (by intro q z h;simp only[fu,aM]at h;split at h;(subst_vars;exact h);split at h;(subst_vars;exact h);split at h;(subst_vars;exact h);cases h)⟩
 have hcon:=Con.pm MX (Kr _ l hl hli kw hk r hy);cases hg:pairG l kw with
 |none =>
  rw[hg]at hcon;refine Fn (k:=900) (sl0:=[(1,some (.iptr [.iptr (dL l kw (bX l) r)])),(2,some (.ptr 2 0)),(3,some (.ptr 3 0))]) (.tmp rfl) (by intro t x h;simp only[aM]at h;split at h;(subst_vars;exact h);split at h;(subst_vars;exact h);split at h;(subst_vars;exact h);cases h) rfl rfl hcon (fun k' z h=>h) rfl rfl rfl rfl (by intro h;cases h) (.inl ⟨rfl,?_⟩);refine A8 (gZ (go ?_));refine bJ.out (gZ (go ?_));refine gR ?_;exact aw.sub aw.pure (Sub.tup (.cons qf (.cons (.refl _) .nil)))
 |some g =>
  rw[hg]at hcon;refine Fn (k:=900) (sl0:=[(1,some (.iptr [.iptr (dL l kw (bX l) r)])),(2,some (.ptr 2 0)),(3,some (.ptr 3 0))]) (.tmp rfl) (by intro t x h;simp only[aM]at h;split at h;(subst_vars;exact h);split at h;(subst_vars;exact h);split at h;(subst_vars;exact h);cases h) rfl rfl hcon (fun k' z h=>h) rfl rfl rfl rfl (by intro h;cases h) (.inr ⟨rfl,?_⟩);exact(br (P:=prog) (N:=Tryz.f377.ntmps) (e:=.ret) rfl)
theorem ye{α:Type}{o:Option α}(h:o.isSome=true):∃x,o=some x:=by cases o <;> simp_all
theorem BF{α:Type}{o:Option α}(h:o.isSome=false):o=none:=by cases o <;> simp_all
theorem MS(l:Li)(hl:l.ok)(hli:ax l=0)(kw:List Bool)(hk:kw.length=l.bo.length)(r:List AV) :
  FP 339 [.iptr (dL l kw (bX l) r)] (.tup [((nextG l kw).getD default).av,bl (nextG l kw).isSome]):=by
 refine ah func339 ?_;refine gc (UM l hl hli kw (bX l) hk r) ?_;refine gC (fun t13=>?_) (fun t13=>?_)
 ·obtain⟨g,hg⟩:=ye t13;refine br ?_;unfold nextG;rw[hg];rfl
 have hg:=BF t13;refine gc (Ur l hl hli kw hk r) ?_;refine gC (fun t20=>?_) (fun t20=>?_)
 ·obtain⟨g,hg2⟩:=ye t20;refine br ?_;unfold nextG;rw[hg,hg2];rfl
 have hg2:=BF t20;refine gc (Qp l hl hli kw hk r) ?_;refine br ?_;unfold nextG;rw[hg,hg2];rfl
theorem vM{ts:LL}{r e:Nat}(tw:Tw ts r){a b c d:List Rat}(ha:Nm ts.length e a)(hb:Nm ts.length e b)(hc:Nm ts.length e c)(hd:Nm ts.length e d)(he:2*e<=lm ts.length) :
  Con prog 173 [.ptr 1000 0,aI a b,aI c d] [(1000,some (fP ts))] (aI (sh ts.length (subT ts (ae ts.length a) (ae ts.length c))) (sh ts.length (subT ts (ae ts.length b) (ae ts.length d)))) [(1000,some (fP ts))]:=by
 refine gF func173 (fun k z h=>bB h) ?_;refine gt (aA (xb tw ha hc oz) (aG rfl rfl rfl) aC rfl rfl) ?_;refine gt (aA (xb tw hb hd oz) (aG rfl rfl rfl) aC rfl rfl) ?_;refine gD ?_;refine gR ?_;exact aw.keep (bc rfl)
theorem Ay(R:List AV)(a:List Rat):Con prog 284 [.ptr 1000 0,nA a] [(1000,some (.box [.lst 1 R,.v .nilIface]))] (.tup [nA a,.v .nilIface]) [(1000,some (.box [.lst 1 R,.v .nilIface]))]:=by
 refine gF func284 (fun k z h=>bB h) ?_;refine gC (fun t10=>?_) (fun t10=>?_) (st1:=(2,0));cases t10;refine gR ?_;show aw _ (AV.tup [nA a,.v .nilIface]) _ _;exact aw.keep (bc rfl)
theorem wc(R:List AV)(a b:List Rat):Con prog 172 [.ptr 1000 0,aI a b] [(1000,some (.box [.lst 1 R,.v .nilIface]))] (.tup [aI a b,.v .nilIface]) [(1000,some (.box [.lst 1 R,.v .nilIface]))]:=by
 refine gF func172 (fun k z h=>bB h) ?_;refine gC (fun t10=>?_) (fun t10=>?_) (st1:=(2,0));cases t10;refine gR ?_;show aw _ (AV.tup [aI a b,.v .nilIface]) _ _;exact aw.keep (bc rfl)
theorem Se{ts:LL}{r e:Nat}(tw:Tw ts r){a b c d p q:List Rat}(ha:Nm ts.length e a)(hb:Nm ts.length e b)(hc:Nm ts.length e c)(hd:Nm ts.length e d)(hp:Nm ts.length e p)(hq:Nm ts.length e q)
  (he:8*e+4+2*kB r ts.length<=lm ts.length) :
  Con prog 332 [.ptr 1000 0,aI a b,aI c d,aI p q] [(1000,some (fP ts))] (nA (sh ts.length (tm ts (ae ts.length a) (ae ts.length b) (ae ts.length c) (ae ts.length d) (ae ts.length p) (ae ts.length q)))) [(1000,some (fP ts))]:=by
 refine gF func332 (fun k z h=>bB h) ?_;refine gt (aA (vM tw hc hd ha hb oz) (aG rfl rfl rfl) aC rfl rfl) ?_;refine gt (aA (vM tw hp hq ha hb oz) (aG rfl rfl rfl) aC rfl rfl) ?_;refine gt (aA (Ih▸FW tw (hc.sub ha) (hd.sub hb) (hp.sub ha) (hq.sub hb) oz) (aG rfl rfl rfl) aC rfl rfl) ?_;refine gD ?_;refine gR ?_;exact aw.keep (bc rfl)
theorem CJ{ts:LL}{r e:Nat}(tw:Tw ts r){a b c d:List Rat}(ha:Nm ts.length e a)(hb:Nm ts.length e b)(hc:Nm ts.length e c)(hd:Nm ts.length e d)(he:e<=lm ts.length)(f:FuncId)(v:List Rat)
  (hf:Con prog f [.ptr 1000 0,aI a b,aI c d] [(1000,some (fP ts))] (nA v) [(1000,some (fP ts))]) :
  FP 174 [aN ts,aI a b,aI c d,.fn f []] (.tup [nA v,.v .nilIface]):=by
 refine ah func174 ?_;refine gc (oe (e:=e) tw [(a,b),(c,d)] (by simp only[mem_cons,not_mem_nil,or_false];rintro p (rfl |rfl);exact⟨ha,hb⟩;exact⟨hc,hd⟩) he (by simp)) ?_;refine gC (fun t18=>?_) (fun t18=>?_) (st1:=(3,0));cases t18;refine gs (uW (.tmp rfl) (show Con prog f ([.ptr 22 0,aI a b,aI c d]++[]) [(22,some (fP ts))] (nA v) [(22,some (fP ts))]from Con.rB 22 rfl rfl rfl rfl hf) (aG rfl rfl rfl) aC rfl rfl) ?_;refine gt (aA (Con.rB 22 rfl rfl rfl rfl (Ay _ _)) (bp rfl rfl) aC rfl rfl) ?_;refine br ?_;rfl
theorem tz{ts:LL}{r e:Nat}(tw:Tw ts r){a b c d:List Rat}(ha:Nm ts.length e a)(hb:Nm ts.length e b)(hc:Nm ts.length e c)(hd:Nm ts.length e d)(he:2*(e+e+kB r ts.length)<=lm ts.length) :
  FP 80 [aN ts,aI a b,aI c d] (.tup [nA (sh ts.length (nQ ts (ae ts.length a) (ae ts.length b) (ae ts.length c) (ae ts.length d))),.v .nilIface]):=by
 refine ah func80 ?_;refine gc (Con.sA (.cons (.refl _) (.cons (.refl _) (.cons (.refl _) (.cons (Sub.fn0 _) .nil)))) (CJ tw ha hb hc hd oz _ _ (Gp tw ha hb hc hd he))) ?_;refine br ?_
 first |rfl |(simp;done)
theorem Ux{ts:LL}{r e:Nat}(tw:Tw ts r){a b c d p q:List Rat}(ha:Nm ts.length e a)(hb:Nm ts.length e b)(hc:Nm ts.length e c)(hd:Nm ts.length e d)(hp:Nm ts.length e p)(hq:Nm ts.length e q)
  (he:8*e+10+2*kB r ts.length<=lm ts.length) :
  FP 311 [aN ts,aI a b,aI c d,aI p q] (.tup [i64 (T.sgn (am ts) ts.length (tm ts (ae ts.length a) (ae ts.length b) (ae ts.length c) (ae ts.length d) (ae ts.length p) (ae ts.length q))),.v .nilIface]):=by
 have ho:=Mr tw ha hb hc hd hp hq;refine ah func311 ?_;refine gc (oe (e:=e) tw [(a,b),(c,d),(p,q)] (by simp only[mem_cons,not_mem_nil,or_false];rintro x (rfl |rfl |rfl);exact⟨ha,hb⟩;exact⟨hc,hd⟩;exact⟨hp,hq⟩) oz (by simp)) ?_;refine gC (fun t21=>?_) (fun t21=>?_) (st1:=(3,0));cases t21;refine gt (aA (Con.rB 25 rfl rfl rfl rfl (Se tw ha hb hc hd hp hq oz)) (.cons (.tmp rfl) (.cons (.tmp rfl) (.cons (.tmp rfl) (.cons (.tmp rfl) .nil)))) aC rfl rfl) ?_;refine gt (aA (Con.rB 25 rfl rfl rfl rfl (Ay _ _)) (bp rfl rfl) aC rfl rfl) ?_;refine gC (fun t37=>?_) (fun t37=>?_) (st1:=(7,0));cases t37;refine gc (uU tw ho oz) ?_;refine br ?_;rw[a7]
theorem Lm{ts:LL}{r e:Nat}(tw:Tw ts r){a b c d:List Rat}(ha:Nm ts.length e a)(hb:Nm ts.length e b)(hc:Nm ts.length e c)(hd:Nm ts.length e d)(he:2*e+1<=lm ts.length) :
  FP 310 [aN ts,aI a b,aI c d] (.tup [bl (decide (T.sgn (am ts) ts.length (subT ts (ae ts.length a) (ae ts.length c))=0/\T.sgn (am ts) ts.length (subT ts (ae ts.length b) (ae ts.length d))=0)),.v .nilIface]):=by
 refine ah func310 ?_;refine gc (oe (e:=e) tw [(a,b),(c,d)] (by simp only[mem_cons,not_mem_nil,or_false];rintro p (rfl |rfl);exact⟨ha,hb⟩;exact⟨hc,hd⟩) oz (by simp)) ?_;refine gC (fun t18=>?_) (fun t18=>?_) (st1:=(3,0));cases t18;refine gc (z5 tw ha hc oz) ?_;refine gC (fun t30=>?_) (fun t30=>?_) (st1:=(6,0));cases t30;refine gc (z5 tw hb hd oz) ?_;refine br ?_;rw[<- Sr];rfl
theorem Fh{ts:LL}{r e:Nat}(tw:Tw ts r){a b c d:List Rat}(ha:Nm ts.length e a)(hb:Nm ts.length e b)(hc:Nm ts.length e c)(hd:Nm ts.length e d)(he:2*(e+e+kB r ts.length)<=lm ts.length) :
  FP 191 [aN ts,nA a,nA b,aI c d] (.tup [aI (sh ts.length (ui ts (ae ts.length a) (ae ts.length b) (ae ts.length c) (ae ts.length d))) (sh ts.length (sD ts (ae ts.length a) (ae ts.length b) (ae ts.length c) (ae ts.length d))),.v .nilIface]):=by
 refine ah func191 ?_;refine gc (uv (e:=e) tw [a,b,c,d] (by simp only[mem_cons,not_mem_nil,or_false];rintro x (rfl |rfl |rfl |rfl) <;> assumption) oz (by simp)) ?_;refine gC (fun t22=>?_) (fun t22=>?_) (st1:=(3,0));cases t22;refine gt (aA (Con.rB 27 rfl rfl rfl rfl (lg tw ha hc oz)) (aG rfl rfl rfl) aC rfl rfl) ?_;refine gt (aA (Con.rB 27 rfl rfl rfl rfl (lg tw hb hd oz)) (aG rfl rfl rfl) aC rfl rfl) ?_;refine gt (aA (Con.rB 27 rfl rfl rfl rfl (zG▸xb tw (ha.mul tw rfl hc) (hb.mul tw rfl hd) oz)) (aG rfl rfl rfl) aC rfl rfl) ?_;refine gt (aA (Con.rB 27 rfl rfl rfl rfl (lg tw hb hc oz)) (aG rfl rfl rfl) aC rfl rfl) ?_;refine gt (aA (Con.rB 27 rfl rfl rfl rfl (lg tw ha hd oz)) (aG rfl rfl rfl) aC rfl rfl) ?_;refine gt (aA (Con.rB 27 rfl rfl rfl rfl (zJ▸um tw (hb.mul tw rfl hc) (ha.mul tw rfl hd) oz)) (aG rfl rfl rfl) aC rfl rfl) ?_;refine gt (aA (Con.rB 27 rfl rfl rfl rfl (wc _ _ _)) (bp rfl rfl) aC rfl rfl) ?_;refine gD ?_;refine br ?_;rfl
theorem P3{ts:LL}{r e:Nat}(tw:Tw ts r){a b c d:List Rat}(ha:Nm ts.length e a)(hb:Nm ts.length e b)(hc:Nm ts.length e c)(hd:Nm ts.length e d)(he:2*e<=lm ts.length) :
  FP 192 [aN ts,aI a b,aI c d] (.tup [aI (sh ts.length (T.add ts.length (ae ts.length a) (ae ts.length c))) (sh ts.length (T.add ts.length (ae ts.length b) (ae ts.length d))),.v .nilIface]):=by
 refine ah func192 ?_;refine gc (oe (e:=e) tw [(a,b),(c,d)] (by simp only[mem_cons,not_mem_nil,or_false];rintro p (rfl |rfl);exact⟨ha,hb⟩;exact⟨hc,hd⟩) oz (by simp)) ?_;refine gC (fun t16=>?_) (fun t16=>?_) (st1:=(3,0));cases t16;refine gt (aA (Con.rB 21 rfl rfl rfl rfl (um tw ha hc oz)) (aG rfl rfl rfl) aC rfl rfl) ?_;refine gt (aA (Con.rB 21 rfl rfl rfl rfl (um tw hb hd oz)) (aG rfl rfl rfl) aC rfl rfl) ?_;refine gt (aA (Con.rB 21 rfl rfl rfl rfl (wc _ _ _)) (bp rfl rfl) aC rfl rfl) ?_;refine gD ?_;refine br ?_;rfl
theorem uX{x y:Rat}(hx:Qs x)(hy:Qs y):FP 153 [qA x,qA y] (aI (sh 0 (x:Rat)) (sh 0 (y:Rat))):=by
 refine ah func153 ?_;refine gc (mj hx) ?_;refine gc (mj hy) ?_;refine gD ?_;refine af ?_
 first |rfl |(simp;done)
theorem yD{ts:LL}{r e:Nat}(tw:Tw ts r){a b c d:List Rat}(ha:Nm ts.length e a)(hb:Nm ts.length e b)(hc:Nm ts.length e c)(hd:Nm ts.length e d){x y:Rat}(hx:Qb e x)(hy:Qb e y)(he:8*e+4*kB r ts.length+4<=lm ts.length) :
  FP 89 [aN ts,.agg [nA a,nA b,nA c,nA d],qA x,qA y] (.tup [aI (sh ts.length (se ts (ae ts.length a) (ae ts.length b) (ae ts.length c) x y)) (sh ts.length (r8 ts (ae ts.length a) (ae ts.length b) (ae ts.length d) x y)),.v .nilIface]):=by
 have hlm:=jP ts.length;have nx:=Nm.ofQ ha.five (Cb.one hx);have ny:=Nm.ofQ ha.five (Cb.one hy);have nX:=vp tw ha hb nx ny;have nY:=vg tw ha hb nx ny;have z1:e<=2*(e+e+kB r ts.length)+1:=by omega
 have z2:2*(2*(e+e+kB r ts.length)+1)<=lm ts.length:=NL he;have hadd:=P3 tw nX nY (hc.mono z1) (hd.mono z1) z2;refine ah func89 ?_;refine gc (uv (e:=e) tw [a,b,c,d] (by simp only[mem_cons,not_mem_nil,or_false];rintro x (rfl |rfl |rfl |rfl) <;> assumption) oz (by simp)) ?_;refine gC (fun t25=>?_) (fun t25=>?_) (st1:=(3,0));cases t25;refine gc (uX (hx.qs oz) (hy.qs oz)) ?_;refine gc (Fh tw ha hb nx ny oz) ?_;refine gD ?_;refine gC (fun t41=>?_) (fun t41=>?_) (st1:=(6,0));cases t41;refine gc hadd ?_;refine br ?_;rw[yG,z6];rfl
theorem GW(rs:List (List Rt))(r e:Nat)(h:TR rs r)(xs:List (List Rt))(hx:∀a∈xs,NR a e)(he:e<=lm rs.length)(hl:xs.length<=1000):FP 28 [cJ rs,.lst 1 (xs.map nR)] (i64 (bg rs xs)):=by
 refine ah func28 ?_;refine gc (GX rs r h) ?_;refine gC (fun t13=>?_) (fun t13=>?_)
 ·have h1:=jK t13;refine af ?_;rw[yO h1]
 have h1:=jA t13;refine gl ?_;refine aJ [2,15,16] [2] (fun(i:Nat)=>[(17,some (i64 i))]) (fun _=>[]) (fun i=>i<=xs.length/\∀x∈xs.take i,bW rs.length x=0) (fun i=>xs.length-i) 0 ⟨zero_le _,fun x hx=>by simp at hx⟩ ?_;rintro i ⟨hi,hj⟩ K1 J1;refine gC (fun t18=>?_) (fun t18=>?_)
 ·have hin : i < xs.length := by simpa [aa] using t18
  obtain⟨a,ha⟩:=aq hin;have hok:=hx a (mem_of_getElem? ha);have hone:bg rs [a]=bW rs.length a:=Ji h1;refine gi (au ha) ?_;refine gc (Kd rs r h a e hok he) ?_;refine gC (fun t28=>?_) (fun t28=>?_)
  ·have h2:=jK t28;refine af ?_;rw[hone]at h2 ⊢;rw[vt h1 ha hj h2]
  have h2:=jA t28;rw[hone]at h2;refine ga aE ?_;exact aD J1 (i+1) ⟨hin,fun x hx=>by rw[cS ha]at hx;rcases List.mem_append.1 hx with h9 |h9;exact hj x h9;(rw[List.mem_singleton.1 h9];exact h2)⟩
 have hin:i=xs.length:=by have:xs.length<=i:=(by simpa[aa]using t18);omega
 subst hin;rw[take_length]at hj;refine af ?_;rw[p7 h1 hj];rfl
theorem uc{ts:LL}{r e f:Nat}(tw:Tw ts r){a b:List Rat}(ha:Nm ts.length e a)(hb:Nm ts.length f b)(he:e+f+1<=lm ts.length):FP 24 [aN ts,nA a,nA b] (bl (fm ts (ae ts.length a) (ae ts.length b))):=by
 refine ah func24 ?_;refine gc (JV tw ha hb he) ?_;refine af ?_;exact congrArg bl (Bi _)
theorem NP{ts:LL}{r e:Nat}(tw:Tw ts r){a b c d p q u v:List Rat}(ha:Nm ts.length e a)(hb:Nm ts.length e b)(hc:Nm ts.length e c)(hd:Nm ts.length e d)(hp:Nm ts.length e p)(hq:Nm ts.length e q)(hu:Nm ts.length e u)(hv:Nm ts.length e v)(he:2*e+1<=lm ts.length) :
  FP 21 [aN ts,.agg [nA a,nA b,nA c,nA d],.agg [nA p,nA q,nA u,nA v]] (bl (fm ts (ae ts.length a) (ae ts.length p)&&fm ts (ae ts.length b) (ae ts.length q)&&fm ts (ae ts.length c) (ae ts.length u)&&fm ts (ae ts.length d) (ae ts.length v))):=by
 refine ah func21 ?_;refine gc (uc tw ha hp oz) ?_;refine bF (fun _=>(uc tw hb hq oz)) ?_;refine bF (fun _=>(uc tw hc hu oz)) ?_;refine bF (fun _=>(uc tw hd hv oz)) ?_;refine af ?_;exact congrArg bl (Ef _ _ _ _)
theorem Vu:FP 45 [] (.agg [nA [1],nA [],nA [],nA []]):=by
 refine ah func45 ?_;refine gc (yJ 1 oz) ?_;refine gc (NN (pR (n:=1) oz)) ?_;refine gR ?_;exact i9 (.agg (.cons (.refl _) (.cons (.nil _ _ _) (.cons (.nil _ _ _) (.cons (.nil _ _ _) .nil)))) rfl)
def u8(n:Nat):AV:=.v (.int .u8 n)
theorem tE{p q:Bool}{a b:Nat}{c:Nat}(hp:p=decide (a<=c))(hq:q=decide (c<=b)):cond p q false=decide (a<=c/\c<=b):=by
 subst hp;subst hq
 by_cases h:a<=c
 ·simp[h]
 ·simp[h]
theorem rL(c k:Nat):aa .geq (c:Int) (k:Int)=decide (k<=c):=by simp only[aa,decide_eq_decide];omega
theorem rx(c k:Nat):aa .leq (c:Int) (k:Int)=decide (c<=k):=by simp only[aa,decide_eq_decide];omega
theorem Wi(c:Nat):cond (cond (aa .geq (c:Int) 97) (aa .leq (c:Int) 122) false) true (cond (aa .geq (c:Int) 65) (aa .leq (c:Int) 90) false)=eM c:=by
 have e1:cond (aa .geq (c:Int) 97) (aa .leq (c:Int) 122) false=decide (97<=c/\c<=122):=tE (rL c 97) (rx c 122);have e2:cond (aa .geq (c:Int) 65) (aa .leq (c:Int) 90) false=decide (65<=c/\c<=90):=tE (rL c 65) (rx c 90);rw[e1,e2];unfold eM;cases decide (97<=c/\c<=122) <;> rfl
theorem PZ(c:Nat):cond (cond (aa .geq (c:Int) 65) (aa .leq (c:Int) 90) false) true (cond (aa .geq (c:Int) 97) (aa .leq (c:Int) 122) false)=eM c:=by
 have e1:cond (aa .geq (c:Int) 97) (aa .leq (c:Int) 122) false=decide (97<=c/\c<=122):=tE (rL c 97) (rx c 122);have e2:cond (aa .geq (c:Int) 65) (aa .leq (c:Int) 90) false=decide (65<=c/\c<=90):=tE (rL c 65) (rx c 90);rw[e1,e2];unfold eM;cases decide (97<=c/\c<=122) <;> cases decide (65<=c/\c<=90) <;> rfl
theorem EK(c:Nat):cond (aa .geq (c:Int) 48) (aa .leq (c:Int) 57) false=p6 c:=tE (rL c 48) (rx c 57)
theorem An(c:Nat):cond (cond (eM c) true (p6 c)) true (aa .eql (c:Int) 95)=ky c:=by
 unfold ky
 have:aa .eql (c:Int) 95=decide (c=95):=by
  rw[Bool.eq_iff_iff];simp only[aa,beq_iff_eq,decide_eq_true_eq];omega
 rw[this];cases eM c <;> cases p6 c <;> rfl
theorem E6(c:Nat):FP 363 [u8 c] (bl (eM c)):=by
 refine ah func363 ?_;refine af ?_;exact congrArg bl (Wi c)
theorem Q2(c:Nat):FP 390 [u8 c] (bl (p6 c)):=by
 refine ah func390 ?_;refine af ?_;exact congrArg bl (EK c)
theorem QO(c:Nat):FP 364 [u8 c] (bl (ky c)):=by
 refine ah func364 ?_;refine gc (E6 c) ?_;refine bF (fun _=>(Q2 c)) ?_;refine af ?_;exact congrArg bl (An c)
theorem DO(c:Nat):FP 315 [u8 c] (bl (eM c)):=by
 refine ah func315 ?_;refine af ?_;exact congrArg bl (PZ c)
theorem U0(c:Nat):FP 317 [u8 c] (bl (p6 c)):=by
 refine ah func317 ?_;refine af ?_;exact congrArg bl (EK c)
theorem SU(s:ByteArray)(hs:s.size<=281474976710656):FP 300 [.v (.string s)] (i64 (eP s)):=by
 refine ah func300 ?_;refine gs (ef rfl rfl rfl (fun h=>xa (.opt rfl (o1 h)) (.const _) T9 rfl oz (by have:=DH h;omega) rfl)) ?_;refine bF (fun _=>(E6 (dR s 0))) ?_;refine gC (fun t11=>?_) (fun t11=>?_)
 ·have h0:eP s=0:=Q0 t11;refine af ?_;rw[h0];rfl
 obtain⟨h0,h1⟩:=RN t11;refine aJ [0] [] (fun(n:Nat)=>[(3,some (i64 n))]) (fun _=>[]) (fun n=>1<=n/\n<=s.size/\fh s 1 (s.size-1)=fh s n (s.size-n)) (fun n=>s.size-n) 1 ⟨le_refl _,h0,rfl⟩ ?_;rintro n ⟨hn1,hn,hw⟩ K1 J1;refine gs (ef rfl rfl rfl (fun h=>xa (.opt rfl (o1 h)) (.opt rfl (o1 h)) T9 rfl oz (by have:=aT h;omega) rfl)) ?_;refine bF (fun _=>(QO (dR s n))) ?_;refine gC (fun t21=>?_) (fun t21=>?_)
 ·have h2:n<s.size/\ky (dR s n)=true:=O6 t21;refine ga aE ?_;exact aD J1 (n+1) ⟨by omega,by omega,by rw[hw,show s.size-n=(s.size-(n+1))+1 by omega];simp only[fh,h2.2,if_true]⟩
 have h2:n<s.size->ky (dR s n)=false:=Tc t21
 have h3:eP s=n:=by
  unfold eP;rw[if_pos ⟨h0,h1⟩,hw];rcases lt_or_ge n s.size with h |h
  ·rw[show s.size-n=(s.size-(n+1))+1 by omega];simp only[fh,h2 h,Bool.false_eq_true,if_false]
  ·rw[show s.size-n=0 by omega];rfl
 refine af ?_;rw[h3]
theorem r4(s:ByteArray)(hs:s.size<=281474976710656):FP 204 [.v (.string s)] (bl (it s)):=by
 refine ah func204 ?_;refine gc (SU s hs) ?_;refine af ?_;exact congrArg bl (OK s)
theorem w7(s:ByteArray)(i:Nat):FP 316 [.v (.string s),i64 i] (u8 (dR s i)):=by
 refine ah func316 ?_;refine gC (fun t8=>?_) (fun t8=>?_)
 ·have h0:=aT t8;refine gs (xa (.tmp rfl) (.tmp rfl) T9 rfl oz oz rfl) ?_;refine af ?_;rfl
 have h0:=tK t8;refine af ?_;rw[C3 oz];rfl
theorem Kx(s:ByteArray)(hs:s.size<=281474976710656):FP 225 [.v (.string s),i64 0] (i64 ((if eM (dR s 0)then fh s 0 s.size else 0:Nat))):=by
 refine ah func225 ?_;refine gc (w7 s 0) ?_;refine gc (DO (dR s 0)) ?_;refine gC (fun t9=>?_) (fun t9=>?_)
 ·have h0 : eM (dR s 0) = false := by simpa using t9
  refine af ?_;rw[h0];rfl
 have h0:eM (dR s 0)=true:=by simpa using t9
 refine aJ [0] [] (fun(n:Nat)=>[(1,some (i64 n))]) (fun _=>[]) (fun n=>n<=s.size/\fh s 0 s.size=fh s n (s.size-n)) (fun n=>s.size-n) 0 ⟨zero_le _,rfl⟩ ?_;rintro n ⟨hn,hw⟩ K1 J1;refine gc (w7 s n) ?_;refine gc (DO (dR s n)) ?_;refine bF (fun _=>(w7 s n)) ?_;refine bF (fun _=>(U0 (dR s n))) ?_;refine bF (fun _=>(w7 s n)) ?_;refine gC (fun t26=>?_) (fun t26=>?_)
 ·have h1:ky (dR s n)=true:=(An _).symm.trans t26
  have h2:n<s.size:=by
   rcases lt_or_ge n s.size with h |h
   ·exact h
   ·rw[C3 h]at h1;cases h1
  refine ga aE ?_;exact aD J1 (n+1) ⟨by omega,by rw[hw,show s.size-n=(s.size-(n+1))+1 by omega];simp only[fh,h1,if_true]⟩
 have h1:ky (dR s n)=false:=(An _).symm.trans t26
 have h2:fh s 0 s.size=n:=by
  rw[hw];rcases lt_or_ge n s.size with h |h
  ·rw[show s.size-n=(s.size-(n+1))+1 by omega];simp only[fh,h1,Bool.false_eq_true,if_false]
  ·rw[show s.size-n=0 by omega];rfl
 refine af ?_;rw[h0,h2];rfl
theorem r7(s:ByteArray)(hs:s.size<=281474976710656):FP 111 [.v (.string s)] (bl (it s)):=by
 refine ah func111 ?_;refine bF (fun _=>(Kx s hs)) ?_;refine af ?_;exact congrArg bl (Nt s)
theorem rj(i:Int)(n:Nat):FP 302 [i64 i,i64 n] (bl (bw i n)):=by
 refine ah func302 ?_;refine af ?_;exact congrArg bl (Gv i n)
theorem Kj(bs:List Bd)(hbs:∀b∈bs,b.ok)(hl:bs.length<=281474976710656):FP 205 [.lst 2 (bs.map Bd.av)] (bh (eZ bs.length (dY bs))):=by
 refine ah func205 ?_;refine gl ?_;refine aJ [0,11,12] [] (fun(i:Nat)=>[(13,some (i64 i))]) (fun _=>[]) (fun i=>i<=bs.length/\∀j,j<i->dY bs j=0) (fun i=>bs.length-i) 0 ⟨zero_le _,fun j h=>by omega⟩ ?_;rintro i ⟨hi,hj⟩ K1 J1;refine gC (fun t14=>?_) (fun t14=>?_)
 ·have hin:=aT t14;obtain⟨b,hb⟩:=aq hin;have hbd:bs.getD i default=b:=aB hb;have hbo:=hbs b (mem_of_getElem? hb);have hbdup:=mS Bd.name hb;refine gi (au hb) ?_;refine gc (r4 b.name hbo.name) ?_;refine gC (fun t21=>?_) (fun t21=>?_)
  ·have h1:=cW t21;have e1:dY bs i = 5:=by unfold dY; rw [hbd,if_pos h1]
   refine af ?_;rw[d5 hin hj (by rw[e1];decide),e1];rfl
  have h1:=c9 t21;refine gs (cQ (.tmp rfl) (.none _) (.some _ (.tmp rfl) oz) T22 rfl T173 rfl oz (by simp only[length_map];omega) rfl) ?_;refine ge rfl ?_;refine aJ [0,3,4,11,12,13] [4] (fun(k:Nat)=>[(25,some (.lst 2 ((bs.take i).map Bd.av))),(26,some (i64 i)),(27,some (i64 k))]) (fun _=>[]) (fun k=>k<=i/\(bs.take k).any (fun y=>dK y.name b.name)=false) (fun k=>i-k) 0 ⟨zero_le _,rfl⟩ ?_ (h1:=(.cons rfl (Sub.of (rZ 2 Bd.av bs i)) (.cons rfl (Sub.int (by simp;omega)) (.k .nil))));rintro k ⟨hk,hd⟩ K2 J2;refine gC (fun t28=>?_) (fun t28=>?_)
  ·have hkn:=aT t28;obtain ⟨y,hy'⟩:∃ y,(bs.take i)[k]? = some y:=aq (by simp; omega);have hy:=(tY hy').1;refine gi (au hy') ?_;refine gC (fun t35=>?_) (fun t35=>?_)
   ·have h2:dK y.name b.name = true:=t35;have e1:dY bs i = 6:=by unfold dY; rw [hbd,if_neg (by rw [h1]; decide),if_pos (by rw [hbdup]; exact lh hy hkn h2)]
    refine af ?_;rw[d5 hin hj (by rw[e1];decide),e1];rfl
   have h2:dK y.name b.name=false:=t35;refine ga aE ?_;exact aD J2 (k+1) ⟨hkn,km hy hd h2⟩
  have hkn:=a5 hk t28;subst hkn;have hnd:¬fX (bs.map Bd.name) k=true:=by rw[hbdup,hd];decide
  refine gl ?_;refine gC (fun t41=>?_) (fun t41=>?_)
  ·have h3:8 < b.pts.length:=jg t41;have e1:dY bs k = 4:=by unfold dY; rw [hbd,if_neg (by rw [h1]; decide),if_neg hnd,if_pos h3]
   refine af ?_;rw[d5 hin hj (by rw[e1];decide),e1];rfl
  have h3:b.pts.length<=8:=gN t41;have e1:dY bs k=eZ b.pts.length (dZ b.pts):=by unfold dY;rw[hbd,if_neg (by rw[h1];decide),if_neg hnd,if_neg oz]
  refine gl ?_;refine aJ [0,4,11,12,13,44,45] [4] (fun(p:Nat)=>[(46,some (i64 p))]) (fun _=>[]) (fun p=>p<=b.pts.length/\∀j,j<p->dZ b.pts j=0) (fun p=>b.pts.length-p) 0 ⟨zero_le _,fun j h=>by omega⟩ ?_;rintro p ⟨hp,hpj⟩ K3 J3;refine gC (fun t47=>?_) (fun t47=>?_)
  ·have hpn:=aT t47;obtain⟨m,hm⟩:=aq hpn;have hmd:b.pts.getD p default=m:=aB hm;have hmm:=mem_of_getElem? hm;have hmdup:=mS Mk.name hm;have hmo:=hbo.pts m hmm;refine gi (au hm) ?_;refine gc (r4 m.name (hbo.names m hmm)) ?_;refine gC (fun t54=>?_) (fun t54=>?_)
   ·have h4:=cW t54;have e2:dZ b.pts p = 5:=by unfold dZ; rw [hmd,if_pos h4]
    have e3:dY bs k=5:=by rw[e1,d5 hpn hpj (by rw[e2];decide),e2]
    refine af ?_;rw[d5 hin hj (by rw[e3];decide),e3];rfl
   have h4:=c9 t54;refine gs (cQ (.tmp rfl) (.none _) (.some _ (.tmp rfl) oz) T171 rfl T175 rfl oz (by simp only[length_map];omega) rfl) ?_;refine ge rfl ?_;refine aJ [0,4,8,11,12,13,44,45,46] [4,8] (fun(q:Nat)=>[(59,some (.lst 7 ((b.pts.take p).map Mk.av))),(60,some (i64 p)),(61,some (i64 q))]) (fun _=>[]) (fun q=>q<=p/\(b.pts.take q).any (fun y=>dK y.name m.name)=false) (fun q=>p-q) 0 ⟨zero_le _,rfl⟩ ?_ (h1:=(.cons rfl (Sub.of (rZ 7 Mk.av b.pts p)) (.cons rfl (Sub.int (by simp;omega)) (.k .nil))));rintro q ⟨hq,hqd⟩ K4 J4;refine gC (fun t62=>?_) (fun t62=>?_)
   ·have hqn:=aT t62;obtain ⟨y,hy'⟩:∃ y,(b.pts.take p)[q]? = some y:=aq (by simp; omega);have hy:=(tY hy').1;refine gi (au hy') ?_;refine gC (fun t69=>?_) (fun t69=>?_)
    ·have h5:dK y.name m.name = true:=t69;have e2:dZ b.pts p = 6:=by unfold dZ; rw [hmd,if_neg (by rw [h4]; decide),if_pos (by rw [hmdup]; exact lh hy hqn h5)]
     have e3:dY bs k=6:=by rw[e1,d5 hpn hpj (by rw[e2];decide),e2]
     refine af ?_;rw[d5 hin hj (by rw[e3];decide),e3];rfl
    have h5:dK y.name m.name=false:=t69;refine ga aE ?_;exact aD J4 (q+1) ⟨hqn,km hy hqd h5⟩
   have hqn:=a5 hq t62;subst hqn;have hmnd:¬fX (b.pts.map Mk.name) q=true:=by rw[hmdup,hqd];decide
   refine gc (ua m.x hmo.x) ?_;refine bF (fun _=>(ua m.y hmo.y)) ?_;refine gC (fun t81=>?_) (fun t81=>?_)
   ·have h6:=oc t81;have e2:dZ b.pts q = 3:=by unfold dZ; rw [hmd,if_neg (by rw [h4]; decide),if_neg hmnd,if_neg (by rintro ⟨g1,g2⟩; rcases h6 with g | g; (rw [g1] at g; cases g); (rw [g2] at g; cases g))]
    have e3:dY bs k=3:=by rw[e1,d5 hpn hpj (by rw[e2];decide),e2]
    refine af ?_;rw[d5 hin hj (by rw[e3];decide),e3];rfl
   have h6:=nW t81;have e2:dZ b.pts q=0:=by unfold dZ;rw[hmd,if_neg (by rw[h4];decide),if_neg hmnd,if_pos h6]
   refine ga aE ?_;exact aD J3 (q+1) ⟨hpn,fun j h9=>by rcases lt_or_ge j q with g |g;exact hpj j g;(have:j=q:=by omega);subst this;exact e2⟩
  have hpn:=a5 hp t47;subst hpn;have e2:dY bs k=0:=e1.trans (mX hpj);refine ga aE ?_;exact aD J1 (k+1) ⟨hin,fun j h9=>by rcases lt_or_ge j k with g |g;exact hj j g;(have:j=k:=by omega);subst this;exact e2⟩
 have hin:=a5 hi t14;subst hin;refine af ?_;rw[mX hj];rfl
theorem MF(l:Li)(hl:l.ok)(j:Jt):FP 301 [l.av,j.av] (bh (d6 l j)):=by
 refine ah func301 ?_;refine gC (fun t15=>?_) (fun t15=>?_)
 ·have h1:=Ez t15;refine af ?_;unfold d6;rw[if_pos h1];rfl
 have h1:=B9 t15;refine gl ?_;refine gc (rj j.a l.bo.length) ?_;refine bP ?_;refine bF (fun _=>(rj j.b l.bo.length)) ?_;refine gC (fun t32=>?_) (fun t32=>?_)
 ·have h2:=oc t32;refine af ?_;unfold d6;rw[if_neg h1,if_pos h2];rfl
 have h2:=nW t32;have h2n:¬(bw j.a l.bo.length=false\/bw j.b l.bo.length=false):=by rw[h2.1,h2.2];simp
 obtain⟨A,hA,pA,mA,zA0⟩:=qD h2.1;obtain⟨B,hB,pB,mB,zB0⟩:=qD h2.2;refine gC (fun t38=>?_) (fun t38=>?_)
 ·have h3:=cD t38;refine af ?_;unfold d6;rw[if_neg h1,if_neg h2n,if_pos h3];rfl
 have h3:=dm t38;refine gi (au hB) ?_;refine gi (au hA) ?_;refine gl ?_;refine gc (rj j.point A.pts.length) ?_;refine bP ?_;refine bF (fun _=>(rj j.on B.pts.length)) ?_;refine gD ?_;refine gC (fun t66=>?_) (fun t66=>?_)
 ·have h4:=oc t66;refine af ?_;unfold d6;rw[if_neg h1,if_neg h2n,if_neg h3,pA,pB,if_pos h4];rfl
 have h4:=nW t66;have h4n:¬(bw j.point A.pts.length=false\/bw j.on B.pts.length=false):=by rw[h4.1,h4.2];simp
 refine gC (fun t70=>?_) (fun t70=>?_)
 ·have h5:=cD t70;refine gC (fun t73=>?_) (fun t73=>?_)
  ·have h6:=nO t73;refine af ?_;unfold d6;rw[if_neg h1,if_neg h2n,if_neg h3,pA,pB,if_neg h4n,if_pos h5,if_pos h6];rfl
  have h6:=ww t73;refine af ?_;unfold d6;rw[if_neg h1,if_neg h2n,if_neg h3,pA,pB,if_neg h4n,if_pos h5,if_neg (by rw[h6];simp)];rfl
 have h5:=dm t70;refine gl ?_;refine gc (rj j.to B.pts.length) ?_;refine gC (fun t80=>?_) (fun t80=>?_)
 ·have h6:=cW t80;refine af ?_;unfold d6;rw[if_neg h1,if_neg h2n,if_neg h3,pA,pB,if_neg h4n,if_neg h5,if_pos h6];rfl
 have h6:=c9 t80;obtain⟨m1,g1,d1,mm1,z1⟩:=tI h4.2;obtain⟨m2,g2,d2,mm2,z2⟩:=tI h6;have mo1:=(hl.bo B mB).pts m1 mm1;have mo2:=(hl.bo B mB).pts m2 mm2;refine gi (au g1) ?_;refine gi (au g2) ?_;refine gD ?_;refine gc (Hz m1.x m2.x mo1.x mo2.x) ?_;refine bF (fun _=>(Hz m1.y m2.y mo1.y mo2.y)) ?_;refine gC (fun t105=>?_) (fun t105=>?_)
 ·have h7:=Ge t105;refine af ?_;unfold d6;rw[if_neg h1,if_neg h2n,if_neg h3,pA,pB,if_neg h4n,if_neg h5,if_neg (by rw[h6];decide),d1,d2,if_pos h7];rfl
 have h7:=DY t105;refine af ?_;unfold d6;rw[if_neg h1,if_neg h2n,if_neg h3,pA,pB,if_neg h4n,if_neg h5,if_neg (by rw[h6];decide),d1,d2,if_neg h7];rfl
theorem QX(l:Li)(hl:l.ok):FP 206 [l.av] (bh (ep l)):=by
 have hlj:=hl.lj;refine ah func206 ?_;refine gl ?_;refine gC (fun t11=>?_) (fun t11=>?_)
 ·have h0:16<l.jo.length:=jg t11;refine af ?_;unfold ep;rw[if_pos h0];rfl
 have h0:l.jo.length<=16:=gN t11;have e0:ep l=eZ l.jo.length (fN l):=by unfold ep;rw[if_neg oz]
 refine gl ?_;refine aJ [1,14,15] [1] (fun(i:Nat)=>[(16,some (i64 i))]) (fun _=>[]) (fun i=>i<=l.jo.length/\∀j,j<i->fN l j=0) (fun i=>l.jo.length-i) 0 ⟨zero_le _,fun j h=>by omega⟩ ?_;rintro i ⟨hi,hj⟩ K1 J1;refine gC (fun t17=>?_) (fun t17=>?_)
 ·have hin:=aT t17;obtain⟨b,hb⟩:=aq hin;have hbd:l.jo.getD i default=b:=aB hb;have hbdup:=mS Jt.name hb;refine gi (au hb) ?_;refine gc (r4 b.name (hl.jnames b (mem_of_getElem? hb))) ?_;refine gC (fun t24=>?_) (fun t24=>?_)
  ·have h1:=cW t24;have e1:fN l i = 5:=by unfold fN; rw [hbd,if_pos h1]
   refine af ?_;rw[e0,d5 hin hj (by rw[e1];decide),e1];rfl
  have h1:=c9 t24;refine gs (cQ (.tmp rfl) (.none _) (.some _ (.tmp rfl) oz) T23 rfl T75 rfl oz (by simp only[length_map];omega) rfl) ?_;refine ge rfl ?_;refine aJ [1,3,4,14,15,16] [1,4] (fun(k:Nat)=>[(29,some (.lst 7 ((l.jo.take i).map Jt.av))),(30,some (i64 i)),(31,some (i64 k))]) (fun _=>[]) (fun k=>k<=i/\(l.jo.take k).any (fun y=>dK y.name b.name)=false) (fun k=>i-k) 0 ⟨zero_le _,rfl⟩ ?_ (h1:=(.cons rfl (Sub.of (rZ 7 Jt.av l.jo i)) (.cons rfl (Sub.int (by simp;omega)) (.k .nil))));rintro k ⟨hk,hd⟩ K2 J2;refine gC (fun t32=>?_) (fun t32=>?_)
  ·have hkn:=aT t32;obtain ⟨y,hy'⟩:∃ y,(l.jo.take i)[k]? = some y:=aq (by simp; omega);have hy:=(tY hy').1;refine gi (au hy') ?_;refine gC (fun t39=>?_) (fun t39=>?_)
   ·have h2:dK y.name b.name = true:=t39;have e1:fN l i = 6:=by unfold fN; rw [hbd,if_neg (by rw [h1]; decide),if_pos (by rw [hbdup]; exact lh hy hkn h2)]
    refine af ?_;rw[e0,d5 hin hj (by rw[e1];decide),e1];rfl
   have h2:dK y.name b.name=false:=t39;refine ga aE ?_;exact aD J2 (k+1) ⟨hkn,km hy hd h2⟩
  have hkn:=a5 hk t32;subst hkn;have hnd:¬fX (l.jo.map Jt.name) k=true:=by rw[hbdup,hd];decide
  have e1:fN l k=d6 l b:=by unfold fN;rw[hbd,if_neg (by rw[h1];decide),if_neg hnd]
  refine gc (MF l hl b) ?_;refine gC (fun t46=>?_) (fun t46=>?_)
  ·have h3:=cT t46;refine af ?_;rw[e0,d5 hin hj (by rw[e1];exact h3),e1]
  have h3:=da t46;refine ga aE ?_;exact aD J1 (k+1) ⟨hin,fun j h9=>by rcases lt_or_ge j k with g |g;exact hj j g;(have:j=k:=by omega);subst this;exact e1.trans h3⟩
 have hin:=a5 hi t17;subst hin;refine af ?_;rw[e0,mX hj];rfl
theorem JY(l:Li)(hl:l.ok):FP 207 [l.av] (bh (fM l)):=by
 have hld:=hl.ld;refine ah func207 ?_;refine gl ?_;refine gC (fun t12=>?_) (fun t12=>?_)
 ·have h0:2<l.dv.length:=jg t12;refine af ?_;unfold fM;rw[if_pos h0];rfl
 have h0:l.dv.length<=2:=gN t12;have e0:fM l=eZ l.dv.length (dP l):=by unfold fM;rw[if_neg oz]
 refine gl ?_;refine aJ [1,15,16] [1] (fun(i:Nat)=>[(17,some (i64 i))]) (fun _=>[]) (fun i=>i<=l.dv.length/\∀j,j<i->dP l j=0) (fun i=>l.dv.length-i) 0 ⟨zero_le _,fun j h=>by omega⟩ ?_;rintro i ⟨hi,hj⟩ K1 J1;refine gC (fun t18=>?_) (fun t18=>?_)
 ·have hin:=aT t18;obtain⟨b,hb⟩:=aq hin;have hbd:l.dv.getD i default=b:=aB hb;have hbdup:=mS Dr.name hb;refine gi (au hb) ?_;refine gc (r4 b.name (hl.dnames b (mem_of_getElem? hb))) ?_;refine gC (fun t25=>?_) (fun t25=>?_)
  ·have h1:=cW t25;have e1:dP l i = 5:=by unfold dP; rw [hbd,if_pos h1]
   refine af ?_;rw[e0,d5 hin hj (by rw[e1];decide),e1];rfl
  have h1:=c9 t25;refine gs (cQ (.tmp rfl) (.none _) (.some _ (.tmp rfl) oz) T24 rfl T185 rfl oz (by simp only[length_map];omega) rfl) ?_;refine ge rfl ?_;refine aJ [1,3,4,15,16,17] [1,4] (fun(k:Nat)=>[(30,some (.lst 2 ((l.dv.take i).map Dr.av))),(31,some (i64 i)),(32,some (i64 k))]) (fun _=>[]) (fun k=>k<=i/\(l.dv.take k).any (fun y=>dK y.name b.name)=false) (fun k=>i-k) 0 ⟨zero_le _,rfl⟩ ?_ (h1:=(.cons rfl (Sub.of (rZ 2 Dr.av l.dv i)) (.cons rfl (Sub.int (by simp;omega)) (.k .nil))));rintro k ⟨hk,hd⟩ K2 J2;refine gC (fun t33=>?_) (fun t33=>?_)
  ·have hkn:=aT t33;obtain ⟨y,hy'⟩:∃ y,(l.dv.take i)[k]? = some y:=aq (by simp; omega);have hy:=(tY hy').1;refine gi (au hy') ?_;refine gC (fun t40=>?_) (fun t40=>?_)
   ·have h2:dK y.name b.name = true:=t40;have e1:dP l i = 6:=by unfold dP; rw [hbd,if_neg (by rw [h1]; decide),if_pos (by rw [hbdup]; exact lh hy hkn h2)]
    refine af ?_;rw[e0,d5 hin hj (by rw[e1];decide),e1];rfl
   have h2:dK y.name b.name=false:=t40;refine ga aE ?_;exact aD J2 (k+1) ⟨hkn,km hy hd h2⟩
  have hkn:=a5 hk t33;subst hkn;have hnd:¬fX (l.dv.map Dr.name) k=true:=by rw[hbdup,hd];decide
  refine gl ?_;refine gc (rj b.body l.bo.length) ?_;refine gC (fun t49=>?_) (fun t49=>?_)
  ·have h3:=cW t49;have e1:dP l k = 9:=by unfold dP; rw [hbd,if_neg (by rw [h1]; decide),if_neg hnd,if_pos h3]
   refine af ?_;rw[e0,d5 hin hj (by rw[e1];decide),e1];rfl
  have h3:=c9 t49;refine gC (fun t53=>?_) (fun t53=>?_)
  ·have h4:=cD t53;have e1:dP l k = 7:=by unfold dP; rw [hbd,if_neg (by rw [h1]; decide),if_neg hnd,if_neg (by rw [h3]; decide),if_pos h4]
   refine af ?_;rw[e0,d5 hin hj (by rw[e1];decide),e1];rfl
  have h4:=dm t53;have e1:dP l k=if(l.dv.take k).any (fun d=>decide (d.body=b.body))=true then 6 else 0:=by unfold dP;rw[hbd,if_neg (by rw[h1];decide),if_neg hnd,if_neg (by rw[h3];decide),if_neg h4]
  refine gs (cQ (.tmp rfl) (.none _) (.some _ (.tmp rfl) oz) T24 rfl T185 rfl oz (by simp only[length_map];omega) rfl) ?_;refine ge rfl ?_;refine aJ [1,4,15,16,17] [1,4] (fun(q:Nat)=>[(58,some (.lst 2 ((l.dv.take k).map Dr.av))),(59,some (i64 k)),(60,some (i64 q))]) (fun _=>[]) (fun q=>q<=k/\(l.dv.take q).any (fun d=>decide (d.body=b.body))=false) (fun q=>k-q) 0 ⟨zero_le _,rfl⟩ ?_ (h1:=(.cons rfl (Sub.of (rZ 2 Dr.av l.dv k)) (.cons rfl (Sub.int (by simp;omega)) (.k .nil))));rintro q ⟨hq,hqd⟩ K3 J3;refine gC (fun t61=>?_) (fun t61=>?_)
  ·have hqn:=aT t61;obtain ⟨y,hy'⟩:∃ y,(l.dv.take k)[q]? = some y:=aq (by simp; omega);have hy:=(tY hy').1;refine gi (au hy') ?_;refine gC (fun t68=>?_) (fun t68=>?_)
   ·have h5:decide (y.body = b.body) = true:=decide_eq_true (cD t68);have e2:dP l k = 6:=by rw [e1,if_pos (lh hy hqn h5)]
    refine af ?_;rw[e0,d5 hin hj (by rw[e2];decide),e2];rfl
   have h5:decide (y.body=b.body)=false:=decide_eq_false (dm t68);refine ga aE ?_;exact aD J3 (q+1) ⟨hqn,km hy hqd h5⟩
  have hqn:=a5 hq t61;subst hqn;have e2:dP l q=0:=by rw[e1,hqd];rfl
  refine ga aE ?_;exact aD J1 (q+1) ⟨hin,fun j h9=>by rcases lt_or_ge j q with g |g;exact hj j g;(have:j=q:=by omega);subst this;exact e2⟩
 have hin:=a5 hi t18;subst hin;refine af ?_;rw[e0,mX hj];rfl
theorem xg(l:Li)(hl:l.ok):FP 104 [l.av] (bh (ax l)):=by
 have hlb:=hl.lb;refine ah func104 ?_;refine gc (r4 l.name hl.name) ?_;refine gC (fun t8=>?_) (fun t8=>?_)
 ·have h1:=cW t8;refine af ?_;unfold ax;rw[if_pos h1];rfl
 have h1:=c9 t8;refine gl ?_;refine gC (fun t13=>?_) (fun t13=>?_)
 ·have h2:=Fs t13;refine af ?_;unfold ax;rw[if_neg (by rw[h1];decide),if_pos h2];rfl
 have h2:=Gn t13;refine gl ?_;refine gC (fun t18=>?_) (fun t18=>?_)
 ·have h3:8<l.bo.length:=jg t18;refine af ?_;unfold ax;rw[if_neg (by rw[h1];decide),if_neg h2,if_pos h3];rfl
 have h3:l.bo.length<=8:=gN t18;have e0:ax l=if gG l≠0 then gG l else if ep l≠0 then ep l else fM l:=by unfold ax;rw[if_neg (by rw[h1];decide),if_neg h2,if_neg oz]
 refine gc (Kj l.bo hl.bo hlb) ?_;refine gC (fun t24=>?_) (fun t24=>?_)
 ·have h4:gG l≠0:=cT t24;refine af ?_;rw[e0,if_pos h4];rfl
 have h4:gG l=0:=da t24;refine gc (QX l hl) ?_;refine gC (fun t29=>?_) (fun t29=>?_)
 ·have h5:=cT t29;refine af ?_;rw[e0,if_neg (by rw[h4];simp),if_pos h5]
 have h5:=da t29;refine gc (JY l hl) ?_;refine af ?_;rw[e0,if_neg (by rw[h4];simp),if_neg (by rw[h5];simp)]
theorem BI(d:Nat)(hd:Nat.blt d 1000=true)(l:Li)(hl:l.bo.length<=1000)(b:Nat)(hb:b<l.bo.length) :
  Con prog 135 [l.av,i64 b] [] (.ms d 1 0 l.bo.length) [(d,some (.row 1 ((cB l.bo.length b).map bl)))]:=by
 refine gF func135 (fun k z h=>by cases h) ?_;refine gl ?_;refine gs (gO (.tmp rfl) T219 rfl T4 rfl rfl oz (by dsimp only;omega) rfl) ?_;refine gs (l9 (.tmp rfl) (.tmp rfl) T219 rfl T4 rfl oz oz rfl) ?_;refine gs (dw (.tmp rfl) rfl (by rw[getElem?_replicate,if_pos (by simp;omega)]) rfl (.const _) rfl rfl T4 rfl rfl) ?_ (3,0);refine gW (Wk.of (sl:=[(5,some (.ms 9 1 0 l.bo.length))]) (hp:=[(9,some (.row 1 ((cB l.bo.length b).map bl)))]) (.cons rfl (Sub.of (by rw[toNat_natCast])) .nil) (.cons rfl (BlkSub.of (by unfold cB;simp only[map_set,map_replicate,Nat.zero_add,toNat_natCast];rfl)) .nil)) ?_ (3,0);refine gW (Wk.rk (k:=9) (d:=900) rfl rfl) ?_;refine gR ?_;exact aw.own1 rfl hd rfl
theorem LW(l:Li)(hl:l.bo.length<=1000)(b:Nat)(hb:b<l.bo.length):FP 135 [l.av,i64 b] (.lst 1 ((cB l.bo.length b).map bl)):=by
 have h:=Con.freeze (by rw[length_map,gX];omega) (BI 0 rfl l hl b hb);rw[drop_zero,take_of_length_le (by rw[length_map,gX];exact le_refl _)]at h;exact h
theorem Rl(l:Li)(hl:l.ok)(b:Int):FP 333 [l.av,i64 b] (bl (lW l b)):=by
 have hld:=hl.ld;refine ah func333 ?_;refine gl ?_;refine aJ [1,8,9] [] (fun(i:Nat)=>[(10,some (i64 i))]) (fun _=>[]) (fun i=>i<=l.dv.length/\(l.dv.take i).any (fun d=>decide (d.body=b))=false) (fun i=>l.dv.length-i) 0 ⟨zero_le _,rfl⟩ ?_;rintro i ⟨hi,hj⟩ K1 J1;refine gC (fun t11=>?_) (fun t11=>?_)
 ·have hin:=aT t11;obtain⟨d,hd⟩:=aq hin;refine gi (au hd) ?_;refine gC (fun t17=>?_) (fun t17=>?_)
  ·have h1:d.body=b:=cD t17;refine af ?_;unfold lW;rw[List.any_eq_true.2 ⟨d,mem_of_getElem? hd,decide_eq_true h1⟩];rfl
  have h1:d.body≠b:=dm t17;refine ga aE ?_;exact aD J1 (i+1) ⟨hin,km hd hj (decide_eq_false h1)⟩
 have hin:=a5 hi t11;subst hin;rw[take_length]at hj;refine af ?_;unfold lW;rw[hj];rfl
theorem CM(l:Li)(hl:l.ok)(hli:ax l=0)(kind body:Int)(oth:List Bool)(ho:oth.length=l.bo.length):FP 245 [l.av,i64 kind,i64 body,.lst 1 (oth.map bl)] (i64 (jointI l kind body oth)):=by
 have hlj:=hl.lj;refine ah func245 ?_;refine gl ?_;refine aJ [1,2,3,12,13] [] (fun(i:Nat)=>[(14,some (i64 i))]) (fun _=>[]) (fun i=>i<=l.jo.length/\∀j,j<i->(!kR kind body oth (l.jo.getD j default))=true) (fun i=>l.jo.length-i) 0 ⟨zero_le _,fun j h=>by omega⟩ ?_;rintro i ⟨hi,hj⟩ K1 J1;refine gC (fun t15=>?_) (fun t15=>?_)
 ·have hin:=aT t15;obtain⟨j,hjt⟩:=aq hin;have hjd:l.jo.getD i default=j:=aB hjt;obtain⟨i1,i2,_⟩:=cZ hli hjt;have b1:=di i1;have b2:=di i2;obtain⟨va,hva⟩:∃v,oth[j.a.toNat]?=some v:=aq oz;obtain⟨vb,hvb⟩:∃v,oth[j.b.toNat]?=some v:=aq oz;have ea:kn oth j.a=va:=aB hva;have eb:kn oth j.b=vb:=aB hvb;refine gi (au hjt) ?_;refine mH (fun _=>(f9 (n:=j.b.toNat) oz hvb)) ?_;refine mH (fun _=>(f9 (n:=j.a.toNat) oz hva)) ?_;refine gC (fun t48=>?_) (fun t48=>?_)
  ·have h2 : kR kind body oth j = true := by rw [<- GK (va := va) (vb := vb) ea eb]; exact t48
   refine af ?_;unfold jointI;rw[gq hin hj (by rw[hjd,h2];rfl)];rfl
  have h2:kR kind body oth j=false:=by rw[<- GK (va:=va) (vb:=vb) ea eb];exact t48
  refine ga aE ?_;exact aD J1 (i+1) ⟨hin,fun k h9=>by rcases lt_or_ge k i with g |g;exact hj k g;(have:k=i:=by omega);subst this;rw[hjd,h2];rfl⟩
 have hin:=a5 hi t15;subst hin;refine af ?_;unfold jointI;rw[fC hj];rfl
theorem JW(l:Li)(hl:l.ok)(kw:List Bool)(b:Nat)(hb:b<kw.length):FP 246 [l.av,.lst 1 (kw.map bl),i64 b] (bl (freeB l kw b)):=by
 obtain⟨v,hv⟩:=aq hb;have ev:kn kw (b:Int)=v:=aB (by rw[toNat_natCast];exact hv);refine ah func246 ?_;refine gi (au hv) ?_;refine bF (fun _=>(Rl l hl b)) ?_;refine af ?_;unfold freeB;rw[ev];exact congrArg bl (iz _ _)
theorem td{l:Li}{kw:List Bool}(hl:l.ok)(hli:ax l=0)(kind body:Int)(hk:kw.length=l.bo.length) :
  Con prog 245 [l.av,i64 kind,i64 body,.ms 1000 1 0 kw.length] [(1000,some (.row 1 (kw.map bl)))] (i64 (jointI l kind body kw)) [(1000,some (.row 1 (kw.map bl)))]:=by
 refine Con.borrow (args:=[l.av,i64 kind,i64 body,.lst 1 (kw.map bl)]) 1000 1 (kw.map bl) rfl rfl rfl ?_ rfl (fun k' x h=>by cases h) (CM l hl hli kind body kw hk);intro j x' hj
 match j,hj with
 |0,hj=>cases hj;exact .inl rfl
 |1,hj=>cases hj;exact .inl rfl
 |2,hj=>cases hj;exact .inl rfl
 |3,hj=>cases hj;exact .inr ⟨0,kw.length,rfl,by simp,by rw[drop_zero,take_of_length_le (by simp)];rfl⟩
theorem Bj{l:Li}{kw:List Bool}(hl:l.ok)(b:Nat)(hb:b<kw.length) :
  Con prog 246 [l.av,.ms 1000 1 0 kw.length,i64 b] [(1000,some (.row 1 (kw.map bl)))] (bl (freeB l kw b)) [(1000,some (.row 1 (kw.map bl)))]:=by
 refine Con.borrow (args:=[l.av,.lst 1 (kw.map bl),i64 b]) 1000 1 (kw.map bl) rfl rfl rfl ?_ rfl (fun k' x h=>by cases h) (JW l hl kw b hb);intro j x' hj
 match j,hj with
 |0,hj=>cases hj;exact .inl rfl
 |1,hj=>cases hj;exact .inr ⟨0,kw.length,rfl,by simp,by rw[drop_zero,take_of_length_le (by simp)];rfl⟩
 |2,hj=>cases hj;exact .inl rfl
theorem Vs(l:Li)(hl:l.ok)(hli:ax l=0)(kw:List Bool)(hk:kw.length=l.bo.length):Con prog 136 [l.av,.ms 1000 1 0 kw.length] [(1000,some (.row 1 (kw.map bl)))] (.tup [((driverG l kw).getD default).av,bl (driverG l kw).isSome]) [(1000,some (.row 1 (kw.map bl)))]:=by
 have hld:=hl.ld;refine gF func136 (fun k z h=>bB h) ?_;refine gl ?_;refine aJ [2,4,10,11] [2,4,1000] (fun(i:Nat)=>[(1,some (.ms 1000 1 0 kw.length)),(12,some (i64 i))]) (fun _=>[]) (fun i=>i<=l.dv.length/\∀j,j<i->(!drHit l kw j)=true) (fun i=>l.dv.length-i) 0 ⟨zero_le _,fun j h=>by omega⟩ ?_;rintro i ⟨hi,hj⟩ K1 J1;refine gC (fun t13=>?_) (fun t13=>?_)
 ·have hin:=aT t13;obtain ⟨d,hd⟩:=aq hin;have hdd:l.dv.getD i default = d:=aB hd;have hb:=di (lI hli hd);obtain ⟨v,hv⟩:∃ v,kw[d.body.toNat]? = some v:=aq oz;have ev:kn kw d.body = v:=aB hv;refine gi (au hd) ?_;refine gs (l9 (.tmp rfl) (.tmp rfl) T219 rfl T4 rfl oz oz rfl) ?_;refine gs (dW (.tmp rfl) rfl (by rw [Nat.zero_add,getElem?_map,hv]; rfl) T4 rfl rfl rfl) ?_;refine gC (fun t21=>?_) (fun t21=>?_)
  ·have h2 : drHit l kw i = false := by unfold drHit; rw [hdd, ev, t21]; rfl
   refine ga aE ?_;exact aD J1 (i+1) ⟨hin,fun k h9=>by rcases lt_or_ge k i with g |g;exact hj k g;(have:k=i:=by omega);subst this;rw[h2];rfl⟩
  have hv0:v=false:=t21;refine gt (mG (td hl hli 0 d.body hk) (.cons (.tmp rfl) (.cons (.const _) (bp rfl rfl))) rfl rfl rfl) ?_;refine gC (fun t28=>?_) (fun t28=>?_)
  ·have h2 : drHit l kw i = true := by unfold drHit; rw [hdd, ev, hv0, decide_eq_true (EA t28)]; rfl
   have hg:driverG l kw=some ⟨0,[d.body],[jointI l 0 d.body kw],i⟩:=by unfold driverG;rw[gq hin hj (by rw[h2];rfl),<- hdd];rfl
   refine gR ?_;rw[hg];exact aw.keep (bc rfl)
  have h2:drHit l kw i=false:=by unfold drHit;rw[hdd,decide_eq_false (Fq t28),Bool.and_false]
  refine ga aE ?_;exact aD J1 (i+1) ⟨hin,fun k h9=>by rcases lt_or_ge k i with g |g;exact hj k g;(have:k=i:=by omega);subst this;rw[h2];rfl⟩
 have hin:=a5 hi t13;subst hin;have hg:driverG l kw=none:=by unfold driverG;rw[fC hj];rfl
 refine gR ?_;exact aw.sub (aw.keep (bc rfl)) (by rw[hg];exact Sub.tup (.cons qf (.cons (.refl _) .nil)))
theorem SY(l:Li)(hl:l.ok)(hli:ax l=0)(kw:List Bool)(hk:kw.length=l.bo.length):Con prog 137 [l.av,.ms 1000 1 0 kw.length] [(1000,some (.row 1 (kw.map bl)))] (.tup [((pairG l kw).getD default).av,bl (pairG l kw).isSome]) [(1000,some (.row 1 (kw.map bl)))]:=by
 have h8:=(cA hli).2.2.2.1;refine gF func137 (fun k z h=>bB h) ?_;refine gl ?_;refine aJ [2,4,12,13] [2,4,1000] (fun(i:Nat)=>[(1,some (.ms 1000 1 0 kw.length)),(14,some (i64 i))]) (fun _=>[]) (fun i=>i<=l.bo.length/\∀j,j<i->(prAt l kw j).isNone=true) (fun i=>l.bo.length-i) 0 ⟨zero_le _,fun j h=>by omega⟩ ?_;rintro i ⟨hi,hj⟩ K1 J1;refine gC (fun t15=>?_) (fun t15=>?_)
 ·have hin:=aT t15;refine ga aE ?_;refine aJ [2,4,6,12,13,14] [2,4,1000] (fun (k:Nat)=>[(1,some (.ms 1000 1 0 kw.length)),(7,some (i64 (i + 1 + k:Nat)))]) (fun _=>[]) (fun k=>i + 1 + k <= l.bo.length /\ ∀ j,j < k -> (!prHit l kw i (i + 1 + j)) = true) (fun k=>l.bo.length - k) 0 ⟨by omega,fun j h=>by omega⟩ ?_;rintro k ⟨hkl,hkj⟩ K2 J2;refine gl ?_;refine gC (fun t23=>?_) (fun t23=>?_)
  ·have hkn:i+1+k<l.bo.length:=aT t23;refine gt (mG (Bj hl i oz) (aG rfl rfl rfl) rfl rfl rfl) ?_;refine gu (ef rfl rfl rfl (fun h=>mG (Bj hl (i+1+k) oz) (.cons (.opt rfl (o1 h)) (.cons (.opt rfl (o1 h)) (.cons (.opt rfl (o1 h)) .nil))) rfl rfl rfl)) ?_;refine gC (fun t37=>?_) (fun t37=>?_)
   ·have h2 : prHit l kw i (i + 1 + k) = false := by unfold prHit; rw [show (freeB l kw i && freeB l kw ((i + 1 + k : Nat) : Int)) = false from by rcases oc t37 with g | g; (rw [g]; rfl); (rw [g, Bool.and_false])]; rfl
    refine ga aE ?_;exact aD J2 (k+1) ⟨by omega,fun j h9=>by rcases lt_or_ge j k with g |g;exact hkj j g;(have:j=k:=by omega);subst this;rw[h2];rfl⟩
   have hff:=nW t37;refine gt (mG (td hl hli 0 i hk) (.cons (.tmp rfl) (.cons (.const _) (bp rfl rfl))) rfl rfl rfl) ?_;refine gt (mG (td hl hli 0 (i+1+k:Nat) hk) (.cons (.tmp rfl) (.cons (.const _) (bp rfl rfl))) rfl rfl rfl) ?_;refine gc (LW l oz (i+1+k) hkn) ?_;refine gc (CM l hl hli 0 i (cB l.bo.length ((i+1+k:Nat):Int)) (gX _ _)) ?_;refine gD ?_;refine gC (fun t61=>?_) (fun t61=>?_)
   ·have h2 : prHit l kw i (i + 1 + k) = true := by unfold prHit; rw [hff.1, hff.2]; exact (wO.symm.trans t61)
    have hat:prAt l kw i=some (i+1+k):=by unfold prAt;rw[gq oz hkj (by rw[h2];rfl),Option.map_some];congr 1;omega
    have hg:pairG l kw=some (prG l kw i (i+1+k)):=by unfold pairG;rw[gq hin hj (by rw[hat];rfl),Option.map_some,hat]
    refine gR ?_;rw[hg];exact aw.keep (bc rfl)
   have h2:prHit l kw i (i+1+k)=false:=by unfold prHit;rw[show(decide (0<=jointI l 0 i kw)&&decide (0<=jointI l 0 ((i+1+k:Nat):Int) kw)&&decide (0<=jointI l 0 i (cB l.bo.length ((i+1+k:Nat):Int))))=false from wO.symm.trans t61,Bool.and_false]
   refine ga aE ?_;exact aD J2 (k+1) ⟨by omega,fun j h9=>by rcases lt_or_ge j k with g |g;exact hkj j g;(have:j=k:=by omega);subst this;rw[h2];rfl⟩
  have hkn:¬i+1+k<l.bo.length:=fun h=>by have h1:=tK t23;omega
  have hat:prAt l kw i=none:=by unfold prAt;rw[show l.bo.length-(i+1)=k by omega,fC hkj];rfl
  refine ga aE ?_;exact aD J1 (i+1) ⟨hin,fun j h9=>by rcases lt_or_ge j i with g |g;exact hj j g;(have:j=i:=by omega);subst this;rw[hat];rfl⟩
 have hin:=a5 hi t15;have hg:pairG l kw=none:=by unfold pairG;rw[<- hin,fC hj];rfl
 refine gR ?_;exact aw.sub (aw.keep (bc rfl)) (by rw[hg];exact Sub.tup (.cons qf (.cons (.refl _) .nil)))
theorem Qd(l:Li)(hl:l.ok)(hli:ax l=0)(kw:List Bool)(hk:kw.length=l.bo.length):Con prog 138 [l.av,.ms 1000 1 0 kw.length] [(1000,some (.row 1 (kw.map bl)))] (.tup [((singleG l kw).getD default).av,bl (singleG l kw).isSome]) [(1000,some (.row 1 (kw.map bl)))]:=by
 have h8:=(cA hli).2.2.2.1;refine gF func138 (fun k z h=>bB h) ?_;refine gl ?_;refine aJ [2,4,11,12] [2,4,1000] (fun(i:Nat)=>[(1,some (.ms 1000 1 0 kw.length)),(13,some (i64 i))]) (fun _=>[]) (fun i=>i<=l.bo.length/\∀j,j<i->(!sgHit l kw j)=true) (fun i=>l.bo.length-i) 0 ⟨zero_le _,fun j h=>by omega⟩ ?_;rintro i ⟨hi,hj⟩ K1 J1;refine gC (fun t14=>?_) (fun t14=>?_)
 ·have hin:=aT t14;refine gt (mG (Bj hl i oz) (aG rfl rfl rfl) rfl rfl rfl) ?_;refine gC (fun t20=>?_) (fun t20=>?_)
  ·have h2 : sgHit l kw i = false := by unfold sgHit; rw [cW t20]; rfl
   refine ga aE ?_;exact aD J1 (i+1) ⟨hin,fun k h9=>by rcases lt_or_ge k i with g |g;exact hj k g;(have:k=i:=by omega);subst this;rw[h2];rfl⟩
  have hf:=c9 t20;refine gt (mG (td hl hli 0 i hk) (.cons (.tmp rfl) (.cons (.const _) (bp rfl rfl))) rfl rfl rfl) ?_;refine gt (mG (td hl hli 1 i hk) (.cons (.tmp rfl) (.cons (.const _) (bp rfl rfl))) rfl rfl rfl) ?_;refine gD ?_;refine gC (fun t34=>?_) (fun t34=>?_)
  ·have h2 : sgHit l kw i = false := by unfold sgHit; rw [IX t34, Bool.and_false]
   refine ga aE ?_;exact aD J1 (i+1) ⟨hin,fun k h9=>by rcases lt_or_ge k i with g |g;exact hj k g;(have:k=i:=by omega);subst this;rw[h2];rfl⟩
  obtain⟨p0,s0⟩:=FT t34;have s1:=(nB (l:=l) (kind:=1) (body:=i) (oth:=kw)).2;have h2:sgHit l kw i=true:=by unfold sgHit;rw[hf,decide_eq_true p0,decide_eq_true s0];rfl
  obtain⟨j,hjt⟩:∃j,l.jo[(jointI l 1 i kw).toNat]?=some j:=aq oz;have hjd:l.jo.getD (jointI l 1 i kw).toNat default=j:=aB hjt;have hg:singleG l kw=some (sgG l kw i):=by unfold singleG;rw[gq hin hj (by rw[h2];rfl),Option.map_some]
  refine gi (f9 (n:=(jointI l 1 i kw).toNat) oz hjt) ?_;refine gC (fun t42=>?_) (fun t42=>?_)
  ·have hji:j.a=i:=cD t42;refine gR ?_;rw[hg];unfold sgG;rw[hjd];simp only[Option.getD_some,if_pos hji]
   exact aw.keep (bc rfl)
  have hji:j.a≠i:=dm t42;refine gR ?_;rw[hg];unfold sgG;rw[hjd];simp only[Option.getD_some,if_neg hji]
  exact aw.keep (bc rfl)
 have hin:=a5 hi t14;have hg:singleG l kw=none:=by unfold singleG;rw[<- hin,fC hj];rfl
 refine gR ?_;exact aw.sub (aw.keep (bc rfl)) (by rw[hg];exact Sub.tup (.cons qf (.cons (.refl _) .nil)))
theorem Bn{k:List Bool}{bs:List Int}{q:Nat}{x:Int}(h:bs[q]?=some x):bt k (bs.drop q)=bt (k.set x.toNat true) (bs.drop (q+1)):=by
 have hi:=(List.getElem?_eq_some_iff.1 h).1;rw[List.drop_eq_getElem_cons hi,(List.getElem?_eq_some_iff.1 h).2];rfl
theorem OM{l:Li}{n:Nat}{kw:List Bool}{out:List Gr}{g:Gr}(h:nextG l kw=some g):findFrom l (n+1) kw out=findFrom l n (bt kw g.bo) (out++[g]):=by
 show(match nextG l kw with |none=>_ |some g=>_)=_;rw[h]
theorem Uh{l:Li}{n:Nat}{kw:List Bool}{out:List Gr}(h:nextG l kw=none):findFrom l n kw out=(kw,out):=by
 cases n with
 |zero=>rfl
 |succ n=>show(match nextG l kw with |none=>_ |some g=>_)=_;rw[h]
theorem BJ{α:Type}{o:Option α}(h:o.isSome=false):o=none:=by cases o <;> simp_all
theorem FO{α:Type}{a b:Option α}(h:a.isSome=true):a=a.or b:=by cases a <;> simp_all
theorem Sa{l:Li}{kw:List Bool}(h:(driverG l kw).or (pairG l kw)=none):nextG l kw=singleG l kw:=by
 unfold nextG;rw[<- Option.or_assoc,h];rfl
theorem TX{l:Li}{kw:List Bool}(h:((driverG l kw).or (pairG l kw)).isSome=true):nextG l kw=(driverG l kw).or (pairG l kw):=by
 unfold nextG;rw[<- Option.or_assoc];exact(FO h).symm
theorem Cq(l:Li)(hl:l.ok)(hli:ax l=0):FP 59 [l.av] (.lst 4 ((findG l).map Gr.av)):=by
 have h8:=(cA hli).2.2.2.1;have h0:=(cA hli).2.2.2.2;refine ah func59 ?_;refine gt (aA (BI 900 rfl l oz 0 oz) (.cons (.tmp rfl) (.cons (.const _) .nil)) aC rfl rfl) ?_;refine gl ?_;refine gW (Wk.virt 901 4 rfl) ?_;refine iR [1,13] [1] (fun(i:Nat)(kw:List Bool)(out:List Gr)=>[(3,some (.ms 900 1 0 kw.length)),(4,some (.ms 901 4 0 out.length)),(14,some (i64 i))]) (fun _ kw out=>[(900,some (.row 1 (kw.map bl))),(901,some (.row 4 (out.map Gr.av)))]) (fun i kw out=>i<=l.bo.length/\kw.length=l.bo.length/\out.length<=i/\findFrom l (l.bo.length-i) kw out=findFrom l l.bo.length (cB l.bo.length 0) []) (fun i _ _=>l.bo.length-i) 0 (cB l.bo.length 0) ([]) ⟨zero_le _,gX _ _,le_refl _,rfl⟩ ?_ (h1:=(.cons rfl (Sub.of (by rw[gX])) (.k (.k .nil))))
 rintro i kw out ⟨hi,hk,hol,hff⟩ K1 J1;refine gC (fun t15=>?_) (fun t15=>?_) (st2:=(18,0))
 ·have hin:=aT t15;have hd1:=Con.rekey1 900 rfl rfl rfl (Vs l hl hli kw hk);have hp1:=Con.rekey1 900 rfl rfl rfl (SY l hl hli kw hk);have hs1:=Con.rekey1 900 rfl rfl rfl (Qd l hl hli kw hk);refine gt (aA hd1 (bp rfl rfl) aC rfl rfl) ?_;refine yB [1,5,13,14] [1,900,901] (fun(o:Option Gr)=>[(3,some (.ms 900 1 0 kw.length)),(4,some (.ms 901 4 0 out.length)),(6,some (bl o.isSome))]) (fun o=>[(5,some (.box (o.getD default).av.cells))]) (fun o=>o=(driverG l kw).or (pairG l kw)) ?_ ?_
  ·intro K2 J2;refine gC (fun t23=>?_) (fun t23=>?_)
   ·refine gt (aA hp1 (bp rfl rfl) aC rfl rfl) ?_;exact rh J2 (pairG l kw) (by rw[BJ (cW t23)];rfl)
   exact rh J2 (driverG l kw) (FO (c9 t23))
  rintro o ho;refine yB [1,5,13,14] [1,900,901] (fun(og:Option Gr)=>[(3,some (.ms 900 1 0 kw.length)),(4,some (.ms 901 4 0 out.length)),(6,some (bl og.isSome))]) (fun og=>[(5,some (.box (og.getD default).av.cells))]) (fun og=>og=nextG l kw) ?_ ?_
  ·intro K3 J3;refine gC (fun t31=>?_) (fun t31=>?_)
   ·refine gt (aA hs1 (bp rfl rfl) aC rfl rfl) ?_;exact rh J3 (singleG l kw) (by have:=BJ (cW t31);rw[ho]at this;exact(Sa this).symm)
   exact rh J3 o (by rw[ho];exact(TX (by rw[<- ho];exact c9 t31)).symm)
  rintro og hog;refine gC (fun t39=>?_) (fun t39=>?_) (st1:=(18,0))
  ·have hn : nextG l kw = none := by rw [<- hog]; exact BJ (cW t39)
   have hfin:findG l=out:=by unfold findG;rw[<- hff,Uh hn]
   refine gW ((Wk.freeze (k:=901) rfl).trans<|Wk.of (sl:=[(4,some (.lst 4 ((findG l).map Gr.av)))]) (hp:=[]) (.cons rfl (Sub.of (by rw[hfin,bI (by rw[length_map])])) .nil) .nil) ?_;refine af ?_;rfl
  obtain⟨g,hg⟩:∃g,og=some g:=Option.isSome_iff_exists.1 (c9 t39);have hng:nextG l kw=some g:=by rw[<- hog,hg]
  have hgo:=wK hli hng;subst hg;refine gs (bR (.tmp rfl) rfl (by rw[length_map]) (.tmp rfl) T32 rfl T53 rfl rfl (by dsimp only;simp only[length_cons,length_nil];omega) rfl rfl) ?_ (12,0);refine gW (Wk.of (sl:=[(1,some (.ptr 1 0)),(3,some (.ms 900 1 0 kw.length)),(4,some (.ms 43 4 0 (out++[g]).length)),(5,some (.ptr 5 0)),(13,some (i64 l.bo.length)),(14,some (i64 i))]) (hp:=[(1,some (.box l.av.cells)),(5,some (.box g.av.cells)),(900,some (.row 1 (kw.map bl))),(43,some (.row 4 ((out++[g]).map Gr.av)))]) (.k (.k (.cons rfl (Sub.of (by rw[length_append];rfl)) (.k (.k (.k .nil)))))) (.k (.k (.k (.cons rfl (BlkSub.of (by rw[map_append];rfl)) .nil))))) ?_ (12,0)
  refine gW (Wk.rk (k:=43) (d:=901) rfl rfl) ?_;refine gl ?_;refine gw [1,13,14,45,46] [1,901] (fun(q:Nat)(kk:List Bool)=>[(3,some (.ms 900 1 0 kk.length)),(4,some (.ms 901 4 0 (out++[g]).length)),(47,some (i64 q))]) (fun _ kk=>[(900,some (.row 1 (kk.map bl)))]) (fun q kk=>q<=g.bo.length/\kk.length=l.bo.length/\bt kk (g.bo.drop q)=bt kw g.bo) (fun q _=>g.bo.length-q) 0 kw ⟨zero_le _,hk,rfl⟩ ?_;rintro q kk ⟨hq,hkk,hmk⟩ K4 J4;refine gC (fun t48=>?_) (fun t48=>?_)
  ·have hqn:=aT t48;obtain⟨x,hx⟩:=aq hqn;have hxb:=hgo.b x (mem_of_getElem? hx);obtain⟨v,hv⟩:∃v,kk[x.toNat]?=some v:=aq oz;refine gi (au hx) ?_;refine gs (l9 (.tmp rfl) (.tmp rfl) T219 rfl T4 rfl oz oz rfl) ?_;refine gs (dw (.tmp rfl) rfl (by rw[Nat.zero_add,getElem?_map,hv];rfl) rfl (.const _) rfl rfl T4 rfl rfl) ?_;refine ga (GF (by have:=hgo.lb;unfold aV;omega)) ?_;exact fQ J4 (q+1) (kk.set x.toNat true) ⟨hqn,by rw[length_set];exact hkk,by rw[<- Bn hx];exact hmk⟩ (hw:=Wk.of (.cons rfl (Sub.of (by rw[length_set])) (.k (.k (.k (.k (.k (.k (.k .nil)))))))) (.cons rfl (BlkSub.of (by rw[map_set,Nat.zero_add];rfl)) (.k (.k .nil))))
  have hqn:=a5 hq t48;have hmk2:kk=bt kw g.bo:=by rw[hqn,List.drop_length]at hmk;exact hmk
  refine ga aE ?_;exact gy J1 (i+1) kk (out++[g]) ⟨hin,hkk,by rw[length_append];simp only[length_cons,length_nil];omega,by rw[hmk2,<- OM hng,<- hff];congr 1;omega⟩
 have hin:=a5 hi t15;have hfin:findG l=out:=by unfold findG;rw[<- hff,show l.bo.length-i=0 by omega];rfl
 refine gW ((Wk.freeze (k:=901) rfl).trans<|Wk.of (sl:=[(4,some (.lst 4 ((findG l).map Gr.av)))]) (hp:=[]) (.cons rfl (Sub.of (by rw[hfin,bI (by rw[length_map])])) .nil) .nil) ?_;refine af ?_;rfl
end Go.Lw
