/- DyadComplete: for anything drawn and any group the law returns true and leaves its arguments as they were. No other condition. Part 5 of 8: what the later parts need -/
import Derived.Test.YtpdiojikejnehaaGreatYd
set_option linter.unusedVariables false
open List (mem_of_getElem? mem_append map_cons mem_cons length_cons length_nil getD_eq_getElem?_getD all_eq_true getElem?_map map_append length_take take_of_length_le drop_zero take_length not_mem_nil length_map mem_of_mem_take map_take all_append length_replicate map_replicate map_set)
open Nat (eq_of_beq_eq_true le_refl lt_or_ge le_trans zero_le)
open Option (map_eq_some_iff)
open Bool (and_eq_true)
open Int (toNat_natCast natAbs_natCast)
open Go.Proofs.Tryz
namespace Go.Lw
open Go.Proofs
theorem D0(m:List Nat)(hm:Ws m)(hl:m.length<=fx):FP 326 [ws m] (bl (!decide (m=[])&&(⟨false,m⟩:Wh).valid)):=by
 refine aj func326 ?_;refine gl ?_;refine cO ?_;refine oa (fun h=>(jH (by simp[ac]at h;omega) (by unfold fx at hl;unfold a9;exact le_trans hl oz))) ?_;refine jw (fun h=>(cz (i:=m.length-1) (by simp[ac]at h;omega))) ?_;refine af ?_
 by_cases h:m=[]
 ·subst h;rfl
 ·have h1:0 < m.length:=List.length_pos_iff.2 h;have h2:ac .gtr (m.length:Int) 0 = true:=by simp [ac,h1]
  simp only[bl,h,decide_false,Bool.not_false,Bool.true_and,Wh.valid,List.getLast?_eq_getElem?,jM (show m.length-1<m.length by omega),ac];congr 2;generalize am m _=x;rw[Bool.eq_iff_iff];simp[h1]
theorem ye:FP 189 [] (zA 1):=by
 refine aj func189 ?_;refine gc (Dd 1 oz) ?_;refine af ?_
 first |rfl |(simp;done)
theorem om(r:Rt)(h:r.ok):FP 236 [r.av] (bl r.valid):=by
 have hr:=h;have hn:=h.n0;have hd:=h.d0;have hl1:r.num.length<=137438953472:=h.2.2.1;have hl2:r.den.length<=137438953472:=h.2.2.2;refine aj func236 ?_;refine gl ?_;refine cO ?_;refine gC (fun t12=>?_) (fun t12=>?_)
 ·have h0 : r.num = [] /\ r.den = [] := by simpa [ac] using t12
  refine af ?_;unfold Rt.valid;rw[if_pos h0];rfl
 have h0:¬(r.num=[]/\r.den=[]):=by
  have:=t12;simp[ac]at this;exact fun h=>this h.1 h.2
 refine gc (D0 r.num hr.1 hr.2.2.1) ?_;refine bT (fun _=>(D0 r.den hr.2.1 hr.2.2.2)) ?_;refine bT (fun _=>(FL r.n0 r.d0 hn hd (by show r.num.length+r.den.length<_;unfold aD;omega))) ?_;refine bT (fun _=>ye) ?_;refine bT (fun _=>(JC (Rt.gcd_zs hr) w6)) ?_;refine af ?_;exact congrArg bl (OA h0).symm
theorem nE(r:Rt)(h:r.ok):FP 220 [r.av] (.tup [zA r.q.num,zA r.q.den]):=by
 have hl1:r.num.length<=137438953472:=h.2.2.1;have hl2:r.den.length<=137438953472:=h.2.2.2;refine aj func220 ?_;refine gc (om r h) ?_;refine cO ?_;refine gC (fun t12=>?_) (fun t12=>?_)
 ·have h0:¬(r.valid=true/\r.num≠[]):=by
   have:=t12;intro h';simp[ac,h'.1,h'.2]at this
  refine gc ye ?_;refine gR ?_;exact ef (by rw[Rt.zero h0];exact Sub.tup (.cons Ie (.cons (.refl _) .nil)))
 have h0:r.valid=true/\r.num≠[]:=by
  have:=t12;cases hv:r.valid
  ·rw[hv]at this;cases this
  ·rw[hv]at this;exact⟨rfl,by simpa[ac]using this⟩
 obtain⟨e1,e2,e3,e4,e5,e6⟩:=Rt.parts h h0.1 h0.2;refine gD ?_;refine bF ?_;rw[e1,e2];exact Dv e3 e4 e5
theorem tg{n d:Int}(hn:Zs n)(hd:Zs d)(h0:d≠0):FP 187 [zA n,zA d] (qA (Rat.divInt n d)):=by
 refine aj func187 ?_;refine gc (uC hn) ?_;refine gC (fun t14=>?_) (fun t14=>?_)
 ·have e0 : n=0 := Int.sign_eq_zero_iff_zero.1 (by simpa[ac]using t14);refine gR ?_;exact iF (by rw[e0,Rat.zero_divInt];exact jz)
 have e0:n≠0:=fun h=>by rw[h]at t14;cases t14
 refine gc (uC hd) ?_;refine Ax [2,3,4] [4] (fun(n1 d1:Int)=>[]) (fun n1 d1=>[(2,some (.box (zA n1).cells)),(3,some (.box (zA d1).cells))]) (fun n1 d1=>0<d1/\n1≠0/\Zs n1/\Zs d1/\Rat.divInt n1 d1=Rat.divInt n d) ?_ ?_
 ·intro K1 J1;refine gC (fun t18=>?_) (fun t18=>?_)
  ·have e1 : d<0 := Int.sign_eq_neg_one_iff_neg.1 (by have := Int.sign_trichotomy d;have h9 : d.sign<0 := (by simpa[ac]using t18);omega);refine gc (z4 hn) ?_;refine gc (z4 hd) ?_;refine gD ?_;exact qg J1 (-n) (-d) ⟨by omega,by omega,hn.neg,hd.neg,Gc n d⟩
  have e1:0<d:=by
   have h9:0<=d.sign:=by simpa[ac]using t18
   have:=Int.sign_nonneg_iff.1 h9;omega
  exact qg J1 n d ⟨e1,e0,hn,hd,rfl⟩
 rintro n1 d1 ⟨f1,f2,f3,f4,f5⟩;have g2:Zs (Int.gcd n1 d1:Int):=f3.of_le (by rw[natAbs_natCast];exact Nat.le_of_dvd oz (Int.gcd_dvd_natAbs_left _ _));have g3:(Int.gcd n1 d1:Int)≠0:=by have:=Int.gcd_pos_of_ne_zero_left d1 f2;omega
 refine gc (OF f3 f4) ?_;refine gc (Ep f3 g2 g3) ?_;refine gc (Ep f4 g2 g3) ?_;refine af ?_;rw[<- f5,<- Kq f1 f2];rfl
theorem Vn{n d:Int}(hn:Zs n)(hd:Zs d):FP 338 [zA n,zA d] (.tup [qA (Rat.divInt n d),i64 (if d=0 then 8 else 0)]):=by
 refine aj func338 ?_;refine gc (uC hd) ?_;refine gC (fun t8=>?_) (fun t8=>?_)
 ·have h0 : d=0 := Int.sign_eq_zero_iff_zero.1 (by simpa[ac]using t8);refine gR ?_;exact ef (by rw[if_pos h0,h0,Rat.divInt_zero];exact Sub.tup (.cons jz (.cons (.refl _) .nil)))
 have h0:d≠0:=fun h=>by rw[h]at t8;cases t8
 refine gc (tg hn hd h0) ?_;refine bF ?_;rw[if_neg h0];rfl
theorem qL(n:Int)(h:-9223372036854775808<=n/\n<=9223372036854775807):FP 88 [i64 n] (qA n):=by
 have hz:Zs n:=⟨2,by omega,by unfold Lz;simp only[Nat.reducePow];omega⟩
 refine aj func88 ?_;refine gc (Dd n h) ?_;refine gc ye ?_;refine gc (tg hz w6 oz) ?_;refine af ?_;exact congrArg qA (Rat.num_divInt_den (n:Rat))
theorem EL(a:Rt)(ha:a.ok):FP 222 [a.av] (qA (-a.q)):=by
 have za:=ha.qs;refine aj func222 ?_;refine gc (nE a ha) ?_;refine gc (z4 za.num) ?_;refine gc (tg za.num.neg za.den (by have:=a.q.den_nz;omega)) ?_;refine gD ?_;refine af ?_;rw[C7];rfl
theorem v6(a:Rt)(ha:a.ok):FP 107 [a.av] (i64 (bN a.q)):=by
 refine aj func107 ?_;refine gc (nE a ha) ?_;refine gc (uC ha.qs.num) ?_;refine af ?_;rw[G9]
theorem vH(a b:Rt)(ha:a.ok)(hb:b.ok):FP 139 [a.av,b.av] (qA (a.q+b.q)):=by
 have za:=ha.qs;have zb:=hb.qs;have m1:=za.mul zb;have m2:=zb.mul za;refine aj func139 ?_;refine gc (nE a ha) ?_;refine gc (nE b hb) ?_;refine gc (ot za.num zb.den) ?_;refine gc (ot zb.num za.den) ?_;refine gc (PW m1.1 m2.1) ?_;refine gc (ot za.den zb.den) ?_;refine gc (tg (za.cross zb) m1.2.2.1 (Int.mul_ne_zero (by have:=a.q.den_nz;omega) (by have:=b.q.den_nz;omega))) ?_;refine gD ?_;refine af ?_;rw[A0];rfl
theorem Cc(a b:Rt)(ha:a.ok)(hb:b.ok):FP 108 [a.av,b.av] (qA (a.q-b.q)):=by
 refine aj func108 ?_;refine gc (EL b hb) ?_;refine gc (vH a (rt (-b.q)) ha hb.qs.neg.ok) ?_;refine gD ?_;refine af ?_;rw[bP,<- Rat.sub_eq_add_neg];rfl
theorem EB(a b:Rt)(ha:a.ok)(hb:b.ok):FP 140 [a.av,b.av] (qA (a.q*b.q)):=by
 have za:=ha.qs;have zb:=hb.qs;have m1:=za.mul zb;refine aj func140 ?_;refine gc (nE a ha) ?_;refine gc (nE b hb) ?_;refine gc (ot za.num zb.num) ?_;refine gc (ot za.den zb.den) ?_;refine gc (tg m1.2.1 m1.2.2.1 (Int.mul_ne_zero (by have:=a.q.den_nz;omega) (by have:=b.q.den_nz;omega))) ?_;refine gD ?_;refine af ?_;rw[x3];rfl
theorem Tm(a b:Rt)(ha:a.ok)(hb:b.ok):FP 249 [a.av,b.av] (.tup [qA (a.q/b.q),i64 (if b.q=0 then 8 else 0)]):=by
 have za:=ha.qs;have zb:=hb.qs;have m1:=za.mul zb;refine aj func249 ?_;refine gc (nE a ha) ?_;refine gc (nE b hb) ?_;refine gc (ot za.num zb.den) ?_;refine gc (ot za.den zb.num) ?_;refine gc (Vn m1.1 m1.2.2.2) ?_;refine gD ?_;refine bF ?_
 have e1:((a.q.den:Int)*b.q.num=0)=(b.q=0):=by
  apply propext;rw[<- Rat.num_eq_zero,Int.mul_eq_zero];exact⟨fun h=>h.resolve_left (by have:=a.q.den_nz;omega),.inr⟩
 simp only[An,e1];rfl
theorem BS(a b:Rt)(ha:a.ok)(hb:b.ok)(hs:Qs (a.q-b.q)):FP 38 [a.av,b.av] (i64 (bN (a.q-b.q))):=by
 refine aj func38 ?_;refine gc (Cc a b ha hb) ?_;refine gc (v6 (rt (a.q-b.q)) hs.ok) ?_;refine af ?_;rw[bP]
theorem r7{α:Type}(f:α->AV)(l:List α)(hl:l.length<=281474976710656):FP 318 [.lst 3 (l.map f)] (i64 (cH l.length)):=by
 refine aj func318 ?_;refine a5 [0] [] (fun(k:Nat)=>[(3,some (i64 k))]) (fun _=>[]) (fun k=>k<=48/\∀j,j<k->2^j<l.length) (fun k=>48-k) 0 ⟨by omega,fun j h=>by omega⟩ ?_;rintro k ⟨hk,hj⟩ K1 J1;refine gs (gG (.const _) (.tmp rfl) oz (mX oz) rfl) ?_;refine gl ?_;refine gC (fun t8=>?_) (fun t8=>?_)
 ·have h1 : 2 ^ k < l.length := by have := t8; simp only [ac, decide_eq_true_eq] at this; omega
  have h2:k<48:=by
   rcases lt_or_ge k 48 with h |h
   ·exact h
   ·have:2 ^ 48 <= 2 ^ k:=bY h;have:(2:Nat) ^ 48 = 281474976710656:=by decide
    omega
  refine ga (c9 oz) ?_;exact aT J1 (k+1) ⟨by omega,fun j h=>by rcases lt_or_ge j k with h3 |h3;exact hj j h3;(have:j=k:=by omega);subst this;exact h1⟩
 have h1:l.length<=2^k:=by have:=t8;simp only[ac,decide_eq_false_iff_not]at this;omega
 have h2:=Hu hj h1;refine gs (gG (.const _) (.tmp rfl) oz (mX oz) rfl) ?_;refine gl ?_;refine gC (fun t15=>?_) (fun t15=>?_)
 ·have h3 : 2 ^ k ≠ l.length := by have := t15; simp only [ac, bne_iff_ne, ne_eq] at this; omega
  refine af ?_;unfold cH;rw[h2,if_neg h3];rfl
 have h3:2^k=l.length:=by have:=t15;simp only[ac,bne_eq_false_iff_eq]at this;omega
 refine af ?_;unfold cH;rw[h2,if_pos h3]
theorem Eb(ts:List (List Rt))(a:List Rt)(ha:∀r∈a,r.ok)(hl:a.length<=281474976710656)(ht:ts.length<=281474976710656):FP 252 [cq ts,nR a] (cg (bZ ts.length a)):=by
 refine aj func252 ?_;refine gl ?_;refine Am [1,4] [] [] [] (¬(a≠[]/\(cH a.length<0\/(ts.length:Int)<cH a.length))) ?_ ?_
 ·intro K1 J1;refine gC (fun t10=>?_) (fun t10=>?_)
  ·have h0 : a ≠ [] := fun h => by rw [h] at t10; simp [ac] at t10
   refine gc (r7 Rt.av a hl) ?_;refine cO ?_;refine gC (fun t21=>?_) (fun t21=>?_)
   ·have h1:cH a.length<0\/(ts.length:Int)<cH a.length:=by
     have h9:=t21
     by_cases h:cH a.length<0
     ·exact .inl h
     ·simp only[ac,decide_eq_false h,cond_false,decide_eq_true_eq]at h9;exact .inr h9
    refine af ?_;unfold bZ;rw[if_pos ⟨h0,h1⟩];rfl
   have h1:¬(cH a.length<0\/(ts.length:Int)<cH a.length):=by
    have h9:=t21
    by_cases h:cH a.length<0
    ·simp only[ac,decide_eq_true h,cond_true]at h9;cases h9
    ·simp only[ac,decide_eq_false h,cond_false,decide_eq_false_iff_not]at h9;exact fun h'=>h'.elim h h9
   exact o6 J1 (fun h=>h1 h.2)
  have h0:a=[]:=by
   cases a with
   |nil=>rfl
   |cons c l=>simp[ac]at t10
  exact o6 J1 (fun h=>h.1 h0)
 rintro hn;refine gl ?_;refine a5 [23,24] [] (fun(i:Nat)=>[(25,some (i64 i))]) (fun _=>[]) (fun i=>i<=a.length/\(a.take i).all Rt.valid=true) (fun i=>a.length-i) 0 ⟨zero_le _,by simp⟩ ?_;rintro i ⟨hi,hv⟩ K2 J2;refine gC (fun t26=>?_) (fun t26=>?_)
 ·have hin : i < a.length := by simpa [ac] using t26
  obtain⟨r,hr⟩:=aG hin;have hrok:=ha r (mem_of_getElem? hr);refine gi (aN hr) ?_;refine gc (sw r hrok) ?_;refine gC (fun t31=>?_) (fun t31=>?_)
  ·have hrv : r.valid = false := by simpa using t31
   refine af ?_;unfold bZ;rw[if_neg hn,if_neg]
   ·rfl
   ·rw[all_eq_true];intro h;rw[h r (mem_of_getElem? hr)]at hrv;cases hrv
  have hrv:r.valid=true:=by simpa using t31
  refine ga aW ?_;exact aT J2 (i+1) ⟨by omega,by rw[d9 hr,all_append,hv];simp[hrv]⟩
 have hin:i=a.length:=by have:a.length<=i:=(by simpa[ac]using t26);omega
 subst hin;rw[take_length]at hv;refine af ?_;unfold bZ;rw[if_neg hn,if_pos hv];rfl
theorem EM(a:List Rat)(ha:∀q∈a,Qs q)(hl:a.length<=281474976710656):FP 329 [nA a] (bl (bB a)):=by
 refine aj func329 ?_;refine gl ?_;refine a5 [5,6] [] (fun(i:Nat)=>[(7,some (i64 i))]) (fun _=>[]) (fun i=>i<=a.length/\bB (a.take i)=true) (fun i=>a.length-i) 0 ⟨zero_le _,by simp[bB]⟩ ?_;rintro i ⟨hi,hv⟩ K1 J1;refine gC (fun t8=>?_) (fun t8=>?_)
 ·have hin : i < a.length := by simpa [ac] using t8
  obtain⟨q,hq⟩:=aG hin;have hqs:=ha q (mem_of_getElem? hq);refine gi (aN hq) ?_;refine gc (uP (rt q) hqs.ok) ?_;refine gC (fun t13=>?_) (fun t13=>?_)
  ·have h0:q≠0:=by
    intro h;have h9:=t13;rw[bP,h]at h9;cases h9
   refine af ?_
   have:bB a=false:=by
    rw[Bool.eq_false_iff];intro h;exact h0 (by simpa using List.all_eq_true.1 h q (mem_of_getElem? hq))
   rw[this];rfl
  have h0:q=0:=by
   have h9:bN q=0:=by have:=t13;rw[bP]at this;simpa[ac]using this
   exact lY h9
  refine ga aW ?_;exact aT J1 (i+1) ⟨by omega,by rw[d9 hq];simp only[bB,all_append,and_eq_true];exact⟨hv,by simp[h0]⟩⟩
 have hin:i=a.length:=by have:a.length<=i:=(by simpa[ac]using t8);omega
 subst hin;rw[take_length]at hv;refine af ?_;rw[hv];rfl
theorem ID(a:List Rat)(hl:a.length<=281474976710656):FP 328 [nA a] (bl (bB a)):=by
 refine aj func328 ?_;refine gl ?_;refine a5 [5,6] [] (fun(i:Nat)=>[(7,some (i64 i))]) (fun _=>[]) (fun i=>i<=a.length/\bB (a.take i)=true) (fun i=>a.length-i) 0 ⟨zero_le _,by simp[bB]⟩ ?_;rintro i ⟨hi,hv⟩ K1 J1;refine gC (fun t8=>?_) (fun t8=>?_)
 ·have hin : i < a.length := by simpa [ac] using t8
  obtain⟨q,hq⟩:=aG hin;refine gi (aN hq) ?_;refine cO ?_;refine cO ?_;refine gC (fun t24=>?_) (fun t24=>?_)
  ·have h0:q≠0:=Fh t24;refine af ?_
   have:bB a=false:=by
    rw[Bool.eq_false_iff];intro h;exact h0 (by simpa using List.all_eq_true.1 h q (mem_of_getElem? hq))
   rw[this];rfl
  have h0:q=0:=ED t24;refine ga aW ?_;exact aT J1 (i+1) ⟨by omega,by rw[d9 hq];simp only[bB,all_append,and_eq_true];exact⟨hv,by simp[h0]⟩⟩
 have hin:i=a.length:=by have:a.length<=i:=(by simpa[ac]using t8);omega
 subst hin;rw[take_length]at hv;refine af ?_;rw[hv];rfl
theorem xu(a:List Rat)(ha:∀q∈a,Qs q)(hl:a.length<=1099511627776):FP 278 [nA a] (nA a):=by
 refine aj func278 ?_;refine gl ?_;refine gW (Wk.virt 900 3 rfl) ?_;refine a5 [6,7] [] (fun(i:Nat)=>[(3,some (.ms 900 3 0 i)),(8,some (i64 i))]) (fun i=>[(900,some (.row 3 ((a.take i).map qA)))]) (fun i=>i<=a.length) (fun i=>a.length-i) 0 (zero_le _) ?_;rintro i hi K1 J1;refine gC (fun t9=>?_) (fun t9=>?_) (st2:=(7,0))
 ·have hin : i < a.length := by simpa [ac] using t9
  obtain⟨q,hq⟩:=aG hin;have hqs:=(ha q (mem_of_getElem? hq)).ok;have hl1:(rt q).num.length<=137438953472:=hqs.2.2.1;have hl2:(rt q).den.length<=137438953472:=hqs.2.2.2;refine gi (aN hq) ?_;refine gs (kE T43 rfl T350 rfl rfl rfl) ?_;refine gs (nK (.tmp rfl) rfl rfl (.tmp rfl) T43 rfl T350 rfl rfl (by simp only[length_map];omega) rfl rfl) ?_;refine gs (kE T43 rfl T350 rfl rfl rfl) ?_;refine gs (nK (.tmp rfl) rfl rfl (.tmp rfl) T43 rfl T350 rfl rfl (by simp only[length_map];omega) rfl rfl) ?_;refine gs (da (.tmp rfl) rfl (by simp;omega) (.tmp rfl) T67 rfl T45 rfl rfl (by simp;omega) rfl rfl) ?_;refine gD ?_ (6,0);refine gW (Wk.of (sl:=[(3,some (.ms 25 3 0 (i+1))),(6,some (nA a)),(7,some (i64 a.length)),(8,some (i64 i))]) (hp:=[(25,some (.row 3 ((a.take (i+1)).map qA)))]) bj (.cons rfl (BlkSub.of (by rw[d9 hq,map_append];rfl)) .nil)) ?_ (6,0);refine gW (Wk.rk (k:=25) (d:=900) rfl rfl) ?_;refine ga aW ?_;exact aT J1 (i+1) hin
 have hin:i=a.length:=by have:a.length<=i:=(by simpa[ac]using t9);omega
 subst hin;refine gW ((Wk.freeze (k:=900) rfl).trans<|Wk.of (sl:=[(3,some (nA a))]) (hp:=[]) (.cons rfl (Sub.of (by rw[cw (by simp),take_length];rfl)) .nil) .nil) ?_;refine af ?_;rfl
theorem lG{n:Nat}(a:List Rat)(hn:n<=5)(ha:Nl n a)(hs:∀q∈a,Qs q):FP 237 [nA a] (nA (sh n (ae n a))):=by
 have hl:=ha.len5 hn;rw[<- tz ha hn];refine aj func237 ?_;refine gc (r7 qA a oz) ?_;refine gl ?_;refine gC (fun t17=>?_) (fun t17=>?_) (st1:=(3,0));exact absurd t17 (by rcases ha with rfl |⟨j,hj,h⟩;(simp[ac]);(rw[h,pz];simp[ac];omega));refine gl ?_;refine a5 [0] [] (fun(m:Nat)=>[(4,some (i64 m))]) (fun _=>[]) (fun m=>lU a m) (fun m=>m) a.length (Eh (ha.mono hn)) ?_;rintro m hm K1 J1;refine gs (eK rfl rfl rfl (fun h=>eW (.opt rfl (o1 h)) (.const _) oz (fF (by have:=hm.le;omega)) rfl)) ?_;refine gs (eK rfl rfl rfl (fun h=>cT (.opt rfl (o1 h)) (.some _ (.opt rfl (o1 h)) oz) (.some _ (.opt rfl (o1 h)) oz) T67 rfl T45 rfl oz (by have:=hm.le;simp;omega) rfl)) ?_;refine bT (fun _=>(by have h9:=ID ((a.drop (m/2)).take (m-m/2)) (by simp;omega);rw[<- sf]at h9;exact h9)) ?_;refine gC (fun t31=>?_) (fun t31=>?_)
 ·have h1:1<m/\bB ((a.drop (m/2)).take (m-m/2))=true:=by
   have h9:=t31
   by_cases h:(m:Int)>1
   ·simp only[ac,decide_eq_true h,cond_true]at h9;exact⟨by omega,h9⟩
   ·simp only[ac,decide_eq_false h,cond_false]at h9;cases h9
  refine gs (eW (.tmp rfl) (.const _) oz (fF (by have:=hm.le;omega)) rfl) ?_;exact aT J1 (m/2) (IJ hm h1.1 h1.2)
 have h1:1<m->bB ((a.drop (m/2)).take (m-m/2))=false:=by
  intro h;have h9:=t31;simp only[ac,decide_eq_true (show(m:Int)>1 by omega),cond_true]at h9;exact h9
 refine gs (eK rfl rfl rfl (fun h=>cT (.opt rfl (o1 h)) (.none _) (.some _ (.const _) oz) T67 rfl T45 rfl oz (by have h8:(m:Int)=1:=(by simpa[ac]using h);have:=hm.le;simp only[length_map];omega) rfl)) ?_;refine bT (fun _=>(by have h9:=ID ((a.drop 0).take 1) (by simp;omega);rw[<- sf]at h9;exact h9)) ?_;refine gC (fun t40=>?_) (fun t40=>?_)
 ·have h2:m=1/\bB (a.take 1)=true:=by
   have h9:=t40
   by_cases h:m=1
   ·rw[h]at h9;exact⟨h,h9⟩
   ·rw[show ac .eql (m:Int) 1=false by simp[ac];omega]at h9;cases h9
  obtain⟨rfl,h3⟩:=h2;refine gR ?_;exact iF (by rw[CS hm h3];exact Sub.nil _ _ _)
 have h2:m=1->bB (a.take 1)=false:=by
  intro h;have h9:=t40;rw[h]at h9;exact h9
 have h3:=Df hm h1 h2;refine gs (cT (.tmp rfl) (.none _) (.some _ (.tmp rfl) oz) T67 rfl T45 rfl oz (by have:=hm.le;simp;omega) rfl) ?_;refine gc (by have h9:=xu ((a.drop 0).take m) (fun q hq=>hs q (List.mem_of_mem_drop (mem_of_mem_take hq))) (by simp;omega);have h8:=h9;rw[<- sf]at h9;exact h9) ?_;refine af ?_;rw[h3];simp[nA,map_take]
theorem zU(d:Nat)(hd:Nat.blt d 1000=true)(a:List Rat)(n:Nat)(hl:a.length<=n)(hn:n<=1099511627776) :
  Con prog 331 [nA a,i64 n] [] (.ms d 3 0 n) [(d,some (.row 3 ((aY a n).map qA)))]:=by
 refine gF func331 (fun k z h=>by cases h) ?_;refine gs (it (.tmp rfl) T67 rfl T45 rfl rfl oz (by dsimp only;omega) rfl) ?_;refine gs (OW (.tmp rfl) rfl (by simp) (.tmp rfl) T67 rfl T45 rfl rfl (by simp;omega) rfl) ?_ (3,0);refine gW (Wk.of (sl:=[(5,some (.ms 7 3 0 n))]) (hp:=[(7,some (.row 3 ((aY a n).map qA)))]) (.cons rfl (Sub.of (by simp)) .nil) (.cons rfl (Gl a n hl) .nil)) ?_;refine gR ?_;exact aH.own1 rfl hd rfl
theorem AH(a:List Rat)(n:Nat)(hl:a.length<=n)(hn:n<=1099511627776):FP 331 [nA a,i64 n] (nA (aY a n)):=by
 have h:=Con.freeze (by rw[length_map,dG hl];omega) (zU 0 rfl a n hl hn);rw[drop_zero,take_of_length_le (by rw[length_map,dG hl];exact le_refl _)]at h;exact h
theorem o9(a b:List Rat)(ha:∀q∈a,Qs q)(hb:∀q∈b,Qs q)(la:a.length<=1099511627776)(lb:b.length<=1099511627776):FP 239 [nA a,nA b] (nA (cf a b)):=by
 obtain⟨n,hn⟩:∃n,n=max a.length b.length:=⟨_,rfl⟩
 have hwa:=dG (show a.length<=n by omega);have hwb:=dG (show b.length<=n by omega);have hp:=d7 (a:=a) (b:=b);rw[<- hn]at hp;have qa:∀q∈aY a n,Qs q:=fun q hq=>by rcases List.mem_append.1 hq with h |h;exact ha q h;(rw[(List.mem_replicate.1 h).2];exact Qs.zero)
 have qb:∀q∈aY b n,Qs q:=fun q hq=>by rcases List.mem_append.1 hq with h |h;exact hb q h;(rw[(List.mem_replicate.1 h).2];exact Qs.zero)
 refine aj func239 ?_;refine gl ?_;refine gl ?_;refine gs (pc (.tmp rfl) (.tmp rfl) rfl) ?_ (2,0);refine gW (Wk.of (sl:=[(0,some (nA a)),(1,some (nA b)),(5,some (i64 n))]) (hp:=[]) (.k (.k (.cons rfl (Sub.int oz) .nil))) .nil) ?_;refine go ?_;refine gt (aJ (zU 900 rfl a n oz oz) (bO rfl rfl) aM rfl rfl) ?_;refine gc (AH b n oz oz) ?_;refine a5 [1,19] [] (fun(i:Nat)=>[(0,some (.ms 900 3 0 n)),(20,some (i64 i))]) (fun i=>[(900,some (.row 3 (((cf a b).take i++(aY a n).drop i).map qA)))]) (fun i=>i<=n) (fun i=>n-i) 0 (zero_le _) ?_;rintro i hi K1 J1;refine gC (fun t21=>?_) (fun t21=>?_) (st2:=(8,0))
 ·have hin : i < n := by simpa [ac] using t21
  have hmx:=yO (p:=cf a b) (w:=aY a n) (i:=i) oz oz;have hqa:=(qa _ (sV (i:=i) oz)).ok;have hqb:=(qb _ (sV (i:=i) oz)).ok;refine gs (b8 (n:=i) (.tmp rfl) (.tmp rfl) T67 rfl T45 rfl oz oz rfl) ?_;refine gs (d8 (.tmp rfl) rfl (aN hmx) T45 rfl rfl rfl) ?_;refine gi (aN (getD_some (i:=i) (l:=aY b n) oz)) ?_;refine gc (rv (rt ((aY a n).getD i 0)) (rt ((aY b n).getD i 0)) hqa hqb) ?_;refine gs (b8 (n:=i) (.tmp rfl) (.tmp rfl) T67 rfl T45 rfl oz oz rfl) ?_;refine gs (dF (.tmp rfl) rfl (aN hmx) rfl (.tmp rfl) rfl rfl T45 rfl rfl) ?_;refine gD ?_ (7,0);refine gW (Wk.of (sl:=[(0,some (.ms 900 3 0 n)),(1,some (nA (aY b n))),(19,some (i64 n)),(20,some (i64 i))]) (hp:=[(900,some (.row 3 (((cf a b).take (i+1)++(aY a n).drop (i+1)).map qA)))]) bj (.cons rfl (BlkSub.of (by rw[Ae oz oz (by rw[Fp,<- hn,bP,bP])])) .nil)) ?_;refine ga aW ?_;exact aT J1 (i+1) hin
 have hin:i=n:=by have:n<=i:=(by simpa[ac]using t21);omega
 refine gW ((Wk.freeze (k:=900) rfl).trans<|Wk.of (sl:=[(0,some (nA (cf a b)))]) (hp:=[]) (.cons rfl (Sub.of (by rw[cw (by simp;omega),hin,List.drop_of_length_le oz,take_of_length_le oz,List.append_nil];rfl)) .nil) .nil) ?_;refine af ?_;rfl
theorem uM(a:List Rat)(ha:∀q∈a,Qs q)(la:a.length<=1099511627776):FP 240 [nA a] (nA (cF a)):=by
 obtain⟨n,hn⟩:∃n,n=a.length:=⟨_,rfl⟩
 refine aj func240 ?_;refine gl ?_;refine gs (it (.tmp rfl) T67 rfl T45 rfl rfl oz (by dsimp only;omega) rfl) ?_ (2,0);refine gW (Wk.of (sl:=[(0,some (nA a)),(3,some (.ms 7 3 0 n))]) (hp:=[(7,some (.row 3 ((aY [] n).map qA)))]) (.k (.cons rfl (Sub.of (by simp[hn])) .nil)) (.cons rfl (BlkSub.of_ (Gl [] n (by simp)) (by rw[hn];rfl)) .nil)) ?_;refine gl ?_;refine a5 [0] [] (fun(i:Nat)=>[(3,some (.ms 7 3 0 n)),(9,some (i64 n)),(10,some (i64 i))]) (fun i=>[(7,some (.row 3 (((cF a).take i++(aY [] n).drop i).map qA)))]) (fun i=>i<=n) (fun i=>n-i) 0 (zero_le _) ?_ (h1:=(.k (.cons rfl (Sub.int oz) (.k .nil))));rintro i hi K1 J1;refine gC (fun t11=>?_) (fun t11=>?_) (st2:=(7,0))
 ·have hin : i < n := by simpa [ac] using t11
  have hm1:=iJ (a:=a);have hm2:=dG (a:=[]) (n:=n) (by simp);have hmx:=yO (p:=cF a) (w:=aY [] n) (i:=i) oz oz;have hqa:=(ha _ (sV (i:=i) oz)).ok;refine gi (aN (getD_some (i:=i) oz)) ?_;refine gc (Cw (rt (a.getD i 0)) hqa) ?_;refine gs (b8 (n:=i) (.tmp rfl) (.tmp rfl) T67 rfl T45 rfl oz oz rfl) ?_;refine gs (dF (.tmp rfl) rfl (aN hmx) rfl (.tmp rfl) rfl rfl T45 rfl rfl) ?_ (6,0);refine gW (Wk.of (sl:=[(0,some (nA a)),(3,some (.ms 7 3 0 n)),(9,some (i64 n)),(10,some (i64 i))]) (hp:=[(7,some (.row 3 (((cF a).take (i+1)++(aY [] n).drop (i+1)).map qA)))]) bj (.cons rfl (BlkSub.of (by rw[Ae oz oz (by rw[Qe,bP])])) .nil)) ?_;refine ga aW ?_;exact aT J1 (i+1) hin
 have hin:i=n:=by have:n<=i:=(by simpa[ac]using t11);omega
 have hm1:=iJ (a:=a);have hm2:=dG (a:=[]) (n:=n) (by simp);refine gW ((Wk.freeze (k:=7) rfl).trans<|Wk.of (sl:=[(3,some (nA (cF a)))]) (hp:=[]) (.cons rfl (Sub.of (by rw[cw (by simp;omega),hin,List.drop_of_length_le oz,take_of_length_le oz,List.append_nil];rfl)) .nil) .nil) ?_;refine af ?_;rfl
theorem yZ(a b:List Rat)(n:Nat)(la:a.length<=n)(lb:b.length<=n)(hn:n<=274877906944):FP 330 [nA a,nA b,i64 n] (nA (eT a b n)):=by
 refine aj func330 ?_;refine gt (aJ (zU 900 rfl a n la oz) (bO rfl rfl) aM rfl rfl) ?_;refine gc (AH b n lb oz) ?_;refine gs (nK (.tmp rfl) rfl (by simp[dG la]) (.tmp rfl) T67 rfl T45 rfl rfl (by simp[dG lb];omega) rfl rfl) ?_;refine af ?_;rw[<- map_append];rfl
theorem pV(ts:LL)(m r:Nat)(ht:il ts m r)(hm:m<=5)(hml:m<=ts.length)(k:Nat):∀(j:Nat)(a b:List Rat)(e f:Nat),j<=m->j<=k->Nl j a->Nl j b->Cb e a->Cb f b->e+f+eB r j<4398046511104 ->
  FP 238 [aR ts,nA a,nA b] (nA (pT ts k a b)):=by
 induction k using Nat.strongRecOn
 rename_i k ih;intro j a b e f hj hjk ha hb ca cb hs;have hla:=ha.len5 oz;have hlb:=hb.len5 oz;refine aj func238 ?_;refine gl ?_;refine gl ?_;refine M7 [3] [3] (fun(x y:List Rat)(e1 f1:Nat)=>[(1,some (nA x)),(2,some (nA y))]) (fun _ _ _ _=>[]) (fun x y e1 f1=>y.length<=x.length/\Nl j x/\Nl j y/\Cb e1 x/\Cb f1 y/\e1+f1=e+f/\pT ts k a b=pT ts k x y) ?_ ?_
 ·intro K1 J1;refine gC (fun t18=>?_) (fun t18=>?_)
  ·have h1 : a.length < b.length := by have := t18; simp only [ac, decide_eq_true_eq] at this; omega
   exact HE J1 b a f e ⟨by omega,hb,ha,cb,ca,by omega,x9 ts k a b h1⟩
  have h1:b.length<=a.length:=by have:=t18;simp only[ac,decide_eq_false_iff_not]at this;omega
  exact HE J1 a b e f ⟨h1,ha,hb,ca,cb,rfl,rfl⟩
 rintro x y e1 f1 ⟨hyx,hx,hy,cx,cy,hef,hp⟩;have hlx:=hx.len5 oz;have hly:=hy.len5 oz;have qx:∀q∈x,Qs q:=fun q hq=>cx.qs oz hq
 have qy:∀q∈y,Qs q:=fun q hq=>cy.qs oz hq
 rw[hp];refine gc (EM x qx oz) ?_;refine bT (fun _=>(EM y qy oz)) ?_;refine gC (fun t21=>?_) (fun t21=>?_)
 ·have h1:bB x=true\/bB y=true:=by
   have:=t21;cases hz:bB x
   ·rw[hz]at this;exact .inr this
   ·exact .inl rfl
  refine gR ?_;exact iF (by rw[Nf hyx h1];exact Sub.nil _ _ _)
 have h1:¬(bB x=true\/bB y=true):=by
  have:=t21;cases hz:bB x
  ·rw[hz]at this;intro h;rcases h with h |h;cases h;(rw[show bB y=false from this]at h;cases h)
  ·rw[hz]at this;cases this
 refine gl ?_;refine gC (fun t28=>?_) (fun t28=>?_)
 ·have h2 : x.length = 1 := by have := t28; simp only [ac, beq_iff_eq] at this; omega
  obtain⟨p,rfl⟩:=List.length_eq_one_iff.1 h2;have h3:y≠[]:=fun h=>h1 (.inr (by rw[h];rfl))
  obtain⟨q,rfl⟩:∃q,y=[q]:=List.length_eq_one_iff.1 (by have:=List.length_pos_iff.2 h3;simp at hyx;omega);refine gi rfl ?_;refine gi rfl ?_;refine gc (Gz (rt p) (rt q) (qx p (by simp)).ok (qy q (by simp)).ok) ?_;refine gD ?_;refine af ?_;rw[Lg h1,bP,bP];rfl
 have h2:x.length≠1:=by have:=t28;simp only[ac,beq_eq_false_iff_ne,ne_eq]at this;omega
 have h3:x≠[]:=fun h=>h1 (.inl (by rw[h];rfl))
 obtain⟨i,hij,hxl⟩:∃i,i+1<=j/\x.length=2^(i+1):=by
  rcases oq hx with h |h |h
  ·exact absurd (List.length_eq_zero_iff.1 h) h3
  ·exact absurd h h2
  ·exact h
 obtain⟨k',rfl⟩:∃k',k=k'+1:=⟨k-1,by omega⟩
 have hp2:=Nat.two_pow_pos i;have hpi:2^i<=32:=bY (b:=5) oz;have hps:2^(i+1)=2*2^i:=by rw[Nat.pow_succ];omega
 have hes:eB r (i+1)<=eB r j:=g9 r hij;have hee:eB r (i+1)=2*eB r i+r+2:=rfl;have n1:Nl i (x.take (2^i)):=.inr ⟨i,le_refl _,fL hxl⟩;have n2:Nl i (x.drop (2^i)):=.inr ⟨i,le_refl _,fR hxl⟩;refine gl ?_;refine gs (eW (.tmp rfl) (.const _) oz (show _=((2^i:Nat):Int) by rw[fF oz,hxl,fq]) rfl) ?_;refine gs (cT (.tmp rfl) (.none _) (.some _ (.tmp rfl) oz) T67 rfl T45 rfl oz (by simp only[length_map];omega) rfl) ?_;refine gs (cT (.tmp rfl) (.some _ (.tmp rfl) oz) (.none _) T67 rfl T45 rfl (by simp only[length_map];omega) oz rfl) ?_;refine gD ?_ (9,0);refine gW (Wk.of (sl:=[(1,some (nA x)),(2,some (nA y)),(3,some (.ptr 3 0)),(7,some (i64 ((2^i:Nat):Int))),(8,some (nA (x.take (2^i)))),(9,some (nA (x.drop (2^i))))]) (hp:=[(3,some (.box [.lst 1 (ts.map nA)]))]) (.k (.k (.k (.k (.cons rfl (Sub.of (kU x (2^i))) (.cons rfl (Sub.of (mf x (2^i))) .nil)))))) (.k .nil)) ?_;refine gl ?_;refine gC (fun t52=>?_) (fun t52=>?_)
 ·have h4 : y.length <= 2 ^ i := by have := t52; simp only [ac, decide_eq_true_eq] at this; omega
  have n3:Nl i y:=JS hy h4;have s1:=fN ts m ht.1 i k' _ _ oz oz n1 n3;have s2:=fN ts m ht.1 i k' _ _ oz oz n2 n3;refine gc (ih k' oz i _ _ e1 f1 oz oz n1 n3 cx.take cy oz) ?_;refine gc (ih k' oz i _ _ e1 f1 oz oz n2 n3 cx.drop cy oz) ?_;refine gc (yZ _ _ (2^i) s1.1.le s2.1.le oz) ?_;refine gD ?_;refine af ?_;rw[OJ hxl h4 h1]
 have h4:¬y.length<=2^i:=by have:=t52;simp only[ac,decide_eq_false_iff_not]at this;omega
 have hyl:=JZ hy h4 oz;have n3:Nl i (y.take (2^i)):=.inr ⟨i,le_refl _,fL hyl⟩;have n4:Nl i (y.drop (2^i)):=.inr ⟨i,le_refl _,fR hyl⟩;have nd:=ht.1 i oz;have cd:=ht.2.cb i;have s1:=fN ts m ht.1 i k' _ _ oz oz n1 n3;have s2:=fN ts m ht.1 i k' _ _ oz oz n2 n4;have s3:=fN ts m ht.1 i k' _ _ oz oz s2.1 nd;have s4:=fN ts m ht.1 i k' _ _ oz oz n1 n4;have s5:=fN ts m ht.1 i k' _ _ oz oz n2 n3;have c1:=Cb.mul ht (k:=k') (show i<=m by omega) oz n1 n3 cx.take cy.take;have c2:=Cb.mul ht (k:=k') (show i<=m by omega) oz n2 n4 cx.drop cy.drop;have c3:=Cb.mul ht (k:=k') (show i<=m by omega) oz s2.1 nd c2 cd;have c4:=Cb.mul ht (k:=k') (show i<=m by omega) oz n1 n4 cx.take cy.drop;have c5:=Cb.mul ht (k:=k') (show i<=m by omega) oz n2 n3 cx.drop cy.take;have hpT:=Nj (ts:=ts) (k:=k') hxl h4 hyx h1;refine gs (cT (.tmp rfl) (.none _) (.some _ (.tmp rfl) oz) T67 rfl T45 rfl oz (by simp only[length_map];omega) rfl) ?_;refine gs (cT (.tmp rfl) (.some _ (.tmp rfl) oz) (.none _) T67 rfl T45 rfl (by simp only[length_map];omega) oz rfl) ?_;refine gD ?_ (12,0);refine gW (Wk.of (sl:=[(1,some (nA x)),(3,some (.ptr 3 0)),(7,some (i64 ((2^i:Nat):Int))),(8,some (nA (x.take (2^i)))),(9,some (nA (x.drop (2^i)))),(10,some (nA (y.take (2^i)))),(11,some (nA (y.drop (2^i))))]) (hp:=[(3,some (.box [.lst 1 (ts.map nA)]))]) (.k (.k (.k (.k (.k (.cons rfl (Sub.of (kU y (2^i))) (.cons rfl (Sub.of (mf y (2^i))) .nil))))))) (.k .nil)) ?_;refine gc (r7 qA x oz) ?_;refine ga (show _=(i:Int) by rw[hxl,pz,dT oz];omega) ?_;refine gi (p9 (j:=i) oz) ?_;refine gD ?_;refine gc (ih k' oz i _ _ e1 f1 oz oz n1 n3 cx.take cy.take oz) ?_;refine gc (ih k' oz i _ _ e1 f1 oz oz n2 n4 cx.drop cy.drop oz) ?_;refine gc (ih k' oz i _ _ _ _ oz oz s2.1 nd c2 cd oz) ?_;refine gc (o9 _ _ (fun q hq=>c1.qs oz hq) (fun q hq=>c3.qs oz hq) (by have:=s1.1.le;omega) (by have:=s3.1.le;omega)) ?_;refine gD ?_;refine gc (ih k' oz i _ _ e1 f1 oz oz n1 n4 cx.take cy.drop oz) ?_;refine gc (ih k' oz i _ _ e1 f1 oz oz n2 n3 cx.drop cy.take oz) ?_;refine gc (o9 _ _ (fun q hq=>c4.qs oz hq) (fun q hq=>c5.qs oz hq) (by have:=s4.1.le;omega) (by have:=s5.1.le;omega)) ?_;refine gc (yZ _ _ (2^i) (by have:=s1.1.le;have:=s3.1.le;rw[d7];omega) (by have:=s4.1.le;have:=s5.1.le;rw[d7];omega) oz) ?_;refine gD ?_;refine af ?_;rw[hpT]
theorem AM(ts:LL)(m r:Nat)(ht:il ts m r)(hm:m<=5)(hml:m<=ts.length)(i:Nat)(a:List Rat)(e:Nat)(hi:i+1<=m)(hal:a.length=2^(i+1))(ca:Cb e a)(hs:4*e+3*eB r i+r+1<4398046511104) :
  FP 319 [aR ts,nA a] (nA (ic ts i a)):=by
 have hp2:=Nat.two_pow_pos i;have hpi:2^i<=32:=bY (b:=5) oz;have hps:2^(i+1)=2*2^i:=by rw[Nat.pow_succ];omega
 have n1:Nl i (a.take (2^i)):=.inr ⟨i,le_refl _,fL hal⟩;have n2:Nl i (a.drop (2^i)):=.inr ⟨i,le_refl _,fR hal⟩;have nd:=ht.1 i oz;have cd:=ht.2.cb i;have s1:=fN ts m ht.1 i i _ _ oz oz n1 n1;have s2:=fN ts m ht.1 i i _ _ oz oz n2 n2;have s3:=fN ts m ht.1 i i _ _ oz oz s2.1 nd;have c1:=Cb.mul ht (k:=i) (show i<=m by omega) oz n1 n1 ca.take ca.take;have c2:=Cb.mul ht (k:=i) (show i<=m by omega) oz n2 n2 ca.drop ca.drop;have c3:=Cb.mul ht (k:=i) (show i<=m by omega) oz s2.1 nd c2 cd;refine aj func319 ?_;refine gl ?_;refine gs (eW (.tmp rfl) (.const _) oz (show _=((2^i:Nat):Int) by rw[fF oz,hal,fq]) rfl) ?_;refine gs (cT (.tmp rfl) (.none _) (.some _ (.tmp rfl) oz) T67 rfl T45 rfl oz (by simp only[length_map];omega) rfl) ?_;refine gs (cT (.tmp rfl) (.some _ (.tmp rfl) oz) (.none _) T67 rfl T45 rfl (by simp only[length_map];omega) oz rfl) ?_;refine gD ?_ (3,0);refine gW (Wk.of (sl:=[(1,some (nA a)),(2,some (.ptr 2 0)),(6,some (nA (a.take (2^i)))),(7,some (nA (a.drop (2^i))))]) (hp:=[(2,some (.box [.lst 1 (ts.map nA)]))]) (.k (.k (.cons rfl (Sub.of (kU a (2^i))) (.cons rfl (Sub.of (mf a (2^i))) .nil)))) (.k .nil)) ?_;refine gc (pV ts m r ht hm hml i i _ _ e e oz oz n1 n1 ca.take ca.take oz) ?_;refine gc (pV ts m r ht hm hml i i _ _ e e oz oz n2 n2 ca.drop ca.drop oz) ?_;refine gc (r7 qA a oz) ?_;refine ga (show _=(i:Int) by rw[hal,pz,dT oz];omega) ?_;refine gi (p9 (j:=i) oz) ?_;refine gc (pV ts m r ht hm hml i i _ _ _ _ oz oz s2.1 nd c2 cd oz) ?_;refine gc (uM _ (fun q hq=>c3.qs oz hq) (by have:=s3.1.le;omega)) ?_;refine gc (o9 _ _ (fun q hq=>c1.qs oz hq) (fun q hq=>c3.minus.qs oz hq) (by have:=s1.1.le;omega) (by have:=s3.1.le;rw[iJ];omega)) ?_;refine gD ?_;refine af ?_;rfl
theorem qU(ts:LL)(m r:Nat)(ht:il ts m r)(hm:m<=5)(hml:m<=ts.length)(j:Nat):∀(a:List Rat)(e:Nat),j<=m->Nl j a->Cb e a->sB r j e<4398046511104 ->
  FP 230 [aR ts,nA a] (i64 (T.sgn (aw ts) j (ae j a))):=by
 induction j using Nat.strongRecOn
 rename_i j ih;intro a e hj ha ca hs;have hse:=nW r j e;have qa:∀q∈a,Qs q:=fun q hq=>ca.qs oz hq
 obtain⟨s,hsa⟩:∃s,s=sh j (ae j a):=⟨_,rfl⟩
 have hsd:ae j s=ae j a:=by rw[hsa,bc]
 have hsn:Nl j s:=by rw[hsa];exact di j _
 have cs:Cb e s:=by rw[hsa];exact ca.sh ha
 have hls:=hsn.len5 oz;rw[<- hsd];refine aj func230 ?_;refine gc (hsa▸lG a oz ha qa) ?_;refine gl ?_;refine gC (fun t12=>?_) (fun t12=>?_)
 ·have h1 : s=[] := List.length_eq_zero_iff.1 (by have := t12;simp only[ac,beq_iff_eq]at this;omega);refine af ?_;rw[h1,gQ,T.sgn_zero];rfl
 have h1:s.length≠0:=by have:=t12;simp only[ac,beq_eq_false_iff_ne,ne_eq]at this;omega
 refine gl ?_;refine gC (fun t15=>?_) (fun t15=>?_)
 ·have h2 : s.length = 1 := by have := t15; simp only [ac, beq_iff_eq] at this; omega
  obtain⟨q,rfl⟩:=List.length_eq_one_iff.1 h2;refine gi rfl ?_;refine gc (uP (rt q) (cs.qs oz (by simp:q∈[q])).ok) ?_;refine af ?_;rw[lN,T.sgn_ofQ,bP]
 have h2:s.length≠1:=by have:=t15;simp only[ac,beq_eq_false_iff_ne,ne_eq]at this;omega
 obtain⟨i,hij,hsl⟩:∃i,i+1<=j/\s.length=2^(i+1):=by
  rcases oq hsn with h |h |h
  ·exact absurd h h1
  ·exact absurd h h2
  ·exact h
 have hp2:=Nat.two_pow_pos i;have hpi:2^i<=32:=bY (b:=5) oz;have hps:2^(i+1)=2*2^i:=by rw[Nat.pow_succ];omega
 have n1:Nl i (s.take (2^i)):=.inr ⟨i,le_refl _,fL hsl⟩;have n2:Nl i (s.drop (2^i)):=.inr ⟨i,le_refl _,fR hsl⟩;have nd:=ht.1 i oz;have cd:=ht.2.cb i;obtain⟨nn,dn,cn⟩:=vi ht oz hsl cs;have b1:sB r i (4*e+3*eB r i+r+1)<=sB r j e:=uu r e hij;have b2:sB r i e<=sB r i (4*e+3*eB r i+r+1):=nI r i oz;have b3:sB r i r<=sB r i (4*e+3*eB r i+r+1):=nI r i oz;have b4:=nW r i (4*e+3*eB r i+r+1);have k1:=ih i oz (s.take (2^i)) e oz n1 cs.take oz;have k2:=ih i oz (s.drop (2^i)) e oz n2 cs.drop oz;have k3:=ih i oz _ r oz nd cd oz;have k4:=ih i oz _ _ oz nn cn oz
 have hres:T.sgn (aw ts) j (ae j s)=T.sgn3 (T.sgn (aw ts) i (ae i (s.take (2^i)))) (T.sgn (aw ts) i (ae i (s.drop (2^i)))) (T.sgn (aw ts) i (ae i (ts.getD i []))) (T.sgn (aw ts) i (ae i (ic ts i s))):=by
  rw[sG _ oz hij,dn];rfl
 have v1:=T.sgn_cases (aw ts) i (ae i (s.take (2^i)));have v4:=T.sgn_cases (aw ts) i (ae i (ic ts i s));refine gl ?_;refine gs (eW (.tmp rfl) (.const _) oz (show _=((2^i:Nat):Int) by rw[fF oz,hsl,fq]) rfl) ?_;refine gs (cT (.tmp rfl) (.none _) (.some _ (.tmp rfl) oz) T67 rfl T45 rfl oz (by simp only[length_map];omega) rfl) ?_;refine gc (by have h9:=k1;rw[<- kU]at h9;exact h9) ?_;refine gs (cT (.tmp rfl) (.some _ (.tmp rfl) oz) (.none _) T67 rfl T45 rfl (by simp only[length_map];omega) oz rfl) ?_;refine gc (by have h9:=k2;rw[<- mf]at h9;exact h9) ?_;refine gD ?_;refine gc (r7 qA s oz) ?_;refine ga (show _=(i:Int) by rw[hsl,pz,dT oz];omega) ?_;refine gi (p9 (j:=i) oz) ?_;refine gc k3 ?_;refine gD ?_;refine gC (fun t42=>?_) (fun t42=>?_)
 ·have e1 : T.sgn (aw ts) i (ae i (ts.getD i [])) = 0 := by simpa [ac] using t42
  refine af ?_;rw[hres];unfold T.sgn3;rw[if_pos e1]
 have e1:¬T.sgn (aw ts) i (ae i (ts.getD i []))=0:=by simpa[ac]using t42
 refine gC (fun t44=>?_) (fun t44=>?_)
 ·have e2:T.sgn (aw ts) i (ae i (s.take (2^i)))=T.sgn (aw ts) i (ae i (s.drop (2^i)))\/T.sgn (aw ts) i (ae i (s.drop (2^i)))=0:=z5 t44;refine af ?_;rw[hres];unfold T.sgn3;rw[if_neg e1,if_pos e2]
 have e2:¬(T.sgn (aw ts) i (ae i (s.take (2^i)))=T.sgn (aw ts) i (ae i (s.drop (2^i)))\/T.sgn (aw ts) i (ae i (s.drop (2^i)))=0):=xt t44;refine gC (fun t53=>?_) (fun t53=>?_)
 ·have e3 : T.sgn (aw ts) i (ae i (s.take (2 ^ i))) = 0 := by simpa [ac] using t53
  refine af ?_;rw[hres];unfold T.sgn3;rw[if_neg e1,if_neg e2,if_pos e3]
 have e3:¬T.sgn (aw ts) i (ae i (s.take (2^i)))=0:=by simpa[ac]using t53
 refine gc (AM ts m r ht hm hml i s e oz hsl cs oz) ?_;refine gc k4 ?_;refine ga (xp v1 v4) ?_;refine gD ?_;refine af ?_;rw[hres];unfold T.sgn3;rw[if_neg e1,if_neg e2,if_neg e3];rfl
theorem r5(rs:List (List Rt))(r:Nat)(h:TR rs r):FP 144 [cq rs] (cg (bt rs)):=by
 have hll:=h.ll;have hr:=h.le;refine aj func144 ?_;refine gl ?_;refine gC (fun t10=>?_) (fun t10=>?_)
 ·have h5 : 5 < rs.length := by have := t10; simp only [ac, decide_eq_true_eq] at this; omega
  refine af ?_;rw[F4 h5];rfl
 have h5:rs.length<=5:=by have:=t10;simp only[ac,decide_eq_false_iff_not]at this;omega
 refine gl ?_;refine a5 [1,13,14] [1] (fun(k:Nat)=>[(15,some (i64 k))]) (fun _=>[]) (fun k=>k<=rs.length/\∀j,j<k->ii rs j) (fun k=>rs.length-k) 0 ⟨zero_le _,fun j hj=>by omega⟩ ?_;rintro k ⟨hk,hj⟩ K1 J1;refine gC (fun t16=>?_) (fun t16=>?_)
 ·have hin : k < rs.length := by simpa [ac] using t16
  obtain⟨d,hd⟩:=aG hin;have hdm:=mem_of_getElem? hd;have hdl:=h.len d hdm;refine gi (aN hd) ?_;refine gl ?_;refine gs (gG (.const _) (.tmp rfl) oz (mX oz) rfl) ?_;refine gC (fun t24=>?_) (fun t24=>?_)
  ·have h1 : d.length ≠ 2 ^ k := by have := t24; simp only [ac, bne_iff_ne, ne_eq] at this; omega
   refine af ?_;rw[Fv h5 hd hj h1];rfl
  have h1:d.length=2^k:=by have:=t24;simp only[ac,bne_eq_false_iff_eq]at this;omega
  have htl:(rs.take k).length=k:=by simp;omega
  have hnu:=Eb (rs.take k) d (h.ok d hdm) hdl oz;rw[htl]at hnu;refine gs (cT (.tmp rfl) (.none _) (.some _ (.tmp rfl) oz) T35 rfl T67 rfl oz (by simp only[length_map];omega) rfl) ?_ (9,0);refine gW (Wk.of (sl:=[(1,some (.ptr 1 0)),(3,some (i64 k)),(4,some (nR d)),(5,some (.ptr 5 0)),(13,some (.lst 1 (rs.map nR))),(14,some (i64 rs.length)),(15,some (i64 k))]) (hp:=[(1,some (.box [.lst 1 (rs.map nR)])),(5,some (.box [.lst 1 ((rs.take k).map nR)]))]) bj (.k (.cons rfl (BlkSub.bL (.cons (.of (J8 nR rs k)) .nil) rfl) .nil))) ?_;refine gc hnu ?_;refine gC (fun t35=>?_) (fun t35=>?_)
  ·have h2:=fp t35;refine af ?_;rw[GS h5 hd hj h1 h2]
  have h2:=eM t35;have hts:=Hi (ts:=llq rs) (fun j hjk=>(hj j hjk).nl) h.rb;have hq:=xd h2 (h.ok d hdm);have hcb:Cb r (lq d):=by have:=h.rb.cb k;rw[sK,getD_eq_getElem?_getD,hd]at this;exact this
  have hsg:FP 230 [cq (rs.take k),nR d] (i64 (T.sgn (aw (llq rs)) k (ae k (lq d)))):=by
   have h9:=qU ((llq rs).take k) k r hts oz (by simp;omega) k (lq d) r (le_refl _) hq.2 hcb (nk (le_refl k) (by have:=h.three;omega) hr (by have:=kZ k;omega));rw[T.sgn_congr k (fun j hjk=>vh hjk)]at h9;rw[JB h.ok oz hj,hq.1,dA];rw[<- hq.1];exact h9
  refine gc hsg ?_;refine gC (fun t40=>?_) (fun t40=>?_)
  ·have h3 : T.sgn (aw (llq rs)) k (ae k (lq d)) < 0 := by simpa [ac] using t40
   refine af ?_;rw[FK h5 hd hj h1 h2 h3];rfl
  have h3:¬T.sgn (aw (llq rs)) k (ae k (lq d))<0:=by simpa[ac]using t40
  refine ga aW ?_;exact aT J1 (k+1) ⟨hin,fun j hjk=>by rcases lt_or_ge j k with h9 |h9;exact hj j h9;(have:j=k:=by omega);subst this;exact Gv hd h1 h2 h3⟩
 have hin:k=rs.length:=by have:rs.length<=k:=(by simpa[ac]using t16);omega
 subst hin;refine af ?_;rw[EN h5 hj];rfl
theorem n7(rs:List (List Rt))(r:Nat)(h:TR rs r)(xs:List (List Rt))(hx:∀a∈xs,(∀x∈a,x.ok)/\a.length<=281474976710656)(hl:xs.length<=281474976710656):FP 229 [cq rs,.lst 1 (xs.map nR)] (cg (bi rs xs)):=by
 refine aj func229 ?_;refine gc (r5 rs r h) ?_;refine gC (fun t12=>?_) (fun t12=>?_)
 ·have h1:=fp t12;refine af ?_;rw[yQ h1]
 have h1:=eM t12;refine gl ?_;refine a5 [2,14,15] [2] (fun(i:Nat)=>[(16,some (i64 i))]) (fun _=>[]) (fun i=>i<=xs.length/\∀x∈xs.take i,bZ rs.length x=0) (fun i=>xs.length-i) 0 ⟨zero_le _,fun x hx=>by simp at hx⟩ ?_;rintro i ⟨hi,hj⟩ K1 J1;refine gC (fun t17=>?_) (fun t17=>?_)
 ·have hin : i < xs.length := by simpa [ac] using t17
  obtain⟨a,ha⟩:=aG hin;have hok:=hx a (mem_of_getElem? ha);refine gi (aN ha) ?_;refine gc (Eb rs a hok.1 hok.2 h.ll) ?_;refine gC (fun t24=>?_) (fun t24=>?_)
  ·have h2:=fp t24;refine af ?_;rw[xg h1 ha hj h2]
  have h2:=eM t24;refine ga aW ?_;exact aT J1 (i+1) ⟨hin,fun x hx=>by rw[d9 ha]at hx;rcases List.mem_append.1 hx with h9 |h9;exact hj x h9;(rw[List.mem_singleton.1 h9];exact h2)⟩
 have hin:i=xs.length:=by have:xs.length<=i:=(by simpa[ac]using t17);omega
 subst hin;rw[take_length]at hj;refine af ?_;rw[nU h1 hj];rfl
theorem CC(rs:List (List Rt))(r:Nat)(h:TR rs r)(a:List Rt)(e:Nat)(ha:NR a e)(he:e<=lm rs.length) :
  FP 147 [cq rs,nR a] (.tup [nA (if bi rs [a]=0 then sh rs.length (T.neg rs.length (ae rs.length (lq a)))else[]),cg (bi rs [a])]):=by
 have hlm:=gV rs.length;refine aj func147 ?_;refine gc (n7 rs r h [a] (fun x hx=>by rw[List.mem_singleton.1 hx];exact⟨ha.ok,ha.len⟩) (by simp)) ?_;refine gC (fun t12=>?_) (fun t12=>?_) (st2:=(77777,0))
 ·have h1:=fp t12;refine gR ?_;exact ef (by rw[if_neg h1];exact Sub.tup (.cons (.nil _ _ _) (.cons (.refl _) .nil)))
 have h1:=eM t12;obtain⟨h2,h3⟩:=jm h1;obtain⟨tw,_⟩:=cI h h2;obtain⟨e1,na⟩:=ha.num (h3 a (by simp));have h5:rs.length<=5:=by have:=tw.five;rwa [length_map]at this
 have hl:=na.len5 h5;have qa:∀q∈lq a,Qs q:=fun q hq=>ha.cb.qs oz hq
 have qm:∀q∈cF (lq a),Qs q:=fun q hq=>ha.cb.minus.qs oz hq
 have nm:=oO na;refine gW (Wk.of (sl:=[(1,some (nA (lq a))),(2,some (.ptr 2 0)),(6,some (cg (bi rs [a])))]) (hp:=[(2,some (.box [.lst 1 (rs.map nR)]))]) (.cons rfl (Sub.of e1) (.k (.k .nil))) (.k .nil)) ?_;refine gc (uM _ qa oz) ?_;refine gc (lG _ h5 nm qm) ?_;refine bF ?_;rw[if_pos h1,h1,l0];rfl
theorem OC(rs:List (List Rt))(r:Nat)(h:TR rs r)(a b:List Rt)(e f:Nat)(ha:NR a e)(hb:NR b f)(he:e+f<=lm rs.length) :
  FP 356 [cq rs,nR a,nR b] (.tup [nA (if bi rs [a,b]=0 then sh rs.length (T.add rs.length (ae rs.length (lq a)) (ae rs.length (lq b)))else[]),cg (bi rs [a,b])]):=by
 have hlm:=gV rs.length;refine aj func356 ?_;refine gc (n7 rs r h [a,b] (m8 ha hb) (by simp)) ?_;refine gC (fun t15=>?_) (fun t15=>?_) (st2:=(77777,0))
 ·have h1:=fp t15;refine gR ?_;exact ef (by rw[if_neg h1];exact Sub.tup (.cons (.nil _ _ _) (.cons (.refl _) .nil)))
 have h1:=eM t15;obtain⟨h2,h3⟩:=jm h1;obtain⟨tw,e0⟩:=cI h h2;obtain⟨e1,na⟩:=ha.num (h3 a (by simp));obtain⟨e2,nb⟩:=hb.num (h3 b (by simp));have h5:rs.length<=5:=by have:=tw.five;rwa [length_map]at this
 have hla:=na.len5 h5;have hlb:=nb.len5 h5;have qa:∀q∈lq a,Qs q:=fun q hq=>ha.cb.qs oz hq
 have qb:∀q∈lq b,Qs q:=fun q hq=>hb.cb.qs oz hq
 have qp:∀q∈cf (lq a) (lq b),Qs q:=fun q hq=>(ha.cb.plus hb.cb).qs oz hq
 have np:=mV na nb;refine gW (Wk.of (sl:=[(1,some (nA (lq a))),(2,some (nA (lq b))),(3,some (.ptr 3 0)),(8,some (cg (bi rs [a,b])))]) (hp:=[(3,some (.box [.lst 1 (rs.map nR)]))]) (.cons rfl (Sub.of e1) (.cons rfl (Sub.of e2) (.k (.k .nil)))) (.k .nil)) ?_;refine gc (o9 _ _ qa qb oz oz) ?_;refine gc (lG _ h5 np qp) ?_;refine bF ?_;rw[if_pos h1,h1,io];rfl
theorem Kz(rs:List (List Rt))(r:Nat)(h:TR rs r)(a b:List Rt)(e f:Nat)(ha:NR a e)(hb:NR b f)(he:e+f<=lm rs.length) :
  FP 176 [cq rs,nR a,nR b] (.tup [nA (if bi rs [a,b]=0 then sh rs.length (T.add rs.length (ae rs.length (lq a)) (T.neg rs.length (ae rs.length (lq b))))else[]),cg (bi rs [a,b])]):=by
 have hlm:=gV rs.length;refine aj func176 ?_;refine gc (n7 rs r h [a,b] (m8 ha hb) (by simp)) ?_;refine gC (fun t15=>?_) (fun t15=>?_) (st2:=(77777,0))
 ·have h1:=fp t15;refine gR ?_;exact ef (by rw[if_neg h1];exact Sub.tup (.cons (.nil _ _ _) (.cons (.refl _) .nil)))
 have h1:=eM t15;obtain⟨h2,h3⟩:=jm h1;obtain⟨tw,e0⟩:=cI h h2;obtain⟨e1,na⟩:=ha.num (h3 a (by simp));obtain⟨e2,nb⟩:=hb.num (h3 b (by simp));have h5:rs.length<=5:=by have:=tw.five;rwa [length_map]at this
 have hla:=na.len5 h5;have hlb:=nb.len5 h5;have qa:∀q∈lq a,Qs q:=fun q hq=>ha.cb.qs oz hq
 have qb:∀q∈lq b,Qs q:=fun q hq=>hb.cb.qs oz hq
 have qm:∀q∈cF (lq b),Qs q:=fun q hq=>hb.cb.minus.qs oz hq
 have qp:∀q∈cf (lq a) (cF (lq b)),Qs q:=fun q hq=>(ha.cb.plus hb.cb.minus).qs oz hq
 have np:=mV na (oO nb);refine gW (Wk.of (sl:=[(1,some (nA (lq a))),(2,some (nA (lq b))),(3,some (.ptr 3 0)),(8,some (cg (bi rs [a,b])))]) (hp:=[(3,some (.box [.lst 1 (rs.map nR)]))]) (.cons rfl (Sub.of e1) (.cons rfl (Sub.of e2) (.k (.k .nil)))) (.k .nil)) ?_;refine gc (uM _ qb oz) ?_;refine gc (o9 _ _ qa qm oz (by rw[iJ];omega)) ?_;refine gc (lG _ h5 np qp) ?_;refine bF ?_;rw[if_pos h1,h1,io,l0];rfl
theorem I6(rs:List (List Rt))(r:Nat)(h:TR rs r)(a b:List Rt)(e f:Nat)(ha:NR a e)(hb:NR b f)(he:e+f<=lm rs.length) :
  FP 127 [cq rs,nR a,nR b] (.tup [nA (if bi rs [a,b]=0 then sh rs.length (T.mul (aw (llq rs)) rs.length (ae rs.length (lq a)) (ae rs.length (lq b)))else[]),cg (bi rs [a,b])]):=by
 have hr:=h.le;have hlm:=gV rs.length;refine aj func127 ?_;refine gc (n7 rs r h [a,b] (m8 ha hb) (by simp)) ?_;refine gC (fun t15=>?_) (fun t15=>?_) (st2:=(77777,0))
 ·have h1:=fp t15;refine gR ?_;exact ef (by rw[if_neg h1];exact Sub.tup (.cons (.nil _ _ _) (.cons (.refl _) .nil)))
 have h1:=eM t15;obtain⟨h2,h3⟩:=jm h1;obtain⟨tw,e0⟩:=cI h h2;obtain⟨e1,na⟩:=ha.num (h3 a (by simp));obtain⟨e2,nb⟩:=hb.num (h3 b (by simp));have hlen:(llq rs).length=rs.length:=length_map _;have h5:rs.length<=5:=by have:=tw.five;omega
 have hla:=na.len5 h5;have hlb:=nb.len5 h5;have htw:=tw.ok;rw[hlen]at htw;have hE:=HY r h5;have np:=fN (llq rs) rs.length htw.1 rs.length rs.length _ _ (le_refl _) (le_refl _) na nb;have cp:=Cb.mul htw (k:=rs.length) (le_refl rs.length) (le_refl _) na nb ha.cb hb.cb;have hti:=pV (llq rs) rs.length r htw h5 oz rs.length rs.length _ _ e f (le_refl _) (le_refl _) na nb ha.cb hb.cb oz;refine gW (Wk.of (sl:=[(1,some (nA (lq a))),(2,some (nA (lq b))),(3,some (.ptr 3 0)),(8,some (cg (bi rs [a,b])))]) (hp:=[(3,some (.box [.lst 1 ((llq rs).map nA)]))]) (.cons rfl (Sub.of e1) (.cons rfl (Sub.of e2) (.k (.k .nil)))) (.cons rfl (BlkSub.bL (.cons (.of (lJ e0)) .nil) rfl) .nil)) ?_;refine gc hti ?_;refine gc (lG _ h5 np.1 (fun q hq=>cp.qs oz hq)) ?_;refine bF ?_;rw[if_pos h1,h1,np.2];rfl
theorem Ru(rs:List (List Rt))(r:Nat)(h:TR rs r)(a:List Rt)(e:Nat)(ha:NR a e)(he:e<=lm rs.length) :
  FP 116 [cq rs,nR a] (.tup [i64 (if bi rs [a]=0 then T.sgn (aw (llq rs)) rs.length (ae rs.length (lq a))else 0),cg (bi rs [a])]):=by
 have hr:=h.le;have hlm:=gV rs.length;refine aj func116 ?_;refine gc (n7 rs r h [a] (fun x hx=>by rw[List.mem_singleton.1 hx];exact⟨ha.ok,ha.len⟩) (by simp)) ?_;refine gC (fun t12=>?_) (fun t12=>?_) (st2:=(77777,0))
 ·have h1:=fp t12;refine bF ?_;rw[if_neg h1];rfl
 have h1:=eM t12;obtain⟨h2,h3⟩:=jm h1;obtain⟨tw,e0⟩:=cI h h2;obtain⟨e1,na⟩:=ha.num (h3 a (by simp));have hlen:(llq rs).length=rs.length:=length_map _;have h5:rs.length<=5:=by have:=tw.five;omega
 have htw:=tw.ok;rw[hlen]at htw;have hsg:=qU (llq rs) rs.length r htw h5 oz rs.length _ _ (le_refl _) na ha.cb (nk (le_refl rs.length) (by have:=tw.three;omega) hr oz);refine gW (Wk.of (sl:=[(1,some (nA (lq a))),(2,some (.ptr 2 0)),(6,some (cg (bi rs [a])))]) (hp:=[(2,some (.box [.lst 1 ((llq rs).map nA)]))]) (.cons rfl (Sub.of e1) (.k (.k .nil))) (.cons rfl (BlkSub.bL (.cons (.of (lJ e0)) .nil) rfl) .nil)) ?_;refine gc hsg ?_;refine bF ?_;rw[if_pos h1,h1];rfl
theorem RU(x:Rt)(hx:x.ok)(hs:Qs x.q):FP 165 [x.av] (nA (sh 0 (x.q:Rat))):=by
 have hadd:=rv x (rt 0) hx Qs.zero.ok;rw[vD]at hadd;refine aj func165 ?_;refine gc (Con.sA (.cons (.refl _) (.cons jz .nil)) hadd) ?_;refine gc (lG (n:=0) [x.q] oz (.inr ⟨0,le_refl _,rfl⟩) (fun q hq=>by rw[List.mem_singleton.1 hq];exact hs)) ?_;refine af ?_;rfl
theorem so(n:Nat)(hn:n<=281474976710656):FP 290 [i64 n] (.tup [i64 (kv n),bl (kC n)]):=by
 refine aj func290 ?_;refine a5 [0] [] (fun(k:Nat)=>[(5,some (i64 k))]) (fun _=>[]) (fun k=>k<=6/\∀j,j<k->n≠2^j) (fun k=>6-k) 0 ⟨by omega,fun j h=>by omega⟩ ?_;rintro k ⟨hk,hj⟩ K1 J1;refine gC (fun t6=>?_) (fun t6=>?_)
 ·have h1 : k < 6 := by have := t6; simp only [ac, decide_eq_true_eq] at this; omega
  refine gs (gG (.const _) (.tmp rfl) oz (mX oz) rfl) ?_;refine gC (fun t11=>?_) (fun t11=>?_)
  ·have h2 : n = 2 ^ k := by have := t11; simp only [ac, beq_iff_eq] at this; omega
   refine bF ?_;rw[h2,(l2 oz).1,(l2 oz).2];rfl
  have h2:n≠2^k:=by have:=t11;simp only[ac,beq_eq_false_iff_ne,ne_eq]at this;omega
  refine ga (c9 oz) ?_;exact aT J1 (k+1) ⟨by omega,fun j h=>by rcases lt_or_ge j k with h3 |h3;exact hj j h3;(have:j=k:=by omega);subst this;exact h2⟩
 have h1:k=6:=by have:=t6;simp only[ac,decide_eq_false_iff_not]at this;omega
 subst h1;refine bF ?_;rw[(GM hj).1,(GM hj).2];rfl
theorem DB(m:Nat)(hm:m<=5)(a:List Rt)(ha:∀r∈a,r.ok)(hl:a.length<=281474976710656):FP 193 [i64 m,nR a] (i64 (bZ m a)):=by
 refine aj func193 ?_;refine gl ?_;refine gc (so a.length hl) ?_;refine gl ?_;refine gC (fun t26=>?_) (fun t26=>?_)
 ·have h1:a≠[]/\(cH a.length<0\/(m:Int)<cH a.length):=(Fu hm a).2 (Ra t26);refine af ?_;unfold bZ;rw[if_pos h1];rfl
 have hn:¬(a≠[]/\(cH a.length<0\/(m:Int)<cH a.length)):=fun h=>I7 t26 ((Fu hm a).1 h)
 refine gl ?_;refine a5 [27,28] [] (fun(i:Nat)=>[(29,some (i64 i))]) (fun _=>[]) (fun i=>i<=a.length/\(a.take i).all Rt.valid=true) (fun i=>a.length-i) 0 ⟨zero_le _,by simp⟩ ?_;rintro i ⟨hi,hv⟩ K1 J1;refine gC (fun t30=>?_) (fun t30=>?_)
 ·have hin : i < a.length := by simpa [ac] using t30
  obtain⟨r,hr⟩:=aG hin;have hrok:=ha r (mem_of_getElem? hr);refine gi (aN hr) ?_;refine gc (om r hrok) ?_;refine gC (fun t35=>?_) (fun t35=>?_)
  ·have hrv : r.valid = false := by simpa using t35
   refine af ?_;unfold bZ;rw[if_neg hn,if_neg]
   ·rfl
   ·rw[all_eq_true];intro h;rw[h r (mem_of_getElem? hr)]at hrv;cases hrv
  have hrv:r.valid=true:=by simpa using t35
  refine ga aW ?_;exact aT J1 (i+1) ⟨by omega,by rw[d9 hr,all_append,hv];simp[hrv]⟩
 have hin:i=a.length:=by have:a.length<=i:=(by simpa[ac]using t30);omega
 subst hin;rw[take_length]at hv;refine af ?_;unfold bZ;rw[if_neg hn,if_pos hv];rfl
theorem Gk(a:List Rat)(hl:a.length<=281474976710656):FP 296 [nA a] (bl (bB a)):=by
 refine aj func296 ?_;refine gl ?_;refine a5 [5,6] [] (fun(i:Nat)=>[(7,some (i64 i))]) (fun _=>[]) (fun i=>i<=a.length/\bB (a.take i)=true) (fun i=>a.length-i) 0 ⟨zero_le _,by simp[bB]⟩ ?_;rintro i ⟨hi,hv⟩ K1 J1;refine gC (fun t8=>?_) (fun t8=>?_)
 ·have hin : i < a.length := by simpa [ac] using t8
  obtain⟨q,hq⟩:=aG hin;refine gi (aN hq) ?_;refine cO ?_;refine cO ?_;refine gC (fun t24=>?_) (fun t24=>?_)
  ·have h0:q≠0:=Ku t24;refine af ?_
   have:bB a=false:=by
    rw[Bool.eq_false_iff];intro h;exact h0 (by simpa using List.all_eq_true.1 h q (mem_of_getElem? hq))
   rw[this];rfl
  have h0:q=0:=Sw t24;refine ga aW ?_;exact aT J1 (i+1) ⟨by omega,by rw[d9 hq];simp only[bB,all_append,and_eq_true];exact⟨hv,by simp[h0]⟩⟩
 have hin:i=a.length:=by have:a.length<=i:=(by simpa[ac]using t8);omega
 subst hin;rw[take_length]at hv;refine af ?_;rw[hv];rfl
theorem rh{n:Nat}(a:List Rat)(hn:n<=5)(ha:Nl n a):FP 195 [nA a] (nA (sh n (ae n a))):=by
 have hl:=ha.len5 hn;rw[<- tz ha hn];refine aj func195 ?_;refine gl ?_;refine gc (so a.length oz) ?_;refine gC (fun t13=>?_) (fun t13=>?_)
 ·have h0:a=[]:=by
   rcases ha with h |⟨j,hj,h⟩
   ·exact h
   ·have h9:=t13;rw[h,(l2 oz).2]at h9;cases h9
  refine gs (kE T67 rfl T45 rfl rfl rfl) ?_;refine gs (nK (.tmp rfl) rfl rfl (.tmp rfl) T67 rfl T45 rfl rfl (by simp[h0]) rfl rfl) ?_;refine af ?_;subst h0;rfl
 refine gl ?_;refine a5 [0] [] (fun(m:Nat)=>[(5,some (i64 m))]) (fun _=>[]) (fun m=>lU a m) (fun m=>m) a.length (Eh (ha.mono hn)) ?_;rintro m hm K1 J1;refine gs (eK rfl rfl rfl (fun h=>eW (.opt rfl (o1 h)) (.const _) oz (fF (by have:=hm.le;omega)) rfl)) ?_;refine gs (eK rfl rfl rfl (fun h=>cT (.opt rfl (o1 h)) (.some _ (.opt rfl (o1 h)) oz) (.some _ (.opt rfl (o1 h)) oz) T67 rfl T45 rfl oz (by have:=hm.le;simp;omega) rfl)) ?_;refine bT (fun _=>(by have h9:=Gk ((a.drop (m/2)).take (m-m/2)) (by simp;omega);rw[<- sf]at h9;exact h9)) ?_;refine gC (fun t28=>?_) (fun t28=>?_)
 ·have h1:1<m/\bB ((a.drop (m/2)).take (m-m/2))=true:=by
   have h9:=t28
   by_cases h:(m:Int)>1
   ·simp only[ac,decide_eq_true h,cond_true]at h9;exact⟨by omega,h9⟩
   ·simp only[ac,decide_eq_false h,cond_false]at h9;cases h9
  refine gs (eW (.tmp rfl) (.const _) oz (fF (by have:=hm.le;omega)) rfl) ?_;exact aT J1 (m/2) (IJ hm h1.1 h1.2)
 have h1:1<m->bB ((a.drop (m/2)).take (m-m/2))=false:=by
  intro h;have h9:=t28;simp only[ac,decide_eq_true (show(m:Int)>1 by omega),cond_true]at h9;exact h9
 refine gs (eK rfl rfl rfl (fun h=>cT (.opt rfl (o1 h)) (.none _) (.some _ (.const _) oz) T67 rfl T45 rfl oz (by have h8:(m:Int)=1:=(by simpa[ac]using h);have:=hm.le;simp only[length_map];omega) rfl)) ?_;refine bT (fun _=>(by have h9:=Gk ((a.drop 0).take 1) (by simp;omega);rw[<- sf]at h9;exact h9)) ?_;refine gC (fun t37=>?_) (fun t37=>?_)
 ·have h2:m=1/\bB (a.take 1)=true:=by
   have h9:=t37
   by_cases h:m=1
   ·rw[h]at h9;exact⟨h,h9⟩
   ·rw[show ac .eql (m:Int) 1=false by simp[ac];omega]at h9;cases h9
  obtain⟨rfl,h3⟩:=h2;refine gR ?_;exact iF (by rw[CS hm h3];exact Sub.nil _ _ _)
 have h2:m=1->bB (a.take 1)=false:=by
  intro h;have h9:=t37;rw[h]at h9;exact h9
 have h3:=Df hm h1 h2;refine gs (kE T67 rfl T45 rfl rfl rfl) ?_;refine gs (cT (.tmp rfl) (.none _) (.some _ (.tmp rfl) oz) T67 rfl T45 rfl oz (by have:=hm.le;simp;omega) rfl) ?_;refine gs (nK (.tmp rfl) rfl rfl (.tmp rfl) T67 rfl T45 rfl rfl (by simp only[length_take,List.length_drop,length_map];omega) rfl rfl) ?_;refine af ?_;rw[h3];simp[nA,map_take]
theorem Ap(d:Nat)(hd:Nat.blt d 1000=true)(a:List Rat)(n:Nat)(hl:a.length<=n)(hn:n<=1099511627776) :
  Con prog 194 [nA a,i64 n] [] (.ms d 3 0 n) [(d,some (.row 3 ((aY a n).map qA)))]:=by
 refine gF func194 (fun k z h=>by cases h) ?_;refine gs (kE T67 rfl T45 rfl rfl rfl) ?_;refine gs (da (.tmp rfl) rfl rfl (.tmp rfl) T67 rfl T45 rfl rfl (by simp only[length_map];omega) rfl rfl) ?_;refine gW (Wk.of (sl:=[(1,some (i64 n)),(5,some (.ms 8 3 0 a.length))]) (hp:=[(8,some (.row 3 ((aY a a.length).map qA)))]) (.k (.cons rfl (Sub.of (by simp)) .nil)) (.cons rfl (BlkSub.of (by simp[aY])) .nil)) ?_ (99999,0);refine gW (Wk.rk (k:=8) (d:=900) rfl rfl) ?_;refine a5 [1] [] (fun(i:Nat)=>[(5,some (.ms 900 3 0 i))]) (fun i=>[(900,some (.row 3 ((aY a i).map qA)))]) (fun i=>a.length<=i/\i<=n) (fun i=>n-i) a.length ⟨le_refl _,hl⟩ ?_;rintro i ⟨hi,hin⟩ K1 J1;refine gC (fun t12=>?_) (fun t12=>?_)
 ·have h1 : i < n := by have := t12; simp only [ac, decide_eq_true_eq] at this; omega
  refine gs (da (.tmp rfl) rfl (by rw[length_map,dG hi]) (.tmp rfl) T67 rfl T45 rfl rfl (by simp;omega) rfl rfl) ?_;exact aT J1 (i+1) ⟨by omega,h1⟩ (hw:=(Wk.of (sl:=[(1,some (i64 n)),(5,some (.ms 16 3 0 (i+1)))]) (hp:=[(16,some (.row 3 ((aY a (i+1)).map qA)))]) bj (.cons rfl (I9 a i hi) .nil)).trans<|(Wk.rk (k:=16) (d:=900) rfl rfl).trans<|Wk.o)
 have h1:i=n:=by have:=t12;simp only[ac,decide_eq_false_iff_not]at this;omega
 subst h1;refine gR ?_;exact aH.own1 rfl hd rfl
theorem ql(a:List Rat)(n:Nat)(hl:a.length<=n)(hn:n<=1099511627776):FP 194 [nA a,i64 n] (nA (aY a n)):=by
 have h:=Con.freeze (by rw[length_map,dG hl];omega) (Ap 0 rfl a n hl hn);rw[drop_zero,take_of_length_le (by rw[length_map,dG hl];exact le_refl _)]at h;exact h
theorem qf(a b:List Rat)(ha:∀q∈a,Qs q)(hb:∀q∈b,Qs q)(la:a.length<=1099511627776)(lb:b.length<=1099511627776):FP 184 [nA a,nA b] (nA (cf a b)):=by
 obtain⟨n,hn⟩:∃n,n=max a.length b.length:=⟨_,rfl⟩
 have hwa:=dG (show a.length<=n by omega);have hwb:=dG (show b.length<=n by omega);have hp:=d7 (a:=a) (b:=b);rw[<- hn]at hp;have qa:∀q∈aY a n,Qs q:=fun q hq=>by rcases List.mem_append.1 hq with h |h;exact ha q h;(rw[(List.mem_replicate.1 h).2];exact Qs.zero)
 have qb:∀q∈aY b n,Qs q:=fun q hq=>by rcases List.mem_append.1 hq with h |h;exact hb q h;(rw[(List.mem_replicate.1 h).2];exact Qs.zero)
 refine aj func184 ?_;refine gl ?_;refine gl ?_;refine gs (pc (.tmp rfl) (.tmp rfl) rfl) ?_ (2,0);refine gW (Wk.of (sl:=[(0,some (nA a)),(1,some (nA b)),(5,some (i64 n))]) (hp:=[]) (.k (.k (.cons rfl (Sub.int oz) .nil))) .nil) ?_;refine go ?_;refine gt (aJ (Ap 900 rfl a n oz oz) (bO rfl rfl) aM rfl rfl) ?_;refine gc (ql b n oz oz) ?_;refine a5 [1,19] [] (fun(i:Nat)=>[(0,some (.ms 900 3 0 n)),(20,some (i64 i))]) (fun i=>[(900,some (.row 3 (((cf a b).take i++(aY a n).drop i).map qA)))]) (fun i=>i<=n) (fun i=>n-i) 0 (zero_le _) ?_;rintro i hi K1 J1;refine gC (fun t21=>?_) (fun t21=>?_) (st2:=(8,0))
 ·have hin : i < n := by simpa [ac] using t21
  have hmx:=yO (p:=cf a b) (w:=aY a n) (i:=i) oz oz;have hqa:=(qa _ (sV (i:=i) oz)).ok;have hqb:=(qb _ (sV (i:=i) oz)).ok;refine gs (b8 (n:=i) (.tmp rfl) (.tmp rfl) T67 rfl T45 rfl oz oz rfl) ?_;refine gs (d8 (.tmp rfl) rfl (aN hmx) T45 rfl rfl rfl) ?_;refine gi (aN (getD_some (i:=i) (l:=aY b n) oz)) ?_;refine gc (vH (rt ((aY a n).getD i 0)) (rt ((aY b n).getD i 0)) hqa hqb) ?_;refine gs (b8 (n:=i) (.tmp rfl) (.tmp rfl) T67 rfl T45 rfl oz oz rfl) ?_;refine gs (dF (.tmp rfl) rfl (aN hmx) rfl (.tmp rfl) rfl rfl T45 rfl rfl) ?_;refine gD ?_ (7,0);refine gW (Wk.of (sl:=[(0,some (.ms 900 3 0 n)),(1,some (nA (aY b n))),(19,some (i64 n)),(20,some (i64 i))]) (hp:=[(900,some (.row 3 (((cf a b).take (i+1)++(aY a n).drop (i+1)).map qA)))]) bj (.cons rfl (BlkSub.of (by rw[Ae oz oz (by rw[Fp,<- hn,bP,bP])])) .nil)) ?_;refine ga aW ?_;exact aT J1 (i+1) hin
 have hin:i=n:=by have:n<=i:=(by simpa[ac]using t21);omega
 refine gW ((Wk.freeze (k:=900) rfl).trans<|Wk.of (sl:=[(0,some (nA (cf a b)))]) (hp:=[]) (.cons rfl (Sub.of (by rw[cw (by simp;omega),hin,List.drop_of_length_le oz,take_of_length_le oz,List.append_nil];rfl)) .nil) .nil) ?_;refine af ?_;rfl
theorem zO(a:List Rat)(ha:∀q∈a,Qs q)(hl:a.length<=1099511627776):FP 185 [nA a] (nA (cF a)):=by
 refine aj func185 ?_;refine gl ?_;refine gW (Wk.virt 900 3 rfl) ?_;refine a5 [6,7] [] (fun(i:Nat)=>[(3,some (.ms 900 3 0 i)),(8,some (i64 i))]) (fun i=>[(900,some (.row 3 ((cF (a.take i)).map qA)))]) (fun i=>i<=a.length) (fun i=>a.length-i) 0 (zero_le _) ?_;rintro i hi K1 J1;refine gC (fun t9=>?_) (fun t9=>?_) (st2:=(7,0))
 ·have hin : i < a.length := by simpa [ac] using t9
  obtain⟨q,hq⟩:=aG hin;have hqs:=(ha q (mem_of_getElem? hq)).ok;refine gi (aN hq) ?_;refine gc (EL (rt q) hqs) ?_;refine gs (da (.tmp rfl) rfl (by simp[cF];omega) (.tmp rfl) T67 rfl T45 rfl rfl (by simp;omega) rfl rfl) ?_ (6,0);refine gW (Wk.of (sl:=[(3,some (.ms 16 3 0 (i+1))),(6,some (nA a)),(7,some (i64 a.length)),(8,some (i64 i))]) (hp:=[(16,some (.row 3 ((cF (a.take (i+1))).map qA)))]) bj (.cons rfl (BlkSub.of (by rw[d9 hq];simp only[cF,map_append,bP];rfl)) .nil)) ?_ (6,0);refine gW (Wk.rk (k:=16) (d:=900) rfl rfl) ?_;refine ga aW ?_;exact aT J1 (i+1) hin
 have hin:i=a.length:=by have:a.length<=i:=(by simpa[ac]using t9);omega
 subst hin;refine gW ((Wk.freeze (k:=900) rfl).trans<|Wk.of (sl:=[(3,some (nA (cF a)))]) (hp:=[]) (.cons rfl (Sub.of (by rw[cw (by simp[cF]),take_length];rfl)) .nil) .nil) ?_;refine af ?_;rfl
theorem vI(ts:LL)(m r:Nat)(ht:il ts m r)(hm:m<=5)(R:List AV)(hR:∀j,j<m->R[j]?=some (nA (ts.getD j [])))(k:Nat):∀(j:Nat)(a b:List Rat)(e f:Nat),j<=m->j<=k->Nl j a->Nl j b->Cb e a->Cb f b->e+f+eB r j<4398046511104 ->
  FP 196 [.agg [.lst 1 R],nA a,nA b] (nA (rT ts k a b)):=by
 induction k using Nat.strongRecOn
 rename_i k ih;intro j a b e f hj hjk ha hb ca cb hs;obtain⟨nx,dx⟩:=uB ha oz;obtain⟨ny,dy⟩:=uB hb oz;have cx:Cb e (br 5 a):=ca.sub (fun q hq=>uv 5 hq);have cy:Cb f (br 5 b):=cb.sub (fun q hq=>uv 5 hq);have k1:=rh a oz ha;have k2:=rh b oz hb;rw[<- tz ha oz]at k1;rw[<- tz hb oz]at k2;obtain⟨x,hx⟩:∃x,x=br 5 a:=⟨_,rfl⟩
 obtain⟨y,hy⟩:∃y,y=br 5 b:=⟨_,rfl⟩
 rw[<- hx]at k1 nx dx cx;rw[<- hy]at k2 ny dy cy;have hlx:=nx.len5 oz;have hly:=ny.len5 oz;obtain⟨n,hn⟩:∃n,n=max x.length y.length:=⟨_,rfl⟩
 refine aj func196 ?_;refine gc k1 ?_;refine gc k2 ?_;refine gl ?_;refine gl ?_;refine gs (pc (.tmp rfl) (.tmp rfl) rfl) ?_ (3,0);refine gW (Wk.of (sl:=[(1,some (nA x)),(2,some (nA y)),(3,some (.ptr 3 0)),(7,some (i64 n))]) (hp:=[(3,some (.box [.lst 1 R]))]) (.k (.k (.k (.cons rfl (Sub.int oz) .nil)))) (.k .nil)) ?_;refine gl ?_;refine cO ?_;refine gC (fun t32=>?_) (fun t32=>?_)
 ·have h0 : x.length = 0 \/ y.length = 0 := by have := z5 t32; omega
  refine gR ?_;exact iF (by rw[DR (by rw[<- hx,<- hy];exact h0)];exact Sub.nil _ _ _)
 have h0:¬(x.length=0\/y.length=0):=by have:=xt t32;omega
 refine gC (fun t34=>?_) (fun t34=>?_)
 ·have h1 : max x.length y.length = 1 := by have := t34; simp only [ac, beq_iff_eq] at this; omega
  have e1:=Ej (ts:=ts) (k:=k) (a:=a) (b:=b) (by rw[<- hx,<- hy];exact h0) (by rw[<- hx,<- hy];exact h1);rw[<- hx,<- hy]at e1;clear hx hy;have lx1:x.length=1:=by omega
  have ly1:y.length=1:=by omega
  clear hn;obtain⟨p,rfl⟩:∃p,x=[p]:=List.length_eq_one_iff.1 lx1;obtain⟨q,rfl⟩:∃q,y=[q]:=List.length_eq_one_iff.1 ly1;refine gi rfl ?_;refine gi rfl ?_;refine gc (EB (rt p) (rt q) (cx.qs oz (by simp:p∈[p])).ok (cy.qs oz (by simp:q∈[q])).ok) ?_;refine gD ?_;refine af ?_;rw[e1,bP,bP];rfl
 have h1:n≠1:=by have:=t34;simp only[ac,beq_eq_false_iff_ne,ne_eq]at this;omega
 obtain⟨i,hij,hmax⟩:=(Id nx ny h0).resolve_left oz;obtain⟨k',rfl⟩:∃k',k=k'+1:=⟨k-1,by omega⟩
 have hp2:=Nat.two_pow_pos i;have hpi:2^i<=32:=bY (b:=5) oz;have hps:2^(i+1)=2*2^i:=by rw[Nat.pow_succ];omega
 have hnn:n=2^(i+1):=by omega
 have hes:eB r (i+1)<=eB r j:=g9 r hij;have hee:eB r (i+1)=2*eB r i+r+2:=rfl;have lx:(aY x (2^(i+1))).length=2^(i+1):=dG oz;have ly:(aY y (2^(i+1))).length=2^(i+1):=dG oz;obtain⟨X,hX⟩:∃X,X=aY x (2^(i+1)):=⟨_,rfl⟩
 obtain⟨Y,hY⟩:∃Y,Y=aY y (2^(i+1)):=⟨_,rfl⟩
 have cX:Cb e X:=by rw[hX];exact cx.wide
 have cY:Cb f Y:=by rw[hY];exact cy.wide
 rw[<- hX]at lx;rw[<- hY]at ly;have n1:Nl i (X.take (2^i)):=.inr ⟨i,le_refl _,fL lx⟩;have n2:Nl i (X.drop (2^i)):=.inr ⟨i,le_refl _,fR lx⟩;have n3:Nl i (Y.take (2^i)):=.inr ⟨i,le_refl _,fL ly⟩;have n4:Nl i (Y.drop (2^i)):=.inr ⟨i,le_refl _,fR ly⟩;have nd:=ht.1 i oz;have cd:=ht.2.cb i;have s1:=ke hm ht (k:=k') (show i<=m by omega) oz n1 n3 cX.take cY.take;have s2:=ke hm ht (k:=k') (show i<=m by omega) oz n2 n4 cX.drop cY.drop;have s3:=ke hm ht (k:=k') (show i<=m by omega) oz s2.1 nd s2.2.2 cd;have s4:=ke hm ht (k:=k') (show i<=m by omega) oz n1 n4 cX.take cY.drop;have s5:=ke hm ht (k:=k') (show i<=m by omega) oz n2 n3 cX.drop cY.take;have hrt:=H8 (ts:=ts) (k:=k') (a:=a) (b:=b) rfl (by rw[<- hx,<- hy];exact h0) (by rw[<- hx,<- hy];exact hmax);rw[<- hx,<- hy,<- hX,<- hY]at hrt;have w1:=ql x n oz oz;have w2:=ql y n oz oz;rw[hnn,<- hX]at w1;rw[hnn,<- hY]at w2;rw[<- hnn]at w1 w2;have pw:=so n oz;rw[show kv n=i+1 by rw[hnn];exact(l2 oz).1,show kC n=true by rw[hnn];exact(l2 oz).2]at pw;refine gc w1 ?_;refine gc w2 ?_;refine gc pw ?_;refine gs (eW (.tmp rfl) (.const _) oz (show _=((2^i:Nat):Int) by rw[fF oz,hnn,fq]) rfl) ?_;refine gs (cT (.tmp rfl) (.none _) (.some _ (.tmp rfl) oz) T67 rfl T45 rfl oz (by simp only[length_map];omega) rfl) ?_;refine gs (eW (.tmp rfl) (.const _) oz (show _=((2^i:Nat):Int) by rw[fF oz,hnn,fq]) rfl) ?_;refine gs (cT (.tmp rfl) (.some _ (.tmp rfl) oz) (.none _) T67 rfl T45 rfl (by simp only[length_map];omega) oz rfl) ?_;refine gs (eW (.tmp rfl) (.const _) oz (show _=((2^i:Nat):Int) by rw[fF oz,hnn,fq]) rfl) ?_;refine gs (cT (.tmp rfl) (.none _) (.some _ (.tmp rfl) oz) T67 rfl T45 rfl oz (by simp only[length_map];omega) rfl) ?_;refine gs (eW (.tmp rfl) (.const _) oz (show _=((2^i:Nat):Int) by rw[fF oz,hnn,fq]) rfl) ?_;refine gs (cT (.tmp rfl) (.some _ (.tmp rfl) oz) (.none _) T67 rfl T45 rfl (by simp only[length_map];omega) oz rfl) ?_;refine gD ?_ (10,0);refine gW (Wk.of (sl:=[(3,some (.ptr 3 0)),(7,some (i64 n)),(8,some (i64 ((i+1:Nat):Int))),(10,some (nA (X.take (2^i)))),(11,some (nA (X.drop (2^i)))),(12,some (nA (Y.take (2^i)))),(13,some (nA (Y.drop (2^i))))]) (hp:=[(3,some (.box [.lst 1 R]))]) (.k (.k (.k (.cons rfl (Sub.of (kU X (2^i))) (.cons rfl (Sub.of (mf X (2^i))) (.cons rfl (Sub.of (kU Y (2^i))) (.cons rfl (Sub.of (mf Y (2^i))) .nil))))))) (.k .nil)) ?_
 refine gc (ih k' oz i _ _ e f oz oz n1 n3 cX.take cY.take oz) ?_;refine gc (ih k' oz i _ _ e f oz oz n2 n4 cX.drop cY.drop oz) ?_;refine ga (show _=(i:Int) by rw[dT oz];omega) ?_;refine gi (hR i oz) ?_;refine gc (ih k' oz i _ _ _ _ oz oz s2.1 nd s2.2.2 cd oz) ?_;refine gc (qf _ _ (fun q hq=>s1.2.2.qs oz hq) (fun q hq=>s3.2.2.qs oz hq) (by have:=s1.1.le;omega) (by have:=s3.1.le;omega)) ?_;refine gD ?_;refine gc (ih k' oz i _ _ e f oz oz n1 n4 cX.take cY.drop oz) ?_;refine gc (ih k' oz i _ _ e f oz oz n2 n3 cX.drop cY.take oz) ?_;refine gc (qf _ _ (fun q hq=>s4.2.2.qs oz hq) (fun q hq=>s5.2.2.qs oz hq) (by have:=s4.1.le;omega) (by have:=s5.1.le;omega)) ?_;refine gD ?_;refine gs (eW (.tmp rfl) (.const _) oz (show _=((2^i:Nat):Int) by rw[fF oz,hnn,fq]) rfl) ?_;refine gt (aJ (Ap 900 rfl _ (2^i) (by have:=s1.1.le;have:=s3.1.le;rw[d7];omega) oz) (bO rfl rfl) aM rfl rfl) ?_;refine gs (eW (.tmp rfl) (.const _) oz (show _=((2^i:Nat):Int) by rw[fF oz,hnn,fq]) rfl) ?_;refine gc (ql _ (2^i) (by have:=s4.1.le;have:=s5.1.le;rw[d7];omega) oz) ?_;refine gs (nK (.tmp rfl) rfl (by have:=s1.1.le;have:=s3.1.le;rw[length_map,dG (by rw[d7];omega)]) (.tmp rfl) T67 rfl T45 rfl rfl (by have:=s4.1.le;have:=s5.1.le;rw[length_map,dG (by rw[d7];omega)];show(2^i+2^i)*56<=140737488355328;omega) rfl rfl) ?_;refine af ?_;rw[hrt,<- map_append];rfl
theorem QC(ts:LL)(m r:Nat)(ht:il ts m r)(hm:m<=5)(R:List AV)(hR:∀j,j<m->R[j]?=some (nA (ts.getD j [])))(i n:Nat)(a:List Rat)(e:Nat)(hi:i+1<=m)(hnn:n=2^(i+1))(hal:a.length=2^(i+1))(ca:Cb e a)(hs:4*e+3*eB r i+r+1<4398046511104) :
  FP 291 [.agg [.lst 1 R],nA a,i64 n] (nA (nZ ts i a)):=by
 have hp2:=Nat.two_pow_pos i;have hpi:2^i<=32:=bY (b:=5) oz;have hps:2^(i+1)=2*2^i:=by rw[Nat.pow_succ];omega
 have n1:Nl i (a.take (2^i)):=.inr ⟨i,le_refl _,fL hal⟩;have n2:Nl i (a.drop (2^i)):=.inr ⟨i,le_refl _,fR hal⟩;have nd:=ht.1 i oz;have cd:=ht.2.cb i;have s1:=ke hm ht (k:=i) (show i<=m by omega) oz n1 n1 ca.take ca.take;have s2:=ke hm ht (k:=i) (show i<=m by omega) oz n2 n2 ca.drop ca.drop;have s3:=ke hm ht (k:=i) (show i<=m by omega) oz s2.1 nd s2.2.2 cd;have w1:=ql a n oz oz;rw[show aY a n=a by unfold aY;rw[hnn,hal];simp]at w1;have pw:=so n oz;rw[show kv n=i+1 by rw[hnn];exact(l2 oz).1,show kC n=true by rw[hnn];exact(l2 oz).2]at pw;refine aj func291 ?_;refine gc w1 ?_;refine gc pw ?_;refine gs (eW (.tmp rfl) (.const _) oz (show _=((2^i:Nat):Int) by rw[fF oz,hnn,fq]) rfl) ?_;refine gs (cT (.tmp rfl) (.none _) (.some _ (.tmp rfl) oz) T67 rfl T45 rfl oz (by simp only[length_map];omega) rfl) ?_;refine gs (eW (.tmp rfl) (.const _) oz (show _=((2^i:Nat):Int) by rw[fF oz,hnn,fq]) rfl) ?_;refine gs (cT (.tmp rfl) (.some _ (.tmp rfl) oz) (.none _) T67 rfl T45 rfl (by simp only[length_map];omega) oz rfl) ?_;refine gD ?_ (4,0);refine gW (Wk.of (sl:=[(3,some (.ptr 3 0)),(7,some (i64 ((i+1:Nat):Int))),(9,some (nA (a.take (2^i)))),(10,some (nA (a.drop (2^i))))]) (hp:=[(3,some (.box [.lst 1 R]))]) (.k (.k (.cons rfl (Sub.of (kU a (2^i))) (.cons rfl (Sub.of (mf a (2^i))) .nil)))) (.k .nil)) ?_;refine gc (vI ts m r ht hm R hR i i _ _ e e oz oz n1 n1 ca.take ca.take oz) ?_;refine gc (vI ts m r ht hm R hR i i _ _ e e oz oz n2 n2 ca.drop ca.drop oz) ?_;refine ga (show _=(i:Int) by rw[dT oz];omega) ?_;refine gi (hR i oz) ?_;refine gc (vI ts m r ht hm R hR i i _ _ _ _ oz oz s2.1 nd s2.2.2 cd oz) ?_;refine gc (zO _ (fun q hq=>s3.2.2.qs oz hq) (by have:=s3.1.le;omega)) ?_;refine gc (qf _ _ (fun q hq=>s1.2.2.qs oz hq) (fun q hq=>s3.2.2.minus.qs oz hq) (by have:=s1.1.le;omega) (by have:=s3.1.le;rw[iJ];omega)) ?_;refine gD ?_;refine af ?_;rfl
theorem xw(ts:LL)(m r:Nat)(ht:il ts m r)(hm:m<=5)(hpos:∀j,j<m->0<=T.sgn (aw ts) j (aw ts j))(R:List AV)(hR:∀j,j<m->R[j]?=some (nA (ts.getD j [])))(j:Nat):∀(a:List Rat)(e:Nat),j<=m->Nl j a->Cb e a->sB r j e<4398046511104 ->
  FP 183 [.agg [.lst 1 R],nA a] (i64 (T.sgn (aw ts) j (ae j a))):=by
 induction j using Nat.strongRecOn
 rename_i j ih;intro a e hj ha ca hs;have hse:=nW r j e;obtain⟨s,hsa⟩:∃s,s=sh j (ae j a):=⟨_,rfl⟩
 have hsd:ae j s=ae j a:=by rw[hsa,bc]
 have hsn:Nl j s:=by rw[hsa];exact di j _
 have cs:Cb e s:=by rw[hsa];exact ca.sh ha
 have hls:=hsn.len5 oz;rw[<- hsd];refine aj func183 ?_;refine gc (hsa▸rh a oz ha) ?_;refine gl ?_;refine gC (fun t15=>?_) (fun t15=>?_)
 ·have h1 : s=[] := List.length_eq_zero_iff.1 (by have := t15;simp only[ac,beq_iff_eq]at this;omega);refine af ?_;rw[h1,gQ,T.sgn_zero];rfl
 have h1:s.length≠0:=by have:=t15;simp only[ac,beq_eq_false_iff_ne,ne_eq]at this;omega
 refine gl ?_;refine gC (fun t19=>?_) (fun t19=>?_)
 ·have h2 : s.length = 1 := by have := t19; simp only [ac, beq_iff_eq] at this; omega
  obtain⟨q,rfl⟩:=List.length_eq_one_iff.1 h2;refine gi rfl ?_;refine gc (v6 (rt q) (cs.qs oz (by simp:q∈[q])).ok) ?_;refine af ?_;rw[lN,T.sgn_ofQ,bP]
 have h2:s.length≠1:=by have:=t19;simp only[ac,beq_eq_false_iff_ne,ne_eq]at this;omega
 obtain⟨i,hij,hsl⟩:∃i,i+1<=j/\s.length=2^(i+1):=by
  rcases oq hsn with h |h |h
  ·exact absurd h h1
  ·exact absurd h h2
  ·exact h
 have hp2:=Nat.two_pow_pos i;have hpi:2^i<=32:=bY (b:=5) oz;have hps:2^(i+1)=2*2^i:=by rw[Nat.pow_succ];omega
 have n1:Nl i (s.take (2^i)):=.inr ⟨i,le_refl _,fL hsl⟩;have n2:Nl i (s.drop (2^i)):=.inr ⟨i,le_refl _,fR hsl⟩;have nd:=ht.1 i oz;have cd:=ht.2.cb i;obtain⟨nn,dn,cn⟩:=NT hm ht oz hsl cs;have b1:sB r i (4*e+3*eB r i+r+1)<=sB r j e:=uu r e hij;have b2:sB r i e<=sB r i (4*e+3*eB r i+r+1):=nI r i oz;have b3:sB r i r<=sB r i (4*e+3*eB r i+r+1):=nI r i oz;have b4:=nW r i (4*e+3*eB r i+r+1);have k1:=ih i oz (s.take (2^i)) e oz n1 cs.take oz;have k2:=ih i oz (s.drop (2^i)) e oz n2 cs.drop oz;have k3:=ih i oz _ r oz nd cd oz;have k4:=ih i oz _ _ oz nn cn oz
 have v3:T.sgn (aw ts) i (ae i (ts.getD i []))=0\/T.sgn (aw ts) i (ae i (ts.getD i []))=1:=by
  have h9:0<=T.sgn (aw ts) i (ae i (ts.getD i [])):=hpos i oz;have:=T.sgn_cases (aw ts) i (ae i (ts.getD i []));omega
 have hres:T.sgn (aw ts) j (ae j s)=T.sgn3 (T.sgn (aw ts) i (ae i (s.take (2^i)))) (T.sgn (aw ts) i (ae i (s.drop (2^i)))) (T.sgn (aw ts) i (ae i (ts.getD i []))) (T.sgn (aw ts) i (ae i (nZ ts i s))):=by
  rw[sG _ oz hij,dn];rfl
 rw[OO v3]at hres;have v1:=T.sgn_cases (aw ts) i (ae i (s.take (2^i)));have v2:=T.sgn_cases (aw ts) i (ae i (s.drop (2^i)));have v4:=T.sgn_cases (aw ts) i (ae i (nZ ts i s));have pw:=so s.length oz;rw[show kv s.length=i+1 by rw[hsl];exact(l2 oz).1,show kC s.length=true by rw[hsl];exact(l2 oz).2]at pw;refine gc pw ?_;refine ga (show _=(i:Int) by rw[dT oz];omega) ?_;refine gi (hR i oz) ?_;refine gs (eW (.tmp rfl) (.const _) oz (show _=((2^i:Nat):Int) by rw[fF oz,hsl,fq]) rfl) ?_;refine gs (cT (.tmp rfl) (.none _) (.some _ (.tmp rfl) oz) T67 rfl T45 rfl oz (by simp only[length_map];omega) rfl) ?_;refine gc (by have h9:=k1;rw[<- kU]at h9;exact h9) ?_;refine gs (eW (.tmp rfl) (.const _) oz (show _=((2^i:Nat):Int) by rw[fF oz,hsl,fq]) rfl) ?_;refine gs (cT (.tmp rfl) (.some _ (.tmp rfl) oz) (.none _) T67 rfl T45 rfl (by simp only[length_map];omega) oz rfl) ?_;refine gc (by have h9:=k2;rw[<- mf]at h9;exact h9) ?_;refine gc k3 ?_;refine ga (xp v2 (.inr v3)) ?_;refine gD ?_;refine gC (fun t57=>?_) (fun t57=>?_)
 ·have e2:=z5 t57;refine af ?_;rw[hres,if_pos e2]
 have e2:=xt t57;refine gC (fun t60=>?_) (fun t60=>?_)
 ·have e3 : T.sgn (aw ts) i (ae i (s.take (2 ^ i))) = 0 := by simpa [ac] using t60
  refine af ?_;rw[hres,if_neg e2,if_pos e3];rfl
 have e3:¬T.sgn (aw ts) i (ae i (s.take (2^i)))=0:=by simpa[ac]using t60
 refine gc (QC ts m r ht hm R hR i s.length s e oz hsl hsl cs oz) ?_;refine gc k4 ?_;refine ga (xp v1 v4) ?_;refine gD ?_;refine af ?_;rw[hres,if_neg e2,if_neg e3];rfl
theorem F0(rs:List (List Rt))(r:Nat)(h:TR rs r):FP 92 [cq rs] (i64 (bt rs)):=by
 have hll:=h.ll;have hr:=h.le;refine aj func92 ?_;refine gl ?_;refine gC (fun t9=>?_) (fun t9=>?_)
 ·have h5 : 5 < rs.length := by have := t9; simp only [ac, decide_eq_true_eq] at this; omega
  refine af ?_;rw[F4 h5];rfl
 have h5:rs.length<=5:=by have:=t9;simp only[ac,decide_eq_false_iff_not]at this;omega
 refine gl ?_;refine a5 [1,11,12] [1] (fun(k:Nat)=>[(13,some (i64 k))]) (fun _=>[]) (fun k=>k<=rs.length/\∀j,j<k->ii rs j) (fun k=>rs.length-k) 0 ⟨zero_le _,fun j hj=>by omega⟩ ?_;rintro k ⟨hk,hj⟩ K1 J1;refine gC (fun t14=>?_) (fun t14=>?_)
 ·have hin : k < rs.length := by simpa [ac] using t14
  obtain⟨d,hd⟩:=aG hin;have hdm:=mem_of_getElem? hd;have hdl:=h.len d hdm;refine gi (aN hd) ?_;refine gl ?_;refine gs (gG (.const _) (.tmp rfl) oz (mX oz) rfl) ?_;refine gC (fun t22=>?_) (fun t22=>?_)
  ·have h1 : d.length ≠ 2 ^ k := by have := t22; simp only [ac, bne_iff_ne, ne_eq] at this; omega
   refine af ?_;rw[Fv h5 hd hj h1];rfl
  have h1:d.length=2^k:=by have:=t22;simp only[ac,bne_eq_false_iff_eq]at this;omega
  have hnu:=DB k oz d (h.ok d hdm) hdl;refine gc hnu ?_;refine gC (fun t27=>?_) (fun t27=>?_)
  ·have h2:=hP t27;refine af ?_;rw[GS h5 hd hj h1 h2]
  have h2:=gf t27;have hts:=Hi (ts:=llq rs) (fun j hjk=>(hj j hjk).nl) h.rb;have hq:=xd h2 (h.ok d hdm);have hcb:Cb r (lq d):=by have:=h.rb.cb k;rw[sK,getD_eq_getElem?_getD,hd]at this;exact this
  have hsg:FP 183 [cq rs,nR d] (i64 (T.sgn (aw (llq rs)) k (ae k (lq d)))):=by
   have h9:=xw ((llq rs).take k) k r hts oz (fun j hjk=>by rw[T.sgn_congr j (fun i hi=>vh (show i<k by omega)),vh hjk];exact(hj j hjk).2.2) (rs.map nR) (fun j hjk=>Qx h.ok (show k<=rs.length by omega) hj hjk) k (lq d) r (le_refl _) hq.2 hcb (nk (le_refl k) (by have:=h.three;omega) hr (by have:=kZ k;omega));rw[T.sgn_congr k (fun j hjk=>vh hjk)]at h9;rw[hq.1,dA];rw[<- hq.1];exact h9
  refine gc hsg ?_;refine gC (fun t32=>?_) (fun t32=>?_)
  ·have h3 : T.sgn (aw (llq rs)) k (ae k (lq d)) < 0 := by simpa [ac] using t32
   refine af ?_;rw[FK h5 hd hj h1 h2 h3];rfl
  have h3:¬T.sgn (aw (llq rs)) k (ae k (lq d))<0:=by simpa[ac]using t32
  refine ga aW ?_;exact aT J1 (k+1) ⟨hin,fun j hjk=>by rcases lt_or_ge j k with h9 |h9;exact hj j h9;(have:j=k:=by omega);subst this;exact Gv hd h1 h2 h3⟩
 have hin:k=rs.length:=by have:rs.length<=k:=(by simpa[ac]using t14);omega
 subst hin;refine af ?_;rw[EN h5 hj];rfl
theorem qV(rs:List (List Rt))(r:Nat)(h:TR rs r)(xs:List (List Rt))(hx:∀a∈xs,(∀x∈a,x.ok)/\a.length<=281474976710656)(hl:xs.length<=281474976710656):FP 182 [cq rs,.lst 1 (xs.map nR)] (i64 (bi rs xs)):=by
 refine aj func182 ?_;refine gc (F0 rs r h) ?_;refine gC (fun t12=>?_) (fun t12=>?_)
 ·have h1:=hP t12;refine af ?_;rw[yQ h1]
 have h1:=gf t12;have h5:rs.length<=5:=by have:=(cI h h1).1.five;rwa [length_map]at this
 refine gl ?_;refine a5 [2,14,15] [2] (fun(i:Nat)=>[(16,some (i64 i))]) (fun _=>[]) (fun i=>i<=xs.length/\∀x∈xs.take i,bZ rs.length x=0) (fun i=>xs.length-i) 0 ⟨zero_le _,fun x hx=>by simp at hx⟩ ?_;rintro i ⟨hi,hj⟩ K1 J1;refine gC (fun t17=>?_) (fun t17=>?_)
 ·have hin : i < xs.length := by simpa [ac] using t17
  obtain⟨a,ha⟩:=aG hin;have hok:=hx a (mem_of_getElem? ha);refine gi (aN ha) ?_;refine gl ?_;refine gc (DB rs.length h5 a hok.1 hok.2) ?_;refine gC (fun t26=>?_) (fun t26=>?_)
  ·have h2:=hP t26;refine af ?_;rw[xg h1 ha hj h2]
  have h2:=gf t26;refine ga aW ?_;exact aT J1 (i+1) ⟨hin,fun x hx=>by rw[d9 ha]at hx;rcases List.mem_append.1 hx with h9 |h9;exact hj x h9;(rw[List.mem_singleton.1 h9];exact h2)⟩
 have hin:i=xs.length:=by have:xs.length<=i:=(by simpa[ac]using t17);omega
 subst hin;rw[take_length]at hj;refine af ?_;rw[nU h1 hj];rfl
theorem Kn(rs:List (List Rt))(r:Nat)(h:TR rs r)(a b:List Rt)(e f:Nat)(ha:NR a e)(hb:NR b f)(he:e+f<=lm rs.length) :
  FP 186 [cq rs,nR a,nR b] (.tup [nA (if bi rs [a,b]=0 then sh rs.length (T.add rs.length (ae rs.length (lq a)) (ae rs.length (lq b)))else[]),i64 (bi rs [a,b])]):=by
 have hlm:=gV rs.length;refine aj func186 ?_;refine gc (qV rs r h [a,b] (m8 ha hb) (by simp)) ?_;refine gC (fun t15=>?_) (fun t15=>?_) (st2:=(77777,0))
 ·have h1:=hP t15;refine gR ?_;exact ef (by rw[if_neg h1];exact Sub.tup (.cons (.nil _ _ _) (.cons (.refl _) .nil)))
 have h1:=gf t15;obtain⟨h2,h3⟩:=jm h1;obtain⟨tw,e0⟩:=cI h h2;obtain⟨e1,na⟩:=ha.num (h3 a (by simp));obtain⟨e2,nb⟩:=hb.num (h3 b (by simp));have h5:rs.length<=5:=by have:=tw.five;rwa [length_map]at this
 have hla:=na.len5 h5;have hlb:=nb.len5 h5;have qa:∀q∈lq a,Qs q:=fun q hq=>ha.cb.qs oz hq
 have qb:∀q∈lq b,Qs q:=fun q hq=>hb.cb.qs oz hq
 have qp:∀q∈cf (lq a) (lq b),Qs q:=fun q hq=>(ha.cb.plus hb.cb).qs oz hq
 have np:=mV na nb;refine gW (Wk.of (sl:=[(1,some (nA (lq a))),(2,some (nA (lq b))),(3,some (.ptr 3 0)),(8,some (i64 (bi rs [a,b])))]) (hp:=[(3,some (.box [.lst 1 (rs.map nR)]))]) (.cons rfl (Sub.of e1) (.cons rfl (Sub.of e2) (.k (.k .nil)))) (.k .nil)) ?_;refine gc (qf _ _ qa qb oz oz) ?_;refine gc (rh _ h5 np) ?_;refine bF ?_;rw[if_pos h1,h1,io];rfl
theorem QB(rs:List (List Rt))(r:Nat)(h:TR rs r)(a b:List Rt)(e f:Nat)(ha:NR a e)(hb:NR b f)(he:e+f<=lm rs.length) :
  FP 359 [cq rs,nR a,nR b] (.tup [nA (if bi rs [a,b]=0 then sh rs.length (T.add rs.length (ae rs.length (lq a)) (T.neg rs.length (ae rs.length (lq b))))else[]),i64 (bi rs [a,b])]):=by
 have hlm:=gV rs.length;refine aj func359 ?_;refine gc (qV rs r h [a,b] (m8 ha hb) (by simp)) ?_;refine gC (fun t15=>?_) (fun t15=>?_) (st2:=(77777,0))
 ·have h1:=hP t15;refine gR ?_;exact ef (by rw[if_neg h1];exact Sub.tup (.cons (.nil _ _ _) (.cons (.refl _) .nil)))
 have h1:=gf t15;obtain⟨h2,h3⟩:=jm h1;obtain⟨tw,e0⟩:=cI h h2;obtain⟨e1,na⟩:=ha.num (h3 a (by simp));obtain⟨e2,nb⟩:=hb.num (h3 b (by simp));have h5:rs.length<=5:=by have:=tw.five;rwa [length_map]at this
 have hla:=na.len5 h5;have hlb:=nb.len5 h5;have qa:∀q∈lq a,Qs q:=fun q hq=>ha.cb.qs oz hq
 have qb:∀q∈lq b,Qs q:=fun q hq=>hb.cb.qs oz hq
 have qm:∀q∈cF (lq b),Qs q:=fun q hq=>hb.cb.minus.qs oz hq
 have qp:∀q∈cf (lq a) (cF (lq b)),Qs q:=fun q hq=>(ha.cb.plus hb.cb.minus).qs oz hq
 have np:=mV na (oO nb);refine gW (Wk.of (sl:=[(1,some (nA (lq a))),(2,some (nA (lq b))),(3,some (.ptr 3 0)),(8,some (i64 (bi rs [a,b])))]) (hp:=[(3,some (.box [.lst 1 (rs.map nR)]))]) (.cons rfl (Sub.of e1) (.cons rfl (Sub.of e2) (.k (.k .nil)))) (.k .nil)) ?_;refine gc (zO _ qb oz) ?_;refine gc (qf _ _ qa qm oz (by rw[iJ];omega)) ?_;refine gc (rh _ h5 np) ?_;refine bF ?_;rw[if_pos h1,h1,io,l0];rfl
theorem Oc(rs:List (List Rt))(r:Nat)(h:TR rs r)(a b:List Rt)(e f:Nat)(ha:NR a e)(hb:NR b f)(he:e+f<=lm rs.length) :
  FP 95 [cq rs,nR a,nR b] (.tup [nA (if bi rs [a,b]=0 then sh rs.length (T.mul (aw (llq rs)) rs.length (ae rs.length (lq a)) (ae rs.length (lq b)))else[]),i64 (bi rs [a,b])]):=by
 have hr:=h.le;have hlm:=gV rs.length;refine aj func95 ?_;refine gc (qV rs r h [a,b] (m8 ha hb) (by simp)) ?_;refine gC (fun t15=>?_) (fun t15=>?_) (st2:=(77777,0))
 ·have h1:=hP t15;refine gR ?_;exact ef (by rw[if_neg h1];exact Sub.tup (.cons (.nil _ _ _) (.cons (.refl _) .nil)))
 have h1:=gf t15;obtain⟨h2,h3⟩:=jm h1;obtain⟨tw,e0⟩:=cI h h2;obtain⟨e1,na⟩:=ha.num (h3 a (by simp));obtain⟨e2,nb⟩:=hb.num (h3 b (by simp));have hlen:(llq rs).length=rs.length:=length_map _;have h5:rs.length<=5:=by have:=tw.five;omega
 have hla:=na.len5 h5;have hlb:=nb.len5 h5;have htw:=tw.ok;rw[hlen]at htw;have hE:=HY r h5;have np:=ke h5 htw (k:=rs.length) (le_refl rs.length) (le_refl _) na nb ha.cb hb.cb;have hti:=vI (llq rs) rs.length r htw h5 ((llq rs).map nA) (fun j hj=>p9 oz) rs.length rs.length _ _ e f (le_refl _) (le_refl _) na nb ha.cb hb.cb oz;refine gW (Wk.of (sl:=[(1,some (nA (lq a))),(2,some (nA (lq b))),(3,some (.ptr 3 0)),(8,some (i64 (bi rs [a,b])))]) (hp:=[(3,some (.box [.lst 1 ((llq rs).map nA)]))]) (.cons rfl (Sub.of e1) (.cons rfl (Sub.of e2) (.k (.k .nil)))) (.cons rfl (BlkSub.bL (.cons (.of (lJ e0)) .nil) rfl) .nil)) ?_;refine gc hti ?_;refine gc (rh _ h5 np.1) ?_;refine bF ?_;rw[if_pos h1,h1,np.2.1];rfl
theorem O2(rs:List (List Rt))(r:Nat)(h:TR rs r)(a b:List Rt)(e f:Nat)(ha:NR a e)(hb:NR b f)(he:e+f+1<=lm rs.length) :
  FP 86 [cq rs,nR a,nR b] (.tup [i64 (if bi rs [a,b]=0 then T.sgn (aw (llq rs)) rs.length (T.add rs.length (ae rs.length (lq a)) (T.neg rs.length (ae rs.length (lq b))))else 0),i64 (bi rs [a,b])]):=by
 have hr:=h.le;have hlm:=gV rs.length;refine aj func86 ?_;refine gc (qV rs r h [a,b] (m8 ha hb) (by simp)) ?_;refine gC (fun t15=>?_) (fun t15=>?_) (st2:=(77777,0))
 ·have h1:=hP t15;refine bF ?_;rw[if_neg h1];rfl
 have h1:=gf t15;obtain⟨h2,h3⟩:=jm h1;obtain⟨tw,e0⟩:=cI h h2;obtain⟨e1,na⟩:=ha.num (h3 a (by simp));obtain⟨e2,nb⟩:=hb.num (h3 b (by simp));have hlen:(llq rs).length=rs.length:=length_map _;have h5:rs.length<=5:=by have:=tw.five;omega
 have hla:=na.len5 h5;have hlb:=nb.len5 h5;have htw:=tw.ok;rw[hlen]at htw;have qa:∀q∈lq a,Qs q:=fun q hq=>ha.cb.qs oz hq
 have qb:∀q∈lq b,Qs q:=fun q hq=>hb.cb.qs oz hq
 have qm:∀q∈cF (lq b),Qs q:=fun q hq=>hb.cb.minus.qs oz hq
 have np:=mV na (oO nb);have hsg:=xw (llq rs) rs.length r htw h5 (fun j hj=>tw.pos j oz) ((llq rs).map nA) (fun j hj=>p9 oz) rs.length _ _ (le_refl _) np (ha.cb.plus hb.cb.minus) (nk (le_refl rs.length) (by have:=tw.three;omega) hr oz);refine gW (Wk.of (sl:=[(1,some (nA (lq a))),(2,some (nA (lq b))),(3,some (.ptr 3 0)),(8,some (i64 (bi rs [a,b])))]) (hp:=[(3,some (.box [.lst 1 ((llq rs).map nA)]))]) (.cons rfl (Sub.of e1) (.cons rfl (Sub.of e2) (.k (.k .nil)))) (.cons rfl (BlkSub.bL (.cons (.of (lJ e0)) .nil) rfl) .nil)) ?_;refine gc (zO _ qb oz) ?_;refine gc (qf _ _ qa qm oz (by rw[iJ];omega)) ?_;refine gc hsg ?_;refine gD ?_;refine bF ?_;rw[if_pos h1,h1,io,l0];rfl
theorem Kw(rs:List (List Rt))(r:Nat)(h:TR rs r)(a:List Rt)(e:Nat)(ha:NR a e)(he:e<=lm rs.length) :
  FP 94 [cq rs,nR a] (.tup [i64 (if bi rs [a]=0 then T.sgn (aw (llq rs)) rs.length (ae rs.length (lq a))else 0),i64 (bi rs [a])]):=by
 have hr:=h.le;have hlm:=gV rs.length;refine aj func94 ?_;refine gc (qV rs r h [a] (fun x hx=>by rw[List.mem_singleton.1 hx];exact⟨ha.ok,ha.len⟩) (by simp)) ?_;refine gC (fun t12=>?_) (fun t12=>?_) (st2:=(77777,0))
 ·have h1:=hP t12;refine bF ?_;rw[if_neg h1];rfl
 have h1:=gf t12;obtain⟨h2,h3⟩:=jm h1;obtain⟨tw,e0⟩:=cI h h2;obtain⟨e1,na⟩:=ha.num (h3 a (by simp));have hlen:(llq rs).length=rs.length:=length_map _;have h5:rs.length<=5:=by have:=tw.five;omega
 have htw:=tw.ok;rw[hlen]at htw;have hsg:=xw (llq rs) rs.length r htw h5 (fun j hj=>tw.pos j oz) ((llq rs).map nA) (fun j hj=>p9 oz) rs.length _ _ (le_refl _) na ha.cb (nk (le_refl rs.length) (by have:=tw.three;omega) hr oz);refine gW (Wk.of (sl:=[(1,some (nA (lq a))),(2,some (.ptr 2 0)),(6,some (i64 (bi rs [a])))]) (hp:=[(2,some (.box [.lst 1 ((llq rs).map nA)]))]) (.cons rfl (Sub.of e1) (.k (.k .nil))) (.cons rfl (BlkSub.bL (.cons (.of (lJ e0)) .nil) rfl) .nil)) ?_;refine gc hsg ?_;refine bF ?_;rw[if_pos h1,h1];rfl
theorem J0(rs:List (List Rt))(r:Nat)(h:TR rs r)(a:List Rt)(e:Nat)(ha:NR a e)(he:e<=lm rs.length) :
  FP 93 [cq rs,nR a] (.tup [nA (if bi rs [a]=0 then aY (lq a) (2^rs.length)else[]),i64 (bi rs [a])]):=by
 have hlm:=gV rs.length;refine aj func93 ?_;refine gc (qV rs r h [a] (fun x hx=>by rw[List.mem_singleton.1 hx];exact⟨ha.ok,ha.len⟩) (by simp)) ?_;refine gC (fun t12=>?_) (fun t12=>?_) (st2:=(77777,0))
 ·have h1:=hP t12;refine gR ?_;exact ef (by rw[if_neg h1];exact Sub.tup (.cons (.nil _ _ _) (.cons (.refl _) .nil)))
 have h1:=gf t12;obtain⟨h2,h3⟩:=jm h1;obtain⟨tw,e0⟩:=cI h h2;obtain⟨e1,na⟩:=ha.num (h3 a (by simp));have hlen:(llq rs).length=rs.length:=length_map _;have h5:rs.length<=5:=by have:=tw.five;omega
 have hp5:2^rs.length<=32:=bY (b:=5) h5;refine gW (Wk.of (sl:=[(1,some (nA (lq a))),(2,some (.ptr 2 0)),(6,some (i64 (bi rs [a])))]) (hp:=[(2,some (.box [.lst 1 (rs.map nR)]))]) (.cons rfl (Sub.of e1) (.k (.k .nil))) (.k .nil)) ?_;refine gl ?_;refine gs (gG (.const _) (.tmp rfl) oz (mX oz) rfl) ?_;refine gc (ql _ _ na.le oz) ?_;refine bF ?_;rw[if_pos h1,h1];rfl
theorem yT(x:Rt)(hx:x.ok)(hs:Qs x.q):FP 60 [x.av] (nA (sh 0 (x.q:Rat))):=by
 have hadd:=vH x (rt 0) hx Qs.zero.ok;rw[vD]at hadd;refine aj func60 ?_;refine gc (v6 x hx) ?_;refine gC (fun t5=>?_) (fun t5=>?_)
 ·have h0 : x.q=0 := lY (by simpa[ac]using t5);refine gR ?_;exact iF (by rw[h0];exact Sub.nil _ _ _)
 have h0:x.q≠0:=fun h=>by rw[h]at t5;cases t5
 refine gc (Con.sA (.cons (.refl _) (.cons jz .nil)) hadd) ?_;refine af ?_;have:sh 0 (x.q:Rat)=[x.q]:=if_neg h0;rw[this];rfl
theorem BB{p q:Rat}(hp:Qs p)(hq:Qs q):FP 231 [qA p,qA q] (qA (p+q)):=by
 have h:=rv (rt p) (rt q) hp.ok hq.ok;rw[bP,bP]at h;exact h
theorem u9{p q:Rat}(hp:Qs p)(hq:Qs q):FP 262 [qA p,qA q] (qA (p-q)):=by
 have h:=MC (rt p) (rt q) hp.ok hq.ok;rw[bP,bP]at h;exact h
theorem tH{p q:Rat}(hp:Qs p)(hq:Qs q):FP 286 [qA p,qA q] (qA (p*q)):=by
 have h:=Gz (rt p) (rt q) hp.ok hq.ok;rw[bP,bP]at h;exact h
theorem Tc{p q:Rat}(hp:Qs p)(hq:Qs q):FP 385 [qA p,qA q] (.tup [qA (p/q),cg (if q=0 then 8 else 0)]):=by
 have h:=GE (rt p) (rt q) hp.ok hq.ok;rw[bP,bP]at h;exact h
theorem Mi{p:Rat}(hp:Qs p):FP 209 [qA p] (i64 (bN p)):=by
 have h:=uP (rt p) hp.ok;rw[bP]at h;exact h
theorem AK{p q:Rat}(hp:Qs p)(hq:Qs q):FP 139 [qA p,qA q] (qA (p+q)):=by
 have h:=vH (rt p) (rt q) hp.ok hq.ok;rw[bP,bP]at h;exact h
theorem Ns{p q:Rat}(hp:Qs p)(hq:Qs q):FP 108 [qA p,qA q] (qA (p-q)):=by
 have h:=Cc (rt p) (rt q) hp.ok hq.ok;rw[bP,bP]at h;exact h
theorem BI{p q:Rat}(hp:Qs p)(hq:Qs q):FP 140 [qA p,qA q] (qA (p*q)):=by
 have h:=EB (rt p) (rt q) hp.ok hq.ok;rw[bP,bP]at h;exact h
theorem LH{p q:Rat}(hp:Qs p)(hq:Qs q):FP 249 [qA p,qA q] (.tup [qA (p/q),i64 (if q=0 then 8 else 0)]):=by
 have h:=Tm (rt p) (rt q) hp.ok hq.ok;rw[bP,bP]at h;exact h
theorem HI(x:Tn)(hx:x.t.ok):FP 105 [x.av] (cg x.err):=by
 refine aj func105 ?_;refine gc (sw x.t hx) ?_;refine bT (fun _=>(uP x.t hx)) ?_;refine gC (fun t16=>?_) (fun t16=>?_)
 ·have h0:=Tn.err_yes t16;refine af ?_;rw[h0];rfl
 have h0:=Tn.err_no t16;refine af ?_;rw[h0];rfl
theorem F7{p q:Rat}(hp:Qs p)(hq:Qs q):FP 353 [qA p,qA q] (qA (p/q)):=by
 refine aj func353 ?_;refine gc (Tc hp hq) ?_;refine gC (fun t14=>?_) (fun t14=>?_)
 ·have h0:q=0:=by
   have:=fp t14
   by_cases h:q=0
   ·exact h
   ·rw[if_neg h]at this;exact absurd rfl this
  refine gR ?_;exact iF (by rw[h0,R5];exact jz)
 refine af ?_;rfl
theorem Fn(half:Bool){t:Rat}{e:Nat}(ht:Qb e t)(he:e<=1000000):FP 256 [Tn.av ⟨rt t,half⟩] (.tup [qA (dM half t),qA (dP half t)]):=by
 have qt:Qs t:=ht.qs oz;have m2:=ht.mul ht;have one:Qb 1 (((1:Int):Rat)):=Qb.one;have d:=one.add m2;refine aj func256 ?_;refine gC (fun t8=>?_) (fun t8=>?_)
 ·have h0:half=true:=t8;refine gc (mY (-1) oz) ?_;refine gR ?_;exact ef (by subst h0;exact Sub.tup (.cons (.refl _) (.cons jz .nil)))
 have h0:half=false:=t8;refine gc (mY 1 oz) ?_;refine gc (tH qt qt) ?_;refine gD ?_;refine gc (BB (one.qs oz) (m2.qs oz)) ?_;refine gc (u9 (one.qs oz) (m2.qs oz)) ?_;refine gc (F7 ((one.sub m2).qs oz) (d.qs oz)) ?_;refine gc (BB qt qt) ?_;refine gc (F7 ((ht.add ht).qs oz) (d.qs oz)) ?_;refine gD ?_;refine bF ?_;subst h0;rfl
theorem Hq(x:Tn)(hx:x.t.ok){e:Nat}(hq:Qb e x.t.q)(he:e<=1000000):FP 148 [x.av] (.tup [qA (if x.err=0 then dM x.half x.t.q else 0),cg x.err]):=by
 refine aj func148 ?_;refine gc (HI x hx) ?_;refine gC (fun t10=>?_) (fun t10=>?_)
 ·have h1:=fp t10;refine gR ?_;exact ef (by rw[if_neg h1];exact Sub.tup (.cons jz (.cons (.refl _) .nil)))
 have h1:=eM t10;have hd:=Fn x.half hq he;rw[<- Rt.eq_rt hx (Tn.ok_valid h1)]at hd;refine gc hd ?_;refine bF ?_;rw[if_pos h1,h1];rfl
theorem MQ(x:Tn)(hx:x.t.ok){e:Nat}(hq:Qb e x.t.q)(he:e<=1000000):FP 149 [x.av] (.tup [qA (if x.err=0 then dP x.half x.t.q else 0),cg x.err]):=by
 refine aj func149 ?_;refine gc (HI x hx) ?_;refine gC (fun t10=>?_) (fun t10=>?_)
 ·have h1:=fp t10;refine gR ?_;exact ef (by rw[if_neg h1];exact Sub.tup (.cons jz (.cons (.refl _) .nil)))
 have h1:=eM t10;have hd:=Fn x.half hq he;rw[<- Rt.eq_rt hx (Tn.ok_valid h1)]at hd;refine gc hd ?_;refine bF ?_;rw[if_pos h1,h1];rfl
theorem Bl:FP 142 [] (qA 1):=by
 refine aj func142 ?_;refine gc (qL 1 oz) ?_;refine af ?_
 first |rfl |(simp;done)
theorem E2{p q:Rat}(hp:Qs p)(hq:Qs q):FP 141 [qA p,qA q] (qA (p/q)):=by
 refine aj func141 ?_;refine gc (LH hp hq) ?_;refine af ?_
 first |rfl |(simp;done)
theorem I5(half:Bool){t:Rat}{e:Nat}(ht:Qb e t)(he:e<=1000000):FP 61 [Tn.av ⟨rt t,half⟩] (qA (dM half t)):=by
 have qt:Qs t:=ht.qs oz;have m2:=ht.mul ht;have d:=Qb.one.add m2;refine aj func61 ?_;refine gC (fun t5=>?_) (fun t5=>?_)
 ·have h0:half=true:=t5;refine gc (qL (-1) oz) ?_;refine af ?_;subst h0;rfl
 have h0:half=false:=t5;refine gc (BI qt qt) ?_;refine gc Bl ?_;refine gc (Ns (Qb.one.qs oz) (m2.qs oz)) ?_;refine gc Bl ?_;refine gc (AK (Qb.one.qs oz) (m2.qs oz)) ?_;refine gc (E2 ((Qb.one.sub m2).qs oz) (d.qs oz)) ?_;refine gD ?_;refine af ?_;subst h0;rfl
theorem VA(half:Bool){t:Rat}{e:Nat}(ht:Qb e t)(he:e<=1000000):FP 62 [Tn.av ⟨rt t,half⟩] (qA (dP half t)):=by
 have qt:Qs t:=ht.qs oz;have m2:=ht.mul ht;have d:=Qb.one.add m2;refine aj func62 ?_;refine gC (fun t4=>?_) (fun t4=>?_)
 ·have h0:half=true:=t4;refine gR ?_;exact iF (by subst h0;exact jz)
 have h0:half=false:=t4;refine gc (AK qt qt) ?_;refine gc Bl ?_;refine gc (BI qt qt) ?_;refine gc (AK (Qb.one.qs oz) (m2.qs oz)) ?_;refine gc (E2 ((ht.add ht).qs oz) (d.qs oz)) ?_;refine gD ?_;refine af ?_;subst h0;rfl
theorem NP(a:Rt)(ha:a.ok):FP 244 [a.av] (bl (decide (a.q=0))):=by
 refine aj func244 ?_;refine gc (v6 a ha) ?_;refine af ?_;exact congrArg bl (FB a.q)
theorem UV(x:Tn)(hx:x.t.ok):FP 133 [x.av] (bl (decide (x.err=0))):=by
 refine aj func133 ?_;refine gc (om x.t hx) ?_;refine bT (fun _=>(NP x.t hx)) ?_;refine af ?_;exact congrArg bl (Tn.err_dec x)
theorem R8(p:Plc)(hx:p.x.ok)(hy:p.y.ok):FP 134 [p.av] (bl (p.x.valid&&p.y.valid)):=by
 refine aj func134 ?_;refine gc (om p.x hx) ?_;refine bT (fun _=>(om p.y hy)) ?_;refine af ?_;exact congrArg bl (gX _ _)
theorem QX(p:Pse)(ht:p.turn.t.ok)(hx:p.at_.x.ok)(hy:p.at_.y.ok):FP 57 [p.av] (bl p.ok):=by
 refine aj func57 ?_;refine gc (UV p.turn ht) ?_;refine bT (fun _=>(R8 p.at_ hx hy)) ?_;refine af ?_;exact congrArg bl ((gX _ _).trans (Bool.and_assoc _ _ _).symm)
theorem yS{ts:LL}{r e f:Nat}(tw:Tw ts r){a b:List Rat}(ha:Nm ts.length e a)(hb:Nm ts.length f b)(he:e+f<=lm ts.length) :
  FP 356 [aR ts,nA a,nA b] (.tup [nA (sh ts.length (T.add ts.length (ae ts.length a) (ae ts.length b))),.v .nilIface]):=by
 have h:=OC (ts.map (List.map rt)) r tw.tr (a.map rt) (b.map rt) e f (ha.rt oz) (hb.rt oz) (by rw[length_map];exact he);have h0:bi (ts.map (List.map rt)) [a.map rt,b.map rt]=0:=mZ tw ha hb;rw[h0,if_pos rfl,gO,dA,dA,cU,cU,length_map]at h;exact h
theorem nP{ts:LL}{r e f:Nat}(tw:Tw ts r){a b:List Rat}(ha:Nm ts.length e a)(hb:Nm ts.length f b)(he:e+f<=lm ts.length) :
  FP 176 [aR ts,nA a,nA b] (.tup [nA (sh ts.length (T.add ts.length (ae ts.length a) (T.neg ts.length (ae ts.length b)))),.v .nilIface]):=by
 have h:=Kz (ts.map (List.map rt)) r tw.tr (a.map rt) (b.map rt) e f (ha.rt oz) (hb.rt oz) (by rw[length_map];exact he);have h0:bi (ts.map (List.map rt)) [a.map rt,b.map rt]=0:=mZ tw ha hb;rw[h0,if_pos rfl,gO,dA,dA,cU,cU,length_map]at h;exact h
theorem Be{ts:LL}{r e f:Nat}(tw:Tw ts r){a b:List Rat}(ha:Nm ts.length e a)(hb:Nm ts.length f b)(he:e+f<=lm ts.length) :
  FP 127 [aR ts,nA a,nA b] (.tup [nA (sh ts.length (T.mul (aw ts) ts.length (ae ts.length a) (ae ts.length b))),.v .nilIface]):=by
 have h:=I6 (ts.map (List.map rt)) r tw.tr (a.map rt) (b.map rt) e f (ha.rt oz) (hb.rt oz) (by rw[length_map];exact he);have h0:bi (ts.map (List.map rt)) [a.map rt,b.map rt]=0:=mZ tw ha hb;rw[h0,if_pos rfl,gO,dA,dA,nD,cU,cU,length_map]at h;exact h
theorem IP{ts:LL}{r e:Nat}(tw:Tw ts r){a:List Rat}(ha:Nm ts.length e a)(he:e<=lm ts.length) :
  FP 116 [aR ts,nA a] (.tup [i64 (T.sgn (aw ts) ts.length (ae ts.length a)),.v .nilIface]):=by
 have h:=Ru (ts.map (List.map rt)) r tw.tr (a.map rt) e (ha.rt he) (by rw[length_map];exact he);have h0:bi (ts.map (List.map rt)) [a.map rt]=0:=vu tw ha;rw[h0,if_pos rfl,gO,dA,nD,cU,length_map]at h;exact h
theorem Nc{ts:LL}{r e f:Nat}(tw:Tw ts r){a b:List Rat}(ha:Nm ts.length e a)(hb:Nm ts.length f b)(he:e+f<=lm ts.length) :
  FP 186 [aR ts,nA a,nA b] (.tup [nA (sh ts.length (T.add ts.length (ae ts.length a) (ae ts.length b))),i64 0]):=by
 have h:=Kn (ts.map (List.map rt)) r tw.tr (a.map rt) (b.map rt) e f (ha.rt oz) (hb.rt oz) (by rw[length_map];exact he);have h0:bi (ts.map (List.map rt)) [a.map rt,b.map rt]=0:=mZ tw ha hb;rw[h0,if_pos rfl,gO,dA,dA,cU,cU,length_map]at h;exact h
theorem Sl{ts:LL}{r e f:Nat}(tw:Tw ts r){a b:List Rat}(ha:Nm ts.length e a)(hb:Nm ts.length f b)(he:e+f<=lm ts.length) :
  FP 359 [aR ts,nA a,nA b] (.tup [nA (sh ts.length (T.add ts.length (ae ts.length a) (T.neg ts.length (ae ts.length b)))),i64 0]):=by
 have h:=QB (ts.map (List.map rt)) r tw.tr (a.map rt) (b.map rt) e f (ha.rt oz) (hb.rt oz) (by rw[length_map];exact he);have h0:bi (ts.map (List.map rt)) [a.map rt,b.map rt]=0:=mZ tw ha hb;rw[h0,if_pos rfl,gO,dA,dA,cU,cU,length_map]at h;exact h
theorem Of{ts:LL}{r e f:Nat}(tw:Tw ts r){a b:List Rat}(ha:Nm ts.length e a)(hb:Nm ts.length f b)(he:e+f<=lm ts.length) :
  FP 95 [aR ts,nA a,nA b] (.tup [nA (sh ts.length (T.mul (aw ts) ts.length (ae ts.length a) (ae ts.length b))),i64 0]):=by
 have h:=Oc (ts.map (List.map rt)) r tw.tr (a.map rt) (b.map rt) e f (ha.rt oz) (hb.rt oz) (by rw[length_map];exact he);have h0:bi (ts.map (List.map rt)) [a.map rt,b.map rt]=0:=mZ tw ha hb;rw[h0,if_pos rfl,gO,dA,dA,nD,cU,cU,length_map]at h;exact h
theorem OG{ts:LL}{r e f:Nat}(tw:Tw ts r){a b:List Rat}(ha:Nm ts.length e a)(hb:Nm ts.length f b)(he:e+f+1<=lm ts.length) :
  FP 86 [aR ts,nA a,nA b] (.tup [i64 (T.sgn (aw ts) ts.length (T.add ts.length (ae ts.length a) (T.neg ts.length (ae ts.length b)))),i64 0]):=by
 have h:=O2 (ts.map (List.map rt)) r tw.tr (a.map rt) (b.map rt) e f (ha.rt oz) (hb.rt oz) (by rw[length_map];exact he);have h0:bi (ts.map (List.map rt)) [a.map rt,b.map rt]=0:=mZ tw ha hb;rw[h0,if_pos rfl,gO,dA,dA,nD,cU,cU,length_map]at h;exact h
theorem Vq{ts:LL}{r e:Nat}(tw:Tw ts r){a:List Rat}(ha:Nm ts.length e a)(he:e<=lm ts.length) :
  FP 94 [aR ts,nA a] (.tup [i64 (T.sgn (aw ts) ts.length (ae ts.length a)),i64 0]):=by
 have h:=Kw (ts.map (List.map rt)) r tw.tr (a.map rt) e (ha.rt he) (by rw[length_map];exact he);have h0:bi (ts.map (List.map rt)) [a.map rt]=0:=vu tw ha;rw[h0,if_pos rfl,gO,dA,nD,cU,length_map]at h;exact h
theorem zF{ts:LL}{r e:Nat}(tw:Tw ts r){a:List Rat}(ha:Nm ts.length e a)(he:e<=lm ts.length) :
  FP 147 [aR ts,nA a] (.tup [nA (sh ts.length (T.neg ts.length (ae ts.length a))),.v .nilIface]):=by
 have h:=CC (ts.map (List.map rt)) r tw.tr (a.map rt) e (ha.rt he) (by rw[length_map];exact he);have h0:bi (ts.map (List.map rt)) [a.map rt]=0:=vu tw ha;rw[h0,if_pos rfl,gO,dA,cU,length_map]at h;exact h
theorem NV{ts:LL}{r:Nat}(tw:Tw ts r):FP 144 [aR ts] (.v .nilIface):=by
 have h:=r5 (ts.map (List.map rt)) r tw.tr;rw[tw.chk,gO]at h;exact h
theorem oE{q:Rat}(h:Qs q):FP 165 [qA q] (nA (sh 0 (q:Rat))):=by
 have h1:=RU (rt q) h.ok (by rw[bP];exact h);rw[bP]at h1;exact h1
theorem pH{q:Rat}(h:Qs q):FP 60 [qA q] (nA (sh 0 (q:Rat))):=by
 have h1:=yT (rt q) h.ok (by rw[bP];exact h);rw[bP]at h1;exact h1
theorem uJ{ts:LL}{r e:Nat}(tw:Tw ts r)(ls:LL)(hl:∀l∈ls,Nm ts.length e l)(he:e<=lm ts.length)(hn:ls.length<=1000):FP 190 [aR ts,.lst 1 (ls.map nA)] (.v .nilIface):=by
 refine aj func190 ?_;refine gc (NV tw) ?_;refine gC (fun t13=>?_) (fun t13=>?_) (st1:=(3,0));cases t13;refine gl ?_;refine a5 [2,15,16] [2] (fun(i:Nat)=>[(17,some (i64 i))]) (fun _=>[]) (fun i=>i<=ls.length) (fun i=>ls.length-i) 0 (zero_le _) ?_;rintro i hi K1 J1;refine gC (fun t18=>?_) (fun t18=>?_)
 ·have hin : i < ls.length := by simpa [ac] using t18
  obtain⟨l,hll⟩:=aG hin;have hok:=hl l (mem_of_getElem? hll);refine gi (aN hll) ?_;refine gc (zF tw hok he) ?_;refine gC (fun t28=>?_) (fun t28=>?_) (st1:=(9,0));cases t28;refine ga aW ?_;exact aT J1 (i+1) hin
 have hin:i=ls.length:=by have:ls.length<=i:=(by simpa[ac]using t18);omega
 refine af ?_
 first |rfl |(simp;done)
theorem rO{ts:LL}{r e:Nat}(tw:Tw ts r)(ps:List (List Rat×List Rat))(hl:∀p∈ps,Nm ts.length e p.1/\Nm ts.length e p.2)(he:e<=lm ts.length)(hn:ps.length<=500):FP 171 [aR ts,.lst 2 (ps.map fun p=>aK p.1 p.2)] (.v .nilIface):=by
 refine aj func171 ?_;refine gl ?_;refine gW (Wk.virt 900 1 rfl) ?_;refine a5 [2,8,9] [2] (fun(i:Nat)=>[(5,some (.ms 900 1 0 (2*i))),(10,some (i64 i))]) (fun i=>[(900,some (.row 1 ((i7 (ps.take i)).map nA)))]) (fun i=>i<=ps.length) (fun i=>ps.length-i) 0 (zero_le _) ?_;rintro i hi K1 J1;refine gC (fun t11=>?_) (fun t11=>?_) (st2:=(7,0))
 ·have hin : i < ps.length := by simpa [ac] using t11
  obtain⟨p,hp⟩:=aG hin;have hfl:(i7 (ps.take i)).length=2*i:=by rw[vN,length_take];omega
  refine gi (aN hp) ?_;refine gs (da (.tmp rfl) rfl (by rw[length_map,hfl]) (.tmp rfl) T35 rfl T67 rfl rfl (by simp;omega) rfl rfl) ?_ (6,0);refine gW (Wk.of (sl:=[(2,some (.ptr 2 0)),(5,some (.ms 20 1 0 (2*i+2))),(8,some (.lst 2 (ps.map fun p=>aK p.1 p.2))),(9,some (i64 ps.length)),(10,some (i64 i))]) (hp:=[(2,some (.box [.lst 1 (ts.map nA)])),(20,some (.row 1 ((i7 (ps.take (i+1))).map nA)))]) bj (.k (.cons rfl (BlkSub.of (by rw[d9 hp,EO,map_append];rfl)) .nil))) ?_ (6,0);refine gW (Wk.rk (k:=20) (d:=900) rfl rfl) ?_;refine ga aW ?_;exact aT J1 (i+1) hin
 have hin:i=ps.length:=by have:ps.length<=i:=(by simpa[ac]using t11);omega
 subst hin;refine gW ((Wk.freeze (k:=900) rfl).trans<|Wk.of (sl:=[(2,some (.ptr 2 0)),(5,some (.lst 1 ((i7 ps).map nA)))]) (hp:=[(2,some (.box [.lst 1 (ts.map nA)]))]) (.k (.cons rfl (Sub.of (by rw[cw (by rw[length_map,vN,length_take];omega),take_length])) .nil)) (.k .nil)) ?_;refine gc (uJ tw (i7 ps) (EY hl) he (by rw[vN];omega)) ?_;refine af ?_
 first |rfl |(simp;done)
theorem AQ(R:List AV)(a:List Rat):Con prog 357 [.ptr 1000 0,nA a,.v .nilIface] [(1000,some (.box [.lst 1 R,.v .nilIface]))] (nA a) [(1000,some (.box [.lst 1 R,.v .nilIface]))]:=by
 refine gF func357 (fun k z h=>bG h) ?_;refine gC (fun t11=>?_) (fun t11=>?_) (st2:=(77777,0))
 ·refine gR ?_;exact aH.keep (bu rfl)
 cases t11
theorem w9{ts:LL}{r e f:Nat}(tw:Tw ts r){a b:List Rat}(ha:Nm ts.length e a)(hb:Nm ts.length f b)(he:e+f<=lm ts.length) :
  Con prog 285 [.ptr 1000 0,nA a,nA b] [(1000,some (gL ts))] (nA (sh ts.length (T.add ts.length (ae ts.length a) (ae ts.length b)))) [(1000,some (gL ts))]:=by
 refine gF func285 (fun k z h=>bG h) ?_;refine gc (yS tw ha hb he) ?_;refine gt (aJ (AQ _ _) (aL rfl rfl rfl) aM rfl rfl) ?_;refine gR ?_;exact aH.keep (bu rfl)
theorem uF{ts:LL}{r e f:Nat}(tw:Tw ts r){a b:List Rat}(ha:Nm ts.length e a)(hb:Nm ts.length f b)(he:e+f<=lm ts.length) :
  Con prog 283 [.ptr 1000 0,nA a,nA b] [(1000,some (gL ts))] (nA (sh ts.length (T.add ts.length (ae ts.length a) (T.neg ts.length (ae ts.length b))))) [(1000,some (gL ts))]:=by
 refine gF func283 (fun k z h=>bG h) ?_;refine gc (nP tw ha hb he) ?_;refine gt (aJ (AQ _ _) (aL rfl rfl rfl) aM rfl rfl) ?_;refine gR ?_;exact aH.keep (bu rfl)
theorem lA{ts:LL}{r e f:Nat}(tw:Tw ts r){a b:List Rat}(ha:Nm ts.length e a)(hb:Nm ts.length f b)(he:e+f<=lm ts.length) :
  Con prog 280 [.ptr 1000 0,nA a,nA b] [(1000,some (gL ts))] (nA (sh ts.length (T.mul (aw ts) ts.length (ae ts.length a) (ae ts.length b)))) [(1000,some (gL ts))]:=by
 refine gF func280 (fun k z h=>bG h) ?_;refine gc (Be tw ha hb he) ?_;refine gt (aJ (AQ _ _) (aL rfl rfl rfl) aM rfl rfl) ?_;refine gR ?_;exact aH.keep (bu rfl)
theorem DZ{ts:LL}{r e f:Nat}(tw:Tw ts r){a b c d:List Rat}(ha:Nm ts.length e a)(hb:Nm ts.length e b)(hc:Nm ts.length f c)(hd:Nm ts.length f d)(he:2*(e+f+kB r ts.length)<=lm ts.length) :
  Con prog 177 [.ptr 1000 0,aK a b,aK c d] [(1000,some (gL ts))] (nA (sh ts.length (pU ts (ae ts.length a) (ae ts.length b) (ae ts.length c) (ae ts.length d)))) [(1000,some (gL ts))]:=by
 refine gF func177 (fun k z h=>bG h) ?_;refine gt (aJ (lA tw ha hc oz) (aL rfl rfl rfl) aM rfl rfl) ?_;refine gt (aJ (lA tw hb hd oz) (aL rfl rfl rfl) aM rfl rfl) ?_;refine gt (aJ (xa▸w9 tw (ha.mul tw rfl hc) (hb.mul tw rfl hd) oz) (aL rfl rfl rfl) aM rfl rfl) ?_;refine gD ?_;refine gR ?_;exact aH.keep (bu rfl)
theorem Qy{ts:LL}{r e f:Nat}(tw:Tw ts r){a b c d:List Rat}(ha:Nm ts.length e a)(hb:Nm ts.length e b)(hc:Nm ts.length f c)(hd:Nm ts.length f d)(he:2*(e+f+kB r ts.length)<=lm ts.length) :
  Con prog 175 [.ptr 1000 0,aK a b,aK c d] [(1000,some (gL ts))] (nA (sh ts.length (mb ts (ae ts.length a) (ae ts.length b) (ae ts.length c) (ae ts.length d)))) [(1000,some (gL ts))]:=by
 refine gF func175 (fun k z h=>bG h) ?_;refine gt (aJ (lA tw ha hd oz) (aL rfl rfl rfl) aM rfl rfl) ?_;refine gt (aJ (lA tw hb hc oz) (aL rfl rfl rfl) aM rfl rfl) ?_;refine gt (aJ (rY▸uF tw (ha.mul tw rfl hd) (hb.mul tw rfl hc) oz) (aL rfl rfl rfl) aM rfl rfl) ?_;refine gD ?_;refine gR ?_;exact aH.keep (bu rfl)
def T.inv(r:(k:Nat)->T k):(k:Nat)->T k->T k
  |0,q=>(1:Rat)/q
  |k+1,x =>
    if T.isZ k x.2=true then(T.inv r k x.1,T.zero k)
    else if T.sgn r k (T.norm r k x)=0 then(T.inv r k (T.add k x.1 x.1),T.zero k)
    else(T.mul r k x.1 (T.inv r k (T.norm r k x)),T.mul r k (T.neg k x.2) (T.inv r k (T.norm r k x)))
theorem T.inv_low(r:(k:Nat)->T k)(k:Nat)(x:T k):T.inv r (k+1) (x,T.zero k)=(T.inv r k x,T.zero k):=by
 have h:=(T.isZ_iff k (T.zero k)).2 rfl
 conv=>lhs;unfold T.inv
 simp only[if_pos h]
theorem wJ(r:(k:Nat)->T k){i j:Nat}{s L:List Rat}(hs:s.length<=2^i)(hL:L.length<=2^i)(h:ae i L=T.inv r i (ae i s))(hij:i<=j):ae j L=T.inv r j (ae j s):=by
  induction j with
  | zero => have : i = 0 := by omega
            subst this;exact h
  |succ j ih =>
    by_cases h':i=j+1
    · rw[<- h'];exact h
    · rw[fW (le_trans hs (bY oz)),fW (le_trans hL (bY oz)),T.inv_low,ih oz]
def iB(r:Nat):Nat->Nat->Nat
  |0,e=>e
  |j+1,e=>e+iB r j (4*e+3*eB r j+r+1)+eB r (j+1)
theorem ya(r:Nat):∀j e,e<=iB r j e
 |0,e=>le_refl _
 |j+1,e=>by simp only[iB];omega
theorem wW(r:Nat):∀j {e f:Nat},e<=f->iB r j e<=iB r j f
 |0,e,f,h=>h
 |j+1,e,f,h=>by
  have:=wW r j (e:=4*e+3*eB r j+r+1) (f:=4*f+3*eB r j+r+1) oz;simp only[iB];omega
theorem Q7(r j e:Nat):iB r j e<=iB r (j+1) e:=by
 have:=wW r j (e:=e) (f:=4*e+3*eB r j+r+1) oz;simp only[iB];omega
theorem yW(r e:Nat){i j:Nat}(h:i<=j):iB r i e<=iB r j e:=by
  induction j with
  | zero => have : i = 0 := by omega
            subst this;exact le_refl _
  |succ j ih =>
    by_cases hij:i=j+1
    · rw[hij];exact le_refl _
    · exact le_trans (ih oz) (Q7 r j e)
theorem OB(r e:Nat){j:Nat}(h:j<=1):iB r j e<=5*e+2*eB r j:=by
 match j,h with
 |0,_=>simp only[iB,eB];omega
 |1,_=>simp only[iB,eB];omega
theorem F3{r:(k:Nat)->T k}{n:Nat}(h:Sg (E r n) (sg r n))(hd:0<=sg r n (bI r n)){x y:E r n}(hz:sg r (n+1) (bM x y)≠0)(hN:sg r n (aV x y)=0):sg r n (x+x)≠0:=by
 have hx:sg r n x≠0:=by
  intro hx;rw[kz,hN,hx]at hz;have h1:sg r n (x*x)=0:=by rw[h.mul,hx];simp
  have h2:=h.zadd (y:=-(y*y*bI r n)) h1;unfold aV at hN;rw[h2,h.neg,h.mul,h.mul]at hN;unfold T.sgn3 at hz;have c1:=h.cs y;have c2:=h.cs (bI r n);rcases c1 with e |e |e <;> rcases c2 with e' |e' |e' <;> rw[e,e']at hN <;> rw[e,e']at hz <;> first |omega |(simp at hz) |(simp at hN)
 rcases h.cs x with e |e |e
 ·have := h.padd (x := -x) (y := -x) (by rw[h.neg,e];rfl) (by rw[h.neg,e];decide);rw[show -x+-x=-(x+x) by grind,h.neg]at this;omega
 ·exact absurd e hx
 ·have:=h.padd (x:=x) (y:=x) e oz;omega
theorem Cb.inv1{e:Nat}{q:Rat}(h:Cb e [q])(hq:q≠0):Cb e [(1:Rat)/q]:=by
 obtain⟨D,N,⟨h0,h1⟩,h2,h3⟩:=h;obtain⟨n,hn,hl⟩:=h1 q (by simp)
 have hD:((D:Int):Rat)≠0:=by
  intro h9;have:(D:Int)=0:=Rat.intCast_eq_zero_iff.1 h9;omega
 have hn0:n≠0:=by
  rintro rfl;rw[show((0:Int):Rat)=0 from rfl]at hn;rcases Rat.mul_eq_zero.1 hn with h9 |h9
  ·exact hq h9
  ·exact hD h9
 have hnq:((n:Int):Rat)≠0:=fun h9=>hn0 (Rat.intCast_eq_zero_iff.1 h9)
 refine⟨n.natAbs,D,⟨by omega,?_⟩,le_trans hl h3,h2⟩;intro x hx;rw[List.mem_singleton.1 hx];have key:(1:Rat)/q*(n:Rat)=((D:Int):Rat):=by rw[<- hn];grind
 rcases Int.natAbs_eq n with e9 |e9
 ·refine⟨D,?_,by simp⟩;rw[<- e9];exact key
 ·refine ⟨-(D : Int), ?_, by simp⟩;rw [Rat.intCast_neg,<- key]
  conv=>rhs;rw[e9]
  rw[Rat.intCast_neg];grind
theorem FT{e n:Nat}{s:List Rat}(h:Cb e s):Cb e (eT (s.take n) (cF (s.drop n)) n):=by
 obtain⟨D,N,h1,h2,h3⟩:=h;exact⟨D,N,(h1.sub (fun q hq=>mem_of_mem_take hq)).join (h1.sub (fun q hq=>List.mem_of_mem_drop hq)).minus,h2,h3⟩
theorem HL:∀{j i:Nat}{x:T j},(sh j x).length=2^(i+1)->i+1<=j->T.isZ i (ae i ((sh j x).drop (2^i)))=false
 |0,i,x,_,h=>by omega
 |j+1,i,x,hl,h=>by
  cases hz:T.isZ j x.2
  ·have h1:=PU hz;rw[h1]at hl
   have e:i=j:=by
    rcases Nat.lt_trichotomy i j with h9 |h9 |h9
    ·have := Nat.pow_lt_pow_right (a := 2) oz (show i+1<j+1 by omega);omega
    ·exact h9
    ·omega
   subst e;have h2:ae (i+1) (sh (i+1) x)=x:=bc (i+1) x;have h3:ae i ((sh (i+1) x).drop (2^i))=x.2:=congrArg Prod.snd h2;rw[h3];exact hz
  ·have h1:sh (j+1) x=sh j x.1:=by
    conv=>lhs;unfold sh
    rw[if_pos hz]
   rw[h1]at hl ⊢;have h2:=(di j x.1).le
   have h3:i+1<=j:=by
    rcases lt_or_ge j (i+1)with h9 |h9
    ·have:=Nat.pow_lt_pow_right (a:=2) oz h9;omega
    ·exact h9
   exact HL hl h3
theorem Eo(r:(k:Nat)->T k){i:Nat}{x:T (i+1)}(hz:T.isZ i x.2=false)(h0:T.sgn r i (T.norm r i x)=0):T.inv r (i+1) x=(T.inv r i (T.add i x.1 x.1),T.zero i):=by
 conv=>lhs;unfold T.inv
 rw[if_neg (by rw[hz];decide),if_pos h0]
theorem CO(r:(k:Nat)->T k){i:Nat}{x:T (i+1)}(hz:T.isZ i x.2=false)(h0:T.sgn r i (T.norm r i x)≠0) :
  T.inv r (i+1) x=(T.mul r i x.1 (T.inv r i (T.norm r i x)),T.mul r i (T.neg i x.2) (T.inv r i (T.norm r i x))):=by
 conv=>lhs;unfold T.inv
 rw[if_neg (by rw[hz];decide),if_neg h0]
theorem mul_low(r:(k:Nat)->T k)(i:Nat)(x y w:T i):T.mul r (i+1) (x,y) (w,T.zero i)=(T.mul r i x w,T.mul r i y w):=by
 show(T.add i (T.mul r i x w) (T.mul r i (T.mul r i y (T.zero i)) (r i)),T.add i (T.mul r i x (T.zero i)) (T.mul r i y w))=_;rw[T.mul_zero,T.zero_mul,T.mul_zero,T.add_zero,T.zero_add]
theorem Bh{n e:Nat}{l:List Rat}(h:Nm n e l)(he:e<=4398046511103):NR (l.map rt) e:=by
 refine⟨?_,by have:=h.nl.len5 h.five;rw[length_map];omega,by rw[cU];exact h.cb⟩;intro x hx;obtain⟨q,hq,rfl⟩:=List.mem_map.1 hx;exact(h.cb.qs oz hq).ok
theorem Lq{ts:LL}{j e:Nat}{a:List Rat}{q:Rat}(h5:j<=5)(ha:Nl j a)(ca:Cb e a)(he:e<4398046511104)(hs:sh j (ae j a)=[q])(hq:q≠0) :
  FP 358 [aR ts,nA a] (nA [1/q]):=by
 have qa:∀q∈a,Qs q:=fun q hq=>ca.qs he hq
 have cs:=ca.sh ha;rw[hs]at cs;have qq:Qs q:=cs.qs he (by simp);have hsh:=lG a h5 ha qa;rw[hs]at hsh;have hdv:=GE (rt 1) (rt q) (Qb.one.qs oz).ok qq.ok;rw[bP,bP,if_neg hq]at hdv;refine aj func358 ?_;refine gc hsh ?_;refine gl ?_;refine gC (fun t13=>?_) (fun t13=>?_) (st2:=(77777,0))
 ·refine gc (mY 1 oz) ?_;refine gi rfl ?_;refine gc hdv ?_;refine gD ?_;refine af ?_;rfl
 cases t13
theorem IZ{ts:LL}{m r:Nat}(ht:il ts m r)(hm:m<=5)(hml:m<=ts.length){j e i:Nat}{a s L:List Rat}(h5:j<=5)(ha:Nl j a)(ca:Cb e a)(he:4*e+3*eB r i+r+1<4398046511104)(hs:sh j (ae j a)=s)(hi:i+1<=m)
  (hsl:s.length=2^(i+1)) (hb:sB r i (4*e+3*eB r i+r+1)<4398046511104) (h0:T.sgn (aw ts) i (ae i (ic ts i s))=0)
  (hL:FP 358 [aR ts,nA (cf (s.take (2^i)) (s.take (2^i)))] (nA L)):FP 358 [aR ts,nA a] (nA L):=by
 have qa:∀q∈a,Qs q:=fun q hq=>ca.qs oz hq
 have cs:=ca.sh ha;have hsh:=lG a h5 ha qa;rw[hs]at cs hsh;have hp2:=Nat.two_pow_pos i;have hpi:2^i<=32:=bY (b:=5) oz;have hps:2^(i+1)=2*2^i:=by rw[Nat.pow_succ];omega
 obtain⟨nn,dn,cn⟩:=vi ht oz hsl cs;have k4:=qU ts m r ht hm hml i _ _ oz nn cn hb;have qs:∀q∈s.take (2^i),Qs q:=fun q hq=>cs.take.qs oz hq
 refine aj func358 ?_;refine gc hsh ?_;refine gl ?_;refine gC (fun t13=>?_) (fun t13=>?_) (st1:=(3,0));exact absurd t13 (by simp only[ac,beq_iff_eq];omega);refine gl ?_;refine gs (eW (.tmp rfl) (.const _) oz (show _=((2^i:Nat):Int) by rw[fF oz,hsl,fq]) rfl) ?_;refine gc (AM ts m r ht hm hml i s e oz hsl cs oz) ?_;refine gc k4 ?_;refine gC (fun t33=>?_) (fun t33=>?_) (st2:=(77777,0))
 ·refine gs (cT (.tmp rfl) (.none _) (.some _ (.tmp rfl) oz) T67 rfl T45 rfl oz (by simp only[length_map];omega) rfl) ?_;refine gs (cT (.tmp rfl) (.none _) (.some _ (.tmp rfl) oz) T67 rfl T45 rfl oz (by simp only[length_map];omega) rfl) ?_;refine gc (by have h9:=o9 _ _ qs qs (by simp;omega) (by simp;omega);rw[<- kU]at h9;exact h9) ?_;refine gc hL ?_;refine gD ?_;refine af ?_;rfl
 exact absurd t33 (by rw[h0];decide)
theorem Ud{ts:LL}{m r:Nat}(ht:il ts m r)(hm:m<=5)(hml:m<=ts.length){j e f i:Nat}{a s L:List Rat}(h5:j<=5)(ha:Nl j a)(ca:Cb e a)(he:4*e+3*eB r i+r+1<4398046511104)(hs:sh j (ae j a)=s)(hi:i+1<=m)
  (hsl:s.length=2^(i+1)) (hb:sB r i (4*e+3*eB r i+r+1)<4398046511104) (h0:T.sgn (aw ts) i (ae i (ic ts i s))≠0)
  (hL:FP 358 [aR ts,nA (ic ts i s)] (nA L)) (nL:Nl i L) (cL:Cb f L) (hf:e+f+eB r (i+1)<4398046511104) :
  FP 358 [aR ts,nA a] (nA (pT ts (i+1) (eT (s.take (2^i)) (cF (s.drop (2^i))) (2^i)) L)):=by
 have qa:∀q∈a,Qs q:=fun q hq=>ca.qs oz hq
 have cs:=ca.sh ha;have hsh:=lG a h5 ha qa;rw[hs]at cs hsh;have hp2:=Nat.two_pow_pos i;have hpi:2^i<=32:=bY (b:=5) oz;have hps:2^(i+1)=2*2^i:=by rw[Nat.pow_succ];omega
 obtain⟨nn,dn,cn⟩:=vi ht oz hsl cs;have k4:=qU ts m r ht hm hml i _ _ oz nn cn hb;have qy:∀q∈s.drop (2^i),Qs q:=fun q hq=>cs.drop.qs oz hq
 have lx:(s.take (2^i)).length=2^i:=fL hsl;have ly:(s.drop (2^i)).length=2^i:=fR hsl;have nj:Nl (i+1) (eT (s.take (2^i)) (cF (s.drop (2^i))) (2^i)):=.inr ⟨i+1,le_refl _,by rw[ox oz (by rw[iJ];omega)];omega⟩;have cj:Cb e (eT (s.take (2^i)) (cF (s.drop (2^i))) (2^i)):=FT cs;have hti:=pV ts m r ht hm hml (i+1) (i+1) _ _ e f hi (le_refl _) nj (nL.mono oz) cj cL hf;refine aj func358 ?_;refine gc hsh ?_;refine gl ?_;refine gC (fun t13=>?_) (fun t13=>?_) (st1:=(3,0));exact absurd t13 (by simp only[ac,beq_iff_eq];omega);refine gl ?_;refine gs (eW (.tmp rfl) (.const _) oz (show _=((2^i:Nat):Int) by rw[fF oz,hsl,fq]) rfl) ?_;refine gc (AM ts m r ht hm hml i s e oz hsl cs oz) ?_;refine gc k4 ?_;refine gC (fun t33=>?_) (fun t33=>?_) (st1:=(8,0));exact absurd t33 (by simp only[ac,beq_iff_eq];omega);refine gs (cT (.tmp rfl) (.none _) (.some _ (.tmp rfl) oz) T67 rfl T45 rfl oz (by simp only[length_map];omega) rfl) ?_;refine gs (cT (.tmp rfl) (.some _ (.tmp rfl) oz) (.none _) T67 rfl T45 rfl (by simp only[length_map];omega) oz rfl) ?_;refine gc (by have h9:=uM _ qy oz;rw[<- mf]at h9;exact h9) ?_;refine gc (by have h9:=yZ (s.take (2^i)) (cF (s.drop (2^i))) (2^i) oz (by rw[iJ];omega) oz;rw[<- kU]at h9;exact h9) ?_;refine gc hL ?_;refine gc hti ?_;refine gD ?_;refine af ?_;rfl
theorem U9{ts:LL}{m r:Nat}(ht:il ts m r)(hp:ff (aw ts) m)(hm:m<=5)(hml:m<=ts.length)(j:Nat):∀(a:List Rat)(e:Nat),j<=m->Nl j a->Cb e a->T.sgn (aw ts) j (ae j a)≠0 ->
  sB r j e<4398046511104->iB r j e<4398046511104->∃L,FP 358 [aR ts,nA a] (nA L)/\Nl j L/\Cb (iB r j e) L/\ae j L=T.inv (aw ts) j (ae j a):=by
 induction j using Nat.strongRecOn
 rename_i j ih;intro a e hj ha ca h0 hs hi;have hse:=nW r j e;have cs:=ca.sh ha;have hsn:=di j (ae j a);have hsd:=bc j (ae j a);have hle:=ya r j e;obtain⟨s,hsa⟩:∃s,sh j (ae j a)=s:=⟨_,rfl⟩
 rcases oq hsn with h |h |⟨i,hij,h⟩
 ·exfalso;have h1:=List.length_eq_zero_iff.1 h;rw[h1,gQ]at hsd;rw[<- hsd,T.sgn_zero]at h0;exact h0 rfl
 ·obtain ⟨q, hq⟩:=List.length_eq_one_iff.1 h;rw [hq,lN] at hsd;rw [<- hsd,T.sgn_ofQ] at h0;have q0:q ≠ 0:=by rintro rfl; exact h0 rfl
  refine⟨[1/q],Lq oz ha ca oz hq q0,.inr ⟨0,by omega,rfl⟩,(Cb.inv1 (hq▸cs) q0).mono hle,?_⟩;rw[<- hsd,<- lN j q];exact wJ (aw ts) (i:=0) (s:=[q]) (L:=[1/q]) (by simp) (by simp) rfl oz
 ·have hz:=HL h hij;rw [hsa] at h cs hsd hsn hz;obtain ⟨nn,dn,cn⟩:=vi ht oz h cs;have hsl:s.length <= 2 ^ (i + 1):=by omega
  have b1:sB r i (4*e+3*eB r i+r+1)<=sB r j e:=uu r e hij;have b2:=nW r i (4*e+3*eB r i+r+1);have b3:iB r (i+1) e<=iB r j e:=yW r e hij;have b4:iB r (i+1) e=e+iB r i (4*e+3*eB r i+r+1)+eB r (i+1):=rfl;have lx:(s.take (2^i)).length=2^i:=fL h;have ly:(s.drop (2^i)).length=2^i:=fR h;have hpi:2^i<=2^(i+1):=Nat.pow_le_pow_right oz oz;rw[<- hsd]at h0 ⊢
  by_cases hN:T.sgn (aw ts) i (ae i (ic ts i s))=0
  ·have hS:=du (aw ts) i (fun k hk=>hp k oz)
   have hx:T.sgn (aw ts) i (ae i (cf (s.take (2^i)) (s.take (2^i))))≠0:=by
    rw[io];rw[sG (aw ts) hsl hij]at h0;rw[dn]at hN;exact F3 hS (hp i oz) (x:=ae i (s.take (2^i))) (y:=ae i (s.drop (2^i))) h0 hN
   have np:Nl i (cf (s.take (2^i)) (s.take (2^i))):=.inr ⟨i,le_refl _,by rw[d7];omega⟩;have b5:=nI r i (e:=e+e+1) (f:=4*e+3*eB r i+r+1) oz;have b6:=wW r i (e:=e+e+1) (f:=4*e+3*eB r i+r+1) oz;obtain⟨L,k1,k2,k3,k4⟩:=ih i oz _ _ oz np (cs.take.plus cs.take) hx oz oz;refine⟨L,IZ ht hm hml oz ha ca oz hsa oz h oz hN k1,k2.mono oz,k3.mono oz,?_⟩;refine wJ (aw ts) (i:=i+1) hsl (le_trans k2.le hpi) ?_ hij;rw[Eo (aw ts) hz (by rw[<- dn];exact hN),fW k2.le,k4,io];rfl
  ·obtain⟨L,k1,k2,k3,k4⟩:=ih i oz _ _ oz nn cn hN oz oz;have nj:Nl (i+1) (eT (s.take (2^i)) (cF (s.drop (2^i))) (2^i)):=.inr ⟨i+1,le_refl _,by rw[ox oz (by rw[iJ];omega),Nat.pow_succ];omega⟩;have s1:=fN ts m ht.1 (i+1) (i+1) _ _ oz (le_refl _) nj (k2.mono oz);have c1:=Cb.mul ht (k:=i+1) (show i+1<=m by omega) (le_refl _) nj (k2.mono oz) (FT cs) k3;refine⟨_,Ud ht hm hml oz ha ca oz hsa oz h oz hN k1 k2 k3 oz,s1.1.mono hij,c1.mono oz,?_⟩;refine wJ (aw ts) (i:=i+1) hsl s1.1.le ?_ hij;rw[CO (aw ts) hz (by rw[<- dn];exact hN),s1.2,wb oz,fW k2.le,mul_low,l0,k4,dn];rfl
theorem LM{ts:LL}{r e f:Nat}(tw:Tw ts r){a b:List Rat}(ha:Nm ts.length e a)(hb:Nm ts.length f b)(he:e<=4398046511103)(hf:f<=4398046511103):FP 229 [aR ts,.lst 1 [nA a,nA b]] (.v .nilIface):=by
 have hck:=n7 (ts.map (List.map rt)) r tw.tr [a.map rt,b.map rt] (m8 (Bh ha he) (Bh hb hf)) (by simp);have hc0:bi (ts.map (List.map rt)) [a.map rt,b.map rt]=0:=mZ tw ha hb;rw[hc0,gO]at hck;rw[show[nA a,nA b]=[a.map rt,b.map rt].map nR by simp[dA]];exact hck
theorem AF{ts:LL}{r f j:Nat}(tw:Tw ts r){b:List Rat}(hb:Nm ts.length f b)(hj:j<=ts.length)(nb:Nl j b)(h0:T.sgn (aw ts) ts.length (ae ts.length b)≠0)(hf:f<=lm ts.length)(hi:iB r j f<4398046511104) :
  ∃L,FP 358 [aR ts,nA b] (nA L)/\Nl ts.length L/\Cb (iB r j f) L/\ae ts.length L=T.inv (aw ts) ts.length (ae ts.length b):=by
 rw[sG (aw ts) nb.le hj]at h0;obtain⟨L,k1,k2,k3,k4⟩:=U9 tw.ok tw.pos tw.five (le_refl _) j b f hj nb hb.cb h0 (nk hj tw.three tw.le hf) hi;exact⟨L,k1,k2.mono hj,k3,wJ (aw ts) nb.le k2.le k4 hj⟩
theorem zG{ts:LL}{r e f j:Nat}(tw:Tw ts r){a b:List Rat}(ha:Nm ts.length e a)(hb:Nm ts.length f b)(hj:j<=ts.length)(nb:Nl j b)(h0:T.sgn (aw ts) ts.length (ae ts.length b)≠0)(hf:f<=lm ts.length)(he:e+iB r j f+eB r ts.length<=200000000000) :
  FP 281 [aR ts,nA a,nA b] (.tup [nA (sh ts.length (T.mul (aw ts) ts.length (ae ts.length a) (T.inv (aw ts) ts.length (ae ts.length b)))),.v .nilIface]):=by
 have hlm:=gV ts.length;have h5:=tw.five;have h3:=tw.three;have hfe:=ya r j f;have hsB:=nk (le_refl ts.length) h3 tw.le hf;have hsg:=qU ts ts.length r tw.ok h5 (le_refl _) ts.length _ _ (le_refl _) hb.nl hb.cb hsB;obtain⟨L,k1,k2,k3,k4⟩:=AF tw hb hj nb h0 hf oz;have hti:=pV ts ts.length r tw.ok h5 (le_refl _) ts.length ts.length _ _ _ _ (le_refl _) (le_refl _) ha.nl k2 ha.cb k3 oz;have s1:=fN ts ts.length tw.ok.1 ts.length ts.length _ _ (le_refl _) (le_refl _) ha.nl k2;have c1:=Cb.mul tw.ok (k:=ts.length) (le_refl _) (le_refl _) ha.nl k2 ha.cb k3;have hsh:=lG _ h5 s1.1 (fun q hq=>c1.qs oz hq);rw[s1.2,k4]at hsh;refine aj func281 ?_;refine gc (LM tw ha hb oz oz) ?_;refine gC (fun t15=>?_) (fun t15=>?_) (st1:=(3,0));cases t15;refine gc hsg ?_;refine gC (fun t20=>?_) (fun t20=>?_) (st1:=(5,0));exact absurd t20 (by simp only[ac,beq_iff_eq];omega);refine gc k1 ?_;refine gc hti ?_;refine gc hsh ?_;refine gD ?_;refine bF ?_;rfl
theorem yb{ts:LL}{r e f j:Nat}(tw:Tw ts r){a b:List Rat}(ha:Nm ts.length e a)(hb:Nm ts.length f b)(hj:j<=ts.length)(nb:Nl j b)(h0:T.sgn (aw ts) ts.length (ae ts.length b)≠0)(hf:f<=lm ts.length)(he:e+iB r j f+eB r ts.length<=200000000000) :
  Nm ts.length (e+iB r j f+eB r ts.length) (sh ts.length (T.mul (aw ts) ts.length (ae ts.length a) (T.inv (aw ts) ts.length (ae ts.length b)))):=by
 obtain⟨L,k1,k2,k3,k4⟩:=AF tw hb hj nb h0 hf oz;have s1:=fN ts ts.length tw.ok.1 ts.length ts.length _ _ (le_refl _) (le_refl _) ha.nl k2;have c1:=Cb.mul tw.ok (k:=ts.length) (le_refl _) (le_refl _) ha.nl k2 ha.cb k3;refine⟨tw.five,di _ _,?_⟩;rw[<- k4,<- s1.2];exact c1.sh s1.1
def cr(k:Nat):List Rat:=(List.replicate (2^(k+1)) 0).set (2^k) 1
def aQ(ts:LL)(a:List Rat):LL:=ts++[aY a (2^ts.length)]
theorem NO(k:Nat):BlkSub (.row 3 ((List.replicate (2^(k+1)) (.agg [.v (.bool false),nS,nS])).set (2^k) (qA 1))) (.row 3 ((cr k).map qA)):=by
 unfold cr;refine .row ?_ ?_
 ·simp
 ·intro i e e' he he';rw[map_set,map_replicate]at he';rw[List.getElem?_set]at he he';split at he
  ·rename_i h1;rw[if_pos h1]at he';split at he
   ·rename_i h2;rw[length_replicate]at h2;rw[length_replicate,if_pos h2]at he';cases he;cases he'
    exact jG.refl (yf 1)
   ·cases he
  ·rename_i h1;rw[if_neg h1]at he';rw[List.getElem?_replicate]at he he';split at he
   ·rename_i h2;rw[if_pos h2]at he';cases he;cases he'
    exact qZ
   ·cases he
theorem zx(k:Nat):(cr k).length=2^(k+1):=by simp[cr]
theorem UI{k:Nat}(hk:k<=5):IntKind.i64.wrap ((2:Int)*2^(min (k:Int).toNat IntKind.i64.bits))=((2^(k+1):Nat):Int):=by
 have h:k=0\/k=1\/k=2\/k=3\/k=4\/k=5:=by omega
 rcases h with rfl |rfl |rfl |rfl |rfl |rfl <;> rfl
theorem PF(d:Nat)(hd:Nat.blt d 1000=true)(k:Nat)(hk:k<=5):Con prog 279 [i64 k] [] (.ms d 3 0 (2^(k+1))) [(d,some (.row 3 ((cr k).map qA)))]:=by
 have hp:2^(k+1)<=64:=bY (b:=6) oz;have hp2:2^k<2^(k+1):=Nat.pow_lt_pow_right oz oz;have hp0:=Nat.two_pow_pos k;refine gF func279 (fun k z h=>by cases h) ?_;refine gs (gG (.const _) (.tmp rfl) oz (UI hk) rfl) ?_;refine gs (it (.tmp rfl) T67 rfl T45 rfl rfl oz (by dsimp only;omega) rfl) ?_;refine gs (gG (.const _) (.tmp rfl) oz (mX oz) rfl) ?_;refine gc (mY 1 oz) ?_;refine gs (b8 (n:=2^k) (.tmp rfl) (.tmp rfl) T67 rfl T45 rfl oz oz rfl) ?_;refine gs (dF (.tmp rfl) rfl (by rw[List.getElem?_replicate,if_pos oz]) rfl (.tmp rfl) rfl rfl T45 rfl rfl) ?_;refine gD ?_ (3,0);refine gW (Wk.of (sl:=[(3,some (.ms 6 3 0 (2^(k+1))))]) (hp:=[(6,some (.row 3 ((cr k).map qA)))]) (.cons rfl (Sub.of (congrArg (AV.ms 6 3 0) (toNat_natCast _))) .nil) (.cons rfl (NO k) .nil)) ?_;refine gR ?_;exact aH.own1 rfl hd rfl
theorem LW(k:Nat)(hk:k<=5):FP 279 [i64 k] (nA (cr k)):=by
 have h:=Con.freeze (by rw[length_map,zx];omega) (PF 0 rfl k hk);rw[drop_zero,take_of_length_le (by rw[length_map,zx];exact le_refl _)]at h;exact h
theorem Ut{ts:LL}{r e:Nat}(tw:Tw ts r){a:List Rat}(ha:Nm ts.length e a)(he:e<=4398046511103):FP 229 [aR ts,.lst 1 [nA a]] (.v .nilIface):=by
 have hx:=Bh ha he;have hck:=n7 (ts.map (List.map rt)) r tw.tr [a.map rt] (fun x h=>by rw[List.mem_singleton.1 h];exact⟨hx.ok,hx.len⟩) (by simp);have hc0:bi (ts.map (List.map rt)) [a.map rt]=0:=vu tw ha;rw[hc0,gO]at hck;rw[show[nA a]=[a.map rt].map nR by simp[dA]];exact hck
theorem Ky{ts:LL}{r e:Nat}(tw:Tw ts r){a:List Rat}(ha:Nm ts.length e a)(he:e<=4398046511103):FP 277 [aR ts,nA a] (.tup [nA (aY a (2^ts.length)),.v .nilIface]):=by
 have h5:=tw.five;have hl:=ha.nl.le;have hp:2^ts.length<=32:=bY (b:=5) oz;have qa:∀q∈a,Qs q:=fun q hq=>ha.cb.qs oz hq
 refine aj func277 ?_;refine gc (Ut tw ha he) ?_;refine gC (fun t12=>?_) (fun t12=>?_) (st1:=(3,0));cases t12;refine gc (xu a qa oz) ?_;refine gl ?_;refine gs (gG (.const _) (.tmp rfl) oz (mX oz) rfl) ?_;refine gc (AH a (2^ts.length) hl oz) ?_;refine gD ?_;refine bF ?_;rfl
theorem GI{ts:LL}{r e:Nat}(tw:Tw ts r){a:List Rat}(ha:Nm ts.length e a)(he:e<=lm ts.length)(hs:0<=T.sgn (aw ts) ts.length (ae ts.length a)) :
  FP 161 [aR ts,nA a] (.tup [aR (aQ ts a),nA (cr ts.length),.v .nilIface]):=by
 have h3:=tw.three;have h5:=tw.five;have hlm:=gV ts.length;have hl:=ha.nl.le;have nw:Nl ts.length (aY a (2^ts.length)):=.inr ⟨_,le_refl _,dG hl⟩;have hsg:=qU ts ts.length r tw.ok h5 (le_refl _) ts.length _ _ (le_refl _) nw ha.cb.wide (nk (le_refl ts.length) h3 tw.le he);rw[no]at hsg;have hqs:=tw.rb.qs tw.le;refine aj func161 ?_;refine gc (Ky tw ha oz) ?_;refine gC (fun t18=>?_) (fun t18=>?_) (st1:=(3,0));cases t18;refine gc hsg ?_;refine gC (fun t23=>?_) (fun t23=>?_) (st1:=(5,0));exact absurd t23 (by simp only[ac,decide_eq_true_eq];omega);refine gl ?_;refine gC (fun t30=>?_) (fun t30=>?_) (st1:=(7,0));exact absurd t30 (by simp only[ac,decide_eq_true_eq];omega);refine gl ?_;refine gW (Wk.virt 900 1 rfl) ?_;refine a5 [2,4,7,9,38,39] [2,4] (fun(i:Nat)=>[(40,some (i64 i))]) (fun i=>[(9,some (.box [.ms 900 1 0 i])),(900,some (.row 1 ((ts.take i).map nA)))]) (fun i=>i<=ts.length) (fun i=>ts.length-i) 0 (zero_le _) ?_ (h2:=(.cons rfl (BlkSub.bL (.cons (.nM _ _ _) .nil) rfl) (.k .nil)));rintro i hi K1 J1;refine gC (fun t41=>?_) (fun t41=>?_)
 ·have hin:=bn t41;obtain⟨d,hd⟩:=aG hin
  have hdl:d.length<=32:=by
   have h9:=tw.len i hin;rw[ao hd]at h9;have:2^i<=32:=bY (b:=5) oz;omega
  refine gi (aN hd) ?_;refine gc (xu d (hqs d (mem_of_getElem? hd)) oz) ?_;refine gs (da (.tmp rfl) rfl (by rw[length_map,length_take];omega) (.tmp rfl) T35 rfl T67 rfl rfl (by simp only[length_cons,length_nil];omega) rfl rfl) ?_;refine gD ?_ (13,0);refine gW (Wk.of (sl:=[(2,some (.ptr 2 0)),(4,some (.ptr 4 0)),(7,some (nA (aY a (2^ts.length)))),(9,some (.ptr 9 0)),(38,some (.lst 1 (ts.map nA))),(39,some (i64 ts.length)),(40,some (i64 i))]) (hp:=[(2,some (.box [.lst 1 (ts.map nA)])),(4,some (.box [nS])),(9,some (.box [.ms 49 1 0 (i+1)])),(49,some (.row 1 ((ts.take (i+1)).map nA)))]) bj (.k (.k (.k (.cons rfl (BlkSub.of (by rw[d9 hd,map_append];rfl)) .nil))))) ?_ (13,0)
  refine gW (Wk.rk (k:=49) (d:=900) rfl rfl) ?_;refine ga aW ?_;exact aT J1 (i+1) hin
 have hin:=bE hi t41;subst hin;refine gs (da (.tmp rfl) rfl (by rw[length_map,length_take];omega) (.tmp rfl) T35 rfl T67 rfl rfl (by simp only[length_cons,length_nil];omega) rfl rfl) ?_ (15,0);refine gW ((Wk.freeze (k:=56) rfl).trans<|Wk.of (sl:=[(2,some (.ptr 2 0)),(4,some (.ptr 4 0)),(9,some (.ptr 9 0))]) (hp:=[(2,some (.box [.lst 1 (ts.map nA)])),(4,some (.box [nS])),(9,some (.box [.lst 1 ((aQ ts a).map nA)]))]) bj (.k (.k (.cons rfl (BlkSub.bL (.cons (Sub.of (by rw[cw (by simp)];unfold aQ;simp)) .nil) rfl) .nil)))) ?_;refine gl ?_;refine gc (LW ts.length oz) ?_;refine gD ?_;refine MI ?_;rfl
theorem Ay{ts:LL}{r:Nat}(tw:Tw ts r):FP 154 [aR ts] (aR ts):=by
 have h3:=tw.three;have hqs:=tw.rb.qs tw.le;refine aj func154 ?_;refine gl ?_;refine gW (Wk.virt 900 1 rfl) ?_;refine a5 [2,3,10,11] [2] (fun(i:Nat)=>[(12,some (i64 i))]) (fun i=>[(3,some (.box [.ms 900 1 0 i])),(900,some (.row 1 ((ts.take i).map nA)))]) (fun i=>i<=ts.length) (fun i=>ts.length-i) 0 (zero_le _) ?_ (h2:=(.cons rfl (BlkSub.bL (.cons (.nM _ _ _) .nil) rfl) (.k .nil)));rintro i hi K1 J1;refine gC (fun t13=>?_) (fun t13=>?_) (st2:=(13,0))
 ·have hin:=bn t13;obtain⟨d,hd⟩:=aG hin
  have hdl:d.length<=32:=by
   have h9:=tw.len i hin;rw[ao hd]at h9;have:2^i<=32:=bY (b:=5) oz;omega
  have hdq:=hqs d (mem_of_getElem? hd);refine gi (aN hd) ?_;refine gl ?_;refine gW (Wk.virt 901 3 rfl) ?_;refine a5 [2,3,10,11,12,16,17] [2,3,900] (fun(j:Nat)=>[(6,some (.ms 901 3 0 j)),(18,some (i64 j))]) (fun j=>[(901,some (.row 3 ((d.take j).map qA)))]) (fun j=>j<=d.length) (fun j=>d.length-j) 0 (zero_le _) ?_;rintro j hj K2 J2;refine gC (fun t19=>?_) (fun t19=>?_) (st2:=(11,0))
  ·have hjn:=bn t19;obtain ⟨q,hq⟩:=aG hjn;have hadd:=rv (rt q) (rt 0) (hdq q (mem_of_getElem? hq)).ok Qs.zero.ok;rw [vD,bP] at hadd;refine gi (aN hq) ?_;refine gc (Con.sA (.cons (.refl _) (.cons jz .nil)) hadd) ?_;refine gs (da (.tmp rfl) rfl (by rw [length_map,length_take]; omega) (.tmp rfl) T67 rfl T45 rfl rfl (by simp only [length_cons,length_nil]; omega) rfl rfl) ?_ (10,0);refine gW (Wk.of (sl:=[(2,some (.ptr 2 0)),(3,some (.ptr 3 0)),(10,some (.lst 1 (ts.map nA))),(11,some (i64 ts.length)),(12,some (i64 i)),(6,some (.ms 27 3 0 (j + 1))),(16,some (nA d)),(17,some (i64 d.length)),(18,some (i64 j))]) (hp:=[(2,some (.box [nS])),(3,some (.box [.ms 900 1 0 i])),(900,some (.row 1 ((ts.take i).map nA))),(27,some (.row 3 ((d.take (j + 1)).map qA)))]) bj (.k (.k (.k (.cons rfl (BlkSub.of (by rw [d9 hq,map_append]; rfl)) .nil))))) ?_ (10,0)
   refine gW (Wk.rk (k:=27) (d:=901) rfl rfl) ?_;refine ga aW ?_;exact aT J2 (j+1) hjn
  have hjn:=bE hj t19;subst hjn;refine gW ((Wk.freeze (k:=901) rfl).trans<|Wk.of (sl:=[(2,some (.ptr 2 0)),(3,some (.ptr 3 0)),(10,some (.lst 1 (ts.map nA))),(11,some (i64 ts.length)),(12,some (i64 i)),(6,some (nA d))]) (hp:=[(2,some (.box [nS])),(3,some (.box [.ms 900 1 0 i])),(900,some (.row 1 ((ts.take i).map nA)))]) (.k (.k (.k (.k (.k (.cons rfl (Sub.of (by rw[cw (by simp)];simp[nA])) .nil)))))) (.k (.k (.k .nil)))) ?_
  refine gs (da (.tmp rfl) rfl (by rw[length_map,length_take];omega) (.tmp rfl) T35 rfl T67 rfl rfl (by simp only[length_cons,length_nil];omega) rfl rfl) ?_ (12,0);refine gW (Wk.of (sl:=[(2,some (.ptr 2 0)),(3,some (.ptr 3 0)),(10,some (.lst 1 (ts.map nA))),(11,some (i64 ts.length)),(12,some (i64 i))]) (hp:=[(2,some (.box [nS])),(3,some (.box [.ms 33 1 0 (i+1)])),(33,some (.row 1 ((ts.take (i+1)).map nA)))]) bj (.k (.k (.cons rfl (BlkSub.of (by rw[d9 hd,map_append];rfl)) .nil)))) ?_ (12,0);refine gW (Wk.rk (k:=33) (d:=900) rfl rfl) ?_;refine ga aW ?_;exact aT J1 (i+1) hin
 have hin:=bE hi t13;subst hin;refine gW ((Wk.freeze (k:=900) rfl).trans<|Wk.of (sl:=[(2,some (.ptr 2 0)),(3,some (.ptr 3 0))]) (hp:=[(2,some (.box [nS])),(3,some (.box [.lst 1 (ts.map nA)]))]) bj (.k (.cons rfl (BlkSub.bL (.cons (Sub.of (by rw[cw (by simp)];simp)) .nil) rfl) .nil))) ?_;refine af ?_;rfl
abbrev dO(l:Li)(kw driven:List Bool)(r:List AV):List AV:=l.av.cells++(.lst 1 (kw.map bl) :: .lst 1 (driven.map bl)::r)
theorem NF(j:Jt)(b:Int):FP 409 [j.av,i64 b] (i64 (jW j b)):=by
 refine aj func409 ?_;refine gC (fun t6=>?_) (fun t6=>?_)
 ·have h1:b=j.a:=cK t6;refine af ?_;unfold jW;rw[if_pos h1]
 have h1:b≠j.a:=dj t6;refine gC (fun t12=>?_) (fun t12=>?_)
 ·have h2:b=j.b:=cK t12;refine af ?_;unfold jW;rw[if_neg h1,if_pos h2]
 have h2:b≠j.b:=dj t12;refine af ?_;unfold jW;rw[if_neg h1,if_neg h2];rfl
theorem UP(j:Jt)(kind body:Int)(f:FuncId)(pre caps:List AV)(p:Int->Bool)(hp:0<=jW j body->FP f (pre++[i64 (jW j body)]++caps) (bl (p (jW j body)))) :
  FP 408 [j.av,.iptr [i64 body],.iptr [i64 kind],.iptr [.cl f pre caps]] (bl (wI kind body p j)):=by
 refine aj func408 ?_;refine gc (NF j body) ?_;refine bT (fun h=>(hp (US h))) ?_;refine af ?_;exact congrArg bl IW
theorem L7(bs:List Jt)(hl:bs.length<=281474976710656)(f:FuncId)(pre caps:List AV)(ok:Nat->Bool)
  (hf:∀(i:Nat)(b:Jt),bs[i]?=some b->(∀j,j<i->ok j=true)->FP f (pre++[b.av]++caps) (bl (!ok i))) :
  FP 407 [.lst 7 (bs.map Jt.av),.cl f pre caps] (i64 (mW (dI bs.length ok))):=by
 refine aj func407 ?_;refine gl ?_;refine a5 [0,1,7] [] (fun(i:Nat)=>[(8,some (i64 i))]) (fun _=>[]) (fun i=>i<=bs.length/\∀j,j<i->ok j=true) (fun i=>bs.length-i) 0 ⟨zero_le _,fun j h=>by omega⟩ ?_;rintro i ⟨hi,hj⟩ K1 J1;refine gC (fun t9=>?_) (fun t9=>?_)
 ·have hin:=bn t9;obtain⟨b,hb⟩:=aG hin;refine gi (aN hb) ?_;refine gc (hf i b hb hj) ?_;refine gC (fun t16=>?_) (fun t16=>?_)
  ·have h2:=dH t16;refine af ?_;rw[ja hin hj h2];rfl
  have h2:=dC t16;refine ga aW ?_;exact aT J1 (i+1) ⟨hin,fun j h9=>by rcases lt_or_ge j i with g |g;exact hj j g;(have:j=i:=by omega);subst this;exact h2⟩
 have hin:=bE hi t9;subst hin;refine af ?_;rw[jc hj];rfl
theorem Fm(l:Li)(hl:l.ok)(hli:aO l=0)(Fd:List AV)(kind body:Int)(f:FuncId)(pre caps:List AV)(p:Int->Bool)
  (hp:∀o:Int,0<=o->o<l.bo.length->FP f (pre++[i64 o]++caps) (bl (p o))) :
  FP 400 [.iptr (l.av.cells++Fd),i64 kind,i64 body,.cl f pre caps] (i64 (gJ l kind body p)):=by
 refine aj func400 ?_ (1,0);refine gW ((Wk.freezeB (k:=7) rfl rfl).trans<|(Wk.freezeB (k:=5) rfl rfl).trans<|(Wk.freezeB (k:=6) rfl rfl).trans<|Wk.o (sl:=[(0,some (.iptr (l.av.cells++Fd))),(5,some (.iptr [i64 kind])),(6,some (.iptr [i64 body])),(7,some (.iptr [.cl f pre caps]))]) (hp:=[])) ?_;refine gc (Con.sA (.cons (.refl _) (.cons (zQ rfl) .nil)) (L7 l.jo hl.lj 408 [] [.iptr [i64 body],.iptr [i64 kind],.iptr [.cl f pre caps]] (fun i=>!wI kind body p (l.jo.getD i default)) (fun i b hb hj=>by rw[Bool.not_not,ao hb];exact UP b kind body f pre caps p (fun h=>hp _ h (Us hli hb body))))) ?_;refine af ?_;rfl
theorem O0(l:Li)(kw driven:List Bool)(r:List AV)(b:Int)(h0:0<=b)(h1:b<kw.length):FP 405 [.iptr (dO l kw driven r),i64 b] (bl (kn kw b)):=by
 obtain⟨v,hv⟩:∃v,kw[b.toNat]?=some v:=aG oz;have ev:kn kw b=v:=ao hv;refine aj func405 ?_;refine gi (f9 (n:=b.toNat) oz hv) ?_;refine af ?_;rw[ev]
theorem BR(l:Li)(hl:l.ok)(hli:aO l=0)(kw driven:List Bool)(hk:kw.length=l.bo.length)(r:List AV)(kind body:Int) :
  FP 398 [.iptr (dO l kw driven r),i64 kind,i64 body] (i64 (gJ l kind body (kn kw))):=by
 refine aj func398 ?_;refine gc (Fm l hl hli _ kind body 405 [.iptr (dO l kw driven r)] [] (kn kw) (fun o h0 h1=>O0 l kw driven r o h0 oz)) ?_;refine af ?_;rfl
theorem IV(o j:Int):FP 401 [i64 o,.iptr [i64 j]] (bl (decide (o=j))):=by
 refine aj func401 ?_;refine af ?_;exact congrArg bl qJ
theorem LJ(l:Li)(kw driven:List Bool)(hd:driven.length=kw.length)(r:List AV)(b:Int)(h0:0<=b)(h1:b<kw.length) :
  FP 402 [.iptr (dO l kw driven r),i64 b] (bl (!kn kw b&&!kn driven b)):=by
 obtain⟨v,hv⟩:∃v,kw[b.toNat]?=some v:=aG oz;have ev:kn kw b=v:=ao hv;obtain⟨u,hu⟩:∃u,driven[b.toNat]?=some u:=aG oz;have eu:kn driven b=u:=ao hu;refine aj func402 ?_;refine gi (f9 (n:=b.toNat) oz hv) ?_;refine jw (fun _=>(f9 (n:=b.toNat) oz hu)) ?_;refine af ?_;rw[ev,eu];exact congrArg bl (gX _ _)
theorem Ps(l:Li)(hl:l.ok)(hli:aO l=0)(kw driven:List Bool)(hk:kw.length=l.bo.length)(r:List AV) :
  FP 376 [.iptr (dO l kw driven r)] (.tup [((driverG l kw).getD default).av,bl (driverG l kw).isSome]):=by
 have hld:=hl.ld;refine aj func376 ?_;refine gl ?_;refine a5 [0,2,11,12] [2] (fun(i:Nat)=>[(13,some (i64 i))]) (fun _=>[]) (fun i=>i<=l.dv.length/\∀j,j<i->(!drHit l kw j)=true) (fun i=>l.dv.length-i) 0 ⟨zero_le _,fun j h=>by omega⟩ ?_;rintro i ⟨hi,hj⟩ K1 J1;refine gC (fun t14=>?_) (fun t14=>?_)
 ·have hin:=bn t14;obtain⟨d,hd⟩:=aG hin;have hdd:l.dv.getD i default=d:=ao hd;have hb:=dz (lQ hli hd);obtain⟨v,hv⟩:∃v,kw[d.body.toNat]?=some v:=aG oz;have ev:kn kw d.body=v:=ao hv;have ej:gJ l 0 d.body (kn kw)=jointI l 0 d.body kw:=Bc hli (fun o _ _=>rfl);refine gi (aN hd) ?_;refine gi (f9 (n:=d.body.toNat) oz hv) ?_;refine gD ?_;refine gC (fun t25=>?_) (fun t25=>?_)
  ·have h2 : drHit l kw i = false := by unfold drHit; rw [hdd, ev, t25]; rfl
   refine ga aW ?_;exact aT J1 (i+1) ⟨hin,fun k h9=>by rcases lt_or_ge k i with g |g;exact hj k g;(have:k=i:=by omega);subst this;rw[h2];rfl⟩
  have hv0:v=false:=t25;refine gc (show iM _ _ _ (i64 (jointI l 0 d.body kw)) by rw[<- ej];exact BR l hl hli kw driven hk r 0 d.body) ?_;refine gC (fun t31=>?_) (fun t31=>?_)
  ·have h2 : drHit l kw i = true := by unfold drHit; rw [hdd, ev, hv0, decide_eq_true (IL t31)]; rfl
   have hg:driverG l kw=some ⟨0,[d.body],[jointI l 0 d.body kw],i⟩:=by unfold driverG;rw[ja hin hj (by rw[h2];rfl),<- hdd];rfl
   refine bF ?_;rw[hg];rfl
  have h2:drHit l kw i=false:=by unfold drHit;rw[hdd,decide_eq_false (Cn t31),Bool.and_false]
  refine ga aW ?_;exact aT J1 (i+1) ⟨hin,fun k h9=>by rcases lt_or_ge k i with g |g;exact hj k g;(have:k=i:=by omega);subst this;rw[h2];rfl⟩
 have hin:=bE hi t14;subst hin;have hg:driverG l kw=none:=by unfold driverG;rw[jc hj];rfl
 refine gR ?_;exact aH.sub aH.pure (by rw[hg];exact Sub.tup (.cons qK (.cons (.refl _) .nil)))
theorem zf(l:Li)(hli:aO l=0)(kw:List Bool)(hk:kw.length=l.bo.length)(r:List AV)(b:Nat)(h1:b<l.bo.length) :
  FP 402 [.iptr (dO l kw (b7 l) r),i64 b] (bl (freeB l kw b)):=by
 have h:=LJ l kw (b7 l) (by rw[ul,hk]) r b oz oz;rw[LA hli oz]at h;exact h
theorem xe(l:Li)(hl:l.ok)(hli:aO l=0)(kw:List Bool)(hk:kw.length=l.bo.length)(r:List AV)(kind body:Int) :
  FP 398 [.iptr (dO l kw (b7 l) r),i64 kind,i64 body] (i64 (jointI l kind body kw)):=by
 have h:=BR l hl hli kw (b7 l) hk r kind body;rw[Bc hli (fun o _ _=>rfl)]at h;exact h
theorem TZ(l:Li)(hl:l.ok)(hli:aO l=0)(kw:List Bool)(hk:kw.length=l.bo.length)(r:List AV) :
  FP 378 [.iptr (dO l kw (b7 l) r)] (.tup [((singleG l kw).getD default).av,bl (singleG l kw).isSome]):=by
 have h8:=(dY hli).2.2.2.1;refine aj func378 ?_;refine gl ?_;refine a5 [0,2,12,13] [2] (fun(i:Nat)=>[(14,some (i64 i))]) (fun _=>[]) (fun i=>i<=l.bo.length/\∀j,j<i->(!sgHit l kw j)=true) (fun i=>l.bo.length-i) 0 ⟨zero_le _,fun j h=>by omega⟩ ?_;rintro i ⟨hi,hj⟩ K1 J1;refine gC (fun t15=>?_) (fun t15=>?_)
 ·have hin:=bn t15;refine gc (zf l hli kw hk r i hin) ?_;refine gC (fun t20=>?_) (fun t20=>?_)
  ·have h2 : sgHit l kw i = false := by unfold sgHit; rw [dH t20]; rfl
   refine ga aW ?_;exact aT J1 (i+1) ⟨hin,fun k h9=>by rcases lt_or_ge k i with g |g;exact hj k g;(have:k=i:=by omega);subst this;rw[h2];rfl⟩
  have hf:=dC t20;refine gc (xe l hl hli kw hk r 0 i) ?_;refine gc (xe l hl hli kw hk r 1 i) ?_;refine gC (fun t32=>?_) (fun t32=>?_)
  ·have h2 : sgHit l kw i = false := by unfold sgHit; rw [Fs t32, Bool.and_false]
   refine ga aW ?_;exact aT J1 (i+1) ⟨hin,fun k h9=>by rcases lt_or_ge k i with g |g;exact hj k g;(have:k=i:=by omega);subst this;rw[h2];rfl⟩
  obtain⟨p0,s0⟩:=Dg t32;have s1:=(mv (l:=l) (kind:=1) (body:=i) (oth:=kw)).2;have h2:sgHit l kw i=true:=by unfold sgHit;rw[hf,decide_eq_true p0,decide_eq_true s0];rfl
  obtain⟨j,hjt⟩:∃j,l.jo[(jointI l 1 i kw).toNat]?=some j:=aG oz;have hjd:l.jo.getD (jointI l 1 i kw).toNat default=j:=ao hjt;have hg:singleG l kw=some (sgG l kw i):=by unfold singleG;rw[ja hin hj (by rw[h2];rfl),Option.map_some]
  refine gi (f9 (n:=(jointI l 1 i kw).toNat) oz hjt) ?_;refine gC (fun t43=>?_) (fun t43=>?_)
  ·have hji:j.a=i:=cK t43;refine bF ?_;rw[hg];unfold sgG;rw[hjd];simp only[Option.getD_some,if_pos hji];rfl
  have hji:j.a≠i:=dj t43;refine bF ?_;rw[hg];unfold sgG;rw[hjd];simp only[Option.getD_some,if_neg hji];rfl
 have hin:=bE hi t15;subst hin;have hg:singleG l kw=none:=by unfold singleG;rw[jc hj];rfl
 refine gR ?_;exact aH.sub aH.pure (by rw[hg];exact Sub.tup (.cons qK (.cons (.refl _) .nil)))
theorem M3(Fd:List AV):FP 399 [.iptr Fd] (.fn 406 [.iptr [.iptr Fd]]):=by
 refine aj func399 ?_ (1,0);refine gW ((Wk.freezeB (k:=1) rfl rfl).trans<|Wk.o (sl:=[(1,some (.iptr [.iptr Fd]))]) (hp:=[])) ?_;refine af ?_;rfl
def vT:Code->Option (Array Tmp×Code×Code)
  | .rangeFunc _ ps x y=>some (ps,x,y)
  | .seq a b=>match vT a with
    |some r=>some r
    |none=>vT b
  | .block _ c=>vT c
  |_=>none
def H1(n:Nat)(o:Option Code):LpD:=match o with
  |some c=>match vT c with
    |some (ps,x,y)=>⟨ps,x,y,n⟩
    |none=>⟨#[],.skip,.skip,0⟩
  |none=>⟨#[],.skip,.skip,0⟩
def D8(D:LpD)(Fd:List AV)(h:Bool):Blk:=.loop D (match h with |true=>.done |false=>.ready) (match h with |true=>some .ret |false=>none) [(1,some (.iptr [.iptr Fd])),(2,some (.ptr 1001 0)),(3,some (.ptr 1002 0))]
def zo(g:Gr):Blk:=.box [i64 g.kind,.lst 1 (g.bo.map i64),.lst 1 (g.jo.map i64),i64 g.driver]
def y9(h:Bool):Blk:=.box [bl h]
def fB(D:LpD)(Fd:List AV)(h:Bool)(g:Gr):Hp:=[(1000,some (D8 D Fd h)),(1001,some (zo g)),(1002,some (y9 h))]
theorem HV{D:LpD}{Fd:List AV}{h:Bool}{g:Gr}{k:Nat}{z:Blk}(hz:lk (fB D Fd h g) k=some z):1000<=k:=by
 unfold fB at hz;simp only[aU]at hz;split at hz
 ·omega
 ·split at hz
  ·omega
  ·split at hz
   ·omega
   ·cases hz
theorem RC{D:LpD}{Fd:List AV}{s:AS}(hs:∀k z,lk (fB D Fd false default) k=some z->s.blk k=some z) :
  ∀k∈(fB D Fd false default++dQ (fB D Fd false default)).map (·.1),k∈(fB D Fd false default).map (·.1)/\lk (fB D Fd false default++dQ (fB D Fd false default)) k=s.blk k:=by
 intro k hk
 have hk':k=1000\/k=1001\/k=1002:=by
  simp[fB,dQ]at hk;omega
 rcases hk' with rfl |rfl |rfl
 ·exact⟨by simp[fB],(hs _ _ rfl).symm⟩
 ·exact⟨by simp[fB],(hs _ _ rfl).symm⟩
 ·exact⟨by simp[fB],(hs _ _ rfl).symm⟩
theorem Gi{l:Li}{kw:List Bool}{i k:Nat}(h:cond (freeB l kw i) (freeB l kw k) false=false):prHit l kw i k=false:=by
 rw[gX]at h;unfold prHit;rw[h];rfl
theorem ON{H R:Hp}{k:Nat}{z:Blk}(h:lk H k=some z):lk (H++R) k=some z:=by rw[mT,if_pos (mR h)];exact h
theorem O8{a b:Bool}(h:cond a b false=true):a=true:=by cases a <;> simp_all
theorem AX{a b:Bool}(h:cond a b false=true):b=true:=by cases a <;> simp_all
theorem Q3(D:LpD)(l:Li)(hl:l.ok)(hli:aO l=0)(kw:List Bool)(hk:kw.length=l.bo.length)(r:List AV)
  (hy:∀i k:Nat,i<k->k<l.bo.length->freeB l kw i=true->freeB l kw k=true ->
   v5 prog 1000 [i64 i,i64 k] (fB D (dO l kw (b7 l) r) false default) (bl (!prHit l kw i k)) (fB D (dO l kw (b7 l) r) (prHit l kw i k) (cond (prHit l kw i k) (prG l kw i k) default))) :
  Con prog 406 [.yl 1000,.iptr [.iptr (dO l kw (b7 l) r)]] (fB D (dO l kw (b7 l) r) false default) (.tup []) (fB D (dO l kw (b7 l) r) (pairG l kw).isSome ((pairG l kw).getD default)):=by
 have h8:=(dY hli).2.2.2.1;refine gF func406 (fun k z h=>HV h) ?_;refine gl ?_;refine a5 [0,1,10] [1000,1001,1002] (fun(i:Nat)=>[(11,some (i64 i))]) (fun _=>[]) (fun i=>i<=l.bo.length/\∀j,j<i->(prAt l kw j).isNone=true) (fun i=>l.bo.length-i) 0 ⟨zero_le _,fun j h=>by omega⟩ ?_;rintro i ⟨hi,hj⟩ K1 J1;refine gC (fun t12=>?_) (fun t12=>?_)
 ·have hin:=bn t12;refine ga aW ?_;refine a5 [0,1,3,10,11] [] (fun (k:Nat)=>[(4,some (i64 (i + 1 + k:Nat)))]) (fun _=>[(1000,some (D8 D (dO l kw (b7 l) r) false)),(1001,some (zo default)),(1002,some (y9 false))]) (fun k=>i + 1 + k <= l.bo.length /\ ∀ j,j < k -> (!prHit l kw i (i + 1 + j)) = true) (fun k=>l.bo.length - k) 0 ⟨by omega,fun j h=>by omega⟩ ?_;rintro k ⟨hkl,hkj⟩ K2 J2;refine gl ?_;refine gC (fun t23=>?_) (fun t23=>?_)
  ·have hkn:i + 1 + k < l.bo.length:=bn t23;refine gc (zf l hli kw hk r i hin) ?_;refine bT (fun _=>(zf l hli kw hk r (i + 1 + k) hkn)) ?_;refine gs (Sp rfl rfl rfl (by intro hb; have h0:prHit l kw i (i + 1 + k) = false:=Gi (by simpa using hb); simp only [h0,cond_false]; exact RC (by intro k z h; exact h)) (fun hb=>Mf (k:=1000) (.opt rfl (by rw [hb]; rfl)) (hy i (i + 1 + k) oz hkn (O8 hb) (AX hb)) (.cons (.opt rfl (by rw [hb]; rfl)) (.cons (.opt rfl (by rw [hb]; rfl)) .nil)) (by intro k z h; exact h) rfl rfl)) ?_;refine gC (fun t40=>?_) (fun t40=>?_)
   ·have h2 : prHit l kw i (i + 1 + k) = true := by have h9 := AX t40; rw [Bool.not_not] at h9; exact h9
    have hat:prAt l kw i=some (i+1+k):=by unfold prAt;rw[ja oz hkj (by rw[h2];rfl),Option.map_some];congr 1;omega
    have hg:pairG l kw=some (prG l kw i (i+1+k)):=by unfold pairG;rw[ja hin hj (by rw[hat];rfl),Option.map_some,hat]
    refine gR ?_;simp only[hg,h2,Option.isSome_some,Option.getD_some,cond_true];exact aH.keep (fun k z h=>ON h)
   have h2:prHit l kw i (i+1+k)=false:=by cases hc:cond (freeB l kw i) (freeB l kw ((i+1+k:Nat):Int)) false with |false=>exact Gi hc |true=>rw[hc,Bool.not_not]at t40;exact t40
   refine ga aW ?_;exact aT J2 (k+1) ⟨by omega,fun j h9=>by rcases lt_or_ge j k with g |g;exact hkj j g;(have:j=k:=by omega);subst this;rw[h2];rfl⟩ (hw:=Wk.of bj (.cons rfl (BlkSub.of (by rw[h2])) (.cons rfl (BlkSub.of (by rw[h2];rfl)) (.cons rfl (BlkSub.of (by rw[h2])) .nil))))
  have hkn:¬i+1+k<l.bo.length:=fun h=>by have h1:=q7 t23;omega
  have hat:prAt l kw i=none:=by unfold prAt;rw[show l.bo.length-(i+1)=k by omega,jc hkj];rfl
  refine ga aW ?_;exact aT J1 (i+1) ⟨hin,fun j h9=>by rcases lt_or_ge j i with g |g;exact hj j g;(have:j=i:=by omega);subst this;rw[hat];rfl⟩
 have hin:=bE hi t12;have hg:pairG l kw=none:=by unfold pairG;rw[<- hin,jc hj];rfl
 refine gR ?_;simp only[hg,Option.isSome_none,Option.getD_none];exact aH.keep (fun k z h=>h)
variable{P:Program}
mutual
def AV.pm(σ:Nat->Nat):AV->AV
  | .ms k sz off len=>.ms (σ k) sz off len
  | .ptr k off=>.ptr (σ k) off
  | .eptr k sz i off=>.eptr (σ k) sz i off
  | .yl k=>.yl (σ k)
  | .agg cs=>.agg (AV.pms σ cs)
  | .tup cs=>.tup (AV.pms σ cs)
  | .fn f cs=>.fn f (AV.pms σ cs)
  | .opt b x=>.opt b (AV.pm σ x)
  | .v x=>.v x
  | .lst sz l=>.lst sz l
  | .iptr l=>.iptr l
  | .cl f cs ds=>.cl f cs ds
def AV.pms(σ:Nat->Nat):List AV->List AV
  |[]=>[]
  |x::l=>AV.pm σ x::AV.pms σ l
end
theorem AV.pms_eq(σ:Nat->Nat):∀l,AV.pms σ l=l.map (AV.pm σ)
 |[]=>rfl
 |x::l=>by simp only[AV.pms,map_cons,AV.pms_eq σ l]
theorem AV.pm_one(σ:Nat->Nat)(x:AV)(h:x.one=true):(x.pm σ).one=true:=by
 cases x <;> simp only[AV.pm] <;> exact h
mutual
theorem AV.pm_pm{σ:Nat->Nat}(hσ:∀k,σ (σ k)=k):∀x:AV,(x.pm σ).pm σ=x
 | .ms k sz off len=>by simp only[AV.pm,hσ]
 | .ptr k off=>by simp only[AV.pm,hσ]
 | .eptr k sz i off=>by simp only[AV.pm,hσ]
 | .yl k=>by simp only[AV.pm,hσ]
 | .agg cs=>by simp only[AV.pm];rw[AV.pms_pms hσ cs]
 | .tup cs=>by simp only[AV.pm];rw[AV.pms_pms hσ cs]
 | .fn f cs=>by simp only[AV.pm];rw[AV.pms_pms hσ cs]
 | .opt b x=>by simp only[AV.pm];rw[AV.pm_pm hσ x]
 | .v x=>by simp only[AV.pm]
 | .lst sz l=>by simp only[AV.pm]
 | .iptr l=>by simp only[AV.pm]
 | .cl f cs ds=>by simp only[AV.pm]
theorem AV.pms_pms{σ:Nat->Nat}(hσ:∀k,σ (σ k)=k):∀l:List AV,AV.pms σ (AV.pms σ l)=l
 |[]=>by simp only[AV.pms]
 |x::l=>by simp only[AV.pms];rw[AV.pm_pm hσ x,AV.pms_pms hσ l]
end
theorem vM{g:Nat->Array Value->Prop}{S:Nat->Nat->Prop}{σ:Nat->Nat}(hσ:∀k,σ (σ k)=k){m:Nat->Option Nat}{v:Value}{x:AV}(h:Rep g S m v x):Rep g S (fun k=>m (σ k)) v (x.pm σ):=by
 induction h with
 |v x=>exact .v x
 |lst0 a cap sz'=>exact .lst0 a cap sz'
 |lst u hb hc hl hs ho hu hr _=>exact .lst u hb hc hl hs ho hu hr
 |iptr u hb ho hu hr _=>exact .iptr u hb ho hu hr
 |cl a b c d _ _=>exact .cl a b c d
 |ptr hm=>exact .ptr (by simp only[hσ];exact hm)
 |eptr hm=>exact .eptr (by simp only[hσ];exact hm)
 |yl hm=>exact .yl (by simp only[hσ];exact hm)
 |ms0 a k sz off=>exact .ms0 _ _ _ _
 |ms hm hc hS=>exact .ms (by simp only[hσ];exact hm) hc hS
 |opt h h' ih=>exact .opt ih h'
 |agg hn h1 hr ih =>
  simp only[AV.pm,AV.pms_eq];refine .agg (by simpa using hn) ?_ ?_
  ·intro j c hc;simp only[getElem?_map,map_eq_some_iff]at hc;obtain⟨y,hy,rfl⟩:=hc;exact AV.pm_one _ _ (h1 j y hy)
  ·intro j u c hu hc;simp only[getElem?_map,map_eq_some_iff]at hc;obtain⟨y,hy,rfl⟩:=hc;exact ih j u y hu hy
 |tup hn hr ih =>
  simp only[AV.pm,AV.pms_eq];refine .tup (by simpa using hn) ?_;intro j u c hu hc;simp only[getElem?_map,map_eq_some_iff]at hc;obtain⟨y,hy,rfl⟩:=hc;exact ih j u y hu hy
 |fn hn hr ih =>
  simp only[AV.pm,AV.pms_eq];refine .fn (by simpa using hn) ?_;intro j u c hu hc;simp only[getElem?_map,map_eq_some_iff]at hc;obtain⟨y,hy,rfl⟩:=hc;exact ih j u y hu hy
theorem TY{g:Nat->Array Value->Prop}{S:Nat->Nat->Prop}{σ:Nat->Nat}(hσ:∀k,σ (σ k)=k){m:Nat->Option Nat}{w:World}{o:Option Nat}{x:Blk}(h:BlkRep g S m w o x) :
  BlkRep g S (fun k=>m (σ k)) w o (x.map (AV.pm σ)):=by
 cases x with
 |row sz es=>exact h.mono (fun _ _ h=>h) (fun _ _ h=>h) (fun _ _ hk=>hk.elim) rfl (fun _ _=>rfl)
 |vec vs=>exact h.mono (fun _ _ h=>h) (fun _ _ h=>h) (fun _ _ hk=>hk.elim) rfl (fun _ _=>rfl)
 |loop=>exact h.mapLoop _ (fun _ _ _ _ h=>vM hσ h)
 |box cs =>
  cases h with
  |box hw hn h1 hrr =>
   refine .box hw (by simpa using hn) ?_ ?_
   ·intro j x hx;simp only[getElem?_map,map_eq_some_iff]at hx;obtain⟨y,hy,rfl⟩:=hx;exact AV.pm_one _ _ (h1 j y hy)
   ·intro j u x hu hx;simp only[getElem?_map,map_eq_some_iff]at hx;obtain⟨y,hy,rfl⟩:=hx;exact vM hσ (hrr j u y hu hy)
theorem A6{σ:Nat->Nat}(hσ:∀k,σ (σ k)=k):∀sl:bQ,jv (AV.pm σ) (jv (AV.pm σ) sl)=sl
 |[]=>rfl
 |(t,none)::l=>by simp only[jv,A6 hσ l]
 |(t,some x)::l=>by simp only[jv,A6 hσ l,AV.pm_pm hσ x]
theorem Blk.pm_pm{σ:Nat->Nat}(hσ:∀k,σ (σ k)=k)(x:Blk):(x.map (AV.pm σ)).map (AV.pm σ)=x:=by
 cases x with
 |row sz es=>rfl
 |vec vs=>rfl
 |loop d st pe sl=>simp only[Blk.map,A6 hσ]
 |box cs =>
  simp only[Blk.map];rw[<- AV.pms_eq,<- AV.pms_eq,AV.pms_pms hσ]
def jn(σ:Nat->Nat):Hp->Hp
  |[]=>[]
  |(k,x)::l=>(σ k,match x with |some b=>some (b.map (AV.pm σ)) |none=>none)::jn σ l
theorem lC{σ:Nat->Nat}(hσ:∀k,σ (σ k)=k):∀(H:Hp)(k:Nat),lk (jn σ H) k=(lk H (σ k)).map (Blk.map (AV.pm σ))
 |[],k=>rfl
 |(k',x)::l,k=>by
  simp only[jn,aU,lC hσ l k]
  by_cases h:k=σ k'
  ·rw[if_pos h,if_pos (by rw[h,hσ])];cases x <;> rfl
  ·rw[if_neg h,if_neg (fun e=>h (by rw[<- e,hσ]))]
theorem zg{σ:Nat->Nat}(hσ:∀k,σ (σ k)=k)(H:Hp)(m:Nat->Option Nat):bb (jn σ H) (fun k=>m (σ k))=bb H m:=by
 funext b;apply propext;constructor
 ·rintro⟨k,z,hz,hb⟩;rw[lC hσ,map_eq_some_iff]at hz;obtain⟨y,hy,rfl⟩:=hz;exact⟨σ k,y,hy,hb⟩
 ·rintro⟨k,y,hy,hb⟩;exact⟨σ k,y.map (AV.pm σ),by rw[lC hσ,hσ,hy];rfl,by simp only[hσ];exact hb⟩
theorem GJ{σ:Nat->Nat}(hσ:∀k,σ (σ k)=k){ext:Nat->Prop}{H:Hp}{m:Nat->Option Nat}{w:World}(h:HeapRel ext H m w):HeapRel ext (jn σ H) (fun k=>m (σ k)) w:=by
 have e:Im ext (jn σ H) (fun k=>m (σ k)) w=Im ext H m w:=by funext b cs;simp only[Im,zg hσ]
 refine⟨?_,?_,?_⟩
 ·intro k z hz;rw[lC hσ,map_eq_some_iff]at hz;obtain⟨y,hy,rfl⟩:=hz;rw[e];exact TY hσ (h.blk _ y hy)
 ·intro k k' z z' b hz hz' hb hb';rw[lC hσ,map_eq_some_iff]at hz hz';obtain⟨y,hy,_⟩:=hz;obtain⟨y',hy',_⟩:=hz';have:=h.inj _ _ y y' b hy hy' hb hb';rw[<- hσ k,this,hσ]
 ·intro k z b hz hb;rw[lC hσ,map_eq_some_iff]at hz;obtain⟨y,hy,_⟩:=hz;exact h.sep _ y b hy hb
theorem Con.pm{σ:Nat->Nat}(hσ:∀k,σ (σ k)=k){f:FuncId}{args:List AV}{H H':Hp}{r:AV}(h:Con P f args H r H'):Con P f (args.map (AV.pm σ)) (jn σ H) (r.pm σ) (jn σ H'):=by
 refine⟨h.ok,?_⟩;intro ext m w vs hext hheap hvs hrep
 have hlk:∀k,lk (jn σ (jn σ H)) k=lk H k:=by
  intro k;rw[lC hσ,lC hσ,hσ];cases lk H k with
  |none=>rfl
  |some y=>simp only[Option.map_some,Blk.pm_pm hσ]
 have hh:=HeapRel.congr hlk (GJ hσ hheap);have em:(fun k=>(fun k=>m (σ k)) (σ k))=m:=by funext k;simp only[hσ]
 have eo:bb (jn σ H) m=bb H (fun k=>m (σ k)):=by
  have:=zg hσ H (fun k=>m (σ k));rw[em]at this;exact this
 have ei:Im ext (jn σ H) m w=Im ext H (fun k=>m (σ k)) w:=by funext b cs;simp only[Im,eo]
 refine Calls.mono (h.ret ext (fun k=>m (σ k)) w vs hext hh (by simpa using hvs) (fun j v x hv hx=>?_)) ?_
 ·have h1 := hrep j v (x.pm σ) hv (by simp[hx]);have h2:=vM hσ h1;rw[AV.pm_pm hσ,ei]at h2;exact h2
 ·rintro e w' ⟨v,m',rfl,hf,hh',hn,hk,hrr⟩;refine⟨v,fun k=>m' (σ k),rfl,eo▸hf,GJ hσ hh',?_,?_,?_⟩
  ·intro k x b hx hb;rw[lC hσ,map_eq_some_iff]at hx;obtain⟨y,hy,_⟩:=hx;rw[eo];exact hn _ y b hy hb
  ·intro k x y hx hy;rw[lC hσ,map_eq_some_iff]at hx hy;obtain⟨x',hx',_⟩:=hx;obtain⟨y',hy',_⟩:=hy;have:=hk _ x' y' hx' hy';simpa only[hσ]using this
  ·have e2 : Im ext (jn σ H') (fun k => m' (σ k)) w' = Im ext H' m' w' := by funext b cs; simp only [Im, zg hσ]
   rw[e2];exact vM hσ hrr
end Go.Lw
namespace Go.Lw
open Go.Proofs
theorem gZ{P:Program}{N:Nat}{Q:Exit->AS->Prop}{c:Code}{s:AS}(h:Gd P N Q (.code c [] s)):bR P N c Q s:=h
theorem ME{P:Program}{N:Nat}{Q:Exit->AS->Prop}{c:Code}{s s':AS}(hw:Wk s s')(h:j6 P N c Q s'):j6 P N c Q s:=by
 intro C m a w n hro hN hr;obtain⟨m',hr'⟩:=hw C m a w hr;exact h C m' a w n hro hN hr'
def vf(k:Nat):Nat:=bif Nat.beq k 1000 then 900 else bif Nat.beq k 900 then 1000 else bif Nat.beq k 1001 then 2 else bif Nat.beq k 2 then 1001 else bif Nat.beq k 1002 then 3 else bif Nat.beq k 3 then 1002 else k
theorem nb{a b:Nat}(h:¬a=b):Nat.beq a b=false:=by
 cases h1:Nat.beq a b
 ·rfl
 ·exact absurd (eq_of_beq_eq_true h1) h
theorem QU(k:Nat):vf (vf k)=k:=by
 by_cases h1:k=1000
 ·subst h1;rfl
 by_cases h2:k=900
 ·subst h2;rfl
 by_cases h3:k=1001
 ·subst h3;rfl
 by_cases h4:k=2
 ·subst h4;rfl
 by_cases h5:k=1002
 ·subst h5;rfl
 by_cases h6:k=3
 ·subst h6;rfl
 have e:vf k=k:=by simp only[vf,nb h1,nb h2,nb h3,nb h4,nb h5,nb h6,cond_false]
 rw[e,e]
theorem MU(l:Li)(hl:l.ok)(hli:aO l=0)(kw:List Bool)(hk:kw.length=l.bo.length)(r:List AV) :
  FP 377 [.iptr (dO l kw (b7 l) r)] (.tup [((pairG l kw).getD default).av,bl (pairG l kw).isSome]):=by
 refine CL (rs:=Tryz.f377.results.toList) func377 rfl rfl (by simp) rfl (fun k z h=>by cases h) ?_;refine Bk (gZ (go ?_));refine ME (s':=⟨[(1,some (.iptr [.iptr (dO l kw (b7 l) r)])),(2,some (.ptr 2 0)),(3,some (.ptr 3 0))],[(2,some (zo default)),(3,some (y9 false))]⟩) ((Wk.freezeB (k:=1) rfl rfl).trans (Wk.of (.k (.k (.k .nil))) (.cons rfl (BlkSub.bL (.cons (.refl _) (.cons (.nil _ _ _) (.cons (.nil _ _ _) (.cons (.refl _) .nil)))) rfl) (.k .nil)))) ?_;refine VC ?_;refine Bk (gZ (go ?_));refine gc (M3 (dO l kw (b7 l) r)) ?_;refine Jh ?_
 have hy:∀i k:Nat,i<k->k<l.bo.length->freeB l kw i=true->freeB l kw k=true ->
   v5 prog 1000 [i64 i,i64 k] (fB (H1 Tryz.f377.ntmps Tryz.f377.body) (dO l kw (b7 l) r) false default) (bl (!prHit l kw i k)) (fB (H1 Tryz.f377.ntmps Tryz.f377.body) (dO l kw (b7 l) r) (prHit l kw i k) (cond (prHit l kw i k) (prG l kw i k) default)):=by
  intro i k hik hkn hfi hfk;refine Ur (k:=1000) (fun k z h=>HV h) rfl rfl (by intro p hp;have h9:p∈[11,12]:=hp;have h8:p=11\/p=12:=(by simpa using h9);show p<42;rcases h8 with h7 |h7 <;> (rw[h7];decide)) ?_;refine gZ (go ?_);refine⟨rfl,_,_,rfl,?_⟩;have hJ:gJ l 0 i (fun o=>decide (o=(k:Int)))=jointI l 0 i (dg l.bo.length k):=Bc hli (fun o h0 h1=>(yJ h0 oz oz).symm);refine gZ (go ?_);refine gc (xe l hl hli kw hk r 0 i) ?_;refine gc (xe l hl hli kw hk r 0 k) ?_;refine gD ?_ (5,0);refine gW (Wk.freezeB (k:=5) rfl rfl) ?_;refine gc (r:=i64 (jointI l 0 i (dg l.bo.length k))) (by rw[<- hJ];exact Con.sA (.cons (.refl _) (.cons (.refl _) (.cons (.refl _) (.cons (zQ rfl) .nil)))) (Fm l hl hli _ 0 i 401 [] [.iptr [i64 k]] (fun o=>decide (o=(k:Int))) (fun o h0 h1=>IV o k))) ?_;refine gC (fun ht=>?_) (fun ht=>?_)
  ·have h2 : prHit l kw i k = true := by unfold prHit; rw [hfi, hfk]; exact (wz.symm.trans ht)
   rw[h2];exact⟨_,_,rfl,aH.keep (by intro q z h;simp only[fB,aU]at h;split at h;(subst_vars;exact h);split at h;(subst_vars;exact h);split at h;(subst_vars;exact h);cases h)⟩
  ·have h2 : prHit l kw i k = false := by unfold prHit; rw [hfi, hfk]; exact (wz.symm.trans ht)
   rw[h2];exact⟨_,_,rfl,aH.keep (by intro q z h;simp only[fB,aU]at h;split at h;(subst_vars;exact h);split at h;(subst_vars;exact h);split at h;(subst_vars;exact h);cases h)⟩
 have hcon:=Con.pm QU (Q3 _ l hl hli kw hk r hy);cases hg:pairG l kw with
 |none =>
  rw[hg]at hcon;refine Iq (k:=900) (sl0:=[(1,some (.iptr [.iptr (dO l kw (b7 l) r)])),(2,some (.ptr 2 0)),(3,some (.ptr 3 0))]) (.tmp rfl) (by intro t x h;simp only[aU]at h;split at h;(subst_vars;exact h);split at h;(subst_vars;exact h);split at h;(subst_vars;exact h);cases h) rfl rfl hcon (fun k' z h=>h) rfl rfl rfl rfl (by intro h;cases h) (.inl ⟨rfl,?_⟩);refine Bk (gZ (go ?_));refine bR.out (gZ (go ?_));refine gR ?_;exact aH.sub aH.pure (Sub.tup (.cons qK (.cons (.refl _) .nil)))
 |some g =>
  rw[hg]at hcon;refine Iq (k:=900) (sl0:=[(1,some (.iptr [.iptr (dO l kw (b7 l) r)])),(2,some (.ptr 2 0)),(3,some (.ptr 3 0))]) (.tmp rfl) (by intro t x h;simp only[aU]at h;split at h;(subst_vars;exact h);split at h;(subst_vars;exact h);split at h;(subst_vars;exact h);cases h) rfl rfl hcon (fun k' z h=>h) rfl rfl rfl rfl (by intro h;cases h) (.inr ⟨rfl,?_⟩);exact(bF (P:=prog) (N:=Tryz.f377.ntmps) (e:=.ret) rfl)
theorem Bq{α:Type}{o:Option α}(h:o.isSome=true):∃x,o=some x:=by cases o <;> simp_all
theorem x6{α:Type}{o:Option α}(h:o.isSome=false):o=none:=by cases o <;> simp_all
theorem U1(l:Li)(hl:l.ok)(hli:aO l=0)(kw:List Bool)(hk:kw.length=l.bo.length)(r:List AV) :
  FP 339 [.iptr (dO l kw (b7 l) r)] (.tup [((nextG l kw).getD default).av,bl (nextG l kw).isSome]):=by
 refine aj func339 ?_;refine gc (Ps l hl hli kw (b7 l) hk r) ?_;refine gC (fun t13=>?_) (fun t13=>?_)
 ·obtain⟨g,hg⟩:=Bq t13;refine bF ?_;unfold nextG;rw[hg];rfl
 have hg:=x6 t13;refine gc (MU l hl hli kw hk r) ?_;refine gC (fun t20=>?_) (fun t20=>?_)
 ·obtain⟨g,hg2⟩:=Bq t20;refine bF ?_;unfold nextG;rw[hg,hg2];rfl
 have hg2:=x6 t20;refine gc (TZ l hl hli kw hk r) ?_;refine bF ?_;unfold nextG;rw[hg,hg2];rfl
theorem Di{ts:LL}{r e:Nat}(tw:Tw ts r){a b c d:List Rat}(ha:Nm ts.length e a)(hb:Nm ts.length e b)(hc:Nm ts.length e c)(hd:Nm ts.length e d)(he:2*e<=lm ts.length) :
  Con prog 173 [.ptr 1000 0,aK a b,aK c d] [(1000,some (gL ts))] (aK (sh ts.length (subT ts (ae ts.length a) (ae ts.length c))) (sh ts.length (subT ts (ae ts.length b) (ae ts.length d)))) [(1000,some (gL ts))]:=by
 refine gF func173 (fun k z h=>bG h) ?_;refine gt (aJ (uF tw ha hc oz) (aL rfl rfl rfl) aM rfl rfl) ?_;refine gt (aJ (uF tw hb hd oz) (aL rfl rfl rfl) aM rfl rfl) ?_;refine gD ?_;refine gR ?_;exact aH.keep (bu rfl)
theorem G8(R:List AV)(a:List Rat):Con prog 284 [.ptr 1000 0,nA a] [(1000,some (.box [.lst 1 R,.v .nilIface]))] (.tup [nA a,.v .nilIface]) [(1000,some (.box [.lst 1 R,.v .nilIface]))]:=by
 refine gF func284 (fun k z h=>bG h) ?_;refine gC (fun t10=>?_) (fun t10=>?_) (st1:=(2,0));cases t10;refine gR ?_;show aH _ (AV.tup [nA a,.v .nilIface]) _ _;exact aH.keep (bu rfl)
theorem vz(R:List AV)(a b:List Rat):Con prog 172 [.ptr 1000 0,aK a b] [(1000,some (.box [.lst 1 R,.v .nilIface]))] (.tup [aK a b,.v .nilIface]) [(1000,some (.box [.lst 1 R,.v .nilIface]))]:=by
 refine gF func172 (fun k z h=>bG h) ?_;refine gC (fun t10=>?_) (fun t10=>?_) (st1:=(2,0));cases t10;refine gR ?_;show aH _ (AV.tup [aK a b,.v .nilIface]) _ _;exact aH.keep (bu rfl)
theorem GH{ts:LL}{r e:Nat}(tw:Tw ts r){a b c d:List Rat}(ha:Nm ts.length e a)(hb:Nm ts.length e b)(hc:Nm ts.length e c)(hd:Nm ts.length e d)(he:e<=lm ts.length)(f:FuncId)(v:List Rat)
  (hf:Con prog f [.ptr 1000 0,aK a b,aK c d] [(1000,some (gL ts))] (nA v) [(1000,some (gL ts))]) :
  FP 174 [aR ts,aK a b,aK c d,.fn f []] (.tup [nA v,.v .nilIface]):=by
 refine aj func174 ?_;refine gc (rO (e:=e) tw [(a,b),(c,d)] (by simp only[mem_cons,not_mem_nil,or_false];rintro p (rfl |rfl);exact⟨ha,hb⟩;exact⟨hc,hd⟩) he (by simp)) ?_;refine gC (fun t18=>?_) (fun t18=>?_) (st1:=(3,0));cases t18;refine gs (KM (.tmp rfl) (show Con prog f ([.ptr 22 0,aK a b,aK c d]++[]) [(22,some (gL ts))] (nA v) [(22,some (gL ts))]from Con.rB 22 rfl rfl rfl rfl hf) (aL rfl rfl rfl) aM rfl rfl) ?_;refine gt (aJ (Con.rB 22 rfl rfl rfl rfl (G8 _ _)) (bO rfl rfl) aM rfl rfl) ?_;refine bF ?_;rfl
theorem Au{ts:LL}{r e:Nat}(tw:Tw ts r){a b c d:List Rat}(ha:Nm ts.length e a)(hb:Nm ts.length e b)(hc:Nm ts.length e c)(hd:Nm ts.length e d)(he:2*(e+e+kB r ts.length)<=lm ts.length) :
  FP 80 [aR ts,aK a b,aK c d] (.tup [nA (sh ts.length (pU ts (ae ts.length a) (ae ts.length b) (ae ts.length c) (ae ts.length d))),.v .nilIface]):=by
 refine aj func80 ?_;refine gc (Con.sA (.cons (.refl _) (.cons (.refl _) (.cons (.refl _) (.cons (Sub.fn0 _) .nil)))) (GH tw ha hb hc hd oz _ _ (DZ tw ha hb hc hd he))) ?_;refine bF ?_
 first |rfl |(simp;done)
theorem Ik{ts:LL}{r e:Nat}(tw:Tw ts r){a b c d:List Rat}(ha:Nm ts.length e a)(hb:Nm ts.length e b)(hc:Nm ts.length e c)(hd:Nm ts.length e d)(he:2*(e+e+kB r ts.length)<=lm ts.length) :
  FP 191 [aR ts,nA a,nA b,aK c d] (.tup [aK (sh ts.length (pX ts (ae ts.length a) (ae ts.length b) (ae ts.length c) (ae ts.length d))) (sh ts.length (qG ts (ae ts.length a) (ae ts.length b) (ae ts.length c) (ae ts.length d))),.v .nilIface]):=by
 refine aj func191 ?_;refine gc (uJ (e:=e) tw [a,b,c,d] (by simp only[mem_cons,not_mem_nil,or_false];rintro x (rfl |rfl |rfl |rfl) <;> assumption) oz (by simp)) ?_;refine gC (fun t22=>?_) (fun t22=>?_) (st1:=(3,0));cases t22;refine gt (aJ (Con.rB 27 rfl rfl rfl rfl (lA tw ha hc oz)) (aL rfl rfl rfl) aM rfl rfl) ?_;refine gt (aJ (Con.rB 27 rfl rfl rfl rfl (lA tw hb hd oz)) (aL rfl rfl rfl) aM rfl rfl) ?_;refine gt (aJ (Con.rB 27 rfl rfl rfl rfl (rY▸uF tw (ha.mul tw rfl hc) (hb.mul tw rfl hd) oz)) (aL rfl rfl rfl) aM rfl rfl) ?_;refine gt (aJ (Con.rB 27 rfl rfl rfl rfl (lA tw hb hc oz)) (aL rfl rfl rfl) aM rfl rfl) ?_;refine gt (aJ (Con.rB 27 rfl rfl rfl rfl (lA tw ha hd oz)) (aL rfl rfl rfl) aM rfl rfl) ?_;refine gt (aJ (Con.rB 27 rfl rfl rfl rfl (xa▸w9 tw (hb.mul tw rfl hc) (ha.mul tw rfl hd) oz)) (aL rfl rfl rfl) aM rfl rfl) ?_;refine gt (aJ (Con.rB 27 rfl rfl rfl rfl (vz _ _ _)) (bO rfl rfl) aM rfl rfl) ?_;refine gD ?_;refine bF ?_;rfl
theorem Nv{ts:LL}{r e:Nat}(tw:Tw ts r){a b c d:List Rat}(ha:Nm ts.length e a)(hb:Nm ts.length e b)(hc:Nm ts.length e c)(hd:Nm ts.length e d)(he:2*e<=lm ts.length) :
  FP 192 [aR ts,aK a b,aK c d] (.tup [aK (sh ts.length (T.add ts.length (ae ts.length a) (ae ts.length c))) (sh ts.length (T.add ts.length (ae ts.length b) (ae ts.length d))),.v .nilIface]):=by
 refine aj func192 ?_;refine gc (rO (e:=e) tw [(a,b),(c,d)] (by simp only[mem_cons,not_mem_nil,or_false];rintro p (rfl |rfl);exact⟨ha,hb⟩;exact⟨hc,hd⟩) oz (by simp)) ?_;refine gC (fun t16=>?_) (fun t16=>?_) (st1:=(3,0));cases t16;refine gt (aJ (Con.rB 21 rfl rfl rfl rfl (w9 tw ha hc oz)) (aL rfl rfl rfl) aM rfl rfl) ?_;refine gt (aJ (Con.rB 21 rfl rfl rfl rfl (w9 tw hb hd oz)) (aL rfl rfl rfl) aM rfl rfl) ?_;refine gt (aJ (Con.rB 21 rfl rfl rfl rfl (vz _ _ _)) (bO rfl rfl) aM rfl rfl) ?_;refine gD ?_;refine bF ?_;rfl
theorem vr{x y:Rat}(hx:Qs x)(hy:Qs y):FP 153 [qA x,qA y] (aK (sh 0 (x:Rat)) (sh 0 (y:Rat))):=by
 refine aj func153 ?_;refine gc (oE hx) ?_;refine gc (oE hy) ?_;refine gD ?_;refine af ?_
 first |rfl |(simp;done)
theorem P9{ts:LL}{r e:Nat}(tw:Tw ts r){a b c d:List Rat}(ha:Nm ts.length e a)(hb:Nm ts.length e b)(hc:Nm ts.length e c)(hd:Nm ts.length e d){x y:Rat}(hx:Qb e x)(hy:Qb e y)(he:8*e+4*kB r ts.length+4<=lm ts.length) :
  FP 89 [aR ts,.agg [nA a,nA b,nA c,nA d],qA x,qA y] (.tup [aK (sh ts.length (sP ts (ae ts.length a) (ae ts.length b) (ae ts.length c) x y)) (sh ts.length (tj ts (ae ts.length a) (ae ts.length b) (ae ts.length d) x y)),.v .nilIface]):=by
 have hlm:=gV ts.length;have nx:=Nm.ofQ ha.five (Cb.one hx);have ny:=Nm.ofQ ha.five (Cb.one hy);have nX:=rI tw ha hb nx ny;have nY:=ud tw ha hb nx ny;have z1:e<=2*(e+e+kB r ts.length)+1:=by omega
 have z2:2*(2*(e+e+kB r ts.length)+1)<=lm ts.length:=Fj he;have hadd:=Nv tw nX nY (hc.mono z1) (hd.mono z1) z2;refine aj func89 ?_;refine gc (uJ (e:=e) tw [a,b,c,d] (by simp only[mem_cons,not_mem_nil,or_false];rintro x (rfl |rfl |rfl |rfl) <;> assumption) oz (by simp)) ?_;refine gC (fun t25=>?_) (fun t25=>?_) (st1:=(3,0));cases t25;refine gc (vr (hx.qs oz) (hy.qs oz)) ?_;refine gc (Ik tw ha hb nx ny oz) ?_;refine gD ?_;refine gC (fun t41=>?_) (fun t41=>?_) (st1:=(6,0));cases t41;refine gc hadd ?_;refine bF ?_;rw[vB,xi];rfl
theorem Gf(rs:List (List Rt))(r e:Nat)(h:TR rs r)(xs:List (List Rt))(hx:∀a∈xs,NR a e)(he:e<=lm rs.length)(hl:xs.length<=1000):FP 28 [cq rs,.lst 1 (xs.map nR)] (i64 (bi rs xs)):=by
 refine aj func28 ?_;refine gc (F0 rs r h) ?_;refine gC (fun t13=>?_) (fun t13=>?_)
 ·have h1:=hP t13;refine af ?_;rw[yQ h1]
 have h1:=gf t13;refine gl ?_;refine a5 [2,15,16] [2] (fun(i:Nat)=>[(17,some (i64 i))]) (fun _=>[]) (fun i=>i<=xs.length/\∀x∈xs.take i,bZ rs.length x=0) (fun i=>xs.length-i) 0 ⟨zero_le _,fun x hx=>by simp at hx⟩ ?_;rintro i ⟨hi,hj⟩ K1 J1;refine gC (fun t18=>?_) (fun t18=>?_)
 ·have hin : i < xs.length := by simpa [ac] using t18
  obtain⟨a,ha⟩:=aG hin;have hok:=hx a (mem_of_getElem? ha);have hone:bi rs [a]=bZ rs.length a:=CD h1;refine gi (aN ha) ?_;refine gc (J0 rs r h a e hok he) ?_;refine gC (fun t28=>?_) (fun t28=>?_)
  ·have h2:=hP t28;refine af ?_;rw[hone]at h2 ⊢;rw[xg h1 ha hj h2]
  have h2:=gf t28;rw[hone]at h2;refine ga aW ?_;exact aT J1 (i+1) ⟨hin,fun x hx=>by rw[d9 ha]at hx;rcases List.mem_append.1 hx with h9 |h9;exact hj x h9;(rw[List.mem_singleton.1 h9];exact h2)⟩
 have hin:i=xs.length:=by have:xs.length<=i:=(by simpa[ac]using t18);omega
 subst hin;rw[take_length]at hj;refine af ?_;rw[nU h1 hj];rfl
theorem xR{ts:LL}{r e f:Nat}(tw:Tw ts r){a b:List Rat}(ha:Nm ts.length e a)(hb:Nm ts.length f b)(he:e+f<=lm ts.length):FP 87 [aR ts,nA a,nA b] (nA (sh ts.length (T.add ts.length (ae ts.length a) (ae ts.length b)))):=by
 refine aj func87 ?_;refine gc (Nc tw ha hb he) ?_;refine af ?_
 first |rfl |(simp;done)
theorem wA{ts:LL}{r e f:Nat}(tw:Tw ts r){a b:List Rat}(ha:Nm ts.length e a)(hb:Nm ts.length f b)(he:e+f<=lm ts.length):FP 289 [aR ts,nA a,nA b] (nA (sh ts.length (T.add ts.length (ae ts.length a) (T.neg ts.length (ae ts.length b))))):=by
 refine aj func289 ?_;refine gc (Sl tw ha hb he) ?_;refine af ?_
 first |rfl |(simp;done)
theorem rC{ts:LL}{r e f:Nat}(tw:Tw ts r){a b:List Rat}(ha:Nm ts.length e a)(hb:Nm ts.length f b)(he:e+f<=lm ts.length):FP 30 [aR ts,nA a,nA b] (nA (sh ts.length (T.mul (aw ts) ts.length (ae ts.length a) (ae ts.length b)))):=by
 refine aj func30 ?_;refine gc (Of tw ha hb he) ?_;refine af ?_
 first |rfl |(simp;done)
theorem E8{ts:LL}{r e:Nat}(tw:Tw ts r){a:List Rat}(ha:Nm ts.length e a)(he:e<=lm ts.length):FP 29 [aR ts,nA a] (i64 (T.sgn (aw ts) ts.length (ae ts.length a))):=by
 refine aj func29 ?_;refine gc (Vq tw ha he) ?_;refine af ?_
 first |rfl |(simp;done)
theorem nQ{ts:LL}{r e f:Nat}(tw:Tw ts r){a b:List Rat}(ha:Nm ts.length e a)(hb:Nm ts.length f b)(he:e+f+1<=lm ts.length):FP 24 [aR ts,nA a,nA b] (bl (dV ts (ae ts.length a) (ae ts.length b))):=by
 refine aj func24 ?_;refine gc (OG tw ha hb he) ?_;refine af ?_;exact congrArg bl (M1 _)
theorem LT{ts:LL}{r e:Nat}(tw:Tw ts r){a b c d:List Rat}(ha:Nm ts.length e a)(hb:Nm ts.length e b)(hc:Nm ts.length e c)(hd:Nm ts.length e d)(he:2*e+1<=lm ts.length):FP 84 [aR ts,aK a b,aK c d] (bl (dV ts (ae ts.length a) (ae ts.length c)&&dV ts (ae ts.length b) (ae ts.length d))):=by
 refine aj func84 ?_;refine gc (nQ tw ha hc oz) ?_;refine bT (fun _=>(nQ tw hb hd oz)) ?_;refine af ?_;exact congrArg bl (gX _ _)
theorem Qv{ts:LL}{r e:Nat}(tw:Tw ts r){a b c d:List Rat}(ha:Nm ts.length e a)(hb:Nm ts.length e b)(hc:Nm ts.length e c)(hd:Nm ts.length e d)(he:2*(e+e+kB r ts.length)<=lm ts.length):FP 180 [aR ts,aK a b,aK c d] (nA (sh ts.length (mb ts (ae ts.length a) (ae ts.length b) (ae ts.length c) (ae ts.length d)))):=by
 refine aj func180 ?_;refine gc (rC tw ha hd oz) ?_;refine gc (rC tw hb hc oz) ?_;refine gc (rY▸wA tw (ha.mul tw rfl hd) (hb.mul tw rfl hc) oz) ?_;refine gD ?_;refine af ?_
 first |rfl |(simp;done)
theorem EW{ts:LL}{r e:Nat}(tw:Tw ts r){a b c d:List Rat}(ha:Nm ts.length e a)(hb:Nm ts.length e b)(hc:Nm ts.length e c)(hd:Nm ts.length e d)(he:2*e<=lm ts.length):FP 181 [aR ts,aK a b,aK c d] (aK (sh ts.length (subT ts (ae ts.length a) (ae ts.length c))) (sh ts.length (subT ts (ae ts.length b) (ae ts.length d)))):=by
 refine aj func181 ?_;refine gc (wA tw ha hc oz) ?_;refine gc (wA tw hb hd oz) ?_;refine gD ?_;refine af ?_
 first |rfl |(simp;done)
theorem Ou{ts:LL}{r e:Nat}(tw:Tw ts r){a b c d:List Rat}(ha:Nm ts.length e a)(hb:Nm ts.length e b)(hc:Nm ts.length e c)(hd:Nm ts.length e d)(he:2*e<=lm ts.length):FP 287 [aR ts,aK a b,aK c d] (aK (sh ts.length (T.add ts.length (ae ts.length a) (ae ts.length c))) (sh ts.length (T.add ts.length (ae ts.length b) (ae ts.length d)))):=by
 refine aj func287 ?_;refine gc (xR tw ha hc oz) ?_;refine gc (xR tw hb hd oz) ?_;refine gD ?_;refine af ?_
 first |rfl |(simp;done)
theorem Qg{ts:LL}{r e:Nat}(tw:Tw ts r){a b c d:List Rat}(ha:Nm ts.length e a)(hb:Nm ts.length e b)(hc:Nm ts.length e c)(hd:Nm ts.length e d)(he:2*(e+e+kB r ts.length)<=lm ts.length):FP 288 [aR ts,nA a,nA b,aK c d] (aK (sh ts.length (pX ts (ae ts.length a) (ae ts.length b) (ae ts.length c) (ae ts.length d))) (sh ts.length (qG ts (ae ts.length a) (ae ts.length b) (ae ts.length c) (ae ts.length d)))):=by
 refine aj func288 ?_;refine gc (rC tw ha hc oz) ?_;refine gc (rC tw hb hd oz) ?_;refine gc (rY▸wA tw (ha.mul tw rfl hc) (hb.mul tw rfl hd) oz) ?_;refine gc (rC tw hb hc oz) ?_;refine gc (rC tw ha hd oz) ?_;refine gc (xa▸xR tw (hb.mul tw rfl hc) (ha.mul tw rfl hd) oz) ?_;refine gD ?_;refine af ?_
 first |rfl |(simp;done)
theorem L8{ts:LL}{r e:Nat}(tw:Tw ts r){a b c d p q:List Rat}(ha:Nm ts.length e a)(hb:Nm ts.length e b)(hc:Nm ts.length e c)(hd:Nm ts.length e d)(hp:Nm ts.length e p)(hq:Nm ts.length e q)
  (he:8*e+10+2*kB r ts.length<=lm ts.length) :
  FP 85 [aR ts,aK a b,aK c d,aK p q] (i64 (T.sgn (aw ts) ts.length (pi ts (ae ts.length a) (ae ts.length b) (ae ts.length c) (ae ts.length d) (ae ts.length p) (ae ts.length q)))):=by
 have ho:=UD tw ha hb hc hd hp hq;refine aj func85 ?_;refine gc (EW tw hc hd ha hb oz) ?_;refine gc (EW tw hp hq ha hb oz) ?_;refine gc (DH▸Qv tw (hc.sub ha) (hd.sub hb) (hp.sub ha) (hq.sub hb) oz) ?_;refine gc (E8 tw ho oz) ?_;refine gD ?_;refine af ?_;rw[bc]
theorem KS{x y:Rat}(hx:Qs x)(hy:Qs y):FP 97 [qA x,qA y] (aK (sh 0 (x:Rat)) (sh 0 (y:Rat))):=by
 refine aj func97 ?_;refine gc (pH hx) ?_;refine gc (pH hy) ?_;refine gD ?_;refine af ?_
 first |rfl |(simp;done)
theorem Ue{ts:LL}{r e:Nat}(tw:Tw ts r){a b c d:List Rat}(ha:Nm ts.length e a)(hb:Nm ts.length e b)(hc:Nm ts.length e c)(hd:Nm ts.length e d){x y:Rat}(hx:Qb e x)(hy:Qb e y)(he:8*e+4*kB r ts.length+4<=lm ts.length) :
  FP 179 [aR ts,.agg [nA a,nA b,nA c,nA d],qA x,qA y] (aK (sh ts.length (sP ts (ae ts.length a) (ae ts.length b) (ae ts.length c) x y)) (sh ts.length (tj ts (ae ts.length a) (ae ts.length b) (ae ts.length d) x y))):=by
 have hlm:=gV ts.length;have nx:=Nm.ofQ ha.five (Cb.one hx);have ny:=Nm.ofQ ha.five (Cb.one hy);have nX:=rI tw ha hb nx ny;have nY:=ud tw ha hb nx ny;have z1:e<=2*(e+e+kB r ts.length)+1:=by omega
 have z2:2*(2*(e+e+kB r ts.length)+1)<=lm ts.length:=Fj he;have hadd:=Ou tw nX nY (hc.mono z1) (hd.mono z1) z2;refine aj func179 ?_;refine gc (KS (hx.qs oz) (hy.qs oz)) ?_;refine gc (Qg tw ha hb nx ny oz) ?_;refine gc hadd ?_;refine gD ?_;refine af ?_;rw[vB,xi];rfl
theorem MZ(n:Int)(h:-9223372036854775808<=n/\n<=9223372036854775807):FP 26 [i64 n] (nA (sh 0 ((n:Rat):Rat))):=by
 refine aj func26 ?_;refine gc (qL n h) ?_;refine gc (pH (mG h)) ?_;refine af ?_
 first |rfl |(simp;done)
theorem Ga{ts:LL}{r e:Nat}(tw:Tw ts r){a b c d p q u v:List Rat}(ha:Nm ts.length e a)(hb:Nm ts.length e b)(hc:Nm ts.length e c)(hd:Nm ts.length e d)(hp:Nm ts.length e p)(hq:Nm ts.length e q)(hu:Nm ts.length e u)(hv:Nm ts.length e v)(he:2*e+1<=lm ts.length) :
  FP 21 [aR ts,.agg [nA a,nA b,nA c,nA d],.agg [nA p,nA q,nA u,nA v]] (bl (dV ts (ae ts.length a) (ae ts.length p)&&dV ts (ae ts.length b) (ae ts.length q)&&dV ts (ae ts.length c) (ae ts.length u)&&dV ts (ae ts.length d) (ae ts.length v))):=by
 refine aj func21 ?_;refine gc (nQ tw ha hp oz) ?_;refine bT (fun _=>(nQ tw hb hq oz)) ?_;refine bT (fun _=>(nQ tw hc hu oz)) ?_;refine bT (fun _=>(nQ tw hd hv oz)) ?_;refine af ?_;exact congrArg bl (Mu _ _ _ _)
theorem yh:FP 45 [] (.agg [nA [1],nA [],nA [],nA []]):=by
 refine aj func45 ?_;refine gc (qL 1 oz) ?_;refine gc (pH (mG (n:=1) oz)) ?_;refine gR ?_;exact iF (.agg (.cons (.refl _) (.cons (.nil _ _ _) (.cons (.nil _ _ _) (.cons (.nil _ _ _) .nil)))) rfl)
def u8(n:Nat):AV:=.v (.int .u8 n)
theorem s8{p q:Bool}{a b:Nat}{c:Nat}(hp:p=decide (a<=c))(hq:q=decide (c<=b)):cond p q false=decide (a<=c/\c<=b):=by
 subst hp;subst hq
 by_cases h:a<=c
 ·simp[h]
 ·simp[h]
theorem sI(c k:Nat):ac .geq (c:Int) (k:Int)=decide (k<=c):=by simp only[ac,decide_eq_decide];omega
theorem sD(c k:Nat):ac .leq (c:Int) (k:Int)=decide (c<=k):=by simp only[ac,decide_eq_decide];omega
theorem QY(c:Nat):cond (cond (ac .geq (c:Int) 97) (ac .leq (c:Int) 122) false) true (cond (ac .geq (c:Int) 65) (ac .leq (c:Int) 90) false)=e8 c:=by
 have e1:cond (ac .geq (c:Int) 97) (ac .leq (c:Int) 122) false=decide (97<=c/\c<=122):=s8 (sI c 97) (sD c 122);have e2:cond (ac .geq (c:Int) 65) (ac .leq (c:Int) 90) false=decide (65<=c/\c<=90):=s8 (sI c 65) (sD c 90);rw[e1,e2];unfold e8;cases decide (97<=c/\c<=122) <;> rfl
theorem Kv(c:Nat):cond (cond (ac .geq (c:Int) 65) (ac .leq (c:Int) 90) false) true (cond (ac .geq (c:Int) 97) (ac .leq (c:Int) 122) false)=e8 c:=by
 have e1:cond (ac .geq (c:Int) 97) (ac .leq (c:Int) 122) false=decide (97<=c/\c<=122):=s8 (sI c 97) (sD c 122);have e2:cond (ac .geq (c:Int) 65) (ac .leq (c:Int) 90) false=decide (65<=c/\c<=90):=s8 (sI c 65) (sD c 90);rw[e1,e2];unfold e8;cases decide (97<=c/\c<=122) <;> cases decide (65<=c/\c<=90) <;> rfl
theorem Ge(c:Nat):cond (ac .geq (c:Int) 48) (ac .leq (c:Int) 57) false=qY c:=s8 (sI c 48) (sD c 57)
theorem Aw(c:Nat):cond (cond (e8 c) true (qY c)) true (ac .eql (c:Int) 95)=kF c:=by
 unfold kF
 have:ac .eql (c:Int) 95=decide (c=95):=by
  rw[Bool.eq_iff_iff];simp only[ac,beq_iff_eq,decide_eq_true_eq];omega
 rw[this];cases e8 c <;> cases qY c <;> rfl
theorem Du(c:Nat):FP 363 [u8 c] (bl (e8 c)):=by
 refine aj func363 ?_;refine af ?_;exact congrArg bl (QY c)
theorem RQ(c:Nat):FP 390 [u8 c] (bl (qY c)):=by
 refine aj func390 ?_;refine af ?_;exact congrArg bl (Ge c)
theorem Jr(c:Nat):FP 364 [u8 c] (bl (kF c)):=by
 refine aj func364 ?_;refine gc (Du c) ?_;refine bT (fun _=>(RQ c)) ?_;refine af ?_;exact congrArg bl (Aw c)
theorem Cg(c:Nat):FP 315 [u8 c] (bl (e8 c)):=by
 refine aj func315 ?_;refine af ?_;exact congrArg bl (Kv c)
theorem QK(c:Nat):FP 317 [u8 c] (bl (qY c)):=by
 refine aj func317 ?_;refine af ?_;exact congrArg bl (Ge c)
theorem Jm(s:ByteArray)(hs:s.size<=281474976710656):FP 300 [.v (.string s)] (i64 (fo s)):=by
 refine aj func300 ?_;refine gs (eK rfl rfl rfl (fun h=>wg (.opt rfl (o1 h)) (.const _) T9 rfl oz (by have:=Io h;omega) rfl)) ?_;refine bT (fun _=>(Du (dW s 0))) ?_;refine gC (fun t11=>?_) (fun t11=>?_)
 ·have h0:fo s=0:=O7 t11;refine af ?_;rw[h0];rfl
 obtain⟨h0,h1⟩:=RN t11;refine a5 [0] [] (fun(n:Nat)=>[(3,some (i64 n))]) (fun _=>[]) (fun n=>1<=n/\n<=s.size/\fu s 1 (s.size-1)=fu s n (s.size-n)) (fun n=>s.size-n) 1 ⟨le_refl _,h0,rfl⟩ ?_;rintro n ⟨hn1,hn,hw⟩ K1 J1;refine gs (eK rfl rfl rfl (fun h=>wg (.opt rfl (o1 h)) (.opt rfl (o1 h)) T9 rfl oz (by have:=bn h;omega) rfl)) ?_;refine bT (fun _=>(Jr (dW s n))) ?_;refine gC (fun t21=>?_) (fun t21=>?_)
 ·have h2:n<s.size/\kF (dW s n)=true:=Ox t21;refine ga aW ?_;exact aT J1 (n+1) ⟨by omega,by omega,by rw[hw,show s.size-n=(s.size-(n+1))+1 by omega];simp only[fu,h2.2,if_true]⟩
 have h2:n<s.size->kF (dW s n)=false:=No t21
 have h3:fo s=n:=by
  unfold fo;rw[if_pos ⟨h0,h1⟩,hw];rcases lt_or_ge n s.size with h |h
  ·rw[show s.size-n=(s.size-(n+1))+1 by omega];simp only[fu,h2 h,Bool.false_eq_true,if_false]
  ·rw[show s.size-n=0 by omega];rfl
 refine af ?_;rw[h3]
theorem tC(s:ByteArray)(hs:s.size<=281474976710656):FP 204 [.v (.string s)] (bl (iH s)):=by
 refine aj func204 ?_;refine gc (Jm s hs) ?_;refine af ?_;exact congrArg bl (JT s)
theorem xk(s:ByteArray)(i:Nat):FP 316 [.v (.string s),i64 i] (u8 (dW s i)):=by
 refine aj func316 ?_;refine gC (fun t8=>?_) (fun t8=>?_)
 ·have h0:=bn t8;refine gs (wg (.tmp rfl) (.tmp rfl) T9 rfl oz oz rfl) ?_;refine af ?_;rfl
 have h0:=q7 t8;refine af ?_;rw[ES oz];rfl
theorem QW(s:ByteArray)(hs:s.size<=281474976710656):FP 225 [.v (.string s),i64 0] (i64 ((if e8 (dW s 0)then fu s 0 s.size else 0:Nat))):=by
 refine aj func225 ?_;refine gc (xk s 0) ?_;refine gc (Cg (dW s 0)) ?_;refine gC (fun t9=>?_) (fun t9=>?_)
 ·have h0 : e8 (dW s 0) = false := by simpa using t9
  refine af ?_;rw[h0];rfl
 have h0:e8 (dW s 0)=true:=by simpa using t9
 refine a5 [0] [] (fun(n:Nat)=>[(1,some (i64 n))]) (fun _=>[]) (fun n=>n<=s.size/\fu s 0 s.size=fu s n (s.size-n)) (fun n=>s.size-n) 0 ⟨zero_le _,rfl⟩ ?_;rintro n ⟨hn,hw⟩ K1 J1;refine gc (xk s n) ?_;refine gc (Cg (dW s n)) ?_;refine bT (fun _=>(xk s n)) ?_;refine bT (fun _=>(QK (dW s n))) ?_;refine bT (fun _=>(xk s n)) ?_;refine gC (fun t26=>?_) (fun t26=>?_)
 ·have h1:kF (dW s n)=true:=(Aw _).symm.trans t26
  have h2:n<s.size:=by
   rcases lt_or_ge n s.size with h |h
   ·exact h
   ·rw[ES h]at h1;cases h1
  refine ga aW ?_;exact aT J1 (n+1) ⟨by omega,by rw[hw,show s.size-n=(s.size-(n+1))+1 by omega];simp only[fu,h1,if_true]⟩
 have h1:kF (dW s n)=false:=(Aw _).symm.trans t26
 have h2:fu s 0 s.size=n:=by
  rw[hw];rcases lt_or_ge n s.size with h |h
  ·rw[show s.size-n=(s.size-(n+1))+1 by omega];simp only[fu,h1,Bool.false_eq_true,if_false]
  ·rw[show s.size-n=0 by omega];rfl
 refine af ?_;rw[h0,h2];rfl
theorem sC(s:ByteArray)(hs:s.size<=281474976710656):FP 111 [.v (.string s)] (bl (iH s)):=by
 refine aj func111 ?_;refine bT (fun _=>(QW s hs)) ?_;refine af ?_;exact congrArg bl (M4 s)
theorem ph(i:Int)(n:Nat):FP 302 [i64 i,i64 n] (bl (bD i n)):=by
 refine aj func302 ?_;refine af ?_;exact congrArg bl (BV i n)
theorem UG(bs:List Bd)(hbs:∀b∈bs,b.ok)(hl:bs.length<=281474976710656):FP 205 [.lst 2 (bs.map Bd.av)] (cg (fm bs.length (eA bs))):=by
 refine aj func205 ?_;refine gl ?_;refine a5 [0,11,12] [] (fun(i:Nat)=>[(13,some (i64 i))]) (fun _=>[]) (fun i=>i<=bs.length/\∀j,j<i->eA bs j=0) (fun i=>bs.length-i) 0 ⟨zero_le _,fun j h=>by omega⟩ ?_;rintro i ⟨hi,hj⟩ K1 J1;refine gC (fun t14=>?_) (fun t14=>?_)
 ·have hin:=bn t14;obtain⟨b,hb⟩:=aG hin;have hbd:bs.getD i default=b:=ao hb;have hbo:=hbs b (mem_of_getElem? hb);have hbdup:=mC Bd.name hb;refine gi (aN hb) ?_;refine gc (tC b.name hbo.name) ?_;refine gC (fun t21=>?_) (fun t21=>?_)
  ·have h1:=dH t21;have e1:eA bs i = 5:=by unfold eA; rw [hbd,if_pos h1]
   refine af ?_;rw[er hin hj (by rw[e1];decide),e1];rfl
  have h1:=dC t21;refine gs (cT (.tmp rfl) (.none _) (.some _ (.tmp rfl) oz) T22 rfl T173 rfl oz (by simp only[length_map];omega) rfl) ?_;refine ge rfl ?_;refine a5 [0,3,4,11,12,13] [4] (fun(k:Nat)=>[(25,some (.lst 2 ((bs.take i).map Bd.av))),(26,some (i64 i)),(27,some (i64 k))]) (fun _=>[]) (fun k=>k<=i/\(bs.take k).any (fun y=>dS y.name b.name)=false) (fun k=>i-k) 0 ⟨zero_le _,rfl⟩ ?_ (h1:=(.cons rfl (Sub.of (rJ 2 Bd.av bs i)) (.cons rfl (Sub.int (by simp;omega)) (.k .nil))));rintro k ⟨hk,hd⟩ K2 J2;refine gC (fun t28=>?_) (fun t28=>?_)
  ·have hkn:=bn t28;obtain ⟨y,hy'⟩:∃ y,(bs.take i)[k]? = some y:=aG (by simp; omega);have hy:=(s6 hy').1;refine gi (aN hy') ?_;refine gC (fun t35=>?_) (fun t35=>?_)
   ·have h2:dS y.name b.name = true:=t35;have e1:eA bs i = 6:=by unfold eA; rw [hbd,if_neg (by rw [h1]; decide),if_pos (by rw [hbdup]; exact lB hy hkn h2)]
    refine af ?_;rw[er hin hj (by rw[e1];decide),e1];rfl
   have h2:dS y.name b.name=false:=t35;refine ga aW ?_;exact aT J2 (k+1) ⟨hkn,kK hy hd h2⟩
  have hkn:=bE hk t28;subst hkn;have hnd:¬gH (bs.map Bd.name) k=true:=by rw[hbdup,hd];decide
  refine gl ?_;refine gC (fun t41=>?_) (fun t41=>?_)
  ·have h3:8 < b.pts.length:=jy t41;have e1:eA bs k = 4:=by unfold eA; rw [hbd,if_neg (by rw [h1]; decide),if_neg hnd,if_pos h3]
   refine af ?_;rw[er hin hj (by rw[e1];decide),e1];rfl
  have h3:b.pts.length<=8:=j9 t41;have e1:eA bs k=fm b.pts.length (eg b.pts):=by unfold eA;rw[hbd,if_neg (by rw[h1];decide),if_neg hnd,if_neg oz]
  refine gl ?_;refine a5 [0,4,11,12,13,44,45] [4] (fun(p:Nat)=>[(46,some (i64 p))]) (fun _=>[]) (fun p=>p<=b.pts.length/\∀j,j<p->eg b.pts j=0) (fun p=>b.pts.length-p) 0 ⟨zero_le _,fun j h=>by omega⟩ ?_;rintro p ⟨hp,hpj⟩ K3 J3;refine gC (fun t47=>?_) (fun t47=>?_)
  ·have hpn:=bn t47;obtain⟨m,hm⟩:=aG hpn;have hmd:b.pts.getD p default=m:=ao hm;have hmm:=mem_of_getElem? hm;have hmdup:=mC Mk.name hm;have hmo:=hbo.pts m hmm;refine gi (aN hm) ?_;refine gc (tC m.name (hbo.names m hmm)) ?_;refine gC (fun t54=>?_) (fun t54=>?_)
   ·have h4:=dH t54;have e2:eg b.pts p = 5:=by unfold eg; rw [hmd,if_pos h4]
    have e3:eA bs k=5:=by rw[e1,er hpn hpj (by rw[e2];decide),e2]
    refine af ?_;rw[er hin hj (by rw[e3];decide),e3];rfl
   have h4:=dC t54;refine gs (cT (.tmp rfl) (.none _) (.some _ (.tmp rfl) oz) T171 rfl T175 rfl oz (by simp only[length_map];omega) rfl) ?_;refine ge rfl ?_;refine a5 [0,4,8,11,12,13,44,45,46] [4,8] (fun(q:Nat)=>[(59,some (.lst 7 ((b.pts.take p).map Mk.av))),(60,some (i64 p)),(61,some (i64 q))]) (fun _=>[]) (fun q=>q<=p/\(b.pts.take q).any (fun y=>dS y.name m.name)=false) (fun q=>p-q) 0 ⟨zero_le _,rfl⟩ ?_ (h1:=(.cons rfl (Sub.of (rJ 7 Mk.av b.pts p)) (.cons rfl (Sub.int (by simp;omega)) (.k .nil))));rintro q ⟨hq,hqd⟩ K4 J4;refine gC (fun t62=>?_) (fun t62=>?_)
   ·have hqn:=bn t62;obtain ⟨y,hy'⟩:∃ y,(b.pts.take p)[q]? = some y:=aG (by simp; omega);have hy:=(s6 hy').1;refine gi (aN hy') ?_;refine gC (fun t69=>?_) (fun t69=>?_)
    ·have h5:dS y.name m.name = true:=t69;have e2:eg b.pts p = 6:=by unfold eg; rw [hmd,if_neg (by rw [h4]; decide),if_pos (by rw [hmdup]; exact lB hy hqn h5)]
     have e3:eA bs k=6:=by rw[e1,er hpn hpj (by rw[e2];decide),e2]
     refine af ?_;rw[er hin hj (by rw[e3];decide),e3];rfl
    have h5:dS y.name m.name=false:=t69;refine ga aW ?_;exact aT J4 (q+1) ⟨hqn,kK hy hqd h5⟩
   have hqn:=bE hq t62;subst hqn;have hmnd:¬gH (b.pts.map Mk.name) q=true:=by rw[hmdup,hqd];decide
   refine gc (sw m.x hmo.x) ?_;refine bT (fun _=>(sw m.y hmo.y)) ?_;refine gC (fun t81=>?_) (fun t81=>?_)
   ·have h6:=oR t81;have e2:eg b.pts q = 3:=by unfold eg; rw [hmd,if_neg (by rw [h4]; decide),if_neg hmnd,if_neg (by rintro ⟨g1,g2⟩; rcases h6 with g | g; (rw [g1] at g; cases g); (rw [g2] at g; cases g))]
    have e3:eA bs k=3:=by rw[e1,er hpn hpj (by rw[e2];decide),e2]
    refine af ?_;rw[er hin hj (by rw[e3];decide),e3];rfl
   have h6:=nH t81;have e2:eg b.pts q=0:=by unfold eg;rw[hmd,if_neg (by rw[h4];decide),if_neg hmnd,if_pos h6]
   refine ga aW ?_;exact aT J3 (q+1) ⟨hpn,fun j h9=>by rcases lt_or_ge j q with g |g;exact hpj j g;(have:j=q:=by omega);subst this;exact e2⟩
  have hpn:=bE hp t47;subst hpn;have e2:eA bs k=0:=e1.trans (mD hpj);refine ga aW ?_;exact aT J1 (k+1) ⟨hin,fun j h9=>by rcases lt_or_ge j k with g |g;exact hj j g;(have:j=k:=by omega);subst this;exact e2⟩
 have hin:=bE hi t14;subst hin;refine af ?_;rw[mD hj];rfl
theorem Ll(l:Li)(hl:l.ok)(j:Jt):FP 301 [l.av,j.av] (cg (eF l j)):=by
 refine aj func301 ?_;refine gC (fun t15=>?_) (fun t15=>?_)
 ·have h1:=BF t15;refine af ?_;unfold eF;rw[if_pos h1];rfl
 have h1:=G5 t15;refine gl ?_;refine gc (ph j.a l.bo.length) ?_;refine cO ?_;refine bT (fun _=>(ph j.b l.bo.length)) ?_;refine gC (fun t32=>?_) (fun t32=>?_)
 ·have h2:=oR t32;refine af ?_;unfold eF;rw[if_neg h1,if_pos h2];rfl
 have h2:=nH t32;have h2n:¬(bD j.a l.bo.length=false\/bD j.b l.bo.length=false):=by rw[h2.1,h2.2];simp
 obtain⟨A,hA,pA,mA,zA0⟩:=oS h2.1;obtain⟨B,hB,pB,mB,zB0⟩:=oS h2.2;refine gC (fun t38=>?_) (fun t38=>?_)
 ·have h3:=cK t38;refine af ?_;unfold eF;rw[if_neg h1,if_neg h2n,if_pos h3];rfl
 have h3:=dj t38;refine gi (aN hB) ?_;refine gi (aN hA) ?_;refine gl ?_;refine gc (ph j.point A.pts.length) ?_;refine cO ?_;refine bT (fun _=>(ph j.on B.pts.length)) ?_;refine gD ?_;refine gC (fun t66=>?_) (fun t66=>?_)
 ·have h4:=oR t66;refine af ?_;unfold eF;rw[if_neg h1,if_neg h2n,if_neg h3,pA,pB,if_pos h4];rfl
 have h4:=nH t66;have h4n:¬(bD j.point A.pts.length=false\/bD j.on B.pts.length=false):=by rw[h4.1,h4.2];simp
 refine gC (fun t70=>?_) (fun t70=>?_)
 ·have h5:=cK t70;refine gC (fun t73=>?_) (fun t73=>?_)
  ·have h6:=tk t73;refine af ?_;unfold eF;rw[if_neg h1,if_neg h2n,if_neg h3,pA,pB,if_neg h4n,if_pos h5,if_pos h6];rfl
  have h6:=wB t73;refine af ?_;unfold eF;rw[if_neg h1,if_neg h2n,if_neg h3,pA,pB,if_neg h4n,if_pos h5,if_neg (by rw[h6];simp)];rfl
 have h5:=dj t70;refine gl ?_;refine gc (ph j.to B.pts.length) ?_;refine gC (fun t80=>?_) (fun t80=>?_)
 ·have h6:=dH t80;refine af ?_;unfold eF;rw[if_neg h1,if_neg h2n,if_neg h3,pA,pB,if_neg h4n,if_neg h5,if_pos h6];rfl
 have h6:=dC t80;obtain⟨m1,g1,d1,mm1,z1⟩:=qH h4.2;obtain⟨m2,g2,d2,mm2,z2⟩:=qH h6;have mo1:=(hl.bo B mB).pts m1 mm1;have mo2:=(hl.bo B mB).pts m2 mm2;refine gi (aN g1) ?_;refine gi (aN g2) ?_;refine gD ?_;refine gc (D9 m1.x m2.x mo1.x mo2.x) ?_;refine bT (fun _=>(D9 m1.y m2.y mo1.y mo2.y)) ?_;refine gC (fun t105=>?_) (fun t105=>?_)
 ·have h7:=BL t105;refine af ?_;unfold eF;rw[if_neg h1,if_neg h2n,if_neg h3,pA,pB,if_neg h4n,if_neg h5,if_neg (by rw[h6];decide),d1,d2,if_pos h7];rfl
 have h7:=CK t105;refine af ?_;unfold eF;rw[if_neg h1,if_neg h2n,if_neg h3,pA,pB,if_neg h4n,if_neg h5,if_neg (by rw[h6];decide),d1,d2,if_neg h7];rfl
theorem PT(l:Li)(hl:l.ok):FP 206 [l.av] (cg (eU l)):=by
 have hlj:=hl.lj;refine aj func206 ?_;refine gl ?_;refine gC (fun t11=>?_) (fun t11=>?_)
 ·have h0:16<l.jo.length:=jy t11;refine af ?_;unfold eU;rw[if_pos h0];rfl
 have h0:l.jo.length<=16:=j9 t11;have e0:eU l=fm l.jo.length (fT l):=by unfold eU;rw[if_neg oz]
 refine gl ?_;refine a5 [1,14,15] [1] (fun(i:Nat)=>[(16,some (i64 i))]) (fun _=>[]) (fun i=>i<=l.jo.length/\∀j,j<i->fT l j=0) (fun i=>l.jo.length-i) 0 ⟨zero_le _,fun j h=>by omega⟩ ?_;rintro i ⟨hi,hj⟩ K1 J1;refine gC (fun t17=>?_) (fun t17=>?_)
 ·have hin:=bn t17;obtain⟨b,hb⟩:=aG hin;have hbd:l.jo.getD i default=b:=ao hb;have hbdup:=mC Jt.name hb;refine gi (aN hb) ?_;refine gc (tC b.name (hl.jnames b (mem_of_getElem? hb))) ?_;refine gC (fun t24=>?_) (fun t24=>?_)
  ·have h1:=dH t24;have e1:fT l i = 5:=by unfold fT; rw [hbd,if_pos h1]
   refine af ?_;rw[e0,er hin hj (by rw[e1];decide),e1];rfl
  have h1:=dC t24;refine gs (cT (.tmp rfl) (.none _) (.some _ (.tmp rfl) oz) T23 rfl T75 rfl oz (by simp only[length_map];omega) rfl) ?_;refine ge rfl ?_;refine a5 [1,3,4,14,15,16] [1,4] (fun(k:Nat)=>[(29,some (.lst 7 ((l.jo.take i).map Jt.av))),(30,some (i64 i)),(31,some (i64 k))]) (fun _=>[]) (fun k=>k<=i/\(l.jo.take k).any (fun y=>dS y.name b.name)=false) (fun k=>i-k) 0 ⟨zero_le _,rfl⟩ ?_ (h1:=(.cons rfl (Sub.of (rJ 7 Jt.av l.jo i)) (.cons rfl (Sub.int (by simp;omega)) (.k .nil))));rintro k ⟨hk,hd⟩ K2 J2;refine gC (fun t32=>?_) (fun t32=>?_)
  ·have hkn:=bn t32;obtain ⟨y,hy'⟩:∃ y,(l.jo.take i)[k]? = some y:=aG (by simp; omega);have hy:=(s6 hy').1;refine gi (aN hy') ?_;refine gC (fun t39=>?_) (fun t39=>?_)
   ·have h2:dS y.name b.name = true:=t39;have e1:fT l i = 6:=by unfold fT; rw [hbd,if_neg (by rw [h1]; decide),if_pos (by rw [hbdup]; exact lB hy hkn h2)]
    refine af ?_;rw[e0,er hin hj (by rw[e1];decide),e1];rfl
   have h2:dS y.name b.name=false:=t39;refine ga aW ?_;exact aT J2 (k+1) ⟨hkn,kK hy hd h2⟩
  have hkn:=bE hk t32;subst hkn;have hnd:¬gH (l.jo.map Jt.name) k=true:=by rw[hbdup,hd];decide
  have e1:fT l k=eF l b:=by unfold fT;rw[hbd,if_neg (by rw[h1];decide),if_neg hnd]
  refine gc (Ll l hl b) ?_;refine gC (fun t46=>?_) (fun t46=>?_)
  ·have h3:=fp t46;refine af ?_;rw[e0,er hin hj (by rw[e1];exact h3),e1]
  have h3:=eM t46;refine ga aW ?_;exact aT J1 (k+1) ⟨hin,fun j h9=>by rcases lt_or_ge j k with g |g;exact hj j g;(have:j=k:=by omega);subst this;exact e1.trans h3⟩
 have hin:=bE hi t17;subst hin;refine af ?_;rw[e0,mD hj];rfl
theorem Kh(l:Li)(hl:l.ok):FP 207 [l.av] (cg (ir l)):=by
 have hld:=hl.ld;refine aj func207 ?_;refine gl ?_;refine gC (fun t12=>?_) (fun t12=>?_)
 ·have h0:2<l.dv.length:=jy t12;refine af ?_;unfold ir;rw[if_pos h0];rfl
 have h0:l.dv.length<=2:=j9 t12;have e0:ir l=fm l.dv.length (ek l):=by unfold ir;rw[if_neg oz]
 refine gl ?_;refine a5 [1,15,16] [1] (fun(i:Nat)=>[(17,some (i64 i))]) (fun _=>[]) (fun i=>i<=l.dv.length/\∀j,j<i->ek l j=0) (fun i=>l.dv.length-i) 0 ⟨zero_le _,fun j h=>by omega⟩ ?_;rintro i ⟨hi,hj⟩ K1 J1;refine gC (fun t18=>?_) (fun t18=>?_)
 ·have hin:=bn t18;obtain⟨b,hb⟩:=aG hin;have hbd:l.dv.getD i default=b:=ao hb;have hbdup:=mC Dr.name hb;refine gi (aN hb) ?_;refine gc (tC b.name (hl.dnames b (mem_of_getElem? hb))) ?_;refine gC (fun t25=>?_) (fun t25=>?_)
  ·have h1:=dH t25;have e1:ek l i = 5:=by unfold ek; rw [hbd,if_pos h1]
   refine af ?_;rw[e0,er hin hj (by rw[e1];decide),e1];rfl
  have h1:=dC t25;refine gs (cT (.tmp rfl) (.none _) (.some _ (.tmp rfl) oz) T24 rfl T185 rfl oz (by simp only[length_map];omega) rfl) ?_;refine ge rfl ?_;refine a5 [1,3,4,15,16,17] [1,4] (fun(k:Nat)=>[(30,some (.lst 2 ((l.dv.take i).map Dr.av))),(31,some (i64 i)),(32,some (i64 k))]) (fun _=>[]) (fun k=>k<=i/\(l.dv.take k).any (fun y=>dS y.name b.name)=false) (fun k=>i-k) 0 ⟨zero_le _,rfl⟩ ?_ (h1:=(.cons rfl (Sub.of (rJ 2 Dr.av l.dv i)) (.cons rfl (Sub.int (by simp;omega)) (.k .nil))));rintro k ⟨hk,hd⟩ K2 J2;refine gC (fun t33=>?_) (fun t33=>?_)
  ·have hkn:=bn t33;obtain ⟨y,hy'⟩:∃ y,(l.dv.take i)[k]? = some y:=aG (by simp; omega);have hy:=(s6 hy').1;refine gi (aN hy') ?_;refine gC (fun t40=>?_) (fun t40=>?_)
   ·have h2:dS y.name b.name = true:=t40;have e1:ek l i = 6:=by unfold ek; rw [hbd,if_neg (by rw [h1]; decide),if_pos (by rw [hbdup]; exact lB hy hkn h2)]
    refine af ?_;rw[e0,er hin hj (by rw[e1];decide),e1];rfl
   have h2:dS y.name b.name=false:=t40;refine ga aW ?_;exact aT J2 (k+1) ⟨hkn,kK hy hd h2⟩
  have hkn:=bE hk t33;subst hkn;have hnd:¬gH (l.dv.map Dr.name) k=true:=by rw[hbdup,hd];decide
  refine gl ?_;refine gc (ph b.body l.bo.length) ?_;refine gC (fun t49=>?_) (fun t49=>?_)
  ·have h3:=dH t49;have e1:ek l k = 9:=by unfold ek; rw [hbd,if_neg (by rw [h1]; decide),if_neg hnd,if_pos h3]
   refine af ?_;rw[e0,er hin hj (by rw[e1];decide),e1];rfl
  have h3:=dC t49;refine gC (fun t53=>?_) (fun t53=>?_)
  ·have h4:=cK t53;have e1:ek l k = 7:=by unfold ek; rw [hbd,if_neg (by rw [h1]; decide),if_neg hnd,if_neg (by rw [h3]; decide),if_pos h4]
   refine af ?_;rw[e0,er hin hj (by rw[e1];decide),e1];rfl
  have h4:=dj t53;have e1:ek l k=if(l.dv.take k).any (fun d=>decide (d.body=b.body))=true then 6 else 0:=by unfold ek;rw[hbd,if_neg (by rw[h1];decide),if_neg hnd,if_neg (by rw[h3];decide),if_neg h4]
  refine gs (cT (.tmp rfl) (.none _) (.some _ (.tmp rfl) oz) T24 rfl T185 rfl oz (by simp only[length_map];omega) rfl) ?_;refine ge rfl ?_;refine a5 [1,4,15,16,17] [1,4] (fun(q:Nat)=>[(58,some (.lst 2 ((l.dv.take k).map Dr.av))),(59,some (i64 k)),(60,some (i64 q))]) (fun _=>[]) (fun q=>q<=k/\(l.dv.take q).any (fun d=>decide (d.body=b.body))=false) (fun q=>k-q) 0 ⟨zero_le _,rfl⟩ ?_ (h1:=(.cons rfl (Sub.of (rJ 2 Dr.av l.dv k)) (.cons rfl (Sub.int (by simp;omega)) (.k .nil))));rintro q ⟨hq,hqd⟩ K3 J3;refine gC (fun t61=>?_) (fun t61=>?_)
  ·have hqn:=bn t61;obtain ⟨y,hy'⟩:∃ y,(l.dv.take k)[q]? = some y:=aG (by simp; omega);have hy:=(s6 hy').1;refine gi (aN hy') ?_;refine gC (fun t68=>?_) (fun t68=>?_)
   ·have h5:decide (y.body = b.body) = true:=decide_eq_true (cK t68);have e2:ek l k = 6:=by rw [e1,if_pos (lB hy hqn h5)]
    refine af ?_;rw[e0,er hin hj (by rw[e2];decide),e2];rfl
   have h5:decide (y.body=b.body)=false:=decide_eq_false (dj t68);refine ga aW ?_;exact aT J3 (q+1) ⟨hqn,kK hy hqd h5⟩
  have hqn:=bE hq t61;subst hqn;have e2:ek l q=0:=by rw[e1,hqd];rfl
  refine ga aW ?_;exact aT J1 (q+1) ⟨hin,fun j h9=>by rcases lt_or_ge j q with g |g;exact hj j g;(have:j=q:=by omega);subst this;exact e2⟩
 have hin:=bE hi t18;subst hin;refine af ?_;rw[e0,mD hj];rfl
theorem FV(l:Li)(hl:l.ok):FP 104 [l.av] (cg (aO l)):=by
 have hlb:=hl.lb;refine aj func104 ?_;refine gc (tC l.name hl.name) ?_;refine gC (fun t8=>?_) (fun t8=>?_)
 ·have h1:=dH t8;refine af ?_;unfold aO;rw[if_pos h1];rfl
 have h1:=dC t8;refine gl ?_;refine gC (fun t13=>?_) (fun t13=>?_)
 ·have h2:=C4 t13;refine af ?_;unfold aO;rw[if_neg (by rw[h1];decide),if_pos h2];rfl
 have h2:=HZ t13;refine gl ?_;refine gC (fun t18=>?_) (fun t18=>?_)
 ·have h3:8<l.bo.length:=jy t18;refine af ?_;unfold aO;rw[if_neg (by rw[h1];decide),if_neg h2,if_pos h3];rfl
 have h3:l.bo.length<=8:=j9 t18;have e0:aO l=if iI l≠0 then iI l else if eU l≠0 then eU l else ir l:=by unfold aO;rw[if_neg (by rw[h1];decide),if_neg h2,if_neg oz]
 refine gc (UG l.bo hl.bo hlb) ?_;refine gC (fun t24=>?_) (fun t24=>?_)
 ·have h4:iI l≠0:=fp t24;refine af ?_;rw[e0,if_pos h4];rfl
 have h4:iI l=0:=eM t24;refine gc (PT l hl) ?_;refine gC (fun t29=>?_) (fun t29=>?_)
 ·have h5:=fp t29;refine af ?_;rw[e0,if_neg (by rw[h4];simp),if_pos h5]
 have h5:=eM t29;refine gc (Kh l hl) ?_;refine af ?_;rw[e0,if_neg (by rw[h4];simp),if_neg (by rw[h5];simp)]
theorem yp(d:Nat)(hd:Nat.blt d 1000=true)(l:Li)(hl:l.bo.length<=1000)(b:Nat)(hb:b<l.bo.length) :
  Con prog 135 [l.av,i64 b] [] (.ms d 1 0 l.bo.length) [(d,some (.row 1 ((dg l.bo.length b).map bl)))]:=by
 refine gF func135 (fun k z h=>by cases h) ?_;refine gl ?_;refine gs (it (.tmp rfl) T219 rfl T4 rfl rfl oz (by dsimp only;omega) rfl) ?_;refine gs (lP (.tmp rfl) (.tmp rfl) T219 rfl T4 rfl oz oz rfl) ?_;refine gs (dF (.tmp rfl) rfl (by rw[List.getElem?_replicate,if_pos (by simp;omega)]) rfl (.const _) rfl rfl T4 rfl rfl) ?_ (3,0);refine gW (Wk.of (sl:=[(5,some (.ms 9 1 0 l.bo.length))]) (hp:=[(9,some (.row 1 ((dg l.bo.length b).map bl)))]) (.cons rfl (Sub.of (by rw[toNat_natCast])) .nil) (.cons rfl (BlkSub.of (by unfold dg;simp only[map_set,map_replicate,Nat.zero_add,toNat_natCast];rfl)) .nil)) ?_ (3,0);refine gW (Wk.rk (k:=9) (d:=900) rfl rfl) ?_;refine gR ?_;exact aH.own1 rfl hd rfl
theorem Qh(l:Li)(hl:l.bo.length<=1000)(b:Nat)(hb:b<l.bo.length):FP 135 [l.av,i64 b] (.lst 1 ((dg l.bo.length b).map bl)):=by
 have h:=Con.freeze (by rw[length_map,jl];omega) (yp 0 rfl l hl b hb);rw[drop_zero,take_of_length_le (by rw[length_map,jl];exact le_refl _)]at h;exact h
theorem U2(l:Li)(hl:l.ok)(b:Int):FP 333 [l.av,i64 b] (bl (o5 l b)):=by
 have hld:=hl.ld;refine aj func333 ?_;refine gl ?_;refine a5 [1,8,9] [] (fun(i:Nat)=>[(10,some (i64 i))]) (fun _=>[]) (fun i=>i<=l.dv.length/\(l.dv.take i).any (fun d=>decide (d.body=b))=false) (fun i=>l.dv.length-i) 0 ⟨zero_le _,rfl⟩ ?_;rintro i ⟨hi,hj⟩ K1 J1;refine gC (fun t11=>?_) (fun t11=>?_)
 ·have hin:=bn t11;obtain⟨d,hd⟩:=aG hin;refine gi (aN hd) ?_;refine gC (fun t17=>?_) (fun t17=>?_)
  ·have h1:d.body=b:=cK t17;refine af ?_;unfold o5;rw[List.any_eq_true.2 ⟨d,mem_of_getElem? hd,decide_eq_true h1⟩];rfl
  have h1:d.body≠b:=dj t17;refine ga aW ?_;exact aT J1 (i+1) ⟨hin,kK hd hj (decide_eq_false h1)⟩
 have hin:=bE hi t11;subst hin;rw[take_length]at hj;refine af ?_;unfold o5;rw[hj];rfl
theorem Dp(l:Li)(hl:l.ok)(hli:aO l=0)(kind body:Int)(oth:List Bool)(ho:oth.length=l.bo.length):FP 245 [l.av,i64 kind,i64 body,.lst 1 (oth.map bl)] (i64 (jointI l kind body oth)):=by
 have hlj:=hl.lj;refine aj func245 ?_;refine gl ?_;refine a5 [1,2,3,12,13] [] (fun(i:Nat)=>[(14,some (i64 i))]) (fun _=>[]) (fun i=>i<=l.jo.length/\∀j,j<i->(!kS kind body oth (l.jo.getD j default))=true) (fun i=>l.jo.length-i) 0 ⟨zero_le _,fun j h=>by omega⟩ ?_;rintro i ⟨hi,hj⟩ K1 J1;refine gC (fun t15=>?_) (fun t15=>?_)
 ·have hin:=bn t15;obtain⟨j,hjt⟩:=aG hin;have hjd:l.jo.getD i default=j:=ao hjt;obtain⟨i1,i2,_⟩:=dw hli hjt;have b1:=dz i1;have b2:=dz i2;obtain⟨va,hva⟩:∃v,oth[j.a.toNat]?=some v:=aG oz;obtain⟨vb,hvb⟩:∃v,oth[j.b.toNat]?=some v:=aG oz;have ea:kn oth j.a=va:=ao hva;have eb:kn oth j.b=vb:=ao hvb;refine gi (aN hjt) ?_;refine jw (fun _=>(f9 (n:=j.b.toNat) oz hvb)) ?_;refine jw (fun _=>(f9 (n:=j.a.toNat) oz hva)) ?_;refine gC (fun t48=>?_) (fun t48=>?_)
  ·have h2 : kS kind body oth j = true := by rw [<- CE (va := va) (vb := vb) ea eb]; exact t48
   refine af ?_;unfold jointI;rw[ja hin hj (by rw[hjd,h2];rfl)];rfl
  have h2:kS kind body oth j=false:=by rw[<- CE (va:=va) (vb:=vb) ea eb];exact t48
  refine ga aW ?_;exact aT J1 (i+1) ⟨hin,fun k h9=>by rcases lt_or_ge k i with g |g;exact hj k g;(have:k=i:=by omega);subst this;rw[hjd,h2];rfl⟩
 have hin:=bE hi t15;subst hin;refine af ?_;unfold jointI;rw[jc hj];rfl
theorem Up(l:Li)(hl:l.ok)(kw:List Bool)(b:Nat)(hb:b<kw.length):FP 246 [l.av,.lst 1 (kw.map bl),i64 b] (bl (freeB l kw b)):=by
 obtain⟨v,hv⟩:=aG hb;have ev:kn kw (b:Int)=v:=ao (by rw[toNat_natCast];exact hv);refine aj func246 ?_;refine gi (aN hv) ?_;refine bT (fun _=>(U2 l hl b)) ?_;refine af ?_;unfold freeB;rw[ev];exact congrArg bl (gX _ _)
end Go.Lw
