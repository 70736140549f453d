/- ModesImage: for any linkage and any turns the law returns true and leaves its arguments as they were. No other condition. Part 5 of 8: what the later parts need -/
import Derived.Test.YtokaoegjfpjjnaaGreatQd
set_option linter.unusedVariables false
open List (append_nil map_take all_append range_succ)
open List renaming mem_of_getElem? → apo, mem_append → ap2, map_cons → aq2, mem_cons → aqf, length_cons → ap4, foldl_cons → aq5, length_append → aqk, length_nil → ap9, getD_eq_getElem?_getD → apq, all_eq_true → ap3, getElem?_map → apv, getElem?_replicate → aql, map_append → ap8, length_take → ap7, take_of_length_le → aqa, drop_zero → aq1, take_length → ap5, not_mem_nil → aqg, length_map → apr, mem_of_mem_take → aqw, length_replicate → aqp, map_replicate → aqu, map_set → aq0, length_set → aq4, any_eq_true → am7, mem_singleton → am8, replicate → ana, mem_of_mem_drop → anf, drop_length → anh, drop_eq_getElem_cons → ani, length_pos_iff → anj, drop_of_length_le → ano, mem_map → anx, getElem?_eq_some_iff → anz, length_eq_zero_iff → an1, mem_replicate → an5, length_eq_one_iff → an7
open Nat renaming eq_of_beq_eq_true → apy, le_refl → apu, lt_or_ge → apz, le_trans → aqe, zero_le → apx, blt → aly, two_pow_pos → amf, pow_le_pow_right → amk, pow_succ → amp, beq → amq, zero_add → ams, pow_lt_pow_right → am0
open Option renaming map_eq_some_iff → apt, getD_some → apl, map_some → apm
open Bool renaming and_eq_true → apw, eq_false_iff → aou, eq_iff_iff → aov, false_eq_true → aoz, and_false → ao1
open Int renaming toNat_natCast → aqo
open Rat renaming intCast_eq_zero_iff → aos
open Go renaming Value → arh, Program → arj, World → ark
open Go.Proofs.Tryz
namespace Go.Lw
open Go.Proofs
theorem yZ{α:Type}(f:α->AV)(l:List α)(hl:l.length<=281474976710656):FP 316 [.lst 3 (l.map f)] (i64 (dG l.length)):=by
 refine ai func316 ?_;refine aS [0] [] (fun(k:Nat)=>[pP 3 (i64 k)]) (fun _=>[]) (fun k=>k<=48/\∀j,j<k->2^j<l.length) (fun k=>48-k) 0 ⟨by omega,fun j h=>by omega⟩ ?_;rintro k ⟨hk,hj⟩ K1 J1;refine gs (kH (.const _) (.tmp rfl) oz (uf oz) rfl) ?_;refine gl ?_;refine gC (fun z=>?_) (fun z=>?_)
 ·have h1 : 2 ^ k < l.length := by have := z; simp only [aa, aq8] at this; omega
  have h2:k<48:=by
   rcases apz k 48 with h |h
   ·exact h
   ·have:2 ^ 48 <= 2 ^ k:=cV h;have:(2:Nat) ^ 48 = 281474976710656:=by decide
    omega
  refine ga (eF oz) ?_;exact aM J1 (k+1) ⟨by omega,fun j h=>by rcases apz j k with h3 |h3;exact hj j h3;(have:j=k:=by omega);subst this;exact h1⟩
 have h1:l.length<=2^k:=by have:=z;simp only[aa,decide_eq_false_iff_not]at this;omega
 have h2:=Mv hj h1;refine gs (kH (.const _) (.tmp rfl) oz (uf oz) rfl) ?_;refine gl ?_;refine gC (fun z=>?_) (fun z=>?_)
 ·have h3 : 2 ^ k ≠ l.length := by have := z; simp only [aa, bne_iff_ne, ne_eq] at this; omega
  refine ah ?_;unfold dG;rw[h2,aq6 h3];rfl
 have h3:2^k=l.length:=by have:=z;simp only[aa,bne_eq_false_iff_eq]at this;omega
 refine ah ?_;unfold dG;rw[h2,aq7 h3]
theorem PP(ts:List (List Rt))(a:List Rt)(ha:∀r∈a,r.ok)(hl:a.length<=281474976710656)(ht:ts.length<=281474976710656):FP 263 [dU ts,nR a] (bG (de ts.length a)):=by
 refine ai func263 ?_;refine gl ?_;refine Gu [1,4] [] [] [] (¬(a≠[]/\(dG a.length<0\/(ts.length:Int)<dG a.length))) ?_ ?_
 ·intro K1 J1;refine gC (fun t10=>?_) (fun t10=>?_)
  ·have h0 : a ≠ [] := fun h => by rw [h] at t10; simp [aa] at t10
   refine gc (yZ Rt.av a hl) ?_;refine cA ?_;refine gC (fun t21=>?_) (fun t21=>?_)
   ·have h1:dG a.length<0\/(ts.length:Int)<dG a.length:=by
     have h9:=t21
     by_cases h:dG a.length<0
     ·exact .inl h
     ·simp only[aa,arc h,cond_false,aq8]at h9;exact .inr h9
    refine ah ?_;unfold de;rw[aq7 ⟨h0,h1⟩];rfl
   have h1:¬(dG a.length<0\/(ts.length:Int)<dG a.length):=by
    have h9:=t21
    by_cases h:dG a.length<0
    ·simp only[aa,arb h,cond_true]at h9;cases h9
    ·simp only[aa,arc h,cond_false,decide_eq_false_iff_not]at h9;exact fun h'=>h'.elim h h9
   exact tL J1 (fun h=>h1 h.2)
  have h0:a=[]:=by
   cases a with
   |nil=>rfl
   |cons c l=>simp[aa]at t10
  exact tL J1 (fun h=>h.1 h0)
 rintro hn;refine gl ?_;refine aS [23,24] [] (fun(i:Nat)=>[pP 25 (i64 i)]) (fun _=>[]) (fun i=>i<=a.length/\(a.take i).all Rt.valid=true) (fun i=>a.length-i) 0 ⟨apx _,by simp⟩ ?_;rintro i ⟨hi,hv⟩ K2 J2;refine gC (fun z=>?_) (fun z=>?_)
 ·have ae : i < a.length := by simpa [aa] using z
  obtain⟨r,hr⟩:=ay ae;have I2:=ha r (apo hr);refine gi (aA hr) ?_;refine gc (yB r I2) ?_;refine gC (fun z=>?_) (fun z=>?_)
  ·have rI : r.valid = false := by simpa using z
   refine ah ?_;unfold de;rw[aq6 hn,aq6]
   ·rfl
   ·rw[ap3];intro h;rw[h r (apo hr)]at rI;cases rI
  have rI:r.valid=true:=by simpa using z
  refine ga aN ?_;exact aM J2 (i+1) ⟨by omega,by rw[dJ hr,all_append,hv];simp[rI]⟩
 have ae:i=a.length:=by have:a.length<=i:=(by simpa[aa]using z);omega
 subst ae;rw[ap5]at hv;refine ah ?_;unfold de;rw[aq6 hn,aq7 hv];rfl
theorem Ql(a:List Rat)(ha:∀q∈a,Qs q)(hl:a.length<=281474976710656):FP 415 [nA a] (bl (bM a)):=by
 refine ai func415 ?_;refine gl ?_;refine aS [5,6] [] (fun(i:Nat)=>[pP 7 (i64 i)]) (fun _=>[]) (fun i=>i<=a.length/\bM (a.take i)=true) (fun i=>a.length-i) 0 ⟨apx _,by simp[bM]⟩ ?_;rintro i ⟨hi,hv⟩ K1 J1;refine gC (fun z=>?_) (fun z=>?_)
 ·have ae : i < a.length := by simpa [aa] using z
  obtain⟨q,hq⟩:=ay ae;have jS:=ha q (apo hq);refine gi (aA hq) ?_;refine gc (CR (rt q) jS.ok) ?_;refine gC (fun t13=>?_) (fun t13=>?_)
  ·have h0:q≠0:=by
    intro h;have h9:=t13;rw[bN,h]at h9;cases h9
   refine ah ?_
   have:bM a=false:=by
    rw[aou];intro h;exact h0 (by simpa using ap3.1 h q (apo hq))
   rw[this];rfl
  have h0:q=0:=by
   have h9:ci q=0:=by have:=t13;rw[bN]at this;simpa[aa]using this
   exact wU h9
  refine ga aN ?_;exact aM J1 (i+1) ⟨by omega,by rw[dJ hq];simp only[bM,all_append,apw];exact⟨hv,by simp[h0]⟩⟩
 have ae:i=a.length:=by have:a.length<=i:=(by simpa[aa]using z);omega
 subst ae;rw[ap5]at hv;refine ah ?_;rw[hv];rfl
theorem JQ(a:List Rat)(hl:a.length<=281474976710656):FP 348 [nA a] (bl (bM a)):=by
 refine ai func348 ?_;refine gl ?_;refine aS [5,6] [] (fun(i:Nat)=>[pP 7 (i64 i)]) (fun _=>[]) (fun i=>i<=a.length/\bM (a.take i)=true) (fun i=>a.length-i) 0 ⟨apx _,by simp[bM]⟩ ?_;rintro i ⟨hi,hv⟩ K1 J1;refine gC (fun z=>?_) (fun z=>?_)
 ·have ae : i < a.length := by simpa [aa] using z
  obtain⟨q,hq⟩:=ay ae;refine gi (aA hq) ?_;refine cA ?_;refine cA ?_;refine gC (fun z=>?_) (fun z=>?_)
  ·have h0:q≠0:=Rc z;refine ah ?_
   have:bM a=false:=by
    rw[aou];intro h;exact h0 (by simpa using ap3.1 h q (apo hq))
   rw[this];rfl
  have h0:q=0:=Mf z;refine ga aN ?_;exact aM J1 (i+1) ⟨by omega,by rw[dJ hq];simp only[bM,all_append,apw];exact⟨hv,by simp[h0]⟩⟩
 have ae:i=a.length:=by have:a.length<=i:=(by simpa[aa]using z);omega
 subst ae;rw[ap5]at hv;refine ah ?_;rw[hv];rfl
theorem G1(a:List Rat)(ha:∀q∈a,Qs q)(hl:a.length<=1099511627776):FP 347 [nA a] (nA a):=by
 refine ai func347 ?_;refine gl ?_;refine gW (Wk.virt 900 3 rfl) ?_;refine aS [6,7] [] (fun(i:Nat)=>[pP 3 (.ms 900 3 0 i),pP 8 (i64 i)]) (fun i=>[pP 900 (.row 3 ((a.take i).map qA))]) (fun i=>i<=a.length) (fun i=>a.length-i) 0 (apx _) ?_;rintro i hi K1 J1;refine gC (fun z=>?_) (fun z=>?_) (st2:=(7,0))
 ·have ae : i < a.length := by simpa [aa] using z
  obtain⟨q,hq⟩:=ay ae;have jS:=(ha q (apo hq)).ok;have s7:(rt q).num.length<=137438953472:=jS.2.2.1;have uV:(rt q).den.length<=137438953472:=jS.2.2.2;refine gi (aA hq) ?_;refine gs (j6 T104 rfl T354 rfl rfl rfl) ?_;refine gs (pY (.tmp rfl) rfl rfl (.tmp rfl) T104 rfl T354 rfl rfl (by simp only[apr];omega) rfl rfl) ?_;refine gs (j6 T104 rfl T354 rfl rfl rfl) ?_;refine gs (pY (.tmp rfl) rfl rfl (.tmp rfl) T104 rfl T354 rfl rfl (by simp only[apr];omega) rfl rfl) ?_;refine gs (cF (.tmp rfl) rfl (by simp;omega) (.tmp rfl) T53 rfl T106 rfl rfl (by simp;omega) rfl rfl) ?_;refine gD ?_ (6,0);refine gW (Wk.of (sl:=[pP 3 (.ms 25 3 0 (i+1)),pP 6 (nA a),pP 7 (i64 a.length),pP 8 (i64 i)]) (hp:=[pP 25 (.row 3 ((a.take (i+1)).map qA))]) a6 (.cons rfl (.of (by rw[dJ hq,ap8];rfl)) .nil)) ?_ (6,0);refine gW (Wk.rk (k:=25) (d:=900) rfl rfl) ?_;refine ga aN ?_;exact aM J1 (i+1) ae
 have ae:i=a.length:=by have:a.length<=i:=(by simpa[aa]using z);omega
 subst ae;refine gW ((Wk.freeze (k:=900) rfl).trans<|Wk.of (sl:=[pP 3 (nA a)]) (hp:=[]) (.cons rfl (.of (by rw[b8 (by simp),ap5];rfl)) .nil) .nil) ?_;refine ah ?_;rfl
theorem pJ{n:Nat}(a:List Rat)(hn:n<=5)(ha:Nl n a)(hs:∀q∈a,Qs q):FP 226 [nA a] (nA (sh n (af n a))):=by
 have hl:=ha.len5 hn;rw[<- yF ha hn];refine ai func226 ?_;refine gc (yZ qA a oz) ?_;refine gl ?_;refine gC (fun z=>?_) (fun z=>?_) (st1:=(3,0));exact ard z (by rcases ha with rfl |⟨j,hj,h⟩;(simp[aa]);(rw[h,wl];simp[aa];omega));refine gl ?_;refine aS [0] [] (fun(m:Nat)=>[pP 4 (i64 m)]) (fun _=>[]) (fun m=>rh a m) (fun m=>m) a.length (PQ (ha.mono hn)) ?_;rintro m hm K1 J1;refine gs (gK rfl rfl rfl (fun h=>ib (.opt rfl (o1 h)) (.const _) oz (jk (by have:=hm.le;omega)) rfl)) ?_;refine gs (gK rfl rfl rfl (fun h=>dZ (.opt rfl (o1 h)) (.some _ (.opt rfl (o1 h)) oz) (.some _ (.opt rfl (o1 h)) oz) T53 rfl T106 rfl oz (by have:=hm.le;simp;omega) rfl)) ?_;refine bT (fun _=>(by have h9:=JQ ((a.drop (m/2)).take (m-m/2)) (by simp;omega);rw[<- ye]at h9;exact h9)) ?_;refine gC (fun t31=>?_) (fun t31=>?_)
 ·have h1:1<m/\bM ((a.drop (m/2)).take (m-m/2))=true:=by
   have h9:=t31
   by_cases h:(m:Int)>1
   ·simp only[aa,arb h,cond_true]at h9;exact⟨by omega,h9⟩
   ·simp only[aa,arc h,cond_false]at h9;cases h9
  refine gs (ib (.tmp rfl) (.const _) oz (jk (by have:=hm.le;omega)) rfl) ?_;exact aM J1 (m/2) (Mw hm h1.1 h1.2)
 have h1:1<m->bM ((a.drop (m/2)).take (m-m/2))=false:=by
  intro h;have h9:=t31;simp only[aa,arb (show(m:Int)>1 by omega),cond_true]at h9;exact h9
 refine gs (gK rfl rfl rfl (fun h=>dZ (.opt rfl (o1 h)) (.none _) (.some _ (.const _) oz) T53 rfl T106 rfl oz (by have h8:(m:Int)=1:=(by simpa[aa]using h);have:=hm.le;simp only[apr];omega) rfl)) ?_;refine bT (fun _=>(by have h9:=JQ ((a.drop 0).take 1) (by simp;omega);rw[<- ye]at h9;exact h9)) ?_;refine gC (fun t40=>?_) (fun t40=>?_)
 ·have h2:m=1/\bM (a.take 1)=true:=by
   have h9:=t40
   by_cases h:m=1
   ·rw[h]at h9;exact⟨h,h9⟩
   ·rw[show aa .eql (m:Int) 1=false by simp[aa];omega]at h9;cases h9
  obtain⟨rfl,h3⟩:=h2;refine gR ?_;exact o7 (by rw[NV hm h3];exact Sub.nil _ _ _)
 have h2:m=1->bM (a.take 1)=false:=by
  intro h;have h9:=t40;rw[h]at h9;exact h9
 have h3:=Pk hm h1 h2;refine gs (dZ (.tmp rfl) (.none _) (.some _ (.tmp rfl) oz) T53 rfl T106 rfl oz (by have:=hm.le;simp;omega) rfl) ?_;refine gc (by have h9:=G1 ((a.drop 0).take m) (fun q hq=>hs q (anf (aqw hq))) (by simp;omega);have h8:=h9;rw[<- ye]at h9;exact h9) ?_;refine ah ?_;rw[h3];simp[nA,map_take]
theorem EN(d:Nat)(hd:aly d 1000=true)(a:List Rat)(n:Nat)(hl:a.length<=n)(hn:n<=1099511627776) :
  Con prog 414 [nA a,i64 n] [] (.ms d 3 0 n) [(d,some (.row 3 ((bc a n).map qA)))]:=by
 refine gF func414 (fun k z h=>by cases h) ?_;refine gs (kJ (.tmp rfl) T53 rfl T106 rfl rfl oz (by dsimp only;omega) rfl) ?_;refine gs (YL (.tmp rfl) rfl (by simp) (.tmp rfl) T53 rfl T106 rfl rfl (by simp;omega) rfl) ?_ (3,0);refine gW (Wk.of (sl:=[pP 5 (.ms 7 3 0 n)]) (hp:=[pP 7 (.row 3 ((bc a n).map qA))]) (.cons rfl (.of (by simp)) .nil) (.cons rfl (Rb a n hl) .nil)) ?_;refine gR ?_;exact aD.own1 rfl hd rfl
theorem G3(a:List Rat)(n:Nat)(hl:a.length<=n)(hn:n<=1099511627776):FP 414 [nA a,i64 n] (nA (bc a n)):=by
 have h:=Con.freeze (by rw[apr,ft hl];omega) (EN 0 rfl a n hl hn);rw[aq1,aqa (by rw[apr,ft hl];exact apu _)]at h;exact h
theorem uG(a b:List Rat)(ha:∀q∈a,Qs q)(hb:∀q∈b,Qs q)(la:a.length<=1099511627776)(lb:b.length<=1099511627776):FP 334 [nA a,nA b] (nA (dh a b)):=by
 obtain⟨n,hn⟩:∃n,n=max a.length b.length:=⟨_,rfl⟩
 have hwa:=ft (show a.length<=n by omega);have hwb:=ft (show b.length<=n by omega);have hp:=fW (a:=a) (b:=b);rw[<- hn]at hp;have qa:∀q∈bc a n,Qs q:=fun q hq=>by rcases ap2.1 hq with h |h;exact ha q h;(rw[(an5.1 h).2];exact Qs.zero)
 have qb:∀q∈bc b n,Qs q:=fun q hq=>by rcases ap2.1 hq with h |h;exact hb q h;(rw[(an5.1 h).2];exact Qs.zero)
 refine ai func334 ?_;refine gl ?_;refine gl ?_;refine gs (w6 (.tmp rfl) (.tmp rfl) rfl) ?_ (2,0);refine gW (Wk.of (sl:=[pP 0 (nA a),pP 1 (nA b),pP 5 (i64 n)]) (hp:=[]) (.k (.k (.cons rfl (Sub.int oz) .nil))) .nil) ?_;refine go ?_;refine gt (aK (EN 900 rfl a n oz oz) (bO rfl rfl) aL rfl rfl) ?_;refine gc (G3 b n oz oz) ?_;refine aS [1,19] [] (fun(i:Nat)=>[pP 0 (.ms 900 3 0 n),pP 20 (i64 i)]) (fun i=>[pP 900 (.row 3 (((dh a b).take i++(bc a n).drop i).map qA))]) (fun i=>i<=n) (fun i=>n-i) 0 (apx _) ?_;rintro i hi K1 J1;refine gC (fun z=>?_) (fun z=>?_) (st2:=(8,0))
 ·have ae : i < n := by simpa [aa] using z
  have uW:=FH (p:=dh a b) (w:=bc a n) (i:=i) oz oz;have Ax:=(qa _ (x7 (i:=i) oz)).ok;have I3:=(qb _ (x7 (i:=i) oz)).ok;refine gs (cM (n:=i) (.tmp rfl) (.tmp rfl) T53 rfl T106 rfl oz oz rfl) ?_;refine gs (f0 (.tmp rfl) rfl (aA uW) T106 rfl rfl rfl) ?_;refine gi (aA (getD_some (i:=i) (l:=bc b n) oz)) ?_;refine gc (sH (rt ((bc a n).getD i 0)) (rt ((bc b n).getD i 0)) Ax I3) ?_;refine gs (cM (n:=i) (.tmp rfl) (.tmp rfl) T53 rfl T106 rfl oz oz rfl) ?_;refine gs (fg (.tmp rfl) rfl (aA uW) rfl (.tmp rfl) rfl rfl T106 rfl rfl) ?_;refine gD ?_ (7,0);refine gW (Wk.of (sl:=[pP 0 (.ms 900 3 0 n),pP 1 (nA (bc b n)),pP 19 (i64 n),pP 20 (i64 i)]) (hp:=[pP 900 (.row 3 (((dh a b).take (i+1)++(bc a n).drop (i+1)).map qA))]) a6 (.cons rfl (.of (by rw[HU oz oz (by rw[Kf,<- hn,bN,bN])])) .nil)) ?_;refine ga aN ?_;exact aM J1 (i+1) ae
 have ae:i=n:=by have:n<=i:=(by simpa[aa]using z);omega
 refine gW ((Wk.freeze (k:=900) rfl).trans<|Wk.of (sl:=[pP 0 (nA (dh a b))]) (hp:=[]) (.cons rfl (.of (by rw[b8 (by simp;omega),ae,ano oz,aqa oz,append_nil];rfl)) .nil) .nil) ?_;refine ah ?_;rfl
theorem xT(a:List Rat)(ha:∀q∈a,Qs q)(la:a.length<=1099511627776):FP 251 [nA a] (nA (dQ a)):=by
 obtain⟨n,hn⟩:∃n,n=a.length:=⟨_,rfl⟩
 refine ai func251 ?_;refine gl ?_;refine gs (kJ (.tmp rfl) T53 rfl T106 rfl rfl oz (by dsimp only;omega) rfl) ?_ (2,0);refine gW (Wk.of (sl:=[pP 0 (nA a),pP 3 (.ms 7 3 0 n)]) (hp:=[pP 7 (.row 3 ((bc [] n).map qA))]) (.k (.cons rfl (.of (by simp[hn])) .nil)) (.cons rfl (BlkSub.of_ (Rb [] n (by simp)) (by rw[hn];rfl)) .nil)) ?_;refine gl ?_;refine aS [0] [] (fun(i:Nat)=>[pP 3 (.ms 7 3 0 n),pP 9 (i64 n),pP 10 (i64 i)]) (fun i=>[pP 7 (.row 3 (((dQ a).take i++(bc [] n).drop i).map qA))]) (fun i=>i<=n) (fun i=>n-i) 0 (apx _) ?_ (h1:=(.k (.cons rfl (Sub.int oz) (.k .nil))));rintro i hi K1 J1;refine gC (fun z=>?_) (fun z=>?_) (st2:=(7,0))
 ·have ae : i < n := by simpa [aa] using z
  have je:=lc (a:=a);have mn:=ft (a:=[]) (n:=n) (by simp);have uW:=FH (p:=dQ a) (w:=bc [] n) (i:=i) oz oz;have Ax:=(ha _ (x7 (i:=i) oz)).ok;refine gi (aA (getD_some (i:=i) oz)) ?_;refine gc (xt (rt (a.getD i 0)) Ax) ?_;refine gs (cM (n:=i) (.tmp rfl) (.tmp rfl) T53 rfl T106 rfl oz oz rfl) ?_;refine gs (fg (.tmp rfl) rfl (aA uW) rfl (.tmp rfl) rfl rfl T106 rfl rfl) ?_ (6,0);refine gW (Wk.of (sl:=[pP 0 (nA a),pP 3 (.ms 7 3 0 n),pP 9 (i64 n),pP 10 (i64 i)]) (hp:=[pP 7 (.row 3 (((dQ a).take (i+1)++(bc [] n).drop (i+1)).map qA))]) a6 (.cons rfl (.of (by rw[HU oz oz (by rw[Xb,bN])])) .nil)) ?_;refine ga aN ?_;exact aM J1 (i+1) ae
 have ae:i=n:=by have:n<=i:=(by simpa[aa]using z);omega
 have je:=lc (a:=a);have mn:=ft (a:=[]) (n:=n) (by simp);refine gW ((Wk.freeze (k:=7) rfl).trans<|Wk.of (sl:=[pP 3 (nA (dQ a))]) (hp:=[]) (.cons rfl (.of (by rw[b8 (by simp;omega),ae,ano oz,aqa oz,append_nil];rfl)) .nil) .nil) ?_;refine ah ?_;rfl
theorem EP(a b:List Rat)(n:Nat)(la:a.length<=n)(lb:b.length<=n)(hn:n<=274877906944):FP 362 [nA a,nA b,i64 n] (nA (gU a b n)):=by
 refine ai func362 ?_;refine gt (aK (EN 900 rfl a n la oz) (bO rfl rfl) aL rfl rfl) ?_;refine gc (G3 b n lb oz) ?_;refine gs (pY (.tmp rfl) rfl (by simp[ft la]) (.tmp rfl) T53 rfl T106 rfl rfl (by simp[ft lb];omega) rfl rfl) ?_;refine ah ?_;rw[<- ap8];rfl
theorem v5(ts:LL)(m r:Nat)(ht:lg ts m r)(hm:m<=5)(eL:m<=ts.length)(k:Nat):∀(j:Nat)(a b:List Rat)(e f:Nat),j<=m->j<=k->Nl j a->Nl j b->Cb e a->Cb f b->e+f+eB r j<4398046511104 ->
  FP 335 [aZ ts,nA a,nA b] (nA (pT ts k a b)):=by
 induction k using Nat.strongRecOn
 rename_i k ih;intro j a b e f hj il ha hb ca cb hs;have ns:=ha.len5 oz;have eY:=hb.len5 oz;refine ai func335 ?_;refine gl ?_;refine gl ?_;refine gJ4 [3] [3] (fun(x y:List Rat)(e1 f1:Nat)=>[pP 1 (nA x),pP 2 (nA y)]) (fun _ _ _ _=>[]) (fun x y e1 f1=>y.length<=x.length/\Nl j x/\Nl j y/\Cb e1 x/\Cb f1 y/\e1+f1=e+f/\pT ts k a b=pT ts k x y) ?_ ?_
 ·intro K1 J1;refine gC (fun z=>?_) (fun z=>?_)
  ·have h1 : a.length < b.length := by have := z; simp only [aa, aq8] at this; omega
   exact JI J1 b a f e ⟨by omega,hb,ha,cb,ca,by omega,Fc ts k a b h1⟩
  have h1:b.length<=a.length:=by have:=z;simp only[aa,decide_eq_false_iff_not]at this;omega
  exact JI J1 a b e f ⟨h1,ha,hb,ca,cb,rfl,rfl⟩
 rintro x y e1 f1 ⟨DT,hx,hy,cx,cy,hef,hp⟩;have hlx:=hx.len5 oz;have hly:=hy.len5 oz;have qx:∀q∈x,Qs q:=fun q hq=>cx.qs oz hq
 have qy:∀q∈y,Qs q:=fun q hq=>cy.qs oz hq
 rw[hp];refine gc (Ql x qx oz) ?_;refine bT (fun _=>(Ql y qy oz)) ?_;refine gC (fun t21=>?_) (fun t21=>?_)
 ·have h1:bM x=true\/bM y=true:=by
   have:=t21;cases hz:bM x
   ·rw[hz]at this;exact .inr this
   ·exact .inl rfl
  refine gR ?_;exact o7 (by rw[Wq DT h1];exact Sub.nil _ _ _)
 have h1:¬(bM x=true\/bM y=true):=by
  have:=t21;cases hz:bM x
  ·rw[hz]at this;intro h;rcases h with h |h;cases h;(rw[show bM y=false from this]at h;cases h)
  ·rw[hz]at this;cases this
 refine gl ?_;refine gC (fun z=>?_) (fun z=>?_)
 ·have h2 : x.length = 1 := by have := z; simp only [aa, beq_iff_eq] at this; omega
  obtain⟨p,rfl⟩:=an7.1 h2;have h3:y≠[]:=fun h=>h1 (.inr (by rw[h];rfl))
  obtain⟨q,rfl⟩:∃q,y=[q]:=an7.1 (by have:=anj.2 h3;simp at DT;omega);refine gi rfl ?_;refine gi rfl ?_;refine gc (Rq (rt p) (rt q) (qx p (by simp)).ok (qy q (by simp)).ok) ?_;refine gD ?_;refine ah ?_;rw[VQ h1,bN,bN];rfl
 have h2:x.length≠1:=by have:=z;simp only[aa,beq_eq_false_iff_ne,ne_eq]at this;omega
 have h3:x≠[]:=fun h=>h1 (.inl (by rw[h];rfl))
 obtain⟨i,ek,fJ⟩:∃i,i+1<=j/\x.length=2^(i+1):=by
  rcases tA hx with h |h |h
  ·exact ard (an1.1 h) h3
  ·exact ard h h2
  ·exact h
 obtain⟨k',rfl⟩:∃k',k=k'+1:=⟨k-1,by omega⟩
 have ku:=amf i;have kv:2^i<=32:=cV (b:=5) oz;have qu:2^(i+1)=2*2^i:=by rw[amp];omega
 have lH:eB r (i+1)<=eB r j:=kR r ek;have hee:eB r (i+1)=2*eB r i+r+2:=rfl;have n1:Nl i (x.take (2^i)):=.inr ⟨i,apu _,jx fJ⟩;have n2:Nl i (x.drop (2^i)):=.inr ⟨i,apu _,jJ fJ⟩;refine gl ?_;refine gs (ib (.tmp rfl) (.const _) oz (show _=((2^i:Nat):Int) by rw[jk oz,fJ,iN]) rfl) ?_;refine gs (dZ (.tmp rfl) (.none _) (.some _ (.tmp rfl) oz) T53 rfl T106 rfl oz (by simp only[apr];omega) rfl) ?_;refine gs (dZ (.tmp rfl) (.some _ (.tmp rfl) oz) (.none _) T53 rfl T106 rfl (by simp only[apr];omega) oz rfl) ?_;refine gD ?_ (9,0);refine gW (Wk.of (sl:=[pP 1 (nA x),pP 2 (nA y),pP 3 (.ptr 3 0),pP 7 (i64 ((2^i:Nat):Int)),pP 8 (nA (x.take (2^i))),pP 9 (nA (x.drop (2^i)))]) (hp:=[pP 3 (.box [.lst 1 (ts.map nA)])]) (.k (.k (.k (.k (.cons rfl (.of (p5 x (2^i))) (.cons rfl (.of (rc x (2^i))) .nil)))))) (.k .nil)) ?_;refine gl ?_;refine gC (fun z=>?_) (fun z=>?_)
 ·have h4 : y.length <= 2 ^ i := by have := z; simp only [aa, aq8] at this; omega
  have n3:Nl i y:=W0 hy h4;have s1:=jO ts m ht.1 i k' _ _ oz oz n1 n3;have s2:=jO ts m ht.1 i k' _ _ oz oz n2 n3;refine gc (ih k' oz i _ _ e1 f1 oz oz n1 n3 cx.take cy oz) ?_;refine gc (ih k' oz i _ _ e1 f1 oz oz n2 n3 cx.drop cy oz) ?_;refine gc (EP _ _ (2^i) s1.1.le s2.1.le oz) ?_;refine gD ?_;refine ah ?_;rw[Uy fJ h4 h1]
 have h4:¬y.length<=2^i:=by have:=z;simp only[aa,decide_eq_false_iff_not]at this;omega
 have tf:=S8 hy h4 oz;have n3:Nl i (y.take (2^i)):=.inr ⟨i,apu _,jx tf⟩;have n4:Nl i (y.drop (2^i)):=.inr ⟨i,apu _,jJ tf⟩;have nd:=ht.1 i oz;have cd:=ht.2.cb i;have s1:=jO ts m ht.1 i k' _ _ oz oz n1 n3;have s2:=jO ts m ht.1 i k' _ _ oz oz n2 n4;have s3:=jO ts m ht.1 i k' _ _ oz oz s2.1 nd;have s4:=jO ts m ht.1 i k' _ _ oz oz n1 n4;have s5:=jO ts m ht.1 i k' _ _ oz oz n2 n3;have c1:=Cb.mul ht (k:=k') (show i<=m by omega) oz n1 n3 cx.take cy.take;have c2:=Cb.mul ht (k:=k') (show i<=m by omega) oz n2 n4 cx.drop cy.drop;have c3:=Cb.mul ht (k:=k') (show i<=m by omega) oz s2.1 nd c2 cd;have c4:=Cb.mul ht (k:=k') (show i<=m by omega) oz n1 n4 cx.take cy.drop;have c5:=Cb.mul ht (k:=k') (show i<=m by omega) oz n2 n3 cx.drop cy.take;have hpT:=Wg (ts:=ts) (k:=k') fJ h4 DT h1;refine gs (dZ (.tmp rfl) (.none _) (.some _ (.tmp rfl) oz) T53 rfl T106 rfl oz (by simp only[apr];omega) rfl) ?_;refine gs (dZ (.tmp rfl) (.some _ (.tmp rfl) oz) (.none _) T53 rfl T106 rfl (by simp only[apr];omega) oz rfl) ?_;refine gD ?_ (12,0);refine gW (Wk.of (sl:=[pP 1 (nA x),pP 3 (.ptr 3 0),pP 7 (i64 ((2^i:Nat):Int)),pP 8 (nA (x.take (2^i))),pP 9 (nA (x.drop (2^i))),pP 10 (nA (y.take (2^i))),pP 11 (nA (y.drop (2^i)))]) (hp:=[pP 3 (.box [.lst 1 (ts.map nA)])]) (.k (.k (.k (.k (.k (.cons rfl (.of (p5 y (2^i))) (.cons rfl (.of (rc y (2^i))) .nil))))))) (.k .nil)) ?_;refine gc (yZ qA x oz) ?_;refine ga (show _=(i:Int) by rw[fJ,wl,fu oz];omega) ?_;refine gi (B7 (j:=i) oz) ?_;refine gD ?_;refine gc (ih k' oz i _ _ e1 f1 oz oz n1 n3 cx.take cy.take oz) ?_;refine gc (ih k' oz i _ _ e1 f1 oz oz n2 n4 cx.drop cy.drop oz) ?_;refine gc (ih k' oz i _ _ _ _ oz oz s2.1 nd c2 cd oz) ?_;refine gc (uG _ _ (fun q hq=>c1.qs oz hq) (fun q hq=>c3.qs oz hq) (by have:=s1.1.le;omega) (by have:=s3.1.le;omega)) ?_;refine gD ?_;refine gc (ih k' oz i _ _ e1 f1 oz oz n1 n4 cx.take cy.drop oz) ?_;refine gc (ih k' oz i _ _ e1 f1 oz oz n2 n3 cx.drop cy.take oz) ?_;refine gc (uG _ _ (fun q hq=>c4.qs oz hq) (fun q hq=>c5.qs oz hq) (by have:=s4.1.le;omega) (by have:=s5.1.le;omega)) ?_;refine gc (EP _ _ (2^i) (by have:=s1.1.le;have:=s3.1.le;rw[fW];omega) (by have:=s4.1.le;have:=s5.1.le;rw[fW];omega) oz) ?_;refine gD ?_;refine ah ?_;rw[hpT]
theorem F5(ts:LL)(m r:Nat)(ht:lg ts m r)(hm:m<=5)(eL:m<=ts.length)(i:Nat)(a:List Rat)(e:Nat)(hi:i+1<=m)(bU:a.length=2^(i+1))(ca:Cb e a)(hs:4*e+3*eB r i+r+1<4398046511104) :
  FP 317 [aZ ts,nA a] (nA (lA ts i a)):=by
 have ku:=amf i;have kv:2^i<=32:=cV (b:=5) oz;have qu:2^(i+1)=2*2^i:=by rw[amp];omega
 have n1:Nl i (a.take (2^i)):=.inr ⟨i,apu _,jx bU⟩;have n2:Nl i (a.drop (2^i)):=.inr ⟨i,apu _,jJ bU⟩;have nd:=ht.1 i oz;have cd:=ht.2.cb i;have s1:=jO ts m ht.1 i i _ _ oz oz n1 n1;have s2:=jO ts m ht.1 i i _ _ oz oz n2 n2;have s3:=jO ts m ht.1 i i _ _ oz oz s2.1 nd;have c1:=Cb.mul ht (k:=i) (show i<=m by omega) oz n1 n1 ca.take ca.take;have c2:=Cb.mul ht (k:=i) (show i<=m by omega) oz n2 n2 ca.drop ca.drop;have c3:=Cb.mul ht (k:=i) (show i<=m by omega) oz s2.1 nd c2 cd;refine ai func317 ?_;refine gl ?_;refine gs (ib (.tmp rfl) (.const _) oz (show _=((2^i:Nat):Int) by rw[jk oz,bU,iN]) rfl) ?_;refine gs (dZ (.tmp rfl) (.none _) (.some _ (.tmp rfl) oz) T53 rfl T106 rfl oz (by simp only[apr];omega) rfl) ?_;refine gs (dZ (.tmp rfl) (.some _ (.tmp rfl) oz) (.none _) T53 rfl T106 rfl (by simp only[apr];omega) oz rfl) ?_;refine gD ?_ (3,0);refine gW (Wk.of (sl:=[pP 1 (nA a),pP 2 (.ptr 2 0),pP 6 (nA (a.take (2^i))),pP 7 (nA (a.drop (2^i)))]) (hp:=[pP 2 (.box [.lst 1 (ts.map nA)])]) (.k (.k (.cons rfl (.of (p5 a (2^i))) (.cons rfl (.of (rc a (2^i))) .nil)))) (.k .nil)) ?_;refine gc (v5 ts m r ht hm eL i i _ _ e e oz oz n1 n1 ca.take ca.take oz) ?_;refine gc (v5 ts m r ht hm eL i i _ _ e e oz oz n2 n2 ca.drop ca.drop oz) ?_;refine gc (yZ qA a oz) ?_;refine ga (show _=(i:Int) by rw[bU,wl,fu oz];omega) ?_;refine gi (B7 (j:=i) oz) ?_;refine gc (v5 ts m r ht hm eL i i _ _ _ _ oz oz s2.1 nd c2 cd oz) ?_;refine gc (xT _ (fun q hq=>c3.qs oz hq) (by have:=s3.1.le;omega)) ?_;refine gc (uG _ _ (fun q hq=>c1.qs oz hq) (fun q hq=>c3.minus.qs oz hq) (by have:=s1.1.le;omega) (by have:=s3.1.le;rw[lc];omega)) ?_;refine gD ?_;refine ah ?_;rfl
theorem tF(ts:LL)(m r:Nat)(ht:lg ts m r)(hm:m<=5)(eL:m<=ts.length)(j:Nat):∀(a:List Rat)(e:Nat),j<=m->Nl j a->Cb e a->sB r j e<4398046511104 ->
  FP 193 [aZ ts,nA a] (i64 (T.sgn (aw ts) j (af j a))):=by
 induction j using Nat.strongRecOn
 rename_i j ih;intro a e hj ha ca hs;have Sy:=uh r j e;have qa:∀q∈a,Qs q:=fun q hq=>ca.qs oz hq
 obtain⟨s,nD⟩:∃s,s=sh j (af j a):=⟨_,rfl⟩
 have ph:af j s=af j a:=by rw[nD,bu]
 have mv:Nl j s:=by rw[nD];exact gk j _
 have cs:Cb e s:=by rw[nD];exact ca.sh ha
 have hls:=mv.len5 oz;rw[<- ph];refine ai func193 ?_;refine gc (nD▸pJ a oz ha qa) ?_;refine gl ?_;refine gC (fun z=>?_) (fun z=>?_)
 ·have h1 : s=[] := an1.1 (by have := z;simp only[aa,beq_iff_eq]at this;omega);refine ah ?_;rw[h1,jM,T.sgn_zero];rfl
 have h1:s.length≠0:=by have:=z;simp only[aa,beq_eq_false_iff_ne,ne_eq]at this;omega
 refine gl ?_;refine gC (fun z=>?_) (fun z=>?_)
 ·have h2 : s.length = 1 := by have := z; simp only [aa, beq_iff_eq] at this; omega
  obtain⟨q,rfl⟩:=an7.1 h2;refine gi rfl ?_;refine gc (CR (rt q) (cs.qs oz (by simp:q∈[q])).ok) ?_;refine ah ?_;rw[oF,T.sgn_ofQ,bN]
 have h2:s.length≠1:=by have:=z;simp only[aa,beq_eq_false_iff_ne,ne_eq]at this;omega
 obtain⟨i,ek,dD⟩:∃i,i+1<=j/\s.length=2^(i+1):=by
  rcases tA mv with h |h |h
  ·exact ard h h1
  ·exact ard h h2
  ·exact h
 have ku:=amf i;have kv:2^i<=32:=cV (b:=5) oz;have qu:2^(i+1)=2*2^i:=by rw[amp];omega
 have n1:Nl i (s.take (2^i)):=.inr ⟨i,apu _,jx dD⟩;have n2:Nl i (s.drop (2^i)):=.inr ⟨i,apu _,jJ dD⟩;have nd:=ht.1 i oz;have cd:=ht.2.cb i;obtain⟨nn,dn,cn⟩:=B8 ht oz dD cs;have b1:sB r i (4*e+3*eB r i+r+1)<=sB r j e:=xO r e ek;have b2:sB r i e<=sB r i (4*e+3*eB r i+r+1):=tz r i oz;have b3:sB r i r<=sB r i (4*e+3*eB r i+r+1):=tz r i oz;have b4:=uh r i (4*e+3*eB r i+r+1);have k1:=ih i oz (s.take (2^i)) e oz n1 cs.take oz;have k2:=ih i oz (s.drop (2^i)) e oz n2 cs.drop oz;have k3:=ih i oz _ r oz nd cd oz;have k4:=ih i oz _ _ oz nn cn oz
 have mo:T.sgn (aw ts) j (af j s)=T.sgn3 (T.sgn (aw ts) i (af i (s.take (2^i)))) (T.sgn (aw ts) i (af i (s.drop (2^i)))) (T.sgn (aw ts) i (af i (ts.getD i []))) (T.sgn (aw ts) i (af i (lA ts i s))):=by
  rw[yN _ oz ek,dn];rfl
 have v1:=T.sgn_cases (aw ts) i (af i (s.take (2^i)));have v4:=T.sgn_cases (aw ts) i (af i (lA ts i s));refine gl ?_;refine gs (ib (.tmp rfl) (.const _) oz (show _=((2^i:Nat):Int) by rw[jk oz,dD,iN]) rfl) ?_;refine gs (dZ (.tmp rfl) (.none _) (.some _ (.tmp rfl) oz) T53 rfl T106 rfl oz (by simp only[apr];omega) rfl) ?_;refine gc (by have h9:=k1;rw[<- p5]at h9;exact h9) ?_;refine gs (dZ (.tmp rfl) (.some _ (.tmp rfl) oz) (.none _) T53 rfl T106 rfl (by simp only[apr];omega) oz rfl) ?_;refine gc (by have h9:=k2;rw[<- rc]at h9;exact h9) ?_;refine gD ?_;refine gc (yZ qA s oz) ?_;refine ga (show _=(i:Int) by rw[dD,wl,fu oz];omega) ?_;refine gi (B7 (j:=i) oz) ?_;refine gc k3 ?_;refine gD ?_;refine gC (fun z=>?_) (fun z=>?_)
 ·have e1 : T.sgn (aw ts) i (af i (ts.getD i [])) = 0 := by simpa [aa] using z
  refine ah ?_;rw[mo];unfold T.sgn3;rw[aq7 e1]
 have e1:¬T.sgn (aw ts) i (af i (ts.getD i []))=0:=by simpa[aa]using z
 refine gC (fun z=>?_) (fun z=>?_)
 ·have e2:T.sgn (aw ts) i (af i (s.take (2^i)))=T.sgn (aw ts) i (af i (s.drop (2^i)))\/T.sgn (aw ts) i (af i (s.drop (2^i)))=0:=EE z;refine ah ?_;rw[mo];unfold T.sgn3;rw[aq6 e1,aq7 e2]
 have e2:¬(T.sgn (aw ts) i (af i (s.take (2^i)))=T.sgn (aw ts) i (af i (s.drop (2^i)))\/T.sgn (aw ts) i (af i (s.drop (2^i)))=0):=Il z;refine gC (fun z=>?_) (fun z=>?_)
 ·have e3 : T.sgn (aw ts) i (af i (s.take (2 ^ i))) = 0 := by simpa [aa] using z
  refine ah ?_;rw[mo];unfold T.sgn3;rw[aq6 e1,aq6 e2,aq7 e3]
 have e3:¬T.sgn (aw ts) i (af i (s.take (2^i)))=0:=by simpa[aa]using z
 refine gc (F5 ts m r ht hm eL i s e oz dD cs oz) ?_;refine gc k4 ?_;refine ga (Ef v1 v4) ?_;refine gD ?_;refine ah ?_;rw[mo];unfold T.sgn3;rw[aq6 e1,aq6 e2,aq6 e3];rfl
theorem wB(rs:List (List Rt))(r:Nat)(h:TR rs r):FP 138 [dU rs] (bG (bS rs)):=by
 have kW:=h.ll;have hr:=h.le;refine ai func138 ?_;refine gl ?_;refine gC (fun z=>?_) (fun z=>?_)
 ·have h5 : 5 < rs.length := by have := z; simp only [aa, aq8] at this; omega
  refine ah ?_;rw[OE h5];rfl
 have h5:rs.length<=5:=by have:=z;simp only[aa,decide_eq_false_iff_not]at this;omega
 refine gl ?_;refine aS [1,13,14] [1] (fun(k:Nat)=>[pP 15 (i64 k)]) (fun _=>[]) (fun k=>k<=rs.length/\∀j,j<k->kZ rs j) (fun k=>rs.length-k) 0 ⟨apx _,fun j hj=>by omega⟩ ?_;rintro k ⟨hk,hj⟩ K1 J1;refine gC (fun z=>?_) (fun z=>?_)
 ·have ae : k < rs.length := by simpa [aa] using z
  obtain⟨d,hd⟩:=ay ae;have uX:=apo hd;have tg:=h.len d uX;refine gi (aA hd) ?_;refine gl ?_;refine gs (kH (.const _) (.tmp rfl) oz (uf oz) rfl) ?_;refine gC (fun z=>?_) (fun z=>?_)
  ·have h1 : d.length ≠ 2 ^ k := by have := z; simp only [aa, bne_iff_ne, ne_eq] at this; omega
   refine ah ?_;rw[Kn h5 hd hj h1];rfl
  have h1:d.length=2^k:=by have:=z;simp only[aa,bne_eq_false_iff_eq]at this;omega
  have htl:(rs.take k).length=k:=by simp;omega
  have D0:=PP (rs.take k) d (h.ok d uX) tg oz;rw[htl]at D0;refine gs (dZ (.tmp rfl) (.none _) (.some _ (.tmp rfl) oz) T42 rfl T53 rfl oz (by simp only[apr];omega) rfl) ?_ (9,0);refine gW (Wk.of (sl:=[pP 1 (.ptr 1 0),pP 3 (i64 k),pP 4 (nR d),pP 5 (.ptr 5 0),pP 13 (.lst 1 (rs.map nR)),pP 14 (i64 rs.length),pP 15 (i64 k)]) (hp:=[pP 1 (.box [.lst 1 (rs.map nR)]),pP 5 (.box [.lst 1 ((rs.take k).map nR)])]) a6 (.k (.cons rfl (BlkSub.bL (.cons (.of (VY nR rs k)) .nil) rfl) .nil))) ?_;refine gc D0 ?_;refine gC (fun z=>?_) (fun z=>?_)
  ·have h2:=ef z;refine ah ?_;rw[NE h5 hd hj h1 h2]
  have h2:=dS z;have nB:=KV (ts:=llq rs) (fun j il=>(hj j il).nl) h.rb;have hq:=BE h2 (h.ok d uX);have tc:Cb r (lq d):=by have:=h.rb.cb k;rw[yg,apq,hd]at this;exact this
  have io:FP 193 [dU (rs.take k),nR d] (i64 (T.sgn (aw (llq rs)) k (af k (lq d)))):=by
   have h9:=tF ((llq rs).take k) k r nB oz (by simp;omega) k (lq d) r (apu _) hq.2 tc (sE (apu k) (by have:=h.three;omega) hr (by have:=mD k;omega));rw[T.sgn_congr k (fun j il=>vo il)]at h9;rw[Vn h.ok oz hj,hq.1,gh];rw[<- hq.1];exact h9
  refine gc io ?_;refine gC (fun z=>?_) (fun z=>?_)
  ·have h3 : T.sgn (aw (llq rs)) k (af k (lq d)) < 0 := by simpa [aa] using z
   refine ah ?_;rw[L1 h5 hd hj h1 h2 h3];rfl
  have h3:¬T.sgn (aw (llq rs)) k (af k (lq d))<0:=by simpa[aa]using z
  refine ga aN ?_;exact aM J1 (k+1) ⟨ae,fun j il=>by rcases apz j k with h9 |h9;exact hj j h9;(have:j=k:=by omega);subst this;exact KQ hd h1 h2 h3⟩
 have ae:k=rs.length:=by have:rs.length<=k:=(by simpa[aa]using z);omega
 subst ae;refine ah ?_;rw[MJ h5 hj];rfl
theorem rj(rs:List (List Rt))(r:Nat)(h:TR rs r)(xs:List (List Rt))(hx:∀a∈xs,(∀x∈a,x.ok)/\a.length<=281474976710656)(hl:xs.length<=281474976710656):FP 192 [dU rs,.lst 1 (xs.map nR)] (bG (bY rs xs)):=by
 refine ai func192 ?_;refine gc (wB rs r h) ?_;refine gC (fun z=>?_) (fun z=>?_)
 ·have h1:=ef z;refine ah ?_;rw[Ma h1]
 have h1:=dS z;refine gl ?_;refine aS [2,14,15] [2] (fun(i:Nat)=>[pP 16 (i64 i)]) (fun _=>[]) (fun i=>i<=xs.length/\∀x∈xs.take i,de rs.length x=0) (fun i=>xs.length-i) 0 ⟨apx _,fun x hx=>by simp at hx⟩ ?_;rintro i ⟨hi,hj⟩ K1 J1;refine gC (fun z=>?_) (fun z=>?_)
 ·have ae : i < xs.length := by simpa [aa] using z
  obtain⟨a,ha⟩:=ay ae;have cT:=hx a (apo ha);refine gi (aA ha) ?_;refine gc (PP rs a cT.1 cT.2 h.ll) ?_;refine gC (fun z=>?_) (fun z=>?_)
  ·have h2:=ef z;refine ah ?_;rw[Ia h1 ha hj h2]
  have h2:=dS z;refine ga aN ?_;exact aM J1 (i+1) ⟨ae,fun x hx=>by rw[dJ ha]at hx;rcases ap2.1 hx with h9 |h9;exact hj x h9;(rw[am8.1 h9];exact h2)⟩
 have ae:i=xs.length:=by have:xs.length<=i:=(by simpa[aa]using z);omega
 subst ae;rw[ap5]at hj;refine ah ?_;rw[z8 h1 hj];rfl
theorem XJ(rs:List (List Rt))(r:Nat)(h:TR rs r)(a:List Rt)(e:Nat)(ha:NR a e):FP 309 [dU rs,nR a] (bl (decide (bY rs [a]=0))):=by
 refine ai func309 ?_;refine gc (rj rs r h [a] (fun x hx=>by rw[am8.1 hx];exact⟨ha.ok,ha.len⟩) (by simp)) ?_;refine ah ?_;rw[G9];rfl
theorem Qj(rs:List (List Rt))(r:Nat)(h:TR rs r)(a:List Rt)(e:Nat)(ha:NR a e)(he:e<=lm rs.length) :
  FP 128 [dU rs,nR a] (.tup [nA (if bY rs [a]=0 then sh rs.length (T.neg rs.length (af rs.length (lq a)))else[]),bG (bY rs [a])]):=by
 have dp:=oO rs.length;refine ai func128 ?_;refine gc (rj rs r h [a] (fun x hx=>by rw[am8.1 hx];exact⟨ha.ok,ha.len⟩) (by simp)) ?_;refine gC (fun z=>?_) (fun z=>?_) (st2:=(77777,0))
 ·have h1:=ef z;refine gR ?_;exact fv (by rw[aq6 h1];exact Sub.tup (.cons (.nil _ _ _) (.cons (.refl _) .nil)))
 have h1:=dS z;obtain⟨h2,h3⟩:=sV h1;obtain⟨tw,_⟩:=d9 h h2;obtain⟨e1,na⟩:=ha.num (h3 a (by simp));have h5:rs.length<=5:=by have:=tw.five;rwa [apr]at this
 have hl:=na.len5 h5;have qa:∀q∈lq a,Qs q:=fun q hq=>ha.cb.qs oz hq
 have qm:∀q∈dQ (lq a),Qs q:=fun q hq=>ha.cb.minus.qs oz hq
 have nm:=sM na;refine gW (Wk.of (sl:=[pP 1 (nA (lq a)),pP 2 (.ptr 2 0),pP 6 (bG (bY rs [a]))]) (hp:=[pP 2 (.box [.lst 1 (rs.map nR)])]) (.cons rfl (.of e1) (.k (.k .nil))) (.k .nil)) ?_;refine gc (xT _ qa oz) ?_;refine gc (pJ _ h5 nm qm) ?_;refine bK ?_;rw[aq7 h1,h1,qf];rfl
theorem UN(rs:List (List Rt))(r:Nat)(h:TR rs r)(a b:List Rt)(e f:Nat)(ha:NR a e)(hb:NR b f)(he:e+f<=lm rs.length) :
  FP 250 [dU rs,nR a,nR b] (.tup [nA (if bY rs [a,b]=0 then sh rs.length (T.add rs.length (af rs.length (lq a)) (af rs.length (lq b)))else[]),bG (bY rs [a,b])]):=by
 have dp:=oO rs.length;refine ai func250 ?_;refine gc (rj rs r h [a,b] (wE ha hb) (by simp)) ?_;refine gC (fun z=>?_) (fun z=>?_) (st2:=(77777,0))
 ·have h1:=ef z;refine gR ?_;exact fv (by rw[aq6 h1];exact Sub.tup (.cons (.nil _ _ _) (.cons (.refl _) .nil)))
 have h1:=dS z;obtain⟨h2,h3⟩:=sV h1;obtain⟨tw,e0⟩:=d9 h h2;obtain⟨e1,na⟩:=ha.num (h3 a (by simp));obtain⟨e2,nb⟩:=hb.num (h3 b (by simp));have h5:rs.length<=5:=by have:=tw.five;rwa [apr]at this
 have ns:=na.len5 h5;have eY:=nb.len5 h5;have qa:∀q∈lq a,Qs q:=fun q hq=>ha.cb.qs oz hq
 have qb:∀q∈lq b,Qs q:=fun q hq=>hb.cb.qs oz hq
 have qp:∀q∈dh (lq a) (lq b),Qs q:=fun q hq=>(ha.cb.plus hb.cb).qs oz hq
 have np:=tv na nb;refine gW (Wk.of (sl:=[pP 1 (nA (lq a)),pP 2 (nA (lq b)),pP 3 (.ptr 3 0),pP 8 (bG (bY rs [a,b]))]) (hp:=[pP 3 (.box [.lst 1 (rs.map nR)])]) (.cons rfl (.of e1) (.cons rfl (.of e2) (.k (.k .nil)))) (.k .nil)) ?_;refine gc (uG _ _ qa qb oz oz) ?_;refine gc (pJ _ h5 np qp) ?_;refine bK ?_;rw[aq7 h1,h1,l6];rfl
theorem Ya(rs:List (List Rt))(r:Nat)(h:TR rs r)(a b:List Rt)(e f:Nat)(ha:NR a e)(hb:NR b f)(he:e+f<=lm rs.length) :
  FP 209 [dU rs,nR a,nR b] (.tup [nA (if bY rs [a,b]=0 then sh rs.length (T.add rs.length (af rs.length (lq a)) (T.neg rs.length (af rs.length (lq b))))else[]),bG (bY rs [a,b])]):=by
 have dp:=oO rs.length;refine ai func209 ?_;refine gc (rj rs r h [a,b] (wE ha hb) (by simp)) ?_;refine gC (fun z=>?_) (fun z=>?_) (st2:=(77777,0))
 ·have h1:=ef z;refine gR ?_;exact fv (by rw[aq6 h1];exact Sub.tup (.cons (.nil _ _ _) (.cons (.refl _) .nil)))
 have h1:=dS z;obtain⟨h2,h3⟩:=sV h1;obtain⟨tw,e0⟩:=d9 h h2;obtain⟨e1,na⟩:=ha.num (h3 a (by simp));obtain⟨e2,nb⟩:=hb.num (h3 b (by simp));have h5:rs.length<=5:=by have:=tw.five;rwa [apr]at this
 have ns:=na.len5 h5;have eY:=nb.len5 h5;have qa:∀q∈lq a,Qs q:=fun q hq=>ha.cb.qs oz hq
 have qb:∀q∈lq b,Qs q:=fun q hq=>hb.cb.qs oz hq
 have qm:∀q∈dQ (lq b),Qs q:=fun q hq=>hb.cb.minus.qs oz hq
 have qp:∀q∈dh (lq a) (dQ (lq b)),Qs q:=fun q hq=>(ha.cb.plus hb.cb.minus).qs oz hq
 have np:=tv na (sM nb);refine gW (Wk.of (sl:=[pP 1 (nA (lq a)),pP 2 (nA (lq b)),pP 3 (.ptr 3 0),pP 8 (bG (bY rs [a,b]))]) (hp:=[pP 3 (.box [.lst 1 (rs.map nR)])]) (.cons rfl (.of e1) (.cons rfl (.of e2) (.k (.k .nil)))) (.k .nil)) ?_;refine gc (xT _ qb oz) ?_;refine gc (uG _ _ qa qm oz (by rw[lc];omega)) ?_;refine gc (pJ _ h5 np qp) ?_;refine bK ?_;rw[aq7 h1,h1,l6,qf];rfl
theorem aaq(rs:List (List Rt))(r:Nat)(h:TR rs r)(a b:List Rt)(e f:Nat)(ha:NR a e)(hb:NR b f)(he:e+f<=lm rs.length) :
  FP 210 [dU rs,nR a,nR b] (.tup [nA (if bY rs [a,b]=0 then sh rs.length (T.mul (aw (llq rs)) rs.length (af rs.length (lq a)) (af rs.length (lq b)))else[]),bG (bY rs [a,b])]):=by
 have hr:=h.le;have dp:=oO rs.length;refine ai func210 ?_;refine gc (rj rs r h [a,b] (wE ha hb) (by simp)) ?_;refine gC (fun z=>?_) (fun z=>?_) (st2:=(77777,0))
 ·have h1:=ef z;refine gR ?_;exact fv (by rw[aq6 h1];exact Sub.tup (.cons (.nil _ _ _) (.cons (.refl _) .nil)))
 have h1:=dS z;obtain⟨h2,h3⟩:=sV h1;obtain⟨tw,e0⟩:=d9 h h2;obtain⟨e1,na⟩:=ha.num (h3 a (by simp));obtain⟨e2,nb⟩:=hb.num (h3 b (by simp));have bV:(llq rs).length=rs.length:=apr _;have h5:rs.length<=5:=by have:=tw.five;omega
 have ns:=na.len5 h5;have eY:=nb.len5 h5;have nE:=tw.ok;rw[bV]at nE;have hE:=aan r h5;have np:=jO (llq rs) rs.length nE.1 rs.length rs.length _ _ (apu _) (apu _) na nb;have cp:=Cb.mul nE (k:=rs.length) (apu rs.length) (apu _) na nb ha.cb hb.cb;have dX:=v5 (llq rs) rs.length r nE h5 oz rs.length rs.length _ _ e f (apu _) (apu _) na nb ha.cb hb.cb oz;refine gW (Wk.of (sl:=[pP 1 (nA (lq a)),pP 2 (nA (lq b)),pP 3 (.ptr 3 0),pP 8 (bG (bY rs [a,b]))]) (hp:=[pP 3 (.box [.lst 1 ((llq rs).map nA)])]) (.cons rfl (.of e1) (.cons rfl (.of e2) (.k (.k .nil)))) (.cons rfl (BlkSub.bL (.cons (.of (rg e0)) .nil) rfl) .nil)) ?_;refine gc dX ?_;refine gc (pJ _ h5 np.1 (fun q hq=>cp.qs oz hq)) ?_;refine bK ?_;rw[aq7 h1,h1,np.2];rfl
theorem ag3(rs:List (List Rt))(r:Nat)(h:TR rs r)(a b:List Rt)(e f:Nat)(ha:NR a e)(hb:NR b f)(he:e+f+1<=lm rs.length) :
  FP 399 [dU rs,nR a,nR b] (.tup [i64 (if bY rs [a,b]=0 then T.sgn (aw (llq rs)) rs.length (T.add rs.length (af rs.length (lq a)) (T.neg rs.length (af rs.length (lq b))))else 0),bG (bY rs [a,b])]):=by
 have hr:=h.le;have dp:=oO rs.length;refine ai func399 ?_;refine gc (rj rs r h [a,b] (wE ha hb) (by simp)) ?_;refine gC (fun z=>?_) (fun z=>?_) (st2:=(77777,0))
 ·have h1:=ef z;refine bK ?_;rw[aq6 h1];rfl
 have h1:=dS z;obtain⟨h2,h3⟩:=sV h1;obtain⟨tw,e0⟩:=d9 h h2;obtain⟨e1,na⟩:=ha.num (h3 a (by simp));obtain⟨e2,nb⟩:=hb.num (h3 b (by simp));have bV:(llq rs).length=rs.length:=apr _;have h5:rs.length<=5:=by have:=tw.five;omega
 have ns:=na.len5 h5;have eY:=nb.len5 h5;have nE:=tw.ok;rw[bV]at nE;have qa:∀q∈lq a,Qs q:=fun q hq=>ha.cb.qs oz hq
 have qb:∀q∈lq b,Qs q:=fun q hq=>hb.cb.qs oz hq
 have qm:∀q∈dQ (lq b),Qs q:=fun q hq=>hb.cb.minus.qs oz hq
 have np:=tv na (sM nb);have io:=tF (llq rs) rs.length r nE h5 oz rs.length _ _ (apu _) np (ha.cb.plus hb.cb.minus) (sE (apu rs.length) (by have:=tw.three;omega) hr oz);refine gW (Wk.of (sl:=[pP 1 (nA (lq a)),pP 2 (nA (lq b)),pP 3 (.ptr 3 0),pP 8 (bG (bY rs [a,b]))]) (hp:=[pP 3 (.box [.lst 1 ((llq rs).map nA)])]) (.cons rfl (.of e1) (.cons rfl (.of e2) (.k (.k .nil)))) (.cons rfl (BlkSub.bL (.cons (.of (rg e0)) .nil) rfl) .nil)) ?_;refine gc (xT _ qb oz) ?_;refine gc (uG _ _ qa qm oz (by rw[lc];omega)) ?_;refine gc io ?_;refine gD ?_;refine bK ?_;rw[aq7 h1,h1,l6,qf];rfl
theorem Z9(rs:List (List Rt))(r:Nat)(h:TR rs r)(a:List Rt)(e:Nat)(ha:NR a e)(he:e<=lm rs.length) :
  FP 87 [dU rs,nR a] (.tup [i64 (if bY rs [a]=0 then T.sgn (aw (llq rs)) rs.length (af rs.length (lq a))else 0),bG (bY rs [a])]):=by
 have hr:=h.le;have dp:=oO rs.length;refine ai func87 ?_;refine gc (rj rs r h [a] (fun x hx=>by rw[am8.1 hx];exact⟨ha.ok,ha.len⟩) (by simp)) ?_;refine gC (fun z=>?_) (fun z=>?_) (st2:=(77777,0))
 ·have h1:=ef z;refine bK ?_;rw[aq6 h1];rfl
 have h1:=dS z;obtain⟨h2,h3⟩:=sV h1;obtain⟨tw,e0⟩:=d9 h h2;obtain⟨e1,na⟩:=ha.num (h3 a (by simp));have bV:(llq rs).length=rs.length:=apr _;have h5:rs.length<=5:=by have:=tw.five;omega
 have nE:=tw.ok;rw[bV]at nE;have io:=tF (llq rs) rs.length r nE h5 oz rs.length _ _ (apu _) na ha.cb (sE (apu rs.length) (by have:=tw.three;omega) hr oz);refine gW (Wk.of (sl:=[pP 1 (nA (lq a)),pP 2 (.ptr 2 0),pP 6 (bG (bY rs [a]))]) (hp:=[pP 2 (.box [.lst 1 ((llq rs).map nA)])]) (.cons rfl (.of e1) (.k (.k .nil))) (.cons rfl (BlkSub.bL (.cons (.of (rg e0)) .nil) rfl) .nil)) ?_;refine gc io ?_;refine bK ?_;rw[aq7 h1,h1];rfl
theorem Wi(x:Rt)(hx:x.ok)(hs:Qs x.q):FP 115 [x.av] (nA (sh 0 (x.q:Rat))):=by
 have jf:=sH x (rt 0) hx Qs.zero.ok;rw[zD]at jf;refine ai func115 ?_;refine gc (Con.sA (.cons (.refl _) (.cons mV .nil)) jf) ?_;refine gc (pJ (n:=0) [x.q] oz (.inr ⟨0,apu _,rfl⟩) (fun q hq=>by rw[am8.1 hq];exact hs)) ?_;refine ah ?_;rfl
theorem xK(n:Nat)(hn:n<=281474976710656):FP 339 [i64 n] (.tup [i64 (oP n),bl (oW n)]):=by
 refine ai func339 ?_;refine aS [0] [] (fun(k:Nat)=>[pP 5 (i64 k)]) (fun _=>[]) (fun k=>k<=6/\∀j,j<k->n≠2^j) (fun k=>6-k) 0 ⟨by omega,fun j h=>by omega⟩ ?_;rintro k ⟨hk,hj⟩ K1 J1;refine gC (fun z=>?_) (fun z=>?_)
 ·have h1 : k < 6 := by have := z; simp only [aa, aq8] at this; omega
  refine gs (kH (.const _) (.tmp rfl) oz (uf oz) rfl) ?_;refine gC (fun z=>?_) (fun z=>?_)
  ·have h2 : n = 2 ^ k := by have := z; simp only [aa, beq_iff_eq] at this; omega
   refine bK ?_;rw[h2,(qJ oz).1,(qJ oz).2];rfl
  have h2:n≠2^k:=by have:=z;simp only[aa,beq_eq_false_iff_ne,ne_eq]at this;omega
  refine ga (eF oz) ?_;exact aM J1 (k+1) ⟨by omega,fun j h=>by rcases apz j k with h3 |h3;exact hj j h3;(have:j=k:=by omega);subst this;exact h2⟩
 have h1:k=6:=by have:=z;simp only[aa,decide_eq_false_iff_not]at this;omega
 subst h1;refine bK ?_;rw[(Ns hj).1,(Ns hj).2];rfl
theorem LO(m:Nat)(hm:m<=5)(a:List Rt)(ha:∀r∈a,r.ok)(hl:a.length<=281474976710656):FP 215 [i64 m,nR a] (i64 (de m a)):=by
 refine ai func215 ?_;refine gl ?_;refine gc (xK a.length hl) ?_;refine gl ?_;refine gC (fun z=>?_) (fun z=>?_)
 ·have h1:a≠[]/\(dG a.length<0\/(m:Int)<dG a.length):=(Pr hm a).2 (Wo z);refine ah ?_;unfold de;rw[aq7 h1];rfl
 have hn:¬(a≠[]/\(dG a.length<0\/(m:Int)<dG a.length)):=fun h=>ait z ((Pr hm a).1 h)
 refine gl ?_;refine aS [27,28] [] (fun(i:Nat)=>[pP 29 (i64 i)]) (fun _=>[]) (fun i=>i<=a.length/\(a.take i).all Rt.valid=true) (fun i=>a.length-i) 0 ⟨apx _,by simp⟩ ?_;rintro i ⟨hi,hv⟩ K1 J1;refine gC (fun z=>?_) (fun z=>?_)
 ·have ae : i < a.length := by simpa [aa] using z
  obtain⟨r,hr⟩:=ay ae;have I2:=ha r (apo hr);refine gi (aA hr) ?_;refine gc (xB r I2) ?_;refine gC (fun z=>?_) (fun z=>?_)
  ·have rI : r.valid = false := by simpa using z
   refine ah ?_;unfold de;rw[aq6 hn,aq6]
   ·rfl
   ·rw[ap3];intro h;rw[h r (apo hr)]at rI;cases rI
  have rI:r.valid=true:=by simpa using z
  refine ga aN ?_;exact aM J1 (i+1) ⟨by omega,by rw[dJ hr,all_append,hv];simp[rI]⟩
 have ae:i=a.length:=by have:a.length<=i:=(by simpa[aa]using z);omega
 subst ae;rw[ap5]at hv;refine ah ?_;unfold de;rw[aq6 hn,aq7 hv];rfl
theorem PG(a:List Rat)(hl:a.length<=281474976710656):FP 416 [nA a] (bl (bM a)):=by
 refine ai func416 ?_;refine gl ?_;refine aS [5,6] [] (fun(i:Nat)=>[pP 7 (i64 i)]) (fun _=>[]) (fun i=>i<=a.length/\bM (a.take i)=true) (fun i=>a.length-i) 0 ⟨apx _,by simp[bM]⟩ ?_;rintro i ⟨hi,hv⟩ K1 J1;refine gC (fun z=>?_) (fun z=>?_)
 ·have ae : i < a.length := by simpa [aa] using z
  obtain⟨q,hq⟩:=ay ae;refine gi (aA hq) ?_;refine cA ?_;refine cA ?_;refine gC (fun z=>?_) (fun z=>?_)
  ·have h0:q≠0:=Vo z;refine ah ?_
   have:bM a=false:=by
    rw[aou];intro h;exact h0 (by simpa using ap3.1 h q (apo hq))
   rw[this];rfl
  have h0:q=0:=Zg z;refine ga aN ?_;exact aM J1 (i+1) ⟨by omega,by rw[dJ hq];simp only[bM,all_append,apw];exact⟨hv,by simp[h0]⟩⟩
 have ae:i=a.length:=by have:a.length<=i:=(by simpa[aa]using z);omega
 subst ae;rw[ap5]at hv;refine ah ?_;rw[hv];rfl
theorem EV{n:Nat}(a:List Rat)(hn:n<=5)(ha:Nl n a):FP 340 [nA a] (nA (sh n (af n a))):=by
 have hl:=ha.len5 hn;rw[<- yF ha hn];refine ai func340 ?_;refine gl ?_;refine gc (xK a.length oz) ?_;refine gC (fun t13=>?_) (fun t13=>?_)
 ·have h0:a=[]:=by
   rcases ha with h |⟨j,hj,h⟩
   ·exact h
   ·have h9:=t13;rw[h,(qJ oz).2]at h9;cases h9
  refine gs (j6 T53 rfl T106 rfl rfl rfl) ?_;refine gs (pY (.tmp rfl) rfl rfl (.tmp rfl) T53 rfl T106 rfl rfl (by simp[h0]) rfl rfl) ?_;refine ah ?_;subst h0;rfl
 refine gl ?_;refine aS [0] [] (fun(m:Nat)=>[pP 5 (i64 m)]) (fun _=>[]) (fun m=>rh a m) (fun m=>m) a.length (PQ (ha.mono hn)) ?_;rintro m hm K1 J1;refine gs (gK rfl rfl rfl (fun h=>ib (.opt rfl (o1 h)) (.const _) oz (jk (by have:=hm.le;omega)) rfl)) ?_;refine gs (gK rfl rfl rfl (fun h=>dZ (.opt rfl (o1 h)) (.some _ (.opt rfl (o1 h)) oz) (.some _ (.opt rfl (o1 h)) oz) T53 rfl T106 rfl oz (by have:=hm.le;simp;omega) rfl)) ?_;refine bT (fun _=>(by have h9:=PG ((a.drop (m/2)).take (m-m/2)) (by simp;omega);rw[<- ye]at h9;exact h9)) ?_;refine gC (fun t28=>?_) (fun t28=>?_)
 ·have h1:1<m/\bM ((a.drop (m/2)).take (m-m/2))=true:=by
   have h9:=t28
   by_cases h:(m:Int)>1
   ·simp only[aa,arb h,cond_true]at h9;exact⟨by omega,h9⟩
   ·simp only[aa,arc h,cond_false]at h9;cases h9
  refine gs (ib (.tmp rfl) (.const _) oz (jk (by have:=hm.le;omega)) rfl) ?_;exact aM J1 (m/2) (Mw hm h1.1 h1.2)
 have h1:1<m->bM ((a.drop (m/2)).take (m-m/2))=false:=by
  intro h;have h9:=t28;simp only[aa,arb (show(m:Int)>1 by omega),cond_true]at h9;exact h9
 refine gs (gK rfl rfl rfl (fun h=>dZ (.opt rfl (o1 h)) (.none _) (.some _ (.const _) oz) T53 rfl T106 rfl oz (by have h8:(m:Int)=1:=(by simpa[aa]using h);have:=hm.le;simp only[apr];omega) rfl)) ?_;refine bT (fun _=>(by have h9:=PG ((a.drop 0).take 1) (by simp;omega);rw[<- ye]at h9;exact h9)) ?_;refine gC (fun t37=>?_) (fun t37=>?_)
 ·have h2:m=1/\bM (a.take 1)=true:=by
   have h9:=t37
   by_cases h:m=1
   ·rw[h]at h9;exact⟨h,h9⟩
   ·rw[show aa .eql (m:Int) 1=false by simp[aa];omega]at h9;cases h9
  obtain⟨rfl,h3⟩:=h2;refine gR ?_;exact o7 (by rw[NV hm h3];exact Sub.nil _ _ _)
 have h2:m=1->bM (a.take 1)=false:=by
  intro h;have h9:=t37;rw[h]at h9;exact h9
 have h3:=Pk hm h1 h2;refine gs (j6 T53 rfl T106 rfl rfl rfl) ?_;refine gs (dZ (.tmp rfl) (.none _) (.some _ (.tmp rfl) oz) T53 rfl T106 rfl oz (by have:=hm.le;simp;omega) rfl) ?_;refine gs (pY (.tmp rfl) rfl rfl (.tmp rfl) T53 rfl T106 rfl rfl (by simp only[ap7,List.length_drop,apr];omega) rfl rfl) ?_;refine ah ?_;rw[h3];simp[nA,map_take]
theorem Ep(d:Nat)(hd:aly d 1000=true)(a:List Rat)(n:Nat)(hl:a.length<=n)(hn:n<=1099511627776) :
  Con prog 218 [nA a,i64 n] [] (.ms d 3 0 n) [(d,some (.row 3 ((bc a n).map qA)))]:=by
 refine gF func218 (fun k z h=>by cases h) ?_;refine gs (j6 T53 rfl T106 rfl rfl rfl) ?_;refine gs (cF (.tmp rfl) rfl rfl (.tmp rfl) T53 rfl T106 rfl rfl (by simp only[apr];omega) rfl rfl) ?_;refine gW (Wk.of (sl:=[pP 1 (i64 n),pP 5 (.ms 8 3 0 a.length)]) (hp:=[pP 8 (.row 3 ((bc a a.length).map qA))]) (.k (.cons rfl (.of (by simp)) .nil)) (.cons rfl (.of (by simp[bc])) .nil)) ?_ (99999,0);refine gW (Wk.rk (k:=8) (d:=900) rfl rfl) ?_;refine aS [1] [] (fun(i:Nat)=>[pP 5 (.ms 900 3 0 i)]) (fun i=>[pP 900 (.row 3 ((bc a i).map qA))]) (fun i=>a.length<=i/\i<=n) (fun i=>n-i) a.length ⟨apu _,hl⟩ ?_;rintro i ⟨hi,ae⟩ K1 J1;refine gC (fun y=>?_) (fun y=>?_)
 ·have h1 : i < n := by have := y; simp only [aa, aq8] at this; omega
  refine gs (cF (.tmp rfl) rfl (by rw[apr,ft hi]) (.tmp rfl) T53 rfl T106 rfl rfl (by simp;omega) rfl rfl) ?_;exact aM J1 (i+1) ⟨by omega,h1⟩ (hw:=(Wk.of (sl:=[pP 1 (i64 n),pP 5 (.ms 16 3 0 (i+1))]) (hp:=[pP 16 (.row 3 ((bc a (i+1)).map qA))]) a6 (.cons rfl (Xl a i hi) .nil)).trans<|(Wk.rk (k:=16) (d:=900) rfl rfl).trans<|Wk.o)
 have h1:i=n:=by have:=y;simp only[aa,decide_eq_false_iff_not]at this;omega
 subst h1;refine gR ?_;exact aD.own1 rfl hd rfl
theorem zQ(a:List Rat)(n:Nat)(hl:a.length<=n)(hn:n<=1099511627776):FP 218 [nA a,i64 n] (nA (bc a n)):=by
 have h:=Con.freeze (by rw[apr,ft hl];omega) (Ep 0 rfl a n hl hn);rw[aq1,aqa (by rw[apr,ft hl];exact apu _)]at h;exact h
theorem BU(a b:List Rat)(ha:∀q∈a,Qs q)(hb:∀q∈b,Qs q)(la:a.length<=1099511627776)(lb:b.length<=1099511627776):FP 260 [nA a,nA b] (nA (dh a b)):=by
 obtain⟨n,hn⟩:∃n,n=max a.length b.length:=⟨_,rfl⟩
 have hwa:=ft (show a.length<=n by omega);have hwb:=ft (show b.length<=n by omega);have hp:=fW (a:=a) (b:=b);rw[<- hn]at hp;have qa:∀q∈bc a n,Qs q:=fun q hq=>by rcases ap2.1 hq with h |h;exact ha q h;(rw[(an5.1 h).2];exact Qs.zero)
 have qb:∀q∈bc b n,Qs q:=fun q hq=>by rcases ap2.1 hq with h |h;exact hb q h;(rw[(an5.1 h).2];exact Qs.zero)
 refine ai func260 ?_;refine gl ?_;refine gl ?_;refine gs (w6 (.tmp rfl) (.tmp rfl) rfl) ?_ (2,0);refine gW (Wk.of (sl:=[pP 0 (nA a),pP 1 (nA b),pP 5 (i64 n)]) (hp:=[]) (.k (.k (.cons rfl (Sub.int oz) .nil))) .nil) ?_;refine go ?_;refine gt (aK (Ep 900 rfl a n oz oz) (bO rfl rfl) aL rfl rfl) ?_;refine gc (zQ b n oz oz) ?_;refine aS [1,19] [] (fun(i:Nat)=>[pP 0 (.ms 900 3 0 n),pP 20 (i64 i)]) (fun i=>[pP 900 (.row 3 (((dh a b).take i++(bc a n).drop i).map qA))]) (fun i=>i<=n) (fun i=>n-i) 0 (apx _) ?_;rintro i hi K1 J1;refine gC (fun z=>?_) (fun z=>?_) (st2:=(8,0))
 ·have ae : i < n := by simpa [aa] using z
  have uW:=FH (p:=dh a b) (w:=bc a n) (i:=i) oz oz;have Ax:=(qa _ (x7 (i:=i) oz)).ok;have I3:=(qb _ (x7 (i:=i) oz)).ok;refine gs (cM (n:=i) (.tmp rfl) (.tmp rfl) T53 rfl T106 rfl oz oz rfl) ?_;refine gs (f0 (.tmp rfl) rfl (aA uW) T106 rfl rfl rfl) ?_;refine gi (aA (getD_some (i:=i) (l:=bc b n) oz)) ?_;refine gc (Jw (rt ((bc a n).getD i 0)) (rt ((bc b n).getD i 0)) Ax I3) ?_;refine gs (cM (n:=i) (.tmp rfl) (.tmp rfl) T53 rfl T106 rfl oz oz rfl) ?_;refine gs (fg (.tmp rfl) rfl (aA uW) rfl (.tmp rfl) rfl rfl T106 rfl rfl) ?_;refine gD ?_ (7,0);refine gW (Wk.of (sl:=[pP 0 (.ms 900 3 0 n),pP 1 (nA (bc b n)),pP 19 (i64 n),pP 20 (i64 i)]) (hp:=[pP 900 (.row 3 (((dh a b).take (i+1)++(bc a n).drop (i+1)).map qA))]) a6 (.cons rfl (.of (by rw[HU oz oz (by rw[Kf,<- hn,bN,bN])])) .nil)) ?_;refine ga aN ?_;exact aM J1 (i+1) ae
 have ae:i=n:=by have:n<=i:=(by simpa[aa]using z);omega
 refine gW ((Wk.freeze (k:=900) rfl).trans<|Wk.of (sl:=[pP 0 (nA (dh a b))]) (hp:=[]) (.cons rfl (.of (by rw[b8 (by simp;omega),ae,ano oz,aqa oz,append_nil];rfl)) .nil) .nil) ?_;refine ah ?_;rfl
theorem KL(a:List Rat)(ha:∀q∈a,Qs q)(hl:a.length<=1099511627776):FP 261 [nA a] (nA (dQ a)):=by
 refine ai func261 ?_;refine gl ?_;refine gW (Wk.virt 900 3 rfl) ?_;refine aS [6,7] [] (fun(i:Nat)=>[pP 3 (.ms 900 3 0 i),pP 8 (i64 i)]) (fun i=>[pP 900 (.row 3 ((dQ (a.take i)).map qA))]) (fun i=>i<=a.length) (fun i=>a.length-i) 0 (apx _) ?_;rintro i hi K1 J1;refine gC (fun z=>?_) (fun z=>?_) (st2:=(7,0))
 ·have ae : i < a.length := by simpa [aa] using z
  obtain⟨q,hq⟩:=ay ae;have jS:=(ha q (apo hq)).ok;refine gi (aA hq) ?_;refine gc (K0 (rt q) jS) ?_;refine gs (cF (.tmp rfl) rfl (by simp[dQ];omega) (.tmp rfl) T53 rfl T106 rfl rfl (by simp;omega) rfl rfl) ?_ (6,0);refine gW (Wk.of (sl:=[pP 3 (.ms 16 3 0 (i+1)),pP 6 (nA a),pP 7 (i64 a.length),pP 8 (i64 i)]) (hp:=[pP 16 (.row 3 ((dQ (a.take (i+1))).map qA))]) a6 (.cons rfl (.of (by rw[dJ hq];simp only[dQ,ap8,bN];rfl)) .nil)) ?_ (6,0);refine gW (Wk.rk (k:=16) (d:=900) rfl rfl) ?_;refine ga aN ?_;exact aM J1 (i+1) ae
 have ae:i=a.length:=by have:a.length<=i:=(by simpa[aa]using z);omega
 subst ae;refine gW ((Wk.freeze (k:=900) rfl).trans<|Wk.of (sl:=[pP 3 (nA (dQ a))]) (hp:=[]) (.cons rfl (.of (by rw[b8 (by simp[dQ]),ap5];rfl)) .nil) .nil) ?_;refine ah ?_;rfl
theorem Fl(ts:LL)(m r:Nat)(ht:lg ts m r)(hm:m<=5)(R:List AV)(hR:∀j,j<m->R[j]?=some (nA (ts.getD j [])))(k:Nat):∀(j:Nat)(a b:List Rat)(e f:Nat),j<=m->j<=k->Nl j a->Nl j b->Cb e a->Cb f b->e+f+eB r j<4398046511104 ->
  FP 364 [.agg [.lst 1 R],nA a,nA b] (nA (rT ts k a b)):=by
 induction k using Nat.strongRecOn
 rename_i k ih;intro j a b e f hj il ha hb ca cb hs;obtain⟨nx,dx⟩:=AN ha oz;obtain⟨ny,dy⟩:=AN hb oz;have cx:Cb e (bD 5 a):=ca.sub (fun q hq=>xx 5 hq);have cy:Cb f (bD 5 b):=cb.sub (fun q hq=>xx 5 hq);have k1:=EV a oz ha;have k2:=EV b oz hb;rw[<- yF ha oz]at k1;rw[<- yF hb oz]at k2;obtain⟨x,hx⟩:∃x,x=bD 5 a:=⟨_,rfl⟩
 obtain⟨y,hy⟩:∃y,y=bD 5 b:=⟨_,rfl⟩
 rw[<- hx]at k1 nx dx cx;rw[<- hy]at k2 ny dy cy;have hlx:=nx.len5 oz;have hly:=ny.len5 oz;obtain⟨n,hn⟩:∃n,n=max x.length y.length:=⟨_,rfl⟩
 refine ai func364 ?_;refine gc k1 ?_;refine gc k2 ?_;refine gl ?_;refine gl ?_;refine gs (w6 (.tmp rfl) (.tmp rfl) rfl) ?_ (3,0);refine gW (Wk.of (sl:=[pP 1 (nA x),pP 2 (nA y),pP 3 (.ptr 3 0),pP 7 (i64 n)]) (hp:=[pP 3 (.box [.lst 1 R])]) (.k (.k (.k (.cons rfl (Sub.int oz) .nil)))) (.k .nil)) ?_;refine gl ?_;refine cA ?_;refine gC (fun z=>?_) (fun z=>?_)
 ·have h0 : x.length = 0 \/ y.length = 0 := by have := EE z; omega
  refine gR ?_;exact o7 (by rw[Oy (by rw[<- hx,<- hy];exact h0)];exact Sub.nil _ _ _)
 have h0:¬(x.length=0\/y.length=0):=by have:=Il z;omega
 refine gC (fun z=>?_) (fun z=>?_)
 ·have h1 : max x.length y.length = 1 := by have := z; simp only [aa, beq_iff_eq] at this; omega
  have e1:=Kv (ts:=ts) (k:=k) (a:=a) (b:=b) (by rw[<- hx,<- hy];exact h0) (by rw[<- hx,<- hy];exact h1);rw[<- hx,<- hy]at e1;clear hx hy;have lx1:x.length=1:=by omega
  have ly1:y.length=1:=by omega
  clear hn;obtain⟨p,rfl⟩:∃p,x=[p]:=an7.1 lx1;obtain⟨q,rfl⟩:∃q,y=[q]:=an7.1 ly1;refine gi rfl ?_;refine gi rfl ?_;refine gc (ahk (rt p) (rt q) (cx.qs oz (by simp:p∈[p])).ok (cy.qs oz (by simp:q∈[q])).ok) ?_;refine gD ?_;refine ah ?_;rw[e1,bN,bN];rfl
 have h1:n≠1:=by have:=z;simp only[aa,beq_eq_false_iff_ne,ne_eq]at this;omega
 obtain⟨i,ek,ald⟩:=(O6 nx ny h0).resolve_left oz;obtain⟨k',rfl⟩:∃k',k=k'+1:=⟨k-1,by omega⟩
 have ku:=amf i;have kv:2^i<=32:=cV (b:=5) oz;have qu:2^(i+1)=2*2^i:=by rw[amp];omega
 have iK:n=2^(i+1):=by omega
 have lH:eB r (i+1)<=eB r j:=kR r ek;have hee:eB r (i+1)=2*eB r i+r+2:=rfl;have lx:(bc x (2^(i+1))).length=2^(i+1):=ft oz;have ly:(bc y (2^(i+1))).length=2^(i+1):=ft oz;obtain⟨X,hX⟩:∃X,X=bc x (2^(i+1)):=⟨_,rfl⟩
 obtain⟨Y,hY⟩:∃Y,Y=bc y (2^(i+1)):=⟨_,rfl⟩
 have cX:Cb e X:=by rw[hX];exact cx.wide
 have cY:Cb f Y:=by rw[hY];exact cy.wide
 rw[<- hX]at lx;rw[<- hY]at ly;have n1:Nl i (X.take (2^i)):=.inr ⟨i,apu _,jx lx⟩;have n2:Nl i (X.drop (2^i)):=.inr ⟨i,apu _,jJ lx⟩;have n3:Nl i (Y.take (2^i)):=.inr ⟨i,apu _,jx ly⟩;have n4:Nl i (Y.drop (2^i)):=.inr ⟨i,apu _,jJ ly⟩;have nd:=ht.1 i oz;have cd:=ht.2.cb i;have s1:=oS hm ht (k:=k') (show i<=m by omega) oz n1 n3 cX.take cY.take;have s2:=oS hm ht (k:=k') (show i<=m by omega) oz n2 n4 cX.drop cY.drop;have s3:=oS hm ht (k:=k') (show i<=m by omega) oz s2.1 nd s2.2.2 cd;have s4:=oS hm ht (k:=k') (show i<=m by omega) oz n1 n4 cX.take cY.drop;have s5:=oS hm ht (k:=k') (show i<=m by omega) oz n2 n3 cX.drop cY.take;have SA:=PJ (ts:=ts) (k:=k') (a:=a) (b:=b) rfl (by rw[<- hx,<- hy];exact h0) (by rw[<- hx,<- hy];exact ald);rw[<- hx,<- hy,<- hX,<- hY]at SA;have w1:=zQ x n oz oz;have w2:=zQ y n oz oz;rw[iK,<- hX]at w1;rw[iK,<- hY]at w2;rw[<- iK]at w1 w2;have pw:=xK n oz;rw[show oP n=i+1 by rw[iK];exact(qJ oz).1,show oW n=true by rw[iK];exact(qJ oz).2]at pw;refine gc w1 ?_;refine gc w2 ?_;refine gc pw ?_;refine gs (ib (.tmp rfl) (.const _) oz (show _=((2^i:Nat):Int) by rw[jk oz,iK,iN]) rfl) ?_;refine gs (dZ (.tmp rfl) (.none _) (.some _ (.tmp rfl) oz) T53 rfl T106 rfl oz (by simp only[apr];omega) rfl) ?_;refine gs (ib (.tmp rfl) (.const _) oz (show _=((2^i:Nat):Int) by rw[jk oz,iK,iN]) rfl) ?_;refine gs (dZ (.tmp rfl) (.some _ (.tmp rfl) oz) (.none _) T53 rfl T106 rfl (by simp only[apr];omega) oz rfl) ?_;refine gs (ib (.tmp rfl) (.const _) oz (show _=((2^i:Nat):Int) by rw[jk oz,iK,iN]) rfl) ?_;refine gs (dZ (.tmp rfl) (.none _) (.some _ (.tmp rfl) oz) T53 rfl T106 rfl oz (by simp only[apr];omega) rfl) ?_;refine gs (ib (.tmp rfl) (.const _) oz (show _=((2^i:Nat):Int) by rw[jk oz,iK,iN]) rfl) ?_;refine gs (dZ (.tmp rfl) (.some _ (.tmp rfl) oz) (.none _) T53 rfl T106 rfl (by simp only[apr];omega) oz rfl) ?_;refine gD ?_ (10,0);refine gW (Wk.of (sl:=[pP 3 (.ptr 3 0),pP 7 (i64 n),pP 8 (i64 ((i+1:Nat):Int)),pP 10 (nA (X.take (2^i))),pP 11 (nA (X.drop (2^i))),pP 12 (nA (Y.take (2^i))),pP 13 (nA (Y.drop (2^i)))]) (hp:=[pP 3 (.box [.lst 1 R])]) (.k (.k (.k (.cons rfl (.of (p5 X (2^i))) (.cons rfl (.of (rc X (2^i))) (.cons rfl (.of (p5 Y (2^i))) (.cons rfl (.of (rc Y (2^i))) .nil))))))) (.k .nil)) ?_
 refine gc (ih k' oz i _ _ e f oz oz n1 n3 cX.take cY.take oz) ?_;refine gc (ih k' oz i _ _ e f oz oz n2 n4 cX.drop cY.drop oz) ?_;refine ga (show _=(i:Int) by rw[fu oz];omega) ?_;refine gi (hR i oz) ?_;refine gc (ih k' oz i _ _ _ _ oz oz s2.1 nd s2.2.2 cd oz) ?_;refine gc (BU _ _ (fun q hq=>s1.2.2.qs oz hq) (fun q hq=>s3.2.2.qs oz hq) (by have:=s1.1.le;omega) (by have:=s3.1.le;omega)) ?_;refine gD ?_;refine gc (ih k' oz i _ _ e f oz oz n1 n4 cX.take cY.drop oz) ?_;refine gc (ih k' oz i _ _ e f oz oz n2 n3 cX.drop cY.take oz) ?_;refine gc (BU _ _ (fun q hq=>s4.2.2.qs oz hq) (fun q hq=>s5.2.2.qs oz hq) (by have:=s4.1.le;omega) (by have:=s5.1.le;omega)) ?_;refine gD ?_;refine gs (ib (.tmp rfl) (.const _) oz (show _=((2^i:Nat):Int) by rw[jk oz,iK,iN]) rfl) ?_;refine gt (aK (Ep 900 rfl _ (2^i) (by have:=s1.1.le;have:=s3.1.le;rw[fW];omega) oz) (bO rfl rfl) aL rfl rfl) ?_;refine gs (ib (.tmp rfl) (.const _) oz (show _=((2^i:Nat):Int) by rw[jk oz,iK,iN]) rfl) ?_;refine gc (zQ _ (2^i) (by have:=s4.1.le;have:=s5.1.le;rw[fW];omega) oz) ?_;refine gs (pY (.tmp rfl) rfl (by have:=s1.1.le;have:=s3.1.le;rw[apr,ft (by rw[fW];omega)]) (.tmp rfl) T53 rfl T106 rfl rfl (by have:=s4.1.le;have:=s5.1.le;rw[apr,ft (by rw[fW];omega)];show(2^i+2^i)*56<=140737488355328;omega) rfl rfl) ?_;refine ah ?_;rw[SA,<- ap8];rfl
theorem YM(ts:LL)(m r:Nat)(ht:lg ts m r)(hm:m<=5)(R:List AV)(hR:∀j,j<m->R[j]?=some (nA (ts.getD j [])))(i n:Nat)(a:List Rat)(e:Nat)(hi:i+1<=m)(iK:n=2^(i+1))(bU:a.length=2^(i+1))(ca:Cb e a)(hs:4*e+3*eB r i+r+1<4398046511104) :
  FP 341 [.agg [.lst 1 R],nA a,i64 n] (nA (tJ ts i a)):=by
 have ku:=amf i;have kv:2^i<=32:=cV (b:=5) oz;have qu:2^(i+1)=2*2^i:=by rw[amp];omega
 have n1:Nl i (a.take (2^i)):=.inr ⟨i,apu _,jx bU⟩;have n2:Nl i (a.drop (2^i)):=.inr ⟨i,apu _,jJ bU⟩;have nd:=ht.1 i oz;have cd:=ht.2.cb i;have s1:=oS hm ht (k:=i) (show i<=m by omega) oz n1 n1 ca.take ca.take;have s2:=oS hm ht (k:=i) (show i<=m by omega) oz n2 n2 ca.drop ca.drop;have s3:=oS hm ht (k:=i) (show i<=m by omega) oz s2.1 nd s2.2.2 cd;have w1:=zQ a n oz oz;rw[show bc a n=a by unfold bc;rw[iK,bU];simp]at w1;have pw:=xK n oz;rw[show oP n=i+1 by rw[iK];exact(qJ oz).1,show oW n=true by rw[iK];exact(qJ oz).2]at pw;refine ai func341 ?_;refine gc w1 ?_;refine gc pw ?_;refine gs (ib (.tmp rfl) (.const _) oz (show _=((2^i:Nat):Int) by rw[jk oz,iK,iN]) rfl) ?_;refine gs (dZ (.tmp rfl) (.none _) (.some _ (.tmp rfl) oz) T53 rfl T106 rfl oz (by simp only[apr];omega) rfl) ?_;refine gs (ib (.tmp rfl) (.const _) oz (show _=((2^i:Nat):Int) by rw[jk oz,iK,iN]) rfl) ?_;refine gs (dZ (.tmp rfl) (.some _ (.tmp rfl) oz) (.none _) T53 rfl T106 rfl (by simp only[apr];omega) oz rfl) ?_;refine gD ?_ (4,0);refine gW (Wk.of (sl:=[pP 3 (.ptr 3 0),pP 7 (i64 ((i+1:Nat):Int)),pP 9 (nA (a.take (2^i))),pP 10 (nA (a.drop (2^i)))]) (hp:=[pP 3 (.box [.lst 1 R])]) (.k (.k (.cons rfl (.of (p5 a (2^i))) (.cons rfl (.of (rc a (2^i))) .nil)))) (.k .nil)) ?_;refine gc (Fl ts m r ht hm R hR i i _ _ e e oz oz n1 n1 ca.take ca.take oz) ?_;refine gc (Fl ts m r ht hm R hR i i _ _ e e oz oz n2 n2 ca.drop ca.drop oz) ?_;refine ga (show _=(i:Int) by rw[fu oz];omega) ?_;refine gi (hR i oz) ?_;refine gc (Fl ts m r ht hm R hR i i _ _ _ _ oz oz s2.1 nd s2.2.2 cd oz) ?_;refine gc (KL _ (fun q hq=>s3.2.2.qs oz hq) (by have:=s3.1.le;omega)) ?_;refine gc (BU _ _ (fun q hq=>s1.2.2.qs oz hq) (fun q hq=>s3.2.2.minus.qs oz hq) (by have:=s1.1.le;omega) (by have:=s3.1.le;rw[lc];omega)) ?_;refine gD ?_;refine ah ?_;rfl
theorem NY(ts:LL)(m r:Nat)(ht:lg ts m r)(hm:m<=5)(jR:∀j,j<m->0<=T.sgn (aw ts) j (aw ts j))(R:List AV)(hR:∀j,j<m->R[j]?=some (nA (ts.getD j [])))(j:Nat):∀(a:List Rat)(e:Nat),j<=m->Nl j a->Cb e a->sB r j e<4398046511104 ->
  FP 216 [.agg [.lst 1 R],nA a] (i64 (T.sgn (aw ts) j (af j a))):=by
 induction j using Nat.strongRecOn
 rename_i j ih;intro a e hj ha ca hs;have Sy:=uh r j e;obtain⟨s,nD⟩:∃s,s=sh j (af j a):=⟨_,rfl⟩
 have ph:af j s=af j a:=by rw[nD,bu]
 have mv:Nl j s:=by rw[nD];exact gk j _
 have cs:Cb e s:=by rw[nD];exact ca.sh ha
 have hls:=mv.len5 oz;rw[<- ph];refine ai func216 ?_;refine gc (nD▸EV a oz ha) ?_;refine gl ?_;refine gC (fun z=>?_) (fun z=>?_)
 ·have h1 : s=[] := an1.1 (by have := z;simp only[aa,beq_iff_eq]at this;omega);refine ah ?_;rw[h1,jM,T.sgn_zero];rfl
 have h1:s.length≠0:=by have:=z;simp only[aa,beq_eq_false_iff_ne,ne_eq]at this;omega
 refine gl ?_;refine gC (fun z=>?_) (fun z=>?_)
 ·have h2 : s.length = 1 := by have := z; simp only [aa, beq_iff_eq] at this; omega
  obtain⟨q,rfl⟩:=an7.1 h2;refine gi rfl ?_;refine gc (GO (rt q) (cs.qs oz (by simp:q∈[q])).ok) ?_;refine ah ?_;rw[oF,T.sgn_ofQ,bN]
 have h2:s.length≠1:=by have:=z;simp only[aa,beq_eq_false_iff_ne,ne_eq]at this;omega
 obtain⟨i,ek,dD⟩:∃i,i+1<=j/\s.length=2^(i+1):=by
  rcases tA mv with h |h |h
  ·exact ard h h1
  ·exact ard h h2
  ·exact h
 have ku:=amf i;have kv:2^i<=32:=cV (b:=5) oz;have qu:2^(i+1)=2*2^i:=by rw[amp];omega
 have n1:Nl i (s.take (2^i)):=.inr ⟨i,apu _,jx dD⟩;have n2:Nl i (s.drop (2^i)):=.inr ⟨i,apu _,jJ dD⟩;have nd:=ht.1 i oz;have cd:=ht.2.cb i;obtain⟨nn,dn,cn⟩:=ahb hm ht oz dD cs;have b1:sB r i (4*e+3*eB r i+r+1)<=sB r j e:=xO r e ek;have b2:sB r i e<=sB r i (4*e+3*eB r i+r+1):=tz r i oz;have b3:sB r i r<=sB r i (4*e+3*eB r i+r+1):=tz r i oz;have b4:=uh r i (4*e+3*eB r i+r+1);have k1:=ih i oz (s.take (2^i)) e oz n1 cs.take oz;have k2:=ih i oz (s.drop (2^i)) e oz n2 cs.drop oz;have k3:=ih i oz _ r oz nd cd oz;have k4:=ih i oz _ _ oz nn cn oz
 have v3:T.sgn (aw ts) i (af i (ts.getD i []))=0\/T.sgn (aw ts) i (af i (ts.getD i []))=1:=by
  have h9:0<=T.sgn (aw ts) i (af i (ts.getD i [])):=jR i oz;have:=T.sgn_cases (aw ts) i (af i (ts.getD i []));omega
 have mo:T.sgn (aw ts) j (af j s)=T.sgn3 (T.sgn (aw ts) i (af i (s.take (2^i)))) (T.sgn (aw ts) i (af i (s.drop (2^i)))) (T.sgn (aw ts) i (af i (ts.getD i []))) (T.sgn (aw ts) i (af i (tJ ts i s))):=by
  rw[yN _ oz ek,dn];rfl
 rw[XC v3]at mo;have v1:=T.sgn_cases (aw ts) i (af i (s.take (2^i)));have v2:=T.sgn_cases (aw ts) i (af i (s.drop (2^i)));have v4:=T.sgn_cases (aw ts) i (af i (tJ ts i s));have pw:=xK s.length oz;rw[show oP s.length=i+1 by rw[dD];exact(qJ oz).1,show oW s.length=true by rw[dD];exact(qJ oz).2]at pw;refine gc pw ?_;refine ga (show _=(i:Int) by rw[fu oz];omega) ?_;refine gi (hR i oz) ?_;refine gs (ib (.tmp rfl) (.const _) oz (show _=((2^i:Nat):Int) by rw[jk oz,dD,iN]) rfl) ?_;refine gs (dZ (.tmp rfl) (.none _) (.some _ (.tmp rfl) oz) T53 rfl T106 rfl oz (by simp only[apr];omega) rfl) ?_;refine gc (by have h9:=k1;rw[<- p5]at h9;exact h9) ?_;refine gs (ib (.tmp rfl) (.const _) oz (show _=((2^i:Nat):Int) by rw[jk oz,dD,iN]) rfl) ?_;refine gs (dZ (.tmp rfl) (.some _ (.tmp rfl) oz) (.none _) T53 rfl T106 rfl (by simp only[apr];omega) oz rfl) ?_;refine gc (by have h9:=k2;rw[<- rc]at h9;exact h9) ?_;refine gc k3 ?_;refine ga (Ef v2 (.inr v3)) ?_;refine gD ?_;refine gC (fun z=>?_) (fun z=>?_)
 ·have e2:=EE z;refine ah ?_;rw[mo,aq7 e2]
 have e2:=Il z;refine gC (fun z=>?_) (fun z=>?_)
 ·have e3 : T.sgn (aw ts) i (af i (s.take (2 ^ i))) = 0 := by simpa [aa] using z
  refine ah ?_;rw[mo,aq6 e2,aq7 e3];rfl
 have e3:¬T.sgn (aw ts) i (af i (s.take (2^i)))=0:=by simpa[aa]using z
 refine gc (YM ts m r ht hm R hR i s.length s e oz dD dD cs oz) ?_;refine gc k4 ?_;refine ga (Ef v1 v4) ?_;refine gD ?_;refine ah ?_;rw[mo,aq6 e2,aq6 e3];rfl
theorem Lj(rs:List (List Rt))(r:Nat)(h:TR rs r):FP 107 [dU rs] (i64 (bS rs)):=by
 have kW:=h.ll;have hr:=h.le;refine ai func107 ?_;refine gl ?_;refine gC (fun z=>?_) (fun z=>?_)
 ·have h5 : 5 < rs.length := by have := z; simp only [aa, aq8] at this; omega
  refine ah ?_;rw[OE h5];rfl
 have h5:rs.length<=5:=by have:=z;simp only[aa,decide_eq_false_iff_not]at this;omega
 refine gl ?_;refine aS [1,11,12] [1] (fun(k:Nat)=>[pP 13 (i64 k)]) (fun _=>[]) (fun k=>k<=rs.length/\∀j,j<k->kZ rs j) (fun k=>rs.length-k) 0 ⟨apx _,fun j hj=>by omega⟩ ?_;rintro k ⟨hk,hj⟩ K1 J1;refine gC (fun z=>?_) (fun z=>?_)
 ·have ae : k < rs.length := by simpa [aa] using z
  obtain⟨d,hd⟩:=ay ae;have uX:=apo hd;have tg:=h.len d uX;refine gi (aA hd) ?_;refine gl ?_;refine gs (kH (.const _) (.tmp rfl) oz (uf oz) rfl) ?_;refine gC (fun z=>?_) (fun z=>?_)
  ·have h1 : d.length ≠ 2 ^ k := by have := z; simp only [aa, bne_iff_ne, ne_eq] at this; omega
   refine ah ?_;rw[Kn h5 hd hj h1];rfl
  have h1:d.length=2^k:=by have:=z;simp only[aa,bne_eq_false_iff_eq]at this;omega
  have D0:=LO k oz d (h.ok d uX) tg;refine gc D0 ?_;refine gC (fun z=>?_) (fun z=>?_)
  ·have h2:=oR z;refine ah ?_;rw[NE h5 hd hj h1 h2]
  have h2:=oh z;have nB:=KV (ts:=llq rs) (fun j il=>(hj j il).nl) h.rb;have hq:=BE h2 (h.ok d uX);have tc:Cb r (lq d):=by have:=h.rb.cb k;rw[yg,apq,hd]at this;exact this
  have io:FP 216 [dU rs,nR d] (i64 (T.sgn (aw (llq rs)) k (af k (lq d)))):=by
   have h9:=NY ((llq rs).take k) k r nB oz (fun j il=>by rw[T.sgn_congr j (fun i hi=>vo (show i<k by omega)),vo il];exact(hj j il).2.2) (rs.map nR) (fun j il=>TJ h.ok (show k<=rs.length by omega) hj il) k (lq d) r (apu _) hq.2 tc (sE (apu k) (by have:=h.three;omega) hr (by have:=mD k;omega));rw[T.sgn_congr k (fun j il=>vo il)]at h9;rw[hq.1,gh];rw[<- hq.1];exact h9
  refine gc io ?_;refine gC (fun z=>?_) (fun z=>?_)
  ·have h3 : T.sgn (aw (llq rs)) k (af k (lq d)) < 0 := by simpa [aa] using z
   refine ah ?_;rw[L1 h5 hd hj h1 h2 h3];rfl
  have h3:¬T.sgn (aw (llq rs)) k (af k (lq d))<0:=by simpa[aa]using z
  refine ga aN ?_;exact aM J1 (k+1) ⟨ae,fun j il=>by rcases apz j k with h9 |h9;exact hj j h9;(have:j=k:=by omega);subst this;exact KQ hd h1 h2 h3⟩
 have ae:k=rs.length:=by have:rs.length<=k:=(by simpa[aa]using z);omega
 subst ae;refine ah ?_;rw[MJ h5 hj];rfl
theorem Ul(rs:List (List Rt))(r:Nat)(h:TR rs r)(xs:List (List Rt))(hx:∀a∈xs,(∀x∈a,x.ok)/\a.length<=281474976710656)(hl:xs.length<=281474976710656):FP 217 [dU rs,.lst 1 (xs.map nR)] (i64 (bY rs xs)):=by
 refine ai func217 ?_;refine gc (Lj rs r h) ?_;refine gC (fun z=>?_) (fun z=>?_)
 ·have h1:=oR z;refine ah ?_;rw[Ma h1]
 have h1:=oh z;have h5:rs.length<=5:=by have:=(d9 h h1).1.five;rwa [apr]at this
 refine gl ?_;refine aS [2,14,15] [2] (fun(i:Nat)=>[pP 16 (i64 i)]) (fun _=>[]) (fun i=>i<=xs.length/\∀x∈xs.take i,de rs.length x=0) (fun i=>xs.length-i) 0 ⟨apx _,fun x hx=>by simp at hx⟩ ?_;rintro i ⟨hi,hj⟩ K1 J1;refine gC (fun z=>?_) (fun z=>?_)
 ·have ae : i < xs.length := by simpa [aa] using z
  obtain⟨a,ha⟩:=ay ae;have cT:=hx a (apo ha);refine gi (aA ha) ?_;refine gl ?_;refine gc (LO rs.length h5 a cT.1 cT.2) ?_;refine gC (fun z=>?_) (fun z=>?_)
  ·have h2:=oR z;refine ah ?_;rw[Ia h1 ha hj h2]
  have h2:=oh z;refine ga aN ?_;exact aM J1 (i+1) ⟨ae,fun x hx=>by rw[dJ ha]at hx;rcases ap2.1 hx with h9 |h9;exact hj x h9;(rw[am8.1 h9];exact h2)⟩
 have ae:i=xs.length:=by have:xs.length<=i:=(by simpa[aa]using z);omega
 subst ae;rw[ap5]at hj;refine ah ?_;rw[z8 h1 hj];rfl
theorem adm(rs:List (List Rt))(r:Nat)(h:TR rs r)(a b:List Rt)(e f:Nat)(ha:NR a e)(hb:NR b f)(he:e+f+1<=lm rs.length) :
  FP 136 [dU rs,nR a,nR b] (.tup [i64 (if bY rs [a,b]=0 then T.sgn (aw (llq rs)) rs.length (T.add rs.length (af rs.length (lq a)) (T.neg rs.length (af rs.length (lq b))))else 0),i64 (bY rs [a,b])]):=by
 have hr:=h.le;have dp:=oO rs.length;refine ai func136 ?_;refine gc (Ul rs r h [a,b] (wE ha hb) (by simp)) ?_;refine gC (fun z=>?_) (fun z=>?_) (st2:=(77777,0))
 ·have h1:=oR z;refine bK ?_;rw[aq6 h1];rfl
 have h1:=oh z;obtain⟨h2,h3⟩:=sV h1;obtain⟨tw,e0⟩:=d9 h h2;obtain⟨e1,na⟩:=ha.num (h3 a (by simp));obtain⟨e2,nb⟩:=hb.num (h3 b (by simp));have bV:(llq rs).length=rs.length:=apr _;have h5:rs.length<=5:=by have:=tw.five;omega
 have ns:=na.len5 h5;have eY:=nb.len5 h5;have nE:=tw.ok;rw[bV]at nE;have qa:∀q∈lq a,Qs q:=fun q hq=>ha.cb.qs oz hq
 have qb:∀q∈lq b,Qs q:=fun q hq=>hb.cb.qs oz hq
 have qm:∀q∈dQ (lq b),Qs q:=fun q hq=>hb.cb.minus.qs oz hq
 have np:=tv na (sM nb);have io:=NY (llq rs) rs.length r nE h5 (fun j hj=>tw.pos j oz) ((llq rs).map nA) (fun j hj=>B7 oz) rs.length _ _ (apu _) np (ha.cb.plus hb.cb.minus) (sE (apu rs.length) (by have:=tw.three;omega) hr oz);refine gW (Wk.of (sl:=[pP 1 (nA (lq a)),pP 2 (nA (lq b)),pP 3 (.ptr 3 0),pP 8 (i64 (bY rs [a,b]))]) (hp:=[pP 3 (.box [.lst 1 ((llq rs).map nA)])]) (.cons rfl (.of e1) (.cons rfl (.of e2) (.k (.k .nil)))) (.cons rfl (BlkSub.bL (.cons (.of (rg e0)) .nil) rfl) .nil)) ?_;refine gc (KL _ qb oz) ?_;refine gc (BU _ _ qa qm oz (by rw[lc];omega)) ?_;refine gc io ?_;refine gD ?_;refine bK ?_;rw[aq7 h1,h1,l6,qf];rfl
theorem Gl{p q:Rat}(hp:Qs p)(hq:Qs q):FP 172 [qA p,qA q] (qA (p+q)):=by
 have h:=sH (rt p) (rt q) hp.ok hq.ok;rw[bN,bN]at h;exact h
theorem Bp{p q:Rat}(hp:Qs p)(hq:Qs q):FP 330 [qA p,qA q] (qA (p-q)):=by
 have h:=ab5 (rt p) (rt q) hp.ok hq.ok;rw[bN,bN]at h;exact h
theorem zN{p q:Rat}(hp:Qs p)(hq:Qs q):FP 337 [qA p,qA q] (qA (p*q)):=by
 have h:=Rq (rt p) (rt q) hp.ok hq.ok;rw[bN,bN]at h;exact h
theorem ai4{p q:Rat}(hp:Qs p)(hq:Qs q):FP 361 [qA p,qA q] (.tup [qA (p/q),bG (if q=0 then 8 else 0)]):=by
 have h:=OD (rt p) (rt q) hp.ok hq.ok;rw[bN,bN]at h;exact h
theorem TM{p:Rat}(hp:Qs p):FP 79 [qA p] (qA (-p)):=by
 have h:=xt (rt p) hp.ok;rw[bN]at h;exact h
theorem agc{p:Rat}(hp:Qs p):FP 179 [qA p] (i64 (ci p)):=by
 have h:=CR (rt p) hp.ok;rw[bN]at h;exact h
theorem zI(x:Tn)(hx:x.t.ok):FP 84 [x.av] (bG x.err):=by
 refine ai func84 ?_;refine gc (yB x.t hx) ?_;refine bT (fun _=>(CR x.t hx)) ?_;refine gC (fun z=>?_) (fun z=>?_)
 ·have h0:=Tn.err_yes z;refine ah ?_;rw[h0];rfl
 have h0:=Tn.err_no z;refine ah ?_;rw[h0];rfl
theorem QR{p q:Rat}(hp:Qs p)(hq:Qs q):FP 448 [qA p,qA q] (qA (p/q)):=by
 refine ai func448 ?_;refine gc (ai4 hp hq) ?_;refine gC (fun t14=>?_) (fun t14=>?_)
 ·have h0:q=0:=by
   have:=ef t14
   by_cases h:q=0
   ·exact h
   ·rw[aq6 h]at this;exact ard rfl this
  refine gR ?_;exact o7 (by rw[h0,ajr];exact mV)
 refine ah ?_;rfl
theorem QI(half:Bool){t:Rat}{e:Nat}(ht:Qb e t)(he:e<=1000000):FP 400 [Tn.av ⟨rt t,half⟩] (.tup [qA (dT half t),qA (dV half t)]):=by
 have qt:Qs t:=ht.qs oz;have m2:=ht.mul ht;have one:Qb 1 (((1:Int):Rat)):=Qb.one;have d:=one.add m2;refine ai func400 ?_;refine gC (fun z=>?_) (fun z=>?_)
 ·have h0:half=true:=z;refine gc (oQ (-1) oz) ?_;refine gR ?_;exact fv (by subst h0;exact Sub.tup (.cons (.refl _) (.cons mV .nil)))
 have h0:half=false:=z;refine gc (oQ 1 oz) ?_;refine gc (zN qt qt) ?_;refine gD ?_;refine gc (Gl (one.qs oz) (m2.qs oz)) ?_;refine gc (Bp (one.qs oz) (m2.qs oz)) ?_;refine gc (QR ((one.sub m2).qs oz) (d.qs oz)) ?_;refine gc (Gl qt qt) ?_;refine gc (QR ((ht.add ht).qs oz) (d.qs oz)) ?_;refine gD ?_;refine bK ?_;subst h0;rfl
theorem Fi(x:Tn)(hx:x.t.ok){e:Nat}(hq:Qb e x.t.q)(he:e<=1000000):FP 314 [x.av] (.tup [qA (if x.err=0 then dT x.half x.t.q else 0),bG x.err]):=by
 refine ai func314 ?_;refine gc (zI x hx) ?_;refine gC (fun z=>?_) (fun z=>?_)
 ·have h1:=ef z;refine gR ?_;exact fv (by rw[aq6 h1];exact Sub.tup (.cons mV (.cons (.refl _) .nil)))
 have h1:=dS z;have hd:=QI x.half hq he;rw[<- Rt.eq_rt hx (Tn.ok_valid h1)]at hd;refine gc hd ?_;refine bK ?_;rw[aq7 h1,h1];rfl
theorem Qn(x:Tn)(hx:x.t.ok){e:Nat}(hq:Qb e x.t.q)(he:e<=1000000):FP 315 [x.av] (.tup [qA (if x.err=0 then dV x.half x.t.q else 0),bG x.err]):=by
 refine ai func315 ?_;refine gc (zI x hx) ?_;refine gC (fun z=>?_) (fun z=>?_)
 ·have h1:=ef z;refine gR ?_;exact fv (by rw[aq6 h1];exact Sub.tup (.cons mV (.cons (.refl _) .nil)))
 have h1:=dS z;have hd:=QI x.half hq he;rw[<- Rt.eq_rt hx (Tn.ok_valid h1)]at hd;refine gc hd ?_;refine bK ?_;rw[aq7 h1,h1];rfl
theorem afz(x:Tn)(hx:x.t.ok):FP 81 [x.av] (i64 x.err):=by
 refine ai func81 ?_;refine gc (xB x.t hx) ?_;refine bT (fun _=>(GO x.t hx)) ?_;refine gC (fun z=>?_) (fun z=>?_)
 ·have h0:=Tn.err_yes z;refine ah ?_;rw[h0];rfl
 have h0:=Tn.err_no z;refine ah ?_;rw[h0];rfl
theorem F7{ts:LL}{r e f:Nat}(tw:Tw ts r){a b:List Rat}(ha:Nm ts.length e a)(hb:Nm ts.length f b)(he:e+f<=lm ts.length) :
  FP 250 [aZ ts,nA a,nA b] (.tup [nA (sh ts.length (T.add ts.length (af ts.length a) (af ts.length b))),.v .nilIface]):=by
 have h:=UN (ts.map (List.map rt)) r tw.tr (a.map rt) (b.map rt) e f (ha.rt oz) (hb.rt oz) (by rw[apr];exact he);have h0:bY (ts.map (List.map rt)) [a.map rt,b.map rt]=0:=vt tw ha hb;rw[h0,aq7 rfl,lM,gh,gh,fQ,fQ,apr]at h;exact h
theorem tR{ts:LL}{r e f:Nat}(tw:Tw ts r){a b:List Rat}(ha:Nm ts.length e a)(hb:Nm ts.length f b)(he:e+f<=lm ts.length) :
  FP 209 [aZ ts,nA a,nA b] (.tup [nA (sh ts.length (T.add ts.length (af ts.length a) (T.neg ts.length (af ts.length b)))),.v .nilIface]):=by
 have h:=Ya (ts.map (List.map rt)) r tw.tr (a.map rt) (b.map rt) e f (ha.rt oz) (hb.rt oz) (by rw[apr];exact he);have h0:bY (ts.map (List.map rt)) [a.map rt,b.map rt]=0:=vt tw ha hb;rw[h0,aq7 rfl,lM,gh,gh,fQ,fQ,apr]at h;exact h
theorem G2{ts:LL}{r e f:Nat}(tw:Tw ts r){a b:List Rat}(ha:Nm ts.length e a)(hb:Nm ts.length f b)(he:e+f<=lm ts.length) :
  FP 210 [aZ ts,nA a,nA b] (.tup [nA (sh ts.length (T.mul (aw ts) ts.length (af ts.length a) (af ts.length b))),.v .nilIface]):=by
 have h:=aaq (ts.map (List.map rt)) r tw.tr (a.map rt) (b.map rt) e f (ha.rt oz) (hb.rt oz) (by rw[apr];exact he);have h0:bY (ts.map (List.map rt)) [a.map rt,b.map rt]=0:=vt tw ha hb;rw[h0,aq7 rfl,lM,gh,gh,tt,fQ,fQ,apr]at h;exact h
theorem Ij{ts:LL}{r e f:Nat}(tw:Tw ts r){a b:List Rat}(ha:Nm ts.length e a)(hb:Nm ts.length f b)(he:e+f+1<=lm ts.length) :
  FP 399 [aZ ts,nA a,nA b] (.tup [i64 (T.sgn (aw ts) ts.length (T.add ts.length (af ts.length a) (T.neg ts.length (af ts.length b)))),.v .nilIface]):=by
 have h:=ag3 (ts.map (List.map rt)) r tw.tr (a.map rt) (b.map rt) e f (ha.rt oz) (hb.rt oz) (by rw[apr];exact he);have h0:bY (ts.map (List.map rt)) [a.map rt,b.map rt]=0:=vt tw ha hb;rw[h0,aq7 rfl,lM,gh,gh,tt,fQ,fQ,apr]at h;exact h
theorem By{ts:LL}{r e:Nat}(tw:Tw ts r){a:List Rat}(ha:Nm ts.length e a)(he:e<=lm ts.length) :
  FP 87 [aZ ts,nA a] (.tup [i64 (T.sgn (aw ts) ts.length (af ts.length a)),.v .nilIface]):=by
 have h:=Z9 (ts.map (List.map rt)) r tw.tr (a.map rt) e (ha.rt he) (by rw[apr];exact he);have h0:bY (ts.map (List.map rt)) [a.map rt]=0:=FE tw ha;rw[h0,aq7 rfl,lM,gh,tt,fQ,apr]at h;exact h
theorem ail{ts:LL}{r e f:Nat}(tw:Tw ts r){a b:List Rat}(ha:Nm ts.length e a)(hb:Nm ts.length f b)(he:e+f+1<=lm ts.length) :
  FP 136 [aZ ts,nA a,nA b] (.tup [i64 (T.sgn (aw ts) ts.length (T.add ts.length (af ts.length a) (T.neg ts.length (af ts.length b)))),i64 0]):=by
 have h:=adm (ts.map (List.map rt)) r tw.tr (a.map rt) (b.map rt) e f (ha.rt oz) (hb.rt oz) (by rw[apr];exact he);have h0:bY (ts.map (List.map rt)) [a.map rt,b.map rt]=0:=vt tw ha hb;rw[h0,aq7 rfl,lM,gh,gh,tt,fQ,fQ,apr]at h;exact h
theorem F6{ts:LL}{r e:Nat}(tw:Tw ts r){a:List Rat}(ha:Nm ts.length e a)(he:e<=lm ts.length) :
  FP 128 [aZ ts,nA a] (.tup [nA (sh ts.length (T.neg ts.length (af ts.length a))),.v .nilIface]):=by
 have h:=Qj (ts.map (List.map rt)) r tw.tr (a.map rt) e (ha.rt he) (by rw[apr];exact he);have h0:bY (ts.map (List.map rt)) [a.map rt]=0:=FE tw ha;rw[h0,aq7 rfl,lM,gh,fQ,apr]at h;exact h
theorem aec{ts:LL}{r:Nat}(tw:Tw ts r):FP 138 [aZ ts] (.v .nilIface):=by
 have h:=wB (ts.map (List.map rt)) r tw.tr;rw[tw.chk,lM]at h;exact h
theorem qI{q:Rat}(h:Qs q):FP 115 [qA q] (nA (sh 0 (q:Rat))):=by
 have h1:=Wi (rt q) h.ok (by rw[bN];exact h);rw[bN]at h1;exact h1
theorem BK{ts:LL}{r e:Nat}(tw:Tw ts r)(ls:LL)(hl:∀l∈ls,Nm ts.length e l)(he:e<=lm ts.length)(hn:ls.length<=1000):FP 264 [aZ ts,.lst 1 (ls.map nA)] (.v .nilIface):=by
 refine ai func264 ?_;refine gc (aec tw) ?_;refine gf ?_;refine gl ?_;refine aS [2,15,16] [2] (fun(i:Nat)=>[pP 17 (i64 i)]) (fun _=>[]) (fun i=>i<=ls.length) (fun i=>ls.length-i) 0 (apx _) ?_;rintro i hi K1 J1;refine gC (fun z=>?_) (fun z=>?_)
 ·have ae : i < ls.length := by simpa [aa] using z
  obtain⟨l,kW⟩:=ay ae;have cT:=hl l (apo kW);refine gi (aA kW) ?_;refine gc (F6 tw cT he) ?_;refine gf ?_;refine ga aN ?_;exact aM J1 (i+1) ae
 have ae:i=ls.length:=by have:ls.length<=i:=(by simpa[aa]using z);omega
 refine ah ?_
 first |rfl |(simp;done)
theorem uu{ts:LL}{r e:Nat}(tw:Tw ts r)(ps:List (List Rat×List Rat))(hl:∀p∈ps,Nm ts.length e p.1/\Nm ts.length e p.2)(he:e<=lm ts.length)(hn:ps.length<=500):FP 204 [aZ ts,.lst 2 (ps.map fun p=>aR p.1 p.2)] (.v .nilIface):=by
 refine ai func204 ?_;refine gl ?_;refine gW (Wk.virt 900 1 rfl) ?_;refine aS [2,8,9] [2] (fun(i:Nat)=>[pP 5 (.ms 900 1 0 (2*i)),pP 10 (i64 i)]) (fun i=>[pP 900 (.row 1 ((lX (ps.take i)).map nA))]) (fun i=>i<=ps.length) (fun i=>ps.length-i) 0 (apx _) ?_;rintro i hi K1 J1;refine gC (fun z=>?_) (fun z=>?_) (st2:=(7,0))
 ·have ae : i < ps.length := by simpa [aa] using z
  obtain⟨p,hp⟩:=ay ae;have DO:(lX (ps.take i)).length=2*i:=by rw[BB,ap7];omega
  refine gi (aA hp) ?_;refine gs (cF (.tmp rfl) rfl (by rw[apr,DO]) (.tmp rfl) T42 rfl T53 rfl rfl (by simp;omega) rfl rfl) ?_ (6,0);refine gW (Wk.of (sl:=[pP 2 (.ptr 2 0),pP 5 (.ms 20 1 0 (2*i+2)),pP 8 (.lst 2 (ps.map fun p=>aR p.1 p.2)),pP 9 (i64 ps.length),pP 10 (i64 i)]) (hp:=[pP 2 (.box [.lst 1 (ts.map nA)]),pP 20 (.row 1 ((lX (ps.take (i+1))).map nA))]) a6 (.k (.cons rfl (.of (by rw[dJ hp,Od,ap8];rfl)) .nil))) ?_ (6,0);refine gW (Wk.rk (k:=20) (d:=900) rfl rfl) ?_;refine ga aN ?_;exact aM J1 (i+1) ae
 have ae:i=ps.length:=by have:ps.length<=i:=(by simpa[aa]using z);omega
 subst ae;refine gW ((Wk.freeze (k:=900) rfl).trans<|Wk.of (sl:=[pP 2 (.ptr 2 0),pP 5 (.lst 1 ((lX ps).map nA))]) (hp:=[pP 2 (.box [.lst 1 (ts.map nA)])]) (.k (.cons rfl (.of (by rw[b8 (by rw[apr,BB,ap7];omega),ap5])) .nil)) (.k .nil)) ?_;refine gc (BK tw (lX ps) (LG hl) he (by rw[BB];omega)) ?_;refine ah ?_
 first |rfl |(simp;done)
theorem Ey(R:List AV)(a:List Rat):Con prog 413 [.ptr 1000 0,nA a,.v .nilIface] [pP 1000 (.box [.lst 1 R,.v .nilIface])] (nA a) [pP 1000 (.box [.lst 1 R,.v .nilIface])]:=by
 refine gF func413 (fun k z h=>bX h) ?_;refine gC (fun y=>?_) (fun y=>?_) (st2:=(77777,0))
 ·refine gR ?_;exact aD.keep (bB rfl)
 cases y
theorem C8{ts:LL}{r e f:Nat}(tw:Tw ts r){a b:List Rat}(ha:Nm ts.length e a)(hb:Nm ts.length f b)(he:e+f<=lm ts.length) :
  Con prog 336 [.ptr 1000 0,nA a,nA b] [pP 1000 (jD ts)] (nA (sh ts.length (T.add ts.length (af ts.length a) (af ts.length b)))) [pP 1000 (jD ts)]:=by
 refine gF func336 (fun k z h=>bX h) ?_;refine gc (F7 tw ha hb he) ?_;refine gt (aK (Ey _ _) (aO rfl rfl rfl) aL rfl rfl) ?_;refine gR ?_;exact aD.keep (bB rfl)
theorem B5{ts:LL}{r e f:Nat}(tw:Tw ts r){a b:List Rat}(ha:Nm ts.length e a)(hb:Nm ts.length f b)(he:e+f<=lm ts.length) :
  Con prog 331 [.ptr 1000 0,nA a,nA b] [pP 1000 (jD ts)] (nA (sh ts.length (T.add ts.length (af ts.length a) (T.neg ts.length (af ts.length b))))) [pP 1000 (jD ts)]:=by
 refine gF func331 (fun k z h=>bX h) ?_;refine gc (tR tw ha hb he) ?_;refine gt (aK (Ey _ _) (aO rfl rfl rfl) aL rfl rfl) ?_;refine gR ?_;exact aD.keep (bB rfl)
theorem pS{ts:LL}{r e f:Nat}(tw:Tw ts r){a b:List Rat}(ha:Nm ts.length e a)(hb:Nm ts.length f b)(he:e+f<=lm ts.length) :
  Con prog 333 [.ptr 1000 0,nA a,nA b] [pP 1000 (jD ts)] (nA (sh ts.length (T.mul (aw ts) ts.length (af ts.length a) (af ts.length b)))) [pP 1000 (jD ts)]:=by
 refine gF func333 (fun k z h=>bX h) ?_;refine gc (G2 tw ha hb he) ?_;refine gt (aK (Ey _ _) (aO rfl rfl rfl) aL rfl rfl) ?_;refine gR ?_;exact aD.keep (bB rfl)
theorem NB{ts:LL}{r e f:Nat}(tw:Tw ts r){a b c d:List Rat}(ha:Nm ts.length e a)(hb:Nm ts.length e b)(hc:Nm ts.length f c)(hd:Nm ts.length f d)(he:2*(e+f+kB r ts.length)<=lm ts.length) :
  Con prog 211 [.ptr 1000 0,aR a b,aR c d] [pP 1000 (jD ts)] (nA (sh ts.length (ua ts (af ts.length a) (af ts.length b) (af ts.length c) (af ts.length d)))) [pP 1000 (jD ts)]:=by
 refine gF func211 (fun k z h=>bX h) ?_;refine gt (aK (pS tw ha hc oz) (aO rfl rfl rfl) aL rfl rfl) ?_;refine gt (aK (pS tw hb hd oz) (aO rfl rfl rfl) aL rfl rfl) ?_;refine gt (aK (EJ▸C8 tw (ha.mul tw rfl hc) (hb.mul tw rfl hd) oz) (aO rfl rfl rfl) aL rfl rfl) ?_;refine gD ?_;refine gR ?_;exact aD.keep (bB rfl)
theorem PR{ts:LL}{r e f:Nat}(tw:Tw ts r){a b c d:List Rat}(ha:Nm ts.length e a)(hb:Nm ts.length e b)(hc:Nm ts.length f c)(hd:Nm ts.length f d)(he:2*(e+f+kB r ts.length)<=lm ts.length) :
  Con prog 208 [.ptr 1000 0,aR a b,aR c d] [pP 1000 (jD ts)] (nA (sh ts.length (sw ts (af ts.length a) (af ts.length b) (af ts.length c) (af ts.length d)))) [pP 1000 (jD ts)]:=by
 refine gF func208 (fun k z h=>bX h) ?_;refine gt (aK (pS tw ha hd oz) (aO rfl rfl rfl) aL rfl rfl) ?_;refine gt (aK (pS tw hb hc oz) (aO rfl rfl rfl) aL rfl rfl) ?_;refine gt (aK (EW▸B5 tw (ha.mul tw rfl hd) (hb.mul tw rfl hc) oz) (aO rfl rfl rfl) aL rfl rfl) ?_;refine gD ?_;refine gR ?_;exact aD.keep (bB rfl)
def T.inv(r:(k:Nat)->T k):(k:Nat)->T k->T k
  |0,q=>(1:Rat)/q
  |k+1,x =>
    if T.isZ k x.2=true then(T.inv r k x.1,T.zero k)
    else if T.sgn r k (T.norm r k x)=0 then(T.inv r k (T.add k x.1 x.1),T.zero k)
    else(T.mul r k x.1 (T.inv r k (T.norm r k x)),T.mul r k (T.neg k x.2) (T.inv r k (T.norm r k x)))
theorem T.inv_low(r:(k:Nat)->T k)(k:Nat)(x:T k):T.inv r (k+1) (x,T.zero k)=(T.inv r k x,T.zero k):=by
 have h:=(T.isZ_iff k (T.zero k)).2 rfl
 conv=>lhs;unfold T.inv
 simp only[aq7 h]
theorem Cm(r:(k:Nat)->T k){i j:Nat}{s L:List Rat}(hs:s.length<=2^i)(hL:L.length<=2^i)(h:af i L=T.inv r i (af i s))(ek:i<=j):af j L=T.inv r j (af j s):=by
  induction j with
  | zero => have : i = 0 := by omega
            subst this;exact h
  |succ j ih =>
    by_cases h':i=j+1
    · rw[<- h'];exact h
    · rw[jL (aqe hs (cV oz)),jL (aqe hL (cV oz)),T.inv_low,ih oz]
def iB(r:Nat):Nat->Nat->Nat
  |0,e=>e
  |j+1,e=>e+iB r j (4*e+3*eB r j+r+1)+eB r (j+1)
theorem GM(r:Nat):∀j e,e<=iB r j e
 |0,e=>apu _
 |j+1,e=>by simp only[iB];omega
theorem AQ(r:Nat):∀j {e f:Nat},e<=f->iB r j e<=iB r j f
 |0,e,f,h=>h
 |j+1,e,f,h=>by
  have:=AQ r j (e:=4*e+3*eB r j+r+1) (f:=4*f+3*eB r j+r+1) oz;simp only[iB];omega
theorem ah8(r j e:Nat):iB r j e<=iB r (j+1) e:=by
 have:=AQ r j (e:=e) (f:=4*e+3*eB r j+r+1) oz;simp only[iB];omega
theorem Gp(r e:Nat){i j:Nat}(h:i<=j):iB r i e<=iB r j e:=by
  induction j with
  | zero => have : i = 0 := by omega
            subst this;exact apu _
  |succ j ih =>
    by_cases ek:i=j+1
    · rw[ek];exact apu _
    · exact aqe (ih oz) (ah8 r j e)
theorem ahz(r e:Nat){j:Nat}(h:j<=1):iB r j e<=5*e+2*eB r j:=by
 match j,h with
 |0,_=>simp only[iB,eB];omega
 |1,_=>simp only[iB,eB];omega
theorem Oq{r:(k:Nat)->T k}{n:Nat}(h:Sg (E r n) (sg r n))(hd:0<=sg r n (b7 r n)){x y:E r n}(hz:sg r (n+1) (cc x y)≠0)(hN:sg r n (a8 x y)=0):sg r n (x+x)≠0:=by
 have hx:sg r n x≠0:=by
  intro hx;rw[oV,hN,hx]at hz;have h1:sg r n (x*x)=0:=by rw[h.mul,hx];simp
  have h2:=h.zadd (y:=-(y*y*b7 r n)) h1;unfold a8 at hN;rw[h2,h.neg,h.mul,h.mul]at hN;unfold T.sgn3 at hz;have c1:=h.cs y;have c2:=h.cs (b7 r n);rcases c1 with e |e |e <;> rcases c2 with e' |e' |e' <;> rw[e,e']at hN <;> rw[e,e']at hz <;> first |omega |(simp at hz) |(simp at hN)
 rcases h.cs x with e |e |e
 ·have := h.padd (x := -x) (y := -x) (by rw[h.neg,e];rfl) (by rw[h.neg,e];decide);rw[show -x+-x=-(x+x) by grind,h.neg]at this;omega
 ·exact ard e hx
 ·have:=h.padd (x:=x) (y:=x) e oz;omega
theorem Cb.inv1{e:Nat}{q:Rat}(h:Cb e [q])(hq:q≠0):Cb e [(1:Rat)/q]:=by
 obtain⟨D,N,⟨h0,h1⟩,h2,h3⟩:=h;obtain⟨n,hn,hl⟩:=h1 q (by simp)
 have hD:((D:Int):Rat)≠0:=by
  intro h9;have:(D:Int)=0:=aos.1 h9;omega
 have oD:n≠0:=by
  rintro rfl;rw[show((0:Int):Rat)=0 from rfl]at hn;rcases Rat.mul_eq_zero.1 hn with h9 |h9
  ·exact hq h9
  ·exact hD h9
 have hnq:((n:Int):Rat)≠0:=fun h9=>oD (aos.1 h9)
 refine⟨n.natAbs,D,⟨by omega,?_⟩,aqe hl h3,h2⟩;intro x hx;rw[am8.1 hx];have key:(1:Rat)/q*(n:Rat)=((D:Int):Rat):=by rw[<- hn];grind
 rcases Int.natAbs_eq n with e9 |e9
 ·refine⟨D,?_,by simp⟩;rw[<- e9];exact key
 ·refine ⟨-(D : Int), ?_, by simp⟩;rw [Rat.intCast_neg,<- key]
  conv=>rhs;rw[e9]
  rw[Rat.intCast_neg];grind
theorem Nk{e n:Nat}{s:List Rat}(h:Cb e s):Cb e (gU (s.take n) (dQ (s.drop n)) n):=by
 obtain⟨D,N,h1,h2,h3⟩:=h;exact⟨D,N,(h1.sub (fun q hq=>aqw hq)).join (h1.sub (fun q hq=>anf hq)).minus,h2,h3⟩
theorem Ph:∀{j i:Nat}{x:T j},(sh j x).length=2^(i+1)->i+1<=j->T.isZ i (af i ((sh j x).drop (2^i)))=false
 |0,i,x,_,h=>by omega
 |j+1,i,x,hl,h=>by
  cases hz:T.isZ j x.2
  ·have h1:=acd hz;rw[h1]at hl
   have e:i=j:=by
    rcases Nat.lt_trichotomy i j with h9 |h9 |h9
    ·have := am0 (a := 2) oz (show i+1<j+1 by omega);omega
    ·exact h9
    ·omega
   subst e;have h2:af (i+1) (sh (i+1) x)=x:=bu (i+1) x;have h3:af i ((sh (i+1) x).drop (2^i))=x.2:=are Prod.snd h2;rw[h3];exact hz
  ·have h1:sh (j+1) x=sh j x.1:=by
    conv=>lhs;unfold sh
    rw[aq7 hz]
   rw[h1]at hl ⊢;have h2:=(gk j x.1).le
   have h3:i+1<=j:=by
    rcases apz j (i+1)with h9 |h9
    ·have:=am0 (a:=2) oz h9;omega
    ·exact h9
   exact Ph hl h3
theorem Rn(r:(k:Nat)->T k){i:Nat}{x:T (i+1)}(hz:T.isZ i x.2=false)(h0:T.sgn r i (T.norm r i x)=0):T.inv r (i+1) x=(T.inv r i (T.add i x.1 x.1),T.zero i):=by
 conv=>lhs;unfold T.inv
 rw[aq6 (by rw[hz];decide),aq7 h0]
theorem LT(r:(k:Nat)->T k){i:Nat}{x:T (i+1)}(hz:T.isZ i x.2=false)(h0:T.sgn r i (T.norm r i x)≠0) :
  T.inv r (i+1) x=(T.mul r i x.1 (T.inv r i (T.norm r i x)),T.mul r i (T.neg i x.2) (T.inv r i (T.norm r i x))):=by
 conv=>lhs;unfold T.inv
 rw[aq6 (by rw[hz];decide),aq6 h0]
theorem mul_low(r:(k:Nat)->T k)(i:Nat)(x y w:T i):T.mul r (i+1) (x,y) (w,T.zero i)=(T.mul r i x w,T.mul r i y w):=by
 show(T.add i (T.mul r i x w) (T.mul r i (T.mul r i y (T.zero i)) (r i)),T.add i (T.mul r i x (T.zero i)) (T.mul r i y w))=_;rw[T.mul_zero,T.zero_mul,T.mul_zero,T.add_zero,T.zero_add]
theorem FQ{n e:Nat}{l:List Rat}(h:Nm n e l)(he:e<=4398046511103):NR (l.map rt) e:=by
 refine⟨?_,by have:=h.nl.len5 h.five;rw[apr];omega,by rw[fQ];exact h.cb⟩;intro x hx;obtain⟨q,hq,rfl⟩:=anx.1 hx;exact(h.cb.qs oz hq).ok
theorem Ud{ts:LL}{j e:Nat}{a:List Rat}{q:Rat}(h5:j<=5)(ha:Nl j a)(ca:Cb e a)(he:e<4398046511104)(hs:sh j (af j a)=[q])(hq:q≠0) :
  FP 257 [aZ ts,nA a] (nA [1/q]):=by
 have qa:∀q∈a,Qs q:=fun q hq=>ca.qs he hq
 have cs:=ca.sh ha;rw[hs]at cs;have qq:Qs q:=cs.qs he (by simp);have lJ:=pJ a h5 ha qa;rw[hs]at lJ;have SB:=OD (rt 1) (rt q) (Qb.one.qs oz).ok qq.ok;rw[bN,bN,aq6 hq]at SB;refine ai func257 ?_;refine gc lJ ?_;refine gl ?_;refine gC (fun z=>?_) (fun z=>?_) (st2:=(77777,0))
 ·refine gc (oQ 1 oz) ?_;refine gi rfl ?_;refine gc SB ?_;refine gD ?_;refine ah ?_;rfl
 cases z
theorem af5{ts:LL}{m r:Nat}(ht:lg ts m r)(hm:m<=5)(eL:m<=ts.length){j e i:Nat}{a s L:List Rat}(h5:j<=5)(ha:Nl j a)(ca:Cb e a)(he:4*e+3*eB r i+r+1<4398046511104)(hs:sh j (af j a)=s)(hi:i+1<=m)
  (dD:s.length=2^(i+1)) (hb:sB r i (4*e+3*eB r i+r+1)<4398046511104) (h0:T.sgn (aw ts) i (af i (lA ts i s))=0)
  (hL:FP 257 [aZ ts,nA (dh (s.take (2^i)) (s.take (2^i)))] (nA L)):FP 257 [aZ ts,nA a] (nA L):=by
 have qa:∀q∈a,Qs q:=fun q hq=>ca.qs oz hq
 have cs:=ca.sh ha;have lJ:=pJ a h5 ha qa;rw[hs]at cs lJ;have ku:=amf i;have kv:2^i<=32:=cV (b:=5) oz;have qu:2^(i+1)=2*2^i:=by rw[amp];omega
 obtain⟨nn,dn,cn⟩:=B8 ht oz dD cs;have k4:=tF ts m r ht hm eL i _ _ oz nn cn hb;have qs:∀q∈s.take (2^i),Qs q:=fun q hq=>cs.take.qs oz hq
 refine ai func257 ?_;refine gc lJ ?_;refine gl ?_;refine gC (fun z=>?_) (fun z=>?_) (st1:=(3,0));exact ard z (by simp only[aa,beq_iff_eq];omega);refine gl ?_;refine gs (ib (.tmp rfl) (.const _) oz (show _=((2^i:Nat):Int) by rw[jk oz,dD,iN]) rfl) ?_;refine gc (F5 ts m r ht hm eL i s e oz dD cs oz) ?_;refine gc k4 ?_;refine gC (fun z=>?_) (fun z=>?_) (st2:=(77777,0))
 ·refine gs (dZ (.tmp rfl) (.none _) (.some _ (.tmp rfl) oz) T53 rfl T106 rfl oz (by simp only[apr];omega) rfl) ?_;refine gs (dZ (.tmp rfl) (.none _) (.some _ (.tmp rfl) oz) T53 rfl T106 rfl oz (by simp only[apr];omega) rfl) ?_;refine gc (by have h9:=uG _ _ qs qs (by simp;omega) (by simp;omega);rw[<- p5]at h9;exact h9) ?_;refine gc hL ?_;refine gD ?_;refine ah ?_;rfl
 exact ard z (by rw[h0];decide)
theorem adx{ts:LL}{m r:Nat}(ht:lg ts m r)(hm:m<=5)(eL:m<=ts.length){j e f i:Nat}{a s L:List Rat}(h5:j<=5)(ha:Nl j a)(ca:Cb e a)(he:4*e+3*eB r i+r+1<4398046511104)(hs:sh j (af j a)=s)(hi:i+1<=m)
  (dD:s.length=2^(i+1)) (hb:sB r i (4*e+3*eB r i+r+1)<4398046511104) (h0:T.sgn (aw ts) i (af i (lA ts i s))≠0)
  (hL:FP 257 [aZ ts,nA (lA ts i s)] (nA L)) (nL:Nl i L) (cL:Cb f L) (hf:e+f+eB r (i+1)<4398046511104) :
  FP 257 [aZ ts,nA a] (nA (pT ts (i+1) (gU (s.take (2^i)) (dQ (s.drop (2^i))) (2^i)) L)):=by
 have qa:∀q∈a,Qs q:=fun q hq=>ca.qs oz hq
 have cs:=ca.sh ha;have lJ:=pJ a h5 ha qa;rw[hs]at cs lJ;have ku:=amf i;have kv:2^i<=32:=cV (b:=5) oz;have qu:2^(i+1)=2*2^i:=by rw[amp];omega
 obtain⟨nn,dn,cn⟩:=B8 ht oz dD cs;have k4:=tF ts m r ht hm eL i _ _ oz nn cn hb;have qy:∀q∈s.drop (2^i),Qs q:=fun q hq=>cs.drop.qs oz hq
 have lx:(s.take (2^i)).length=2^i:=jx dD;have ly:(s.drop (2^i)).length=2^i:=jJ dD;have nj:Nl (i+1) (gU (s.take (2^i)) (dQ (s.drop (2^i))) (2^i)):=.inr ⟨i+1,apu _,by rw[uD oz (by rw[lc];omega)];omega⟩;have cj:Cb e (gU (s.take (2^i)) (dQ (s.drop (2^i))) (2^i)):=Nk cs;have dX:=v5 ts m r ht hm eL (i+1) (i+1) _ _ e f hi (apu _) nj (nL.mono oz) cj cL hf;refine ai func257 ?_;refine gc lJ ?_;refine gl ?_;refine gC (fun z=>?_) (fun z=>?_) (st1:=(3,0));exact ard z (by simp only[aa,beq_iff_eq];omega);refine gl ?_;refine gs (ib (.tmp rfl) (.const _) oz (show _=((2^i:Nat):Int) by rw[jk oz,dD,iN]) rfl) ?_;refine gc (F5 ts m r ht hm eL i s e oz dD cs oz) ?_;refine gc k4 ?_;refine gC (fun z=>?_) (fun z=>?_) (st1:=(8,0));exact ard z (by simp only[aa,beq_iff_eq];omega);refine gs (dZ (.tmp rfl) (.none _) (.some _ (.tmp rfl) oz) T53 rfl T106 rfl oz (by simp only[apr];omega) rfl) ?_;refine gs (dZ (.tmp rfl) (.some _ (.tmp rfl) oz) (.none _) T53 rfl T106 rfl (by simp only[apr];omega) oz rfl) ?_;refine gc (by have h9:=xT _ qy oz;rw[<- rc]at h9;exact h9) ?_;refine gc (by have h9:=EP (s.take (2^i)) (dQ (s.drop (2^i))) (2^i) oz (by rw[lc];omega) oz;rw[<- p5]at h9;exact h9) ?_;refine gc hL ?_;refine gc dX ?_;refine gD ?_;refine ah ?_;rfl
theorem aad{ts:LL}{m r:Nat}(ht:lg ts m r)(hp:iz (aw ts) m)(hm:m<=5)(eL:m<=ts.length)(j:Nat):∀(a:List Rat)(e:Nat),j<=m->Nl j a->Cb e a->T.sgn (aw ts) j (af j a)≠0 ->
  sB r j e<4398046511104->iB r j e<4398046511104->∃L,FP 257 [aZ ts,nA a] (nA L)/\Nl j L/\Cb (iB r j e) L/\af j L=T.inv (aw ts) j (af j a):=by
 induction j using Nat.strongRecOn
 rename_i j ih;intro a e hj ha ca h0 hs hi;have Sy:=uh r j e;have cs:=ca.sh ha;have mv:=gk j (af j a);have ph:=bu j (af j a);have cG:=GM r j e;obtain⟨s,nD⟩:∃s,sh j (af j a)=s:=⟨_,rfl⟩
 rcases tA mv with h |h |⟨i,ek,h⟩
 ·exfalso;have h1:=an1.1 h;rw[h1,jM]at ph;rw[<- ph,T.sgn_zero]at h0;exact h0 rfl
 ·obtain ⟨q, hq⟩:=an7.1 h;rw [hq,oF] at ph;rw [<- ph,T.sgn_ofQ] at h0;have q0:q ≠ 0:=by rintro rfl; exact h0 rfl
  refine⟨[1/q],Ud oz ha ca oz hq q0,.inr ⟨0,by omega,rfl⟩,(Cb.inv1 (hq▸cs) q0).mono cG,?_⟩;rw[<- ph,<- oF j q];exact Cm (aw ts) (i:=0) (s:=[q]) (L:=[1/q]) (by simp) (by simp) rfl oz
 ·have hz:=Ph h ek;rw [nD] at h cs ph mv hz;obtain ⟨nn,dn,cn⟩:=B8 ht oz h cs;have dD:s.length <= 2 ^ (i + 1):=by omega
  have b1:sB r i (4*e+3*eB r i+r+1)<=sB r j e:=xO r e ek;have b2:=uh r i (4*e+3*eB r i+r+1);have b3:iB r (i+1) e<=iB r j e:=Gp r e ek;have b4:iB r (i+1) e=e+iB r i (4*e+3*eB r i+r+1)+eB r (i+1):=rfl;have lx:(s.take (2^i)).length=2^i:=jx h;have ly:(s.drop (2^i)).length=2^i:=jJ h;have kv:2^i<=2^(i+1):=amk oz oz;rw[<- ph]at h0 ⊢
  by_cases hN:T.sgn (aw ts) i (af i (lA ts i s))=0
  ·have hS:=fZ (aw ts) i (fun k hk=>hp k oz)
   have hx:T.sgn (aw ts) i (af i (dh (s.take (2^i)) (s.take (2^i))))≠0:=by
    rw[l6];rw[yN (aw ts) dD ek]at h0;rw[dn]at hN;exact Oq hS (hp i oz) (x:=af i (s.take (2^i))) (y:=af i (s.drop (2^i))) h0 hN
   have np:Nl i (dh (s.take (2^i)) (s.take (2^i))):=.inr ⟨i,apu _,by rw[fW];omega⟩;have b5:=tz r i (e:=e+e+1) (f:=4*e+3*eB r i+r+1) oz;have b6:=AQ r i (e:=e+e+1) (f:=4*e+3*eB r i+r+1) oz;obtain⟨L,k1,k2,k3,k4⟩:=ih i oz _ _ oz np (cs.take.plus cs.take) hx oz oz;refine⟨L,af5 ht hm eL oz ha ca oz nD oz h oz hN k1,k2.mono oz,k3.mono oz,?_⟩;refine Cm (aw ts) (i:=i+1) dD (aqe k2.le kv) ?_ ek;rw[Rn (aw ts) hz (by rw[<- dn];exact hN),jL k2.le,k4,l6];rfl
  ·obtain⟨L,k1,k2,k3,k4⟩:=ih i oz _ _ oz nn cn hN oz oz;have nj:Nl (i+1) (gU (s.take (2^i)) (dQ (s.drop (2^i))) (2^i)):=.inr ⟨i+1,apu _,by rw[uD oz (by rw[lc];omega),amp];omega⟩;have s1:=jO ts m ht.1 (i+1) (i+1) _ _ oz (apu _) nj (k2.mono oz);have c1:=Cb.mul ht (k:=i+1) (show i+1<=m by omega) (apu _) nj (k2.mono oz) (Nk cs) k3;refine⟨_,adx ht hm eL oz ha ca oz nD oz h oz hN k1 k2 k3 oz,s1.1.mono ek,c1.mono oz,?_⟩;refine Cm (aw ts) (i:=i+1) dD s1.1.le ?_ ek;rw[LT (aw ts) hz (by rw[<- dn];exact hN),s1.2,BC oz,jL k2.le,mul_low,qf,k4,dn];rfl
theorem WB{ts:LL}{r e f:Nat}(tw:Tw ts r){a b:List Rat}(ha:Nm ts.length e a)(hb:Nm ts.length f b)(he:e<=4398046511103)(hf:f<=4398046511103):FP 192 [aZ ts,.lst 1 [nA a,nA b]] (.v .nilIface):=by
 have nF:=rj (ts.map (List.map rt)) r tw.tr [a.map rt,b.map rt] (wE (FQ ha he) (FQ hb hf)) (by simp);have uU:bY (ts.map (List.map rt)) [a.map rt,b.map rt]=0:=vt tw ha hb;rw[uU,lM]at nF;rw[show[nA a,nA b]=[a.map rt,b.map rt].map nR by simp[gh]];exact nF
theorem Hg{ts:LL}{r f j:Nat}(tw:Tw ts r){b:List Rat}(hb:Nm ts.length f b)(hj:j<=ts.length)(nb:Nl j b)(h0:T.sgn (aw ts) ts.length (af ts.length b)≠0)(hf:f<=lm ts.length)(hi:iB r j f<4398046511104) :
  ∃L,FP 257 [aZ ts,nA b] (nA L)/\Nl ts.length L/\Cb (iB r j f) L/\af ts.length L=T.inv (aw ts) ts.length (af ts.length b):=by
 rw[yN (aw ts) nb.le hj]at h0;obtain⟨L,k1,k2,k3,k4⟩:=aad tw.ok tw.pos tw.five (apu _) j b f hj nb hb.cb h0 (sE hj tw.three tw.le hf) hi;exact⟨L,k1,k2.mono hj,k3,Cm (aw ts) nb.le k2.le k4 hj⟩
theorem Gm{ts:LL}{r e f j:Nat}(tw:Tw ts r){a b:List Rat}(ha:Nm ts.length e a)(hb:Nm ts.length f b)(hj:j<=ts.length)(nb:Nl j b)(h0:T.sgn (aw ts) ts.length (af ts.length b)≠0)(hf:f<=lm ts.length)(he:e+iB r j f+eB r ts.length<=200000000000) :
  FP 350 [aZ ts,nA a,nA b] (.tup [nA (sh ts.length (T.mul (aw ts) ts.length (af ts.length a) (T.inv (aw ts) ts.length (af ts.length b)))),.v .nilIface]):=by
 have dp:=oO ts.length;have h5:=tw.five;have h3:=tw.three;have hfe:=GM r j f;have hsB:=sE (apu ts.length) h3 tw.le hf;have io:=tF ts ts.length r tw.ok h5 (apu _) ts.length _ _ (apu _) hb.nl hb.cb hsB;obtain⟨L,k1,k2,k3,k4⟩:=Hg tw hb hj nb h0 hf oz;have dX:=v5 ts ts.length r tw.ok h5 (apu _) ts.length ts.length _ _ _ _ (apu _) (apu _) ha.nl k2 ha.cb k3 oz;have s1:=jO ts ts.length tw.ok.1 ts.length ts.length _ _ (apu _) (apu _) ha.nl k2;have c1:=Cb.mul tw.ok (k:=ts.length) (apu _) (apu _) ha.nl k2 ha.cb k3;have lJ:=pJ _ h5 s1.1 (fun q hq=>c1.qs oz hq);rw[s1.2,k4]at lJ;refine ai func350 ?_;refine gc (WB tw ha hb oz oz) ?_;refine gf ?_;refine gc io ?_;refine gC (fun z=>?_) (fun z=>?_) (st1:=(5,0));exact ard z (by simp only[aa,beq_iff_eq];omega);refine gc k1 ?_;refine gc dX ?_;refine gc lJ ?_;refine gD ?_;refine bK ?_;rfl
theorem Fj{ts:LL}{r e f j:Nat}(tw:Tw ts r){a b:List Rat}(ha:Nm ts.length e a)(hb:Nm ts.length f b)(hj:j<=ts.length)(nb:Nl j b)(h0:T.sgn (aw ts) ts.length (af ts.length b)≠0)(hf:f<=lm ts.length)(he:e+iB r j f+eB r ts.length<=200000000000) :
  Nm ts.length (e+iB r j f+eB r ts.length) (sh ts.length (T.mul (aw ts) ts.length (af ts.length a) (T.inv (aw ts) ts.length (af ts.length b)))):=by
 obtain⟨L,k1,k2,k3,k4⟩:=Hg tw hb hj nb h0 hf oz;have s1:=jO ts ts.length tw.ok.1 ts.length ts.length _ _ (apu _) (apu _) ha.nl k2;have c1:=Cb.mul tw.ok (k:=ts.length) (apu _) (apu _) ha.nl k2 ha.cb k3;refine⟨tw.five,gk _ _,?_⟩;rw[<- k4,<- s1.2];exact c1.sh s1.1
def dg(k:Nat):List Rat:=(ana (2^(k+1)) 0).set (2^k) 1
def aW(ts:LL)(a:List Rat):LL:=ts++[bc a (2^ts.length)]
theorem ah5(k:Nat):BlkSub (.row 3 ((ana (2^(k+1)) (.agg [.v (.bool false),nS,nS])).set (2^k) (qA 1))) (.row 3 ((dg k).map qA)):=by
 unfold dg;refine .row ?_ ?_
 ·simp
 ·intro i e e' he he';rw[aq0,aqu]at he';rw[List.getElem?_set]at he he';split at he
  ·rename_i h1;rw[aq7 h1]at he';split at he
   ·rename_i h2;rw[aqp]at h2;rw[aqp,aq7 h2]at he';cases he;cases he'
    exact oo.refl (HA 1)
   ·cases he
  ·rename_i h1;rw[aq6 h1]at he';rw[aql]at he he';split at he
   ·rename_i h2;rw[aq7 h2]at he';cases he;cases he'
    exact qZ
   ·cases he
theorem Fs(k:Nat):(dg k).length=2^(k+1):=by simp[dg]
theorem afm{k:Nat}(hk:k<=5):IntKind.i64.wrap ((2:Int)*2^(min (k:Int).toNat IntKind.i64.bits))=((2^(k+1):Nat):Int):=by
 have h:k=0\/k=1\/k=2\/k=3\/k=4\/k=5:=by omega
 rcases h with rfl |rfl |rfl |rfl |rfl |rfl <;> rfl
theorem YG(d:Nat)(hd:aly d 1000=true)(k:Nat)(hk:k<=5):Con prog 439 [i64 k] [] (.ms d 3 0 (2^(k+1))) [(d,some (.row 3 ((dg k).map qA)))]:=by
 have hp:2^(k+1)<=64:=cV (b:=6) oz;have ku:2^k<2^(k+1):=am0 oz oz;have hp0:=amf k;refine gF func439 (fun k z h=>by cases h) ?_;refine gs (kH (.const _) (.tmp rfl) oz (afm hk) rfl) ?_;refine gs (kJ (.tmp rfl) T53 rfl T106 rfl rfl oz (by dsimp only;omega) rfl) ?_;refine gs (kH (.const _) (.tmp rfl) oz (uf oz) rfl) ?_;refine gc (oQ 1 oz) ?_;refine gs (cM (n:=2^k) (.tmp rfl) (.tmp rfl) T53 rfl T106 rfl oz oz rfl) ?_;refine gs (fg (.tmp rfl) rfl (by rw[aql,aq7 oz]) rfl (.tmp rfl) rfl rfl T106 rfl rfl) ?_;refine gD ?_ (3,0);refine gW (Wk.of (sl:=[pP 3 (.ms 6 3 0 (2^(k+1)))]) (hp:=[pP 6 (.row 3 ((dg k).map qA))]) (.cons rfl (.of (are (AV.ms 6 3 0) (aqo _))) .nil) (.cons rfl (ah5 k) .nil)) ?_;refine gR ?_;exact aD.own1 rfl hd rfl
theorem aco(k:Nat)(hk:k<=5):FP 439 [i64 k] (nA (dg k)):=by
 have h:=Con.freeze (by rw[apr,Fs];omega) (YG 0 rfl k hk);rw[aq1,aqa (by rw[apr,Fs];exact apu _)]at h;exact h
theorem aaa{ts:LL}{r e:Nat}(tw:Tw ts r){a:List Rat}(ha:Nm ts.length e a)(he:e<=4398046511103):FP 192 [aZ ts,.lst 1 [nA a]] (.v .nilIface):=by
 have hx:=FQ ha he;have nF:=rj (ts.map (List.map rt)) r tw.tr [a.map rt] (fun x h=>by rw[am8.1 h];exact⟨hx.ok,hx.len⟩) (by simp);have uU:bY (ts.map (List.map rt)) [a.map rt]=0:=FE tw ha;rw[uU,lM]at nF;rw[show[nA a]=[a.map rt].map nR by simp[gh]];exact nF
theorem afa{ts:LL}{r e:Nat}(tw:Tw ts r){a:List Rat}(ha:Nm ts.length e a)(he:e<=4398046511103):FP 438 [aZ ts,nA a] (.tup [nA (bc a (2^ts.length)),.v .nilIface]):=by
 have h5:=tw.five;have hl:=ha.nl.le;have hp:2^ts.length<=32:=cV (b:=5) oz;have qa:∀q∈a,Qs q:=fun q hq=>ha.cb.qs oz hq
 refine ai func438 ?_;refine gc (aaa tw ha he) ?_;refine gf ?_;refine gc (G1 a qa oz) ?_;refine gl ?_;refine gs (kH (.const _) (.tmp rfl) oz (uf oz) rfl) ?_;refine gc (G3 a (2^ts.length) hl oz) ?_;refine gD ?_;refine bK ?_;rfl
theorem OR{ts:LL}{r e:Nat}(tw:Tw ts r){a:List Rat}(ha:Nm ts.length e a)(he:e<=lm ts.length)(hs:0<=T.sgn (aw ts) ts.length (af ts.length a)) :
  FP 381 [aZ ts,nA a] (.tup [aZ (aW ts a),nA (dg ts.length),.v .nilIface]):=by
 have h3:=tw.three;have h5:=tw.five;have dp:=oO ts.length;have hl:=ha.nl.le;have nw:Nl ts.length (bc a (2^ts.length)):=.inr ⟨_,apu _,ft hl⟩;have io:=tF ts ts.length r tw.ok h5 (apu _) ts.length _ _ (apu _) nw ha.cb.wide (sE (apu ts.length) h3 tw.le he);rw[rS]at io;have jS:=tw.rb.qs tw.le;refine ai func381 ?_;refine gc (afa tw ha oz) ?_;refine gf ?_;refine gc io ?_;refine gC (fun z=>?_) (fun z=>?_) (st1:=(5,0));exact ard z (by simp only[aa,aq8];omega);refine gl ?_;refine gC (fun z=>?_) (fun z=>?_) (st1:=(7,0));exact ard z (by simp only[aa,aq8];omega);refine gl ?_;refine gW (Wk.virt 900 1 rfl) ?_;refine aS [2,4,7,9,38,39] [2,4] (fun(i:Nat)=>[pP 40 (i64 i)]) (fun i=>[pP 9 (.box [.ms 900 1 0 i]),pP 900 (.row 1 ((ts.take i).map nA))]) (fun i=>i<=ts.length) (fun i=>ts.length-i) 0 (apx _) ?_ (h2:=(.cons rfl (BlkSub.bL (.cons (.nM _ _ _) .nil) rfl) (.k .nil)));rintro i hi K1 J1;refine gC (fun z=>?_) (fun z=>?_)
 ·have ae:=a7 z;obtain⟨d,hd⟩:=ay ae
  have tg:d.length<=32:=by
   have h9:=tw.len i ae;rw[ax hd]at h9;have:2^i<=32:=cV (b:=5) oz;omega
  refine gi (aA hd) ?_;refine gc (G1 d (jS d (apo hd)) oz) ?_;refine gs (cF (.tmp rfl) rfl (by rw[apr,ap7];omega) (.tmp rfl) T42 rfl T53 rfl rfl (by simp only[ap4,ap9];omega) rfl rfl) ?_;refine gD ?_ (13,0);refine gW (Wk.of (sl:=[pP 2 (.ptr 2 0),pP 4 (.ptr 4 0),pP 7 (nA (bc a (2^ts.length))),pP 9 (.ptr 9 0),pP 38 (.lst 1 (ts.map nA)),pP 39 (i64 ts.length),pP 40 (i64 i)]) (hp:=[pP 2 (.box [.lst 1 (ts.map nA)]),pP 4 (.box [nS]),pP 9 (.box [.ms 49 1 0 (i+1)]),pP 49 (.row 1 ((ts.take (i+1)).map nA))]) a6 (.k (.k (.k (.cons rfl (.of (by rw[dJ hd,ap8];rfl)) .nil))))) ?_ (13,0)
  refine gW (Wk.rk (k:=49) (d:=900) rfl rfl) ?_;refine ga aN ?_;exact aM J1 (i+1) ae
 have ae:=bj hi z;subst ae;refine gs (cF (.tmp rfl) rfl (by rw[apr,ap7];omega) (.tmp rfl) T42 rfl T53 rfl rfl (by simp only[ap4,ap9];omega) rfl rfl) ?_ (15,0);refine gW ((Wk.freeze (k:=56) rfl).trans<|Wk.of (sl:=[pP 2 (.ptr 2 0),pP 4 (.ptr 4 0),pP 9 (.ptr 9 0)]) (hp:=[pP 2 (.box [.lst 1 (ts.map nA)]),pP 4 (.box [nS]),pP 9 (.box [.lst 1 ((aW ts a).map nA)])]) a6 (.k (.k (.cons rfl (BlkSub.bL (.cons (.of (by rw[b8 (by simp)];unfold aW;simp)) .nil) rfl) .nil)))) ?_;refine gl ?_;refine gc (aco ts.length oz) ?_;refine gD ?_;refine C4 ?_;rfl
theorem Ha{ts:LL}{r:Nat}(tw:Tw ts r):FP 375 [aZ ts] (aZ ts):=by
 have h3:=tw.three;have jS:=tw.rb.qs tw.le;refine ai func375 ?_;refine gl ?_;refine gW (Wk.virt 900 1 rfl) ?_;refine aS [2,3,10,11] [2] (fun(i:Nat)=>[pP 12 (i64 i)]) (fun i=>[pP 3 (.box [.ms 900 1 0 i]),pP 900 (.row 1 ((ts.take i).map nA))]) (fun i=>i<=ts.length) (fun i=>ts.length-i) 0 (apx _) ?_ (h2:=(.cons rfl (BlkSub.bL (.cons (.nM _ _ _) .nil) rfl) (.k .nil)));rintro i hi K1 J1;refine gC (fun z=>?_) (fun z=>?_) (st2:=(13,0))
 ·have ae:=a7 z;obtain⟨d,hd⟩:=ay ae
  have tg:d.length<=32:=by
   have h9:=tw.len i ae;rw[ax hd]at h9;have:2^i<=32:=cV (b:=5) oz;omega
  have I4:=jS d (apo hd);refine gi (aA hd) ?_;refine gl ?_;refine gW (Wk.virt 901 3 rfl) ?_;refine aS [2,3,10,11,12,16,17] [2,3,900] (fun(j:Nat)=>[pP 6 (.ms 901 3 0 j),pP 18 (i64 j)]) (fun j=>[pP 901 (.row 3 ((d.take j).map qA))]) (fun j=>j<=d.length) (fun j=>d.length-j) 0 (apx _) ?_;rintro j hj K2 J2;refine gC (fun z=>?_) (fun z=>?_) (st2:=(11,0))
  ·have fL:=a7 z;obtain ⟨q,hq⟩:=ay fL;have jf:=sH (rt q) (rt 0) (I4 q (apo hq)).ok Qs.zero.ok;rw [zD,bN] at jf;refine gi (aA hq) ?_;refine gc (Con.sA (.cons (.refl _) (.cons mV .nil)) jf) ?_;refine gs (cF (.tmp rfl) rfl (by rw [apr,ap7]; omega) (.tmp rfl) T53 rfl T106 rfl rfl (by simp only [ap4,ap9]; omega) rfl rfl) ?_ (10,0);refine gW (Wk.of (sl:=[pP 2 (.ptr 2 0),pP 3 (.ptr 3 0),pP 10 (.lst 1 (ts.map nA)),pP 11 (i64 ts.length),pP 12 (i64 i),pP 6 (.ms 27 3 0 (j + 1)),pP 16 (nA d),pP 17 (i64 d.length),pP 18 (i64 j)]) (hp:=[pP 2 (.box [nS]),pP 3 (.box [.ms 900 1 0 i]),pP 900 (.row 1 ((ts.take i).map nA)),pP 27 (.row 3 ((d.take (j + 1)).map qA))]) a6 (.k (.k (.k (.cons rfl (.of (by rw [dJ hq,ap8]; rfl)) .nil))))) ?_ (10,0)
   refine gW (Wk.rk (k:=27) (d:=901) rfl rfl) ?_;refine ga aN ?_;exact aM J2 (j+1) fL
  have fL:=bj hj z;subst fL;refine gW ((Wk.freeze (k:=901) rfl).trans<|Wk.of (sl:=[pP 2 (.ptr 2 0),pP 3 (.ptr 3 0),pP 10 (.lst 1 (ts.map nA)),pP 11 (i64 ts.length),pP 12 (i64 i),pP 6 (nA d)]) (hp:=[pP 2 (.box [nS]),pP 3 (.box [.ms 900 1 0 i]),pP 900 (.row 1 ((ts.take i).map nA))]) (.k (.k (.k (.k (.k (.cons rfl (.of (by rw[b8 (by simp)];simp[nA])) .nil)))))) (.k (.k (.k .nil)))) ?_;refine gs (cF (.tmp rfl) rfl (by rw[apr,ap7];omega) (.tmp rfl) T42 rfl T53 rfl rfl (by simp only[ap4,ap9];omega) rfl rfl) ?_ (12,0);refine gW (Wk.of (sl:=[pP 2 (.ptr 2 0),pP 3 (.ptr 3 0),pP 10 (.lst 1 (ts.map nA)),pP 11 (i64 ts.length),pP 12 (i64 i)]) (hp:=[pP 2 (.box [nS]),pP 3 (.box [.ms 33 1 0 (i+1)]),pP 33 (.row 1 ((ts.take (i+1)).map nA))]) a6 (.k (.k (.cons rfl (.of (by rw[dJ hd,ap8];rfl)) .nil)))) ?_ (12,0);refine gW (Wk.rk (k:=33) (d:=900) rfl rfl) ?_;refine ga aN ?_;exact aM J1 (i+1) ae
 have ae:=bj hi z;subst ae;refine gW ((Wk.freeze (k:=900) rfl).trans<|Wk.of (sl:=[pP 2 (.ptr 2 0),pP 3 (.ptr 3 0)]) (hp:=[pP 2 (.box [nS]),pP 3 (.box [.lst 1 (ts.map nA)])]) a6 (.k (.cons rfl (BlkSub.bL (.cons (.of (by rw[b8 (by simp)];simp)) .nil) rfl) .nil))) ?_;refine ah ?_;rfl
abbrev fx(l:Li)(kw driven:List Bool)(r:List AV):List AV:=l.av.cells++(.lst 1 (kw.map bl) :: .lst 1 (driven.map bl)::r)
theorem Xn(j:Jt)(b:Int):FP 467 [j.av,i64 b] (i64 (nO j b)):=by
 refine ai func467 ?_;refine gC (fun z=>?_) (fun z=>?_)
 ·have h1:b=j.a:=dL z;refine ah ?_;unfold nO;rw[aq7 h1]
 have h1:b≠j.a:=eZ z;refine gC (fun z=>?_) (fun z=>?_)
 ·have h2:b=j.b:=dL z;refine ah ?_;unfold nO;rw[aq6 h1,aq7 h2]
 have h2:b≠j.b:=eZ z;refine ah ?_;unfold nO;rw[aq6 h1,aq6 h2];rfl
theorem ab4(j:Jt)(kind body:Int)(f:FuncId)(pre caps:List AV)(p:Int->Bool)(hp:0<=nO j body->FP f (pre++[i64 (nO j body)]++caps) (bl (p (nO j body)))) :
  FP 466 [j.av,.iptr [i64 body],.iptr [i64 kind],.iptr [.cl f pre caps]] (bl (Ce kind body p j)):=by
 refine ai func466 ?_;refine gc (Xn j body) ?_;refine bT (fun h=>(hp (aa5 h))) ?_;refine ah ?_;exact are bl aef
theorem adq(bs:List Jt)(hl:bs.length<=281474976710656)(f:FuncId)(pre caps:List AV)(ok:Nat->Bool)
  (hf:∀(i:Nat)(b:Jt),bs[i]?=some b->(∀j,j<i->ok j=true)->FP f (pre++[b.av]++caps) (bl (!ok i))) :
  FP 465 [.lst 7 (bs.map Jt.av),.cl f pre caps] (i64 (mF (dt bs.length ok))):=by
 refine ai func465 ?_;refine gl ?_;refine aS [0,1,7] [] (fun(i:Nat)=>[pP 8 (i64 i)]) (fun _=>[]) (fun i=>i<=bs.length/\∀j,j<i->ok j=true) (fun i=>bs.length-i) 0 ⟨apx _,fun j h=>by omega⟩ ?_;rintro i ⟨hi,hj⟩ K1 J1;refine gC (fun z=>?_) (fun z=>?_)
 ·have ae:=a7 z;obtain⟨b,hb⟩:=ay ae;refine gi (aA hb) ?_;refine gc (hf i b hb hj) ?_;refine gC (fun z=>?_) (fun z=>?_)
  ·have h2:=eI z;refine ah ?_;rw[j7 ae hj h2];rfl
  have h2:=eH z;refine ga aN ?_;exact aM J1 (i+1) ⟨ae,fun j h9=>by rcases apz j i with g |g;exact hj j g;(have:j=i:=by omega);subst this;exact h2⟩
 have ae:=bj hi z;subst ae;refine ah ?_;rw[jm hj];rfl
theorem Q1(l:Li)(hl:l.ok)(au:aG l=0)(Fd:List AV)(kind body:Int)(f:FuncId)(pre caps:List AV)(p:Int->Bool)
  (hp:∀o:Int,0<=o->o<l.bo.length->FP f (pre++[i64 o]++caps) (bl (p o))) :
  FP 457 [.iptr (l.av.cells++Fd),i64 kind,i64 body,.cl f pre caps] (i64 (gJ l kind body p)):=by
 refine ai func457 ?_ (1,0);refine gW ((Wk.freezeB (k:=7) rfl rfl).trans<|(Wk.freezeB (k:=5) rfl rfl).trans<|(Wk.freezeB (k:=6) rfl rfl).trans<|Wk.o (sl:=[pP 0 (.iptr (l.av.cells++Fd)),pP 5 (.iptr [i64 kind]),pP 6 (.iptr [i64 body]),pP 7 (.iptr [.cl f pre caps])]) (hp:=[])) ?_;refine gc (Con.sA (.cons (.refl _) (.cons (yE rfl) .nil)) (adq l.jo hl.lj 466 [] [.iptr [i64 body],.iptr [i64 kind],.iptr [.cl f pre caps]] (fun i=>!Ce kind body p (l.jo.getD i default)) (fun i b hb hj=>by rw[Bool.not_not,ax hb];exact ab4 b kind body f pre caps p (fun h=>hp _ h (ZF au hb body))))) ?_;refine ah ?_;rfl
theorem aej(l:Li)(kw driven:List Bool)(r:List AV)(b:Int)(h0:0<=b)(h1:b<kw.length):FP 463 [.iptr (fx l kw driven r),i64 b] (bl (kn kw b)):=by
 obtain⟨v,hv⟩:∃v,kw[b.toNat]?=some v:=ay oz;have ev:kn kw b=v:=ax hv;refine ai func463 ?_;refine gi (ko (n:=b.toNat) oz hv) ?_;refine ah ?_;rw[ev]
theorem LD(l:Li)(hl:l.ok)(au:aG l=0)(kw driven:List Bool)(hk:kw.length=l.bo.length)(r:List AV)(kind body:Int) :
  FP 455 [.iptr (fx l kw driven r),i64 kind,i64 body] (i64 (gJ l kind body (kn kw))):=by
 refine ai func455 ?_;refine gc (Q1 l hl au _ kind body 463 [.iptr (fx l kw driven r)] [] (kn kw) (fun o h0 h1=>aej l kw driven r o h0 oz)) ?_;refine ah ?_;rfl
theorem adr(o j:Int):FP 458 [i64 o,.iptr [i64 j]] (bl (decide (o=j))):=by
 refine ai func458 ?_;refine ah ?_;exact are bl ux
theorem ai6(l:Li)(kw driven:List Bool)(hd:driven.length=kw.length)(r:List AV)(b:Int)(h0:0<=b)(h1:b<kw.length) :
  FP 459 [.iptr (fx l kw driven r),i64 b] (bl (!kn kw b&&!kn driven b)):=by
 obtain⟨v,hv⟩:∃v,kw[b.toNat]?=some v:=ay oz;have ev:kn kw b=v:=ax hv;obtain⟨u,hu⟩:∃u,driven[b.toNat]?=some u:=ay oz;have eu:kn driven b=u:=ax hu;refine ai func459 ?_;refine gi (ko (n:=b.toNat) oz hv) ?_;refine tY (fun _=>(ko (n:=b.toNat) oz hu)) ?_;refine ah ?_;rw[ev,eu];exact are bl (lN _ _)
theorem Yh(l:Li)(hl:l.ok)(au:aG l=0)(kw driven:List Bool)(hk:kw.length=l.bo.length)(r:List AV) :
  FP 417 [.iptr (fx l kw driven r)] (.tup [((driverG l kw).getD default).av,bl (driverG l kw).isSome]):=by
 have rJ:=hl.ld;refine ai func417 ?_;refine gl ?_;refine aS [0,2,11,12] [2] (fun(i:Nat)=>[pP 13 (i64 i)]) (fun _=>[]) (fun i=>i<=l.dv.length/\∀j,j<i->(!drHit l kw j)=true) (fun i=>l.dv.length-i) 0 ⟨apx _,fun j h=>by omega⟩ ?_;rintro i ⟨hi,hj⟩ K1 J1;refine gC (fun z=>?_) (fun z=>?_)
 ·have ae:=a7 z;obtain⟨d,hd⟩:=ay ae;have rK:l.dv.getD i default=d:=ax hd;have hb:=d5 (pW au hd);obtain⟨v,hv⟩:∃v,kw[d.body.toNat]?=some v:=ay oz;have ev:kn kw d.body=v:=ax hv;have ej:gJ l 0 d.body (kn kw)=jointI l 0 d.body kw:=FA au (fun o _ _=>rfl);refine gi (aA hd) ?_;refine gi (ko (n:=d.body.toNat) oz hv) ?_;refine gD ?_;refine gC (fun z=>?_) (fun z=>?_)
  ·have h2 : drHit l kw i = false := by unfold drHit; rw [rK, ev, z]; rfl
   refine ga aN ?_;exact aM J1 (i+1) ⟨ae,fun k h9=>by rcases apz k i with g |g;exact hj k g;(have:k=i:=by omega);subst this;rw[h2];rfl⟩
  have pc:v=false:=z;refine gc (show kK _ _ _ (i64 (jointI l 0 d.body kw)) by rw[<- ej];exact LD l hl au kw driven hk r 0 d.body) ?_;refine gC (fun z=>?_) (fun z=>?_)
  ·have h2 : drHit l kw i = true := by unfold drHit; rw [rK, ev, pc, arb (Om z)]; rfl
   have hg:driverG l kw=some ⟨0,[d.body],[jointI l 0 d.body kw],i⟩:=by unfold driverG;rw[j7 ae hj (by rw[h2];rfl),<- rK];rfl
   refine bK ?_;rw[hg];rfl
  have h2:drHit l kw i=false:=by unfold drHit;rw[rK,arc (Lu z),ao1]
  refine ga aN ?_;exact aM J1 (i+1) ⟨ae,fun k h9=>by rcases apz k i with g |g;exact hj k g;(have:k=i:=by omega);subst this;rw[h2];rfl⟩
 have ae:=bj hi z;subst ae;have hg:driverG l kw=none:=by unfold driverG;rw[jm hj];rfl
 refine gR ?_;exact aD.sub aD.pure (by rw[hg];exact Sub.tup (.cons wK (.cons (.refl _) .nil)))
theorem Fo(l:Li)(au:aG l=0)(kw:List Bool)(hk:kw.length=l.bo.length)(r:List AV)(b:Nat)(h1:b<l.bo.length) :
  FP 459 [.iptr (fx l kw (cR l) r),i64 b] (bl (freeB l kw b)):=by
 have h:=ai6 l kw (cR l) (by rw[xR,hk]) r b oz oz;rw[Tb au oz]at h;exact h
theorem AZ(l:Li)(hl:l.ok)(au:aG l=0)(kw:List Bool)(hk:kw.length=l.bo.length)(r:List AV)(kind body:Int) :
  FP 455 [.iptr (fx l kw (cR l) r),i64 kind,i64 body] (i64 (jointI l kind body kw)):=by
 have h:=LD l hl au kw (cR l) hk r kind body;rw[FA au (fun o _ _=>rfl)]at h;exact h
theorem Z2(l:Li)(hl:l.ok)(au:aG l=0)(kw:List Bool)(hk:kw.length=l.bo.length)(r:List AV) :
  FP 419 [.iptr (fx l kw (cR l) r)] (.tup [((singleG l kw).getD default).av,bl (singleG l kw).isSome]):=by
 have h8:=(dK au).2.2.2.1;refine ai func419 ?_;refine gl ?_;refine aS [0,2,12,13] [2] (fun(i:Nat)=>[pP 14 (i64 i)]) (fun _=>[]) (fun i=>i<=l.bo.length/\∀j,j<i->(!sgHit l kw j)=true) (fun i=>l.bo.length-i) 0 ⟨apx _,fun j h=>by omega⟩ ?_;rintro i ⟨hi,hj⟩ K1 J1;refine gC (fun z=>?_) (fun z=>?_)
 ·have ae:=a7 z;refine gc (Fo l au kw hk r i ae) ?_;refine gC (fun z=>?_) (fun z=>?_)
  ·have h2 : sgHit l kw i = false := by unfold sgHit; rw [eI z]; rfl
   refine ga aN ?_;exact aM J1 (i+1) ⟨ae,fun k h9=>by rcases apz k i with g |g;exact hj k g;(have:k=i:=by omega);subst this;rw[h2];rfl⟩
  have hf:=eH z;refine gc (AZ l hl au kw hk r 0 i) ?_;refine gc (AZ l hl au kw hk r 1 i) ?_;refine gC (fun z=>?_) (fun z=>?_)
  ·have h2 : sgHit l kw i = false := by unfold sgHit; rw [Mi z, ao1]
   refine ga aN ?_;exact aM J1 (i+1) ⟨ae,fun k h9=>by rcases apz k i with g |g;exact hj k g;(have:k=i:=by omega);subst this;rw[h2];rfl⟩
  obtain⟨p0,s0⟩:=KI z;have s1:=(rX (l:=l) (kind:=1) (body:=i) (oth:=kw)).2;have h2:sgHit l kw i=true:=by unfold sgHit;rw[hf,arb p0,arb s0];rfl
  obtain⟨j,pi⟩:∃j,l.jo[(jointI l 1 i kw).toNat]?=some j:=ay oz;have tj:l.jo.getD (jointI l 1 i kw).toNat default=j:=ax pi;have hg:singleG l kw=some (sgG l kw i):=by unfold singleG;rw[j7 ae hj (by rw[h2];rfl),apm]
  refine gi (ko (n:=(jointI l 1 i kw).toNat) oz pi) ?_;refine gC (fun z=>?_) (fun z=>?_)
  ·have rL:j.a=i:=dL z;refine bK ?_;rw[hg];unfold sgG;rw[tj];simp only[apl,aq7 rL];rfl
  have rL:j.a≠i:=eZ z;refine bK ?_;rw[hg];unfold sgG;rw[tj];simp only[apl,aq6 rL];rfl
 have ae:=bj hi z;subst ae;have hg:singleG l kw=none:=by unfold singleG;rw[jm hj];rfl
 refine gR ?_;exact aD.sub aD.pure (by rw[hg];exact Sub.tup (.cons wK (.cons (.refl _) .nil)))
theorem ae5(Fd:List AV):FP 456 [.iptr Fd] (.fn 464 [.iptr [.iptr Fd]]):=by
 refine ai func456 ?_ (1,0);refine gW ((Wk.freezeB (k:=1) rfl rfl).trans<|Wk.o (sl:=[pP 1 (.iptr [.iptr Fd])]) (hp:=[])) ?_;refine ah ?_;rfl
def Cp:Code->Option (Array Tmp×Code×Code)
  | .rangeFunc _ ps x y=>some (ps,x,y)
  | .seq a b=>match Cp a with
    |some r=>some r
    |none=>Cp b
  | .block _ c=>Cp c
  |_=>none
def Lg(n:Nat)(o:Option Code):LpD:=match o with
  |some c=>match Cp c with
    |some (ps,x,y)=>⟨ps,x,y,n⟩
    |none=>⟨#[],.skip,.skip,0⟩
  |none=>⟨#[],.skip,.skip,0⟩
def PA(D:LpD)(Fd:List AV)(h:Bool):Blk:=.loop D (match h with |true=>.done |false=>.ready) (match h with |true=>some .ret |false=>none) [pP 1 (.iptr [.iptr Fd]),pP 2 (.ptr 1001 0),pP 3 (.ptr 1002 0)]
def FM(g:Gr):Blk:=.box [i64 g.kind,.lst 1 (g.bo.map i64),.lst 1 (g.jo.map i64),i64 g.driver]
def HF(h:Bool):Blk:=.box [bl h]
def iZ(D:LpD)(Fd:List AV)(h:Bool)(g:Gr):Hp:=[pP 1000 (PA D Fd h),pP 1001 (FM g),pP 1002 (HF h)]
theorem KC{D:LpD}{Fd:List AV}{h:Bool}{g:Gr}{k:Nat}{z:Blk}(hz:lk (iZ D Fd h g) k=some z):1000<=k:=by
 unfold iZ at hz;simp only[a5]at hz;split at hz
 ·omega
 ·split at hz
  ·omega
  ·split at hz
   ·omega
   ·cases hz
theorem afq{D:LpD}{Fd:List AV}{s:AS}(hs:∀k z,lk (iZ D Fd false default) k=some z->s.blk k=some z) :
  ∀k∈(iZ D Fd false default++eO (iZ D Fd false default)).map (·.1),k∈(iZ D Fd false default).map (·.1)/\lk (iZ D Fd false default++eO (iZ D Fd false default)) k=s.blk k:=by
 intro k hk
 have hk':k=1000\/k=1001\/k=1002:=by
  simp[iZ,eO]at hk;omega
 rcases hk' with rfl |rfl |rfl
 ·exact⟨by simp[iZ],(hs _ _ rfl).symm⟩
 ·exact⟨by simp[iZ],(hs _ _ rfl).symm⟩
 ·exact⟨by simp[iZ],(hs _ _ rfl).symm⟩
theorem Ow{l:Li}{kw:List Bool}{i k:Nat}(h:cond (freeB l kw i) (freeB l kw k) false=false):prHit l kw i k=false:=by
 rw[lN]at h;unfold prHit;rw[h];rfl
theorem ZD{H R:Hp}{k:Nat}{z:Blk}(h:lk H k=some z):lk (H++R) k=some z:=by rw[sf,aq7 (r7 h)];exact h
theorem TG{a b:Bool}(h:cond a b false=true):a=true:=by cases a <;> simp_all
theorem FK{a b:Bool}(h:cond a b false=true):b=true:=by cases a <;> simp_all
theorem aa0(D:LpD)(l:Li)(hl:l.ok)(au:aG l=0)(kw:List Bool)(hk:kw.length=l.bo.length)(r:List AV)
  (hy:∀i k:Nat,i<k->k<l.bo.length->freeB l kw i=true->freeB l kw k=true ->
   AO prog 1000 [i64 i,i64 k] (iZ D (fx l kw (cR l) r) false default) (bl (!prHit l kw i k)) (iZ D (fx l kw (cR l) r) (prHit l kw i k) (cond (prHit l kw i k) (prG l kw i k) default))) :
  Con prog 464 [.yl 1000,.iptr [.iptr (fx l kw (cR l) r)]] (iZ D (fx l kw (cR l) r) false default) (.tup []) (iZ D (fx l kw (cR l) r) (pairG l kw).isSome ((pairG l kw).getD default)):=by
 have h8:=(dK au).2.2.2.1;refine gF func464 (fun k z h=>KC h) ?_;refine gl ?_;refine aS [0,1,10] [1000,1001,1002] (fun(i:Nat)=>[pP 11 (i64 i)]) (fun _=>[]) (fun i=>i<=l.bo.length/\∀j,j<i->(prAt l kw j).isNone=true) (fun i=>l.bo.length-i) 0 ⟨apx _,fun j h=>by omega⟩ ?_;rintro i ⟨hi,hj⟩ K1 J1;refine gC (fun y=>?_) (fun y=>?_)
 ·have ae:=a7 y;refine ga aN ?_;refine aS [0,1,3,10,11] [] (fun (k:Nat)=>[pP 4 (i64 (i + 1 + k:Nat))]) (fun _=>[pP 1000 (PA D (fx l kw (cR l) r) false),pP 1001 (FM default),pP 1002 (HF false)]) (fun k=>i + 1 + k <= l.bo.length /\ ∀ j,j < k -> (!prHit l kw i (i + 1 + j)) = true) (fun k=>l.bo.length - k) 0 ⟨by omega,fun j h=>by omega⟩ ?_;rintro k ⟨D4,iX⟩ K2 J2;refine gl ?_;refine gC (fun y=>?_) (fun y=>?_)
  ·have bp:i + 1 + k < l.bo.length:=a7 y;refine gc (Fo l au kw hk r i ae) ?_;refine bT (fun _=>(Fo l au kw hk r (i + 1 + k) bp)) ?_;refine gs (adf rfl rfl rfl (by intro hb; have h0:prHit l kw i (i + 1 + k) = false:=Ow (by simpa using hb); simp only [h0,cond_false]; exact afq (by intro k z h; exact h)) (fun hb=>ajl (k:=1000) (.opt rfl (by rw [hb]; rfl)) (hy i (i + 1 + k) oz bp (TG hb) (FK hb)) (.cons (.opt rfl (by rw [hb]; rfl)) (.cons (.opt rfl (by rw [hb]; rfl)) .nil)) (by intro k z h; exact h) rfl rfl)) ?_;refine gC (fun y=>?_) (fun y=>?_)
   ·have h2 : prHit l kw i (i + 1 + k) = true := by have h9 := FK y; rw [Bool.not_not] at h9; exact h9
    have nG:prAt l kw i=some (i+1+k):=by unfold prAt;rw[j7 oz iX (by rw[h2];rfl),apm];congr 1;omega
    have hg:pairG l kw=some (prG l kw i (i+1+k)):=by unfold pairG;rw[j7 ae hj (by rw[nG];rfl),apm,nG]
    refine gR ?_;simp only[hg,h2,Option.isSome_some,apl,cond_true];exact aD.keep (fun k z h=>ZD h)
   have h2:prHit l kw i (i+1+k)=false:=by cases hc:cond (freeB l kw i) (freeB l kw ((i+1+k:Nat):Int)) false with |false=>exact Ow hc |true=>rw[hc,Bool.not_not]at y;exact y
   refine ga aN ?_;exact aM J2 (k+1) ⟨by omega,fun j h9=>by rcases apz j k with g |g;exact iX j g;(have:j=k:=by omega);subst this;rw[h2];rfl⟩ (hw:=Wk.of a6 (.cons rfl (.of (by rw[h2])) (.cons rfl (.of (by rw[h2];rfl)) (.cons rfl (.of (by rw[h2])) .nil))))
  have bp:¬i+1+k<l.bo.length:=fun h=>by have h1:=yf y;omega
  have nG:prAt l kw i=none:=by unfold prAt;rw[show l.bo.length-(i+1)=k by omega,jm iX];rfl
  refine ga aN ?_;exact aM J1 (i+1) ⟨ae,fun j h9=>by rcases apz j i with g |g;exact hj j g;(have:j=i:=by omega);subst this;rw[nG];rfl⟩
 have ae:=bj hi y;have hg:pairG l kw=none:=by unfold pairG;rw[<- ae,jm hj];rfl
 refine gR ?_;simp only[hg,Option.isSome_none,Option.getD_none];exact aD.keep (fun k z h=>h)
variable{P:arj}
mutual
def AV.pm(σ:Nat->Nat):AV->AV
  | .ms k sz off len=>.ms (σ k) sz off len
  | .ptr k off=>.ptr (σ k) off
  | .eptr k sz i off=>.eptr (σ k) sz i off
  | .yl k=>.yl (σ k)
  | .agg cs=>.agg (AV.pms σ cs)
  | .tup cs=>.tup (AV.pms σ cs)
  | .fn f cs=>.fn f (AV.pms σ cs)
  | .opt b x=>.opt b (AV.pm σ x)
  | .v x=>.v x
  | .lst sz l=>.lst sz l
  | .iptr l=>.iptr l
  | .cl f cs ds=>.cl f cs ds
def AV.pms(σ:Nat->Nat):List AV->List AV
  |[]=>[]
  |x::l=>AV.pm σ x::AV.pms σ l
end
theorem AV.pms_eq(σ:Nat->Nat):∀l,AV.pms σ l=l.map (AV.pm σ)
 |[]=>rfl
 |x::l=>by simp only[AV.pms,aq2,AV.pms_eq σ l]
theorem AV.pm_one(σ:Nat->Nat)(x:AV)(h:x.one=true):(x.pm σ).one=true:=by
 cases x <;> simp only[AV.pm] <;> exact h
mutual
theorem AV.pm_pm{σ:Nat->Nat}(hσ:∀k,σ (σ k)=k):∀x:AV,(x.pm σ).pm σ=x
 | .ms k sz off len=>by simp only[AV.pm,hσ]
 | .ptr k off=>by simp only[AV.pm,hσ]
 | .eptr k sz i off=>by simp only[AV.pm,hσ]
 | .yl k=>by simp only[AV.pm,hσ]
 | .agg cs=>by simp only[AV.pm];rw[AV.pms_pms hσ cs]
 | .tup cs=>by simp only[AV.pm];rw[AV.pms_pms hσ cs]
 | .fn f cs=>by simp only[AV.pm];rw[AV.pms_pms hσ cs]
 | .opt b x=>by simp only[AV.pm];rw[AV.pm_pm hσ x]
 | .v x=>by simp only[AV.pm]
 | .lst sz l=>by simp only[AV.pm]
 | .iptr l=>by simp only[AV.pm]
 | .cl f cs ds=>by simp only[AV.pm]
theorem AV.pms_pms{σ:Nat->Nat}(hσ:∀k,σ (σ k)=k):∀l:List AV,AV.pms σ (AV.pms σ l)=l
 |[]=>by simp only[AV.pms]
 |x::l=>by simp only[AV.pms];rw[AV.pm_pm hσ x,AV.pms_pms hσ l]
end
theorem BX{g:Nat->Array arh->Prop}{S:Nat->Nat->Prop}{σ:Nat->Nat}(hσ:∀k,σ (σ k)=k){m:Nat->Option Nat}{v:arh}{x:AV}(h:Rep g S m v x):Rep g S (fun k=>m (σ k)) v (x.pm σ):=by
 induction h with
 |v x=>exact .v x
 |lst0 a cap sz'=>exact .lst0 a cap sz'
 |lst u hb hc hl hs ho hu hr _=>exact .lst u hb hc hl hs ho hu hr
 |iptr u hb ho hu hr _=>exact .iptr u hb ho hu hr
 |cl a b c d _ _=>exact .cl a b c d
 |ptr hm=>exact .ptr (by simp only[hσ];exact hm)
 |eptr hm=>exact .eptr (by simp only[hσ];exact hm)
 |yl hm=>exact .yl (by simp only[hσ];exact hm)
 |ms0 a k sz off=>exact .ms0 _ _ _ _
 |ms hm hc hS=>exact .ms (by simp only[hσ];exact hm) hc hS
 |opt h h' ih=>exact .opt ih h'
 |agg hn h1 hr ih =>
  simp only[AV.pm,AV.pms_eq];refine .agg (by simpa using hn) ?_ ?_
  ·intro j c hc;simp only[apv,apt]at hc;obtain⟨y,hy,rfl⟩:=hc;exact AV.pm_one _ _ (h1 j y hy)
  ·intro j u c hu hc;simp only[apv,apt]at hc;obtain⟨y,hy,rfl⟩:=hc;exact ih j u y hu hy
 |tup hn hr ih =>
  simp only[AV.pm,AV.pms_eq];refine .tup (by simpa using hn) ?_;intro j u c hu hc;simp only[apv,apt]at hc;obtain⟨y,hy,rfl⟩:=hc;exact ih j u y hu hy
 |fn hn hr ih =>
  simp only[AV.pm,AV.pms_eq];refine .fn (by simpa using hn) ?_;intro j u c hu hc;simp only[apv,apt]at hc;obtain⟨y,hy,rfl⟩:=hc;exact ih j u y hu hy
theorem Xs{g:Nat->Array arh->Prop}{S:Nat->Nat->Prop}{σ:Nat->Nat}(hσ:∀k,σ (σ k)=k){m:Nat->Option Nat}{w:ark}{o:Option Nat}{x:Blk}(h:BlkRep g S m w o x) :
  BlkRep g S (fun k=>m (σ k)) w o (x.map (AV.pm σ)):=by
 cases x with
 |row sz es=>exact h.mono (fun _ _ h=>h) (fun _ _ h=>h) (fun _ _ hk=>hk.elim) rfl (fun _ _=>rfl)
 |vec vs=>exact h.mono (fun _ _ h=>h) (fun _ _ h=>h) (fun _ _ hk=>hk.elim) rfl (fun _ _=>rfl)
 |loop=>exact h.mapLoop _ (fun _ _ _ _ h=>BX hσ h)
 |box cs =>
  cases h with
  |box hw hn h1 bn =>
   refine .box hw (by simpa using hn) ?_ ?_
   ·intro j x hx;simp only[apv,apt]at hx;obtain⟨y,hy,rfl⟩:=hx;exact AV.pm_one _ _ (h1 j y hy)
   ·intro j u x hu hx;simp only[apv,apt]at hx;obtain⟨y,hy,rfl⟩:=hx;exact BX hσ (bn j u y hu hy)
theorem Ib{σ:Nat->Nat}(hσ:∀k,σ (σ k)=k):∀sl:di,mM (AV.pm σ) (mM (AV.pm σ) sl)=sl
 |[]=>rfl
 |(t,none)::l=>by simp only[mM,Ib hσ l]
 |(t,some x)::l=>by simp only[mM,Ib hσ l,AV.pm_pm hσ x]
theorem Blk.pm_pm{σ:Nat->Nat}(hσ:∀k,σ (σ k)=k)(x:Blk):(x.map (AV.pm σ)).map (AV.pm σ)=x:=by
 cases x with
 |row sz es=>rfl
 |vec vs=>rfl
 |loop d st pe sl=>simp only[Blk.map,Ib hσ]
 |box cs =>
  simp only[Blk.map];rw[<- AV.pms_eq,<- AV.pms_eq,AV.pms_pms hσ]
def mR(σ:Nat->Nat):Hp->Hp
  |[]=>[]
  |(k,x)::l=>(σ k,match x with |some b=>some (b.map (AV.pm σ)) |none=>none)::mR σ l
theorem pU{σ:Nat->Nat}(hσ:∀k,σ (σ k)=k):∀(H:Hp)(k:Nat),lk (mR σ H) k=(lk H (σ k)).map (Blk.map (AV.pm σ))
 |[],k=>rfl
 |(k',x)::l,k=>by
  simp only[mR,a5,pU hσ l k]
  by_cases h:k=σ k'
  ·rw[aq7 h,aq7 (by rw[h,hσ])];cases x <;> rfl
  ·rw[aq6 h,aq6 (fun e=>h (by rw[<- e,hσ]))]
theorem HQ{σ:Nat->Nat}(hσ:∀k,σ (σ k)=k)(H:Hp)(m:Nat->Option Nat):bh (mR σ H) (fun k=>m (σ k))=bh H m:=by
 funext b;apply propext;constructor
 ·rintro⟨k,z,hz,hb⟩;rw[pU hσ,apt]at hz;obtain⟨y,hy,rfl⟩:=hz;exact⟨σ k,y,hy,hb⟩
 ·rintro⟨k,y,hy,hb⟩;exact⟨σ k,y.map (AV.pm σ),by rw[pU hσ,hσ,hy];rfl,by simp only[hσ];exact hb⟩
theorem J7{σ:Nat->Nat}(hσ:∀k,σ (σ k)=k){ext:Nat->Prop}{H:Hp}{m:Nat->Option Nat}{w:ark}(h:HeapRel ext H m w):HeapRel ext (mR σ H) (fun k=>m (σ k)) w:=by
 have e:Im ext (mR σ H) (fun k=>m (σ k)) w=Im ext H m w:=by funext b cs;simp only[Im,HQ hσ]
 refine⟨?_,?_,?_⟩
 ·intro k z hz;rw[pU hσ,apt]at hz;obtain⟨y,hy,rfl⟩:=hz;rw[e];exact Xs hσ (h.blk _ y hy)
 ·intro k k' z z' b hz hz' hb hb';rw[pU hσ,apt]at hz hz';obtain⟨y,hy,_⟩:=hz;obtain⟨y',hy',_⟩:=hz';have:=h.inj _ _ y y' b hy hy' hb hb';rw[<- hσ k,this,hσ]
 ·intro k z b hz hb;rw[pU hσ,apt]at hz;obtain⟨y,hy,_⟩:=hz;exact h.sep _ y b hy hb
theorem Con.pm{σ:Nat->Nat}(hσ:∀k,σ (σ k)=k){f:FuncId}{args:List AV}{H H':Hp}{r:AV}(h:Con P f args H r H'):Con P f (args.map (AV.pm σ)) (mR σ H) (r.pm σ) (mR σ H'):=by
 refine⟨h.ok,?_⟩;intro ext m w vs hext cQ dW dC
 have cS:∀k,lk (mR σ (mR σ H)) k=lk H k:=by
  intro k;rw[pU hσ,pU hσ,hσ];cases lk H k with
  |none=>rfl
  |some y=>simp only[apm,Blk.pm_pm hσ]
 have hh:=HeapRel.congr cS (J7 hσ cQ);have em:(fun k=>(fun k=>m (σ k)) (σ k))=m:=by funext k;simp only[hσ]
 have eo:bh (mR σ H) m=bh H (fun k=>m (σ k)):=by
  have:=HQ hσ H (fun k=>m (σ k));rw[em]at this;exact this
 have ei:Im ext (mR σ H) m w=Im ext H (fun k=>m (σ k)) w:=by funext b cs;simp only[Im,eo]
 refine Calls.mono (h.ret ext (fun k=>m (σ k)) w vs hext hh (by simpa using dW) (fun j v x hv hx=>?_)) ?_
 ·have h1 := dC j v (x.pm σ) hv (by simp[hx]);have h2:=BX hσ h1;rw[AV.pm_pm hσ,ei]at h2;exact h2
 ·rintro e w' ⟨v,m',rfl,hf,hh',hn,hk,bn⟩;refine⟨v,fun k=>m' (σ k),rfl,eo▸hf,J7 hσ hh',?_,?_,?_⟩
  ·intro k x b hx hb;rw[pU hσ,apt]at hx;obtain⟨y,hy,_⟩:=hx;rw[eo];exact hn _ y b hy hb
  ·intro k x y hx hy;rw[pU hσ,apt]at hx hy;obtain⟨x',hx',_⟩:=hx;obtain⟨y',hy',_⟩:=hy;have:=hk _ x' y' hx' hy';simpa only[hσ]using this
  ·have e2 : Im ext (mR σ H') (fun k => m' (σ k)) w' = Im ext H' m' w' := by funext b cs; simp only [Im, HQ hσ]
   rw[e2];exact BX hσ bn
end Go.Lw
namespace Go.Lw
open Go.Proofs
theorem gZ{P:arj}{N:Nat}{Q:Exit->AS->Prop}{c:Code}{s:AS}(h:Gd P N Q (.code c [] s)):cq P N c Q s:=h
theorem acw{P:arj}{N:Nat}{Q:Exit->AS->Prop}{c:Code}{s s':AS}(hw:Wk s s')(h:oc P N c Q s'):oc P N c Q s:=by
 intro C m a w n ov hN hr;obtain⟨m',hr'⟩:=hw C m a w hr;exact h C m' a w n ov hN hr'
def Cw(k:Nat):Nat:=bif amq k 1000 then 900 else bif amq k 900 then 1000 else bif amq k 1001 then 2 else bif amq k 2 then 1001 else bif amq k 1002 then 3 else bif amq k 3 then 1002 else k
theorem nb{a b:Nat}(h:¬a=b):amq a b=false:=by
 cases h1:amq a b
 ·rfl
 ·exact ard (apy h1) h
theorem aap(k:Nat):Cw (Cw k)=k:=by
 by_cases h1:k=1000
 ·subst h1;rfl
 by_cases h2:k=900
 ·subst h2;rfl
 by_cases h3:k=1001
 ·subst h3;rfl
 by_cases h4:k=2
 ·subst h4;rfl
 by_cases h5:k=1002
 ·subst h5;rfl
 by_cases h6:k=3
 ·subst h6;rfl
 have e:Cw k=k:=by simp only[Cw,nb h1,nb h2,nb h3,nb h4,nb h5,nb h6,cond_false]
 rw[e,e]
theorem ajv(l:Li)(hl:l.ok)(au:aG l=0)(kw:List Bool)(hk:kw.length=l.bo.length)(r:List AV) :
  FP 418 [.iptr (fx l kw (cR l) r)] (.tup [((pairG l kw).getD default).av,bl (pairG l kw).isSome]):=by
 refine Pu (rs:=Tryz.f418.results.toList) func418 rfl rfl (by simp) rfl (fun k z h=>by cases h) ?_;refine Fx (gZ (go ?_));refine acw (s':=⟨[pP 1 (.iptr [.iptr (fx l kw (cR l) r)]),pP 2 (.ptr 2 0),pP 3 (.ptr 3 0)],[pP 2 (FM default),pP 3 (HF false)]⟩) ((Wk.freezeB (k:=1) rfl rfl).trans (Wk.of (.k (.k (.k .nil))) (.cons rfl (BlkSub.bL (.cons (.refl _) (.cons (.nil _ _ _) (.cons (.nil _ _ _) (.cons (.refl _) .nil)))) rfl) (.k .nil)))) ?_;refine agm ?_;refine Fx (gZ (go ?_));refine gc (ae5 (fx l kw (cR l) r)) ?_;refine ae3 ?_
 have hy:∀i k:Nat,i<k->k<l.bo.length->freeB l kw i=true->freeB l kw k=true ->
   AO prog 1000 [i64 i,i64 k] (iZ (Lg Tryz.f418.ntmps Tryz.f418.body) (fx l kw (cR l) r) false default) (bl (!prHit l kw i k)) (iZ (Lg Tryz.f418.ntmps Tryz.f418.body) (fx l kw (cR l) r) (prHit l kw i k) (cond (prHit l kw i k) (prG l kw i k) default)):=by
  intro i k hik bp SC SD;refine ac7 (k:=1000) (fun k z h=>KC h) rfl rfl (by intro p hp;have h9:p∈[11,12]:=hp;have h8:p=11\/p=12:=(by simpa using h9);show p<42;rcases h8 with h7 |h7 <;> (rw[h7];decide)) ?_;refine gZ (go ?_);refine⟨rfl,_,_,rfl,?_⟩;have hJ:gJ l 0 i (fun o=>decide (o=(k:Int)))=jointI l 0 i (dw l.bo.length k):=FA au (fun o h0 h1=>(uk h0 oz oz).symm);refine gZ (go ?_);refine gc (AZ l hl au kw hk r 0 i) ?_;refine gc (AZ l hl au kw hk r 0 k) ?_;refine gD ?_ (5,0);refine gW (Wk.freezeB (k:=5) rfl rfl) ?_;refine gc (r:=i64 (jointI l 0 i (dw l.bo.length k))) (by rw[<- hJ];exact Con.sA (.cons (.refl _) (.cons (.refl _) (.cons (.refl _) (.cons (yE rfl) .nil)))) (Q1 l hl au _ 0 i 458 [] [.iptr [i64 k]] (fun o=>decide (o=(k:Int))) (fun o h0 h1=>adr o k))) ?_;refine gC (fun ht=>?_) (fun ht=>?_)
  ·have h2 : prHit l kw i k = true := by unfold prHit; rw [SC, SD]; exact (Di.symm.trans ht)
   rw[h2];exact⟨_,_,rfl,aD.keep (by intro q z h;simp only[iZ,a5]at h;split at h;(subst_vars;exact h);split at h;(subst_vars;exact h);split at h;(subst_vars;exact h);cases h)⟩
  ·have h2 : prHit l kw i k = false := by unfold prHit; rw [SC, SD]; exact (Di.symm.trans ht)
   rw[h2];exact⟨_,_,rfl,aD.keep (by intro q z h;simp only[iZ,a5]at h;split at h;(subst_vars;exact h);split at h;(subst_vars;exact h);split at h;(subst_vars;exact h);cases h)⟩
 have fe:=Con.pm aap (aa0 _ l hl au kw hk r hy);cases hg:pairG l kw with
 |none =>
  rw[hg]at fe;refine LK (k:=900) (sl0:=[pP 1 (.iptr [.iptr (fx l kw (cR l) r)]),pP 2 (.ptr 2 0),pP 3 (.ptr 3 0)]) (.tmp rfl) (by intro t x h;simp only[a5]at h;split at h;(subst_vars;exact h);split at h;(subst_vars;exact h);split at h;(subst_vars;exact h);cases h) rfl rfl fe (fun k' z h=>h) rfl rfl rfl rfl (by intro h;cases h) (.inl ⟨rfl,?_⟩);refine Fx (gZ (go ?_));refine cq.out (gZ (go ?_));refine gR ?_;exact aD.sub aD.pure (Sub.tup (.cons wK (.cons (.refl _) .nil)))
 |some g =>
  rw[hg]at fe;refine LK (k:=900) (sl0:=[pP 1 (.iptr [.iptr (fx l kw (cR l) r)]),pP 2 (.ptr 2 0),pP 3 (.ptr 3 0)]) (.tmp rfl) (by intro t x h;simp only[a5]at h;split at h;(subst_vars;exact h);split at h;(subst_vars;exact h);split at h;(subst_vars;exact h);cases h) rfl rfl fe (fun k' z h=>h) rfl rfl rfl rfl (by intro h;cases h) (.inr ⟨rfl,?_⟩);exact(bK (P:=prog) (N:=Tryz.f418.ntmps) (e:=.ret) rfl)
theorem Gv{α:Type}{o:Option α}(h:o.isSome=true):∃x,o=some x:=by cases o <;> simp_all
theorem HO{α:Type}{o:Option α}(h:o.isSome=false):o=none:=by cases o <;> simp_all
theorem ZC(l:Li)(hl:l.ok)(au:aG l=0)(kw:List Bool)(hk:kw.length=l.bo.length)(r:List AV) :
  FP 344 [.iptr (fx l kw (cR l) r)] (.tup [((nextG l kw).getD default).av,bl (nextG l kw).isSome]):=by
 refine ai func344 ?_;refine gc (Yh l hl au kw (cR l) hk r) ?_;refine gC (fun z=>?_) (fun z=>?_)
 ·obtain⟨g,hg⟩:=Gv z;refine bK ?_;unfold nextG;rw[hg];rfl
 have hg:=HO z;refine gc (ajv l hl au kw hk r) ?_;refine gC (fun z=>?_) (fun z=>?_)
 ·obtain⟨g,cZ⟩:=Gv z;refine bK ?_;unfold nextG;rw[hg,cZ];rfl
 have cZ:=HO z;refine gc (Z2 l hl au kw hk r) ?_;refine bK ?_;unfold nextG;rw[hg,cZ];rfl
theorem BP{ts:LL}{r e:Nat}(tw:Tw ts r){a b c d:List Rat}(ha:Nm ts.length e a)(hb:Nm ts.length e b)(hc:Nm ts.length e c)(hd:Nm ts.length e d)(he:2*e<=lm ts.length) :
  Con prog 206 [.ptr 1000 0,aR a b,aR c d] [pP 1000 (jD ts)] (aR (sh ts.length (subT ts (af ts.length a) (af ts.length c))) (sh ts.length (subT ts (af ts.length b) (af ts.length d)))) [pP 1000 (jD ts)]:=by
 refine gF func206 (fun k z h=>bX h) ?_;refine gt (aK (B5 tw ha hc oz) (aO rfl rfl rfl) aL rfl rfl) ?_;refine gt (aK (B5 tw hb hd oz) (aO rfl rfl rfl) aL rfl rfl) ?_;refine gD ?_;refine gR ?_;exact aD.keep (bB rfl)
theorem Gf(R:List AV)(a:List Rat):Con prog 332 [.ptr 1000 0,nA a] [pP 1000 (.box [.lst 1 R,.v .nilIface])] (.tup [nA a,.v .nilIface]) [pP 1000 (.box [.lst 1 R,.v .nilIface])]:=by
 refine gF func332 (fun k z h=>bX h) ?_;refine gf ?_;refine gR ?_;show aD _ (AV.tup [nA a,.v .nilIface]) _ _;exact aD.keep (bB rfl)
theorem C2(R:List AV)(a b:List Rat):Con prog 205 [.ptr 1000 0,aR a b] [pP 1000 (.box [.lst 1 R,.v .nilIface])] (.tup [aR a b,.v .nilIface]) [pP 1000 (.box [.lst 1 R,.v .nilIface])]:=by
 refine gF func205 (fun k z h=>bX h) ?_;refine gf ?_;refine gR ?_;show aD _ (AV.tup [aR a b,.v .nilIface]) _ _;exact aD.keep (bB rfl)
theorem afx{ts:LL}{r e:Nat}(tw:Tw ts r){a b c d p q:List Rat}(ha:Nm ts.length e a)(hb:Nm ts.length e b)(hc:Nm ts.length e c)(hd:Nm ts.length e d)(hp:Nm ts.length e p)(hq:Nm ts.length e q)
  (he:8*e+4+2*kB r ts.length<=lm ts.length) :
  Con prog 338 [.ptr 1000 0,aR a b,aR c d,aR p q] [pP 1000 (jD ts)] (nA (sh ts.length (zG ts (af ts.length a) (af ts.length b) (af ts.length c) (af ts.length d) (af ts.length p) (af ts.length q)))) [pP 1000 (jD ts)]:=by
 refine gF func338 (fun k z h=>bX h) ?_;refine gt (aK (BP tw hc hd ha hb oz) (aO rfl rfl rfl) aL rfl rfl) ?_;refine gt (aK (BP tw hp hq ha hb oz) (aO rfl rfl rfl) aL rfl rfl) ?_;refine gt (aK (Q0▸PR tw (hc.sub ha) (hd.sub hb) (hp.sub ha) (hq.sub hb) oz) (aO rfl rfl rfl) aL rfl rfl) ?_;refine gD ?_;refine gR ?_;exact aD.keep (bB rfl)
theorem Ju{ts:LL}{r e:Nat}(tw:Tw ts r){a b c d:List Rat}(ha:Nm ts.length e a)(hb:Nm ts.length e b)(hc:Nm ts.length e c)(hd:Nm ts.length e d)(he:e<=lm ts.length)(f:FuncId)(v:List Rat)
  (hf:Con prog f [.ptr 1000 0,aR a b,aR c d] [pP 1000 (jD ts)] (nA v) [pP 1000 (jD ts)]) :
  FP 207 [aZ ts,aR a b,aR c d,.fn f []] (.tup [nA v,.v .nilIface]):=by
 refine ai func207 ?_;refine gc (uu (e:=e) tw [(a,b),(c,d)] (by simp only[aqf,aqg,or_false];rintro p (rfl |rfl);exact⟨ha,hb⟩;exact⟨hc,hd⟩) he (by simp)) ?_;refine gf ?_;refine gs (CS (.tmp rfl) (show Con prog f ([.ptr 22 0,aR a b,aR c d]++[]) [pP 22 (jD ts)] (nA v) [pP 22 (jD ts)]from Con.rB 22 rfl rfl rfl rfl hf) (aO rfl rfl rfl) aL rfl rfl) ?_;refine gt (aK (Con.rB 22 rfl rfl rfl rfl (Gf _ _)) (bO rfl rfl) aL rfl rfl) ?_;refine bK ?_;rfl
theorem xr{ts:LL}{r e:Nat}(tw:Tw ts r){a b c d:List Rat}(ha:Nm ts.length e a)(hb:Nm ts.length e b)(hc:Nm ts.length e c)(hd:Nm ts.length e d)(he:2*(e+e+kB r ts.length)<=lm ts.length) :
  FP 102 [aZ ts,aR a b,aR c d] (.tup [nA (sh ts.length (ua ts (af ts.length a) (af ts.length b) (af ts.length c) (af ts.length d))),.v .nilIface]):=by
 refine ai func102 ?_;refine gc (Con.sA (.cons (.refl _) (.cons (.refl _) (.cons (.refl _) (.cons (Sub.fn0 _) .nil)))) (Ju tw ha hb hc hd oz _ _ (NB tw ha hb hc hd he))) ?_;refine bK ?_
 first |rfl |(simp;done)
theorem WI{ts:LL}{r e:Nat}(tw:Tw ts r){a b c d p q:List Rat}(ha:Nm ts.length e a)(hb:Nm ts.length e b)(hc:Nm ts.length e c)(hd:Nm ts.length e d)(hp:Nm ts.length e p)(hq:Nm ts.length e q)
  (he:8*e+10+2*kB r ts.length<=lm ts.length) :
  FP 313 [aZ ts,aR a b,aR c d,aR p q] (.tup [i64 (T.sgn (aw ts) ts.length (zG ts (af ts.length a) (af ts.length b) (af ts.length c) (af ts.length d) (af ts.length p) (af ts.length q))),.v .nilIface]):=by
 have ho:=ahd tw ha hb hc hd hp hq;refine ai func313 ?_;refine gc (uu (e:=e) tw [(a,b),(c,d),(p,q)] (by simp only[aqf,aqg,or_false];rintro x (rfl |rfl |rfl);exact⟨ha,hb⟩;exact⟨hc,hd⟩;exact⟨hp,hq⟩) oz (by simp)) ?_;refine gf ?_;refine gt (aK (Con.rB 25 rfl rfl rfl rfl (afx tw ha hb hc hd hp hq oz)) (.cons (.tmp rfl) (.cons (.tmp rfl) (.cons (.tmp rfl) (.cons (.tmp rfl) .nil)))) aL rfl rfl) ?_;refine gt (aK (Con.rB 25 rfl rfl rfl rfl (Gf _ _)) (bO rfl rfl) aL rfl rfl) ?_;refine gf ?_;refine gc (By tw ho oz) ?_;refine bK ?_;rw[bu]
theorem V8{ts:LL}{r e:Nat}(tw:Tw ts r){a b c d:List Rat}(ha:Nm ts.length e a)(hb:Nm ts.length e b)(hc:Nm ts.length e c)(hd:Nm ts.length e d)(he:2*e+1<=lm ts.length) :
  FP 312 [aZ ts,aR a b,aR c d] (.tup [bl (decide (T.sgn (aw ts) ts.length (subT ts (af ts.length a) (af ts.length c))=0/\T.sgn (aw ts) ts.length (subT ts (af ts.length b) (af ts.length d))=0)),.v .nilIface]):=by
 refine ai func312 ?_;refine gc (uu (e:=e) tw [(a,b),(c,d)] (by simp only[aqf,aqg,or_false];rintro p (rfl |rfl);exact⟨ha,hb⟩;exact⟨hc,hd⟩) oz (by simp)) ?_;refine gf ?_;refine gc (Ij tw ha hc oz) ?_;refine gf ?_;refine gc (Ij tw hb hd oz) ?_;refine bK ?_;rw[<- Tx];rfl
theorem Js{ts:LL}{r e:Nat}(tw:Tw ts r){a b c d:List Rat}(ha:Nm ts.length e a)(hb:Nm ts.length e b)(hc:Nm ts.length e c)(hd:Nm ts.length e d)(he:2*(e+e+kB r ts.length)<=lm ts.length) :
  FP 265 [aZ ts,nA a,nA b,aR c d] (.tup [aR (sh ts.length (yV ts (af ts.length a) (af ts.length b) (af ts.length c) (af ts.length d))) (sh ts.length (zL ts (af ts.length a) (af ts.length b) (af ts.length c) (af ts.length d))),.v .nilIface]):=by
 refine ai func265 ?_;refine gc (BK (e:=e) tw [a,b,c,d] (by simp only[aqf,aqg,or_false];rintro x (rfl |rfl |rfl |rfl) <;> assumption) oz (by simp)) ?_;refine gf ?_;refine gt (aK (Con.rB 27 rfl rfl rfl rfl (pS tw ha hc oz)) (aO rfl rfl rfl) aL rfl rfl) ?_;refine gt (aK (Con.rB 27 rfl rfl rfl rfl (pS tw hb hd oz)) (aO rfl rfl rfl) aL rfl rfl) ?_;refine gt (aK (Con.rB 27 rfl rfl rfl rfl (EW▸B5 tw (ha.mul tw rfl hc) (hb.mul tw rfl hd) oz)) (aO rfl rfl rfl) aL rfl rfl) ?_;refine gt (aK (Con.rB 27 rfl rfl rfl rfl (pS tw hb hc oz)) (aO rfl rfl rfl) aL rfl rfl) ?_;refine gt (aK (Con.rB 27 rfl rfl rfl rfl (pS tw ha hd oz)) (aO rfl rfl rfl) aL rfl rfl) ?_;refine gt (aK (Con.rB 27 rfl rfl rfl rfl (EJ▸C8 tw (hb.mul tw rfl hc) (ha.mul tw rfl hd) oz)) (aO rfl rfl rfl) aL rfl rfl) ?_;refine gt (aK (Con.rB 27 rfl rfl rfl rfl (C2 _ _ _)) (bO rfl rfl) aL rfl rfl) ?_;refine gD ?_;refine bK ?_;rfl
theorem Wr{ts:LL}{r e:Nat}(tw:Tw ts r){a b c d:List Rat}(ha:Nm ts.length e a)(hb:Nm ts.length e b)(hc:Nm ts.length e c)(hd:Nm ts.length e d)(he:2*e<=lm ts.length) :
  FP 266 [aZ ts,aR a b,aR c d] (.tup [aR (sh ts.length (T.add ts.length (af ts.length a) (af ts.length c))) (sh ts.length (T.add ts.length (af ts.length b) (af ts.length d))),.v .nilIface]):=by
 refine ai func266 ?_;refine gc (uu (e:=e) tw [(a,b),(c,d)] (by simp only[aqf,aqg,or_false];rintro p (rfl |rfl);exact⟨ha,hb⟩;exact⟨hc,hd⟩) oz (by simp)) ?_;refine gf ?_;refine gt (aK (Con.rB 21 rfl rfl rfl rfl (C8 tw ha hc oz)) (aO rfl rfl rfl) aL rfl rfl) ?_;refine gt (aK (Con.rB 21 rfl rfl rfl rfl (C8 tw hb hd oz)) (aO rfl rfl rfl) aL rfl rfl) ?_;refine gt (aK (Con.rB 21 rfl rfl rfl rfl (C2 _ _ _)) (bO rfl rfl) aL rfl rfl) ?_;refine gD ?_;refine bK ?_;rfl
theorem AK{x y:Rat}(hx:Qs x)(hy:Qs y):FP 256 [qA x,qA y] (aR (sh 0 (x:Rat)) (sh 0 (y:Rat))):=by
 refine ai func256 ?_;refine gc (qI hx) ?_;refine gc (qI hy) ?_;refine gD ?_;refine ah ?_
 first |rfl |(simp;done)
theorem FB{ts:LL}{r e:Nat}(tw:Tw ts r){a b c d:List Rat}(ha:Nm ts.length e a)(hb:Nm ts.length e b)(hc:Nm ts.length e c)(hd:Nm ts.length e d){x y:Rat}(hx:Qb e x)(hy:Qb e y)(he:8*e+4*kB r ts.length+4<=lm ts.length) :
  FP 139 [aZ ts,.agg [nA a,nA b,nA c,nA d],qA x,qA y] (.tup [aR (sh ts.length (zw ts (af ts.length a) (af ts.length b) (af ts.length c) x y)) (sh ts.length (yt ts (af ts.length a) (af ts.length b) (af ts.length d) x y)),.v .nilIface]):=by
 have dp:=oO ts.length;have nx:=Nm.ofQ ha.five (Cb.one hx);have ny:=Nm.ofQ ha.five (Cb.one hy);have nX:=Bc tw ha hb nx ny;have nY:=AU tw ha hb nx ny;have z1:e<=2*(e+e+kB r ts.length)+1:=by omega
 have z2:2*(2*(e+e+kB r ts.length)+1)<=lm ts.length:=aio he;have jf:=Wr tw nX nY (hc.mono z1) (hd.mono z1) z2;refine ai func139 ?_;refine gc (BK (e:=e) tw [a,b,c,d] (by simp only[aqf,aqg,or_false];rintro x (rfl |rfl |rfl |rfl) <;> assumption) oz (by simp)) ?_;refine gf ?_;refine gc (AK (hx.qs oz) (hy.qs oz)) ?_;refine gc (Js tw ha hb nx ny oz) ?_;refine gD ?_;refine gf ?_;refine gc jf ?_;refine bK ?_;rw[Ei,HM];rfl
theorem Ae{ts:LL}{r e f:Nat}(tw:Tw ts r){a b:List Rat}(ha:Nm ts.length e a)(hb:Nm ts.length f b)(he:e+f+1<=lm ts.length):FP 50 [aZ ts,nA a,nA b] (bl (iS ts (af ts.length a) (af ts.length b))):=by
 refine ai func50 ?_;refine gc (ail tw ha hb he) ?_;refine ah ?_;exact are bl (ET _)
theorem ah0{ts:LL}{r e:Nat}(tw:Tw ts r){a b c d p q u v:List Rat}(ha:Nm ts.length e a)(hb:Nm ts.length e b)(hc:Nm ts.length e c)(hd:Nm ts.length e d)(hp:Nm ts.length e p)(hq:Nm ts.length e q)(hu:Nm ts.length e u)(hv:Nm ts.length e v)(he:2*e+1<=lm ts.length) :
  FP 17 [aZ ts,.agg [nA a,nA b,nA c,nA d],.agg [nA p,nA q,nA u,nA v]] (bl (iS ts (af ts.length a) (af ts.length p)&&iS ts (af ts.length b) (af ts.length q)&&iS ts (af ts.length c) (af ts.length u)&&iS ts (af ts.length d) (af ts.length v))):=by
 refine ai func17 ?_;refine gc (Ae tw ha hp oz) ?_;refine bT (fun _=>(Ae tw hb hq oz)) ?_;refine bT (fun _=>(Ae tw hc hu oz)) ?_;refine bT (fun _=>(Ae tw hd hv oz)) ?_;refine ah ?_;exact are bl (MC _ _ _ _)
def u8(n:Nat):AV:=.v (.int .u8 n)
theorem yu{p q:Bool}{a b:Nat}{c:Nat}(hp:p=decide (a<=c))(hq:q=decide (c<=b)):cond p q false=decide (a<=c/\c<=b):=by
 subst hp;subst hq
 by_cases h:a<=c
 ·simp[h]
 ·simp[h]
theorem xM(c k:Nat):aa .geq (c:Int) (k:Int)=decide (k<=c):=by simp only[aa,decide_eq_decide];omega
theorem yR(c k:Nat):aa .leq (c:Int) (k:Int)=decide (c<=k):=by simp only[aa,decide_eq_decide];omega
theorem aa1(c:Nat):cond (cond (aa .geq (c:Int) 97) (aa .leq (c:Int) 122) false) true (cond (aa .geq (c:Int) 65) (aa .leq (c:Int) 90) false)=g9 c:=by
 have e1:cond (aa .geq (c:Int) 97) (aa .leq (c:Int) 122) false=decide (97<=c/\c<=122):=yu (xM c 97) (yR c 122);have e2:cond (aa .geq (c:Int) 65) (aa .leq (c:Int) 90) false=decide (65<=c/\c<=90):=yu (xM c 65) (yR c 90);rw[e1,e2];unfold g9;cases decide (97<=c/\c<=122) <;> rfl
theorem aje(c:Nat):cond (cond (aa .geq (c:Int) 65) (aa .leq (c:Int) 90) false) true (cond (aa .geq (c:Int) 97) (aa .leq (c:Int) 122) false)=g9 c:=by
 have e1:cond (aa .geq (c:Int) 97) (aa .leq (c:Int) 122) false=decide (97<=c/\c<=122):=yu (xM c 97) (yR c 122);have e2:cond (aa .geq (c:Int) 65) (aa .leq (c:Int) 90) false=decide (65<=c/\c<=90):=yu (xM c 65) (yR c 90);rw[e1,e2];unfold g9;cases decide (97<=c/\c<=122) <;> cases decide (65<=c/\c<=90) <;> rfl
theorem KD(c:Nat):cond (aa .geq (c:Int) 48) (aa .leq (c:Int) 57) false=vI c:=yu (xM c 48) (yR c 57)
theorem F3(c:Nat):cond (cond (g9 c) true (vI c)) true (aa .eql (c:Int) 95)=oL c:=by
 unfold oL
 have:aa .eql (c:Int) 95=decide (c=95):=by
  rw[aov];simp only[aa,beq_iff_eq,aq8];omega
 rw[this];cases g9 c <;> cases vI c <;> rfl
theorem QY(c:Nat):FP 389 [u8 c] (bl (g9 c)):=by
 refine ai func389 ?_;refine ah ?_;exact are bl (aa1 c)
theorem Yu(c:Nat):FP 440 [u8 c] (bl (vI c)):=by
 refine ai func440 ?_;refine ah ?_;exact are bl (KD c)
theorem Tt(c:Nat):FP 390 [u8 c] (bl (oL c)):=by
 refine ai func390 ?_;refine gc (QY c) ?_;refine bT (fun _=>(Yu c)) ?_;refine ah ?_;exact are bl (F3 c)
theorem KW(c:Nat):FP 290 [u8 c] (bl (g9 c)):=by
 refine ai func290 ?_;refine ah ?_;exact are bl (aje c)
theorem UT(c:Nat):FP 292 [u8 c] (bl (vI c)):=by
 refine ai func292 ?_;refine ah ?_;exact are bl (KD c)
theorem TP(s:ByteArray)(hs:s.size<=281474976710656):FP 294 [.v (.string s)] (i64 (iC s)):=by
 refine ai func294 ?_;refine gs (gK rfl rfl rfl (fun h=>BF (.opt rfl (o1 h)) (.const _) T9 rfl oz (by have:=Rk h;omega) rfl)) ?_;refine bT (fun _=>(QY (fO s 0))) ?_;refine gC (fun z=>?_) (fun z=>?_)
 ·have h0:iC s=0:=Vd z;refine ah ?_;rw[h0];rfl
 obtain⟨h0,h1⟩:=Wn z;refine aS [0] [] (fun(n:Nat)=>[pP 3 (i64 n)]) (fun _=>[]) (fun n=>1<=n/\n<=s.size/\iQ s 1 (s.size-1)=iQ s n (s.size-n)) (fun n=>s.size-n) 1 ⟨apu _,h0,rfl⟩ ?_;rintro n ⟨kV,hn,hw⟩ K1 J1;refine gs (gK rfl rfl rfl (fun h=>BF (.opt rfl (o1 h)) (.opt rfl (o1 h)) T9 rfl oz (by have:=a7 h;omega) rfl)) ?_;refine bT (fun _=>(Tt (fO s n))) ?_;refine gC (fun z=>?_) (fun z=>?_)
 ·have h2:n<s.size/\oL (fO s n)=true:=ajx z;refine ga aN ?_;exact aM J1 (n+1) ⟨by omega,by omega,by rw[hw,show s.size-n=(s.size-(n+1))+1 by omega];simp only[iQ,h2.2,if_true]⟩
 have h2:n<s.size->oL (fO s n)=false:=ac8 z
 have h3:iC s=n:=by
  unfold iC;rw[aq7 ⟨h0,h1⟩,hw];rcases apz n s.size with h |h
  ·rw[show s.size-n=(s.size-(n+1))+1 by omega];simp only[iQ,h2 h,aoz,if_false]
  ·rw[show s.size-n=0 by omega];rfl
 refine ah ?_;rw[h3]
theorem xJ(s:ByteArray)(hs:s.size<=281474976710656):FP 168 [.v (.string s)] (bl (jZ s)):=by
 refine ai func168 ?_;refine gc (TP s hs) ?_;refine ah ?_;exact are bl (aa9 s)
theorem C5(s:ByteArray)(i:Nat):FP 291 [.v (.string s),i64 i] (u8 (fO s i)):=by
 refine ai func291 ?_;refine gC (fun z=>?_) (fun z=>?_)
 ·have h0:=a7 z;refine gs (BF (.tmp rfl) (.tmp rfl) T9 rfl oz oz rfl) ?_;refine ah ?_;rfl
 have h0:=yf z;refine ah ?_;rw[OS oz];rfl
theorem WZ(s:ByteArray)(hs:s.size<=281474976710656):FP 164 [.v (.string s),i64 0] (i64 ((if g9 (fO s 0)then iQ s 0 s.size else 0:Nat))):=by
 refine ai func164 ?_;refine gc (C5 s 0) ?_;refine gc (KW (fO s 0)) ?_;refine gC (fun z=>?_) (fun z=>?_)
 ·have h0 : g9 (fO s 0) = false := by simpa using z
  refine ah ?_;rw[h0];rfl
 have h0:g9 (fO s 0)=true:=by simpa using z
 refine aS [0] [] (fun(n:Nat)=>[pP 1 (i64 n)]) (fun _=>[]) (fun n=>n<=s.size/\iQ s 0 s.size=iQ s n (s.size-n)) (fun n=>s.size-n) 0 ⟨apx _,rfl⟩ ?_;rintro n ⟨hn,hw⟩ K1 J1;refine gc (C5 s n) ?_;refine gc (KW (fO s n)) ?_;refine bT (fun _=>(C5 s n)) ?_;refine bT (fun _=>(UT (fO s n))) ?_;refine bT (fun _=>(C5 s n)) ?_;refine gC (fun z=>?_) (fun z=>?_)
 ·have h1:oL (fO s n)=true:=(F3 _).symm.trans z
  have h2:n<s.size:=by
   rcases apz n s.size with h |h
   ·exact h
   ·rw[OS h]at h1;cases h1
  refine ga aN ?_;exact aM J1 (n+1) ⟨by omega,by rw[hw,show s.size-n=(s.size-(n+1))+1 by omega];simp only[iQ,h1,if_true]⟩
 have h1:oL (fO s n)=false:=(F3 _).symm.trans z
 have h2:iQ s 0 s.size=n:=by
  rw[hw];rcases apz n s.size with h |h
  ·rw[show s.size-n=(s.size-(n+1))+1 by omega];simp only[iQ,h1,aoz,if_false]
  ·rw[show s.size-n=0 by omega];rfl
 refine ah ?_;rw[h0,h2];rfl
theorem zj(s:ByteArray)(hs:s.size<=281474976710656):FP 71 [.v (.string s)] (bl (jZ s)):=by
 refine ai func71 ?_;refine bT (fun _=>(WZ s hs)) ?_;refine ah ?_;exact are bl (ag1 s)
theorem wF(i:Int)(n:Nat):FP 296 [i64 i,i64 n] (bl (bR i n)):=by
 refine ai func296 ?_;refine ah ?_;exact are bl (KN i n)
theorem X2(bs:List Bd)(ez:∀b∈bs,b.ok)(hl:bs.length<=281474976710656):FP 169 [.lst 2 (bs.map Bd.av)] (bG (iA bs.length (fi bs))):=by
 refine ai func169 ?_;refine gl ?_;refine aS [0,11,12] [] (fun(i:Nat)=>[pP 13 (i64 i)]) (fun _=>[]) (fun i=>i<=bs.length/\∀j,j<i->fi bs j=0) (fun i=>bs.length-i) 0 ⟨apx _,fun j h=>by omega⟩ ?_;rintro i ⟨hi,hj⟩ K1 J1;refine gC (fun z=>?_) (fun z=>?_)
 ·have ae:=a7 z;obtain⟨b,hb⟩:=ay ae;have eD:bs.getD i default=b:=ax hb;have nc:=ez b (apo hb);have ky:=rU Bd.name hb;refine gi (aA hb) ?_;refine gc (xJ b.name nc.name) ?_;refine gC (fun z=>?_) (fun z=>?_)
  ·have h1:=eI z;have e1:fi bs i = 5:=by unfold fi; rw [eD,aq7 h1]
   refine ah ?_;rw[fX ae hj (by rw[e1];decide),e1];rfl
  have h1:=eH z;refine gs (dZ (.tmp rfl) (.none _) (.some _ (.tmp rfl) oz) T22 rfl T139 rfl oz (by simp only[apr];omega) rfl) ?_;refine ge rfl ?_;refine aS [0,3,4,11,12,13] [4] (fun(k:Nat)=>[pP 25 (.lst 2 ((bs.take i).map Bd.av)),pP 26 (i64 i),pP 27 (i64 k)]) (fun _=>[]) (fun k=>k<=i/\(bs.take k).any (fun y=>fB y.name b.name)=false) (fun k=>i-k) 0 ⟨apx _,rfl⟩ ?_ (h1:=(.cons rfl (.of (yv 2 Bd.av bs i)) (.cons rfl (Sub.int (by simp;omega)) (.k .nil))));rintro k ⟨hk,hd⟩ K2 J2;refine gC (fun z=>?_) (fun z=>?_)
  ·have bp:=a7 z;obtain ⟨y,hy'⟩:∃ y,(bs.take i)[k]? = some y:=ay (by simp; omega);have hy:=(zo hy').1;refine gi (aA hy') ?_;refine gC (fun z=>?_) (fun z=>?_)
   ·have h2:fB y.name b.name = true:=z;have e1:fi bs i = 6:=by unfold fi; rw [eD,aq6 (by rw [h1]; decide),aq7 (by rw [ky]; exact p8 hy bp h2)]
    refine ah ?_;rw[fX ae hj (by rw[e1];decide),e1];rfl
   have h2:fB y.name b.name=false:=z;refine ga aN ?_;exact aM J2 (k+1) ⟨bp,oT hy hd h2⟩
  have bp:=bj hk z;subst bp;have dN:¬km (bs.map Bd.name) k=true:=by rw[ky,hd];decide
  refine gl ?_;refine gC (fun z=>?_) (fun z=>?_)
  ·have h3:8 < b.pts.length:=my z;have e1:fi bs k = 4:=by unfold fi; rw [eD,aq6 (by rw [h1]; decide),aq6 dN,aq7 h3]
   refine ah ?_;rw[fX ae hj (by rw[e1];decide),e1];rfl
  have h3:b.pts.length<=8:=kD z;have e1:fi bs k=iA b.pts.length (fh b.pts):=by unfold fi;rw[eD,aq6 (by rw[h1];decide),aq6 dN,aq6 oz]
  refine gl ?_;refine aS [0,4,11,12,13,44,45] [4] (fun(p:Nat)=>[pP 46 (i64 p)]) (fun _=>[]) (fun p=>p<=b.pts.length/\∀j,j<p->fh b.pts j=0) (fun p=>b.pts.length-p) 0 ⟨apx _,fun j h=>by omega⟩ ?_;rintro p ⟨hp,pj⟩ K3 J3;refine gC (fun z=>?_) (fun z=>?_)
  ·have iL:=a7 z;obtain⟨m,hm⟩:=ay iL;have rN:b.pts.getD p default=m:=ax hm;have sY:=apo hm;have Ay:=rU Mk.name hm;have pq:=nc.pts m sY;refine gi (aA hm) ?_;refine gc (xJ m.name (nc.names m sY)) ?_;refine gC (fun z=>?_) (fun z=>?_)
   ·have h4:=eI z;have e2:fh b.pts p = 5:=by unfold fh; rw [rN,aq7 h4]
    have e3:fi bs k=5:=by rw[e1,fX iL pj (by rw[e2];decide),e2]
    refine ah ?_;rw[fX ae hj (by rw[e3];decide),e3];rfl
   have h4:=eH z;refine gs (dZ (.tmp rfl) (.none _) (.some _ (.tmp rfl) oz) T137 rfl T141 rfl oz (by simp only[apr];omega) rfl) ?_;refine ge rfl ?_;refine aS [0,4,8,11,12,13,44,45,46] [4,8] (fun(q:Nat)=>[pP 59 (.lst 7 ((b.pts.take p).map Mk.av)),pP 60 (i64 p),pP 61 (i64 q)]) (fun _=>[]) (fun q=>q<=p/\(b.pts.take q).any (fun y=>fB y.name m.name)=false) (fun q=>p-q) 0 ⟨apx _,rfl⟩ ?_ (h1:=(.cons rfl (.of (yv 7 Mk.av b.pts p)) (.cons rfl (Sub.int (by simp;omega)) (.k .nil))));rintro q ⟨hq,pu⟩ K4 J4;refine gC (fun z=>?_) (fun z=>?_)
   ·have dF:=a7 z;obtain ⟨y,hy'⟩:∃ y,(b.pts.take p)[q]? = some y:=ay (by simp; omega);have hy:=(zo hy').1;refine gi (aA hy') ?_;refine gC (fun z=>?_) (fun z=>?_)
    ·have h5:fB y.name m.name = true:=z;have e2:fh b.pts p = 6:=by unfold fh; rw [rN,aq6 (by rw [h4]; decide),aq7 (by rw [Ay]; exact p8 hy dF h5)]
     have e3:fi bs k=6:=by rw[e1,fX iL pj (by rw[e2];decide),e2]
     refine ah ?_;rw[fX ae hj (by rw[e3];decide),e3];rfl
    have h5:fB y.name m.name=false:=z;refine ga aN ?_;exact aM J4 (q+1) ⟨dF,oT hy pu h5⟩
   have dF:=bj hq z;subst dF;have Az:¬km (b.pts.map Mk.name) q=true:=by rw[Ay,pu];decide
   refine gc (yB m.x pq.x) ?_;refine bT (fun _=>(yB m.y pq.y)) ?_;refine gC (fun z=>?_) (fun z=>?_)
   ·have h6:=uK z;have e2:fh b.pts q = 3:=by unfold fh; rw [rN,aq6 (by rw [h4]; decide),aq6 Az,aq6 (by rintro ⟨g1,g2⟩; rcases h6 with g | g; (rw [g1] at g; cases g); (rw [g2] at g; cases g))]
    have e3:fi bs k=3:=by rw[e1,fX iL pj (by rw[e2];decide),e2]
    refine ah ?_;rw[fX ae hj (by rw[e3];decide),e3];rfl
   have h6:=ui z;have e2:fh b.pts q=0:=by unfold fh;rw[rN,aq6 (by rw[h4];decide),aq6 Az,aq7 h6]
   refine ga aN ?_;exact aM J3 (q+1) ⟨iL,fun j h9=>by rcases apz j q with g |g;exact pj j g;(have:j=q:=by omega);subst this;exact e2⟩
  have iL:=bj hp z;subst iL;have e2:fi bs k=0:=e1.trans (pX pj);refine ga aN ?_;exact aM J1 (k+1) ⟨ae,fun j h9=>by rcases apz j k with g |g;exact hj j g;(have:j=k:=by omega);subst this;exact e2⟩
 have ae:=bj hi z;subst ae;refine ah ?_;rw[pX hj];rfl
theorem aem(l:Li)(hl:l.ok)(j:Jt):FP 295 [l.av,j.av] (bG (fy l j)):=by
 refine ai func295 ?_;refine gC (fun z=>?_) (fun z=>?_)
 ·have h1:=JB z;refine ah ?_;unfold fy;rw[aq7 h1];rfl
 have h1:=N7 z;refine gl ?_;refine gc (wF j.a l.bo.length) ?_;refine cA ?_;refine bT (fun _=>(wF j.b l.bo.length)) ?_;refine gC (fun z=>?_) (fun z=>?_)
 ·have h2:=uK z;refine ah ?_;unfold fy;rw[aq6 h1,aq7 h2];rfl
 have h2:=ui z;have lK:¬(bR j.a l.bo.length=false\/bR j.b l.bo.length=false):=by rw[h2.1,h2.2];simp
 obtain⟨A,hA,pA,mA,zA0⟩:=vN h2.1;obtain⟨B,hB,pB,mB,zB0⟩:=vN h2.2;refine gC (fun z=>?_) (fun z=>?_)
 ·have h3:=dL z;refine ah ?_;unfold fy;rw[aq6 h1,aq6 lK,aq7 h3];rfl
 have h3:=eZ z;refine gi (aA hB) ?_;refine gi (aA hA) ?_;refine gl ?_;refine gc (wF j.point A.pts.length) ?_;refine cA ?_;refine bT (fun _=>(wF j.on B.pts.length)) ?_;refine gD ?_;refine gC (fun z=>?_) (fun z=>?_)
 ·have h4:=uK z;refine ah ?_;unfold fy;rw[aq6 h1,aq6 lK,aq6 h3,pA,pB,aq7 h4];rfl
 have h4:=ui z;have pv:¬(bR j.point A.pts.length=false\/bR j.on B.pts.length=false):=by rw[h4.1,h4.2];simp
 refine gC (fun z=>?_) (fun z=>?_)
 ·have h5:=dL z;refine gC (fun z=>?_) (fun z=>?_)
  ·have h6:=ut z;refine ah ?_;unfold fy;rw[aq6 h1,aq6 lK,aq6 h3,pA,pB,aq6 pv,aq7 h5,aq7 h6];rfl
  have h6:=Cz z;refine ah ?_;unfold fy;rw[aq6 h1,aq6 lK,aq6 h3,pA,pB,aq6 pv,aq7 h5,aq6 (by rw[h6];simp)];rfl
 have h5:=eZ z;refine gl ?_;refine gc (wF j.to B.pts.length) ?_;refine gC (fun z=>?_) (fun z=>?_)
 ·have h6:=eI z;refine ah ?_;unfold fy;rw[aq6 h1,aq6 lK,aq6 h3,pA,pB,aq6 pv,aq6 h5,aq7 h6];rfl
 have h6:=eH z;obtain⟨m1,g1,d1,mm1,z1⟩:=yW h4.2;obtain⟨m2,g2,d2,mm2,z2⟩:=yW h6;have mo1:=(hl.bo B mB).pts m1 mm1;have mo2:=(hl.bo B mB).pts m2 mm2;refine gi (aA g1) ?_;refine gi (aA g2) ?_;refine gD ?_;refine gc (Q5 m1.x m2.x mo1.x mo2.x) ?_;refine bT (fun _=>(Q5 m1.y m2.y mo1.y mo2.y)) ?_;refine gC (fun z=>?_) (fun z=>?_)
 ·have h7:=L6 z;refine ah ?_;unfold fy;rw[aq6 h1,aq6 lK,aq6 h3,pA,pB,aq6 pv,aq6 h5,aq6 (by rw[h6];decide),d1,d2,aq7 h7];rfl
 have h7:=PD z;refine ah ?_;unfold fy;rw[aq6 h1,aq6 lK,aq6 h3,pA,pB,aq6 pv,aq6 h5,aq6 (by rw[h6];decide),d1,d2,aq6 h7];rfl
theorem Y4(l:Li)(hl:l.ok):FP 170 [l.av] (bG (fR l)):=by
 have tk:=hl.lj;refine ai func170 ?_;refine gl ?_;refine gC (fun z=>?_) (fun z=>?_)
 ·have h0:16<l.jo.length:=my z;refine ah ?_;unfold fR;rw[aq7 h0];rfl
 have h0:l.jo.length<=16:=kD z;have e0:fR l=iA l.jo.length (ji l):=by unfold fR;rw[aq6 oz]
 refine gl ?_;refine aS [1,14,15] [1] (fun(i:Nat)=>[pP 16 (i64 i)]) (fun _=>[]) (fun i=>i<=l.jo.length/\∀j,j<i->ji l j=0) (fun i=>l.jo.length-i) 0 ⟨apx _,fun j h=>by omega⟩ ?_;rintro i ⟨hi,hj⟩ K1 J1;refine gC (fun z=>?_) (fun z=>?_)
 ·have ae:=a7 z;obtain⟨b,hb⟩:=ay ae;have eD:l.jo.getD i default=b:=ax hb;have ky:=rU Jt.name hb;refine gi (aA hb) ?_;refine gc (xJ b.name (hl.jnames b (apo hb))) ?_;refine gC (fun z=>?_) (fun z=>?_)
  ·have h1:=eI z;have e1:ji l i = 5:=by unfold ji; rw [eD,aq7 h1]
   refine ah ?_;rw[e0,fX ae hj (by rw[e1];decide),e1];rfl
  have h1:=eH z;refine gs (dZ (.tmp rfl) (.none _) (.some _ (.tmp rfl) oz) T23 rfl T135 rfl oz (by simp only[apr];omega) rfl) ?_;refine ge rfl ?_;refine aS [1,3,4,14,15,16] [1,4] (fun(k:Nat)=>[pP 29 (.lst 7 ((l.jo.take i).map Jt.av)),pP 30 (i64 i),pP 31 (i64 k)]) (fun _=>[]) (fun k=>k<=i/\(l.jo.take k).any (fun y=>fB y.name b.name)=false) (fun k=>i-k) 0 ⟨apx _,rfl⟩ ?_ (h1:=(.cons rfl (.of (yv 7 Jt.av l.jo i)) (.cons rfl (Sub.int (by simp;omega)) (.k .nil))));rintro k ⟨hk,hd⟩ K2 J2;refine gC (fun z=>?_) (fun z=>?_)
  ·have bp:=a7 z;obtain ⟨y,hy'⟩:∃ y,(l.jo.take i)[k]? = some y:=ay (by simp; omega);have hy:=(zo hy').1;refine gi (aA hy') ?_;refine gC (fun z=>?_) (fun z=>?_)
   ·have h2:fB y.name b.name = true:=z;have e1:ji l i = 6:=by unfold ji; rw [eD,aq6 (by rw [h1]; decide),aq7 (by rw [ky]; exact p8 hy bp h2)]
    refine ah ?_;rw[e0,fX ae hj (by rw[e1];decide),e1];rfl
   have h2:fB y.name b.name=false:=z;refine ga aN ?_;exact aM J2 (k+1) ⟨bp,oT hy hd h2⟩
  have bp:=bj hk z;subst bp;have dN:¬km (l.jo.map Jt.name) k=true:=by rw[ky,hd];decide
  have e1:ji l k=fy l b:=by unfold ji;rw[eD,aq6 (by rw[h1];decide),aq6 dN]
  refine gc (aem l hl b) ?_;refine gC (fun z=>?_) (fun z=>?_)
  ·have h3:=ef z;refine ah ?_;rw[e0,fX ae hj (by rw[e1];exact h3),e1]
  have h3:=dS z;refine ga aN ?_;exact aM J1 (k+1) ⟨ae,fun j h9=>by rcases apz j k with g |g;exact hj j g;(have:j=k:=by omega);subst this;exact e1.trans h3⟩
 have ae:=bj hi z;subst ae;refine ah ?_;rw[e0,pX hj];rfl
theorem af9(l:Li)(hl:l.ok):FP 171 [l.av] (bG (iP l)):=by
 have rJ:=hl.ld;refine ai func171 ?_;refine gl ?_;refine gC (fun z=>?_) (fun z=>?_)
 ·have h0:2<l.dv.length:=my z;refine ah ?_;unfold iP;rw[aq7 h0];rfl
 have h0:l.dv.length<=2:=kD z;have e0:iP l=iA l.dv.length (fw l):=by unfold iP;rw[aq6 oz]
 refine gl ?_;refine aS [1,15,16] [1] (fun(i:Nat)=>[pP 17 (i64 i)]) (fun _=>[]) (fun i=>i<=l.dv.length/\∀j,j<i->fw l j=0) (fun i=>l.dv.length-i) 0 ⟨apx _,fun j h=>by omega⟩ ?_;rintro i ⟨hi,hj⟩ K1 J1;refine gC (fun z=>?_) (fun z=>?_)
 ·have ae:=a7 z;obtain⟨b,hb⟩:=ay ae;have eD:l.dv.getD i default=b:=ax hb;have ky:=rU Dr.name hb;refine gi (aA hb) ?_;refine gc (xJ b.name (hl.dnames b (apo hb))) ?_;refine gC (fun z=>?_) (fun z=>?_)
  ·have h1:=eI z;have e1:fw l i = 5:=by unfold fw; rw [eD,aq7 h1]
   refine ah ?_;rw[e0,fX ae hj (by rw[e1];decide),e1];rfl
  have h1:=eH z;refine gs (dZ (.tmp rfl) (.none _) (.some _ (.tmp rfl) oz) T24 rfl T151 rfl oz (by simp only[apr];omega) rfl) ?_;refine ge rfl ?_;refine aS [1,3,4,15,16,17] [1,4] (fun(k:Nat)=>[pP 30 (.lst 2 ((l.dv.take i).map Dr.av)),pP 31 (i64 i),pP 32 (i64 k)]) (fun _=>[]) (fun k=>k<=i/\(l.dv.take k).any (fun y=>fB y.name b.name)=false) (fun k=>i-k) 0 ⟨apx _,rfl⟩ ?_ (h1:=(.cons rfl (.of (yv 2 Dr.av l.dv i)) (.cons rfl (Sub.int (by simp;omega)) (.k .nil))));rintro k ⟨hk,hd⟩ K2 J2;refine gC (fun z=>?_) (fun z=>?_)
  ·have bp:=a7 z;obtain ⟨y,hy'⟩:∃ y,(l.dv.take i)[k]? = some y:=ay (by simp; omega);have hy:=(zo hy').1;refine gi (aA hy') ?_;refine gC (fun z=>?_) (fun z=>?_)
   ·have h2:fB y.name b.name = true:=z;have e1:fw l i = 6:=by unfold fw; rw [eD,aq6 (by rw [h1]; decide),aq7 (by rw [ky]; exact p8 hy bp h2)]
    refine ah ?_;rw[e0,fX ae hj (by rw[e1];decide),e1];rfl
   have h2:fB y.name b.name=false:=z;refine ga aN ?_;exact aM J2 (k+1) ⟨bp,oT hy hd h2⟩
  have bp:=bj hk z;subst bp;have dN:¬km (l.dv.map Dr.name) k=true:=by rw[ky,hd];decide
  refine gl ?_;refine gc (wF b.body l.bo.length) ?_;refine gC (fun z=>?_) (fun z=>?_)
  ·have h3:=eI z;have e1:fw l k = 9:=by unfold fw; rw [eD,aq6 (by rw [h1]; decide),aq6 dN,aq7 h3]
   refine ah ?_;rw[e0,fX ae hj (by rw[e1];decide),e1];rfl
  have h3:=eH z;refine gC (fun z=>?_) (fun z=>?_)
  ·have h4:=dL z;have e1:fw l k = 7:=by unfold fw; rw [eD,aq6 (by rw [h1]; decide),aq6 dN,aq6 (by rw [h3]; decide),aq7 h4]
   refine ah ?_;rw[e0,fX ae hj (by rw[e1];decide),e1];rfl
  have h4:=eZ z;have e1:fw l k=if(l.dv.take k).any (fun d=>decide (d.body=b.body))=true then 6 else 0:=by unfold fw;rw[eD,aq6 (by rw[h1];decide),aq6 dN,aq6 (by rw[h3];decide),aq6 h4]
  refine gs (dZ (.tmp rfl) (.none _) (.some _ (.tmp rfl) oz) T24 rfl T151 rfl oz (by simp only[apr];omega) rfl) ?_;refine ge rfl ?_;refine aS [1,4,15,16,17] [1,4] (fun(q:Nat)=>[pP 58 (.lst 2 ((l.dv.take k).map Dr.av)),pP 59 (i64 k),pP 60 (i64 q)]) (fun _=>[]) (fun q=>q<=k/\(l.dv.take q).any (fun d=>decide (d.body=b.body))=false) (fun q=>k-q) 0 ⟨apx _,rfl⟩ ?_ (h1:=(.cons rfl (.of (yv 2 Dr.av l.dv k)) (.cons rfl (Sub.int (by simp;omega)) (.k .nil))));rintro q ⟨hq,pu⟩ K3 J3;refine gC (fun z=>?_) (fun z=>?_)
  ·have dF:=a7 z;obtain ⟨y,hy'⟩:∃ y,(l.dv.take k)[q]? = some y:=ay (by simp; omega);have hy:=(zo hy').1;refine gi (aA hy') ?_;refine gC (fun z=>?_) (fun z=>?_)
   ·have h5:decide (y.body = b.body) = true:=arb (dL z);have e2:fw l k = 6:=by rw [e1,aq7 (p8 hy dF h5)]
    refine ah ?_;rw[e0,fX ae hj (by rw[e2];decide),e2];rfl
   have h5:decide (y.body=b.body)=false:=arc (eZ z);refine ga aN ?_;exact aM J3 (q+1) ⟨dF,oT hy pu h5⟩
  have dF:=bj hq z;subst dF;have e2:fw l q=0:=by rw[e1,pu];rfl
  refine ga aN ?_;exact aM J1 (q+1) ⟨ae,fun j h9=>by rcases apz j q with g |g;exact hj j g;(have:j=q:=by omega);subst this;exact e2⟩
 have ae:=bj hi z;subst ae;refine ah ?_;rw[e0,pX hj];rfl
theorem Dl(l:Li)(hl:l.ok):FP 75 [l.av] (bG (aG l)):=by
 have eY:=hl.lb;refine ai func75 ?_;refine gc (xJ l.name hl.name) ?_;refine gC (fun z=>?_) (fun z=>?_)
 ·have h1:=eI z;refine ah ?_;unfold aG;rw[aq7 h1];rfl
 have h1:=eH z;refine gl ?_;refine gC (fun z=>?_) (fun z=>?_)
 ·have h2:=LE z;refine ah ?_;unfold aG;rw[aq6 (by rw[h1];decide),aq7 h2];rfl
 have h2:=O5 z;refine gl ?_;refine gC (fun z=>?_) (fun z=>?_)
 ·have h3:8<l.bo.length:=my z;refine ah ?_;unfold aG;rw[aq6 (by rw[h1];decide),aq6 h2,aq7 h3];rfl
 have h3:l.bo.length<=8:=kD z;have e0:aG l=if jw l≠0 then jw l else if fR l≠0 then fR l else iP l:=by unfold aG;rw[aq6 (by rw[h1];decide),aq6 h2,aq6 oz]
 refine gc (X2 l.bo hl.bo eY) ?_;refine gC (fun z=>?_) (fun z=>?_)
 ·have h4:jw l≠0:=ef z;refine ah ?_;rw[e0,aq7 h4];rfl
 have h4:jw l=0:=dS z;refine gc (Y4 l hl) ?_;refine gC (fun z=>?_) (fun z=>?_)
 ·have h5:=ef z;refine ah ?_;rw[e0,aq6 (by rw[h4];simp),aq7 h5]
 have h5:=dS z;refine gc (af9 l hl) ?_;refine ah ?_;rw[e0,aq6 (by rw[h4];simp),aq6 (by rw[h5];simp)]
theorem HT(d:Nat)(hd:aly d 1000=true)(l:Li)(hl:l.bo.length<=1000)(b:Nat)(hb:b<l.bo.length) :
  Con prog 273 [l.av,i64 b] [] (.ms d 1 0 l.bo.length) [(d,some (.row 1 ((dw l.bo.length b).map bl)))]:=by
 refine gF func273 (fun k z h=>by cases h) ?_;refine gl ?_;refine gs (kJ (.tmp rfl) T320 rfl T4 rfl rfl oz (by dsimp only;omega) rfl) ?_;refine gs (qW (.tmp rfl) (.tmp rfl) T320 rfl T4 rfl oz oz rfl) ?_;refine gs (fg (.tmp rfl) rfl (by rw[aql,aq7 (by simp;omega)]) rfl (.const _) rfl rfl T4 rfl rfl) ?_ (3,0);refine gW (Wk.of (sl:=[pP 5 (.ms 9 1 0 l.bo.length)]) (hp:=[pP 9 (.row 1 ((dw l.bo.length b).map bl))]) (.cons rfl (.of (by rw[aqo])) .nil) (.cons rfl (.of (by unfold dw;simp only[aq0,aqu,ams,aqo];rfl)) .nil)) ?_ (3,0);refine gW (Wk.rk (k:=9) (d:=900) rfl rfl) ?_;refine gR ?_;exact aD.own1 rfl hd rfl
theorem aim(l:Li)(hl:l.bo.length<=1000)(b:Nat)(hb:b<l.bo.length):FP 273 [l.av,i64 b] (.lst 1 ((dw l.bo.length b).map bl)):=by
 have h:=Con.freeze (by rw[apr,kN];omega) (HT 0 rfl l hl b hb);rw[aq1,aqa (by rw[apr,kN];exact apu _)]at h;exact h
theorem ZP(l:Li)(hl:l.ok)(b:Int):FP 429 [l.av,i64 b] (bl (rx l b)):=by
 have rJ:=hl.ld;refine ai func429 ?_;refine gl ?_;refine aS [1,8,9] [] (fun(i:Nat)=>[pP 10 (i64 i)]) (fun _=>[]) (fun i=>i<=l.dv.length/\(l.dv.take i).any (fun d=>decide (d.body=b))=false) (fun i=>l.dv.length-i) 0 ⟨apx _,rfl⟩ ?_;rintro i ⟨hi,hj⟩ K1 J1;refine gC (fun z=>?_) (fun z=>?_)
 ·have ae:=a7 z;obtain⟨d,hd⟩:=ay ae;refine gi (aA hd) ?_;refine gC (fun z=>?_) (fun z=>?_)
  ·have h1:d.body=b:=dL z;refine ah ?_;unfold rx;rw[am7.2 ⟨d,apo hd,arb h1⟩];rfl
  have h1:d.body≠b:=eZ z;refine ga aN ?_;exact aM J1 (i+1) ⟨ae,oT hd hj (arc h1)⟩
 have ae:=bj hi z;subst ae;rw[ap5]at hj;refine ah ?_;unfold rx;rw[hj];rfl
theorem Kt(l:Li)(hl:l.ok)(au:aG l=0)(kind body:Int)(oth:List Bool)(ho:oth.length=l.bo.length):FP 372 [l.av,i64 kind,i64 body,.lst 1 (oth.map bl)] (i64 (jointI l kind body oth)):=by
 have tk:=hl.lj;refine ai func372 ?_;refine gl ?_;refine aS [1,2,3,12,13] [] (fun(i:Nat)=>[pP 14 (i64 i)]) (fun _=>[]) (fun i=>i<=l.jo.length/\∀j,j<i->(!qe kind body oth (l.jo.getD j default))=true) (fun i=>l.jo.length-i) 0 ⟨apx _,fun j h=>by omega⟩ ?_;rintro i ⟨hi,hj⟩ K1 J1;refine gC (fun z=>?_) (fun z=>?_)
 ·have ae:=a7 z;obtain⟨j,pi⟩:=ay ae;have tj:l.jo.getD i default=j:=ax pi;obtain⟨i1,i2,_⟩:=ee au pi;have b1:=d5 i1;have b2:=d5 i2;obtain⟨va,SE⟩:∃v,oth[j.a.toNat]?=some v:=ay oz;obtain⟨vb,SF⟩:∃v,oth[j.b.toNat]?=some v:=ay oz;have ea:kn oth j.a=va:=ax SE;have eb:kn oth j.b=vb:=ax SF;refine gi (aA pi) ?_;refine tY (fun _=>(ko (n:=j.b.toNat) oz SF)) ?_;refine tY (fun _=>(ko (n:=j.a.toNat) oz SE)) ?_;refine gC (fun z=>?_) (fun z=>?_)
  ·have h2 : qe kind body oth j = true := by rw [<- Nr (va := va) (vb := vb) ea eb]; exact z
   refine ah ?_;unfold jointI;rw[j7 ae hj (by rw[tj,h2];rfl)];rfl
  have h2:qe kind body oth j=false:=by rw[<- Nr (va:=va) (vb:=vb) ea eb];exact z
  refine ga aN ?_;exact aM J1 (i+1) ⟨ae,fun k h9=>by rcases apz k i with g |g;exact hj k g;(have:k=i:=by omega);subst this;rw[tj,h2];rfl⟩
 have ae:=bj hi z;subst ae;refine ah ?_;unfold jointI;rw[jm hj];rfl
theorem TC(l:Li)(hl:l.ok)(kw:List Bool)(b:Nat)(hb:b<kw.length):FP 373 [l.av,.lst 1 (kw.map bl),i64 b] (bl (freeB l kw b)):=by
 obtain⟨v,hv⟩:=ay hb;have ev:kn kw (b:Int)=v:=ax (by rw[aqo];exact hv);refine ai func373 ?_;refine gi (aA hv) ?_;refine bT (fun _=>(ZP l hl b)) ?_;refine ah ?_;unfold freeB;rw[ev];exact are bl (lN _ _)
theorem xG{l:Li}{kw:List Bool}(hl:l.ok)(au:aG l=0)(kind body:Int)(hk:kw.length=l.bo.length) :
  Con prog 372 [l.av,i64 kind,i64 body,.ms 1000 1 0 kw.length] [pP 1000 (.row 1 (kw.map bl))] (i64 (jointI l kind body kw)) [pP 1000 (.row 1 (kw.map bl))]:=by
 refine Con.borrow (args:=[l.av,i64 kind,i64 body,.lst 1 (kw.map bl)]) 1000 1 (kw.map bl) rfl rfl rfl ?_ rfl (fun k' x h=>by cases h) (Kt l hl au kind body kw hk);intro j x' hj
 match j,hj with
 |0,hj=>cases hj;exact .inl rfl
 |1,hj=>cases hj;exact .inl rfl
 |2,hj=>cases hj;exact .inl rfl
 |3,hj=>cases hj;exact .inr ⟨0,kw.length,rfl,by simp,by rw[aq1,aqa (by simp)];rfl⟩
theorem Fe{l:Li}{kw:List Bool}(hl:l.ok)(b:Nat)(hb:b<kw.length) :
  Con prog 373 [l.av,.ms 1000 1 0 kw.length,i64 b] [pP 1000 (.row 1 (kw.map bl))] (bl (freeB l kw b)) [pP 1000 (.row 1 (kw.map bl))]:=by
 refine Con.borrow (args:=[l.av,.lst 1 (kw.map bl),i64 b]) 1000 1 (kw.map bl) rfl rfl rfl ?_ rfl (fun k' x h=>by cases h) (TC l hl kw b hb);intro j x' hj
 match j,hj with
 |0,hj=>cases hj;exact .inl rfl
 |1,hj=>cases hj;exact .inr ⟨0,kw.length,rfl,by simp,by rw[aq1,aqa (by simp)];rfl⟩
 |2,hj=>cases hj;exact .inl rfl
theorem acu(l:Li)(hl:l.ok)(au:aG l=0)(kw:List Bool)(hk:kw.length=l.bo.length):Con prog 274 [l.av,.ms 1000 1 0 kw.length] [pP 1000 (.row 1 (kw.map bl))] (.tup [((driverG l kw).getD default).av,bl (driverG l kw).isSome]) [pP 1000 (.row 1 (kw.map bl))]:=by
 have rJ:=hl.ld;refine gF func274 (fun k z h=>bX h) ?_;refine gl ?_;refine aS [2,4,10,11] [2,4,1000] (fun(i:Nat)=>[pP 1 (.ms 1000 1 0 kw.length),pP 12 (i64 i)]) (fun _=>[]) (fun i=>i<=l.dv.length/\∀j,j<i->(!drHit l kw j)=true) (fun i=>l.dv.length-i) 0 ⟨apx _,fun j h=>by omega⟩ ?_;rintro i ⟨hi,hj⟩ K1 J1;refine gC (fun y=>?_) (fun y=>?_)
 ·have ae:=a7 y;obtain ⟨d,hd⟩:=ay ae;have rK:l.dv.getD i default = d:=ax hd;have hb:=d5 (pW au hd);obtain ⟨v,hv⟩:∃ v,kw[d.body.toNat]? = some v:=ay oz;have ev:kn kw d.body = v:=ax hv;refine gi (aA hd) ?_;refine gs (qW (.tmp rfl) (.tmp rfl) T320 rfl T4 rfl oz oz rfl) ?_;refine gs (f0 (.tmp rfl) rfl (by rw [ams,apv,hv]; rfl) T4 rfl rfl rfl) ?_;refine gC (fun y=>?_) (fun y=>?_)
  ·have h2 : drHit l kw i = false := by unfold drHit; rw [rK, ev, y]; rfl
   refine ga aN ?_;exact aM J1 (i+1) ⟨ae,fun k h9=>by rcases apz k i with g |g;exact hj k g;(have:k=i:=by omega);subst this;rw[h2];rfl⟩
  have pc:v=false:=y;refine gt (sj (xG hl au 0 d.body hk) (.cons (.tmp rfl) (.cons (.const _) (bO rfl rfl))) rfl rfl rfl) ?_;refine gC (fun y=>?_) (fun y=>?_)
  ·have h2 : drHit l kw i = true := by unfold drHit; rw [rK, ev, pc, arb (Om y)]; rfl
   have hg:driverG l kw=some ⟨0,[d.body],[jointI l 0 d.body kw],i⟩:=by unfold driverG;rw[j7 ae hj (by rw[h2];rfl),<- rK];rfl
   refine gR ?_;rw[hg];exact aD.keep (bB rfl)
  have h2:drHit l kw i=false:=by unfold drHit;rw[rK,arc (Lu y),ao1]
  refine ga aN ?_;exact aM J1 (i+1) ⟨ae,fun k h9=>by rcases apz k i with g |g;exact hj k g;(have:k=i:=by omega);subst this;rw[h2];rfl⟩
 have ae:=bj hi y;subst ae;have hg:driverG l kw=none:=by unfold driverG;rw[jm hj];rfl
 refine gR ?_;exact aD.sub (aD.keep (bB rfl)) (by rw[hg];exact Sub.tup (.cons wK (.cons (.refl _) .nil)))
theorem ah3(l:Li)(hl:l.ok)(au:aG l=0)(kw:List Bool)(hk:kw.length=l.bo.length):Con prog 275 [l.av,.ms 1000 1 0 kw.length] [pP 1000 (.row 1 (kw.map bl))] (.tup [((pairG l kw).getD default).av,bl (pairG l kw).isSome]) [pP 1000 (.row 1 (kw.map bl))]:=by
 have h8:=(dK au).2.2.2.1;refine gF func275 (fun k z h=>bX h) ?_;refine gl ?_;refine aS [2,4,12,13] [2,4,1000] (fun(i:Nat)=>[pP 1 (.ms 1000 1 0 kw.length),pP 14 (i64 i)]) (fun _=>[]) (fun i=>i<=l.bo.length/\∀j,j<i->(prAt l kw j).isNone=true) (fun i=>l.bo.length-i) 0 ⟨apx _,fun j h=>by omega⟩ ?_;rintro i ⟨hi,hj⟩ K1 J1;refine gC (fun y=>?_) (fun y=>?_)
 ·have ae:=a7 y;refine ga aN ?_;refine aS [2,4,6,12,13,14] [2,4,1000] (fun (k:Nat)=>[pP 1 (.ms 1000 1 0 kw.length),pP 7 (i64 (i + 1 + k:Nat))]) (fun _=>[]) (fun k=>i + 1 + k <= l.bo.length /\ ∀ j,j < k -> (!prHit l kw i (i + 1 + j)) = true) (fun k=>l.bo.length - k) 0 ⟨by omega,fun j h=>by omega⟩ ?_;rintro k ⟨D4,iX⟩ K2 J2;refine gl ?_;refine gC (fun y=>?_) (fun y=>?_)
  ·have bp:i+1+k<l.bo.length:=a7 y;refine gt (sj (Fe hl i oz) (aO rfl rfl rfl) rfl rfl rfl) ?_;refine gu (gK rfl rfl rfl (fun h=>sj (Fe hl (i+1+k) oz) (.cons (.opt rfl (o1 h)) (.cons (.opt rfl (o1 h)) (.cons (.opt rfl (o1 h)) .nil))) rfl rfl rfl)) ?_;refine gC (fun y=>?_) (fun y=>?_)
   ·have h2 : prHit l kw i (i + 1 + k) = false := by unfold prHit; rw [show (freeB l kw i && freeB l kw ((i + 1 + k : Nat) : Int)) = false from by rcases uK y with g | g; (rw [g]; rfl); (rw [g, ao1])]; rfl
    refine ga aN ?_;exact aM J2 (k+1) ⟨by omega,fun j h9=>by rcases apz j k with g |g;exact iX j g;(have:j=k:=by omega);subst this;rw[h2];rfl⟩
   have xk:=ui y;refine gt (sj (xG hl au 0 i hk) (.cons (.tmp rfl) (.cons (.const _) (bO rfl rfl))) rfl rfl rfl) ?_;refine gt (sj (xG hl au 0 (i+1+k:Nat) hk) (.cons (.tmp rfl) (.cons (.const _) (bO rfl rfl))) rfl rfl rfl) ?_;refine gc (aim l oz (i+1+k) bp) ?_;refine gc (Kt l hl au 0 i (dw l.bo.length ((i+1+k:Nat):Int)) (kN _ _)) ?_;refine gD ?_;refine gC (fun y=>?_) (fun y=>?_)
   ·have h2 : prHit l kw i (i + 1 + k) = true := by unfold prHit; rw [xk.1, xk.2]; exact (Di.symm.trans y)
    have nG:prAt l kw i=some (i+1+k):=by unfold prAt;rw[j7 oz iX (by rw[h2];rfl),apm];congr 1;omega
    have hg:pairG l kw=some (prG l kw i (i+1+k)):=by unfold pairG;rw[j7 ae hj (by rw[nG];rfl),apm,nG]
    refine gR ?_;rw[hg];exact aD.keep (bB rfl)
   have h2:prHit l kw i (i+1+k)=false:=by unfold prHit;rw[show(decide (0<=jointI l 0 i kw)&&decide (0<=jointI l 0 ((i+1+k:Nat):Int) kw)&&decide (0<=jointI l 0 i (dw l.bo.length ((i+1+k:Nat):Int))))=false from Di.symm.trans y,ao1]
   refine ga aN ?_;exact aM J2 (k+1) ⟨by omega,fun j h9=>by rcases apz j k with g |g;exact iX j g;(have:j=k:=by omega);subst this;rw[h2];rfl⟩
  have bp:¬i+1+k<l.bo.length:=fun h=>by have h1:=yf y;omega
  have nG:prAt l kw i=none:=by unfold prAt;rw[show l.bo.length-(i+1)=k by omega,jm iX];rfl
  refine ga aN ?_;exact aM J1 (i+1) ⟨ae,fun j h9=>by rcases apz j i with g |g;exact hj j g;(have:j=i:=by omega);subst this;rw[nG];rfl⟩
 have ae:=bj hi y;have hg:pairG l kw=none:=by unfold pairG;rw[<- ae,jm hj];rfl
 refine gR ?_;exact aD.sub (aD.keep (bB rfl)) (by rw[hg];exact Sub.tup (.cons wK (.cons (.refl _) .nil)))
theorem akc(l:Li)(hl:l.ok)(au:aG l=0)(kw:List Bool)(hk:kw.length=l.bo.length):Con prog 276 [l.av,.ms 1000 1 0 kw.length] [pP 1000 (.row 1 (kw.map bl))] (.tup [((singleG l kw).getD default).av,bl (singleG l kw).isSome]) [pP 1000 (.row 1 (kw.map bl))]:=by
 have h8:=(dK au).2.2.2.1;refine gF func276 (fun k z h=>bX h) ?_;refine gl ?_;refine aS [2,4,11,12] [2,4,1000] (fun(i:Nat)=>[pP 1 (.ms 1000 1 0 kw.length),pP 13 (i64 i)]) (fun _=>[]) (fun i=>i<=l.bo.length/\∀j,j<i->(!sgHit l kw j)=true) (fun i=>l.bo.length-i) 0 ⟨apx _,fun j h=>by omega⟩ ?_;rintro i ⟨hi,hj⟩ K1 J1;refine gC (fun y=>?_) (fun y=>?_)
 ·have ae:=a7 y;refine gt (sj (Fe hl i oz) (aO rfl rfl rfl) rfl rfl rfl) ?_;refine gC (fun y=>?_) (fun y=>?_)
  ·have h2 : sgHit l kw i = false := by unfold sgHit; rw [eI y]; rfl
   refine ga aN ?_;exact aM J1 (i+1) ⟨ae,fun k h9=>by rcases apz k i with g |g;exact hj k g;(have:k=i:=by omega);subst this;rw[h2];rfl⟩
  have hf:=eH y;refine gt (sj (xG hl au 0 i hk) (.cons (.tmp rfl) (.cons (.const _) (bO rfl rfl))) rfl rfl rfl) ?_;refine gt (sj (xG hl au 1 i hk) (.cons (.tmp rfl) (.cons (.const _) (bO rfl rfl))) rfl rfl rfl) ?_;refine gD ?_;refine gC (fun y=>?_) (fun y=>?_)
  ·have h2 : sgHit l kw i = false := by unfold sgHit; rw [Mi y, ao1]
   refine ga aN ?_;exact aM J1 (i+1) ⟨ae,fun k h9=>by rcases apz k i with g |g;exact hj k g;(have:k=i:=by omega);subst this;rw[h2];rfl⟩
  obtain⟨p0,s0⟩:=KI y;have s1:=(rX (l:=l) (kind:=1) (body:=i) (oth:=kw)).2;have h2:sgHit l kw i=true:=by unfold sgHit;rw[hf,arb p0,arb s0];rfl
  obtain⟨j,pi⟩:∃j,l.jo[(jointI l 1 i kw).toNat]?=some j:=ay oz;have tj:l.jo.getD (jointI l 1 i kw).toNat default=j:=ax pi;have hg:singleG l kw=some (sgG l kw i):=by unfold singleG;rw[j7 ae hj (by rw[h2];rfl),apm]
  refine gi (ko (n:=(jointI l 1 i kw).toNat) oz pi) ?_;refine gC (fun y=>?_) (fun y=>?_)
  ·have rL:j.a=i:=dL y;refine gR ?_;rw[hg];unfold sgG;rw[tj];simp only[apl,aq7 rL]
   exact aD.keep (bB rfl)
  have rL:j.a≠i:=eZ y;refine gR ?_;rw[hg];unfold sgG;rw[tj];simp only[apl,aq6 rL]
  exact aD.keep (bB rfl)
 have ae:=bj hi y;have hg:singleG l kw=none:=by unfold singleG;rw[<- ae,jm hj];rfl
 refine gR ?_;exact aD.sub (aD.keep (bB rfl)) (by rw[hg];exact Sub.tup (.cons wK (.cons (.refl _) .nil)))
theorem EI{k:List Bool}{bs:List Int}{q:Nat}{x:Int}(h:bs[q]?=some x):bQ k (bs.drop q)=bQ (k.set x.toNat true) (bs.drop (q+1)):=by
 have hi:=(anz.1 h).1;rw[ani hi,(anz.1 h).2];rfl
theorem agl{l:Li}{n:Nat}{kw:List Bool}{out:List Gr}{g:Gr}(h:nextG l kw=some g):findFrom l (n+1) kw out=findFrom l n (bQ kw g.bo) (out++[g]):=by
 show(match nextG l kw with |none=>_ |some g=>_)=_;rw[h]
theorem Yv{l:Li}{n:Nat}{kw:List Bool}{out:List Gr}(h:nextG l kw=none):findFrom l n kw out=(kw,out):=by
 cases n with
 |zero=>rfl
 |succ n=>show(match nextG l kw with |none=>_ |some g=>_)=_;rw[h]
theorem EF{α:Type}{o:Option α}(h:o.isSome=false):o=none:=by cases o <;> simp_all
theorem Jz{α:Type}{a b:Option α}(h:a.isSome=true):a=a.or b:=by cases a <;> simp_all
theorem Xw{l:Li}{kw:List Bool}(h:(driverG l kw).or (pairG l kw)=none):nextG l kw=singleG l kw:=by
 unfold nextG;rw[<- Option.or_assoc,h];rfl
theorem YX{l:Li}{kw:List Bool}(h:((driverG l kw).or (pairG l kw)).isSome=true):nextG l kw=(driverG l kw).or (pairG l kw):=by
 unfold nextG;rw[<- Option.or_assoc];exact(Jz h).symm
theorem Ny(l:Li)(hl:l.ok)(au:aG l=0):FP 147 [l.av] (.lst 4 ((findG l).map Gr.av)):=by
 have h8:=(dK au).2.2.2.1;have h0:=(dK au).2.2.2.2;refine ai func147 ?_;refine gt (aK (HT 900 rfl l oz 0 oz) (.cons (.tmp rfl) (.cons (.const _) .nil)) aL rfl rfl) ?_;refine gl ?_;refine gW (Wk.virt 901 4 rfl) ?_;refine lS [1,13] [1] (fun(i:Nat)(kw:List Bool)(out:List Gr)=>[pP 3 (.ms 900 1 0 kw.length),pP 4 (.ms 901 4 0 out.length),pP 14 (i64 i)]) (fun _ kw out=>[pP 900 (.row 1 (kw.map bl)),pP 901 (.row 4 (out.map Gr.av))]) (fun i kw out=>i<=l.bo.length/\kw.length=l.bo.length/\out.length<=i/\findFrom l (l.bo.length-i) kw out=findFrom l l.bo.length (dw l.bo.length 0) []) (fun i _ _=>l.bo.length-i) 0 (dw l.bo.length 0) ([]) ⟨apx _,kN _ _,apu _,rfl⟩ ?_ (h1:=(.cons rfl (.of (by rw[kN])) (.k (.k .nil))))
 rintro i kw out ⟨hi,hk,oA,xk⟩ K1 J1;refine gC (fun z=>?_) (fun z=>?_) (st2:=(18,0))
 ·have ae:=a7 z;have iW:=Con.rekey1 900 rfl rfl rfl (acu l hl au kw hk);have tl:=Con.rekey1 900 rfl rfl rfl (ah3 l hl au kw hk);have gP:=Con.rekey1 900 rfl rfl rfl (akc l hl au kw hk);refine gt (aK iW (bO rfl rfl) aL rfl rfl) ?_;refine Fh [1,5,13,14] [1,900,901] (fun(o:Option Gr)=>[pP 3 (.ms 900 1 0 kw.length),pP 4 (.ms 901 4 0 out.length),pP 6 (bl o.isSome)]) (fun o=>[pP 5 (.box (o.getD default).av.cells)]) (fun o=>o=(driverG l kw).or (pairG l kw)) ?_ ?_
  ·intro K2 J2;refine gC (fun z=>?_) (fun z=>?_)
   ·refine gt (aK tl (bO rfl rfl) aL rfl rfl) ?_;exact wi J2 (pairG l kw) (by rw[EF (eI z)];rfl)
   exact wi J2 (driverG l kw) (Jz (eH z))
  rintro o ho;refine Fh [1,5,13,14] [1,900,901] (fun(og:Option Gr)=>[pP 3 (.ms 900 1 0 kw.length),pP 4 (.ms 901 4 0 out.length),pP 6 (bl og.isSome)]) (fun og=>[pP 5 (.box (og.getD default).av.cells)]) (fun og=>og=nextG l kw) ?_ ?_
  ·intro K3 J3;refine gC (fun z=>?_) (fun z=>?_)
   ·refine gt (aK gP (bO rfl rfl) aL rfl rfl) ?_;exact wi J3 (singleG l kw) (by have:=EF (eI z);rw[ho]at this;exact(Xw this).symm)
   exact wi J3 o (by rw[ho];exact(YX (by rw[<- ho];exact eH z)).symm)
  rintro og xf;refine gC (fun z=>?_) (fun z=>?_) (st1:=(18,0))
  ·have hn : nextG l kw = none := by rw [<- xf]; exact EF (eI z)
   have mf:findG l=out:=by unfold findG;rw[<- xk,Yv hn]
   refine gW ((Wk.freeze (k:=901) rfl).trans<|Wk.of (sl:=[pP 4 (.lst 4 ((findG l).map Gr.av))]) (hp:=[]) (.cons rfl (.of (by rw[mf,b8 (by rw[apr])])) .nil) .nil) ?_;refine ah ?_;rfl
  obtain⟨g,hg⟩:∃g,og=some g:=Option.isSome_iff_exists.1 (eH z);have xl:nextG l kw=some g:=by rw[<- xf,hg]
  have ff:=C0 au xl;subst hg;refine gs (cF (.tmp rfl) rfl (by rw[apr]) (.tmp rfl) T130 rfl T169 rfl rfl (by dsimp only;simp only[ap4,ap9];omega) rfl rfl) ?_ (12,0);refine gW (Wk.of (sl:=[pP 1 (.ptr 1 0),pP 3 (.ms 900 1 0 kw.length),pP 4 (.ms 43 4 0 (out++[g]).length),pP 5 (.ptr 5 0),pP 13 (i64 l.bo.length),pP 14 (i64 i)]) (hp:=[pP 1 (.box l.av.cells),pP 5 (.box g.av.cells),pP 900 (.row 1 (kw.map bl)),pP 43 (.row 4 ((out++[g]).map Gr.av))]) (.k (.k (.cons rfl (.of (by rw[aqk];rfl)) (.k (.k (.k .nil)))))) (.k (.k (.k (.cons rfl (.of (by rw[ap8];rfl)) .nil))))) ?_ (12,0)
  refine gW (Wk.rk (k:=43) (d:=901) rfl rfl) ?_;refine gl ?_;refine kg [1,13,14,45,46] [1,901] (fun(q:Nat)(kk:List Bool)=>[pP 3 (.ms 900 1 0 kk.length),pP 4 (.ms 901 4 0 (out++[g]).length),pP 47 (i64 q)]) (fun _ kk=>[pP 900 (.row 1 (kk.map bl))]) (fun q kk=>q<=g.bo.length/\kk.length=l.bo.length/\bQ kk (g.bo.drop q)=bQ kw g.bo) (fun q _=>g.bo.length-q) 0 kw ⟨apx _,hk,rfl⟩ ?_;rintro q kk ⟨hq,fc,ii⟩ K4 J4;refine gC (fun z=>?_) (fun z=>?_)
  ·have dF:=a7 z;obtain⟨x,hx⟩:=ay dF;have D5:=ff.b x (apo hx);obtain⟨v,hv⟩:∃v,kk[x.toNat]?=some v:=ay oz;refine gi (aA hx) ?_;refine gs (qW (.tmp rfl) (.tmp rfl) T320 rfl T4 rfl oz oz rfl) ?_;refine gs (fg (.tmp rfl) rfl (by rw[ams,apv,hv];rfl) rfl (.const _) rfl rfl T4 rfl rfl) ?_;refine ga (MI (by have:=ff.lb;unfold bf;omega)) ?_;exact jI J4 (q+1) (kk.set x.toNat true) ⟨dF,by rw[aq4];exact fc,by rw[<- EI hx];exact ii⟩ (hw:=Wk.of (.cons rfl (.of (by rw[aq4])) (.k (.k (.k (.k (.k (.k (.k .nil)))))))) (.cons rfl (.of (by rw[aq0,ams];rfl)) (.k (.k .nil))))
  have dF:=bj hq z;have I5:kk=bQ kw g.bo:=by rw[dF,anh]at ii;exact ii
  refine ga aN ?_;exact kL J1 (i+1) kk (out++[g]) ⟨ae,fc,by rw[aqk];simp only[ap4,ap9];omega,by rw[I5,<- agl xl,<- xk];congr 1;omega⟩
 have ae:=bj hi z;have mf:findG l=out:=by unfold findG;rw[<- xk,show l.bo.length-i=0 by omega];rfl
 refine gW ((Wk.freeze (k:=901) rfl).trans<|Wk.of (sl:=[pP 4 (.lst 4 ((findG l).map Gr.av))]) (hp:=[]) (.cons rfl (.of (by rw[mf,b8 (by rw[apr])])) .nil) .nil) ?_;refine ah ?_;rfl
theorem Me{α:Type}{f:List Bool->α->List Bool}{k:List Bool}{l:List α}{i:Nat}{x:α}(h:l[i]?=some x):(l.drop i).foldl f k=(l.drop (i+1)).foldl f (f k x):=by
 have hi:=(anz.1 h).1;rw[ani hi,(anz.1 h).2];rfl
def kF(k:List Bool)(i:Nat):List Int:=((List.range i).filter (fun j=>!k.getD j false)).map (fun j:Nat=>((j:Nat):Int))
theorem JW{k:List Bool}{i:Nat}(h:k.getD i false=false):kF k (i+1)=kF k i++[(i:Int)]:=by
 unfold kF;rw[range_succ,List.filter_append,ap8,List.filter_cons,h];rfl
theorem Le{k:List Bool}{i:Nat}(h:k.getD i false=true):kF k (i+1)=kF k i:=by
 unfold kF;rw[range_succ,List.filter_append,ap8,List.filter_cons,h];simp
theorem Bt(k:List Bool)(i:Nat):(kF k i).length<=i:=by
 unfold kF;rw[apr];exact aqe (List.length_filter_le _ _) (by simp)
theorem wQ{α:Type}{f:α->List Int}:∀(gs:List α)(k:List Bool),(gs.foldl (fun k g=>bQ k (f g)) k).length=k.length
 |[],k=>rfl
 |g::gs,k=>by rw[aq5,wQ gs,mI]
theorem ady(l:Li):(gN (cD l)).length<=l.bo.length:=by
 have h:=Bt (cD l) (cD l).length;have e:(cD l).length=l.bo.length:=by unfold cD;rw[wQ,kN]
 rw[e]at h;unfold gN;rw[e];exact h
theorem ZY(l:Li):(gN (fM l)).length<=l.jo.length:=by
 have h:=Bt (fM l) (fM l).length;have e:(fM l).length=l.jo.length:=by unfold fM;rw[wQ,aqp]
 rw[e]at h;unfold gN;rw[e];exact h
theorem VZ(l:Li)(hl:l.ok)(au:aG l=0):FP 146 [l.av] (.tup [.lst 1 ((gN (cD l)).map i64),.lst 1 ((gN (fM l)).map i64)]):=by
 have h8:=(dK au).2.2.2.1;have h0:=(dK au).2.2.2.2;have I6:l.jo.length<=16:=by have:=(dK au).2.1;unfold fR at this;split at this;cases this;omega
 obtain⟨ff,SG⟩:=wc au;refine ai func146 ?_;refine gt (aK (HT 900 rfl l oz 0 oz) (.cons (.tmp rfl) (.cons (.const _) .nil)) aL rfl rfl) ?_;refine gl ?_;refine gs (kJ (.tmp rfl) T320 rfl T4 rfl rfl oz (by dsimp only;omega) rfl) ?_;refine gD ?_ (2,0);refine gW (Wk.of (sl:=[pP 1 (.ptr 1 0),pP 2 (nS),pP 3 (nS),pP 4 (.ms 900 1 0 (dw l.bo.length 0).length),pP 5 (.ms 21 1 0 (ana l.jo.length false).length)]) (hp:=[pP 1 (.box l.av.cells),pP 900 (.row 1 ((dw l.bo.length 0).map bl)),pP 21 (.row 1 ((ana l.jo.length false).map bl))]) (.k (.k (.k (.cons rfl (.of (by rw[kN])) (.cons rfl (.of (by rw[aqp,aqo])) .nil))))) (.k (.k (.cons rfl (.of (by rw[aqu,aqo];rfl)) .nil)))) ?_ (2,0)
 refine gW (Wk.rk (k:=21) (d:=901) rfl rfl) ?_;refine gc (Ny l hl au) ?_;refine gl ?_;refine lS [1,2,3,23,24] [1] (fun(i:Nat)(k1 k2:List Bool)=>[pP 4 (.ms 900 1 0 k1.length),pP 5 (.ms 901 1 0 k2.length),pP 25 (i64 i)]) (fun _ k1 k2=>[pP 900 (.row 1 (k1.map bl)),pP 901 (.row 1 (k2.map bl))]) (fun i k1 k2=>i<=(findG l).length/\k1.length=l.bo.length/\k2.length=l.jo.length/\((findG l).drop i).foldl (fun k g=>bQ k g.bo) k1=cD l/\((findG l).drop i).foldl (fun k g=>bQ k g.jo) k2=fM l) (fun i _ _=>(findG l).length-i) 0 (dw l.bo.length 0) (ana l.jo.length false) ⟨apx _,kN _ _,aqp,rfl,rfl⟩ ?_
 rintro i k1 k2 ⟨hi,f8,dj,I7,I8⟩ K1 J1;refine gC (fun z=>?_) (fun z=>?_)
 ·have ae:=a7 z;obtain⟨g,hg⟩:=ay ae;have D6:=ff g (apo hg);have eY:=D6.lb;have tk:=D6.lj;refine gi (aA hg) ?_;refine gl ?_;refine kg [1,2,3,7,23,24,25,30,31] [1,7,901] (fun(q:Nat)(kk:List Bool)=>[pP 4 (.ms 900 1 0 kk.length),pP 5 (.ms 901 1 0 k2.length),pP 32 (i64 q)]) (fun _ kk=>[pP 900 (.row 1 (kk.map bl))]) (fun q kk=>q<=g.bo.length/\kk.length=l.bo.length/\bQ kk (g.bo.drop q)=bQ k1 g.bo) (fun q _=>g.bo.length-q) 0 k1 ⟨apx _,f8,rfl⟩ ?_;rintro q kk ⟨hq,fc,ii⟩ K2 J2;refine gC (fun z=>?_) (fun z=>?_)
  ·have dF:=a7 z;obtain⟨x,hx⟩:=ay dF;have D5:=D6.b x (apo hx);obtain⟨v,hv⟩:∃v,kk[x.toNat]?=some v:=ay oz;refine gi (aA hx) ?_;refine gs (qW (.tmp rfl) (.tmp rfl) T320 rfl T4 rfl oz oz rfl) ?_;refine gs (fg (.tmp rfl) rfl (by rw[ams,apv,hv];rfl) rfl (.const _) rfl rfl T4 rfl rfl) ?_;refine ga aN ?_;exact jI J2 (q+1) (kk.set x.toNat true) ⟨dF,by rw[aq4];exact fc,by rw[<- EI hx];exact ii⟩ (hw:=Wk.of (.cons rfl (.of (by rw[aq4])) (.k (.k (.k (.k (.k (.k (.k (.k (.k (.k (.k .nil)))))))))))) (.cons rfl (.of (by rw[aq0,ams];rfl)) (.k (.k (.k .nil)))))
  have dF:=bj hq z;have I5:kk=bQ k1 g.bo:=by rw[dF,anh]at ii;exact ii
  refine gl ?_;refine kg [1,2,3,23,24,25,41,42] [1,900] (fun(p:Nat)(jj:List Bool)=>[pP 4 (.ms 900 1 0 kk.length),pP 5 (.ms 901 1 0 jj.length),pP 43 (i64 p)]) (fun _ jj=>[pP 901 (.row 1 (jj.map bl))]) (fun p jj=>p<=g.jo.length/\jj.length=l.jo.length/\bQ jj (g.jo.drop p)=bQ k2 g.jo) (fun p _=>g.jo.length-p) 0 k2 ⟨apx _,dj,rfl⟩ ?_;rintro p jj ⟨hp,uY,I9⟩ K3 J3;refine gC (fun z=>?_) (fun z=>?_)
  ·have iL:=a7 z;obtain⟨x,hx⟩:=ay iL;have D5:=D6.j x (apo hx);obtain⟨v,hv⟩:∃v,jj[x.toNat]?=some v:=ay oz;refine gi (aA hx) ?_;refine gs (qW (.tmp rfl) (.tmp rfl) T320 rfl T4 rfl oz oz rfl) ?_;refine gs (fg (.tmp rfl) rfl (by rw[ams,apv,hv];rfl) rfl (.const _) rfl rfl T4 rfl rfl) ?_;refine ga aN ?_;exact jI J3 (p+1) (jj.set x.toNat true) ⟨iL,by rw[aq4];exact uY,by rw[<- EI hx];exact I9⟩ (hw:=Wk.of (.k (.cons rfl (.of (by rw[aq4])) (.k (.k (.k (.k (.k (.k (.k (.k (.k .nil))))))))))) (.cons rfl (.of (by rw[aq0,ams];rfl)) (.k (.k .nil))))
  have iL:=bj hp z;have ale:jj=bQ k2 g.jo:=by rw[iL,anh]at I9;exact I9
  refine ga aN ?_;exact kL J1 (i+1) kk jj ⟨ae,fc,uY,by rw[I5,<- I7,Me hg],by rw[ale,<- I8,Me hg]⟩
 have ae:=bj hi z;have e1:k1=cD l:=by rw[ae,anh]at I7;exact I7
 have e2:k2=fM l:=by rw[ae,anh]at I8;exact I8
 refine gW (Wk.virt 902 1 rfl) ?_;refine aS [3,53] [900,901] (fun(i:Nat)=>[pP 2 (.ms 902 1 0 (kF k1 i).length),pP 5 (.ms 901 1 0 k2.length),pP 52 (.ms 900 1 0 k1.length),pP 54 (i64 i)]) (fun i=>[pP 902 (.row 1 ((kF k1 i).map i64))]) (fun i=>i<=k1.length) (fun i=>k1.length-i) 0 (apx _) ?_;rintro i ha K4 J4;refine gC (fun z=>?_) (fun z=>?_) (st2:=(22,0))
 ·have AA:=a7 z;obtain ⟨v,hv⟩:=ay AA;have AC:k1.getD i false = v:=ax hv;have xi:=Bt k1 i;refine gs (qW (.tmp rfl) (.tmp rfl) T320 rfl T4 rfl oz oz rfl) ?_;refine gs (f0 (.tmp rfl) rfl (by rw [ams,aqo,apv,hv]; rfl) T4 rfl rfl rfl) ?_;refine gC (fun z=>?_) (fun z=>?_)
  ·have hu := JW (k := k1) (i := i) (by rw [AC]; exact eI z);refine gs (cF (.tmp rfl) rfl (by rw [apr]) (.tmp rfl) T46 rfl T3 rfl rfl (by dsimp only; simp only [ap4,ap9]; omega) rfl rfl) ?_ (21,0);refine gW (Wk.of (sl:=[pP 2 (.ms 64 1 0 (kF k1 (i + 1)).length),pP 3 (nS),pP 5 (.ms 901 1 0 k2.length),pP 52 (.ms 900 1 0 k1.length),pP 53 (i64 k1.length),pP 54 (i64 i)]) (hp:=[pP 900 (.row 1 (k1.map bl)),pP 901 (.row 1 (k2.map bl)),pP 64 (.row 1 ((kF k1 (i + 1)).map i64))]) (.cons rfl (.of (by rw [hu,aqk]; rfl)) (.k (.k (.k (.k (.k .nil)))))) (.k (.k (.cons rfl (.of (by rw [hu,ap8]; rfl)) .nil)))) ?_ (21,0)
   refine gW (Wk.rk (k:=64) (d:=902) rfl rfl) ?_;refine ga aN ?_;exact aM J4 (i+1) AA (hw:=Wk.of (.cons rfl (.of (by first |rw[hu];done |rfl)) (.k (.k (.k (.k (.k .nil)))))) (.cons rfl (.of (by first |rw[hu];done |rfl)) (.k (.k .nil))))
  have hu:=Le (k:=k1) (i:=i) (by rw[AC];exact eH z);refine ga aN ?_;exact aM J4 (i+1) AA (hw:=Wk.of (.cons rfl (.of (by first |rw[hu];done |rfl)) (.k (.k (.k (.k (.k .nil)))))) (.cons rfl (.of (by first |rw[hu];done |rfl)) (.k (.k .nil))))
 have AA:=bj ha z;refine gW ((Wk.freeze (k:=902) rfl).trans<|Wk.of (sl:=[pP 2 (.lst 1 ((gN (cD l)).map i64)),pP 3 (nS),pP 5 (.ms 901 1 0 k2.length)]) (hp:=[pP 901 (.row 1 (k2.map bl))]) (.cons rfl (.of (by rw[b8 (by rw[apr]),AA,e1];rfl)) (.k (.k .nil))) (.k .nil)) ?_;refine gW (Wk.virt 902 1 rfl) ?_;refine aS [2,67] [901] (fun(i:Nat)=>[pP 3 (.ms 902 1 0 (kF k2 i).length),pP 66 (.ms 901 1 0 k2.length),pP 68 (i64 i)]) (fun i=>[pP 902 (.row 1 ((kF k2 i).map i64))]) (fun i=>i<=k2.length) (fun i=>k2.length-i) 0 (apx _) ?_;rintro i hb K5 J5;refine gC (fun z=>?_) (fun z=>?_) (st2:=(28,0))
 ·have AD:=a7 z;obtain ⟨v,hv⟩:=ay AD;have AC:k2.getD i false = v:=ax hv;have xi:=Bt k2 i;refine gs (qW (.tmp rfl) (.tmp rfl) T320 rfl T4 rfl oz oz rfl) ?_;refine gs (f0 (.tmp rfl) rfl (by rw [ams,aqo,apv,hv]; rfl) T4 rfl rfl rfl) ?_;refine gC (fun z=>?_) (fun z=>?_)
  ·have hu := JW (k := k2) (i := i) (by rw [AC]; exact eI z);refine gs (cF (.tmp rfl) rfl (by rw [apr]) (.tmp rfl) T46 rfl T3 rfl rfl (by dsimp only; simp only [ap4,ap9]; omega) rfl rfl) ?_ (27,0);refine gW (Wk.of (sl:=[pP 2 (.lst 1 ((gN (cD l)).map i64)),pP 3 (.ms 78 1 0 (kF k2 (i + 1)).length),pP 66 (.ms 901 1 0 k2.length),pP 67 (i64 k2.length),pP 68 (i64 i)]) (hp:=[pP 901 (.row 1 (k2.map bl)),pP 78 (.row 1 ((kF k2 (i + 1)).map i64))]) (.k (.cons rfl (.of (by rw [hu,aqk]; rfl)) (.k (.k (.k .nil))))) (.k (.cons rfl (.of (by rw [hu,ap8]; rfl)) .nil))) ?_ (27,0)
   refine gW (Wk.rk (k:=78) (d:=902) rfl rfl) ?_;refine ga aN ?_;exact aM J5 (i+1) AD (hw:=Wk.of (.cons rfl (.of (by first |rw[hu];done |rfl)) (.k (.k (.k (.k .nil))))) (.cons rfl (.of (by first |rw[hu];done |rfl)) (.k .nil)))
  have hu:=Le (k:=k2) (i:=i) (by rw[AC];exact eH z);refine ga aN ?_;exact aM J5 (i+1) AD (hw:=Wk.of (.cons rfl (.of (by first |rw[hu];done |rfl)) (.k (.k (.k (.k .nil))))) (.cons rfl (.of (by first |rw[hu];done |rfl)) (.k .nil)))
 have AD:=bj hb z;refine gW ((Wk.freeze (k:=902) rfl).trans<|Wk.of (sl:=[pP 2 (.lst 1 ((gN (cD l)).map i64)),pP 3 (.lst 1 ((gN (fM l)).map i64))]) (hp:=[]) (.k (.cons rfl (.of (by rw[b8 (by rw[apr]),AD,e2];rfl)) .nil)) .nil) ?_;refine bK ?_;rfl
theorem L0(l:Li)(hl:l.ok)(au:aG l=0):FP 59 [l.av] (.tup [.lst 4 ((splitG l).map Gr.av),i64 (splitE l)]):=by
 have h8:=(dK au).2.2.2.1;have I6:l.jo.length<=16:=by have:=(dK au).2.1;unfold fR at this;split at this;cases this;omega
 have u1:=ady l;have u2:=ZY l;refine ai func59 ?_;refine gc (VZ l hl au) ?_;refine gl ?_;refine gl ?_;refine ga (eF oz) ?_;refine gC (fun z=>?_) (fun z=>?_)
 ·have h1:0 < (gN (cD l)).length + (gN (fM l)).length:=my z;have hE:splitE l = 7:=by unfold splitE; rw [aq6 oz]
  refine gR ?_;exact fv (by unfold splitG;rw[aq6 (by rw[hE];decide),hE];exact Sub.tup (.cons (.nil _ _ _) (.cons (.refl _) .nil)))
 have h1:(gN (cD l)).length+(gN (fM l)).length<=0:=kD z;have hE:splitE l=0:=by unfold splitE;rw[aq7 oz]
 refine gc (Ny l hl au) ?_;refine bK ?_;unfold splitG;rw[aq7 hE,hE];rfl
end Go.Lw
