/- SingularModes: for any linkage and any turns the law returns true and leaves its arguments as they were. No other condition. Part 5 of 8: what the later parts need -/
import Derived.Test.YtokaoegjfpjjnaaGreatSd
set_option linter.unusedVariables false
open List (foldl_cons map_take all_append)
open List renaming mem_of_getElem? → aap, mem_append → aa2, map_cons → ab2, mem_cons → abd, length_cons → aa4, length_append → abi, length_nil → abg, getD_eq_getElem?_getD → aaq, all_eq_true → aa3, getElem?_map → aav, getElem?_replicate → abl, append_nil → ab3, map_append → abf, length_take → abc, take_of_length_le → aa7, drop_zero → ab1, take_length → aa8, not_mem_nil → abb, length_map → aar, mem_of_mem_take → abx, length_replicate → abp, map_replicate → abw, map_set → ab0, length_set → ab4, length_eq_one_iff → YV, mem_of_mem_drop → Y0, getElem?_eq_some_iff → Y1, drop_eq_getElem_cons → Y5, replicate → Y6, drop_length → Y7, mem_map → Y8, mem_singleton → Za, filter_cons → Zf, mem_replicate → Zg, drop_of_length_le → Zm, length_pos_iff → Zr, filter_append → Zy, any_eq_true → Zz, length_eq_zero_iff → ZA
open Nat renaming eq_of_beq_eq_true → aax, le_refl → aau, lt_or_ge → aay, le_trans → abe, zero_le → aa0, blt → X9, zero_add → Yf, pow_succ → Yj, two_pow_pos → Yq, pow_lt_pow_right → Yv, pow_le_pow_right → YK, beq → YQ
open Option renaming map_eq_some_iff → aas, map_some → aam, getD_some → aan
open Bool renaming and_eq_true → aaw, and_false → ZW, false_eq_true → ZX, eq_false_iff → ZY, eq_iff_iff → Z3
open Int renaming toNat_natCast → abn
open Rat renaming intCast_eq_zero_iff → ZV
open Go renaming Value → acg, Program → aci, World → acj
open Go.Proofs.Tryz
namespace Go.Lw
open Go.Proofs
theorem tv{α:Type}(f:α->AV)(l:List α)(hl:l.length<=281474976710656):FP 316 [.lst 3 (l.map f)] (i64 (da l.length)):=by
 refine aj func316 ?_;refine aW [0] [] (fun(k:Nat)=>[pP 3 (i64 k)]) (fun _=>[]) (fun k=>k<=48/\∀j,j<k->2^j<l.length) (fun k=>48-k) 0 ⟨by omega,fun j h=>by omega⟩ ?_;rintro k ⟨hk,hj⟩ K1 J1;refine gs (ia (.const _) (.tmp rfl) oz (nB oz) rfl) ?_;refine gl ?_;refine gC (fun z=>?_) (fun z=>?_)
 ·have h1 : 2 ^ k < l.length := by have := z; simp only [aa, ab7] at this; omega
  have h2:k<48:=by
   rcases aay k 48 with h |h
   ·exact h
   ·have:2 ^ 48 <= 2 ^ k:=cm h;have:(2:Nat) ^ 48 = 281474976710656:=by decide
    omega
  refine ga (dq oz) ?_;exact aR J1 (k+1) ⟨by omega,fun j h=>by rcases aay j k with h3 |h3;exact hj j h3;(have:j=k:=by omega);subst this;exact h1⟩
 have h1:l.length<=2^k:=by have:=z;simp only[aa,decide_eq_false_iff_not]at this;omega
 have h2:=DU hj h1;refine gs (ia (.const _) (.tmp rfl) oz (nB oz) rfl) ?_;refine gl ?_;refine gC (fun z=>?_) (fun z=>?_)
 ·have h3 : 2 ^ k ≠ l.length := by have := z; simp only [aa, bne_iff_ne, ne_eq] at this; omega
  refine ah ?_;unfold da;rw[h2,ab5 h3];rfl
 have h3:2^k=l.length:=by have:=z;simp only[aa,bne_eq_false_iff_eq]at this;omega
 refine ah ?_;unfold da;rw[h2,ab6 h3]
theorem H2(ts:List (List Rt))(a:List Rt)(ha:∀r∈a,r.ok)(hl:a.length<=281474976710656)(ht:ts.length<=281474976710656):FP 263 [cI ts,nR a] (bF (co ts.length a)):=by
 refine aj func263 ?_;refine gl ?_;refine sP [1,4] [] [] [] (¬(a≠[]/\(da a.length<0\/(ts.length:Int)<da a.length))) ?_ ?_
 ·intro K1 J1;refine gC (fun t10=>?_) (fun t10=>?_)
  ·have h0 : a ≠ [] := fun h => by rw [h] at t10; simp [aa] at t10
   refine gc (tv Rt.av a hl) ?_;refine cJ ?_;refine gC (fun t21=>?_) (fun t21=>?_)
   ·have h1:da a.length<0\/(ts.length:Int)<da a.length:=by
     have h9:=t21
     by_cases h:da a.length<0
     ·exact .inl h
     ·simp only[aa,acb h,cond_false,ab7]at h9;exact .inr h9
    refine ah ?_;unfold co;rw[ab6 ⟨h0,h1⟩];rfl
   have h1:¬(da a.length<0\/(ts.length:Int)<da a.length):=by
    have h9:=t21
    by_cases h:da a.length<0
    ·simp only[aa,aca h,cond_true]at h9;cases h9
    ·simp only[aa,acb h,cond_false,decide_eq_false_iff_not]at h9;exact fun h'=>h'.elim h h9
   exact kC J1 (fun h=>h1 h.2)
  have h0:a=[]:=by
   cases a with
   |nil=>rfl
   |cons c l=>simp[aa]at t10
  exact kC J1 (fun h=>h.1 h0)
 rintro hn;refine gl ?_;refine aW [23,24] [] (fun(i:Nat)=>[pP 25 (i64 i)]) (fun _=>[]) (fun i=>i<=a.length/\(a.take i).all Rt.valid=true) (fun i=>a.length-i) 0 ⟨aa0 _,by simp⟩ ?_;rintro i ⟨hi,hv⟩ K2 J2;refine gC (fun z=>?_) (fun z=>?_)
 ·have hin : i < a.length := by simpa [aa] using z
  obtain⟨r,hr⟩:=ay hin;have hrok:=ha r (aap hr);refine gi (aH hr) ?_;refine gc (ua r hrok) ?_;refine gC (fun z=>?_) (fun z=>?_)
  ·have hrv : r.valid = false := by simpa using z
   refine ah ?_;unfold co;rw[ab5 hn,ab5]
   ·rfl
   ·rw[aa3];intro h;rw[h r (aap hr)]at hrv;cases hrv
  have hrv:r.valid=true:=by simpa using z
  refine ga aS ?_;exact aR J2 (i+1) ⟨by omega,by rw[dK hr,all_append,hv];simp[hrv]⟩
 have hin:i=a.length:=by have:a.length<=i:=(by simpa[aa]using z);omega
 subst hin;rw[aa8]at hv;refine ah ?_;unfold co;rw[ab5 hn,ab6 hv];rfl
theorem F5(a:List Rat)(ha:∀q∈a,Qs q)(hl:a.length<=281474976710656):FP 415 [nA a] (bl (bG a)):=by
 refine aj func415 ?_;refine gl ?_;refine aW [5,6] [] (fun(i:Nat)=>[pP 7 (i64 i)]) (fun _=>[]) (fun i=>i<=a.length/\bG (a.take i)=true) (fun i=>a.length-i) 0 ⟨aa0 _,by simp[bG]⟩ ?_;rintro i ⟨hi,hv⟩ K1 J1;refine gC (fun z=>?_) (fun z=>?_)
 ·have hin : i < a.length := by simpa [aa] using z
  obtain⟨q,hq⟩:=ay hin;have hqs:=ha q (aap hq);refine gi (aH hq) ?_;refine gc (xE (rt q) hqs.ok) ?_;refine gC (fun t13=>?_) (fun t13=>?_)
  ·have h0:q≠0:=by
    intro h;have h9:=t13;rw[cc,h]at h9;cases h9
   refine ah ?_
   have:bG a=false:=by
    rw[ZY];intro h;exact h0 (by simpa using aa3.1 h q (aap hq))
   rw[this];rfl
  have h0:q=0:=by
   have h9:bV q=0:=by have:=t13;rw[cc]at this;simpa[aa]using this
   exact pY h9
  refine ga aS ?_;exact aR J1 (i+1) ⟨by omega,by rw[dK hq];simp only[bG,all_append,aaw];exact⟨hv,by simp[h0]⟩⟩
 have hin:i=a.length:=by have:a.length<=i:=(by simpa[aa]using z);omega
 subst hin;rw[aa8]at hv;refine ah ?_;rw[hv];rfl
theorem HM(a:List Rat)(hl:a.length<=281474976710656):FP 348 [nA a] (bl (bG a)):=by
 refine aj func348 ?_;refine gl ?_;refine aW [5,6] [] (fun(i:Nat)=>[pP 7 (i64 i)]) (fun _=>[]) (fun i=>i<=a.length/\bG (a.take i)=true) (fun i=>a.length-i) 0 ⟨aa0 _,by simp[bG]⟩ ?_;rintro i ⟨hi,hv⟩ K1 J1;refine gC (fun z=>?_) (fun z=>?_)
 ·have hin : i < a.length := by simpa [aa] using z
  obtain⟨q,hq⟩:=ay hin;refine gi (aH hq) ?_;refine cJ ?_;refine cJ ?_;refine gC (fun z=>?_) (fun z=>?_)
  ·have h0:q≠0:=Gg z;refine ah ?_
   have:bG a=false:=by
    rw[ZY];intro h;exact h0 (by simpa using aa3.1 h q (aap hq))
   rw[this];rfl
  have h0:q=0:=Jw z;refine ga aS ?_;exact aR J1 (i+1) ⟨by omega,by rw[dK hq];simp only[bG,all_append,aaw];exact⟨hv,by simp[h0]⟩⟩
 have hin:i=a.length:=by have:a.length<=i:=(by simpa[aa]using z);omega
 subst hin;rw[aa8]at hv;refine ah ?_;rw[hv];rfl
theorem B3(a:List Rat)(ha:∀q∈a,Qs q)(hl:a.length<=1099511627776):FP 347 [nA a] (nA a):=by
 refine aj func347 ?_;refine gl ?_;refine gW (Wk.virt 900 3 rfl) ?_;refine aW [6,7] [] (fun(i:Nat)=>[pP 3 (.ms 900 3 0 i),pP 8 (i64 i)]) (fun i=>[pP 900 (.row 3 ((a.take i).map qA))]) (fun i=>i<=a.length) (fun i=>a.length-i) 0 (aa0 _) ?_;rintro i hi K1 J1;refine gC (fun z=>?_) (fun z=>?_) (st2:=(7,0))
 ·have hin : i < a.length := by simpa [aa] using z
  obtain⟨q,hq⟩:=ay hin;have hqs:=(ha q (aap hq)).ok;have hl1:(rt q).num.length<=137438953472:=hqs.2.2.1;have hl2:(rt q).den.length<=137438953472:=hqs.2.2.2;refine gi (aH hq) ?_;refine gs (jI T104 rfl T354 rfl rfl rfl) ?_;refine gs (qT (.tmp rfl) rfl rfl (.tmp rfl) T104 rfl T354 rfl rfl (by simp only[aar];omega) rfl rfl) ?_;refine gs (jI T104 rfl T354 rfl rfl rfl) ?_;refine gs (qT (.tmp rfl) rfl rfl (.tmp rfl) T104 rfl T354 rfl rfl (by simp only[aar];omega) rfl rfl) ?_;refine gs (cK (.tmp rfl) rfl (by simp;omega) (.tmp rfl) T53 rfl T106 rfl rfl (by simp;omega) rfl rfl) ?_;refine gD ?_ (6,0);refine gW (Wk.of (sl:=[pP 3 (.ms 25 3 0 (i+1)),pP 6 (nA a),pP 7 (i64 a.length),pP 8 (i64 i)]) (hp:=[pP 25 (.row 3 ((a.take (i+1)).map qA))]) bb (.cons rfl (BlkSub.of (by rw[dK hq,abf];rfl)) .nil)) ?_ (6,0);refine gW (Wk.rk (k:=25) (d:=900) rfl rfl) ?_;refine ga aS ?_;exact aR J1 (i+1) hin
 have hin:i=a.length:=by have:a.length<=i:=(by simpa[aa]using z);omega
 subst hin;refine gW ((Wk.freeze (k:=900) rfl).trans<|Wk.of (sl:=[pP 3 (nA a)]) (hp:=[]) (.cons rfl (Sub.of (by rw[b7 (by simp),aa8];rfl)) .nil) .nil) ?_;refine ah ?_;rfl
theorem mb{n:Nat}(a:List Rat)(hn:n<=5)(ha:Nl n a)(hs:∀q∈a,Qs q):FP 226 [nA a] (nA (sh n (ae n a))):=by
 have hl:=ha.len5 hn;rw[<- sN ha hn];refine aj func226 ?_;refine gc (tv qA a oz) ?_;refine gl ?_;refine gC (fun z=>?_) (fun z=>?_) (st1:=(3,0));exact acc z (by rcases ha with rfl |⟨j,hj,h⟩;(simp[aa]);(rw[h,ql];simp[aa];omega));refine gl ?_;refine aW [0] [] (fun(m:Nat)=>[pP 4 (i64 m)]) (fun _=>[]) (fun m=>my a m) (fun m=>m) a.length (H4 (ha.mono hn)) ?_;rintro m hm K1 J1;refine gs (fa rfl rfl rfl (fun h=>fv (.opt rfl (o1 h)) (.const _) oz (f7 (by have:=hm.le;omega)) rfl)) ?_;refine gs (fa rfl rfl rfl (fun h=>di (.opt rfl (o1 h)) (.some _ (.opt rfl (o1 h)) oz) (.some _ (.opt rfl (o1 h)) oz) T53 rfl T106 rfl oz (by have:=hm.le;simp;omega) rfl)) ?_;refine b8 (fun _=>(by have h9:=HM ((a.drop (m/2)).take (m-m/2)) (by simp;omega);rw[<- tD]at h9;exact h9)) ?_;refine gC (fun t31=>?_) (fun t31=>?_)
 ·have h1:1<m/\bG ((a.drop (m/2)).take (m-m/2))=true:=by
   have h9:=t31
   by_cases h:(m:Int)>1
   ·simp only[aa,aca h,cond_true]at h9;exact⟨by omega,h9⟩
   ·simp only[aa,acb h,cond_false]at h9;cases h9
  refine gs (fv (.tmp rfl) (.const _) oz (f7 (by have:=hm.le;omega)) rfl) ?_;exact aR J1 (m/2) (Ky hm h1.1 h1.2)
 have h1:1<m->bG ((a.drop (m/2)).take (m-m/2))=false:=by
  intro h;have h9:=t31;simp only[aa,aca (show(m:Int)>1 by omega),cond_true]at h9;exact h9
 refine gs (fa rfl rfl rfl (fun h=>di (.opt rfl (o1 h)) (.none _) (.some _ (.const _) oz) T53 rfl T106 rfl oz (by have h8:(m:Int)=1:=(by simpa[aa]using h);have:=hm.le;simp only[aar];omega) rfl)) ?_;refine b8 (fun _=>(by have h9:=HM ((a.drop 0).take 1) (by simp;omega);rw[<- tD]at h9;exact h9)) ?_;refine gC (fun t40=>?_) (fun t40=>?_)
 ·have h2:m=1/\bG (a.take 1)=true:=by
   have h9:=t40
   by_cases h:m=1
   ·rw[h]at h9;exact⟨h,h9⟩
   ·rw[show aa .eql (m:Int) 1=false by simp[aa];omega]at h9;cases h9
  obtain⟨rfl,h3⟩:=h2;refine gR ?_;exact lc (by rw[JS hm h3];exact Sub.nil _ _ _)
 have h2:m=1->bG (a.take 1)=false:=by
  intro h;have h9:=t40;rw[h]at h9;exact h9
 have h3:=DR hm h1 h2;refine gs (di (.tmp rfl) (.none _) (.some _ (.tmp rfl) oz) T53 rfl T106 rfl oz (by have:=hm.le;simp;omega) rfl) ?_;refine gc (by have h9:=B3 ((a.drop 0).take m) (fun q hq=>hs q (Y0 (abx hq))) (by simp;omega);have h8:=h9;rw[<- tD]at h9;exact h9) ?_;refine ah ?_;rw[h3];simp[nA,map_take]
theorem zf(d:Nat)(hd:X9 d 1000=true)(a:List Rat)(n:Nat)(hl:a.length<=n)(hn:n<=1099511627776) :
  Con prog 414 [nA a,i64 n] [] (.ms d 3 0 n) [(d,some (.row 3 ((a6 a n).map qA)))]:=by
 refine gF func414 (fun k z h=>by cases h) ?_;refine gs (iD (.tmp rfl) T53 rfl T106 rfl rfl oz (by dsimp only;omega) rfl) ?_;refine gs (UN (.tmp rfl) rfl (by simp) (.tmp rfl) T53 rfl T106 rfl rfl (by simp;omega) rfl) ?_ (3,0);refine gW (Wk.of (sl:=[pP 5 (.ms 7 3 0 n)]) (hp:=[pP 7 (.row 3 ((a6 a n).map qA))]) (.cons rfl (Sub.of (by simp)) .nil) (.cons rfl (EO a n hl) .nil)) ?_;refine gR ?_;exact aC.own1 rfl hd rfl
theorem yv(a:List Rat)(n:Nat)(hl:a.length<=n)(hn:n<=1099511627776):FP 414 [nA a,i64 n] (nA (a6 a n)):=by
 have h:=Con.freeze (by rw[aar,dO hl];omega) (zf 0 rfl a n hl hn);rw[ab1,aa7 (by rw[aar,dO hl];exact aau _)]at h;exact h
theorem ow(a b:List Rat)(ha:∀q∈a,Qs q)(hb:∀q∈b,Qs q)(la:a.length<=1099511627776)(lb:b.length<=1099511627776):FP 334 [nA a,nA b] (nA (cD a b)):=by
 obtain⟨n,hn⟩:∃n,n=max a.length b.length:=⟨_,rfl⟩
 have hwa:=dO (show a.length<=n by omega);have hwb:=dO (show b.length<=n by omega);have hp:=eG (a:=a) (b:=b);rw[<- hn]at hp;have qa:∀q∈a6 a n,Qs q:=fun q hq=>by rcases aa2.1 hq with h |h;exact ha q h;(rw[(Zg.1 h).2];exact Qs.zero)
 have qb:∀q∈a6 b n,Qs q:=fun q hq=>by rcases aa2.1 hq with h |h;exact hb q h;(rw[(Zg.1 h).2];exact Qs.zero)
 refine aj func334 ?_;refine gl ?_;refine gl ?_;refine gs (pX (.tmp rfl) (.tmp rfl) rfl) ?_ (2,0);refine gW (Wk.of (sl:=[pP 0 (nA a),pP 1 (nA b),pP 5 (i64 n)]) (hp:=[]) (.k (.k (.cons rfl (Sub.int oz) .nil))) .nil) ?_;refine go ?_;refine gt (aE (zf 900 rfl a n oz oz) (bC rfl rfl) aG rfl rfl) ?_;refine gc (yv b n oz oz) ?_;refine aW [1,19] [] (fun(i:Nat)=>[pP 0 (.ms 900 3 0 n),pP 20 (i64 i)]) (fun i=>[pP 900 (.row 3 (((cD a b).take i++(a6 a n).drop i).map qA))]) (fun i=>i<=n) (fun i=>n-i) 0 (aa0 _) ?_;rintro i hi K1 J1;refine gC (fun z=>?_) (fun z=>?_) (st2:=(8,0))
 ·have hin : i < n := by simpa [aa] using z
  have hmx:=A7 (p:=cD a b) (w:=a6 a n) (i:=i) oz oz;have hqa:=(qa _ (uk (i:=i) oz)).ok;have hqb:=(qb _ (uk (i:=i) oz)).ok;refine gs (cg (n:=i) (.tmp rfl) (.tmp rfl) T53 rfl T106 rfl oz oz rfl) ?_;refine gs (eK (.tmp rfl) rfl (aH hmx) T106 rfl rfl rfl) ?_;refine gi (aH (getD_some (i:=i) (l:=a6 b n) oz)) ?_;refine gc (oJ (rt ((a6 a n).getD i 0)) (rt ((a6 b n).getD i 0)) hqa hqb) ?_;refine gs (cg (n:=i) (.tmp rfl) (.tmp rfl) T53 rfl T106 rfl oz oz rfl) ?_;refine gs (dM (.tmp rfl) rfl (aH hmx) rfl (.tmp rfl) rfl rfl T106 rfl rfl) ?_;refine gD ?_ (7,0);refine gW (Wk.of (sl:=[pP 0 (.ms 900 3 0 n),pP 1 (nA (a6 b n)),pP 19 (i64 n),pP 20 (i64 i)]) (hp:=[pP 900 (.row 3 (((cD a b).take (i+1)++(a6 a n).drop (i+1)).map qA))]) bb (.cons rfl (BlkSub.of (by rw[B5 oz oz (by rw[Ib,<- hn,cc,cc])])) .nil)) ?_;refine ga aS ?_;exact aR J1 (i+1) hin
 have hin:i=n:=by have:n<=i:=(by simpa[aa]using z);omega
 refine gW ((Wk.freeze (k:=900) rfl).trans<|Wk.of (sl:=[pP 0 (nA (cD a b))]) (hp:=[]) (.cons rfl (Sub.of (by rw[b7 (by simp;omega),hin,Zm oz,aa7 oz,ab3];rfl)) .nil) .nil) ?_;refine ah ?_;rfl
theorem uu(a:List Rat)(ha:∀q∈a,Qs q)(la:a.length<=1099511627776):FP 251 [nA a] (nA (de a)):=by
 obtain⟨n,hn⟩:∃n,n=a.length:=⟨_,rfl⟩
 refine aj func251 ?_;refine gl ?_;refine gs (iD (.tmp rfl) T53 rfl T106 rfl rfl oz (by dsimp only;omega) rfl) ?_ (2,0);refine gW (Wk.of (sl:=[pP 0 (nA a),pP 3 (.ms 7 3 0 n)]) (hp:=[pP 7 (.row 3 ((a6 [] n).map qA))]) (.k (.cons rfl (Sub.of (by simp[hn])) .nil)) (.cons rfl (BlkSub.of_ (EO [] n (by simp)) (by rw[hn];rfl)) .nil)) ?_;refine gl ?_;refine aW [0] [] (fun(i:Nat)=>[pP 3 (.ms 7 3 0 n),pP 9 (i64 n),pP 10 (i64 i)]) (fun i=>[pP 7 (.row 3 (((de a).take i++(a6 [] n).drop i).map qA))]) (fun i=>i<=n) (fun i=>n-i) 0 (aa0 _) ?_ (h1:=(.k (.cons rfl (Sub.int oz) (.k .nil))));rintro i hi K1 J1;refine gC (fun z=>?_) (fun z=>?_) (st2:=(7,0))
 ·have hin : i < n := by simpa [aa] using z
  have hm1:=jf (a:=a);have hm2:=dO (a:=[]) (n:=n) (by simp);have hmx:=A7 (p:=de a) (w:=a6 [] n) (i:=i) oz oz;have hqa:=(ha _ (uk (i:=i) oz)).ok;refine gi (aH (getD_some (i:=i) oz)) ?_;refine gc (Dm (rt (a.getD i 0)) hqa) ?_;refine gs (cg (n:=i) (.tmp rfl) (.tmp rfl) T53 rfl T106 rfl oz oz rfl) ?_;refine gs (dM (.tmp rfl) rfl (aH hmx) rfl (.tmp rfl) rfl rfl T106 rfl rfl) ?_ (6,0);refine gW (Wk.of (sl:=[pP 0 (nA a),pP 3 (.ms 7 3 0 n),pP 9 (i64 n),pP 10 (i64 i)]) (hp:=[pP 7 (.row 3 (((de a).take (i+1)++(a6 [] n).drop (i+1)).map qA))]) bb (.cons rfl (BlkSub.of (by rw[B5 oz oz (by rw[Qn,cc])])) .nil)) ?_;refine ga aS ?_;exact aR J1 (i+1) hin
 have hin:i=n:=by have:n<=i:=(by simpa[aa]using z);omega
 have hm1:=jf (a:=a);have hm2:=dO (a:=[]) (n:=n) (by simp);refine gW ((Wk.freeze (k:=7) rfl).trans<|Wk.of (sl:=[pP 3 (nA (de a))]) (hp:=[]) (.cons rfl (Sub.of (by rw[b7 (by simp;omega),hin,Zm oz,aa7 oz,ab3];rfl)) .nil) .nil) ?_;refine ah ?_;rfl
theorem Ap(a b:List Rat)(n:Nat)(la:a.length<=n)(lb:b.length<=n)(hn:n<=274877906944):FP 362 [nA a,nA b,i64 n] (nA (fh a b n)):=by
 refine aj func362 ?_;refine gt (aE (zf 900 rfl a n la oz) (bC rfl rfl) aG rfl rfl) ?_;refine gc (yv b n lb oz) ?_;refine gs (qT (.tmp rfl) rfl (by simp[dO la]) (.tmp rfl) T53 rfl T106 rfl rfl (by simp[dO lb];omega) rfl rfl) ?_;refine ah ?_;rw[<- abf];rfl
theorem rJ(ts:LL)(m r:Nat)(ht:iO ts m r)(hm:m<=5)(hml:m<=ts.length)(k:Nat):∀(j:Nat)(a b:List Rat)(e f:Nat),j<=m->j<=k->Nl j a->Nl j b->Cb e a->Cb f b->e+f+eB r j<4398046511104 ->
  FP 335 [aT ts,nA a,nA b] (nA (pT ts k a b)):=by
 induction k using Nat.strongRecOn
 rename_i k ih;intro j a b e f hj hjk ha hb ca cb hs;have hla:=ha.len5 oz;have hlb:=hb.len5 oz;refine aj func335 ?_;refine gl ?_;refine gl ?_;refine MA [3] [3] (fun(x y:List Rat)(e1 f1:Nat)=>[pP 1 (nA x),pP 2 (nA y)]) (fun _ _ _ _=>[]) (fun x y e1 f1=>y.length<=x.length/\Nl j x/\Nl j y/\Cb e1 x/\Cb f1 y/\e1+f1=e+f/\pT ts k a b=pT ts k x y) ?_ ?_
 ·intro K1 J1;refine gC (fun z=>?_) (fun z=>?_)
  ·have h1 : a.length < b.length := by have := z; simp only [aa, ab7] at this; omega
   exact JG J1 b a f e ⟨by omega,hb,ha,cb,ca,by omega,yC ts k a b h1⟩
  have h1:b.length<=a.length:=by have:=z;simp only[aa,decide_eq_false_iff_not]at this;omega
  exact JG J1 a b e f ⟨h1,ha,hb,ca,cb,rfl,rfl⟩
 rintro x y e1 f1 ⟨hyx,hx,hy,cx,cy,hef,hp⟩;have hlx:=hx.len5 oz;have hly:=hy.len5 oz;have qx:∀q∈x,Qs q:=fun q hq=>cx.qs oz hq
 have qy:∀q∈y,Qs q:=fun q hq=>cy.qs oz hq
 rw[hp];refine gc (F5 x qx oz) ?_;refine b8 (fun _=>(F5 y qy oz)) ?_;refine gC (fun t21=>?_) (fun t21=>?_)
 ·have h1:bG x=true\/bG y=true:=by
   have:=t21;cases hz:bG x
   ·rw[hz]at this;exact .inr this
   ·exact .inl rfl
  refine gR ?_;exact lc (by rw[RO hyx h1];exact Sub.nil _ _ _)
 have h1:¬(bG x=true\/bG y=true):=by
  have:=t21;cases hz:bG x
  ·rw[hz]at this;intro h;rcases h with h |h;cases h;(rw[show bG y=false from this]at h;cases h)
  ·rw[hz]at this;cases this
 refine gl ?_;refine gC (fun z=>?_) (fun z=>?_)
 ·have h2 : x.length = 1 := by have := z; simp only [aa, beq_iff_eq] at this; omega
  obtain⟨p,rfl⟩:=YV.1 h2;have h3:y≠[]:=fun h=>h1 (.inr (by rw[h];rfl))
  obtain⟨q,rfl⟩:∃q,y=[q]:=YV.1 (by have:=Zr.2 h3;simp at hyx;omega);refine gi rfl ?_;refine gi rfl ?_;refine gc (FL (rt p) (rt q) (qx p (by simp)).ok (qy q (by simp)).ok) ?_;refine gD ?_;refine ah ?_;rw[V4 h1,cc,cc];rfl
 have h2:x.length≠1:=by have:=z;simp only[aa,beq_eq_false_iff_ne,ne_eq]at this;omega
 have h3:x≠[]:=fun h=>h1 (.inl (by rw[h];rfl))
 obtain⟨i,hij,hxl⟩:∃i,i+1<=j/\x.length=2^(i+1):=by
  rcases ou hx with h |h |h
  ·exact acc (ZA.1 h) h3
  ·exact acc h h2
  ·exact h
 obtain⟨k',rfl⟩:∃k',k=k'+1:=⟨k-1,by omega⟩
 have hp2:=Yq i;have hpi:2^i<=32:=cm (b:=5) oz;have hps:2^(i+1)=2*2^i:=by rw[Yj];omega
 have hes:eB r (i+1)<=eB r j:=gX r hij;have hee:eB r (i+1)=2*eB r i+r+2:=rfl;have n1:Nl i (x.take (2^i)):=.inr ⟨i,aau _,fZ hxl⟩;have n2:Nl i (x.drop (2^i)):=.inr ⟨i,aau _,gh hxl⟩;refine gl ?_;refine gs (fv (.tmp rfl) (.const _) oz (show _=((2^i:Nat):Int) by rw[f7 oz,hxl,fK]) rfl) ?_;refine gs (di (.tmp rfl) (.none _) (.some _ (.tmp rfl) oz) T53 rfl T106 rfl oz (by simp only[aar];omega) rfl) ?_;refine gs (di (.tmp rfl) (.some _ (.tmp rfl) oz) (.none _) T53 rfl T106 rfl (by simp only[aar];omega) oz rfl) ?_;refine gD ?_ (9,0);refine gW (Wk.of (sl:=[pP 1 (nA x),pP 2 (nA y),pP 3 (.ptr 3 0),pP 7 (i64 ((2^i:Nat):Int)),pP 8 (nA (x.take (2^i))),pP 9 (nA (x.drop (2^i)))]) (hp:=[pP 3 (.box [.lst 1 (ts.map nA)])]) (.k (.k (.k (.k (.cons rfl (Sub.of (l6 x (2^i))) (.cons rfl (Sub.of (mz x (2^i))) .nil)))))) (.k .nil)) ?_;refine gl ?_;refine gC (fun z=>?_) (fun z=>?_)
 ·have h4 : y.length <= 2 ^ i := by have := z; simp only [aa, ab7] at this; omega
  have n3:Nl i y:=VX hy h4;have s1:=gd ts m ht.1 i k' _ _ oz oz n1 n3;have s2:=gd ts m ht.1 i k' _ _ oz oz n2 n3;refine gc (ih k' oz i _ _ e1 f1 oz oz n1 n3 cx.take cy oz) ?_;refine gc (ih k' oz i _ _ e1 f1 oz oz n2 n3 cx.drop cy oz) ?_;refine gc (Ap _ _ (2^i) s1.1.le s2.1.le oz) ?_;refine gD ?_;refine ah ?_;rw[NF hxl h4 h1]
 have h4:¬y.length<=2^i:=by have:=z;simp only[aa,decide_eq_false_iff_not]at this;omega
 have hyl:=Ua hy h4 oz;have n3:Nl i (y.take (2^i)):=.inr ⟨i,aau _,fZ hyl⟩;have n4:Nl i (y.drop (2^i)):=.inr ⟨i,aau _,gh hyl⟩;have nd:=ht.1 i oz;have cd:=ht.2.cb i;have s1:=gd ts m ht.1 i k' _ _ oz oz n1 n3;have s2:=gd ts m ht.1 i k' _ _ oz oz n2 n4;have s3:=gd ts m ht.1 i k' _ _ oz oz s2.1 nd;have s4:=gd ts m ht.1 i k' _ _ oz oz n1 n4;have s5:=gd ts m ht.1 i k' _ _ oz oz n2 n3;have c1:=Cb.mul ht (k:=k') (show i<=m by omega) oz n1 n3 cx.take cy.take;have c2:=Cb.mul ht (k:=k') (show i<=m by omega) oz n2 n4 cx.drop cy.drop;have c3:=Cb.mul ht (k:=k') (show i<=m by omega) oz s2.1 nd c2 cd;have c4:=Cb.mul ht (k:=k') (show i<=m by omega) oz n1 n4 cx.take cy.drop;have c5:=Cb.mul ht (k:=k') (show i<=m by omega) oz n2 n3 cx.drop cy.take;have hpT:=Pw (ts:=ts) (k:=k') hxl h4 hyx h1;refine gs (di (.tmp rfl) (.none _) (.some _ (.tmp rfl) oz) T53 rfl T106 rfl oz (by simp only[aar];omega) rfl) ?_;refine gs (di (.tmp rfl) (.some _ (.tmp rfl) oz) (.none _) T53 rfl T106 rfl (by simp only[aar];omega) oz rfl) ?_;refine gD ?_ (12,0);refine gW (Wk.of (sl:=[pP 1 (nA x),pP 3 (.ptr 3 0),pP 7 (i64 ((2^i:Nat):Int)),pP 8 (nA (x.take (2^i))),pP 9 (nA (x.drop (2^i))),pP 10 (nA (y.take (2^i))),pP 11 (nA (y.drop (2^i)))]) (hp:=[pP 3 (.box [.lst 1 (ts.map nA)])]) (.k (.k (.k (.k (.k (.cons rfl (Sub.of (l6 y (2^i))) (.cons rfl (Sub.of (mz y (2^i))) .nil))))))) (.k .nil)) ?_;refine gc (tv qA x oz) ?_;refine ga (show _=(i:Int) by rw[hxl,ql,dP oz];omega) ?_;refine gi (wt (j:=i) oz) ?_;refine gD ?_;refine gc (ih k' oz i _ _ e1 f1 oz oz n1 n3 cx.take cy.take oz) ?_;refine gc (ih k' oz i _ _ e1 f1 oz oz n2 n4 cx.drop cy.drop oz) ?_;refine gc (ih k' oz i _ _ _ _ oz oz s2.1 nd c2 cd oz) ?_;refine gc (ow _ _ (fun q hq=>c1.qs oz hq) (fun q hq=>c3.qs oz hq) (by have:=s1.1.le;omega) (by have:=s3.1.le;omega)) ?_;refine gD ?_;refine gc (ih k' oz i _ _ e1 f1 oz oz n1 n4 cx.take cy.drop oz) ?_;refine gc (ih k' oz i _ _ e1 f1 oz oz n2 n3 cx.drop cy.take oz) ?_;refine gc (ow _ _ (fun q hq=>c4.qs oz hq) (fun q hq=>c5.qs oz hq) (by have:=s4.1.le;omega) (by have:=s5.1.le;omega)) ?_;refine gc (Ap _ _ (2^i) (by have:=s1.1.le;have:=s3.1.le;rw[eG];omega) (by have:=s4.1.le;have:=s5.1.le;rw[eG];omega) oz) ?_;refine gD ?_;refine ah ?_;rw[hpT]
theorem CJ(ts:LL)(m r:Nat)(ht:iO ts m r)(hm:m<=5)(hml:m<=ts.length)(i:Nat)(a:List Rat)(e:Nat)(hi:i+1<=m)(hal:a.length=2^(i+1))(ca:Cb e a)(hs:4*e+3*eB r i+r+1<4398046511104) :
  FP 317 [aT ts,nA a] (nA (iN ts i a)):=by
 have hp2:=Yq i;have hpi:2^i<=32:=cm (b:=5) oz;have hps:2^(i+1)=2*2^i:=by rw[Yj];omega
 have n1:Nl i (a.take (2^i)):=.inr ⟨i,aau _,fZ hal⟩;have n2:Nl i (a.drop (2^i)):=.inr ⟨i,aau _,gh hal⟩;have nd:=ht.1 i oz;have cd:=ht.2.cb i;have s1:=gd ts m ht.1 i i _ _ oz oz n1 n1;have s2:=gd ts m ht.1 i i _ _ oz oz n2 n2;have s3:=gd ts m ht.1 i i _ _ oz oz s2.1 nd;have c1:=Cb.mul ht (k:=i) (show i<=m by omega) oz n1 n1 ca.take ca.take;have c2:=Cb.mul ht (k:=i) (show i<=m by omega) oz n2 n2 ca.drop ca.drop;have c3:=Cb.mul ht (k:=i) (show i<=m by omega) oz s2.1 nd c2 cd;refine aj func317 ?_;refine gl ?_;refine gs (fv (.tmp rfl) (.const _) oz (show _=((2^i:Nat):Int) by rw[f7 oz,hal,fK]) rfl) ?_;refine gs (di (.tmp rfl) (.none _) (.some _ (.tmp rfl) oz) T53 rfl T106 rfl oz (by simp only[aar];omega) rfl) ?_;refine gs (di (.tmp rfl) (.some _ (.tmp rfl) oz) (.none _) T53 rfl T106 rfl (by simp only[aar];omega) oz rfl) ?_;refine gD ?_ (3,0);refine gW (Wk.of (sl:=[pP 1 (nA a),pP 2 (.ptr 2 0),pP 6 (nA (a.take (2^i))),pP 7 (nA (a.drop (2^i)))]) (hp:=[pP 2 (.box [.lst 1 (ts.map nA)])]) (.k (.k (.cons rfl (Sub.of (l6 a (2^i))) (.cons rfl (Sub.of (mz a (2^i))) .nil)))) (.k .nil)) ?_;refine gc (rJ ts m r ht hm hml i i _ _ e e oz oz n1 n1 ca.take ca.take oz) ?_;refine gc (rJ ts m r ht hm hml i i _ _ e e oz oz n2 n2 ca.drop ca.drop oz) ?_;refine gc (tv qA a oz) ?_;refine ga (show _=(i:Int) by rw[hal,ql,dP oz];omega) ?_;refine gi (wt (j:=i) oz) ?_;refine gc (rJ ts m r ht hm hml i i _ _ _ _ oz oz s2.1 nd c2 cd oz) ?_;refine gc (uu _ (fun q hq=>c3.qs oz hq) (by have:=s3.1.le;omega)) ?_;refine gc (ow _ _ (fun q hq=>c1.qs oz hq) (fun q hq=>c3.minus.qs oz hq) (by have:=s1.1.le;omega) (by have:=s3.1.le;rw[jf];omega)) ?_;refine gD ?_;refine ah ?_;rfl
theorem pF(ts:LL)(m r:Nat)(ht:iO ts m r)(hm:m<=5)(hml:m<=ts.length)(j:Nat):∀(a:List Rat)(e:Nat),j<=m->Nl j a->Cb e a->sB r j e<4398046511104 ->
  FP 193 [aT ts,nA a] (i64 (T.sgn (au ts) j (ae j a))):=by
 induction j using Nat.strongRecOn
 rename_i j ih;intro a e hj ha ca hs;have hse:=oK r j e;have qa:∀q∈a,Qs q:=fun q hq=>ca.qs oz hq
 obtain⟨s,hsa⟩:∃s,s=sh j (ae j a):=⟨_,rfl⟩
 have hsd:ae j s=ae j a:=by rw[hsa,bh]
 have hsn:Nl j s:=by rw[hsa];exact eT j _
 have cs:Cb e s:=by rw[hsa];exact ca.sh ha
 have hls:=hsn.len5 oz;rw[<- hsd];refine aj func193 ?_;refine gc (hsa▸mb a oz ha qa) ?_;refine gl ?_;refine gC (fun z=>?_) (fun z=>?_)
 ·have h1 : s=[] := ZA.1 (by have := z;simp only[aa,beq_iff_eq]at this;omega);refine ah ?_;rw[h1,gp,T.sgn_zero];rfl
 have h1:s.length≠0:=by have:=z;simp only[aa,beq_eq_false_iff_ne,ne_eq]at this;omega
 refine gl ?_;refine gC (fun z=>?_) (fun z=>?_)
 ·have h2 : s.length = 1 := by have := z; simp only [aa, beq_iff_eq] at this; omega
  obtain⟨q,rfl⟩:=YV.1 h2;refine gi rfl ?_;refine gc (xE (rt q) (cs.qs oz (by simp:q∈[q])).ok) ?_;refine ah ?_;rw[lg,T.sgn_ofQ,cc]
 have h2:s.length≠1:=by have:=z;simp only[aa,beq_eq_false_iff_ne,ne_eq]at this;omega
 obtain⟨i,hij,hsl⟩:∃i,i+1<=j/\s.length=2^(i+1):=by
  rcases ou hsn with h |h |h
  ·exact acc h h1
  ·exact acc h h2
  ·exact h
 have hp2:=Yq i;have hpi:2^i<=32:=cm (b:=5) oz;have hps:2^(i+1)=2*2^i:=by rw[Yj];omega
 have n1:Nl i (s.take (2^i)):=.inr ⟨i,aau _,fZ hsl⟩;have n2:Nl i (s.drop (2^i)):=.inr ⟨i,aau _,gh hsl⟩;have nd:=ht.1 i oz;have cd:=ht.2.cb i;obtain⟨nn,dn,cn⟩:=wU ht oz hsl cs;have b1:sB r i (4*e+3*eB r i+r+1)<=sB r j e:=uq r e hij;have b2:sB r i e<=sB r i (4*e+3*eB r i+r+1):=pM r i oz;have b3:sB r i r<=sB r i (4*e+3*eB r i+r+1):=pM r i oz;have b4:=oK r i (4*e+3*eB r i+r+1);have k1:=ih i oz (s.take (2^i)) e oz n1 cs.take oz;have k2:=ih i oz (s.drop (2^i)) e oz n2 cs.drop oz;have k3:=ih i oz _ r oz nd cd oz;have k4:=ih i oz _ _ oz nn cn oz
 have hres:T.sgn (au ts) j (ae j s)=T.sgn3 (T.sgn (au ts) i (ae i (s.take (2^i)))) (T.sgn (au ts) i (ae i (s.drop (2^i)))) (T.sgn (au ts) i (ae i (ts.getD i []))) (T.sgn (au ts) i (ae i (iN ts i s))):=by
  rw[tE _ oz hij,dn];rfl
 have v1:=T.sgn_cases (au ts) i (ae i (s.take (2^i)));have v4:=T.sgn_cases (au ts) i (ae i (iN ts i s));refine gl ?_;refine gs (fv (.tmp rfl) (.const _) oz (show _=((2^i:Nat):Int) by rw[f7 oz,hsl,fK]) rfl) ?_;refine gs (di (.tmp rfl) (.none _) (.some _ (.tmp rfl) oz) T53 rfl T106 rfl oz (by simp only[aar];omega) rfl) ?_;refine gc (by have h9:=k1;rw[<- l6]at h9;exact h9) ?_;refine gs (di (.tmp rfl) (.some _ (.tmp rfl) oz) (.none _) T53 rfl T106 rfl (by simp only[aar];omega) oz rfl) ?_;refine gc (by have h9:=k2;rw[<- mz]at h9;exact h9) ?_;refine gD ?_;refine gc (tv qA s oz) ?_;refine ga (show _=(i:Int) by rw[hsl,ql,dP oz];omega) ?_;refine gi (wt (j:=i) oz) ?_;refine gc k3 ?_;refine gD ?_;refine gC (fun z=>?_) (fun z=>?_)
 ·have e1 : T.sgn (au ts) i (ae i (ts.getD i [])) = 0 := by simpa [aa] using z
  refine ah ?_;rw[hres];unfold T.sgn3;rw[ab6 e1]
 have e1:¬T.sgn (au ts) i (ae i (ts.getD i []))=0:=by simpa[aa]using z
 refine gC (fun z=>?_) (fun z=>?_)
 ·have e2:T.sgn (au ts) i (ae i (s.take (2^i)))=T.sgn (au ts) i (ae i (s.drop (2^i)))\/T.sgn (au ts) i (ae i (s.drop (2^i)))=0:=AR z;refine ah ?_;rw[hres];unfold T.sgn3;rw[ab5 e1,ab6 e2]
 have e2:¬(T.sgn (au ts) i (ae i (s.take (2^i)))=T.sgn (au ts) i (ae i (s.drop (2^i)))\/T.sgn (au ts) i (ae i (s.drop (2^i)))=0):=yW z;refine gC (fun z=>?_) (fun z=>?_)
 ·have e3 : T.sgn (au ts) i (ae i (s.take (2 ^ i))) = 0 := by simpa [aa] using z
  refine ah ?_;rw[hres];unfold T.sgn3;rw[ab5 e1,ab5 e2,ab6 e3]
 have e3:¬T.sgn (au ts) i (ae i (s.take (2^i)))=0:=by simpa[aa]using z
 refine gc (CJ ts m r ht hm hml i s e oz hsl cs oz) ?_;refine gc k4 ?_;refine ga (Ai v1 v4) ?_;refine gD ?_;refine ah ?_;rw[hres];unfold T.sgn3;rw[ab5 e1,ab5 e2,ab5 e3];rfl
theorem rx(rs:List (List Rt))(r:Nat)(h:TR rs r):FP 138 [cI rs] (bF (bM rs)):=by
 have hll:=h.ll;have hr:=h.le;refine aj func138 ?_;refine gl ?_;refine gC (fun z=>?_) (fun z=>?_)
 ·have h5 : 5 < rs.length := by have := z; simp only [aa, ab7] at this; omega
  refine ah ?_;rw[F6 h5];rfl
 have h5:rs.length<=5:=by have:=z;simp only[aa,decide_eq_false_iff_not]at this;omega
 refine gl ?_;refine aW [1,13,14] [1] (fun(k:Nat)=>[pP 15 (i64 k)]) (fun _=>[]) (fun k=>k<=rs.length/\∀j,j<k->iL rs j) (fun k=>rs.length-k) 0 ⟨aa0 _,fun j hj=>by omega⟩ ?_;rintro k ⟨hk,hj⟩ K1 J1;refine gC (fun z=>?_) (fun z=>?_)
 ·have hin : k < rs.length := by simpa [aa] using z
  obtain⟨d,hd⟩:=ay hin;have hdm:=aap hd;have hdl:=h.len d hdm;refine gi (aH hd) ?_;refine gl ?_;refine gs (ia (.const _) (.tmp rfl) oz (nB oz) rfl) ?_;refine gC (fun z=>?_) (fun z=>?_)
  ·have h1 : d.length ≠ 2 ^ k := by have := z; simp only [aa, bne_iff_ne, ne_eq] at this; omega
   refine ah ?_;rw[EG h5 hd hj h1];rfl
  have h1:d.length=2^k:=by have:=z;simp only[aa,bne_eq_false_iff_eq]at this;omega
  have htl:(rs.take k).length=k:=by simp;omega
  have hnu:=H2 (rs.take k) d (h.ok d hdm) hdl oz;rw[htl]at hnu;refine gs (di (.tmp rfl) (.none _) (.some _ (.tmp rfl) oz) T42 rfl T53 rfl oz (by simp only[aar];omega) rfl) ?_ (9,0);refine gW (Wk.of (sl:=[pP 1 (.ptr 1 0),pP 3 (i64 k),pP 4 (nR d),pP 5 (.ptr 5 0),pP 13 (.lst 1 (rs.map nR)),pP 14 (i64 rs.length),pP 15 (i64 k)]) (hp:=[pP 1 (.box [.lst 1 (rs.map nR)]),pP 5 (.box [.lst 1 ((rs.take k).map nR)])]) bb (.k (.cons rfl (BlkSub.bL (.cons (.of (K6 nR rs k)) .nil) rfl) .nil))) ?_;refine gc hnu ?_;refine gC (fun z=>?_) (fun z=>?_)
  ·have h2:=dH z;refine ah ?_;rw[Kx h5 hd hj h1 h2]
  have h2:=dD z;have hts:=H8 (ts:=llq rs) (fun j hjk=>(hj j hjk).nl) h.rb;have hq:=vD h2 (h.ok d hdm);have hcb:Cb r (lq d):=by have:=h.rb.cb k;rw[tR,aaq,hd]at this;exact this
  have hsg:FP 193 [cI (rs.take k),nR d] (i64 (T.sgn (au (llq rs)) k (ae k (lq d)))):=by
   have h9:=pF ((llq rs).take k) k r hts oz (by simp;omega) k (lq d) r (aau _) hq.2 hcb (nI (aau k) (by have:=h.three;omega) hr (by have:=j5 k;omega));rw[T.sgn_congr k (fun j hjk=>wB hjk)]at h9;rw[Q6 h.ok oz hj,hq.1,eI];rw[<- hq.1];exact h9
  refine gc hsg ?_;refine gC (fun z=>?_) (fun z=>?_)
  ·have h3 : T.sgn (au (llq rs)) k (ae k (lq d)) < 0 := by simpa [aa] using z
   refine ah ?_;rw[Ea h5 hd hj h1 h2 h3];rfl
  have h3:¬T.sgn (au (llq rs)) k (ae k (lq d))<0:=by simpa[aa]using z
  refine ga aS ?_;exact aR J1 (k+1) ⟨hin,fun j hjk=>by rcases aay j k with h9 |h9;exact hj j h9;(have:j=k:=by omega);subst this;exact Ek hd h1 h2 h3⟩
 have hin:k=rs.length:=by have:rs.length<=k:=(by simpa[aa]using z);omega
 subst hin;refine ah ?_;rw[Gx h5 hj];rfl
theorem mj(rs:List (List Rt))(r:Nat)(h:TR rs r)(xs:List (List Rt))(hx:∀a∈xs,(∀x∈a,x.ok)/\a.length<=281474976710656)(hl:xs.length<=281474976710656):FP 192 [cI rs,.lst 1 (xs.map nR)] (bF (bB rs xs)):=by
 refine aj func192 ?_;refine gc (rx rs r h) ?_;refine gC (fun z=>?_) (fun z=>?_)
 ·have h1:=dH z;refine ah ?_;rw[AD h1]
 have h1:=dD z;refine gl ?_;refine aW [2,14,15] [2] (fun(i:Nat)=>[pP 16 (i64 i)]) (fun _=>[]) (fun i=>i<=xs.length/\∀x∈xs.take i,co rs.length x=0) (fun i=>xs.length-i) 0 ⟨aa0 _,fun x hx=>by simp at hx⟩ ?_;rintro i ⟨hi,hj⟩ K1 J1;refine gC (fun z=>?_) (fun z=>?_)
 ·have hin : i < xs.length := by simpa [aa] using z
  obtain⟨a,ha⟩:=ay hin;have hok:=hx a (aap ha);refine gi (aH ha) ?_;refine gc (H2 rs a hok.1 hok.2 h.ll) ?_;refine gC (fun z=>?_) (fun z=>?_)
  ·have h2:=dH z;refine ah ?_;rw[vB h1 ha hj h2]
  have h2:=dD z;refine ga aS ?_;exact aR J1 (i+1) ⟨hin,fun x hx=>by rw[dK ha]at hx;rcases aa2.1 hx with h9 |h9;exact hj x h9;(rw[Za.1 h9];exact h2)⟩
 have hin:i=xs.length:=by have:xs.length<=i:=(by simpa[aa]using z);omega
 subst hin;rw[aa8]at hj;refine ah ?_;rw[qU h1 hj];rfl
theorem Qh(rs:List (List Rt))(r:Nat)(h:TR rs r)(a:List Rt)(e:Nat)(ha:NR a e):FP 309 [cI rs,nR a] (bl (decide (bB rs [a]=0))):=by
 refine aj func309 ?_;refine gc (mj rs r h [a] (fun x hx=>by rw[Za.1 hx];exact⟨ha.ok,ha.len⟩) (by simp)) ?_;refine ah ?_;rw[zB];rfl
theorem ER(rs:List (List Rt))(r:Nat)(h:TR rs r)(a:List Rt)(e:Nat)(ha:NR a e)(he:e<=lm rs.length) :
  FP 128 [cI rs,nR a] (.tup [nA (if bB rs [a]=0 then sh rs.length (T.neg rs.length (ae rs.length (lq a)))else[]),bF (bB rs [a])]):=by
 have hlm:=kc rs.length;refine aj func128 ?_;refine gc (mj rs r h [a] (fun x hx=>by rw[Za.1 hx];exact⟨ha.ok,ha.len⟩) (by simp)) ?_;refine gC (fun z=>?_) (fun z=>?_) (st2:=(77777,0))
 ·have h1:=dH z;refine gR ?_;exact dS (by rw[ab5 h1];exact Sub.tup (.cons (.nil _ _ _) (.cons (.refl _) .nil)))
 have h1:=dD z;obtain⟨h2,h3⟩:=mn h1;obtain⟨tw,_⟩:=db h h2;obtain⟨e1,na⟩:=ha.num (h3 a (by simp));have h5:rs.length<=5:=by have:=tw.five;rwa [aar]at this
 have hl:=na.len5 h5;have qa:∀q∈lq a,Qs q:=fun q hq=>ha.cb.qs oz hq
 have qm:∀q∈de (lq a),Qs q:=fun q hq=>ha.cb.minus.qs oz hq
 have nm:=pR na;refine gW (Wk.of (sl:=[pP 1 (nA (lq a)),pP 2 (.ptr 2 0),pP 6 (bF (bB rs [a]))]) (hp:=[pP 2 (.box [.lst 1 (rs.map nR)])]) (.cons rfl (Sub.of e1) (.k (.k .nil))) (.k .nil)) ?_;refine gc (uu _ qa oz) ?_;refine gc (mb _ h5 nm qm) ?_;refine bt ?_;rw[ab6 h1,h1,m7];rfl
theorem XS(rs:List (List Rt))(r:Nat)(h:TR rs r)(a b:List Rt)(e f:Nat)(ha:NR a e)(hb:NR b f)(he:e+f<=lm rs.length) :
  FP 250 [cI rs,nR a,nR b] (.tup [nA (if bB rs [a,b]=0 then sh rs.length (T.add rs.length (ae rs.length (lq a)) (ae rs.length (lq b)))else[]),bF (bB rs [a,b])]):=by
 have hlm:=kc rs.length;refine aj func250 ?_;refine gc (mj rs r h [a,b] (uQ ha hb) (by simp)) ?_;refine gC (fun z=>?_) (fun z=>?_) (st2:=(77777,0))
 ·have h1:=dH z;refine gR ?_;exact dS (by rw[ab5 h1];exact Sub.tup (.cons (.nil _ _ _) (.cons (.refl _) .nil)))
 have h1:=dD z;obtain⟨h2,h3⟩:=mn h1;obtain⟨tw,e0⟩:=db h h2;obtain⟨e1,na⟩:=ha.num (h3 a (by simp));obtain⟨e2,nb⟩:=hb.num (h3 b (by simp));have h5:rs.length<=5:=by have:=tw.five;rwa [aar]at this
 have hla:=na.len5 h5;have hlb:=nb.len5 h5;have qa:∀q∈lq a,Qs q:=fun q hq=>ha.cb.qs oz hq
 have qb:∀q∈lq b,Qs q:=fun q hq=>hb.cb.qs oz hq
 have qp:∀q∈cD (lq a) (lq b),Qs q:=fun q hq=>(ha.cb.plus hb.cb).qs oz hq
 have np:=rD na nb;refine gW (Wk.of (sl:=[pP 1 (nA (lq a)),pP 2 (nA (lq b)),pP 3 (.ptr 3 0),pP 8 (bF (bB rs [a,b]))]) (hp:=[pP 3 (.box [.lst 1 (rs.map nR)])]) (.cons rfl (Sub.of e1) (.cons rfl (Sub.of e2) (.k (.k .nil)))) (.k .nil)) ?_;refine gc (ow _ _ qa qb oz oz) ?_;refine gc (mb _ h5 np qp) ?_;refine bt ?_;rw[ab6 h1,h1,jC];rfl
theorem QA(rs:List (List Rt))(r:Nat)(h:TR rs r)(a b:List Rt)(e f:Nat)(ha:NR a e)(hb:NR b f)(he:e+f<=lm rs.length) :
  FP 209 [cI rs,nR a,nR b] (.tup [nA (if bB rs [a,b]=0 then sh rs.length (T.add rs.length (ae rs.length (lq a)) (T.neg rs.length (ae rs.length (lq b))))else[]),bF (bB rs [a,b])]):=by
 have hlm:=kc rs.length;refine aj func209 ?_;refine gc (mj rs r h [a,b] (uQ ha hb) (by simp)) ?_;refine gC (fun z=>?_) (fun z=>?_) (st2:=(77777,0))
 ·have h1:=dH z;refine gR ?_;exact dS (by rw[ab5 h1];exact Sub.tup (.cons (.nil _ _ _) (.cons (.refl _) .nil)))
 have h1:=dD z;obtain⟨h2,h3⟩:=mn h1;obtain⟨tw,e0⟩:=db h h2;obtain⟨e1,na⟩:=ha.num (h3 a (by simp));obtain⟨e2,nb⟩:=hb.num (h3 b (by simp));have h5:rs.length<=5:=by have:=tw.five;rwa [aar]at this
 have hla:=na.len5 h5;have hlb:=nb.len5 h5;have qa:∀q∈lq a,Qs q:=fun q hq=>ha.cb.qs oz hq
 have qb:∀q∈lq b,Qs q:=fun q hq=>hb.cb.qs oz hq
 have qm:∀q∈de (lq b),Qs q:=fun q hq=>hb.cb.minus.qs oz hq
 have qp:∀q∈cD (lq a) (de (lq b)),Qs q:=fun q hq=>(ha.cb.plus hb.cb.minus).qs oz hq
 have np:=rD na (pR nb);refine gW (Wk.of (sl:=[pP 1 (nA (lq a)),pP 2 (nA (lq b)),pP 3 (.ptr 3 0),pP 8 (bF (bB rs [a,b]))]) (hp:=[pP 3 (.box [.lst 1 (rs.map nR)])]) (.cons rfl (Sub.of e1) (.cons rfl (Sub.of e2) (.k (.k .nil)))) (.k .nil)) ?_;refine gc (uu _ qb oz) ?_;refine gc (ow _ _ qa qm oz (by rw[jf];omega)) ?_;refine gc (mb _ h5 np qp) ?_;refine bt ?_;rw[ab6 h1,h1,jC,m7];rfl
theorem XM(rs:List (List Rt))(r:Nat)(h:TR rs r)(a b:List Rt)(e f:Nat)(ha:NR a e)(hb:NR b f)(he:e+f<=lm rs.length) :
  FP 210 [cI rs,nR a,nR b] (.tup [nA (if bB rs [a,b]=0 then sh rs.length (T.mul (au (llq rs)) rs.length (ae rs.length (lq a)) (ae rs.length (lq b)))else[]),bF (bB rs [a,b])]):=by
 have hr:=h.le;have hlm:=kc rs.length;refine aj func210 ?_;refine gc (mj rs r h [a,b] (uQ ha hb) (by simp)) ?_;refine gC (fun z=>?_) (fun z=>?_) (st2:=(77777,0))
 ·have h1:=dH z;refine gR ?_;exact dS (by rw[ab5 h1];exact Sub.tup (.cons (.nil _ _ _) (.cons (.refl _) .nil)))
 have h1:=dD z;obtain⟨h2,h3⟩:=mn h1;obtain⟨tw,e0⟩:=db h h2;obtain⟨e1,na⟩:=ha.num (h3 a (by simp));obtain⟨e2,nb⟩:=hb.num (h3 b (by simp));have hlen:(llq rs).length=rs.length:=aar _;have h5:rs.length<=5:=by have:=tw.five;omega
 have hla:=na.len5 h5;have hlb:=nb.len5 h5;have htw:=tw.ok;rw[hlen]at htw;have hE:=NK r h5;have np:=gd (llq rs) rs.length htw.1 rs.length rs.length _ _ (aau _) (aau _) na nb;have cp:=Cb.mul htw (k:=rs.length) (aau rs.length) (aau _) na nb ha.cb hb.cb;have hti:=rJ (llq rs) rs.length r htw h5 oz rs.length rs.length _ _ e f (aau _) (aau _) na nb ha.cb hb.cb oz;refine gW (Wk.of (sl:=[pP 1 (nA (lq a)),pP 2 (nA (lq b)),pP 3 (.ptr 3 0),pP 8 (bF (bB rs [a,b]))]) (hp:=[pP 3 (.box [.lst 1 ((llq rs).map nA)])]) (.cons rfl (Sub.of e1) (.cons rfl (Sub.of e2) (.k (.k .nil)))) (.cons rfl (BlkSub.bL (.cons (.of (mt e0)) .nil) rfl) .nil)) ?_;refine gc hti ?_;refine gc (mb _ h5 np.1 (fun q hq=>cp.qs oz hq)) ?_;refine bt ?_;rw[ab6 h1,h1,np.2];rfl
theorem WV(rs:List (List Rt))(r:Nat)(h:TR rs r)(a b:List Rt)(e f:Nat)(ha:NR a e)(hb:NR b f)(he:e+f+1<=lm rs.length) :
  FP 399 [cI rs,nR a,nR b] (.tup [i64 (if bB rs [a,b]=0 then T.sgn (au (llq rs)) rs.length (T.add rs.length (ae rs.length (lq a)) (T.neg rs.length (ae rs.length (lq b))))else 0),bF (bB rs [a,b])]):=by
 have hr:=h.le;have hlm:=kc rs.length;refine aj func399 ?_;refine gc (mj rs r h [a,b] (uQ ha hb) (by simp)) ?_;refine gC (fun z=>?_) (fun z=>?_) (st2:=(77777,0))
 ·have h1:=dH z;refine bt ?_;rw[ab5 h1];rfl
 have h1:=dD z;obtain⟨h2,h3⟩:=mn h1;obtain⟨tw,e0⟩:=db h h2;obtain⟨e1,na⟩:=ha.num (h3 a (by simp));obtain⟨e2,nb⟩:=hb.num (h3 b (by simp));have hlen:(llq rs).length=rs.length:=aar _;have h5:rs.length<=5:=by have:=tw.five;omega
 have hla:=na.len5 h5;have hlb:=nb.len5 h5;have htw:=tw.ok;rw[hlen]at htw;have qa:∀q∈lq a,Qs q:=fun q hq=>ha.cb.qs oz hq
 have qb:∀q∈lq b,Qs q:=fun q hq=>hb.cb.qs oz hq
 have qm:∀q∈de (lq b),Qs q:=fun q hq=>hb.cb.minus.qs oz hq
 have np:=rD na (pR nb);have hsg:=pF (llq rs) rs.length r htw h5 oz rs.length _ _ (aau _) np (ha.cb.plus hb.cb.minus) (nI (aau rs.length) (by have:=tw.three;omega) hr oz);refine gW (Wk.of (sl:=[pP 1 (nA (lq a)),pP 2 (nA (lq b)),pP 3 (.ptr 3 0),pP 8 (bF (bB rs [a,b]))]) (hp:=[pP 3 (.box [.lst 1 ((llq rs).map nA)])]) (.cons rfl (Sub.of e1) (.cons rfl (Sub.of e2) (.k (.k .nil)))) (.cons rfl (BlkSub.bL (.cons (.of (mt e0)) .nil) rfl) .nil)) ?_;refine gc (uu _ qb oz) ?_;refine gc (ow _ _ qa qm oz (by rw[jf];omega)) ?_;refine gc hsg ?_;refine gD ?_;refine bt ?_;rw[ab6 h1,h1,jC,m7];rfl
theorem UZ(rs:List (List Rt))(r:Nat)(h:TR rs r)(a:List Rt)(e:Nat)(ha:NR a e)(he:e<=lm rs.length) :
  FP 87 [cI rs,nR a] (.tup [i64 (if bB rs [a]=0 then T.sgn (au (llq rs)) rs.length (ae rs.length (lq a))else 0),bF (bB rs [a])]):=by
 have hr:=h.le;have hlm:=kc rs.length;refine aj func87 ?_;refine gc (mj rs r h [a] (fun x hx=>by rw[Za.1 hx];exact⟨ha.ok,ha.len⟩) (by simp)) ?_;refine gC (fun z=>?_) (fun z=>?_) (st2:=(77777,0))
 ·have h1:=dH z;refine bt ?_;rw[ab5 h1];rfl
 have h1:=dD z;obtain⟨h2,h3⟩:=mn h1;obtain⟨tw,e0⟩:=db h h2;obtain⟨e1,na⟩:=ha.num (h3 a (by simp));have hlen:(llq rs).length=rs.length:=aar _;have h5:rs.length<=5:=by have:=tw.five;omega
 have htw:=tw.ok;rw[hlen]at htw;have hsg:=pF (llq rs) rs.length r htw h5 oz rs.length _ _ (aau _) na ha.cb (nI (aau rs.length) (by have:=tw.three;omega) hr oz);refine gW (Wk.of (sl:=[pP 1 (nA (lq a)),pP 2 (.ptr 2 0),pP 6 (bF (bB rs [a]))]) (hp:=[pP 2 (.box [.lst 1 ((llq rs).map nA)])]) (.cons rfl (Sub.of e1) (.k (.k .nil))) (.cons rfl (BlkSub.bL (.cons (.of (mt e0)) .nil) rfl) .nil)) ?_;refine gc hsg ?_;refine bt ?_;rw[ab6 h1,h1];rfl
theorem N8(x:Rt)(hx:x.ok)(hs:Qs x.q):FP 115 [x.av] (nA (sh 0 (x.q:Rat))):=by
 have hadd:=oJ x (rt 0) hx Qs.zero.ok;rw[vP]at hadd;refine aj func115 ?_;refine gc (Con.sA (.cons (.refl _) (.cons kf .nil)) hadd) ?_;refine gc (mb (n:=0) [x.q] oz (.inr ⟨0,aau _,rfl⟩) (fun q hq=>by rw[Za.1 hq];exact hs)) ?_;refine ah ?_;rfl
theorem tg(n:Nat)(hn:n<=281474976710656):FP 339 [i64 n] (.tup [i64 (kZ n),bl (kV n)]):=by
 refine aj func339 ?_;refine aW [0] [] (fun(k:Nat)=>[pP 5 (i64 k)]) (fun _=>[]) (fun k=>k<=6/\∀j,j<k->n≠2^j) (fun k=>6-k) 0 ⟨by omega,fun j h=>by omega⟩ ?_;rintro k ⟨hk,hj⟩ K1 J1;refine gC (fun z=>?_) (fun z=>?_)
 ·have h1 : k < 6 := by have := z; simp only [aa, ab7] at this; omega
  refine gs (ia (.const _) (.tmp rfl) oz (nB oz) rfl) ?_;refine gC (fun z=>?_) (fun z=>?_)
  ·have h2 : n = 2 ^ k := by have := z; simp only [aa, beq_iff_eq] at this; omega
   refine bt ?_;rw[h2,(mg oz).1,(mg oz).2];rfl
  have h2:n≠2^k:=by have:=z;simp only[aa,beq_eq_false_iff_ne,ne_eq]at this;omega
  refine ga (dq oz) ?_;exact aR J1 (k+1) ⟨by omega,fun j h=>by rcases aay j k with h3 |h3;exact hj j h3;(have:j=k:=by omega);subst this;exact h2⟩
 have h1:k=6:=by have:=z;simp only[aa,decide_eq_false_iff_not]at this;omega
 subst h1;refine bt ?_;rw[(Dv hj).1,(Dv hj).2];rfl
theorem DM(m:Nat)(hm:m<=5)(a:List Rt)(ha:∀r∈a,r.ok)(hl:a.length<=281474976710656):FP 215 [i64 m,nR a] (i64 (co m a)):=by
 refine aj func215 ?_;refine gl ?_;refine gc (tg a.length hl) ?_;refine gl ?_;refine gC (fun z=>?_) (fun z=>?_)
 ·have h1:a≠[]/\(da a.length<0\/(m:Int)<da a.length):=(GQ hm a).2 (UB z);refine ah ?_;unfold co;rw[ab6 h1];rfl
 have hn:¬(a≠[]/\(da a.length<0\/(m:Int)<da a.length)):=fun h=>NE z ((GQ hm a).1 h)
 refine gl ?_;refine aW [27,28] [] (fun(i:Nat)=>[pP 29 (i64 i)]) (fun _=>[]) (fun i=>i<=a.length/\(a.take i).all Rt.valid=true) (fun i=>a.length-i) 0 ⟨aa0 _,by simp⟩ ?_;rintro i ⟨hi,hv⟩ K1 J1;refine gC (fun z=>?_) (fun z=>?_)
 ·have hin : i < a.length := by simpa [aa] using z
  obtain⟨r,hr⟩:=ay hin;have hrok:=ha r (aap hr);refine gi (aH hr) ?_;refine gc (xc r hrok) ?_;refine gC (fun z=>?_) (fun z=>?_)
  ·have hrv : r.valid = false := by simpa using z
   refine ah ?_;unfold co;rw[ab5 hn,ab5]
   ·rfl
   ·rw[aa3];intro h;rw[h r (aap hr)]at hrv;cases hrv
  have hrv:r.valid=true:=by simpa using z
  refine ga aS ?_;exact aR J1 (i+1) ⟨by omega,by rw[dK hr,all_append,hv];simp[hrv]⟩
 have hin:i=a.length:=by have:a.length<=i:=(by simpa[aa]using z);omega
 subst hin;rw[aa8]at hv;refine ah ?_;unfold co;rw[ab5 hn,ab6 hv];rfl
theorem Jc(a:List Rat)(hl:a.length<=281474976710656):FP 416 [nA a] (bl (bG a)):=by
 refine aj func416 ?_;refine gl ?_;refine aW [5,6] [] (fun(i:Nat)=>[pP 7 (i64 i)]) (fun _=>[]) (fun i=>i<=a.length/\bG (a.take i)=true) (fun i=>a.length-i) 0 ⟨aa0 _,by simp[bG]⟩ ?_;rintro i ⟨hi,hv⟩ K1 J1;refine gC (fun z=>?_) (fun z=>?_)
 ·have hin : i < a.length := by simpa [aa] using z
  obtain⟨q,hq⟩:=ay hin;refine gi (aH hq) ?_;refine cJ ?_;refine cJ ?_;refine gC (fun z=>?_) (fun z=>?_)
  ·have h0:q≠0:=RE z;refine ah ?_
   have:bG a=false:=by
    rw[ZY];intro h;exact h0 (by simpa using aa3.1 h q (aap hq))
   rw[this];rfl
  have h0:q=0:=Wj z;refine ga aS ?_;exact aR J1 (i+1) ⟨by omega,by rw[dK hq];simp only[bG,all_append,aaw];exact⟨hv,by simp[h0]⟩⟩
 have hin:i=a.length:=by have:a.length<=i:=(by simpa[aa]using z);omega
 subst hin;rw[aa8]at hv;refine ah ?_;rw[hv];rfl
theorem Cu{n:Nat}(a:List Rat)(hn:n<=5)(ha:Nl n a):FP 340 [nA a] (nA (sh n (ae n a))):=by
 have hl:=ha.len5 hn;rw[<- sN ha hn];refine aj func340 ?_;refine gl ?_;refine gc (tg a.length oz) ?_;refine gC (fun t13=>?_) (fun t13=>?_)
 ·have h0:a=[]:=by
   rcases ha with h |⟨j,hj,h⟩
   ·exact h
   ·have h9:=t13;rw[h,(mg oz).2]at h9;cases h9
  refine gs (jI T53 rfl T106 rfl rfl rfl) ?_;refine gs (qT (.tmp rfl) rfl rfl (.tmp rfl) T53 rfl T106 rfl rfl (by simp[h0]) rfl rfl) ?_;refine ah ?_;subst h0;rfl
 refine gl ?_;refine aW [0] [] (fun(m:Nat)=>[pP 5 (i64 m)]) (fun _=>[]) (fun m=>my a m) (fun m=>m) a.length (H4 (ha.mono hn)) ?_;rintro m hm K1 J1;refine gs (fa rfl rfl rfl (fun h=>fv (.opt rfl (o1 h)) (.const _) oz (f7 (by have:=hm.le;omega)) rfl)) ?_;refine gs (fa rfl rfl rfl (fun h=>di (.opt rfl (o1 h)) (.some _ (.opt rfl (o1 h)) oz) (.some _ (.opt rfl (o1 h)) oz) T53 rfl T106 rfl oz (by have:=hm.le;simp;omega) rfl)) ?_;refine b8 (fun _=>(by have h9:=Jc ((a.drop (m/2)).take (m-m/2)) (by simp;omega);rw[<- tD]at h9;exact h9)) ?_;refine gC (fun t28=>?_) (fun t28=>?_)
 ·have h1:1<m/\bG ((a.drop (m/2)).take (m-m/2))=true:=by
   have h9:=t28
   by_cases h:(m:Int)>1
   ·simp only[aa,aca h,cond_true]at h9;exact⟨by omega,h9⟩
   ·simp only[aa,acb h,cond_false]at h9;cases h9
  refine gs (fv (.tmp rfl) (.const _) oz (f7 (by have:=hm.le;omega)) rfl) ?_;exact aR J1 (m/2) (Ky hm h1.1 h1.2)
 have h1:1<m->bG ((a.drop (m/2)).take (m-m/2))=false:=by
  intro h;have h9:=t28;simp only[aa,aca (show(m:Int)>1 by omega),cond_true]at h9;exact h9
 refine gs (fa rfl rfl rfl (fun h=>di (.opt rfl (o1 h)) (.none _) (.some _ (.const _) oz) T53 rfl T106 rfl oz (by have h8:(m:Int)=1:=(by simpa[aa]using h);have:=hm.le;simp only[aar];omega) rfl)) ?_;refine b8 (fun _=>(by have h9:=Jc ((a.drop 0).take 1) (by simp;omega);rw[<- tD]at h9;exact h9)) ?_;refine gC (fun t37=>?_) (fun t37=>?_)
 ·have h2:m=1/\bG (a.take 1)=true:=by
   have h9:=t37
   by_cases h:m=1
   ·rw[h]at h9;exact⟨h,h9⟩
   ·rw[show aa .eql (m:Int) 1=false by simp[aa];omega]at h9;cases h9
  obtain⟨rfl,h3⟩:=h2;refine gR ?_;exact lc (by rw[JS hm h3];exact Sub.nil _ _ _)
 have h2:m=1->bG (a.take 1)=false:=by
  intro h;have h9:=t37;rw[h]at h9;exact h9
 have h3:=DR hm h1 h2;refine gs (jI T53 rfl T106 rfl rfl rfl) ?_;refine gs (di (.tmp rfl) (.none _) (.some _ (.tmp rfl) oz) T53 rfl T106 rfl oz (by have:=hm.le;simp;omega) rfl) ?_;refine gs (qT (.tmp rfl) rfl rfl (.tmp rfl) T53 rfl T106 rfl rfl (by simp only[abc,List.length_drop,aar];omega) rfl rfl) ?_;refine ah ?_;rw[h3];simp[nA,map_take]
theorem CI(d:Nat)(hd:X9 d 1000=true)(a:List Rat)(n:Nat)(hl:a.length<=n)(hn:n<=1099511627776) :
  Con prog 218 [nA a,i64 n] [] (.ms d 3 0 n) [(d,some (.row 3 ((a6 a n).map qA)))]:=by
 refine gF func218 (fun k z h=>by cases h) ?_;refine gs (jI T53 rfl T106 rfl rfl rfl) ?_;refine gs (cK (.tmp rfl) rfl rfl (.tmp rfl) T53 rfl T106 rfl rfl (by simp only[aar];omega) rfl rfl) ?_;refine gW (Wk.of (sl:=[pP 1 (i64 n),pP 5 (.ms 8 3 0 a.length)]) (hp:=[pP 8 (.row 3 ((a6 a a.length).map qA))]) (.k (.cons rfl (Sub.of (by simp)) .nil)) (.cons rfl (BlkSub.of (by simp[a6])) .nil)) ?_ (99999,0);refine gW (Wk.rk (k:=8) (d:=900) rfl rfl) ?_;refine aW [1] [] (fun(i:Nat)=>[pP 5 (.ms 900 3 0 i)]) (fun i=>[pP 900 (.row 3 ((a6 a i).map qA))]) (fun i=>a.length<=i/\i<=n) (fun i=>n-i) a.length ⟨aau _,hl⟩ ?_;rintro i ⟨hi,hin⟩ K1 J1;refine gC (fun y=>?_) (fun y=>?_)
 ·have h1 : i < n := by have := y; simp only [aa, ab7] at this; omega
  refine gs (cK (.tmp rfl) rfl (by rw[aar,dO hi]) (.tmp rfl) T53 rfl T106 rfl rfl (by simp;omega) rfl rfl) ?_;exact aR J1 (i+1) ⟨by omega,h1⟩ (hw:=(Wk.of (sl:=[pP 1 (i64 n),pP 5 (.ms 16 3 0 (i+1))]) (hp:=[pP 16 (.row 3 ((a6 a (i+1)).map qA))]) bb (.cons rfl (RV a i hi) .nil)).trans<|(Wk.rk (k:=16) (d:=900) rfl rfl).trans<|Wk.o)
 have h1:i=n:=by have:=y;simp only[aa,decide_eq_false_iff_not]at this;omega
 subst h1;refine gR ?_;exact aC.own1 rfl hd rfl
theorem qw(a:List Rat)(n:Nat)(hl:a.length<=n)(hn:n<=1099511627776):FP 218 [nA a,i64 n] (nA (a6 a n)):=by
 have h:=Con.freeze (by rw[aar,dO hl];omega) (CI 0 rfl a n hl hn);rw[ab1,aa7 (by rw[aar,dO hl];exact aau _)]at h;exact h
theorem zT(a b:List Rat)(ha:∀q∈a,Qs q)(hb:∀q∈b,Qs q)(la:a.length<=1099511627776)(lb:b.length<=1099511627776):FP 260 [nA a,nA b] (nA (cD a b)):=by
 obtain⟨n,hn⟩:∃n,n=max a.length b.length:=⟨_,rfl⟩
 have hwa:=dO (show a.length<=n by omega);have hwb:=dO (show b.length<=n by omega);have hp:=eG (a:=a) (b:=b);rw[<- hn]at hp;have qa:∀q∈a6 a n,Qs q:=fun q hq=>by rcases aa2.1 hq with h |h;exact ha q h;(rw[(Zg.1 h).2];exact Qs.zero)
 have qb:∀q∈a6 b n,Qs q:=fun q hq=>by rcases aa2.1 hq with h |h;exact hb q h;(rw[(Zg.1 h).2];exact Qs.zero)
 refine aj func260 ?_;refine gl ?_;refine gl ?_;refine gs (pX (.tmp rfl) (.tmp rfl) rfl) ?_ (2,0);refine gW (Wk.of (sl:=[pP 0 (nA a),pP 1 (nA b),pP 5 (i64 n)]) (hp:=[]) (.k (.k (.cons rfl (Sub.int oz) .nil))) .nil) ?_;refine go ?_;refine gt (aE (CI 900 rfl a n oz oz) (bC rfl rfl) aG rfl rfl) ?_;refine gc (qw b n oz oz) ?_;refine aW [1,19] [] (fun(i:Nat)=>[pP 0 (.ms 900 3 0 n),pP 20 (i64 i)]) (fun i=>[pP 900 (.row 3 (((cD a b).take i++(a6 a n).drop i).map qA))]) (fun i=>i<=n) (fun i=>n-i) 0 (aa0 _) ?_;rintro i hi K1 J1;refine gC (fun z=>?_) (fun z=>?_) (st2:=(8,0))
 ·have hin : i < n := by simpa [aa] using z
  have hmx:=A7 (p:=cD a b) (w:=a6 a n) (i:=i) oz oz;have hqa:=(qa _ (uk (i:=i) oz)).ok;have hqb:=(qb _ (uk (i:=i) oz)).ok;refine gs (cg (n:=i) (.tmp rfl) (.tmp rfl) T53 rfl T106 rfl oz oz rfl) ?_;refine gs (eK (.tmp rfl) rfl (aH hmx) T106 rfl rfl rfl) ?_;refine gi (aH (getD_some (i:=i) (l:=a6 b n) oz)) ?_;refine gc (Fi (rt ((a6 a n).getD i 0)) (rt ((a6 b n).getD i 0)) hqa hqb) ?_;refine gs (cg (n:=i) (.tmp rfl) (.tmp rfl) T53 rfl T106 rfl oz oz rfl) ?_;refine gs (dM (.tmp rfl) rfl (aH hmx) rfl (.tmp rfl) rfl rfl T106 rfl rfl) ?_;refine gD ?_ (7,0);refine gW (Wk.of (sl:=[pP 0 (.ms 900 3 0 n),pP 1 (nA (a6 b n)),pP 19 (i64 n),pP 20 (i64 i)]) (hp:=[pP 900 (.row 3 (((cD a b).take (i+1)++(a6 a n).drop (i+1)).map qA))]) bb (.cons rfl (BlkSub.of (by rw[B5 oz oz (by rw[Ib,<- hn,cc,cc])])) .nil)) ?_;refine ga aS ?_;exact aR J1 (i+1) hin
 have hin:i=n:=by have:n<=i:=(by simpa[aa]using z);omega
 refine gW ((Wk.freeze (k:=900) rfl).trans<|Wk.of (sl:=[pP 0 (nA (cD a b))]) (hp:=[]) (.cons rfl (Sub.of (by rw[b7 (by simp;omega),hin,Zm oz,aa7 oz,ab3];rfl)) .nil) .nil) ?_;refine ah ?_;rfl
theorem Nw(a:List Rat)(ha:∀q∈a,Qs q)(hl:a.length<=1099511627776):FP 261 [nA a] (nA (de a)):=by
 refine aj func261 ?_;refine gl ?_;refine gW (Wk.virt 900 3 rfl) ?_;refine aW [6,7] [] (fun(i:Nat)=>[pP 3 (.ms 900 3 0 i),pP 8 (i64 i)]) (fun i=>[pP 900 (.row 3 ((de (a.take i)).map qA))]) (fun i=>i<=a.length) (fun i=>a.length-i) 0 (aa0 _) ?_;rintro i hi K1 J1;refine gC (fun z=>?_) (fun z=>?_) (st2:=(7,0))
 ·have hin : i < a.length := by simpa [aa] using z
  obtain⟨q,hq⟩:=ay hin;have hqs:=(ha q (aap hq)).ok;refine gi (aH hq) ?_;refine gc (DO (rt q) hqs) ?_;refine gs (cK (.tmp rfl) rfl (by simp[de];omega) (.tmp rfl) T53 rfl T106 rfl rfl (by simp;omega) rfl rfl) ?_ (6,0);refine gW (Wk.of (sl:=[pP 3 (.ms 16 3 0 (i+1)),pP 6 (nA a),pP 7 (i64 a.length),pP 8 (i64 i)]) (hp:=[pP 16 (.row 3 ((de (a.take (i+1))).map qA))]) bb (.cons rfl (BlkSub.of (by rw[dK hq];simp only[de,abf,cc];rfl)) .nil)) ?_ (6,0);refine gW (Wk.rk (k:=16) (d:=900) rfl rfl) ?_;refine ga aS ?_;exact aR J1 (i+1) hin
 have hin:i=a.length:=by have:a.length<=i:=(by simpa[aa]using z);omega
 subst hin;refine gW ((Wk.freeze (k:=900) rfl).trans<|Wk.of (sl:=[pP 3 (nA (de a))]) (hp:=[]) (.cons rfl (Sub.of (by rw[b7 (by simp[de]),aa8];rfl)) .nil) .nil) ?_;refine ah ?_;rfl
theorem Aw(ts:LL)(m r:Nat)(ht:iO ts m r)(hm:m<=5)(R:List AV)(hR:∀j,j<m->R[j]?=some (nA (ts.getD j [])))(k:Nat):∀(j:Nat)(a b:List Rat)(e f:Nat),j<=m->j<=k->Nl j a->Nl j b->Cb e a->Cb f b->e+f+eB r j<4398046511104 ->
  FP 364 [.agg [.lst 1 R],nA a,nA b] (nA (rT ts k a b)):=by
 induction k using Nat.strongRecOn
 rename_i k ih;intro j a b e f hj hjk ha hb ca cb hs;obtain⟨nx,dx⟩:=vQ ha oz;obtain⟨ny,dy⟩:=vQ hb oz;have cx:Cb e (bu 5 a):=ca.sub (fun q hq=>uD 5 hq);have cy:Cb f (bu 5 b):=cb.sub (fun q hq=>uD 5 hq);have k1:=Cu a oz ha;have k2:=Cu b oz hb;rw[<- sN ha oz]at k1;rw[<- sN hb oz]at k2;obtain⟨x,hx⟩:∃x,x=bu 5 a:=⟨_,rfl⟩
 obtain⟨y,hy⟩:∃y,y=bu 5 b:=⟨_,rfl⟩
 rw[<- hx]at k1 nx dx cx;rw[<- hy]at k2 ny dy cy;have hlx:=nx.len5 oz;have hly:=ny.len5 oz;obtain⟨n,hn⟩:∃n,n=max x.length y.length:=⟨_,rfl⟩
 refine aj func364 ?_;refine gc k1 ?_;refine gc k2 ?_;refine gl ?_;refine gl ?_;refine gs (pX (.tmp rfl) (.tmp rfl) rfl) ?_ (3,0);refine gW (Wk.of (sl:=[pP 1 (nA x),pP 2 (nA y),pP 3 (.ptr 3 0),pP 7 (i64 n)]) (hp:=[pP 3 (.box [.lst 1 R])]) (.k (.k (.k (.cons rfl (Sub.int oz) .nil)))) (.k .nil)) ?_;refine gl ?_;refine cJ ?_;refine gC (fun z=>?_) (fun z=>?_)
 ·have h0 : x.length = 0 \/ y.length = 0 := by have := AR z; omega
  refine gR ?_;exact lc (by rw[ID (by rw[<- hx,<- hy];exact h0)];exact Sub.nil _ _ _)
 have h0:¬(x.length=0\/y.length=0):=by have:=yW z;omega
 refine gC (fun z=>?_) (fun z=>?_)
 ·have h1 : max x.length y.length = 1 := by have := z; simp only [aa, beq_iff_eq] at this; omega
  have e1:=Ka (ts:=ts) (k:=k) (a:=a) (b:=b) (by rw[<- hx,<- hy];exact h0) (by rw[<- hx,<- hy];exact h1);rw[<- hx,<- hy]at e1;clear hx hy;have lx1:x.length=1:=by omega
  have ly1:y.length=1:=by omega
  clear hn;obtain⟨p,rfl⟩:∃p,x=[p]:=YV.1 lx1;obtain⟨q,rfl⟩:∃q,y=[q]:=YV.1 ly1;refine gi rfl ?_;refine gi rfl ?_;refine gc (Xi (rt p) (rt q) (cx.qs oz (by simp:p∈[p])).ok (cy.qs oz (by simp:q∈[q])).ok) ?_;refine gD ?_;refine ah ?_;rw[e1,cc,cc];rfl
 have h1:n≠1:=by have:=z;simp only[aa,beq_eq_false_iff_ne,ne_eq]at this;omega
 obtain⟨i,hij,hmax⟩:=(KH nx ny h0).resolve_left oz;obtain⟨k',rfl⟩:∃k',k=k'+1:=⟨k-1,by omega⟩
 have hp2:=Yq i;have hpi:2^i<=32:=cm (b:=5) oz;have hps:2^(i+1)=2*2^i:=by rw[Yj];omega
 have hnn:n=2^(i+1):=by omega
 have hes:eB r (i+1)<=eB r j:=gX r hij;have hee:eB r (i+1)=2*eB r i+r+2:=rfl;have lx:(a6 x (2^(i+1))).length=2^(i+1):=dO oz;have ly:(a6 y (2^(i+1))).length=2^(i+1):=dO oz;obtain⟨X,hX⟩:∃X,X=a6 x (2^(i+1)):=⟨_,rfl⟩
 obtain⟨Y,hY⟩:∃Y,Y=a6 y (2^(i+1)):=⟨_,rfl⟩
 have cX:Cb e X:=by rw[hX];exact cx.wide
 have cY:Cb f Y:=by rw[hY];exact cy.wide
 rw[<- hX]at lx;rw[<- hY]at ly;have n1:Nl i (X.take (2^i)):=.inr ⟨i,aau _,fZ lx⟩;have n2:Nl i (X.drop (2^i)):=.inr ⟨i,aau _,gh lx⟩;have n3:Nl i (Y.take (2^i)):=.inr ⟨i,aau _,fZ ly⟩;have n4:Nl i (Y.drop (2^i)):=.inr ⟨i,aau _,gh ly⟩;have nd:=ht.1 i oz;have cd:=ht.2.cb i;have s1:=lA hm ht (k:=k') (show i<=m by omega) oz n1 n3 cX.take cY.take;have s2:=lA hm ht (k:=k') (show i<=m by omega) oz n2 n4 cX.drop cY.drop;have s3:=lA hm ht (k:=k') (show i<=m by omega) oz s2.1 nd s2.2.2 cd;have s4:=lA hm ht (k:=k') (show i<=m by omega) oz n1 n4 cX.take cY.drop;have s5:=lA hm ht (k:=k') (show i<=m by omega) oz n2 n3 cX.drop cY.take;have hrt:=F9 (ts:=ts) (k:=k') (a:=a) (b:=b) rfl (by rw[<- hx,<- hy];exact h0) (by rw[<- hx,<- hy];exact hmax);rw[<- hx,<- hy,<- hX,<- hY]at hrt;have w1:=qw x n oz oz;have w2:=qw y n oz oz;rw[hnn,<- hX]at w1;rw[hnn,<- hY]at w2;rw[<- hnn]at w1 w2;have pw:=tg n oz;rw[show kZ n=i+1 by rw[hnn];exact(mg oz).1,show kV n=true by rw[hnn];exact(mg oz).2]at pw;refine gc w1 ?_;refine gc w2 ?_;refine gc pw ?_;refine gs (fv (.tmp rfl) (.const _) oz (show _=((2^i:Nat):Int) by rw[f7 oz,hnn,fK]) rfl) ?_;refine gs (di (.tmp rfl) (.none _) (.some _ (.tmp rfl) oz) T53 rfl T106 rfl oz (by simp only[aar];omega) rfl) ?_;refine gs (fv (.tmp rfl) (.const _) oz (show _=((2^i:Nat):Int) by rw[f7 oz,hnn,fK]) rfl) ?_;refine gs (di (.tmp rfl) (.some _ (.tmp rfl) oz) (.none _) T53 rfl T106 rfl (by simp only[aar];omega) oz rfl) ?_;refine gs (fv (.tmp rfl) (.const _) oz (show _=((2^i:Nat):Int) by rw[f7 oz,hnn,fK]) rfl) ?_;refine gs (di (.tmp rfl) (.none _) (.some _ (.tmp rfl) oz) T53 rfl T106 rfl oz (by simp only[aar];omega) rfl) ?_;refine gs (fv (.tmp rfl) (.const _) oz (show _=((2^i:Nat):Int) by rw[f7 oz,hnn,fK]) rfl) ?_;refine gs (di (.tmp rfl) (.some _ (.tmp rfl) oz) (.none _) T53 rfl T106 rfl (by simp only[aar];omega) oz rfl) ?_;refine gD ?_ (10,0);refine gW (Wk.of (sl:=[pP 3 (.ptr 3 0),pP 7 (i64 n),pP 8 (i64 ((i+1:Nat):Int)),pP 10 (nA (X.take (2^i))),pP 11 (nA (X.drop (2^i))),pP 12 (nA (Y.take (2^i))),pP 13 (nA (Y.drop (2^i)))]) (hp:=[pP 3 (.box [.lst 1 R])]) (.k (.k (.k (.cons rfl (Sub.of (l6 X (2^i))) (.cons rfl (Sub.of (mz X (2^i))) (.cons rfl (Sub.of (l6 Y (2^i))) (.cons rfl (Sub.of (mz Y (2^i))) .nil))))))) (.k .nil)) ?_
 refine gc (ih k' oz i _ _ e f oz oz n1 n3 cX.take cY.take oz) ?_;refine gc (ih k' oz i _ _ e f oz oz n2 n4 cX.drop cY.drop oz) ?_;refine ga (show _=(i:Int) by rw[dP oz];omega) ?_;refine gi (hR i oz) ?_;refine gc (ih k' oz i _ _ _ _ oz oz s2.1 nd s2.2.2 cd oz) ?_;refine gc (zT _ _ (fun q hq=>s1.2.2.qs oz hq) (fun q hq=>s3.2.2.qs oz hq) (by have:=s1.1.le;omega) (by have:=s3.1.le;omega)) ?_;refine gD ?_;refine gc (ih k' oz i _ _ e f oz oz n1 n4 cX.take cY.drop oz) ?_;refine gc (ih k' oz i _ _ e f oz oz n2 n3 cX.drop cY.take oz) ?_;refine gc (zT _ _ (fun q hq=>s4.2.2.qs oz hq) (fun q hq=>s5.2.2.qs oz hq) (by have:=s4.1.le;omega) (by have:=s5.1.le;omega)) ?_;refine gD ?_;refine gs (fv (.tmp rfl) (.const _) oz (show _=((2^i:Nat):Int) by rw[f7 oz,hnn,fK]) rfl) ?_;refine gt (aE (CI 900 rfl _ (2^i) (by have:=s1.1.le;have:=s3.1.le;rw[eG];omega) oz) (bC rfl rfl) aG rfl rfl) ?_;refine gs (fv (.tmp rfl) (.const _) oz (show _=((2^i:Nat):Int) by rw[f7 oz,hnn,fK]) rfl) ?_;refine gc (qw _ (2^i) (by have:=s4.1.le;have:=s5.1.le;rw[eG];omega) oz) ?_;refine gs (qT (.tmp rfl) rfl (by have:=s1.1.le;have:=s3.1.le;rw[aar,dO (by rw[eG];omega)]) (.tmp rfl) T53 rfl T106 rfl rfl (by have:=s4.1.le;have:=s5.1.le;rw[aar,dO (by rw[eG];omega)];show(2^i+2^i)*56<=140737488355328;omega) rfl rfl) ?_;refine ah ?_;rw[hrt,<- abf];rfl
theorem XI(ts:LL)(m r:Nat)(ht:iO ts m r)(hm:m<=5)(R:List AV)(hR:∀j,j<m->R[j]?=some (nA (ts.getD j [])))(i n:Nat)(a:List Rat)(e:Nat)(hi:i+1<=m)(hnn:n=2^(i+1))(hal:a.length=2^(i+1))(ca:Cb e a)(hs:4*e+3*eB r i+r+1<4398046511104) :
  FP 341 [.agg [.lst 1 R],nA a,i64 n] (nA (oq ts i a)):=by
 have hp2:=Yq i;have hpi:2^i<=32:=cm (b:=5) oz;have hps:2^(i+1)=2*2^i:=by rw[Yj];omega
 have n1:Nl i (a.take (2^i)):=.inr ⟨i,aau _,fZ hal⟩;have n2:Nl i (a.drop (2^i)):=.inr ⟨i,aau _,gh hal⟩;have nd:=ht.1 i oz;have cd:=ht.2.cb i;have s1:=lA hm ht (k:=i) (show i<=m by omega) oz n1 n1 ca.take ca.take;have s2:=lA hm ht (k:=i) (show i<=m by omega) oz n2 n2 ca.drop ca.drop;have s3:=lA hm ht (k:=i) (show i<=m by omega) oz s2.1 nd s2.2.2 cd;have w1:=qw a n oz oz;rw[show a6 a n=a by unfold a6;rw[hnn,hal];simp]at w1;have pw:=tg n oz;rw[show kZ n=i+1 by rw[hnn];exact(mg oz).1,show kV n=true by rw[hnn];exact(mg oz).2]at pw;refine aj func341 ?_;refine gc w1 ?_;refine gc pw ?_;refine gs (fv (.tmp rfl) (.const _) oz (show _=((2^i:Nat):Int) by rw[f7 oz,hnn,fK]) rfl) ?_;refine gs (di (.tmp rfl) (.none _) (.some _ (.tmp rfl) oz) T53 rfl T106 rfl oz (by simp only[aar];omega) rfl) ?_;refine gs (fv (.tmp rfl) (.const _) oz (show _=((2^i:Nat):Int) by rw[f7 oz,hnn,fK]) rfl) ?_;refine gs (di (.tmp rfl) (.some _ (.tmp rfl) oz) (.none _) T53 rfl T106 rfl (by simp only[aar];omega) oz rfl) ?_;refine gD ?_ (4,0);refine gW (Wk.of (sl:=[pP 3 (.ptr 3 0),pP 7 (i64 ((i+1:Nat):Int)),pP 9 (nA (a.take (2^i))),pP 10 (nA (a.drop (2^i)))]) (hp:=[pP 3 (.box [.lst 1 R])]) (.k (.k (.cons rfl (Sub.of (l6 a (2^i))) (.cons rfl (Sub.of (mz a (2^i))) .nil)))) (.k .nil)) ?_;refine gc (Aw ts m r ht hm R hR i i _ _ e e oz oz n1 n1 ca.take ca.take oz) ?_;refine gc (Aw ts m r ht hm R hR i i _ _ e e oz oz n2 n2 ca.drop ca.drop oz) ?_;refine ga (show _=(i:Int) by rw[dP oz];omega) ?_;refine gi (hR i oz) ?_;refine gc (Aw ts m r ht hm R hR i i _ _ _ _ oz oz s2.1 nd s2.2.2 cd oz) ?_;refine gc (Nw _ (fun q hq=>s3.2.2.qs oz hq) (by have:=s3.1.le;omega)) ?_;refine gc (zT _ _ (fun q hq=>s1.2.2.qs oz hq) (fun q hq=>s3.2.2.minus.qs oz hq) (by have:=s1.1.le;omega) (by have:=s3.1.le;rw[jf];omega)) ?_;refine gD ?_;refine ah ?_;rfl
theorem Fs(ts:LL)(m r:Nat)(ht:iO ts m r)(hm:m<=5)(hpos:∀j,j<m->0<=T.sgn (au ts) j (au ts j))(R:List AV)(hR:∀j,j<m->R[j]?=some (nA (ts.getD j [])))(j:Nat):∀(a:List Rat)(e:Nat),j<=m->Nl j a->Cb e a->sB r j e<4398046511104 ->
  FP 216 [.agg [.lst 1 R],nA a] (i64 (T.sgn (au ts) j (ae j a))):=by
 induction j using Nat.strongRecOn
 rename_i j ih;intro a e hj ha ca hs;have hse:=oK r j e;obtain⟨s,hsa⟩:∃s,s=sh j (ae j a):=⟨_,rfl⟩
 have hsd:ae j s=ae j a:=by rw[hsa,bh]
 have hsn:Nl j s:=by rw[hsa];exact eT j _
 have cs:Cb e s:=by rw[hsa];exact ca.sh ha
 have hls:=hsn.len5 oz;rw[<- hsd];refine aj func216 ?_;refine gc (hsa▸Cu a oz ha) ?_;refine gl ?_;refine gC (fun z=>?_) (fun z=>?_)
 ·have h1 : s=[] := ZA.1 (by have := z;simp only[aa,beq_iff_eq]at this;omega);refine ah ?_;rw[h1,gp,T.sgn_zero];rfl
 have h1:s.length≠0:=by have:=z;simp only[aa,beq_eq_false_iff_ne,ne_eq]at this;omega
 refine gl ?_;refine gC (fun z=>?_) (fun z=>?_)
 ·have h2 : s.length = 1 := by have := z; simp only [aa, beq_iff_eq] at this; omega
  obtain⟨q,rfl⟩:=YV.1 h2;refine gi rfl ?_;refine gc (It (rt q) (cs.qs oz (by simp:q∈[q])).ok) ?_;refine ah ?_;rw[lg,T.sgn_ofQ,cc]
 have h2:s.length≠1:=by have:=z;simp only[aa,beq_eq_false_iff_ne,ne_eq]at this;omega
 obtain⟨i,hij,hsl⟩:∃i,i+1<=j/\s.length=2^(i+1):=by
  rcases ou hsn with h |h |h
  ·exact acc h h1
  ·exact acc h h2
  ·exact h
 have hp2:=Yq i;have hpi:2^i<=32:=cm (b:=5) oz;have hps:2^(i+1)=2*2^i:=by rw[Yj];omega
 have n1:Nl i (s.take (2^i)):=.inr ⟨i,aau _,fZ hsl⟩;have n2:Nl i (s.drop (2^i)):=.inr ⟨i,aau _,gh hsl⟩;have nd:=ht.1 i oz;have cd:=ht.2.cb i;obtain⟨nn,dn,cn⟩:=M3 hm ht oz hsl cs;have b1:sB r i (4*e+3*eB r i+r+1)<=sB r j e:=uq r e hij;have b2:sB r i e<=sB r i (4*e+3*eB r i+r+1):=pM r i oz;have b3:sB r i r<=sB r i (4*e+3*eB r i+r+1):=pM r i oz;have b4:=oK r i (4*e+3*eB r i+r+1);have k1:=ih i oz (s.take (2^i)) e oz n1 cs.take oz;have k2:=ih i oz (s.drop (2^i)) e oz n2 cs.drop oz;have k3:=ih i oz _ r oz nd cd oz;have k4:=ih i oz _ _ oz nn cn oz
 have v3:T.sgn (au ts) i (ae i (ts.getD i []))=0\/T.sgn (au ts) i (ae i (ts.getD i []))=1:=by
  have h9:0<=T.sgn (au ts) i (ae i (ts.getD i [])):=hpos i oz;have:=T.sgn_cases (au ts) i (ae i (ts.getD i []));omega
 have hres:T.sgn (au ts) j (ae j s)=T.sgn3 (T.sgn (au ts) i (ae i (s.take (2^i)))) (T.sgn (au ts) i (ae i (s.drop (2^i)))) (T.sgn (au ts) i (ae i (ts.getD i []))) (T.sgn (au ts) i (ae i (oq ts i s))):=by
  rw[tE _ oz hij,dn];rfl
 rw[Mg v3]at hres;have v1:=T.sgn_cases (au ts) i (ae i (s.take (2^i)));have v2:=T.sgn_cases (au ts) i (ae i (s.drop (2^i)));have v4:=T.sgn_cases (au ts) i (ae i (oq ts i s));have pw:=tg s.length oz;rw[show kZ s.length=i+1 by rw[hsl];exact(mg oz).1,show kV s.length=true by rw[hsl];exact(mg oz).2]at pw;refine gc pw ?_;refine ga (show _=(i:Int) by rw[dP oz];omega) ?_;refine gi (hR i oz) ?_;refine gs (fv (.tmp rfl) (.const _) oz (show _=((2^i:Nat):Int) by rw[f7 oz,hsl,fK]) rfl) ?_;refine gs (di (.tmp rfl) (.none _) (.some _ (.tmp rfl) oz) T53 rfl T106 rfl oz (by simp only[aar];omega) rfl) ?_;refine gc (by have h9:=k1;rw[<- l6]at h9;exact h9) ?_;refine gs (fv (.tmp rfl) (.const _) oz (show _=((2^i:Nat):Int) by rw[f7 oz,hsl,fK]) rfl) ?_;refine gs (di (.tmp rfl) (.some _ (.tmp rfl) oz) (.none _) T53 rfl T106 rfl (by simp only[aar];omega) oz rfl) ?_;refine gc (by have h9:=k2;rw[<- mz]at h9;exact h9) ?_;refine gc k3 ?_;refine ga (Ai v2 (.inr v3)) ?_;refine gD ?_;refine gC (fun z=>?_) (fun z=>?_)
 ·have e2:=AR z;refine ah ?_;rw[hres,ab6 e2]
 have e2:=yW z;refine gC (fun z=>?_) (fun z=>?_)
 ·have e3 : T.sgn (au ts) i (ae i (s.take (2 ^ i))) = 0 := by simpa [aa] using z
  refine ah ?_;rw[hres,ab5 e2,ab6 e3];rfl
 have e3:¬T.sgn (au ts) i (ae i (s.take (2^i)))=0:=by simpa[aa]using z
 refine gc (XI ts m r ht hm R hR i s.length s e oz hsl hsl cs oz) ?_;refine gc k4 ?_;refine ga (Ai v1 v4) ?_;refine gD ?_;refine ah ?_;rw[hres,ab5 e2,ab5 e3];rfl
theorem ED(rs:List (List Rt))(r:Nat)(h:TR rs r):FP 107 [cI rs] (i64 (bM rs)):=by
 have hll:=h.ll;have hr:=h.le;refine aj func107 ?_;refine gl ?_;refine gC (fun z=>?_) (fun z=>?_)
 ·have h5 : 5 < rs.length := by have := z; simp only [aa, ab7] at this; omega
  refine ah ?_;rw[F6 h5];rfl
 have h5:rs.length<=5:=by have:=z;simp only[aa,decide_eq_false_iff_not]at this;omega
 refine gl ?_;refine aW [1,11,12] [1] (fun(k:Nat)=>[pP 13 (i64 k)]) (fun _=>[]) (fun k=>k<=rs.length/\∀j,j<k->iL rs j) (fun k=>rs.length-k) 0 ⟨aa0 _,fun j hj=>by omega⟩ ?_;rintro k ⟨hk,hj⟩ K1 J1;refine gC (fun z=>?_) (fun z=>?_)
 ·have hin : k < rs.length := by simpa [aa] using z
  obtain⟨d,hd⟩:=ay hin;have hdm:=aap hd;have hdl:=h.len d hdm;refine gi (aH hd) ?_;refine gl ?_;refine gs (ia (.const _) (.tmp rfl) oz (nB oz) rfl) ?_;refine gC (fun z=>?_) (fun z=>?_)
  ·have h1 : d.length ≠ 2 ^ k := by have := z; simp only [aa, bne_iff_ne, ne_eq] at this; omega
   refine ah ?_;rw[EG h5 hd hj h1];rfl
  have h1:d.length=2^k:=by have:=z;simp only[aa,bne_eq_false_iff_eq]at this;omega
  have hnu:=DM k oz d (h.ok d hdm) hdl;refine gc hnu ?_;refine gC (fun z=>?_) (fun z=>?_)
  ·have h2:=km z;refine ah ?_;rw[Kx h5 hd hj h1 h2]
  have h2:=jW z;have hts:=H8 (ts:=llq rs) (fun j hjk=>(hj j hjk).nl) h.rb;have hq:=vD h2 (h.ok d hdm);have hcb:Cb r (lq d):=by have:=h.rb.cb k;rw[tR,aaq,hd]at this;exact this
  have hsg:FP 216 [cI rs,nR d] (i64 (T.sgn (au (llq rs)) k (ae k (lq d)))):=by
   have h9:=Fs ((llq rs).take k) k r hts oz (fun j hjk=>by rw[T.sgn_congr j (fun i hi=>wB (show i<k by omega)),wB hjk];exact(hj j hjk).2.2) (rs.map nR) (fun j hjk=>RM h.ok (show k<=rs.length by omega) hj hjk) k (lq d) r (aau _) hq.2 hcb (nI (aau k) (by have:=h.three;omega) hr (by have:=j5 k;omega));rw[T.sgn_congr k (fun j hjk=>wB hjk)]at h9;rw[hq.1,eI];rw[<- hq.1];exact h9
  refine gc hsg ?_;refine gC (fun z=>?_) (fun z=>?_)
  ·have h3 : T.sgn (au (llq rs)) k (ae k (lq d)) < 0 := by simpa [aa] using z
   refine ah ?_;rw[Ea h5 hd hj h1 h2 h3];rfl
  have h3:¬T.sgn (au (llq rs)) k (ae k (lq d))<0:=by simpa[aa]using z
  refine ga aS ?_;exact aR J1 (k+1) ⟨hin,fun j hjk=>by rcases aay j k with h9 |h9;exact hj j h9;(have:j=k:=by omega);subst this;exact Ek hd h1 h2 h3⟩
 have hin:k=rs.length:=by have:rs.length<=k:=(by simpa[aa]using z);omega
 subst hin;refine ah ?_;rw[Gx h5 hj];rfl
theorem EB(rs:List (List Rt))(r:Nat)(h:TR rs r)(xs:List (List Rt))(hx:∀a∈xs,(∀x∈a,x.ok)/\a.length<=281474976710656)(hl:xs.length<=281474976710656):FP 217 [cI rs,.lst 1 (xs.map nR)] (i64 (bB rs xs)):=by
 refine aj func217 ?_;refine gc (ED rs r h) ?_;refine gC (fun z=>?_) (fun z=>?_)
 ·have h1:=km z;refine ah ?_;rw[AD h1]
 have h1:=jW z;have h5:rs.length<=5:=by have:=(db h h1).1.five;rwa [aar]at this
 refine gl ?_;refine aW [2,14,15] [2] (fun(i:Nat)=>[pP 16 (i64 i)]) (fun _=>[]) (fun i=>i<=xs.length/\∀x∈xs.take i,co rs.length x=0) (fun i=>xs.length-i) 0 ⟨aa0 _,fun x hx=>by simp at hx⟩ ?_;rintro i ⟨hi,hj⟩ K1 J1;refine gC (fun z=>?_) (fun z=>?_)
 ·have hin : i < xs.length := by simpa [aa] using z
  obtain⟨a,ha⟩:=ay hin;have hok:=hx a (aap ha);refine gi (aH ha) ?_;refine gl ?_;refine gc (DM rs.length h5 a hok.1 hok.2) ?_;refine gC (fun z=>?_) (fun z=>?_)
  ·have h2:=km z;refine ah ?_;rw[vB h1 ha hj h2]
  have h2:=jW z;refine ga aS ?_;exact aR J1 (i+1) ⟨hin,fun x hx=>by rw[dK ha]at hx;rcases aa2.1 hx with h9 |h9;exact hj x h9;(rw[Za.1 h9];exact h2)⟩
 have hin:i=xs.length:=by have:xs.length<=i:=(by simpa[aa]using z);omega
 subst hin;rw[aa8]at hj;refine ah ?_;rw[qU h1 hj];rfl
theorem Ml(rs:List (List Rt))(r:Nat)(h:TR rs r)(a:List Rt)(e:Nat)(ha:NR a e)(he:e<=lm rs.length) :
  FP 109 [cI rs,nR a] (.tup [i64 (if bB rs [a]=0 then T.sgn (au (llq rs)) rs.length (ae rs.length (lq a))else 0),i64 (bB rs [a])]):=by
 have hr:=h.le;have hlm:=kc rs.length;refine aj func109 ?_;refine gc (EB rs r h [a] (fun x hx=>by rw[Za.1 hx];exact⟨ha.ok,ha.len⟩) (by simp)) ?_;refine gC (fun z=>?_) (fun z=>?_) (st2:=(77777,0))
 ·have h1:=km z;refine bt ?_;rw[ab5 h1];rfl
 have h1:=jW z;obtain⟨h2,h3⟩:=mn h1;obtain⟨tw,e0⟩:=db h h2;obtain⟨e1,na⟩:=ha.num (h3 a (by simp));have hlen:(llq rs).length=rs.length:=aar _;have h5:rs.length<=5:=by have:=tw.five;omega
 have htw:=tw.ok;rw[hlen]at htw;have hsg:=Fs (llq rs) rs.length r htw h5 (fun j hj=>tw.pos j oz) ((llq rs).map nA) (fun j hj=>wt oz) rs.length _ _ (aau _) na ha.cb (nI (aau rs.length) (by have:=tw.three;omega) hr oz);refine gW (Wk.of (sl:=[pP 1 (nA (lq a)),pP 2 (.ptr 2 0),pP 6 (i64 (bB rs [a]))]) (hp:=[pP 2 (.box [.lst 1 ((llq rs).map nA)])]) (.cons rfl (Sub.of e1) (.k (.k .nil))) (.cons rfl (BlkSub.bL (.cons (.of (mt e0)) .nil) rfl) .nil)) ?_;refine gc hsg ?_;refine bt ?_;rw[ab6 h1,h1];rfl
theorem Ve(rs:List (List Rt))(r:Nat)(h:TR rs r)(a:List Rt)(e:Nat)(ha:NR a e)(he:e<=lm rs.length) :
  FP 108 [cI rs,nR a] (.tup [nA (if bB rs [a]=0 then a6 (lq a) (2^rs.length)else[]),i64 (bB rs [a])]):=by
 have hlm:=kc rs.length;refine aj func108 ?_;refine gc (EB rs r h [a] (fun x hx=>by rw[Za.1 hx];exact⟨ha.ok,ha.len⟩) (by simp)) ?_;refine gC (fun z=>?_) (fun z=>?_) (st2:=(77777,0))
 ·have h1:=km z;refine gR ?_;exact dS (by rw[ab5 h1];exact Sub.tup (.cons (.nil _ _ _) (.cons (.refl _) .nil)))
 have h1:=jW z;obtain⟨h2,h3⟩:=mn h1;obtain⟨tw,e0⟩:=db h h2;obtain⟨e1,na⟩:=ha.num (h3 a (by simp));have hlen:(llq rs).length=rs.length:=aar _;have h5:rs.length<=5:=by have:=tw.five;omega
 have hp5:2^rs.length<=32:=cm (b:=5) h5;refine gW (Wk.of (sl:=[pP 1 (nA (lq a)),pP 2 (.ptr 2 0),pP 6 (i64 (bB rs [a]))]) (hp:=[pP 2 (.box [.lst 1 (rs.map nR)])]) (.cons rfl (Sub.of e1) (.k (.k .nil))) (.k .nil)) ?_;refine gl ?_;refine gs (ia (.const _) (.tmp rfl) oz (nB oz) rfl) ?_;refine gc (qw _ _ na.le oz) ?_;refine bt ?_;rw[ab6 h1,h1];rfl
theorem CG{p q:Rat}(hp:Qs p)(hq:Qs q):FP 172 [qA p,qA q] (qA (p+q)):=by
 have h:=oJ (rt p) (rt q) hp.ok hq.ok;rw[cc,cc]at h;exact h
theorem xw{p q:Rat}(hp:Qs p)(hq:Qs q):FP 330 [qA p,qA q] (qA (p-q)):=by
 have h:=OG (rt p) (rt q) hp.ok hq.ok;rw[cc,cc]at h;exact h
theorem vd{p q:Rat}(hp:Qs p)(hq:Qs q):FP 337 [qA p,qA q] (qA (p*q)):=by
 have h:=FL (rt p) (rt q) hp.ok hq.ok;rw[cc,cc]at h;exact h
theorem SG{p q:Rat}(hp:Qs p)(hq:Qs q):FP 361 [qA p,qA q] (.tup [qA (p/q),bF (if q=0 then 8 else 0)]):=by
 have h:=IU (rt p) (rt q) hp.ok hq.ok;rw[cc,cc]at h;exact h
theorem Rd{p:Rat}(hp:Qs p):FP 179 [qA p] (i64 (bV p)):=by
 have h:=xE (rt p) hp.ok;rw[cc]at h;exact h
theorem wF(x:Tn)(hx:x.t.ok):FP 84 [x.av] (bF x.err):=by
 refine aj func84 ?_;refine gc (ua x.t hx) ?_;refine b8 (fun _=>(xE x.t hx)) ?_;refine gC (fun z=>?_) (fun z=>?_)
 ·have h0:=Tn.err_yes z;refine ah ?_;rw[h0];rfl
 have h0:=Tn.err_no z;refine ah ?_;rw[h0];rfl
theorem Fj{p q:Rat}(hp:Qs p)(hq:Qs q):FP 448 [qA p,qA q] (qA (p/q)):=by
 refine aj func448 ?_;refine gc (SG hp hq) ?_;refine gC (fun t14=>?_) (fun t14=>?_)
 ·have h0:q=0:=by
   have:=dH t14
   by_cases h:q=0
   ·exact h
   ·rw[ab5 h]at this;exact acc rfl this
  refine gR ?_;exact lc (by rw[h0,VP];exact kf)
 refine ah ?_;rfl
theorem Ik(half:Bool){t:Rat}{e:Nat}(ht:Qb e t)(he:e<=1000000):FP 400 [Tn.av ⟨rt t,half⟩] (.tup [qA (dW half t),qA (dR half t)]):=by
 have qt:Qs t:=ht.qs oz;have m2:=ht.mul ht;have one:Qb 1 (((1:Int):Rat)):=Qb.one;have d:=one.add m2;refine aj func400 ?_;refine gC (fun z=>?_) (fun z=>?_)
 ·have h0:half=true:=z;refine gc (kH (-1) oz) ?_;refine gR ?_;exact dS (by subst h0;exact Sub.tup (.cons (.refl _) (.cons kf .nil)))
 have h0:half=false:=z;refine gc (kH 1 oz) ?_;refine gc (vd qt qt) ?_;refine gD ?_;refine gc (CG (one.qs oz) (m2.qs oz)) ?_;refine gc (xw (one.qs oz) (m2.qs oz)) ?_;refine gc (Fj ((one.sub m2).qs oz) (d.qs oz)) ?_;refine gc (CG qt qt) ?_;refine gc (Fj ((ht.add ht).qs oz) (d.qs oz)) ?_;refine gD ?_;refine bt ?_;subst h0;rfl
theorem BU(x:Tn)(hx:x.t.ok){e:Nat}(hq:Qb e x.t.q)(he:e<=1000000):FP 314 [x.av] (.tup [qA (if x.err=0 then dW x.half x.t.q else 0),bF x.err]):=by
 refine aj func314 ?_;refine gc (wF x hx) ?_;refine gC (fun z=>?_) (fun z=>?_)
 ·have h1:=dH z;refine gR ?_;exact dS (by rw[ab5 h1];exact Sub.tup (.cons kf (.cons (.refl _) .nil)))
 have h1:=dD z;have hd:=Ik x.half hq he;rw[<- Rt.eq_rt hx (Tn.ok_valid h1)]at hd;refine gc hd ?_;refine bt ?_;rw[ab6 h1,h1];rfl
theorem HY(x:Tn)(hx:x.t.ok){e:Nat}(hq:Qb e x.t.q)(he:e<=1000000):FP 315 [x.av] (.tup [qA (if x.err=0 then dR x.half x.t.q else 0),bF x.err]):=by
 refine aj func315 ?_;refine gc (wF x hx) ?_;refine gC (fun z=>?_) (fun z=>?_)
 ·have h1:=dH z;refine gR ?_;exact dS (by rw[ab5 h1];exact Sub.tup (.cons kf (.cons (.refl _) .nil)))
 have h1:=dD z;have hd:=Ik x.half hq he;rw[<- Rt.eq_rt hx (Tn.ok_valid h1)]at hd;refine gc hd ?_;refine bt ?_;rw[ab6 h1,h1];rfl
theorem xI{ts:LL}{r e f:Nat}(tw:Tw ts r){a b:List Rat}(ha:Nm ts.length e a)(hb:Nm ts.length f b)(he:e+f<=lm ts.length) :
  FP 250 [aT ts,nA a,nA b] (.tup [nA (sh ts.length (T.add ts.length (ae ts.length a) (ae ts.length b))),.v .nilIface]):=by
 have h:=XS (ts.map (List.map rt)) r tw.tr (a.map rt) (b.map rt) e f (ha.rt oz) (hb.rt oz) (by rw[aar];exact he);have h0:bB (ts.map (List.map rt)) [a.map rt,b.map rt]=0:=uF tw ha hb;rw[h0,ab6 rfl,ip,eI,eI,eL,eL,aar]at h;exact h
theorem oh{ts:LL}{r e f:Nat}(tw:Tw ts r){a b:List Rat}(ha:Nm ts.length e a)(hb:Nm ts.length f b)(he:e+f<=lm ts.length) :
  FP 209 [aT ts,nA a,nA b] (.tup [nA (sh ts.length (T.add ts.length (ae ts.length a) (T.neg ts.length (ae ts.length b)))),.v .nilIface]):=by
 have h:=QA (ts.map (List.map rt)) r tw.tr (a.map rt) (b.map rt) e f (ha.rt oz) (hb.rt oz) (by rw[aar];exact he);have h0:bB (ts.map (List.map rt)) [a.map rt,b.map rt]=0:=uF tw ha hb;rw[h0,ab6 rfl,ip,eI,eI,eL,eL,aar]at h;exact h
theorem xf{ts:LL}{r e f:Nat}(tw:Tw ts r){a b:List Rat}(ha:Nm ts.length e a)(hb:Nm ts.length f b)(he:e+f<=lm ts.length) :
  FP 210 [aT ts,nA a,nA b] (.tup [nA (sh ts.length (T.mul (au ts) ts.length (ae ts.length a) (ae ts.length b))),.v .nilIface]):=by
 have h:=XM (ts.map (List.map rt)) r tw.tr (a.map rt) (b.map rt) e f (ha.rt oz) (hb.rt oz) (by rw[aar];exact he);have h0:bB (ts.map (List.map rt)) [a.map rt,b.map rt]=0:=uF tw ha hb;rw[h0,ab6 rfl,ip,eI,eI,oH,eL,eL,aar]at h;exact h
theorem zM{ts:LL}{r e f:Nat}(tw:Tw ts r){a b:List Rat}(ha:Nm ts.length e a)(hb:Nm ts.length f b)(he:e+f+1<=lm ts.length) :
  FP 399 [aT ts,nA a,nA b] (.tup [i64 (T.sgn (au ts) ts.length (T.add ts.length (ae ts.length a) (T.neg ts.length (ae ts.length b)))),.v .nilIface]):=by
 have h:=WV (ts.map (List.map rt)) r tw.tr (a.map rt) (b.map rt) e f (ha.rt oz) (hb.rt oz) (by rw[aar];exact he);have h0:bB (ts.map (List.map rt)) [a.map rt,b.map rt]=0:=uF tw ha hb;rw[h0,ab6 rfl,ip,eI,eI,oH,eL,eL,aar]at h;exact h
theorem rE{ts:LL}{r e:Nat}(tw:Tw ts r){a:List Rat}(ha:Nm ts.length e a)(he:e<=lm ts.length) :
  FP 87 [aT ts,nA a] (.tup [i64 (T.sgn (au ts) ts.length (ae ts.length a)),.v .nilIface]):=by
 have h:=UZ (ts.map (List.map rt)) r tw.tr (a.map rt) e (ha.rt he) (by rw[aar];exact he);have h0:bB (ts.map (List.map rt)) [a.map rt]=0:=tA tw ha;rw[h0,ab6 rfl,ip,eI,oH,eL,aar]at h;exact h
theorem M6{ts:LL}{r e:Nat}(tw:Tw ts r){a:List Rat}(ha:Nm ts.length e a)(he:e<=lm ts.length) :
  FP 109 [aT ts,nA a] (.tup [i64 (T.sgn (au ts) ts.length (ae ts.length a)),i64 0]):=by
 have h:=Ml (ts.map (List.map rt)) r tw.tr (a.map rt) e (ha.rt he) (by rw[aar];exact he);have h0:bB (ts.map (List.map rt)) [a.map rt]=0:=tA tw ha;rw[h0,ab6 rfl,ip,eI,oH,eL,aar]at h;exact h
theorem BL{ts:LL}{r e:Nat}(tw:Tw ts r){a:List Rat}(ha:Nm ts.length e a)(he:e<=lm ts.length) :
  FP 128 [aT ts,nA a] (.tup [nA (sh ts.length (T.neg ts.length (ae ts.length a))),.v .nilIface]):=by
 have h:=ER (ts.map (List.map rt)) r tw.tr (a.map rt) e (ha.rt he) (by rw[aar];exact he);have h0:bB (ts.map (List.map rt)) [a.map rt]=0:=tA tw ha;rw[h0,ab6 rfl,ip,eI,eL,aar]at h;exact h
theorem Q8{ts:LL}{r:Nat}(tw:Tw ts r):FP 138 [aT ts] (.v .nilIface):=by
 have h:=rx (ts.map (List.map rt)) r tw.tr;rw[tw.chk,ip]at h;exact h
theorem mh{q:Rat}(h:Qs q):FP 115 [qA q] (nA (sh 0 (q:Rat))):=by
 have h1:=N8 (rt q) h.ok (by rw[cc];exact h);rw[cc]at h1;exact h1
theorem x7{ts:LL}{r e:Nat}(tw:Tw ts r)(ls:LL)(hl:∀l∈ls,Nm ts.length e l)(he:e<=lm ts.length)(hn:ls.length<=1000):FP 264 [aT ts,.lst 1 (ls.map nA)] (.v .nilIface):=by
 refine aj func264 ?_;refine gc (Q8 tw) ?_;refine gf ?_;refine gl ?_;refine aW [2,15,16] [2] (fun(i:Nat)=>[pP 17 (i64 i)]) (fun _=>[]) (fun i=>i<=ls.length) (fun i=>ls.length-i) 0 (aa0 _) ?_;rintro i hi K1 J1;refine gC (fun z=>?_) (fun z=>?_)
 ·have hin : i < ls.length := by simpa [aa] using z
  obtain⟨l,hll⟩:=ay hin;have hok:=hl l (aap hll);refine gi (aH hll) ?_;refine gc (BL tw hok he) ?_;refine gf ?_;refine ga aS ?_;exact aR J1 (i+1) hin
 have hin:i=ls.length:=by have:ls.length<=i:=(by simpa[aa]using z);omega
 refine ah ?_
 first |rfl |(simp;done)
theorem nT{ts:LL}{r e:Nat}(tw:Tw ts r)(ps:List (List Rat×List Rat))(hl:∀p∈ps,Nm ts.length e p.1/\Nm ts.length e p.2)(he:e<=lm ts.length)(hn:ps.length<=500):FP 204 [aT ts,.lst 2 (ps.map fun p=>aD p.1 p.2)] (.v .nilIface):=by
 refine aj func204 ?_;refine gl ?_;refine gW (Wk.virt 900 1 rfl) ?_;refine aW [2,8,9] [2] (fun(i:Nat)=>[pP 5 (.ms 900 1 0 (2*i)),pP 10 (i64 i)]) (fun i=>[pP 900 (.row 1 ((iT (ps.take i)).map nA))]) (fun i=>i<=ps.length) (fun i=>ps.length-i) 0 (aa0 _) ?_;rintro i hi K1 J1;refine gC (fun z=>?_) (fun z=>?_) (st2:=(7,0))
 ·have hin : i < ps.length := by simpa [aa] using z
  obtain⟨p,hp⟩:=ay hin;have hfl:(iT (ps.take i)).length=2*i:=by rw[vH,abc];omega
  refine gi (aH hp) ?_;refine gs (cK (.tmp rfl) rfl (by rw[aar,hfl]) (.tmp rfl) T42 rfl T53 rfl rfl (by simp;omega) rfl rfl) ?_ (6,0);refine gW (Wk.of (sl:=[pP 2 (.ptr 2 0),pP 5 (.ms 20 1 0 (2*i+2)),pP 8 (.lst 2 (ps.map fun p=>aD p.1 p.2)),pP 9 (i64 ps.length),pP 10 (i64 i)]) (hp:=[pP 2 (.box [.lst 1 (ts.map nA)]),pP 20 (.row 1 ((iT (ps.take (i+1))).map nA))]) bb (.k (.cons rfl (BlkSub.of (by rw[dK hp,EJ,abf];rfl)) .nil))) ?_ (6,0);refine gW (Wk.rk (k:=20) (d:=900) rfl rfl) ?_;refine ga aS ?_;exact aR J1 (i+1) hin
 have hin:i=ps.length:=by have:ps.length<=i:=(by simpa[aa]using z);omega
 subst hin;refine gW ((Wk.freeze (k:=900) rfl).trans<|Wk.of (sl:=[pP 2 (.ptr 2 0),pP 5 (.lst 1 ((iT ps).map nA))]) (hp:=[pP 2 (.box [.lst 1 (ts.map nA)])]) (.k (.cons rfl (Sub.of (by rw[b7 (by rw[aar,vH,abc];omega),aa8])) .nil)) (.k .nil)) ?_;refine gc (x7 tw (iT ps) (Gh hl) he (by rw[vH];omega)) ?_;refine ah ?_
 first |rfl |(simp;done)
theorem Ah(R:List AV)(a:List Rat):Con prog 413 [.ptr 1000 0,nA a,.v .nilIface] [pP 1000 (.box [.lst 1 R,.v .nilIface])] (nA a) [pP 1000 (.box [.lst 1 R,.v .nilIface])]:=by
 refine gF func413 (fun k z h=>bO h) ?_;refine gC (fun y=>?_) (fun y=>?_) (st2:=(77777,0))
 ·refine gR ?_;exact aC.keep (bq rfl)
 cases y
theorem yc{ts:LL}{r e f:Nat}(tw:Tw ts r){a b:List Rat}(ha:Nm ts.length e a)(hb:Nm ts.length f b)(he:e+f<=lm ts.length) :
  Con prog 336 [.ptr 1000 0,nA a,nA b] [pP 1000 (gI ts)] (nA (sh ts.length (T.add ts.length (ae ts.length a) (ae ts.length b)))) [pP 1000 (gI ts)]:=by
 refine gF func336 (fun k z h=>bO h) ?_;refine gc (xI tw ha hb he) ?_;refine gt (aE (Ah _ _) (aJ rfl rfl rfl) aG rfl rfl) ?_;refine gR ?_;exact aC.keep (bq rfl)
theorem wi{ts:LL}{r e f:Nat}(tw:Tw ts r){a b:List Rat}(ha:Nm ts.length e a)(hb:Nm ts.length f b)(he:e+f<=lm ts.length) :
  Con prog 331 [.ptr 1000 0,nA a,nA b] [pP 1000 (gI ts)] (nA (sh ts.length (T.add ts.length (ae ts.length a) (T.neg ts.length (ae ts.length b))))) [pP 1000 (gI ts)]:=by
 refine gF func331 (fun k z h=>bO h) ?_;refine gc (oh tw ha hb he) ?_;refine gt (aE (Ah _ _) (aJ rfl rfl rfl) aG rfl rfl) ?_;refine gR ?_;exact aC.keep (bq rfl)
theorem lY{ts:LL}{r e f:Nat}(tw:Tw ts r){a b:List Rat}(ha:Nm ts.length e a)(hb:Nm ts.length f b)(he:e+f<=lm ts.length) :
  Con prog 333 [.ptr 1000 0,nA a,nA b] [pP 1000 (gI ts)] (nA (sh ts.length (T.mul (au ts) ts.length (ae ts.length a) (ae ts.length b)))) [pP 1000 (gI ts)]:=by
 refine gF func333 (fun k z h=>bO h) ?_;refine gc (xf tw ha hb he) ?_;refine gt (aE (Ah _ _) (aJ rfl rfl rfl) aG rfl rfl) ?_;refine gR ?_;exact aC.keep (bq rfl)
theorem Br{ts:LL}{r e f:Nat}(tw:Tw ts r){a b c d:List Rat}(ha:Nm ts.length e a)(hb:Nm ts.length e b)(hc:Nm ts.length f c)(hd:Nm ts.length f d)(he:2*(e+f+kB r ts.length)<=lm ts.length) :
  Con prog 211 [.ptr 1000 0,aD a b,aD c d] [pP 1000 (gI ts)] (nA (sh ts.length (nJ ts (ae ts.length a) (ae ts.length b) (ae ts.length c) (ae ts.length d)))) [pP 1000 (gI ts)]:=by
 refine gF func211 (fun k z h=>bO h) ?_;refine gt (aE (lY tw ha hc oz) (aJ rfl rfl rfl) aG rfl rfl) ?_;refine gt (aE (lY tw hb hd oz) (aJ rfl rfl rfl) aG rfl rfl) ?_;refine gt (aE (BD▸yc tw (ha.mul tw rfl hc) (hb.mul tw rfl hd) oz) (aJ rfl rfl rfl) aG rfl rfl) ?_;refine gD ?_;refine gR ?_;exact aC.keep (bq rfl)
theorem C9{ts:LL}{r e f:Nat}(tw:Tw ts r){a b c d:List Rat}(ha:Nm ts.length e a)(hb:Nm ts.length e b)(hc:Nm ts.length f c)(hd:Nm ts.length f d)(he:2*(e+f+kB r ts.length)<=lm ts.length) :
  Con prog 208 [.ptr 1000 0,aD a b,aD c d] [pP 1000 (gI ts)] (nA (sh ts.length (mY ts (ae ts.length a) (ae ts.length b) (ae ts.length c) (ae ts.length d)))) [pP 1000 (gI ts)]:=by
 refine gF func208 (fun k z h=>bO h) ?_;refine gt (aE (lY tw ha hd oz) (aJ rfl rfl rfl) aG rfl rfl) ?_;refine gt (aE (lY tw hb hc oz) (aJ rfl rfl rfl) aG rfl rfl) ?_;refine gt (aE (Cv▸wi tw (ha.mul tw rfl hd) (hb.mul tw rfl hc) oz) (aJ rfl rfl rfl) aG rfl rfl) ?_;refine gD ?_;refine gR ?_;exact aC.keep (bq rfl)
def T.inv(r:(k:Nat)->T k):(k:Nat)->T k->T k
  |0,q=>(1:Rat)/q
  |k+1,x =>
    if T.isZ k x.2=true then(T.inv r k x.1,T.zero k)
    else if T.sgn r k (T.norm r k x)=0 then(T.inv r k (T.add k x.1 x.1),T.zero k)
    else(T.mul r k x.1 (T.inv r k (T.norm r k x)),T.mul r k (T.neg k x.2) (T.inv r k (T.norm r k x)))
theorem T.inv_low(r:(k:Nat)->T k)(k:Nat)(x:T k):T.inv r (k+1) (x,T.zero k)=(T.inv r k x,T.zero k):=by
 have h:=(T.isZ_iff k (T.zero k)).2 rfl
 conv=>lhs;unfold T.inv
 simp only[ab6 h]
theorem vm(r:(k:Nat)->T k){i j:Nat}{s L:List Rat}(hs:s.length<=2^i)(hL:L.length<=2^i)(h:ae i L=T.inv r i (ae i s))(hij:i<=j):ae j L=T.inv r j (ae j s):=by
  induction j with
  | zero => have : i = 0 := by omega
            subst this;exact h
  |succ j ih =>
    by_cases h':i=j+1
    · rw[<- h'];exact h
    · rw[gq (abe hs (cm oz)),gq (abe hL (cm oz)),T.inv_low,ih oz]
def iB(r:Nat):Nat->Nat->Nat
  |0,e=>e
  |j+1,e=>e+iB r j (4*e+3*eB r j+r+1)+eB r (j+1)
theorem Ao(r:Nat):∀j e,e<=iB r j e
 |0,e=>aau _
 |j+1,e=>by simp only[iB];omega
theorem xV(r:Nat):∀j {e f:Nat},e<=f->iB r j e<=iB r j f
 |0,e,f,h=>h
 |j+1,e,f,h=>by
  have:=xV r j (e:=4*e+3*eB r j+r+1) (f:=4*f+3*eB r j+r+1) oz;simp only[iB];omega
theorem Mf(r j e:Nat):iB r j e<=iB r (j+1) e:=by
 have:=xV r j (e:=e) (f:=4*e+3*eB r j+r+1) oz;simp only[iB];omega
theorem Cj(r e:Nat){i j:Nat}(h:i<=j):iB r i e<=iB r j e:=by
  induction j with
  | zero => have : i = 0 := by omega
            subst this;exact aau _
  |succ j ih =>
    by_cases hij:i=j+1
    · rw[hij];exact aau _
    · exact abe (ih oz) (Mf r j e)
theorem TH(r e:Nat){j:Nat}(h:j<=1):iB r j e<=5*e+2*eB r j:=by
 match j,h with
 |0,_=>simp only[iB,eB];omega
 |1,_=>simp only[iB,eB];omega
theorem Hr{r:(k:Nat)->T k}{n:Nat}(h:Sg (E r n) (sg r n))(hd:0<=sg r n (bS r n)){x y:E r n}(hz:sg r (n+1) (bU x y)≠0)(hN:sg r n (a5 x y)=0):sg r n (x+x)≠0:=by
 have hx:sg r n x≠0:=by
  intro hx;rw[kW,hN,hx]at hz;have h1:sg r n (x*x)=0:=by rw[h.mul,hx];simp
  have h2:=h.zadd (y:=-(y*y*bS r n)) h1;unfold a5 at hN;rw[h2,h.neg,h.mul,h.mul]at hN;unfold T.sgn3 at hz;have c1:=h.cs y;have c2:=h.cs (bS r n);rcases c1 with e |e |e <;> rcases c2 with e' |e' |e' <;> rw[e,e']at hN <;> rw[e,e']at hz <;> first |omega |(simp at hz) |(simp at hN)
 rcases h.cs x with e |e |e
 ·have := h.padd (x := -x) (y := -x) (by rw[h.neg,e];rfl) (by rw[h.neg,e];decide);rw[show -x+-x=-(x+x) by grind,h.neg]at this;omega
 ·exact acc e hx
 ·have:=h.padd (x:=x) (y:=x) e oz;omega
theorem Cb.inv1{e:Nat}{q:Rat}(h:Cb e [q])(hq:q≠0):Cb e [(1:Rat)/q]:=by
 obtain⟨D,N,⟨h0,h1⟩,h2,h3⟩:=h;obtain⟨n,hn,hl⟩:=h1 q (by simp)
 have hD:((D:Int):Rat)≠0:=by
  intro h9;have:(D:Int)=0:=ZV.1 h9;omega
 have hn0:n≠0:=by
  rintro rfl;rw[show((0:Int):Rat)=0 from rfl]at hn;rcases Rat.mul_eq_zero.1 hn with h9 |h9
  ·exact hq h9
  ·exact hD h9
 have hnq:((n:Int):Rat)≠0:=fun h9=>hn0 (ZV.1 h9)
 refine⟨n.natAbs,D,⟨by omega,?_⟩,abe hl h3,h2⟩;intro x hx;rw[Za.1 hx];have key:(1:Rat)/q*(n:Rat)=((D:Int):Rat):=by rw[<- hn];grind
 rcases Int.natAbs_eq n with e9 |e9
 ·refine⟨D,?_,by simp⟩;rw[<- e9];exact key
 ·refine ⟨-(D : Int), ?_, by simp⟩;rw [Rat.intCast_neg,<- key]
  conv=>rhs;rw[e9]
  rw[Rat.intCast_neg];grind
theorem HF{e n:Nat}{s:List Rat}(h:Cb e s):Cb e (fh (s.take n) (de (s.drop n)) n):=by
 obtain⟨D,N,h1,h2,h3⟩:=h;exact⟨D,N,(h1.sub (fun q hq=>abx hq)).join (h1.sub (fun q hq=>Y0 hq)).minus,h2,h3⟩
theorem JV:∀{j i:Nat}{x:T j},(sh j x).length=2^(i+1)->i+1<=j->T.isZ i (ae i ((sh j x).drop (2^i)))=false
 |0,i,x,_,h=>by omega
 |j+1,i,x,hl,h=>by
  cases hz:T.isZ j x.2
  ·have h1:=U6 hz;rw[h1]at hl
   have e:i=j:=by
    rcases Nat.lt_trichotomy i j with h9 |h9 |h9
    ·have := Yv (a := 2) oz (show i+1<j+1 by omega);omega
    ·exact h9
    ·omega
   subst e;have h2:ae (i+1) (sh (i+1) x)=x:=bh (i+1) x;have h3:ae i ((sh (i+1) x).drop (2^i))=x.2:=acd Prod.snd h2;rw[h3];exact hz
  ·have h1:sh (j+1) x=sh j x.1:=by
    conv=>lhs;unfold sh
    rw[ab6 hz]
   rw[h1]at hl ⊢;have h2:=(eT j x.1).le
   have h3:i+1<=j:=by
    rcases aay j (i+1)with h9 |h9
    ·have:=Yv (a:=2) oz h9;omega
    ·exact h9
   exact JV hl h3
theorem Ki(r:(k:Nat)->T k){i:Nat}{x:T (i+1)}(hz:T.isZ i x.2=false)(h0:T.sgn r i (T.norm r i x)=0):T.inv r (i+1) x=(T.inv r i (T.add i x.1 x.1),T.zero i):=by
 conv=>lhs;unfold T.inv
 rw[ab5 (by rw[hz];decide),ab6 h0]
theorem Gj(r:(k:Nat)->T k){i:Nat}{x:T (i+1)}(hz:T.isZ i x.2=false)(h0:T.sgn r i (T.norm r i x)≠0) :
  T.inv r (i+1) x=(T.mul r i x.1 (T.inv r i (T.norm r i x)),T.mul r i (T.neg i x.2) (T.inv r i (T.norm r i x))):=by
 conv=>lhs;unfold T.inv
 rw[ab5 (by rw[hz];decide),ab5 h0]
theorem mul_low(r:(k:Nat)->T k)(i:Nat)(x y w:T i):T.mul r (i+1) (x,y) (w,T.zero i)=(T.mul r i x w,T.mul r i y w):=by
 show(T.add i (T.mul r i x w) (T.mul r i (T.mul r i y (T.zero i)) (r i)),T.add i (T.mul r i x (T.zero i)) (T.mul r i y w))=_;rw[T.mul_zero,T.zero_mul,T.mul_zero,T.add_zero,T.zero_add]
theorem yB{n e:Nat}{l:List Rat}(h:Nm n e l)(he:e<=4398046511103):NR (l.map rt) e:=by
 refine⟨?_,by have:=h.nl.len5 h.five;rw[aar];omega,by rw[eL];exact h.cb⟩;intro x hx;obtain⟨q,hq,rfl⟩:=Y8.1 hx;exact(h.cb.qs oz hq).ok
theorem N0{ts:LL}{j e:Nat}{a:List Rat}{q:Rat}(h5:j<=5)(ha:Nl j a)(ca:Cb e a)(he:e<4398046511104)(hs:sh j (ae j a)=[q])(hq:q≠0) :
  FP 257 [aT ts,nA a] (nA [1/q]):=by
 have qa:∀q∈a,Qs q:=fun q hq=>ca.qs he hq
 have cs:=ca.sh ha;rw[hs]at cs;have qq:Qs q:=cs.qs he (by simp);have hsh:=mb a h5 ha qa;rw[hs]at hsh;have hdv:=IU (rt 1) (rt q) (Qb.one.qs oz).ok qq.ok;rw[cc,cc,ab5 hq]at hdv;refine aj func257 ?_;refine gc hsh ?_;refine gl ?_;refine gC (fun z=>?_) (fun z=>?_) (st2:=(77777,0))
 ·refine gc (kH 1 oz) ?_;refine gi rfl ?_;refine gc hdv ?_;refine gD ?_;refine ah ?_;rfl
 cases z
theorem Wo{ts:LL}{m r:Nat}(ht:iO ts m r)(hm:m<=5)(hml:m<=ts.length){j e i:Nat}{a s L:List Rat}(h5:j<=5)(ha:Nl j a)(ca:Cb e a)(he:4*e+3*eB r i+r+1<4398046511104)(hs:sh j (ae j a)=s)(hi:i+1<=m)
  (hsl:s.length=2^(i+1)) (hb:sB r i (4*e+3*eB r i+r+1)<4398046511104) (h0:T.sgn (au ts) i (ae i (iN ts i s))=0)
  (hL:FP 257 [aT ts,nA (cD (s.take (2^i)) (s.take (2^i)))] (nA L)):FP 257 [aT ts,nA a] (nA L):=by
 have qa:∀q∈a,Qs q:=fun q hq=>ca.qs oz hq
 have cs:=ca.sh ha;have hsh:=mb a h5 ha qa;rw[hs]at cs hsh;have hp2:=Yq i;have hpi:2^i<=32:=cm (b:=5) oz;have hps:2^(i+1)=2*2^i:=by rw[Yj];omega
 obtain⟨nn,dn,cn⟩:=wU ht oz hsl cs;have k4:=pF ts m r ht hm hml i _ _ oz nn cn hb;have qs:∀q∈s.take (2^i),Qs q:=fun q hq=>cs.take.qs oz hq
 refine aj func257 ?_;refine gc hsh ?_;refine gl ?_;refine gC (fun z=>?_) (fun z=>?_) (st1:=(3,0));exact acc z (by simp only[aa,beq_iff_eq];omega);refine gl ?_;refine gs (fv (.tmp rfl) (.const _) oz (show _=((2^i:Nat):Int) by rw[f7 oz,hsl,fK]) rfl) ?_;refine gc (CJ ts m r ht hm hml i s e oz hsl cs oz) ?_;refine gc k4 ?_;refine gC (fun z=>?_) (fun z=>?_) (st2:=(77777,0))
 ·refine gs (di (.tmp rfl) (.none _) (.some _ (.tmp rfl) oz) T53 rfl T106 rfl oz (by simp only[aar];omega) rfl) ?_;refine gs (di (.tmp rfl) (.none _) (.some _ (.tmp rfl) oz) T53 rfl T106 rfl oz (by simp only[aar];omega) rfl) ?_;refine gc (by have h9:=ow _ _ qs qs (by simp;omega) (by simp;omega);rw[<- l6]at h9;exact h9) ?_;refine gc hL ?_;refine gD ?_;refine ah ?_;rfl
 exact acc z (by rw[h0];decide)
theorem NJ{ts:LL}{m r:Nat}(ht:iO ts m r)(hm:m<=5)(hml:m<=ts.length){j e f i:Nat}{a s L:List Rat}(h5:j<=5)(ha:Nl j a)(ca:Cb e a)(he:4*e+3*eB r i+r+1<4398046511104)(hs:sh j (ae j a)=s)(hi:i+1<=m)
  (hsl:s.length=2^(i+1)) (hb:sB r i (4*e+3*eB r i+r+1)<4398046511104) (h0:T.sgn (au ts) i (ae i (iN ts i s))≠0)
  (hL:FP 257 [aT ts,nA (iN ts i s)] (nA L)) (nL:Nl i L) (cL:Cb f L) (hf:e+f+eB r (i+1)<4398046511104) :
  FP 257 [aT ts,nA a] (nA (pT ts (i+1) (fh (s.take (2^i)) (de (s.drop (2^i))) (2^i)) L)):=by
 have qa:∀q∈a,Qs q:=fun q hq=>ca.qs oz hq
 have cs:=ca.sh ha;have hsh:=mb a h5 ha qa;rw[hs]at cs hsh;have hp2:=Yq i;have hpi:2^i<=32:=cm (b:=5) oz;have hps:2^(i+1)=2*2^i:=by rw[Yj];omega
 obtain⟨nn,dn,cn⟩:=wU ht oz hsl cs;have k4:=pF ts m r ht hm hml i _ _ oz nn cn hb;have qy:∀q∈s.drop (2^i),Qs q:=fun q hq=>cs.drop.qs oz hq
 have lx:(s.take (2^i)).length=2^i:=fZ hsl;have ly:(s.drop (2^i)).length=2^i:=gh hsl;have nj:Nl (i+1) (fh (s.take (2^i)) (de (s.drop (2^i))) (2^i)):=.inr ⟨i+1,aau _,by rw[pJ oz (by rw[jf];omega)];omega⟩;have cj:Cb e (fh (s.take (2^i)) (de (s.drop (2^i))) (2^i)):=HF cs;have hti:=rJ ts m r ht hm hml (i+1) (i+1) _ _ e f hi (aau _) nj (nL.mono oz) cj cL hf;refine aj func257 ?_;refine gc hsh ?_;refine gl ?_;refine gC (fun z=>?_) (fun z=>?_) (st1:=(3,0));exact acc z (by simp only[aa,beq_iff_eq];omega);refine gl ?_;refine gs (fv (.tmp rfl) (.const _) oz (show _=((2^i:Nat):Int) by rw[f7 oz,hsl,fK]) rfl) ?_;refine gc (CJ ts m r ht hm hml i s e oz hsl cs oz) ?_;refine gc k4 ?_;refine gC (fun z=>?_) (fun z=>?_) (st1:=(8,0));exact acc z (by simp only[aa,beq_iff_eq];omega);refine gs (di (.tmp rfl) (.none _) (.some _ (.tmp rfl) oz) T53 rfl T106 rfl oz (by simp only[aar];omega) rfl) ?_;refine gs (di (.tmp rfl) (.some _ (.tmp rfl) oz) (.none _) T53 rfl T106 rfl (by simp only[aar];omega) oz rfl) ?_;refine gc (by have h9:=uu _ qy oz;rw[<- mz]at h9;exact h9) ?_;refine gc (by have h9:=Ap (s.take (2^i)) (de (s.drop (2^i))) (2^i) oz (by rw[jf];omega) oz;rw[<- l6]at h9;exact h9) ?_;refine gc hL ?_;refine gc hti ?_;refine gD ?_;refine ah ?_;rfl
theorem MB{ts:LL}{m r:Nat}(ht:iO ts m r)(hp:fw (au ts) m)(hm:m<=5)(hml:m<=ts.length)(j:Nat):∀(a:List Rat)(e:Nat),j<=m->Nl j a->Cb e a->T.sgn (au ts) j (ae j a)≠0 ->
  sB r j e<4398046511104->iB r j e<4398046511104->∃L,FP 257 [aT ts,nA a] (nA L)/\Nl j L/\Cb (iB r j e) L/\ae j L=T.inv (au ts) j (ae j a):=by
 induction j using Nat.strongRecOn
 rename_i j ih;intro a e hj ha ca h0 hs hi;have hse:=oK r j e;have cs:=ca.sh ha;have hsn:=eT j (ae j a);have hsd:=bh j (ae j a);have hle:=Ao r j e;obtain⟨s,hsa⟩:∃s,sh j (ae j a)=s:=⟨_,rfl⟩
 rcases ou hsn with h |h |⟨i,hij,h⟩
 ·exfalso;have h1:=ZA.1 h;rw[h1,gp]at hsd;rw[<- hsd,T.sgn_zero]at h0;exact h0 rfl
 ·obtain ⟨q, hq⟩:=YV.1 h;rw [hq,lg] at hsd;rw [<- hsd,T.sgn_ofQ] at h0;have q0:q ≠ 0:=by rintro rfl; exact h0 rfl
  refine⟨[1/q],N0 oz ha ca oz hq q0,.inr ⟨0,by omega,rfl⟩,(Cb.inv1 (hq▸cs) q0).mono hle,?_⟩;rw[<- hsd,<- lg j q];exact vm (au ts) (i:=0) (s:=[q]) (L:=[1/q]) (by simp) (by simp) rfl oz
 ·have hz:=JV h hij;rw [hsa] at h cs hsd hsn hz;obtain ⟨nn,dn,cn⟩:=wU ht oz h cs;have hsl:s.length <= 2 ^ (i + 1):=by omega
  have b1:sB r i (4*e+3*eB r i+r+1)<=sB r j e:=uq r e hij;have b2:=oK r i (4*e+3*eB r i+r+1);have b3:iB r (i+1) e<=iB r j e:=Cj r e hij;have b4:iB r (i+1) e=e+iB r i (4*e+3*eB r i+r+1)+eB r (i+1):=rfl;have lx:(s.take (2^i)).length=2^i:=fZ h;have ly:(s.drop (2^i)).length=2^i:=gh h;have hpi:2^i<=2^(i+1):=YK oz oz;rw[<- hsd]at h0 ⊢
  by_cases hN:T.sgn (au ts) i (ae i (iN ts i s))=0
  ·have hS:=eF (au ts) i (fun k hk=>hp k oz)
   have hx:T.sgn (au ts) i (ae i (cD (s.take (2^i)) (s.take (2^i))))≠0:=by
    rw[jC];rw[tE (au ts) hsl hij]at h0;rw[dn]at hN;exact Hr hS (hp i oz) (x:=ae i (s.take (2^i))) (y:=ae i (s.drop (2^i))) h0 hN
   have np:Nl i (cD (s.take (2^i)) (s.take (2^i))):=.inr ⟨i,aau _,by rw[eG];omega⟩;have b5:=pM r i (e:=e+e+1) (f:=4*e+3*eB r i+r+1) oz;have b6:=xV r i (e:=e+e+1) (f:=4*e+3*eB r i+r+1) oz;obtain⟨L,k1,k2,k3,k4⟩:=ih i oz _ _ oz np (cs.take.plus cs.take) hx oz oz;refine⟨L,Wo ht hm hml oz ha ca oz hsa oz h oz hN k1,k2.mono oz,k3.mono oz,?_⟩;refine vm (au ts) (i:=i+1) hsl (abe k2.le hpi) ?_ hij;rw[Ki (au ts) hz (by rw[<- dn];exact hN),gq k2.le,k4,jC];rfl
  ·obtain⟨L,k1,k2,k3,k4⟩:=ih i oz _ _ oz nn cn hN oz oz;have nj:Nl (i+1) (fh (s.take (2^i)) (de (s.drop (2^i))) (2^i)):=.inr ⟨i+1,aau _,by rw[pJ oz (by rw[jf];omega),Yj];omega⟩;have s1:=gd ts m ht.1 (i+1) (i+1) _ _ oz (aau _) nj (k2.mono oz);have c1:=Cb.mul ht (k:=i+1) (show i+1<=m by omega) (aau _) nj (k2.mono oz) (HF cs) k3;refine⟨_,NJ ht hm hml oz ha ca oz hsa oz h oz hN k1 k2 k3 oz,s1.1.mono hij,c1.mono oz,?_⟩;refine vm (au ts) (i:=i+1) hsl s1.1.le ?_ hij;rw[Gj (au ts) hz (by rw[<- dn];exact hN),s1.2,ww oz,gq k2.le,mul_low,m7,k4,dn];rfl
theorem Sd{ts:LL}{r e f:Nat}(tw:Tw ts r){a b:List Rat}(ha:Nm ts.length e a)(hb:Nm ts.length f b)(he:e<=4398046511103)(hf:f<=4398046511103):FP 192 [aT ts,.lst 1 [nA a,nA b]] (.v .nilIface):=by
 have hck:=mj (ts.map (List.map rt)) r tw.tr [a.map rt,b.map rt] (uQ (yB ha he) (yB hb hf)) (by simp);have hc0:bB (ts.map (List.map rt)) [a.map rt,b.map rt]=0:=uF tw ha hb;rw[hc0,ip]at hck;rw[show[nA a,nA b]=[a.map rt,b.map rt].map nR by simp[eI]];exact hck
theorem A4{ts:LL}{r f j:Nat}(tw:Tw ts r){b:List Rat}(hb:Nm ts.length f b)(hj:j<=ts.length)(nb:Nl j b)(h0:T.sgn (au ts) ts.length (ae ts.length b)≠0)(hf:f<=lm ts.length)(hi:iB r j f<4398046511104) :
  ∃L,FP 257 [aT ts,nA b] (nA L)/\Nl ts.length L/\Cb (iB r j f) L/\ae ts.length L=T.inv (au ts) ts.length (ae ts.length b):=by
 rw[tE (au ts) nb.le hj]at h0;obtain⟨L,k1,k2,k3,k4⟩:=MB tw.ok tw.pos tw.five (aau _) j b f hj nb hb.cb h0 (nI hj tw.three tw.le hf) hi;exact⟨L,k1,k2.mono hj,k3,vm (au ts) nb.le k2.le k4 hj⟩
theorem CA{ts:LL}{r e f j:Nat}(tw:Tw ts r){a b:List Rat}(ha:Nm ts.length e a)(hb:Nm ts.length f b)(hj:j<=ts.length)(nb:Nl j b)(h0:T.sgn (au ts) ts.length (ae ts.length b)≠0)(hf:f<=lm ts.length)(he:e+iB r j f+eB r ts.length<=200000000000) :
  FP 350 [aT ts,nA a,nA b] (.tup [nA (sh ts.length (T.mul (au ts) ts.length (ae ts.length a) (T.inv (au ts) ts.length (ae ts.length b)))),.v .nilIface]):=by
 have hlm:=kc ts.length;have h5:=tw.five;have h3:=tw.three;have hfe:=Ao r j f;have hsB:=nI (aau ts.length) h3 tw.le hf;have hsg:=pF ts ts.length r tw.ok h5 (aau _) ts.length _ _ (aau _) hb.nl hb.cb hsB;obtain⟨L,k1,k2,k3,k4⟩:=A4 tw hb hj nb h0 hf oz;have hti:=rJ ts ts.length r tw.ok h5 (aau _) ts.length ts.length _ _ _ _ (aau _) (aau _) ha.nl k2 ha.cb k3 oz;have s1:=gd ts ts.length tw.ok.1 ts.length ts.length _ _ (aau _) (aau _) ha.nl k2;have c1:=Cb.mul tw.ok (k:=ts.length) (aau _) (aau _) ha.nl k2 ha.cb k3;have hsh:=mb _ h5 s1.1 (fun q hq=>c1.qs oz hq);rw[s1.2,k4]at hsh;refine aj func350 ?_;refine gc (Sd tw ha hb oz oz) ?_;refine gf ?_;refine gc hsg ?_;refine gC (fun z=>?_) (fun z=>?_) (st1:=(5,0));exact acc z (by simp only[aa,beq_iff_eq];omega);refine gc k1 ?_;refine gc hti ?_;refine gc hsh ?_;refine gD ?_;refine bt ?_;rfl
theorem AU{ts:LL}{r e f j:Nat}(tw:Tw ts r){a b:List Rat}(ha:Nm ts.length e a)(hb:Nm ts.length f b)(hj:j<=ts.length)(nb:Nl j b)(h0:T.sgn (au ts) ts.length (ae ts.length b)≠0)(hf:f<=lm ts.length)(he:e+iB r j f+eB r ts.length<=200000000000) :
  Nm ts.length (e+iB r j f+eB r ts.length) (sh ts.length (T.mul (au ts) ts.length (ae ts.length a) (T.inv (au ts) ts.length (ae ts.length b)))):=by
 obtain⟨L,k1,k2,k3,k4⟩:=A4 tw hb hj nb h0 hf oz;have s1:=gd ts ts.length tw.ok.1 ts.length ts.length _ _ (aau _) (aau _) ha.nl k2;have c1:=Cb.mul tw.ok (k:=ts.length) (aau _) (aau _) ha.nl k2 ha.cb k3;refine⟨tw.five,eT _ _,?_⟩;rw[<- k4,<- s1.2];exact c1.sh s1.1
def cC(k:Nat):List Rat:=(Y6 (2^(k+1)) 0).set (2^k) 1
def aU(ts:LL)(a:List Rat):LL:=ts++[a6 a (2^ts.length)]
theorem L3(k:Nat):BlkSub (.row 3 ((Y6 (2^(k+1)) (.agg [.v (.bool false),nS,nS])).set (2^k) (qA 1))) (.row 3 ((cC k).map qA)):=by
 unfold cC;refine .row ?_ ?_
 ·simp
 ·intro i e e' he he';rw[ab0,abw]at he';rw[List.getElem?_set]at he he';split at he
  ·rename_i h1;rw[ab6 h1]at he';split at he
   ·rename_i h2;rw[abp]at h2;rw[abp,ab6 h2]at he';cases he;cases he'
    exact kr.refl (zJ 1)
   ·cases he
  ·rename_i h1;rw[ab5 h1]at he';rw[abl]at he he';split at he
   ·rename_i h2;rw[ab6 h2]at he';cases he;cases he'
    exact qZ
   ·cases he
theorem By(k:Nat):(cC k).length=2^(k+1):=by simp[cC]
theorem V2{k:Nat}(hk:k<=5):IntKind.i64.wrap ((2:Int)*2^(min (k:Int).toNat IntKind.i64.bits))=((2^(k+1):Nat):Int):=by
 have h:k=0\/k=1\/k=2\/k=3\/k=4\/k=5:=by omega
 rcases h with rfl |rfl |rfl |rfl |rfl |rfl <;> rfl
theorem O7(d:Nat)(hd:X9 d 1000=true)(k:Nat)(hk:k<=5):Con prog 439 [i64 k] [] (.ms d 3 0 (2^(k+1))) [(d,some (.row 3 ((cC k).map qA)))]:=by
 have hp:2^(k+1)<=64:=cm (b:=6) oz;have hp2:2^k<2^(k+1):=Yv oz oz;have hp0:=Yq k;refine gF func439 (fun k z h=>by cases h) ?_;refine gs (ia (.const _) (.tmp rfl) oz (V2 hk) rfl) ?_;refine gs (iD (.tmp rfl) T53 rfl T106 rfl rfl oz (by dsimp only;omega) rfl) ?_;refine gs (ia (.const _) (.tmp rfl) oz (nB oz) rfl) ?_;refine gc (kH 1 oz) ?_;refine gs (cg (n:=2^k) (.tmp rfl) (.tmp rfl) T53 rfl T106 rfl oz oz rfl) ?_;refine gs (dM (.tmp rfl) rfl (by rw[abl,ab6 oz]) rfl (.tmp rfl) rfl rfl T106 rfl rfl) ?_;refine gD ?_ (3,0);refine gW (Wk.of (sl:=[pP 3 (.ms 6 3 0 (2^(k+1)))]) (hp:=[pP 6 (.row 3 ((cC k).map qA))]) (.cons rfl (Sub.of (acd (AV.ms 6 3 0) (abn _))) .nil) (.cons rfl (L3 k) .nil)) ?_;refine gR ?_;exact aC.own1 rfl hd rfl
theorem WC(k:Nat)(hk:k<=5):FP 439 [i64 k] (nA (cC k)):=by
 have h:=Con.freeze (by rw[aar,By];omega) (O7 0 rfl k hk);rw[ab1,aa7 (by rw[aar,By];exact aau _)]at h;exact h
theorem Te{ts:LL}{r e:Nat}(tw:Tw ts r){a:List Rat}(ha:Nm ts.length e a)(he:e<=4398046511103):FP 192 [aT ts,.lst 1 [nA a]] (.v .nilIface):=by
 have hx:=yB ha he;have hck:=mj (ts.map (List.map rt)) r tw.tr [a.map rt] (fun x h=>by rw[Za.1 h];exact⟨hx.ok,hx.len⟩) (by simp);have hc0:bB (ts.map (List.map rt)) [a.map rt]=0:=tA tw ha;rw[hc0,ip]at hck;rw[show[nA a]=[a.map rt].map nR by simp[eI]];exact hck
theorem Of{ts:LL}{r e:Nat}(tw:Tw ts r){a:List Rat}(ha:Nm ts.length e a)(he:e<=4398046511103):FP 438 [aT ts,nA a] (.tup [nA (a6 a (2^ts.length)),.v .nilIface]):=by
 have h5:=tw.five;have hl:=ha.nl.le;have hp:2^ts.length<=32:=cm (b:=5) oz;have qa:∀q∈a,Qs q:=fun q hq=>ha.cb.qs oz hq
 refine aj func438 ?_;refine gc (Te tw ha he) ?_;refine gf ?_;refine gc (B3 a qa oz) ?_;refine gl ?_;refine gs (ia (.const _) (.tmp rfl) oz (nB oz) rfl) ?_;refine gc (yv a (2^ts.length) hl oz) ?_;refine gD ?_;refine bt ?_;rfl
theorem Kg{ts:LL}{r e:Nat}(tw:Tw ts r){a:List Rat}(ha:Nm ts.length e a)(he:e<=lm ts.length)(hs:0<=T.sgn (au ts) ts.length (ae ts.length a)) :
  FP 381 [aT ts,nA a] (.tup [aT (aU ts a),nA (cC ts.length),.v .nilIface]):=by
 have h3:=tw.three;have h5:=tw.five;have hlm:=kc ts.length;have hl:=ha.nl.le;have nw:Nl ts.length (a6 a (2^ts.length)):=.inr ⟨_,aau _,dO hl⟩;have hsg:=pF ts ts.length r tw.ok h5 (aau _) ts.length _ _ (aau _) nw ha.cb.wide (nI (aau ts.length) h3 tw.le he);rw[nO]at hsg;have hqs:=tw.rb.qs tw.le;refine aj func381 ?_;refine gc (Of tw ha oz) ?_;refine gf ?_;refine gc hsg ?_;refine gC (fun z=>?_) (fun z=>?_) (st1:=(5,0));exact acc z (by simp only[aa,ab7];omega);refine gl ?_;refine gC (fun z=>?_) (fun z=>?_) (st1:=(7,0));exact acc z (by simp only[aa,ab7];omega);refine gl ?_;refine gW (Wk.virt 900 1 rfl) ?_;refine aW [2,4,7,9,38,39] [2,4] (fun(i:Nat)=>[pP 40 (i64 i)]) (fun i=>[pP 9 (.box [.ms 900 1 0 i]),pP 900 (.row 1 ((ts.take i).map nA))]) (fun i=>i<=ts.length) (fun i=>ts.length-i) 0 (aa0 _) ?_ (h2:=(.cons rfl (BlkSub.bL (.cons (.nM _ _ _) .nil) rfl) (.k .nil)));rintro i hi K1 J1;refine gC (fun z=>?_) (fun z=>?_)
 ·have hin:=a9 z;obtain⟨d,hd⟩:=ay hin
  have hdl:d.length<=32:=by
   have h9:=tw.len i hin;rw[aq hd]at h9;have:2^i<=32:=cm (b:=5) oz;omega
  refine gi (aH hd) ?_;refine gc (B3 d (hqs d (aap hd)) oz) ?_;refine gs (cK (.tmp rfl) rfl (by rw[aar,abc];omega) (.tmp rfl) T42 rfl T53 rfl rfl (by simp only[aa4,abg];omega) rfl rfl) ?_;refine gD ?_ (13,0);refine gW (Wk.of (sl:=[pP 2 (.ptr 2 0),pP 4 (.ptr 4 0),pP 7 (nA (a6 a (2^ts.length))),pP 9 (.ptr 9 0),pP 38 (.lst 1 (ts.map nA)),pP 39 (i64 ts.length),pP 40 (i64 i)]) (hp:=[pP 2 (.box [.lst 1 (ts.map nA)]),pP 4 (.box [nS]),pP 9 (.box [.ms 49 1 0 (i+1)]),pP 49 (.row 1 ((ts.take (i+1)).map nA))]) bb (.k (.k (.k (.cons rfl (BlkSub.of (by rw[dK hd,abf];rfl)) .nil))))) ?_ (13,0)
  refine gW (Wk.rk (k:=49) (d:=900) rfl rfl) ?_;refine ga aS ?_;exact aR J1 (i+1) hin
 have hin:=bn hi z;subst hin;refine gs (cK (.tmp rfl) rfl (by rw[aar,abc];omega) (.tmp rfl) T42 rfl T53 rfl rfl (by simp only[aa4,abg];omega) rfl rfl) ?_ (15,0);refine gW ((Wk.freeze (k:=56) rfl).trans<|Wk.of (sl:=[pP 2 (.ptr 2 0),pP 4 (.ptr 4 0),pP 9 (.ptr 9 0)]) (hp:=[pP 2 (.box [.lst 1 (ts.map nA)]),pP 4 (.box [nS]),pP 9 (.box [.lst 1 ((aU ts a).map nA)])]) bb (.k (.k (.cons rfl (BlkSub.bL (.cons (Sub.of (by rw[b7 (by simp)];unfold aU;simp)) .nil) rfl) .nil)))) ?_;refine gl ?_;refine gc (WC ts.length oz) ?_;refine gD ?_;refine w6 ?_;rfl
theorem zo{ts:LL}{r:Nat}(tw:Tw ts r):FP 375 [aT ts] (aT ts):=by
 have h3:=tw.three;have hqs:=tw.rb.qs tw.le;refine aj func375 ?_;refine gl ?_;refine gW (Wk.virt 900 1 rfl) ?_;refine aW [2,3,10,11] [2] (fun(i:Nat)=>[pP 12 (i64 i)]) (fun i=>[pP 3 (.box [.ms 900 1 0 i]),pP 900 (.row 1 ((ts.take i).map nA))]) (fun i=>i<=ts.length) (fun i=>ts.length-i) 0 (aa0 _) ?_ (h2:=(.cons rfl (BlkSub.bL (.cons (.nM _ _ _) .nil) rfl) (.k .nil)));rintro i hi K1 J1;refine gC (fun z=>?_) (fun z=>?_) (st2:=(13,0))
 ·have hin:=a9 z;obtain⟨d,hd⟩:=ay hin
  have hdl:d.length<=32:=by
   have h9:=tw.len i hin;rw[aq hd]at h9;have:2^i<=32:=cm (b:=5) oz;omega
  have hdq:=hqs d (aap hd);refine gi (aH hd) ?_;refine gl ?_;refine gW (Wk.virt 901 3 rfl) ?_;refine aW [2,3,10,11,12,16,17] [2,3,900] (fun(j:Nat)=>[pP 6 (.ms 901 3 0 j),pP 18 (i64 j)]) (fun j=>[pP 901 (.row 3 ((d.take j).map qA))]) (fun j=>j<=d.length) (fun j=>d.length-j) 0 (aa0 _) ?_;rintro j hj K2 J2;refine gC (fun z=>?_) (fun z=>?_) (st2:=(11,0))
  ·have hjn:=a9 z;obtain ⟨q,hq⟩:=ay hjn;have hadd:=oJ (rt q) (rt 0) (hdq q (aap hq)).ok Qs.zero.ok;rw [vP,cc] at hadd;refine gi (aH hq) ?_;refine gc (Con.sA (.cons (.refl _) (.cons kf .nil)) hadd) ?_;refine gs (cK (.tmp rfl) rfl (by rw [aar,abc]; omega) (.tmp rfl) T53 rfl T106 rfl rfl (by simp only [aa4,abg]; omega) rfl rfl) ?_ (10,0);refine gW (Wk.of (sl:=[pP 2 (.ptr 2 0),pP 3 (.ptr 3 0),pP 10 (.lst 1 (ts.map nA)),pP 11 (i64 ts.length),pP 12 (i64 i),pP 6 (.ms 27 3 0 (j + 1)),pP 16 (nA d),pP 17 (i64 d.length),pP 18 (i64 j)]) (hp:=[pP 2 (.box [nS]),pP 3 (.box [.ms 900 1 0 i]),pP 900 (.row 1 ((ts.take i).map nA)),pP 27 (.row 3 ((d.take (j + 1)).map qA))]) bb (.k (.k (.k (.cons rfl (BlkSub.of (by rw [dK hq,abf]; rfl)) .nil))))) ?_ (10,0)
   refine gW (Wk.rk (k:=27) (d:=901) rfl rfl) ?_;refine ga aS ?_;exact aR J2 (j+1) hjn
  have hjn:=bn hj z;subst hjn;refine gW ((Wk.freeze (k:=901) rfl).trans<|Wk.of (sl:=[pP 2 (.ptr 2 0),pP 3 (.ptr 3 0),pP 10 (.lst 1 (ts.map nA)),pP 11 (i64 ts.length),pP 12 (i64 i),pP 6 (nA d)]) (hp:=[pP 2 (.box [nS]),pP 3 (.box [.ms 900 1 0 i]),pP 900 (.row 1 ((ts.take i).map nA))]) (.k (.k (.k (.k (.k (.cons rfl (Sub.of (by rw[b7 (by simp)];simp[nA])) .nil)))))) (.k (.k (.k .nil)))) ?_
  refine gs (cK (.tmp rfl) rfl (by rw[aar,abc];omega) (.tmp rfl) T42 rfl T53 rfl rfl (by simp only[aa4,abg];omega) rfl rfl) ?_ (12,0);refine gW (Wk.of (sl:=[pP 2 (.ptr 2 0),pP 3 (.ptr 3 0),pP 10 (.lst 1 (ts.map nA)),pP 11 (i64 ts.length),pP 12 (i64 i)]) (hp:=[pP 2 (.box [nS]),pP 3 (.box [.ms 33 1 0 (i+1)]),pP 33 (.row 1 ((ts.take (i+1)).map nA))]) bb (.k (.k (.cons rfl (BlkSub.of (by rw[dK hd,abf];rfl)) .nil)))) ?_ (12,0);refine gW (Wk.rk (k:=33) (d:=900) rfl rfl) ?_;refine ga aS ?_;exact aR J1 (i+1) hin
 have hin:=bn hi z;subst hin;refine gW ((Wk.freeze (k:=900) rfl).trans<|Wk.of (sl:=[pP 2 (.ptr 2 0),pP 3 (.ptr 3 0)]) (hp:=[pP 2 (.box [nS]),pP 3 (.box [.lst 1 (ts.map nA)])]) bb (.k (.cons rfl (BlkSub.bL (.cons (Sub.of (by rw[b7 (by simp)];simp)) .nil) rfl) .nil))) ?_;refine ah ?_;rfl
abbrev dZ(l:Li)(kw driven:List Bool)(r:List AV):List AV:=l.av.cells++(.lst 1 (kw.map bl) :: .lst 1 (driven.map bl)::r)
theorem RF(j:Jt)(b:Int):FP 467 [j.av,i64 b] (i64 (kD j b)):=by
 refine aj func467 ?_;refine gC (fun z=>?_) (fun z=>?_)
 ·have h1:b=j.a:=cM z;refine ah ?_;unfold kD;rw[ab6 h1]
 have h1:b≠j.a:=dk z;refine gC (fun z=>?_) (fun z=>?_)
 ·have h2:b=j.b:=cM z;refine ah ?_;unfold kD;rw[ab5 h1,ab6 h2]
 have h2:b≠j.b:=dk z;refine ah ?_;unfold kD;rw[ab5 h1,ab5 h2];rfl
theorem NX(j:Jt)(kind body:Int)(f:FuncId)(pre caps:List AV)(p:Int->Bool)(hp:0<=kD j body->FP f (pre++[i64 (kD j body)]++caps) (bl (p (kD j body)))) :
  FP 466 [j.av,.iptr [i64 body],.iptr [i64 kind],.iptr [.cl f pre caps]] (bl (xx kind body p j)):=by
 refine aj func466 ?_;refine gc (RF j body) ?_;refine b8 (fun h=>(hp (Nd h))) ?_;refine ah ?_;exact acd bl Lk
theorem OQ(bs:List Jt)(hl:bs.length<=281474976710656)(f:FuncId)(pre caps:List AV)(ok:Nat->Bool)
  (hf:∀(i:Nat)(b:Jt),bs[i]?=some b->(∀j,j<i->ok j=true)->FP f (pre++[b.av]++caps) (bl (!ok i))) :
  FP 465 [.lst 7 (bs.map Jt.av),.cl f pre caps] (i64 (jB (cQ bs.length ok))):=by
 refine aj func465 ?_;refine gl ?_;refine aW [0,1,7] [] (fun(i:Nat)=>[pP 8 (i64 i)]) (fun _=>[]) (fun i=>i<=bs.length/\∀j,j<i->ok j=true) (fun i=>bs.length-i) 0 ⟨aa0 _,fun j h=>by omega⟩ ?_;rintro i ⟨hi,hj⟩ K1 J1;refine gC (fun z=>?_) (fun z=>?_)
 ·have hin:=a9 z;obtain⟨b,hb⟩:=ay hin;refine gi (aH hb) ?_;refine gc (hf i b hb hj) ?_;refine gC (fun z=>?_) (fun z=>?_)
  ·have h2:=dl z;refine ah ?_;rw[gP hin hj h2];rfl
  have h2:=du z;refine ga aS ?_;exact aR J1 (i+1) ⟨hin,fun j h9=>by rcases aay j i with g |g;exact hj j g;(have:j=i:=by omega);subst this;exact h2⟩
 have hin:=bn hi z;subst hin;refine ah ?_;rw[f6 hj];rfl
theorem IA(l:Li)(hl:l.ok)(hli:aN l=0)(Fd:List AV)(kind body:Int)(f:FuncId)(pre caps:List AV)(p:Int->Bool)
  (hp:∀o:Int,0<=o->o<l.bo.length->FP f (pre++[i64 o]++caps) (bl (p o))) :
  FP 457 [.iptr (l.av.cells++Fd),i64 kind,i64 body,.cl f pre caps] (i64 (gJ l kind body p)):=by
 refine aj func457 ?_ (1,0);refine gW ((Wk.freezeB (k:=7) rfl rfl).trans<|(Wk.freezeB (k:=5) rfl rfl).trans<|(Wk.freezeB (k:=6) rfl rfl).trans<|Wk.o (sl:=[pP 0 (.iptr (l.av.cells++Fd)),pP 5 (.iptr [i64 kind]),pP 6 (.iptr [i64 body]),pP 7 (.iptr [.cl f pre caps])]) (hp:=[])) ?_;refine gc (Con.sA (.cons (.refl _) (.cons (sJ rfl) .nil)) (OQ l.jo hl.lj 466 [] [.iptr [i64 body],.iptr [i64 kind],.iptr [.cl f pre caps]] (fun i=>!xx kind body p (l.jo.getD i default)) (fun i b hb hj=>by rw[Bool.not_not,aq hb];exact NX b kind body f pre caps p (fun h=>hp _ h (US hli hb body))))) ?_;refine ah ?_;rfl
theorem X4(l:Li)(kw driven:List Bool)(r:List AV)(b:Int)(h0:0<=b)(h1:b<kw.length):FP 463 [.iptr (dZ l kw driven r),i64 b] (bl (kn kw b)):=by
 obtain⟨v,hv⟩:∃v,kw[b.toNat]?=some v:=ay oz;have ev:kn kw b=v:=aq hv;refine aj func463 ?_;refine gi (gG (n:=b.toNat) oz hv) ?_;refine ah ?_;rw[ev]
theorem EI(l:Li)(hl:l.ok)(hli:aN l=0)(kw driven:List Bool)(hk:kw.length=l.bo.length)(r:List AV)(kind body:Int) :
  FP 455 [.iptr (dZ l kw driven r),i64 kind,i64 body] (i64 (gJ l kind body (kn kw))):=by
 refine aj func455 ?_;refine gc (IA l hl hli _ kind body 463 [.iptr (dZ l kw driven r)] [] (kn kw) (fun o h0 h1=>X4 l kw driven r o h0 oz)) ?_;refine ah ?_;rfl
theorem OU(o j:Int):FP 458 [i64 o,.iptr [i64 j]] (bl (decide (o=j))):=by
 refine aj func458 ?_;refine ah ?_;exact acd bl oT
theorem VD(l:Li)(kw driven:List Bool)(hd:driven.length=kw.length)(r:List AV)(b:Int)(h0:0<=b)(h1:b<kw.length) :
  FP 459 [.iptr (dZ l kw driven r),i64 b] (bl (!kn kw b&&!kn driven b)):=by
 obtain⟨v,hv⟩:∃v,kw[b.toNat]?=some v:=ay oz;have ev:kn kw b=v:=aq hv;obtain⟨u,hu⟩:∃u,driven[b.toNat]?=some u:=ay oz;have eu:kn driven b=u:=aq hu;refine aj func459 ?_;refine gi (gG (n:=b.toNat) oz hv) ?_;refine nk (fun _=>(gG (n:=b.toNat) oz hu)) ?_;refine ah ?_;rw[ev,eu];exact acd bl (jk _ _)
theorem U8(l:Li)(hl:l.ok)(hli:aN l=0)(kw driven:List Bool)(hk:kw.length=l.bo.length)(r:List AV) :
  FP 417 [.iptr (dZ l kw driven r)] (.tup [((driverG l kw).getD default).av,bl (driverG l kw).isSome]):=by
 have hld:=hl.ld;refine aj func417 ?_;refine gl ?_;refine aW [0,2,11,12] [2] (fun(i:Nat)=>[pP 13 (i64 i)]) (fun _=>[]) (fun i=>i<=l.dv.length/\∀j,j<i->(!drHit l kw j)=true) (fun i=>l.dv.length-i) 0 ⟨aa0 _,fun j h=>by omega⟩ ?_;rintro i ⟨hi,hj⟩ K1 J1;refine gC (fun z=>?_) (fun z=>?_)
 ·have hin:=a9 z;obtain⟨d,hd⟩:=ay hin;have hdd:l.dv.getD i default=d:=aq hd;have hb:=df (lM hli hd);obtain⟨v,hv⟩:∃v,kw[d.body.toNat]?=some v:=ay oz;have ev:kn kw d.body=v:=aq hv;have ej:gJ l 0 d.body (kn kw)=jointI l 0 d.body kw:=yR hli (fun o _ _=>rfl);refine gi (aH hd) ?_;refine gi (gG (n:=d.body.toNat) oz hv) ?_;refine gD ?_;refine gC (fun z=>?_) (fun z=>?_)
  ·have h2 : drHit l kw i = false := by unfold drHit; rw [hdd, ev, z]; rfl
   refine ga aS ?_;exact aR J1 (i+1) ⟨hin,fun k h9=>by rcases aay k i with g |g;exact hj k g;(have:k=i:=by omega);subst this;rw[h2];rfl⟩
  have hv0:v=false:=z;refine gc (show jc _ _ _ (i64 (jointI l 0 d.body kw)) by rw[<- ej];exact EI l hl hli kw driven hk r 0 d.body) ?_;refine gC (fun z=>?_) (fun z=>?_)
  ·have h2 : drHit l kw i = true := by unfold drHit; rw [hdd, ev, hv0, aca (Ht z)]; rfl
   have hg:driverG l kw=some ⟨0,[d.body],[jointI l 0 d.body kw],i⟩:=by unfold driverG;rw[gP hin hj (by rw[h2];rfl),<- hdd];rfl
   refine bt ?_;rw[hg];rfl
  have h2:drHit l kw i=false:=by unfold drHit;rw[hdd,acb (Gp z),ZW]
  refine ga aS ?_;exact aR J1 (i+1) ⟨hin,fun k h9=>by rcases aay k i with g |g;exact hj k g;(have:k=i:=by omega);subst this;rw[h2];rfl⟩
 have hin:=bn hi z;subst hin;have hg:driverG l kw=none:=by unfold driverG;rw[f6 hj];rfl
 refine gR ?_;exact aC.sub aC.pure (by rw[hg];exact Sub.tup (.cons rF (.cons (.refl _) .nil)))
theorem Ca(l:Li)(hli:aN l=0)(kw:List Bool)(hk:kw.length=l.bo.length)(r:List AV)(b:Nat)(h1:b<l.bo.length) :
  FP 459 [.iptr (dZ l kw (cq l) r),i64 b] (bl (freeB l kw b)):=by
 have h:=VD l kw (cq l) (by rw[td,hk]) r b oz oz;rw[Ms hli oz]at h;exact h
theorem xh(l:Li)(hl:l.ok)(hli:aN l=0)(kw:List Bool)(hk:kw.length=l.bo.length)(r:List AV)(kind body:Int) :
  FP 455 [.iptr (dZ l kw (cq l) r),i64 kind,i64 body] (i64 (jointI l kind body kw)):=by
 have h:=EI l hl hli kw (cq l) hk r kind body;rw[yR hli (fun o _ _=>rfl)]at h;exact h
theorem Nf(l:Li)(hl:l.ok)(hli:aN l=0)(kw:List Bool)(hk:kw.length=l.bo.length)(r:List AV) :
  FP 419 [.iptr (dZ l kw (cq l) r)] (.tup [((singleG l kw).getD default).av,bl (singleG l kw).isSome]):=by
 have h8:=(dg hli).2.2.2.1;refine aj func419 ?_;refine gl ?_;refine aW [0,2,12,13] [2] (fun(i:Nat)=>[pP 14 (i64 i)]) (fun _=>[]) (fun i=>i<=l.bo.length/\∀j,j<i->(!sgHit l kw j)=true) (fun i=>l.bo.length-i) 0 ⟨aa0 _,fun j h=>by omega⟩ ?_;rintro i ⟨hi,hj⟩ K1 J1;refine gC (fun z=>?_) (fun z=>?_)
 ·have hin:=a9 z;refine gc (Ca l hli kw hk r i hin) ?_;refine gC (fun z=>?_) (fun z=>?_)
  ·have h2 : sgHit l kw i = false := by unfold sgHit; rw [dl z]; rfl
   refine ga aS ?_;exact aR J1 (i+1) ⟨hin,fun k h9=>by rcases aay k i with g |g;exact hj k g;(have:k=i:=by omega);subst this;rw[h2];rfl⟩
  have hf:=du z;refine gc (xh l hl hli kw hk r 0 i) ?_;refine gc (xh l hl hli kw hk r 1 i) ?_;refine gC (fun z=>?_) (fun z=>?_)
  ·have h2 : sgHit l kw i = false := by unfold sgHit; rw [IR z, ZW]
   refine ga aS ?_;exact aR J1 (i+1) ⟨hin,fun k h9=>by rcases aay k i with g |g;exact hj k g;(have:k=i:=by omega);subst this;rw[h2];rfl⟩
  obtain⟨p0,s0⟩:=HS z;have s1:=(nP (l:=l) (kind:=1) (body:=i) (oth:=kw)).2;have h2:sgHit l kw i=true:=by unfold sgHit;rw[hf,aca p0,aca s0];rfl
  obtain⟨j,hjt⟩:∃j,l.jo[(jointI l 1 i kw).toNat]?=some j:=ay oz;have hjd:l.jo.getD (jointI l 1 i kw).toNat default=j:=aq hjt;have hg:singleG l kw=some (sgG l kw i):=by unfold singleG;rw[gP hin hj (by rw[h2];rfl),aam]
  refine gi (gG (n:=(jointI l 1 i kw).toNat) oz hjt) ?_;refine gC (fun z=>?_) (fun z=>?_)
  ·have hji:j.a=i:=cM z;refine bt ?_;rw[hg];unfold sgG;rw[hjd];simp only[aan,ab6 hji];rfl
  have hji:j.a≠i:=dk z;refine bt ?_;rw[hg];unfold sgG;rw[hjd];simp only[aan,ab5 hji];rfl
 have hin:=bn hi z;subst hin;have hg:singleG l kw=none:=by unfold singleG;rw[f6 hj];rfl
 refine gR ?_;exact aC.sub aC.pure (by rw[hg];exact Sub.tup (.cons rF (.cons (.refl _) .nil)))
theorem L7(Fd:List AV):FP 456 [.iptr Fd] (.fn 464 [.iptr [.iptr Fd]]):=by
 refine aj func456 ?_ (1,0);refine gW ((Wk.freezeB (k:=1) rfl rfl).trans<|Wk.o (sl:=[pP 1 (.iptr [.iptr Fd])]) (hp:=[])) ?_;refine ah ?_;rfl
def wh:Code->Option (Array Tmp×Code×Code)
  | .rangeFunc _ ps x y=>some (ps,x,y)
  | .seq a b=>match wh a with
    |some r=>some r
    |none=>wh b
  | .block _ c=>wh c
  |_=>none
def GP(n:Nat)(o:Option Code):LpD:=match o with
  |some c=>match wh c with
    |some (ps,x,y)=>⟨ps,x,y,n⟩
    |none=>⟨#[],.skip,.skip,0⟩
  |none=>⟨#[],.skip,.skip,0⟩
def Gi(D:LpD)(Fd:List AV)(h:Bool):Blk:=.loop D (match h with |true=>.done |false=>.ready) (match h with |true=>some .ret |false=>none) [pP 1 (.iptr [.iptr Fd]),pP 2 (.ptr 1001 0),pP 3 (.ptr 1002 0)]
def AP(g:Gr):Blk:=.box [i64 g.kind,.lst 1 (g.bo.map i64),.lst 1 (g.jo.map i64),i64 g.driver]
def At(h:Bool):Blk:=.box [bl h]
def fT(D:LpD)(Fd:List AV)(h:Bool)(g:Gr):Hp:=[pP 1000 (Gi D Fd h),pP 1001 (AP g),pP 1002 (At h)]
theorem Kr{D:LpD}{Fd:List AV}{h:Bool}{g:Gr}{k:Nat}{z:Blk}(hz:lk (fT D Fd h g) k=some z):1000<=k:=by
 unfold fT at hz;simp only[aY]at hz;split at hz
 ·omega
 ·split at hz
  ·omega
  ·split at hz
   ·omega
   ·cases hz
theorem N6{D:LpD}{Fd:List AV}{s:AS}(hs:∀k z,lk (fT D Fd false default) k=some z->s.blk k=some z) :
  ∀k∈(fT D Fd false default++dw (fT D Fd false default)).map (·.1),k∈(fT D Fd false default).map (·.1)/\lk (fT D Fd false default++dw (fT D Fd false default)) k=s.blk k:=by
 intro k hk
 have hk':k=1000\/k=1001\/k=1002:=by
  simp[fT,dw]at hk;omega
 rcases hk' with rfl |rfl |rfl
 ·exact⟨by simp[fT],(hs _ _ rfl).symm⟩
 ·exact⟨by simp[fT],(hs _ _ rfl).symm⟩
 ·exact⟨by simp[fT],(hs _ _ rfl).symm⟩
theorem Ix{l:Li}{kw:List Bool}{i k:Nat}(h:cond (freeB l kw i) (freeB l kw k) false=false):prHit l kw i k=false:=by
 rw[jk]at h;unfold prHit;rw[h];rfl
theorem Qf{H R:Hp}{k:Nat}{z:Blk}(h:lk H k=some z):lk (H++R) k=some z:=by rw[oc,ab6 (oa h)];exact h
theorem Qc{a b:Bool}(h:cond a b false=true):a=true:=by cases a <;> simp_all
theorem BK{a b:Bool}(h:cond a b false=true):b=true:=by cases a <;> simp_all
theorem L5(D:LpD)(l:Li)(hl:l.ok)(hli:aN l=0)(kw:List Bool)(hk:kw.length=l.bo.length)(r:List AV)
  (hy:∀i k:Nat,i<k->k<l.bo.length->freeB l kw i=true->freeB l kw k=true ->
   yb prog 1000 [i64 i,i64 k] (fT D (dZ l kw (cq l) r) false default) (bl (!prHit l kw i k)) (fT D (dZ l kw (cq l) r) (prHit l kw i k) (cond (prHit l kw i k) (prG l kw i k) default))) :
  Con prog 464 [.yl 1000,.iptr [.iptr (dZ l kw (cq l) r)]] (fT D (dZ l kw (cq l) r) false default) (.tup []) (fT D (dZ l kw (cq l) r) (pairG l kw).isSome ((pairG l kw).getD default)):=by
 have h8:=(dg hli).2.2.2.1;refine gF func464 (fun k z h=>Kr h) ?_;refine gl ?_;refine aW [0,1,10] [1000,1001,1002] (fun(i:Nat)=>[pP 11 (i64 i)]) (fun _=>[]) (fun i=>i<=l.bo.length/\∀j,j<i->(prAt l kw j).isNone=true) (fun i=>l.bo.length-i) 0 ⟨aa0 _,fun j h=>by omega⟩ ?_;rintro i ⟨hi,hj⟩ K1 J1;refine gC (fun y=>?_) (fun y=>?_)
 ·have hin:=a9 y;refine ga aS ?_;refine aW [0,1,3,10,11] [] (fun (k:Nat)=>[pP 4 (i64 (i + 1 + k:Nat))]) (fun _=>[pP 1000 (Gi D (dZ l kw (cq l) r) false),pP 1001 (AP default),pP 1002 (At false)]) (fun k=>i + 1 + k <= l.bo.length /\ ∀ j,j < k -> (!prHit l kw i (i + 1 + j)) = true) (fun k=>l.bo.length - k) 0 ⟨by omega,fun j h=>by omega⟩ ?_;rintro k ⟨hkl,hkj⟩ K2 J2;refine gl ?_;refine gC (fun y=>?_) (fun y=>?_)
  ·have hkn:i + 1 + k < l.bo.length:=a9 y;refine gc (Ca l hli kw hk r i hin) ?_;refine b8 (fun _=>(Ca l hli kw hk r (i + 1 + k) hkn)) ?_;refine gs (WG rfl rfl rfl (by intro hb; have h0:prHit l kw i (i + 1 + k) = false:=Ix (by simpa using hb); simp only [h0,cond_false]; exact N6 (by intro k z h; exact h)) (fun hb=>Uq (k:=1000) (.opt rfl (by rw [hb]; rfl)) (hy i (i + 1 + k) oz hkn (Qc hb) (BK hb)) (.cons (.opt rfl (by rw [hb]; rfl)) (.cons (.opt rfl (by rw [hb]; rfl)) .nil)) (by intro k z h; exact h) rfl rfl)) ?_;refine gC (fun y=>?_) (fun y=>?_)
   ·have h2 : prHit l kw i (i + 1 + k) = true := by have h9 := BK y; rw [Bool.not_not] at h9; exact h9
    have hat:prAt l kw i=some (i+1+k):=by unfold prAt;rw[gP oz hkj (by rw[h2];rfl),aam];congr 1;omega
    have hg:pairG l kw=some (prG l kw i (i+1+k)):=by unfold pairG;rw[gP hin hj (by rw[hat];rfl),aam,hat]
    refine gR ?_;simp only[hg,h2,Option.isSome_some,aan,cond_true];exact aC.keep (fun k z h=>Qf h)
   have h2:prHit l kw i (i+1+k)=false:=by cases hc:cond (freeB l kw i) (freeB l kw ((i+1+k:Nat):Int)) false with |false=>exact Ix hc |true=>rw[hc,Bool.not_not]at y;exact y
   refine ga aS ?_;exact aR J2 (k+1) ⟨by omega,fun j h9=>by rcases aay j k with g |g;exact hkj j g;(have:j=k:=by omega);subst this;rw[h2];rfl⟩ (hw:=Wk.of bb (.cons rfl (BlkSub.of (by rw[h2])) (.cons rfl (BlkSub.of (by rw[h2];rfl)) (.cons rfl (BlkSub.of (by rw[h2])) .nil))))
  have hkn:¬i+1+k<l.bo.length:=fun h=>by have h1:=sM y;omega
  have hat:prAt l kw i=none:=by unfold prAt;rw[show l.bo.length-(i+1)=k by omega,f6 hkj];rfl
  refine ga aS ?_;exact aR J1 (i+1) ⟨hin,fun j h9=>by rcases aay j i with g |g;exact hj j g;(have:j=i:=by omega);subst this;rw[hat];rfl⟩
 have hin:=bn hi y;have hg:pairG l kw=none:=by unfold pairG;rw[<- hin,f6 hj];rfl
 refine gR ?_;simp only[hg,Option.isSome_none,Option.getD_none];exact aC.keep (fun k z h=>h)
variable{P:aci}
mutual
def AV.pm(σ:Nat->Nat):AV->AV
  | .ms k sz off len=>.ms (σ k) sz off len
  | .ptr k off=>.ptr (σ k) off
  | .eptr k sz i off=>.eptr (σ k) sz i off
  | .yl k=>.yl (σ k)
  | .agg cs=>.agg (AV.pms σ cs)
  | .tup cs=>.tup (AV.pms σ cs)
  | .fn f cs=>.fn f (AV.pms σ cs)
  | .opt b x=>.opt b (AV.pm σ x)
  | .v x=>.v x
  | .lst sz l=>.lst sz l
  | .iptr l=>.iptr l
  | .cl f cs ds=>.cl f cs ds
def AV.pms(σ:Nat->Nat):List AV->List AV
  |[]=>[]
  |x::l=>AV.pm σ x::AV.pms σ l
end
theorem AV.pms_eq(σ:Nat->Nat):∀l,AV.pms σ l=l.map (AV.pm σ)
 |[]=>rfl
 |x::l=>by simp only[AV.pms,ab2,AV.pms_eq σ l]
theorem AV.pm_one(σ:Nat->Nat)(x:AV)(h:x.one=true):(x.pm σ).one=true:=by
 cases x <;> simp only[AV.pm] <;> exact h
mutual
theorem AV.pm_pm{σ:Nat->Nat}(hσ:∀k,σ (σ k)=k):∀x:AV,(x.pm σ).pm σ=x
 | .ms k sz off len=>by simp only[AV.pm,hσ]
 | .ptr k off=>by simp only[AV.pm,hσ]
 | .eptr k sz i off=>by simp only[AV.pm,hσ]
 | .yl k=>by simp only[AV.pm,hσ]
 | .agg cs=>by simp only[AV.pm];rw[AV.pms_pms hσ cs]
 | .tup cs=>by simp only[AV.pm];rw[AV.pms_pms hσ cs]
 | .fn f cs=>by simp only[AV.pm];rw[AV.pms_pms hσ cs]
 | .opt b x=>by simp only[AV.pm];rw[AV.pm_pm hσ x]
 | .v x=>by simp only[AV.pm]
 | .lst sz l=>by simp only[AV.pm]
 | .iptr l=>by simp only[AV.pm]
 | .cl f cs ds=>by simp only[AV.pm]
theorem AV.pms_pms{σ:Nat->Nat}(hσ:∀k,σ (σ k)=k):∀l:List AV,AV.pms σ (AV.pms σ l)=l
 |[]=>by simp only[AV.pms]
 |x::l=>by simp only[AV.pms];rw[AV.pm_pm hσ x,AV.pms_pms hσ l]
end
theorem xW{g:Nat->Array acg->Prop}{S:Nat->Nat->Prop}{σ:Nat->Nat}(hσ:∀k,σ (σ k)=k){m:Nat->Option Nat}{v:acg}{x:AV}(h:Rep g S m v x):Rep g S (fun k=>m (σ k)) v (x.pm σ):=by
 induction h with
 |v x=>exact .v x
 |lst0 a cap sz'=>exact .lst0 a cap sz'
 |lst u hb hc hl hs ho hu hr _=>exact .lst u hb hc hl hs ho hu hr
 |iptr u hb ho hu hr _=>exact .iptr u hb ho hu hr
 |cl a b c d _ _=>exact .cl a b c d
 |ptr hm=>exact .ptr (by simp only[hσ];exact hm)
 |eptr hm=>exact .eptr (by simp only[hσ];exact hm)
 |yl hm=>exact .yl (by simp only[hσ];exact hm)
 |ms0 a k sz off=>exact .ms0 _ _ _ _
 |ms hm hc hS=>exact .ms (by simp only[hσ];exact hm) hc hS
 |opt h h' ih=>exact .opt ih h'
 |agg hn h1 hr ih =>
  simp only[AV.pm,AV.pms_eq];refine .agg (by simpa using hn) ?_ ?_
  ·intro j c hc;simp only[aav,aas]at hc;obtain⟨y,hy,rfl⟩:=hc;exact AV.pm_one _ _ (h1 j y hy)
  ·intro j u c hu hc;simp only[aav,aas]at hc;obtain⟨y,hy,rfl⟩:=hc;exact ih j u y hu hy
 |tup hn hr ih =>
  simp only[AV.pm,AV.pms_eq];refine .tup (by simpa using hn) ?_;intro j u c hu hc;simp only[aav,aas]at hc;obtain⟨y,hy,rfl⟩:=hc;exact ih j u y hu hy
 |fn hn hr ih =>
  simp only[AV.pm,AV.pms_eq];refine .fn (by simpa using hn) ?_;intro j u c hu hc;simp only[aav,aas]at hc;obtain⟨y,hy,rfl⟩:=hc;exact ih j u y hu hy
theorem UH{g:Nat->Array acg->Prop}{S:Nat->Nat->Prop}{σ:Nat->Nat}(hσ:∀k,σ (σ k)=k){m:Nat->Option Nat}{w:acj}{o:Option Nat}{x:Blk}(h:BlkRep g S m w o x) :
  BlkRep g S (fun k=>m (σ k)) w o (x.map (AV.pm σ)):=by
 cases x with
 |row sz es=>exact h.mono (fun _ _ h=>h) (fun _ _ h=>h) (fun _ _ hk=>hk.elim) rfl (fun _ _=>rfl)
 |vec vs=>exact h.mono (fun _ _ h=>h) (fun _ _ h=>h) (fun _ _ hk=>hk.elim) rfl (fun _ _=>rfl)
 |loop=>exact h.mapLoop _ (fun _ _ _ _ h=>xW hσ h)
 |box cs =>
  cases h with
  |box hw hn h1 hrr =>
   refine .box hw (by simpa using hn) ?_ ?_
   ·intro j x hx;simp only[aav,aas]at hx;obtain⟨y,hy,rfl⟩:=hx;exact AV.pm_one _ _ (h1 j y hy)
   ·intro j u x hu hx;simp only[aav,aas]at hx;obtain⟨y,hy,rfl⟩:=hx;exact xW hσ (hrr j u y hu hy)
theorem AC{σ:Nat->Nat}(hσ:∀k,σ (σ k)=k):∀sl:cE,jV (AV.pm σ) (jV (AV.pm σ) sl)=sl
 |[]=>rfl
 |(t,none)::l=>by simp only[jV,AC hσ l]
 |(t,some x)::l=>by simp only[jV,AC hσ l,AV.pm_pm hσ x]
theorem Blk.pm_pm{σ:Nat->Nat}(hσ:∀k,σ (σ k)=k)(x:Blk):(x.map (AV.pm σ)).map (AV.pm σ)=x:=by
 cases x with
 |row sz es=>rfl
 |vec vs=>rfl
 |loop d st pe sl=>simp only[Blk.map,AC hσ]
 |box cs =>
  simp only[Blk.map];rw[<- AV.pms_eq,<- AV.pms_eq,AV.pms_pms hσ]
def jJ(σ:Nat->Nat):Hp->Hp
  |[]=>[]
  |(k,x)::l=>(σ k,match x with |some b=>some (b.map (AV.pm σ)) |none=>none)::jJ σ l
theorem lG{σ:Nat->Nat}(hσ:∀k,σ (σ k)=k):∀(H:Hp)(k:Nat),lk (jJ σ H) k=(lk H (σ k)).map (Blk.map (AV.pm σ))
 |[],k=>rfl
 |(k',x)::l,k=>by
  simp only[jJ,aY,lG hσ l k]
  by_cases h:k=σ k'
  ·rw[ab6 h,ab6 (by rw[h,hσ])];cases x <;> rfl
  ·rw[ab5 h,ab5 (fun e=>h (by rw[<- e,hσ]))]
theorem zI{σ:Nat->Nat}(hσ:∀k,σ (σ k)=k)(H:Hp)(m:Nat->Option Nat):bf (jJ σ H) (fun k=>m (σ k))=bf H m:=by
 funext b;apply propext;constructor
 ·rintro⟨k,z,hz,hb⟩;rw[lG hσ,aas]at hz;obtain⟨y,hy,rfl⟩:=hz;exact⟨σ k,y,hy,hb⟩
 ·rintro⟨k,y,hy,hb⟩;exact⟨σ k,y.map (AV.pm σ),by rw[lG hσ,hσ,hy];rfl,by simp only[hσ];exact hb⟩
theorem HX{σ:Nat->Nat}(hσ:∀k,σ (σ k)=k){ext:Nat->Prop}{H:Hp}{m:Nat->Option Nat}{w:acj}(h:HeapRel ext H m w):HeapRel ext (jJ σ H) (fun k=>m (σ k)) w:=by
 have e:Im ext (jJ σ H) (fun k=>m (σ k)) w=Im ext H m w:=by funext b cs;simp only[Im,zI hσ]
 refine⟨?_,?_,?_⟩
 ·intro k z hz;rw[lG hσ,aas]at hz;obtain⟨y,hy,rfl⟩:=hz;rw[e];exact UH hσ (h.blk _ y hy)
 ·intro k k' z z' b hz hz' hb hb';rw[lG hσ,aas]at hz hz';obtain⟨y,hy,_⟩:=hz;obtain⟨y',hy',_⟩:=hz';have:=h.inj _ _ y y' b hy hy' hb hb';rw[<- hσ k,this,hσ]
 ·intro k z b hz hb;rw[lG hσ,aas]at hz;obtain⟨y,hy,_⟩:=hz;exact h.sep _ y b hy hb
theorem Con.pm{σ:Nat->Nat}(hσ:∀k,σ (σ k)=k){f:FuncId}{args:List AV}{H H':Hp}{r:AV}(h:Con P f args H r H'):Con P f (args.map (AV.pm σ)) (jJ σ H) (r.pm σ) (jJ σ H'):=by
 refine⟨h.ok,?_⟩;intro ext m w vs hext hheap hvs hrep
 have hlk:∀k,lk (jJ σ (jJ σ H)) k=lk H k:=by
  intro k;rw[lG hσ,lG hσ,hσ];cases lk H k with
  |none=>rfl
  |some y=>simp only[aam,Blk.pm_pm hσ]
 have hh:=HeapRel.congr hlk (HX hσ hheap);have em:(fun k=>(fun k=>m (σ k)) (σ k))=m:=by funext k;simp only[hσ]
 have eo:bf (jJ σ H) m=bf H (fun k=>m (σ k)):=by
  have:=zI hσ H (fun k=>m (σ k));rw[em]at this;exact this
 have ei:Im ext (jJ σ H) m w=Im ext H (fun k=>m (σ k)) w:=by funext b cs;simp only[Im,eo]
 refine Calls.mono (h.ret ext (fun k=>m (σ k)) w vs hext hh (by simpa using hvs) (fun j v x hv hx=>?_)) ?_
 ·have h1 := hrep j v (x.pm σ) hv (by simp[hx]);have h2:=xW hσ h1;rw[AV.pm_pm hσ,ei]at h2;exact h2
 ·rintro e w' ⟨v,m',rfl,hf,hh',hn,hk,hrr⟩;refine⟨v,fun k=>m' (σ k),rfl,eo▸hf,HX hσ hh',?_,?_,?_⟩
  ·intro k x b hx hb;rw[lG hσ,aas]at hx;obtain⟨y,hy,_⟩:=hx;rw[eo];exact hn _ y b hy hb
  ·intro k x y hx hy;rw[lG hσ,aas]at hx hy;obtain⟨x',hx',_⟩:=hx;obtain⟨y',hy',_⟩:=hy;have:=hk _ x' y' hx' hy';simpa only[hσ]using this
  ·have e2 : Im ext (jJ σ H') (fun k => m' (σ k)) w' = Im ext H' m' w' := by funext b cs; simp only [Im, zI hσ]
   rw[e2];exact xW hσ hrr
end Go.Lw
namespace Go.Lw
open Go.Proofs
theorem gZ{P:aci}{N:Nat}{Q:Exit->AS->Prop}{c:Code}{s:AS}(h:Gd P N Q (.code c [] s)):bW P N c Q s:=h
theorem L4{P:aci}{N:Nat}{Q:Exit->AS->Prop}{c:Code}{s s':AS}(hw:Wk s s')(h:kF P N c Q s'):kF P N c Q s:=by
 intro C m a w n hro hN hr;obtain⟨m',hr'⟩:=hw C m a w hr;exact h C m' a w n hro hN hr'
def yd(k:Nat):Nat:=bif YQ k 1000 then 900 else bif YQ k 900 then 1000 else bif YQ k 1001 then 2 else bif YQ k 2 then 1001 else bif YQ k 1002 then 3 else bif YQ k 3 then 1002 else k
theorem nb{a b:Nat}(h:¬a=b):YQ a b=false:=by
 cases h1:YQ a b
 ·rfl
 ·exact acc (aax h1) h
theorem Pt(k:Nat):yd (yd k)=k:=by
 by_cases h1:k=1000
 ·subst h1;rfl
 by_cases h2:k=900
 ·subst h2;rfl
 by_cases h3:k=1001
 ·subst h3;rfl
 by_cases h4:k=2
 ·subst h4;rfl
 by_cases h5:k=1002
 ·subst h5;rfl
 by_cases h6:k=3
 ·subst h6;rfl
 have e:yd k=k:=by simp only[yd,nb h1,nb h2,nb h3,nb h4,nb h5,nb h6,cond_false]
 rw[e,e]
theorem RG(l:Li)(hl:l.ok)(hli:aN l=0)(kw:List Bool)(hk:kw.length=l.bo.length)(r:List AV) :
  FP 418 [.iptr (dZ l kw (cq l) r)] (.tup [((pairG l kw).getD default).av,bl (pairG l kw).isSome]):=by
 refine JZ (rs:=Tryz.f418.results.toList) func418 rfl rfl (by simp) rfl (fun k z h=>by cases h) ?_;refine B9 (gZ (go ?_));refine L4 (s':=⟨[pP 1 (.iptr [.iptr (dZ l kw (cq l) r)]),pP 2 (.ptr 2 0),pP 3 (.ptr 3 0)],[pP 2 (AP default),pP 3 (At false)]⟩) ((Wk.freezeB (k:=1) rfl rfl).trans (Wk.of (.k (.k (.k .nil))) (.cons rfl (BlkSub.bL (.cons (.refl _) (.cons (.nil _ _ _) (.cons (.nil _ _ _) (.cons (.refl _) .nil)))) rfl) (.k .nil)))) ?_;refine UL ?_;refine B9 (gZ (go ?_));refine gc (L7 (dZ l kw (cq l) r)) ?_;refine Ru ?_
 have hy:∀i k:Nat,i<k->k<l.bo.length->freeB l kw i=true->freeB l kw k=true ->
   yb prog 1000 [i64 i,i64 k] (fT (GP Tryz.f418.ntmps Tryz.f418.body) (dZ l kw (cq l) r) false default) (bl (!prHit l kw i k)) (fT (GP Tryz.f418.ntmps Tryz.f418.body) (dZ l kw (cq l) r) (prHit l kw i k) (cond (prHit l kw i k) (prG l kw i k) default)):=by
  intro i k hik hkn hfi hfk;refine UE (k:=1000) (fun k z h=>Kr h) rfl rfl (by intro p hp;have h9:p∈[11,12]:=hp;have h8:p=11\/p=12:=(by simpa using h9);show p<42;rcases h8 with h7 |h7 <;> (rw[h7];decide)) ?_;refine gZ (go ?_);refine⟨rfl,_,_,rfl,?_⟩;have hJ:gJ l 0 i (fun o=>decide (o=(k:Int)))=jointI l 0 i (cV l.bo.length k):=yR hli (fun o h0 h1=>(pv h0 oz oz).symm);refine gZ (go ?_);refine gc (xh l hl hli kw hk r 0 i) ?_;refine gc (xh l hl hli kw hk r 0 k) ?_;refine gD ?_ (5,0);refine gW (Wk.freezeB (k:=5) rfl rfl) ?_;refine gc (r:=i64 (jointI l 0 i (cV l.bo.length k))) (by rw[<- hJ];exact Con.sA (.cons (.refl _) (.cons (.refl _) (.cons (.refl _) (.cons (sJ rfl) .nil)))) (IA l hl hli _ 0 i 458 [] [.iptr [i64 k]] (fun o=>decide (o=(k:Int))) (fun o h0 h1=>OU o k))) ?_;refine gC (fun ht=>?_) (fun ht=>?_)
  ·have h2 : prHit l kw i k = true := by unfold prHit; rw [hfi, hfk]; exact (vr.symm.trans ht)
   rw[h2];exact⟨_,_,rfl,aC.keep (by intro q z h;simp only[fT,aY]at h;split at h;(subst_vars;exact h);split at h;(subst_vars;exact h);split at h;(subst_vars;exact h);cases h)⟩
  ·have h2 : prHit l kw i k = false := by unfold prHit; rw [hfi, hfk]; exact (vr.symm.trans ht)
   rw[h2];exact⟨_,_,rfl,aC.keep (by intro q z h;simp only[fT,aY]at h;split at h;(subst_vars;exact h);split at h;(subst_vars;exact h);split at h;(subst_vars;exact h);cases h)⟩
 have hcon:=Con.pm Pt (L5 _ l hl hli kw hk r hy);cases hg:pairG l kw with
 |none =>
  rw[hg]at hcon;refine FU (k:=900) (sl0:=[pP 1 (.iptr [.iptr (dZ l kw (cq l) r)]),pP 2 (.ptr 2 0),pP 3 (.ptr 3 0)]) (.tmp rfl) (by intro t x h;simp only[aY]at h;split at h;(subst_vars;exact h);split at h;(subst_vars;exact h);split at h;(subst_vars;exact h);cases h) rfl rfl hcon (fun k' z h=>h) rfl rfl rfl rfl (by intro h;cases h) (.inl ⟨rfl,?_⟩);refine B9 (gZ (go ?_));refine bW.out (gZ (go ?_));refine gR ?_;exact aC.sub aC.pure (Sub.tup (.cons rF (.cons (.refl _) .nil)))
 |some g =>
  rw[hg]at hcon;refine FU (k:=900) (sl0:=[pP 1 (.iptr [.iptr (dZ l kw (cq l) r)]),pP 2 (.ptr 2 0),pP 3 (.ptr 3 0)]) (.tmp rfl) (by intro t x h;simp only[aY]at h;split at h;(subst_vars;exact h);split at h;(subst_vars;exact h);split at h;(subst_vars;exact h);cases h) rfl rfl hcon (fun k' z h=>h) rfl rfl rfl rfl (by intro h;cases h) (.inr ⟨rfl,?_⟩);exact(bt (P:=prog) (N:=Tryz.f418.ntmps) (e:=.ret) rfl)
theorem Cc{α:Type}{o:Option α}(h:o.isSome=true):∃x,o=some x:=by cases o <;> simp_all
theorem Be{α:Type}{o:Option α}(h:o.isSome=false):o=none:=by cases o <;> simp_all
theorem Xl(l:Li)(hl:l.ok)(hli:aN l=0)(kw:List Bool)(hk:kw.length=l.bo.length)(r:List AV) :
  FP 344 [.iptr (dZ l kw (cq l) r)] (.tup [((nextG l kw).getD default).av,bl (nextG l kw).isSome]):=by
 refine aj func344 ?_;refine gc (U8 l hl hli kw (cq l) hk r) ?_;refine gC (fun z=>?_) (fun z=>?_)
 ·obtain⟨g,hg⟩:=Cc z;refine bt ?_;unfold nextG;rw[hg];rfl
 have hg:=Be z;refine gc (RG l hl hli kw hk r) ?_;refine gC (fun z=>?_) (fun z=>?_)
 ·obtain⟨g,hg2⟩:=Cc z;refine bt ?_;unfold nextG;rw[hg,hg2];rfl
 have hg2:=Be z;refine gc (Nf l hl hli kw hk r) ?_;refine bt ?_;unfold nextG;rw[hg,hg2];rfl
theorem rY{ts:LL}{r e:Nat}(tw:Tw ts r){a b c d:List Rat}(ha:Nm ts.length e a)(hb:Nm ts.length e b)(hc:Nm ts.length e c)(hd:Nm ts.length e d)(he:2*e<=lm ts.length) :
  Con prog 206 [.ptr 1000 0,aD a b,aD c d] [pP 1000 (gI ts)] (aD (sh ts.length (subT ts (ae ts.length a) (ae ts.length c))) (sh ts.length (subT ts (ae ts.length b) (ae ts.length d)))) [pP 1000 (gI ts)]:=by
 refine gF func206 (fun k z h=>bO h) ?_;refine gt (aE (wi tw ha hc oz) (aJ rfl rfl rfl) aG rfl rfl) ?_;refine gt (aE (wi tw hb hd oz) (aJ rfl rfl rfl) aG rfl rfl) ?_;refine gD ?_;refine gR ?_;exact aC.keep (bq rfl)
theorem xR(R:List AV)(a:List Rat):Con prog 332 [.ptr 1000 0,nA a] [pP 1000 (.box [.lst 1 R,.v .nilIface])] (.tup [nA a,.v .nilIface]) [pP 1000 (.box [.lst 1 R,.v .nilIface])]:=by
 refine gF func332 (fun k z h=>bO h) ?_;refine gf ?_;refine gR ?_;show aC _ (AV.tup [nA a,.v .nilIface]) _ _;exact aC.keep (bq rfl)
theorem vA(R:List AV)(a b:List Rat):Con prog 205 [.ptr 1000 0,aD a b] [pP 1000 (.box [.lst 1 R,.v .nilIface])] (.tup [aD a b,.v .nilIface]) [pP 1000 (.box [.lst 1 R,.v .nilIface])]:=by
 refine gF func205 (fun k z h=>bO h) ?_;refine gf ?_;refine gR ?_;show aC _ (AV.tup [aD a b,.v .nilIface]) _ _;exact aC.keep (bq rfl)
theorem Ie{ts:LL}{r e:Nat}(tw:Tw ts r){a b c d p q:List Rat}(ha:Nm ts.length e a)(hb:Nm ts.length e b)(hc:Nm ts.length e c)(hd:Nm ts.length e d)(hp:Nm ts.length e p)(hq:Nm ts.length e q)
  (he:8*e+4+2*kB r ts.length<=lm ts.length) :
  Con prog 338 [.ptr 1000 0,aD a b,aD c d,aD p q] [pP 1000 (gI ts)] (nA (sh ts.length (qO ts (ae ts.length a) (ae ts.length b) (ae ts.length c) (ae ts.length d) (ae ts.length p) (ae ts.length q)))) [pP 1000 (gI ts)]:=by
 refine gF func338 (fun k z h=>bO h) ?_;refine gt (aE (rY tw hc hd ha hb oz) (aJ rfl rfl rfl) aG rfl rfl) ?_;refine gt (aE (rY tw hp hq ha hb oz) (aJ rfl rfl rfl) aG rfl rfl) ?_;refine gt (aE (FV▸C9 tw (hc.sub ha) (hd.sub hb) (hp.sub ha) (hq.sub hb) oz) (aJ rfl rfl rfl) aG rfl rfl) ?_;refine gD ?_;refine gR ?_;exact aC.keep (bq rfl)
theorem IM{ts:LL}{r e:Nat}(tw:Tw ts r){a b c d:List Rat}(ha:Nm ts.length e a)(hb:Nm ts.length e b)(hc:Nm ts.length e c)(hd:Nm ts.length e d)(he:e<=lm ts.length)(f:FuncId)(v:List Rat)
  (hf:Con prog f [.ptr 1000 0,aD a b,aD c d] [pP 1000 (gI ts)] (nA v) [pP 1000 (gI ts)]) :
  FP 207 [aT ts,aD a b,aD c d,.fn f []] (.tup [nA v,.v .nilIface]):=by
 refine aj func207 ?_;refine gc (nT (e:=e) tw [(a,b),(c,d)] (by simp only[abd,abb,or_false];rintro p (rfl |rfl);exact⟨ha,hb⟩;exact⟨hc,hd⟩) he (by simp)) ?_;refine gf ?_;refine gs (wX (.tmp rfl) (show Con prog f ([.ptr 22 0,aD a b,aD c d]++[]) [pP 22 (gI ts)] (nA v) [pP 22 (gI ts)]from Con.rB 22 rfl rfl rfl rfl hf) (aJ rfl rfl rfl) aG rfl rfl) ?_;refine gt (aE (Con.rB 22 rfl rfl rfl rfl (xR _ _)) (bC rfl rfl) aG rfl rfl) ?_;refine bt ?_;rfl
theorem sV{ts:LL}{r e:Nat}(tw:Tw ts r){a b c d:List Rat}(ha:Nm ts.length e a)(hb:Nm ts.length e b)(hc:Nm ts.length e c)(hd:Nm ts.length e d)(he:2*(e+e+kB r ts.length)<=lm ts.length) :
  FP 102 [aT ts,aD a b,aD c d] (.tup [nA (sh ts.length (nJ ts (ae ts.length a) (ae ts.length b) (ae ts.length c) (ae ts.length d))),.v .nilIface]):=by
 refine aj func102 ?_;refine gc (Con.sA (.cons (.refl _) (.cons (.refl _) (.cons (.refl _) (.cons (Sub.fn0 _) .nil)))) (IM tw ha hb hc hd oz _ _ (Br tw ha hb hc hd he))) ?_;refine bt ?_
 first |rfl |(simp;done)
theorem Qg{ts:LL}{r e:Nat}(tw:Tw ts r){a b c d p q:List Rat}(ha:Nm ts.length e a)(hb:Nm ts.length e b)(hc:Nm ts.length e c)(hd:Nm ts.length e d)(hp:Nm ts.length e p)(hq:Nm ts.length e q)
  (he:8*e+10+2*kB r ts.length<=lm ts.length) :
  FP 313 [aT ts,aD a b,aD c d,aD p q] (.tup [i64 (T.sgn (au ts) ts.length (qO ts (ae ts.length a) (ae ts.length b) (ae ts.length c) (ae ts.length d) (ae ts.length p) (ae ts.length q))),.v .nilIface]):=by
 have ho:=C8 tw ha hb hc hd hp hq;refine aj func313 ?_;refine gc (nT (e:=e) tw [(a,b),(c,d),(p,q)] (by simp only[abd,abb,or_false];rintro x (rfl |rfl |rfl);exact⟨ha,hb⟩;exact⟨hc,hd⟩;exact⟨hp,hq⟩) oz (by simp)) ?_;refine gf ?_;refine gt (aE (Con.rB 25 rfl rfl rfl rfl (Ie tw ha hb hc hd hp hq oz)) (.cons (.tmp rfl) (.cons (.tmp rfl) (.cons (.tmp rfl) (.cons (.tmp rfl) .nil)))) aG rfl rfl) ?_;refine gt (aE (Con.rB 25 rfl rfl rfl rfl (xR _ _)) (bC rfl rfl) aG rfl rfl) ?_;refine gf ?_;refine gc (rE tw ho oz) ?_;refine bt ?_;rw[bh]
theorem QW{ts:LL}{r e:Nat}(tw:Tw ts r){a b c d:List Rat}(ha:Nm ts.length e a)(hb:Nm ts.length e b)(hc:Nm ts.length e c)(hd:Nm ts.length e d)(he:2*e+1<=lm ts.length) :
  FP 312 [aT ts,aD a b,aD c d] (.tup [bl (decide (T.sgn (au ts) ts.length (subT ts (ae ts.length a) (ae ts.length c))=0/\T.sgn (au ts) ts.length (subT ts (ae ts.length b) (ae ts.length d))=0)),.v .nilIface]):=by
 refine aj func312 ?_;refine gc (nT (e:=e) tw [(a,b),(c,d)] (by simp only[abd,abb,or_false];rintro p (rfl |rfl);exact⟨ha,hb⟩;exact⟨hc,hd⟩) oz (by simp)) ?_;refine gf ?_;refine gc (zM tw ha hc oz) ?_;refine gf ?_;refine gc (zM tw hb hd oz) ?_;refine bt ?_;rw[<- WX];rfl
theorem JC{ts:LL}{r e:Nat}(tw:Tw ts r){a b c d:List Rat}(ha:Nm ts.length e a)(hb:Nm ts.length e b)(hc:Nm ts.length e c)(hd:Nm ts.length e d)(he:2*(e+e+kB r ts.length)<=lm ts.length) :
  FP 265 [aT ts,nA a,nA b,aD c d] (.tup [aD (sh ts.length (tz ts (ae ts.length a) (ae ts.length b) (ae ts.length c) (ae ts.length d))) (sh ts.length (tP ts (ae ts.length a) (ae ts.length b) (ae ts.length c) (ae ts.length d))),.v .nilIface]):=by
 refine aj func265 ?_;refine gc (x7 (e:=e) tw [a,b,c,d] (by simp only[abd,abb,or_false];rintro x (rfl |rfl |rfl |rfl) <;> assumption) oz (by simp)) ?_;refine gf ?_;refine gt (aE (Con.rB 27 rfl rfl rfl rfl (lY tw ha hc oz)) (aJ rfl rfl rfl) aG rfl rfl) ?_;refine gt (aE (Con.rB 27 rfl rfl rfl rfl (lY tw hb hd oz)) (aJ rfl rfl rfl) aG rfl rfl) ?_;refine gt (aE (Con.rB 27 rfl rfl rfl rfl (Cv▸wi tw (ha.mul tw rfl hc) (hb.mul tw rfl hd) oz)) (aJ rfl rfl rfl) aG rfl rfl) ?_;refine gt (aE (Con.rB 27 rfl rfl rfl rfl (lY tw hb hc oz)) (aJ rfl rfl rfl) aG rfl rfl) ?_;refine gt (aE (Con.rB 27 rfl rfl rfl rfl (lY tw ha hd oz)) (aJ rfl rfl rfl) aG rfl rfl) ?_;refine gt (aE (Con.rB 27 rfl rfl rfl rfl (BD▸yc tw (hb.mul tw rfl hc) (ha.mul tw rfl hd) oz)) (aJ rfl rfl rfl) aG rfl rfl) ?_;refine gt (aE (Con.rB 27 rfl rfl rfl rfl (vA _ _ _)) (bC rfl rfl) aG rfl rfl) ?_;refine gD ?_;refine bt ?_;rfl
theorem Ww{ts:LL}{r e:Nat}(tw:Tw ts r){a b c d:List Rat}(ha:Nm ts.length e a)(hb:Nm ts.length e b)(hc:Nm ts.length e c)(hd:Nm ts.length e d)(he:2*e<=lm ts.length) :
  FP 266 [aT ts,aD a b,aD c d] (.tup [aD (sh ts.length (T.add ts.length (ae ts.length a) (ae ts.length c))) (sh ts.length (T.add ts.length (ae ts.length b) (ae ts.length d))),.v .nilIface]):=by
 refine aj func266 ?_;refine gc (nT (e:=e) tw [(a,b),(c,d)] (by simp only[abd,abb,or_false];rintro p (rfl |rfl);exact⟨ha,hb⟩;exact⟨hc,hd⟩) oz (by simp)) ?_;refine gf ?_;refine gt (aE (Con.rB 21 rfl rfl rfl rfl (yc tw ha hc oz)) (aJ rfl rfl rfl) aG rfl rfl) ?_;refine gt (aE (Con.rB 21 rfl rfl rfl rfl (yc tw hb hd oz)) (aJ rfl rfl rfl) aG rfl rfl) ?_;refine gt (aE (Con.rB 21 rfl rfl rfl rfl (vA _ _ _)) (bC rfl rfl) aG rfl rfl) ?_;refine gD ?_;refine bt ?_;rfl
theorem v9{x y:Rat}(hx:Qs x)(hy:Qs y):FP 256 [qA x,qA y] (aD (sh 0 (x:Rat)) (sh 0 (y:Rat))):=by
 refine aj func256 ?_;refine gc (mh hx) ?_;refine gc (mh hy) ?_;refine gD ?_;refine ah ?_
 first |rfl |(simp;done)
theorem ye{ts:LL}{r e:Nat}(tw:Tw ts r){a b c d:List Rat}(ha:Nm ts.length e a)(hb:Nm ts.length e b)(hc:Nm ts.length e c)(hd:Nm ts.length e d){x y:Rat}(hx:Qb e x)(hy:Qb e y)(he:8*e+4*kB r ts.length+4<=lm ts.length) :
  FP 139 [aT ts,.agg [nA a,nA b,nA c,nA d],qA x,qA y] (.tup [aD (sh ts.length (sD ts (ae ts.length a) (ae ts.length b) (ae ts.length c) x y)) (sh ts.length (sL ts (ae ts.length a) (ae ts.length b) (ae ts.length d) x y)),.v .nilIface]):=by
 have hlm:=kc ts.length;have nx:=Nm.ofQ ha.five (Cb.one hx);have ny:=Nm.ofQ ha.five (Cb.one hy);have nX:=vY tw ha hb nx ny;have nY:=xQ tw ha hb nx ny;have z1:e<=2*(e+e+kB r ts.length)+1:=by omega
 have z2:2*(2*(e+e+kB r ts.length)+1)<=lm ts.length:=Sl he;have hadd:=Ww tw nX nY (hc.mono z1) (hd.mono z1) z2;refine aj func139 ?_;refine gc (x7 (e:=e) tw [a,b,c,d] (by simp only[abd,abb,or_false];rintro x (rfl |rfl |rfl |rfl) <;> assumption) oz (by simp)) ?_;refine gf ?_;refine gc (v9 (hx.qs oz) (hy.qs oz)) ?_;refine gc (JC tw ha hb nx ny oz) ?_;refine gD ?_;refine gf ?_;refine gc hadd ?_;refine bt ?_;rw[yX,AY];rfl
theorem Aj(rs:List (List Rt))(r e:Nat)(h:TR rs r)(xs:List (List Rt))(hx:∀a∈xs,NR a e)(he:e<=lm rs.length)(hl:xs.length<=1000):FP 32 [cI rs,.lst 1 (xs.map nR)] (i64 (bB rs xs)):=by
 refine aj func32 ?_;refine gc (ED rs r h) ?_;refine gC (fun z=>?_) (fun z=>?_)
 ·have h1:=km z;refine ah ?_;rw[AD h1]
 have h1:=jW z;refine gl ?_;refine aW [2,15,16] [2] (fun(i:Nat)=>[pP 17 (i64 i)]) (fun _=>[]) (fun i=>i<=xs.length/\∀x∈xs.take i,co rs.length x=0) (fun i=>xs.length-i) 0 ⟨aa0 _,fun x hx=>by simp at hx⟩ ?_;rintro i ⟨hi,hj⟩ K1 J1;refine gC (fun z=>?_) (fun z=>?_)
 ·have hin : i < xs.length := by simpa [aa] using z
  obtain⟨a,ha⟩:=ay hin;have hok:=hx a (aap ha);have hone:bB rs [a]=co rs.length a:=JA h1;refine gi (aH ha) ?_;refine gc (Ve rs r h a e hok he) ?_;refine gC (fun z=>?_) (fun z=>?_)
  ·have h2:=km z;refine ah ?_;rw[hone]at h2 ⊢;rw[vB h1 ha hj h2]
  have h2:=jW z;rw[hone]at h2;refine ga aS ?_;exact aR J1 (i+1) ⟨hin,fun x hx=>by rw[dK ha]at hx;rcases aa2.1 hx with h9 |h9;exact hj x h9;(rw[Za.1 h9];exact h2)⟩
 have hin:i=xs.length:=by have:xs.length<=i:=(by simpa[aa]using z);omega
 subst hin;rw[aa8]at hj;refine ah ?_;rw[qU h1 hj];rfl
theorem RP{ts:LL}{r e:Nat}(tw:Tw ts r){a:List Rat}(ha:Nm ts.length e a)(he:e<=lm ts.length):FP 33 [aT ts,nA a] (i64 (T.sgn (au ts) ts.length (ae ts.length a))):=by
 refine aj func33 ?_;refine gc (M6 tw ha he) ?_;refine ah ?_
 first |rfl |(simp;done)
def u8(n:Nat):AV:=.v (.int .u8 n)
theorem sG{p q:Bool}{a b:Nat}{c:Nat}(hp:p=decide (a<=c))(hq:q=decide (c<=b)):cond p q false=decide (a<=c/\c<=b):=by
 subst hp;subst hq
 by_cases h:a<=c
 ·simp[h]
 ·simp[h]
theorem tG(c k:Nat):aa .geq (c:Int) (k:Int)=decide (k<=c):=by simp only[aa,decide_eq_decide];omega
theorem s9(c k:Nat):aa .leq (c:Int) (k:Int)=decide (c<=k):=by simp only[aa,decide_eq_decide];omega
theorem RQ(c:Nat):cond (cond (aa .geq (c:Int) 97) (aa .leq (c:Int) 122) false) true (cond (aa .geq (c:Int) 65) (aa .leq (c:Int) 90) false)=fp c:=by
 have e1:cond (aa .geq (c:Int) 97) (aa .leq (c:Int) 122) false=decide (97<=c/\c<=122):=sG (tG c 97) (s9 c 122);have e2:cond (aa .geq (c:Int) 65) (aa .leq (c:Int) 90) false=decide (65<=c/\c<=90):=sG (tG c 65) (s9 c 90);rw[e1,e2];unfold fp;cases decide (97<=c/\c<=122) <;> rfl
theorem Ui(c:Nat):cond (cond (aa .geq (c:Int) 65) (aa .leq (c:Int) 90) false) true (cond (aa .geq (c:Int) 97) (aa .leq (c:Int) 122) false)=fp c:=by
 have e1:cond (aa .geq (c:Int) 97) (aa .leq (c:Int) 122) false=decide (97<=c/\c<=122):=sG (tG c 97) (s9 c 122);have e2:cond (aa .geq (c:Int) 65) (aa .leq (c:Int) 90) false=decide (65<=c/\c<=90):=sG (tG c 65) (s9 c 90);rw[e1,e2];unfold fp;cases decide (97<=c/\c<=122) <;> cases decide (65<=c/\c<=90) <;> rfl
theorem F1(c:Nat):cond (aa .geq (c:Int) 48) (aa .leq (c:Int) 57) false=r8 c:=sG (tG c 48) (s9 c 57)
theorem BQ(c:Nat):cond (cond (fp c) true (r8 c)) true (aa .eql (c:Int) 95)=kU c:=by
 unfold kU
 have:aa .eql (c:Int) 95=decide (c=95):=by
  rw[Z3];simp only[aa,beq_iff_eq,ab7];omega
 rw[this];cases fp c <;> cases r8 c <;> rfl
theorem Kt(c:Nat):FP 389 [u8 c] (bl (fp c)):=by
 refine aj func389 ?_;refine ah ?_;exact acd bl (RQ c)
theorem Rz(c:Nat):FP 440 [u8 c] (bl (r8 c)):=by
 refine aj func440 ?_;refine ah ?_;exact acd bl (F1 c)
theorem X1(c:Nat):FP 390 [u8 c] (bl (kU c)):=by
 refine aj func390 ?_;refine gc (Kt c) ?_;refine b8 (fun _=>(Rz c)) ?_;refine ah ?_;exact acd bl (BQ c)
theorem Ei(c:Nat):FP 290 [u8 c] (bl (fp c)):=by
 refine aj func290 ?_;refine ah ?_;exact acd bl (Ui c)
theorem QQ(c:Nat):FP 292 [u8 c] (bl (r8 c)):=by
 refine aj func292 ?_;refine ah ?_;exact acd bl (F1 c)
theorem OO(s:ByteArray)(hs:s.size<=281474976710656):FP 294 [.v (.string s)] (i64 (fx s)):=by
 refine aj func294 ?_;refine gs (fa rfl rfl rfl (fun h=>wg (.opt rfl (o1 h)) (.const _) T9 rfl oz (by have:=Id h;omega) rfl)) ?_;refine b8 (fun _=>(Kt (ef s 0))) ?_;refine gC (fun z=>?_) (fun z=>?_)
 ·have h0:fx s=0:=PF z;refine ah ?_;rw[h0];rfl
 obtain⟨h0,h1⟩:=LA z;refine aW [0] [] (fun(n:Nat)=>[pP 3 (i64 n)]) (fun _=>[]) (fun n=>1<=n/\n<=s.size/\fM s 1 (s.size-1)=fM s n (s.size-n)) (fun n=>s.size-n) 1 ⟨aau _,h0,rfl⟩ ?_;rintro n ⟨hn1,hn,hw⟩ K1 J1;refine gs (fa rfl rfl rfl (fun h=>wg (.opt rfl (o1 h)) (.opt rfl (o1 h)) T9 rfl oz (by have:=a9 h;omega) rfl)) ?_;refine b8 (fun _=>(X1 (ef s n))) ?_;refine gC (fun z=>?_) (fun z=>?_)
 ·have h2:n<s.size/\kU (ef s n)=true:=Sj z;refine ga aS ?_;exact aR J1 (n+1) ⟨by omega,by omega,by rw[hw,show s.size-n=(s.size-(n+1))+1 by omega];simp only[fM,h2.2,if_true]⟩
 have h2:n<s.size->kU (ef s n)=false:=RT z
 have h3:fx s=n:=by
  unfold fx;rw[ab6 ⟨h0,h1⟩,hw];rcases aay n s.size with h |h
  ·rw[show s.size-n=(s.size-(n+1))+1 by omega];simp only[fM,h2 h,ZX,if_false]
  ·rw[show s.size-n=0 by omega];rfl
 refine ah ?_;rw[h3]
theorem sR(s:ByteArray)(hs:s.size<=281474976710656):FP 168 [.v (.string s)] (bl (iI s)):=by
 refine aj func168 ?_;refine gc (OO s hs) ?_;refine ah ?_;exact acd bl (Ra s)
theorem wW(s:ByteArray)(i:Nat):FP 291 [.v (.string s),i64 i] (u8 (ef s i)):=by
 refine aj func291 ?_;refine gC (fun z=>?_) (fun z=>?_)
 ·have h0:=a9 z;refine gs (wg (.tmp rfl) (.tmp rfl) T9 rfl oz oz rfl) ?_;refine ah ?_;rfl
 have h0:=sM z;refine ah ?_;rw[HT oz];rfl
theorem On(s:ByteArray)(hs:s.size<=281474976710656):FP 164 [.v (.string s),i64 0] (i64 ((if fp (ef s 0)then fM s 0 s.size else 0:Nat))):=by
 refine aj func164 ?_;refine gc (wW s 0) ?_;refine gc (Ei (ef s 0)) ?_;refine gC (fun z=>?_) (fun z=>?_)
 ·have h0 : fp (ef s 0) = false := by simpa using z
  refine ah ?_;rw[h0];rfl
 have h0:fp (ef s 0)=true:=by simpa using z
 refine aW [0] [] (fun(n:Nat)=>[pP 1 (i64 n)]) (fun _=>[]) (fun n=>n<=s.size/\fM s 0 s.size=fM s n (s.size-n)) (fun n=>s.size-n) 0 ⟨aa0 _,rfl⟩ ?_;rintro n ⟨hn,hw⟩ K1 J1;refine gc (wW s n) ?_;refine gc (Ei (ef s n)) ?_;refine b8 (fun _=>(wW s n)) ?_;refine b8 (fun _=>(QQ (ef s n))) ?_;refine b8 (fun _=>(wW s n)) ?_;refine gC (fun z=>?_) (fun z=>?_)
 ·have h1:kU (ef s n)=true:=(BQ _).symm.trans z
  have h2:n<s.size:=by
   rcases aay n s.size with h |h
   ·exact h
   ·rw[HT h]at h1;cases h1
  refine ga aS ?_;exact aR J1 (n+1) ⟨by omega,by rw[hw,show s.size-n=(s.size-(n+1))+1 by omega];simp only[fM,h1,if_true]⟩
 have h1:kU (ef s n)=false:=(BQ _).symm.trans z
 have h2:fM s 0 s.size=n:=by
  rw[hw];rcases aay n s.size with h |h
  ·rw[show s.size-n=(s.size-(n+1))+1 by omega];simp only[fM,h1,ZX,if_false]
  ·rw[show s.size-n=0 by omega];rfl
 refine ah ?_;rw[h0,h2];rfl
theorem si(s:ByteArray)(hs:s.size<=281474976710656):FP 71 [.v (.string s)] (bl (iI s)):=by
 refine aj func71 ?_;refine b8 (fun _=>(On s hs)) ?_;refine ah ?_;exact acd bl (M5 s)
theorem p9(i:Int)(n:Nat):FP 296 [i64 i,i64 n] (bl (bA i n)):=by
 refine aj func296 ?_;refine ah ?_;exact acd bl (DA i n)
theorem Vi(bs:List Bd)(hbs:∀b∈bs,b.ok)(hl:bs.length<=281474976710656):FP 169 [.lst 2 (bs.map Bd.av)] (bF (fC bs.length (eO bs))):=by
 refine aj func169 ?_;refine gl ?_;refine aW [0,11,12] [] (fun(i:Nat)=>[pP 13 (i64 i)]) (fun _=>[]) (fun i=>i<=bs.length/\∀j,j<i->eO bs j=0) (fun i=>bs.length-i) 0 ⟨aa0 _,fun j h=>by omega⟩ ?_;rintro i ⟨hi,hj⟩ K1 J1;refine gC (fun z=>?_) (fun z=>?_)
 ·have hin:=a9 z;obtain⟨b,hb⟩:=ay hin;have hbd:bs.getD i default=b:=aq hb;have hbo:=hbs b (aap hb);have hbdup:=oi Bd.name hb;refine gi (aH hb) ?_;refine gc (sR b.name hbo.name) ?_;refine gC (fun z=>?_) (fun z=>?_)
  ·have h1:=dl z;have e1:eO bs i = 5:=by unfold eO; rw [hbd,ab6 h1]
   refine ah ?_;rw[eD hin hj (by rw[e1];decide),e1];rfl
  have h1:=du z;refine gs (di (.tmp rfl) (.none _) (.some _ (.tmp rfl) oz) T22 rfl T139 rfl oz (by simp only[aar];omega) rfl) ?_;refine ge rfl ?_;refine aW [0,3,4,11,12,13] [4] (fun(k:Nat)=>[pP 25 (.lst 2 ((bs.take i).map Bd.av)),pP 26 (i64 i),pP 27 (i64 k)]) (fun _=>[]) (fun k=>k<=i/\(bs.take k).any (fun y=>dT y.name b.name)=false) (fun k=>i-k) 0 ⟨aa0 _,rfl⟩ ?_ (h1:=(.cons rfl (Sub.of (vc 2 Bd.av bs i)) (.cons rfl (Sub.int (by simp;omega)) (.k .nil))));rintro k ⟨hk,hd⟩ K2 J2;refine gC (fun z=>?_) (fun z=>?_)
  ·have hkn:=a9 z;obtain ⟨y,hy'⟩:∃ y,(bs.take i)[k]? = some y:=ay (by simp; omega);have hy:=(ss hy').1;refine gi (aH hy') ?_;refine gC (fun z=>?_) (fun z=>?_)
   ·have h2:dT y.name b.name = true:=z;have e1:eO bs i = 6:=by unfold eO; rw [hbd,ab5 (by rw [h1]; decide),ab6 (by rw [hbdup]; exact lN hy hkn h2)]
    refine ah ?_;rw[eD hin hj (by rw[e1];decide),e1];rfl
   have h2:dT y.name b.name=false:=z;refine ga aS ?_;exact aR J2 (k+1) ⟨hkn,kQ hy hd h2⟩
  have hkn:=bn hk z;subst hkn;have hnd:¬gU (bs.map Bd.name) k=true:=by rw[hbdup,hd];decide
  refine gl ?_;refine gC (fun z=>?_) (fun z=>?_)
  ·have h3:8 < b.pts.length:=jX z;have e1:eO bs k = 4:=by unfold eO; rw [hbd,ab5 (by rw [h1]; decide),ab5 hnd,ab6 h3]
   refine ah ?_;rw[eD hin hj (by rw[e1];decide),e1];rfl
  have h3:b.pts.length<=8:=iz z;have e1:eO bs k=fC b.pts.length (eH b.pts):=by unfold eO;rw[hbd,ab5 (by rw[h1];decide),ab5 hnd,ab5 oz]
  refine gl ?_;refine aW [0,4,11,12,13,44,45] [4] (fun(p:Nat)=>[pP 46 (i64 p)]) (fun _=>[]) (fun p=>p<=b.pts.length/\∀j,j<p->eH b.pts j=0) (fun p=>b.pts.length-p) 0 ⟨aa0 _,fun j h=>by omega⟩ ?_;rintro p ⟨hp,hpj⟩ K3 J3;refine gC (fun z=>?_) (fun z=>?_)
  ·have hpn:=a9 z;obtain⟨m,hm⟩:=ay hpn;have hmd:b.pts.getD p default=m:=aq hm;have hmm:=aap hm;have hmdup:=oi Mk.name hm;have hmo:=hbo.pts m hmm;refine gi (aH hm) ?_;refine gc (sR m.name (hbo.names m hmm)) ?_;refine gC (fun z=>?_) (fun z=>?_)
   ·have h4:=dl z;have e2:eH b.pts p = 5:=by unfold eH; rw [hmd,ab6 h4]
    have e3:eO bs k=5:=by rw[e1,eD hpn hpj (by rw[e2];decide),e2]
    refine ah ?_;rw[eD hin hj (by rw[e3];decide),e3];rfl
   have h4:=du z;refine gs (di (.tmp rfl) (.none _) (.some _ (.tmp rfl) oz) T137 rfl T141 rfl oz (by simp only[aar];omega) rfl) ?_;refine ge rfl ?_;refine aW [0,4,8,11,12,13,44,45,46] [4,8] (fun(q:Nat)=>[pP 59 (.lst 7 ((b.pts.take p).map Mk.av)),pP 60 (i64 p),pP 61 (i64 q)]) (fun _=>[]) (fun q=>q<=p/\(b.pts.take q).any (fun y=>dT y.name m.name)=false) (fun q=>p-q) 0 ⟨aa0 _,rfl⟩ ?_ (h1:=(.cons rfl (Sub.of (vc 7 Mk.av b.pts p)) (.cons rfl (Sub.int (by simp;omega)) (.k .nil))));rintro q ⟨hq,hqd⟩ K4 J4;refine gC (fun z=>?_) (fun z=>?_)
   ·have hqn:=a9 z;obtain ⟨y,hy'⟩:∃ y,(b.pts.take p)[q]? = some y:=ay (by simp; omega);have hy:=(ss hy').1;refine gi (aH hy') ?_;refine gC (fun z=>?_) (fun z=>?_)
    ·have h5:dT y.name m.name = true:=z;have e2:eH b.pts p = 6:=by unfold eH; rw [hmd,ab5 (by rw [h4]; decide),ab6 (by rw [hmdup]; exact lN hy hqn h5)]
     have e3:eO bs k=6:=by rw[e1,eD hpn hpj (by rw[e2];decide),e2]
     refine ah ?_;rw[eD hin hj (by rw[e3];decide),e3];rfl
    have h5:dT y.name m.name=false:=z;refine ga aS ?_;exact aR J4 (q+1) ⟨hqn,kQ hy hqd h5⟩
   have hqn:=bn hq z;subst hqn;have hmnd:¬gU (b.pts.map Mk.name) q=true:=by rw[hmdup,hqd];decide
   refine gc (ua m.x hmo.x) ?_;refine b8 (fun _=>(ua m.y hmo.y)) ?_;refine gC (fun z=>?_) (fun z=>?_)
   ·have h6:=pa z;have e2:eH b.pts q = 3:=by unfold eH; rw [hmd,ab5 (by rw [h4]; decide),ab5 hmnd,ab5 (by rintro ⟨g1,g2⟩; rcases h6 with g | g; (rw [g1] at g; cases g); (rw [g2] at g; cases g))]
    have e3:eO bs k=3:=by rw[e1,eD hpn hpj (by rw[e2];decide),e2]
    refine ah ?_;rw[eD hin hj (by rw[e3];decide),e3];rfl
   have h6:=pL z;have e2:eH b.pts q=0:=by unfold eH;rw[hmd,ab5 (by rw[h4];decide),ab5 hmnd,ab6 h6]
   refine ga aS ?_;exact aR J3 (q+1) ⟨hpn,fun j h9=>by rcases aay j q with g |g;exact hpj j g;(have:j=q:=by omega);subst this;exact e2⟩
  have hpn:=bn hp z;subst hpn;have e2:eO bs k=0:=e1.trans (mR hpj);refine ga aS ?_;exact aR J1 (k+1) ⟨hin,fun j h9=>by rcases aay j k with g |g;exact hj j g;(have:j=k:=by omega);subst this;exact e2⟩
 have hin:=bn hi z;subst hin;refine ah ?_;rw[mR hj];rfl
theorem Uj(l:Li)(hl:l.ok)(j:Jt):FP 295 [l.av,j.av] (bF (eM l j)):=by
 refine aj func295 ?_;refine gC (fun z=>?_) (fun z=>?_)
 ·have h1:=Em z;refine ah ?_;unfold eM;rw[ab6 h1];rfl
 have h1:=Hy z;refine gl ?_;refine gc (p9 j.a l.bo.length) ?_;refine cJ ?_;refine b8 (fun _=>(p9 j.b l.bo.length)) ?_;refine gC (fun z=>?_) (fun z=>?_)
 ·have h2:=pa z;refine ah ?_;unfold eM;rw[ab5 h1,ab6 h2];rfl
 have h2:=pL z;have h2n:¬(bA j.a l.bo.length=false\/bA j.b l.bo.length=false):=by rw[h2.1,h2.2];simp
 obtain⟨A,hA,pA,mA,zA0⟩:=q9 h2.1;obtain⟨B,hB,pB,mB,zB0⟩:=q9 h2.2;refine gC (fun z=>?_) (fun z=>?_)
 ·have h3:=cM z;refine ah ?_;unfold eM;rw[ab5 h1,ab5 h2n,ab6 h3];rfl
 have h3:=dk z;refine gi (aH hB) ?_;refine gi (aH hA) ?_;refine gl ?_;refine gc (p9 j.point A.pts.length) ?_;refine cJ ?_;refine b8 (fun _=>(p9 j.on B.pts.length)) ?_;refine gD ?_;refine gC (fun z=>?_) (fun z=>?_)
 ·have h4:=pa z;refine ah ?_;unfold eM;rw[ab5 h1,ab5 h2n,ab5 h3,pA,pB,ab6 h4];rfl
 have h4:=pL z;have h4n:¬(bA j.point A.pts.length=false\/bA j.on B.pts.length=false):=by rw[h4.1,h4.2];simp
 refine gC (fun z=>?_) (fun z=>?_)
 ·have h5:=cM z;refine gC (fun z=>?_) (fun z=>?_)
  ·have h6:=nW z;refine ah ?_;unfold eM;rw[ab5 h1,ab5 h2n,ab5 h3,pA,pB,ab5 h4n,ab6 h5,ab6 h6];rfl
  have h6:=s8 z;refine ah ?_;unfold eM;rw[ab5 h1,ab5 h2n,ab5 h3,pA,pB,ab5 h4n,ab6 h5,ab5 (by rw[h6];simp)];rfl
 have h5:=dk z;refine gl ?_;refine gc (p9 j.to B.pts.length) ?_;refine gC (fun z=>?_) (fun z=>?_)
 ·have h6:=dl z;refine ah ?_;unfold eM;rw[ab5 h1,ab5 h2n,ab5 h3,pA,pB,ab5 h4n,ab5 h5,ab6 h6];rfl
 have h6:=du z;obtain⟨m1,g1,d1,mm1,z1⟩:=ta h4.2;obtain⟨m2,g2,d2,mm2,z2⟩:=ta h6;have mo1:=(hl.bo B mB).pts m1 mm1;have mo2:=(hl.bo B mB).pts m2 mm2;refine gi (aH g1) ?_;refine gi (aH g2) ?_;refine gD ?_;refine gc (HU m1.x m2.x mo1.x mo2.x) ?_;refine b8 (fun _=>(HU m1.y m2.y mo1.y mo2.y)) ?_;refine gC (fun z=>?_) (fun z=>?_)
 ·have h7:=Fh z;refine ah ?_;unfold eM;rw[ab5 h1,ab5 h2n,ab5 h3,pA,pB,ab5 h4n,ab5 h5,ab5 (by rw[h6];decide),d1,d2,ab6 h7];rfl
 have h7:=JP z;refine ah ?_;unfold eM;rw[ab5 h1,ab5 h2n,ab5 h3,pA,pB,ab5 h4n,ab5 h5,ab5 (by rw[h6];decide),d1,d2,ab5 h7];rfl
theorem VJ(l:Li)(hl:l.ok):FP 170 [l.av] (bF (fg l)):=by
 have hlj:=hl.lj;refine aj func170 ?_;refine gl ?_;refine gC (fun z=>?_) (fun z=>?_)
 ·have h0:16<l.jo.length:=jX z;refine ah ?_;unfold fg;rw[ab6 h0];rfl
 have h0:l.jo.length<=16:=iz z;have e0:fg l=fC l.jo.length (gB l):=by unfold fg;rw[ab5 oz]
 refine gl ?_;refine aW [1,14,15] [1] (fun(i:Nat)=>[pP 16 (i64 i)]) (fun _=>[]) (fun i=>i<=l.jo.length/\∀j,j<i->gB l j=0) (fun i=>l.jo.length-i) 0 ⟨aa0 _,fun j h=>by omega⟩ ?_;rintro i ⟨hi,hj⟩ K1 J1;refine gC (fun z=>?_) (fun z=>?_)
 ·have hin:=a9 z;obtain⟨b,hb⟩:=ay hin;have hbd:l.jo.getD i default=b:=aq hb;have hbdup:=oi Jt.name hb;refine gi (aH hb) ?_;refine gc (sR b.name (hl.jnames b (aap hb))) ?_;refine gC (fun z=>?_) (fun z=>?_)
  ·have h1:=dl z;have e1:gB l i = 5:=by unfold gB; rw [hbd,ab6 h1]
   refine ah ?_;rw[e0,eD hin hj (by rw[e1];decide),e1];rfl
  have h1:=du z;refine gs (di (.tmp rfl) (.none _) (.some _ (.tmp rfl) oz) T23 rfl T135 rfl oz (by simp only[aar];omega) rfl) ?_;refine ge rfl ?_;refine aW [1,3,4,14,15,16] [1,4] (fun(k:Nat)=>[pP 29 (.lst 7 ((l.jo.take i).map Jt.av)),pP 30 (i64 i),pP 31 (i64 k)]) (fun _=>[]) (fun k=>k<=i/\(l.jo.take k).any (fun y=>dT y.name b.name)=false) (fun k=>i-k) 0 ⟨aa0 _,rfl⟩ ?_ (h1:=(.cons rfl (Sub.of (vc 7 Jt.av l.jo i)) (.cons rfl (Sub.int (by simp;omega)) (.k .nil))));rintro k ⟨hk,hd⟩ K2 J2;refine gC (fun z=>?_) (fun z=>?_)
  ·have hkn:=a9 z;obtain ⟨y,hy'⟩:∃ y,(l.jo.take i)[k]? = some y:=ay (by simp; omega);have hy:=(ss hy').1;refine gi (aH hy') ?_;refine gC (fun z=>?_) (fun z=>?_)
   ·have h2:dT y.name b.name = true:=z;have e1:gB l i = 6:=by unfold gB; rw [hbd,ab5 (by rw [h1]; decide),ab6 (by rw [hbdup]; exact lN hy hkn h2)]
    refine ah ?_;rw[e0,eD hin hj (by rw[e1];decide),e1];rfl
   have h2:dT y.name b.name=false:=z;refine ga aS ?_;exact aR J2 (k+1) ⟨hkn,kQ hy hd h2⟩
  have hkn:=bn hk z;subst hkn;have hnd:¬gU (l.jo.map Jt.name) k=true:=by rw[hbdup,hd];decide
  have e1:gB l k=eM l b:=by unfold gB;rw[hbd,ab5 (by rw[h1];decide),ab5 hnd]
  refine gc (Uj l hl b) ?_;refine gC (fun z=>?_) (fun z=>?_)
  ·have h3:=dH z;refine ah ?_;rw[e0,eD hin hj (by rw[e1];exact h3),e1]
  have h3:=dD z;refine ga aS ?_;exact aR J1 (k+1) ⟨hin,fun j h9=>by rcases aay j k with g |g;exact hj j g;(have:j=k:=by omega);subst this;exact e1.trans h3⟩
 have hin:=bn hi z;subst hin;refine ah ?_;rw[e0,mR hj];rfl
theorem Od(l:Li)(hl:l.ok):FP 171 [l.av] (bF (ic l)):=by
 have hld:=hl.ld;refine aj func171 ?_;refine gl ?_;refine gC (fun z=>?_) (fun z=>?_)
 ·have h0:2<l.dv.length:=jX z;refine ah ?_;unfold ic;rw[ab6 h0];rfl
 have h0:l.dv.length<=2:=iz z;have e0:ic l=fC l.dv.length (d9 l):=by unfold ic;rw[ab5 oz]
 refine gl ?_;refine aW [1,15,16] [1] (fun(i:Nat)=>[pP 17 (i64 i)]) (fun _=>[]) (fun i=>i<=l.dv.length/\∀j,j<i->d9 l j=0) (fun i=>l.dv.length-i) 0 ⟨aa0 _,fun j h=>by omega⟩ ?_;rintro i ⟨hi,hj⟩ K1 J1;refine gC (fun z=>?_) (fun z=>?_)
 ·have hin:=a9 z;obtain⟨b,hb⟩:=ay hin;have hbd:l.dv.getD i default=b:=aq hb;have hbdup:=oi Dr.name hb;refine gi (aH hb) ?_;refine gc (sR b.name (hl.dnames b (aap hb))) ?_;refine gC (fun z=>?_) (fun z=>?_)
  ·have h1:=dl z;have e1:d9 l i = 5:=by unfold d9; rw [hbd,ab6 h1]
   refine ah ?_;rw[e0,eD hin hj (by rw[e1];decide),e1];rfl
  have h1:=du z;refine gs (di (.tmp rfl) (.none _) (.some _ (.tmp rfl) oz) T24 rfl T151 rfl oz (by simp only[aar];omega) rfl) ?_;refine ge rfl ?_;refine aW [1,3,4,15,16,17] [1,4] (fun(k:Nat)=>[pP 30 (.lst 2 ((l.dv.take i).map Dr.av)),pP 31 (i64 i),pP 32 (i64 k)]) (fun _=>[]) (fun k=>k<=i/\(l.dv.take k).any (fun y=>dT y.name b.name)=false) (fun k=>i-k) 0 ⟨aa0 _,rfl⟩ ?_ (h1:=(.cons rfl (Sub.of (vc 2 Dr.av l.dv i)) (.cons rfl (Sub.int (by simp;omega)) (.k .nil))));rintro k ⟨hk,hd⟩ K2 J2;refine gC (fun z=>?_) (fun z=>?_)
  ·have hkn:=a9 z;obtain ⟨y,hy'⟩:∃ y,(l.dv.take i)[k]? = some y:=ay (by simp; omega);have hy:=(ss hy').1;refine gi (aH hy') ?_;refine gC (fun z=>?_) (fun z=>?_)
   ·have h2:dT y.name b.name = true:=z;have e1:d9 l i = 6:=by unfold d9; rw [hbd,ab5 (by rw [h1]; decide),ab6 (by rw [hbdup]; exact lN hy hkn h2)]
    refine ah ?_;rw[e0,eD hin hj (by rw[e1];decide),e1];rfl
   have h2:dT y.name b.name=false:=z;refine ga aS ?_;exact aR J2 (k+1) ⟨hkn,kQ hy hd h2⟩
  have hkn:=bn hk z;subst hkn;have hnd:¬gU (l.dv.map Dr.name) k=true:=by rw[hbdup,hd];decide
  refine gl ?_;refine gc (p9 b.body l.bo.length) ?_;refine gC (fun z=>?_) (fun z=>?_)
  ·have h3:=dl z;have e1:d9 l k = 9:=by unfold d9; rw [hbd,ab5 (by rw [h1]; decide),ab5 hnd,ab6 h3]
   refine ah ?_;rw[e0,eD hin hj (by rw[e1];decide),e1];rfl
  have h3:=du z;refine gC (fun z=>?_) (fun z=>?_)
  ·have h4:=cM z;have e1:d9 l k = 7:=by unfold d9; rw [hbd,ab5 (by rw [h1]; decide),ab5 hnd,ab5 (by rw [h3]; decide),ab6 h4]
   refine ah ?_;rw[e0,eD hin hj (by rw[e1];decide),e1];rfl
  have h4:=dk z;have e1:d9 l k=if(l.dv.take k).any (fun d=>decide (d.body=b.body))=true then 6 else 0:=by unfold d9;rw[hbd,ab5 (by rw[h1];decide),ab5 hnd,ab5 (by rw[h3];decide),ab5 h4]
  refine gs (di (.tmp rfl) (.none _) (.some _ (.tmp rfl) oz) T24 rfl T151 rfl oz (by simp only[aar];omega) rfl) ?_;refine ge rfl ?_;refine aW [1,4,15,16,17] [1,4] (fun(q:Nat)=>[pP 58 (.lst 2 ((l.dv.take k).map Dr.av)),pP 59 (i64 k),pP 60 (i64 q)]) (fun _=>[]) (fun q=>q<=k/\(l.dv.take q).any (fun d=>decide (d.body=b.body))=false) (fun q=>k-q) 0 ⟨aa0 _,rfl⟩ ?_ (h1:=(.cons rfl (Sub.of (vc 2 Dr.av l.dv k)) (.cons rfl (Sub.int (by simp;omega)) (.k .nil))));rintro q ⟨hq,hqd⟩ K3 J3;refine gC (fun z=>?_) (fun z=>?_)
  ·have hqn:=a9 z;obtain ⟨y,hy'⟩:∃ y,(l.dv.take k)[q]? = some y:=ay (by simp; omega);have hy:=(ss hy').1;refine gi (aH hy') ?_;refine gC (fun z=>?_) (fun z=>?_)
   ·have h5:decide (y.body = b.body) = true:=aca (cM z);have e2:d9 l k = 6:=by rw [e1,ab6 (lN hy hqn h5)]
    refine ah ?_;rw[e0,eD hin hj (by rw[e2];decide),e2];rfl
   have h5:decide (y.body=b.body)=false:=acb (dk z);refine ga aS ?_;exact aR J3 (q+1) ⟨hqn,kQ hy hqd h5⟩
  have hqn:=bn hq z;subst hqn;have e2:d9 l q=0:=by rw[e1,hqd];rfl
  refine ga aS ?_;exact aR J1 (q+1) ⟨hin,fun j h9=>by rcases aay j q with g |g;exact hj j g;(have:j=q:=by omega);subst this;exact e2⟩
 have hin:=bn hi z;subst hin;refine ah ?_;rw[e0,mR hj];rfl
theorem yE(l:Li)(hl:l.ok):FP 75 [l.av] (bF (aN l)):=by
 have hlb:=hl.lb;refine aj func75 ?_;refine gc (sR l.name hl.name) ?_;refine gC (fun z=>?_) (fun z=>?_)
 ·have h1:=dl z;refine ah ?_;unfold aN;rw[ab6 h1];rfl
 have h1:=du z;refine gl ?_;refine gC (fun z=>?_) (fun z=>?_)
 ·have h2:=Jr z;refine ah ?_;unfold aN;rw[ab5 (by rw[h1];decide),ab6 h2];rfl
 have h2:=Eh z;refine gl ?_;refine gC (fun z=>?_) (fun z=>?_)
 ·have h3:8<l.bo.length:=jX z;refine ah ?_;unfold aN;rw[ab5 (by rw[h1];decide),ab5 h2,ab6 h3];rfl
 have h3:l.bo.length<=8:=iz z;have e0:aN l=if iH l≠0 then iH l else if fg l≠0 then fg l else ic l:=by unfold aN;rw[ab5 (by rw[h1];decide),ab5 h2,ab5 oz]
 refine gc (Vi l.bo hl.bo hlb) ?_;refine gC (fun z=>?_) (fun z=>?_)
 ·have h4:iH l≠0:=dH z;refine ah ?_;rw[e0,ab6 h4];rfl
 have h4:iH l=0:=dD z;refine gc (VJ l hl) ?_;refine gC (fun z=>?_) (fun z=>?_)
 ·have h5:=dH z;refine ah ?_;rw[e0,ab5 (by rw[h4];simp),ab6 h5]
 have h5:=dD z;refine gc (Od l hl) ?_;refine ah ?_;rw[e0,ab5 (by rw[h4];simp),ab5 (by rw[h5];simp)]
theorem AO(d:Nat)(hd:X9 d 1000=true)(l:Li)(hl:l.bo.length<=1000)(b:Nat)(hb:b<l.bo.length) :
  Con prog 273 [l.av,i64 b] [] (.ms d 1 0 l.bo.length) [(d,some (.row 1 ((cV l.bo.length b).map bl)))]:=by
 refine gF func273 (fun k z h=>by cases h) ?_;refine gl ?_;refine gs (iD (.tmp rfl) T320 rfl T4 rfl rfl oz (by dsimp only;omega) rfl) ?_;refine gs (mw (.tmp rfl) (.tmp rfl) T320 rfl T4 rfl oz oz rfl) ?_;refine gs (dM (.tmp rfl) rfl (by rw[abl,ab6 (by simp;omega)]) rfl (.const _) rfl rfl T4 rfl rfl) ?_ (3,0);refine gW (Wk.of (sl:=[pP 5 (.ms 9 1 0 l.bo.length)]) (hp:=[pP 9 (.row 1 ((cV l.bo.length b).map bl))]) (.cons rfl (Sub.of (by rw[abn])) .nil) (.cons rfl (BlkSub.of (by unfold cV;simp only[ab0,abw,Yf,abn];rfl)) .nil)) ?_ (3,0);refine gW (Wk.rk (k:=9) (d:=900) rfl rfl) ?_;refine gR ?_;exact aC.own1 rfl hd rfl
theorem VE(l:Li)(hl:l.bo.length<=1000)(b:Nat)(hb:b<l.bo.length):FP 273 [l.av,i64 b] (.lst 1 ((cV l.bo.length b).map bl)):=by
 have h:=Con.freeze (by rw[aar,ir];omega) (AO 0 rfl l hl b hb);rw[ab1,aa7 (by rw[aar,ir];exact aau _)]at h;exact h
theorem X5(l:Li)(hl:l.ok)(b:Int):FP 429 [l.av,i64 b] (bl (mi l b)):=by
 have hld:=hl.ld;refine aj func429 ?_;refine gl ?_;refine aW [1,8,9] [] (fun(i:Nat)=>[pP 10 (i64 i)]) (fun _=>[]) (fun i=>i<=l.dv.length/\(l.dv.take i).any (fun d=>decide (d.body=b))=false) (fun i=>l.dv.length-i) 0 ⟨aa0 _,rfl⟩ ?_;rintro i ⟨hi,hj⟩ K1 J1;refine gC (fun z=>?_) (fun z=>?_)
 ·have hin:=a9 z;obtain⟨d,hd⟩:=ay hin;refine gi (aH hd) ?_;refine gC (fun z=>?_) (fun z=>?_)
  ·have h1:d.body=b:=cM z;refine ah ?_;unfold mi;rw[Zz.2 ⟨d,aap hd,aca h1⟩];rfl
  have h1:d.body≠b:=dk z;refine ga aS ?_;exact aR J1 (i+1) ⟨hin,kQ hd hj (acb h1)⟩
 have hin:=bn hi z;subst hin;rw[aa8]at hj;refine ah ?_;unfold mi;rw[hj];rfl
theorem HA(l:Li)(hl:l.ok)(hli:aN l=0)(kind body:Int)(oth:List Bool)(ho:oth.length=l.bo.length):FP 372 [l.av,i64 kind,i64 body,.lst 1 (oth.map bl)] (i64 (jointI l kind body oth)):=by
 have hlj:=hl.lj;refine aj func372 ?_;refine gl ?_;refine aW [1,2,3,12,13] [] (fun(i:Nat)=>[pP 14 (i64 i)]) (fun _=>[]) (fun i=>i<=l.jo.length/\∀j,j<i->(!ma kind body oth (l.jo.getD j default))=true) (fun i=>l.jo.length-i) 0 ⟨aa0 _,fun j h=>by omega⟩ ?_;rintro i ⟨hi,hj⟩ K1 J1;refine gC (fun z=>?_) (fun z=>?_)
 ·have hin:=a9 z;obtain⟨j,hjt⟩:=ay hin;have hjd:l.jo.getD i default=j:=aq hjt;obtain⟨i1,i2,_⟩:=cF hli hjt;have b1:=df i1;have b2:=df i2;obtain⟨va,hva⟩:∃v,oth[j.a.toNat]?=some v:=ay oz;obtain⟨vb,hvb⟩:∃v,oth[j.b.toNat]?=some v:=ay oz;have ea:kn oth j.a=va:=aq hva;have eb:kn oth j.b=vb:=aq hvb;refine gi (aH hjt) ?_;refine nk (fun _=>(gG (n:=j.b.toNat) oz hvb)) ?_;refine nk (fun _=>(gG (n:=j.a.toNat) oz hva)) ?_;refine gC (fun z=>?_) (fun z=>?_)
  ·have h2 : ma kind body oth j = true := by rw [<- KD (va := va) (vb := vb) ea eb]; exact z
   refine ah ?_;unfold jointI;rw[gP hin hj (by rw[hjd,h2];rfl)];rfl
  have h2:ma kind body oth j=false:=by rw[<- KD (va:=va) (vb:=vb) ea eb];exact z
  refine ga aS ?_;exact aR J1 (i+1) ⟨hin,fun k h9=>by rcases aay k i with g |g;exact hj k g;(have:k=i:=by omega);subst this;rw[hjd,h2];rfl⟩
 have hin:=bn hi z;subst hin;refine ah ?_;unfold jointI;rw[f6 hj];rfl
theorem Q3(l:Li)(hl:l.ok)(kw:List Bool)(b:Nat)(hb:b<kw.length):FP 373 [l.av,.lst 1 (kw.map bl),i64 b] (bl (freeB l kw b)):=by
 obtain⟨v,hv⟩:=ay hb;have ev:kn kw (b:Int)=v:=aq (by rw[abn];exact hv);refine aj func373 ?_;refine gi (aH hv) ?_;refine b8 (fun _=>(X5 l hl b)) ?_;refine ah ?_;unfold freeB;rw[ev];exact acd bl (jk _ _)
theorem uI{l:Li}{kw:List Bool}(hl:l.ok)(hli:aN l=0)(kind body:Int)(hk:kw.length=l.bo.length) :
  Con prog 372 [l.av,i64 kind,i64 body,.ms 1000 1 0 kw.length] [pP 1000 (.row 1 (kw.map bl))] (i64 (jointI l kind body kw)) [pP 1000 (.row 1 (kw.map bl))]:=by
 refine Con.borrow (args:=[l.av,i64 kind,i64 body,.lst 1 (kw.map bl)]) 1000 1 (kw.map bl) rfl rfl rfl ?_ rfl (fun k' x h=>by cases h) (HA l hl hli kind body kw hk);intro j x' hj
 match j,hj with
 |0,hj=>cases hj;exact .inl rfl
 |1,hj=>cases hj;exact .inl rfl
 |2,hj=>cases hj;exact .inl rfl
 |3,hj=>cases hj;exact .inr ⟨0,kw.length,rfl,by simp,by rw[ab1,aa7 (by simp)];rfl⟩
theorem BI{l:Li}{kw:List Bool}(hl:l.ok)(b:Nat)(hb:b<kw.length) :
  Con prog 373 [l.av,.ms 1000 1 0 kw.length,i64 b] [pP 1000 (.row 1 (kw.map bl))] (bl (freeB l kw b)) [pP 1000 (.row 1 (kw.map bl))]:=by
 refine Con.borrow (args:=[l.av,.lst 1 (kw.map bl),i64 b]) 1000 1 (kw.map bl) rfl rfl rfl ?_ rfl (fun k' x h=>by cases h) (Q3 l hl kw b hb);intro j x' hj
 match j,hj with
 |0,hj=>cases hj;exact .inl rfl
 |1,hj=>cases hj;exact .inr ⟨0,kw.length,rfl,by simp,by rw[ab1,aa7 (by simp)];rfl⟩
 |2,hj=>cases hj;exact .inl rfl
theorem Rc(l:Li)(hl:l.ok)(hli:aN l=0)(kw:List Bool)(hk:kw.length=l.bo.length):Con prog 274 [l.av,.ms 1000 1 0 kw.length] [pP 1000 (.row 1 (kw.map bl))] (.tup [((driverG l kw).getD default).av,bl (driverG l kw).isSome]) [pP 1000 (.row 1 (kw.map bl))]:=by
 have hld:=hl.ld;refine gF func274 (fun k z h=>bO h) ?_;refine gl ?_;refine aW [2,4,10,11] [2,4,1000] (fun(i:Nat)=>[pP 1 (.ms 1000 1 0 kw.length),pP 12 (i64 i)]) (fun _=>[]) (fun i=>i<=l.dv.length/\∀j,j<i->(!drHit l kw j)=true) (fun i=>l.dv.length-i) 0 ⟨aa0 _,fun j h=>by omega⟩ ?_;rintro i ⟨hi,hj⟩ K1 J1;refine gC (fun y=>?_) (fun y=>?_)
 ·have hin:=a9 y;obtain ⟨d,hd⟩:=ay hin;have hdd:l.dv.getD i default = d:=aq hd;have hb:=df (lM hli hd);obtain ⟨v,hv⟩:∃ v,kw[d.body.toNat]? = some v:=ay oz;have ev:kn kw d.body = v:=aq hv;refine gi (aH hd) ?_;refine gs (mw (.tmp rfl) (.tmp rfl) T320 rfl T4 rfl oz oz rfl) ?_;refine gs (eK (.tmp rfl) rfl (by rw [Yf,aav,hv]; rfl) T4 rfl rfl rfl) ?_;refine gC (fun y=>?_) (fun y=>?_)
  ·have h2 : drHit l kw i = false := by unfold drHit; rw [hdd, ev, y]; rfl
   refine ga aS ?_;exact aR J1 (i+1) ⟨hin,fun k h9=>by rcases aay k i with g |g;exact hj k g;(have:k=i:=by omega);subst this;rw[h2];rfl⟩
  have hv0:v=false:=y;refine gt (nQ (uI hl hli 0 d.body hk) (.cons (.tmp rfl) (.cons (.const _) (bC rfl rfl))) rfl rfl rfl) ?_;refine gC (fun y=>?_) (fun y=>?_)
  ·have h2 : drHit l kw i = true := by unfold drHit; rw [hdd, ev, hv0, aca (Ht y)]; rfl
   have hg:driverG l kw=some ⟨0,[d.body],[jointI l 0 d.body kw],i⟩:=by unfold driverG;rw[gP hin hj (by rw[h2];rfl),<- hdd];rfl
   refine gR ?_;rw[hg];exact aC.keep (bq rfl)
  have h2:drHit l kw i=false:=by unfold drHit;rw[hdd,acb (Gp y),ZW]
  refine ga aS ?_;exact aR J1 (i+1) ⟨hin,fun k h9=>by rcases aay k i with g |g;exact hj k g;(have:k=i:=by omega);subst this;rw[h2];rfl⟩
 have hin:=bn hi y;subst hin;have hg:driverG l kw=none:=by unfold driverG;rw[f6 hj];rfl
 refine gR ?_;exact aC.sub (aC.keep (bq rfl)) (by rw[hg];exact Sub.tup (.cons rF (.cons (.refl _) .nil)))
theorem QC(l:Li)(hl:l.ok)(hli:aN l=0)(kw:List Bool)(hk:kw.length=l.bo.length):Con prog 275 [l.av,.ms 1000 1 0 kw.length] [pP 1000 (.row 1 (kw.map bl))] (.tup [((pairG l kw).getD default).av,bl (pairG l kw).isSome]) [pP 1000 (.row 1 (kw.map bl))]:=by
 have h8:=(dg hli).2.2.2.1;refine gF func275 (fun k z h=>bO h) ?_;refine gl ?_;refine aW [2,4,12,13] [2,4,1000] (fun(i:Nat)=>[pP 1 (.ms 1000 1 0 kw.length),pP 14 (i64 i)]) (fun _=>[]) (fun i=>i<=l.bo.length/\∀j,j<i->(prAt l kw j).isNone=true) (fun i=>l.bo.length-i) 0 ⟨aa0 _,fun j h=>by omega⟩ ?_;rintro i ⟨hi,hj⟩ K1 J1;refine gC (fun y=>?_) (fun y=>?_)
 ·have hin:=a9 y;refine ga aS ?_;refine aW [2,4,6,12,13,14] [2,4,1000] (fun (k:Nat)=>[pP 1 (.ms 1000 1 0 kw.length),pP 7 (i64 (i + 1 + k:Nat))]) (fun _=>[]) (fun k=>i + 1 + k <= l.bo.length /\ ∀ j,j < k -> (!prHit l kw i (i + 1 + j)) = true) (fun k=>l.bo.length - k) 0 ⟨by omega,fun j h=>by omega⟩ ?_;rintro k ⟨hkl,hkj⟩ K2 J2;refine gl ?_;refine gC (fun y=>?_) (fun y=>?_)
  ·have hkn:i+1+k<l.bo.length:=a9 y;refine gt (nQ (BI hl i oz) (aJ rfl rfl rfl) rfl rfl rfl) ?_;refine gu (fa rfl rfl rfl (fun h=>nQ (BI hl (i+1+k) oz) (.cons (.opt rfl (o1 h)) (.cons (.opt rfl (o1 h)) (.cons (.opt rfl (o1 h)) .nil))) rfl rfl rfl)) ?_;refine gC (fun y=>?_) (fun y=>?_)
   ·have h2 : prHit l kw i (i + 1 + k) = false := by unfold prHit; rw [show (freeB l kw i && freeB l kw ((i + 1 + k : Nat) : Int)) = false from by rcases pa y with g | g; (rw [g]; rfl); (rw [g, ZW])]; rfl
    refine ga aS ?_;exact aR J2 (k+1) ⟨by omega,fun j h9=>by rcases aay j k with g |g;exact hkj j g;(have:j=k:=by omega);subst this;rw[h2];rfl⟩
   have hff:=pL y;refine gt (nQ (uI hl hli 0 i hk) (.cons (.tmp rfl) (.cons (.const _) (bC rfl rfl))) rfl rfl rfl) ?_;refine gt (nQ (uI hl hli 0 (i+1+k:Nat) hk) (.cons (.tmp rfl) (.cons (.const _) (bC rfl rfl))) rfl rfl rfl) ?_;refine gc (VE l oz (i+1+k) hkn) ?_;refine gc (HA l hl hli 0 i (cV l.bo.length ((i+1+k:Nat):Int)) (ir _ _)) ?_;refine gD ?_;refine gC (fun y=>?_) (fun y=>?_)
   ·have h2 : prHit l kw i (i + 1 + k) = true := by unfold prHit; rw [hff.1, hff.2]; exact (vr.symm.trans y)
    have hat:prAt l kw i=some (i+1+k):=by unfold prAt;rw[gP oz hkj (by rw[h2];rfl),aam];congr 1;omega
    have hg:pairG l kw=some (prG l kw i (i+1+k)):=by unfold pairG;rw[gP hin hj (by rw[hat];rfl),aam,hat]
    refine gR ?_;rw[hg];exact aC.keep (bq rfl)
   have h2:prHit l kw i (i+1+k)=false:=by unfold prHit;rw[show(decide (0<=jointI l 0 i kw)&&decide (0<=jointI l 0 ((i+1+k:Nat):Int) kw)&&decide (0<=jointI l 0 i (cV l.bo.length ((i+1+k:Nat):Int))))=false from vr.symm.trans y,ZW]
   refine ga aS ?_;exact aR J2 (k+1) ⟨by omega,fun j h9=>by rcases aay j k with g |g;exact hkj j g;(have:j=k:=by omega);subst this;rw[h2];rfl⟩
  have hkn:¬i+1+k<l.bo.length:=fun h=>by have h1:=sM y;omega
  have hat:prAt l kw i=none:=by unfold prAt;rw[show l.bo.length-(i+1)=k by omega,f6 hkj];rfl
  refine ga aS ?_;exact aR J1 (i+1) ⟨hin,fun j h9=>by rcases aay j i with g |g;exact hj j g;(have:j=i:=by omega);subst this;rw[hat];rfl⟩
 have hin:=bn hi y;have hg:pairG l kw=none:=by unfold pairG;rw[<- hin,f6 hj];rfl
 refine gR ?_;exact aC.sub (aC.keep (bq rfl)) (by rw[hg];exact Sub.tup (.cons rF (.cons (.refl _) .nil)))
theorem Vn(l:Li)(hl:l.ok)(hli:aN l=0)(kw:List Bool)(hk:kw.length=l.bo.length):Con prog 276 [l.av,.ms 1000 1 0 kw.length] [pP 1000 (.row 1 (kw.map bl))] (.tup [((singleG l kw).getD default).av,bl (singleG l kw).isSome]) [pP 1000 (.row 1 (kw.map bl))]:=by
 have h8:=(dg hli).2.2.2.1;refine gF func276 (fun k z h=>bO h) ?_;refine gl ?_;refine aW [2,4,11,12] [2,4,1000] (fun(i:Nat)=>[pP 1 (.ms 1000 1 0 kw.length),pP 13 (i64 i)]) (fun _=>[]) (fun i=>i<=l.bo.length/\∀j,j<i->(!sgHit l kw j)=true) (fun i=>l.bo.length-i) 0 ⟨aa0 _,fun j h=>by omega⟩ ?_;rintro i ⟨hi,hj⟩ K1 J1;refine gC (fun y=>?_) (fun y=>?_)
 ·have hin:=a9 y;refine gt (nQ (BI hl i oz) (aJ rfl rfl rfl) rfl rfl rfl) ?_;refine gC (fun y=>?_) (fun y=>?_)
  ·have h2 : sgHit l kw i = false := by unfold sgHit; rw [dl y]; rfl
   refine ga aS ?_;exact aR J1 (i+1) ⟨hin,fun k h9=>by rcases aay k i with g |g;exact hj k g;(have:k=i:=by omega);subst this;rw[h2];rfl⟩
  have hf:=du y;refine gt (nQ (uI hl hli 0 i hk) (.cons (.tmp rfl) (.cons (.const _) (bC rfl rfl))) rfl rfl rfl) ?_;refine gt (nQ (uI hl hli 1 i hk) (.cons (.tmp rfl) (.cons (.const _) (bC rfl rfl))) rfl rfl rfl) ?_;refine gD ?_;refine gC (fun y=>?_) (fun y=>?_)
  ·have h2 : sgHit l kw i = false := by unfold sgHit; rw [IR y, ZW]
   refine ga aS ?_;exact aR J1 (i+1) ⟨hin,fun k h9=>by rcases aay k i with g |g;exact hj k g;(have:k=i:=by omega);subst this;rw[h2];rfl⟩
  obtain⟨p0,s0⟩:=HS y;have s1:=(nP (l:=l) (kind:=1) (body:=i) (oth:=kw)).2;have h2:sgHit l kw i=true:=by unfold sgHit;rw[hf,aca p0,aca s0];rfl
  obtain⟨j,hjt⟩:∃j,l.jo[(jointI l 1 i kw).toNat]?=some j:=ay oz;have hjd:l.jo.getD (jointI l 1 i kw).toNat default=j:=aq hjt;have hg:singleG l kw=some (sgG l kw i):=by unfold singleG;rw[gP hin hj (by rw[h2];rfl),aam]
  refine gi (gG (n:=(jointI l 1 i kw).toNat) oz hjt) ?_;refine gC (fun y=>?_) (fun y=>?_)
  ·have hji:j.a=i:=cM y;refine gR ?_;rw[hg];unfold sgG;rw[hjd];simp only[aan,ab6 hji]
   exact aC.keep (bq rfl)
  have hji:j.a≠i:=dk y;refine gR ?_;rw[hg];unfold sgG;rw[hjd];simp only[aan,ab5 hji]
  exact aC.keep (bq rfl)
 have hin:=bn hi y;have hg:singleG l kw=none:=by unfold singleG;rw[<- hin,f6 hj];rfl
 refine gR ?_;exact aC.sub (aC.keep (bq rfl)) (by rw[hg];exact Sub.tup (.cons rF (.cons (.refl _) .nil)))
theorem B4{k:List Bool}{bs:List Int}{q:Nat}{x:Int}(h:bs[q]?=some x):bJ k (bs.drop q)=bJ (k.set x.toNat true) (bs.drop (q+1)):=by
 have hi:=(Y1.1 h).1;rw[Y5 hi,(Y1.1 h).2];rfl
theorem OF{l:Li}{n:Nat}{kw:List Bool}{out:List Gr}{g:Gr}(h:nextG l kw=some g):findFrom l (n+1) kw out=findFrom l n (bJ kw g.bo) (out++[g]):=by
 show(match nextG l kw with |none=>_ |some g=>_)=_;rw[h]
theorem Sb{l:Li}{n:Nat}{kw:List Bool}{out:List Gr}(h:nextG l kw=none):findFrom l n kw out=(kw,out):=by
 cases n with
 |zero=>rfl
 |succ n=>show(match nextG l kw with |none=>_ |some g=>_)=_;rw[h]
theorem Ck{α:Type}{o:Option α}(h:o.isSome=false):o=none:=by cases o <;> simp_all
theorem C5{α:Type}{a b:Option α}(h:a.isSome=true):a=a.or b:=by cases a <;> simp_all
theorem LR{l:Li}{kw:List Bool}(h:(driverG l kw).or (pairG l kw)=none):nextG l kw=singleG l kw:=by
 unfold nextG;rw[<- Option.or_assoc,h];rfl
theorem SE{l:Li}{kw:List Bool}(h:((driverG l kw).or (pairG l kw)).isSome=true):nextG l kw=(driverG l kw).or (pairG l kw):=by
 unfold nextG;rw[<- Option.or_assoc];exact(C5 h).symm
theorem DY(l:Li)(hl:l.ok)(hli:aN l=0):FP 147 [l.av] (.lst 4 ((findG l).map Gr.av)):=by
 have h8:=(dg hli).2.2.2.1;have h0:=(dg hli).2.2.2.2;refine aj func147 ?_;refine gt (aE (AO 900 rfl l oz 0 oz) (.cons (.tmp rfl) (.cons (.const _) .nil)) aG rfl rfl) ?_;refine gl ?_;refine gW (Wk.virt 901 4 rfl) ?_;refine i9 [1,13] [1] (fun(i:Nat)(kw:List Bool)(out:List Gr)=>[pP 3 (.ms 900 1 0 kw.length),pP 4 (.ms 901 4 0 out.length),pP 14 (i64 i)]) (fun _ kw out=>[pP 900 (.row 1 (kw.map bl)),pP 901 (.row 4 (out.map Gr.av))]) (fun i kw out=>i<=l.bo.length/\kw.length=l.bo.length/\out.length<=i/\findFrom l (l.bo.length-i) kw out=findFrom l l.bo.length (cV l.bo.length 0) []) (fun i _ _=>l.bo.length-i) 0 (cV l.bo.length 0) ([]) ⟨aa0 _,ir _ _,aau _,rfl⟩ ?_ (h1:=(.cons rfl (Sub.of (by rw[ir])) (.k (.k .nil))))
 rintro i kw out ⟨hi,hk,hol,hff⟩ K1 J1;refine gC (fun z=>?_) (fun z=>?_) (st2:=(18,0))
 ·have hin:=a9 z;have hd1:=Con.rekey1 900 rfl rfl rfl (Rc l hl hli kw hk);have hp1:=Con.rekey1 900 rfl rfl rfl (QC l hl hli kw hk);have hs1:=Con.rekey1 900 rfl rfl rfl (Vn l hl hli kw hk);refine gt (aE hd1 (bC rfl rfl) aG rfl rfl) ?_;refine z9 [1,5,13,14] [1,900,901] (fun(o:Option Gr)=>[pP 3 (.ms 900 1 0 kw.length),pP 4 (.ms 901 4 0 out.length),pP 6 (bl o.isSome)]) (fun o=>[pP 5 (.box (o.getD default).av.cells)]) (fun o=>o=(driverG l kw).or (pairG l kw)) ?_ ?_
  ·intro K2 J2;refine gC (fun z=>?_) (fun z=>?_)
   ·refine gt (aE hp1 (bC rfl rfl) aG rfl rfl) ?_;exact rV J2 (pairG l kw) (by rw[Ck (dl z)];rfl)
   exact rV J2 (driverG l kw) (C5 (du z))
  rintro o ho;refine z9 [1,5,13,14] [1,900,901] (fun(og:Option Gr)=>[pP 3 (.ms 900 1 0 kw.length),pP 4 (.ms 901 4 0 out.length),pP 6 (bl og.isSome)]) (fun og=>[pP 5 (.box (og.getD default).av.cells)]) (fun og=>og=nextG l kw) ?_ ?_
  ·intro K3 J3;refine gC (fun z=>?_) (fun z=>?_)
   ·refine gt (aE hs1 (bC rfl rfl) aG rfl rfl) ?_;exact rV J3 (singleG l kw) (by have:=Ck (dl z);rw[ho]at this;exact(LR this).symm)
   exact rV J3 o (by rw[ho];exact(SE (by rw[<- ho];exact du z)).symm)
  rintro og hog;refine gC (fun z=>?_) (fun z=>?_) (st1:=(18,0))
  ·have hn : nextG l kw = none := by rw [<- hog]; exact Ck (dl z)
   have hfin:findG l=out:=by unfold findG;rw[<- hff,Sb hn]
   refine gW ((Wk.freeze (k:=901) rfl).trans<|Wk.of (sl:=[pP 4 (.lst 4 ((findG l).map Gr.av))]) (hp:=[]) (.cons rfl (Sub.of (by rw[hfin,b7 (by rw[aar])])) .nil) .nil) ?_;refine ah ?_;rfl
  obtain⟨g,hg⟩:∃g,og=some g:=Option.isSome_iff_exists.1 (du z);have hng:nextG l kw=some g:=by rw[<- hog,hg]
  have hgo:=xz hli hng;subst hg;refine gs (cK (.tmp rfl) rfl (by rw[aar]) (.tmp rfl) T130 rfl T169 rfl rfl (by dsimp only;simp only[aa4,abg];omega) rfl rfl) ?_ (12,0);refine gW (Wk.of (sl:=[pP 1 (.ptr 1 0),pP 3 (.ms 900 1 0 kw.length),pP 4 (.ms 43 4 0 (out++[g]).length),pP 5 (.ptr 5 0),pP 13 (i64 l.bo.length),pP 14 (i64 i)]) (hp:=[pP 1 (.box l.av.cells),pP 5 (.box g.av.cells),pP 900 (.row 1 (kw.map bl)),pP 43 (.row 4 ((out++[g]).map Gr.av))]) (.k (.k (.cons rfl (Sub.of (by rw[abi];rfl)) (.k (.k (.k .nil)))))) (.k (.k (.k (.cons rfl (BlkSub.of (by rw[abf];rfl)) .nil))))) ?_ (12,0)
  refine gW (Wk.rk (k:=43) (d:=901) rfl rfl) ?_;refine gl ?_;refine hO [1,13,14,45,46] [1,901] (fun(q:Nat)(kk:List Bool)=>[pP 3 (.ms 900 1 0 kk.length),pP 4 (.ms 901 4 0 (out++[g]).length),pP 47 (i64 q)]) (fun _ kk=>[pP 900 (.row 1 (kk.map bl))]) (fun q kk=>q<=g.bo.length/\kk.length=l.bo.length/\bJ kk (g.bo.drop q)=bJ kw g.bo) (fun q _=>g.bo.length-q) 0 kw ⟨aa0 _,hk,rfl⟩ ?_;rintro q kk ⟨hq,hkk,hmk⟩ K4 J4;refine gC (fun z=>?_) (fun z=>?_)
  ·have hqn:=a9 z;obtain⟨x,hx⟩:=ay hqn;have hxb:=hgo.b x (aap hx);obtain⟨v,hv⟩:∃v,kk[x.toNat]?=some v:=ay oz;refine gi (aH hx) ?_;refine gs (mw (.tmp rfl) (.tmp rfl) T320 rfl T4 rfl oz oz rfl) ?_;refine gs (dM (.tmp rfl) rfl (by rw[Yf,aav,hv];rfl) rfl (.const _) rfl rfl T4 rfl rfl) ?_;refine ga (Fl (by have:=hgo.lb;unfold bc;omega)) ?_;exact gk J4 (q+1) (kk.set x.toNat true) ⟨hqn,by rw[ab4];exact hkk,by rw[<- B4 hx];exact hmk⟩ (hw:=Wk.of (.cons rfl (Sub.of (by rw[ab4])) (.k (.k (.k (.k (.k (.k (.k .nil)))))))) (.cons rfl (BlkSub.of (by rw[ab0,Yf];rfl)) (.k (.k .nil))))
  have hqn:=bn hq z;have hmk2:kk=bJ kw g.bo:=by rw[hqn,Y7]at hmk;exact hmk
  refine ga aS ?_;exact ik J1 (i+1) kk (out++[g]) ⟨hin,hkk,by rw[abi];simp only[aa4,abg];omega,by rw[hmk2,<- OF hng,<- hff];congr 1;omega⟩
 have hin:=bn hi z;have hfin:findG l=out:=by unfold findG;rw[<- hff,show l.bo.length-i=0 by omega];rfl
 refine gW ((Wk.freeze (k:=901) rfl).trans<|Wk.of (sl:=[pP 4 (.lst 4 ((findG l).map Gr.av))]) (hp:=[]) (.cons rfl (Sub.of (by rw[hfin,b7 (by rw[aar])])) .nil) .nil) ?_;refine ah ?_;rfl
theorem FX{α:Type}{f:List Bool->α->List Bool}{k:List Bool}{l:List α}{i:Nat}{x:α}(h:l[i]?=some x):(l.drop i).foldl f k=(l.drop (i+1)).foldl f (f k x):=by
 have hi:=(Y1.1 h).1;rw[Y5 hi,(Y1.1 h).2];rfl
def io(k:List Bool)(i:Nat):List Int:=((List.range i).filter (fun j=>!k.getD j false)).map (fun j:Nat=>((j:Nat):Int))
theorem GF{k:List Bool}{i:Nat}(h:k.getD i false=false):io k (i+1)=io k i++[(i:Int)]:=by
 unfold io;rw[List.range_succ,Zy,abf,Zf,h];rfl
theorem Jg{k:List Bool}{i:Nat}(h:k.getD i false=true):io k (i+1)=io k i:=by
 unfold io;rw[List.range_succ,Zy,abf,Zf,h];simp
theorem xK(k:List Bool)(i:Nat):(io k i).length<=i:=by
 unfold io;rw[aar];exact abe (List.length_filter_le _ _) (by simp)
theorem qQ{α:Type}{f:α->List Int}:∀(gs:List α)(k:List Bool),(gs.foldl (fun k g=>bJ k (f g)) k).length=k.length
 |[],k=>rfl
 |g::gs,k=>by rw[foldl_cons,qQ gs,jA]
theorem SL(l:Li):(eY (bZ l)).length<=l.bo.length:=by
 have h:=xK (bZ l) (bZ l).length;have e:(bZ l).length=l.bo.length:=by unfold bZ;rw[qQ,ir]
 rw[e]at h;unfold eY;rw[e];exact h
theorem NG(l:Li):(eY (ee l)).length<=l.jo.length:=by
 have h:=xK (ee l) (ee l).length;have e:(ee l).length=l.jo.length:=by unfold ee;rw[qQ,abp]
 rw[e]at h;unfold eY;rw[e];exact h
theorem TQ(l:Li)(hl:l.ok)(hli:aN l=0):FP 146 [l.av] (.tup [.lst 1 ((eY (bZ l)).map i64),.lst 1 ((eY (ee l)).map i64)]):=by
 have h8:=(dg hli).2.2.2.1;have h0:=(dg hli).2.2.2.2;have hj16:l.jo.length<=16:=by have:=(dg hli).2.1;unfold fg at this;split at this;cases this;omega
 obtain⟨hgo,hgl⟩:=r5 hli;refine aj func146 ?_;refine gt (aE (AO 900 rfl l oz 0 oz) (.cons (.tmp rfl) (.cons (.const _) .nil)) aG rfl rfl) ?_;refine gl ?_;refine gs (iD (.tmp rfl) T320 rfl T4 rfl rfl oz (by dsimp only;omega) rfl) ?_;refine gD ?_ (2,0);refine gW (Wk.of (sl:=[pP 1 (.ptr 1 0),pP 2 (nS),pP 3 (nS),pP 4 (.ms 900 1 0 (cV l.bo.length 0).length),pP 5 (.ms 21 1 0 (Y6 l.jo.length false).length)]) (hp:=[pP 1 (.box l.av.cells),pP 900 (.row 1 ((cV l.bo.length 0).map bl)),pP 21 (.row 1 ((Y6 l.jo.length false).map bl))]) (.k (.k (.k (.cons rfl (Sub.of (by rw[ir])) (.cons rfl (Sub.of (by rw[abp,abn])) .nil))))) (.k (.k (.cons rfl (BlkSub.of (by rw[abw,abn];rfl)) .nil)))) ?_ (2,0)
 refine gW (Wk.rk (k:=21) (d:=901) rfl rfl) ?_;refine gc (DY l hl hli) ?_;refine gl ?_;refine i9 [1,2,3,23,24] [1] (fun(i:Nat)(k1 k2:List Bool)=>[pP 4 (.ms 900 1 0 k1.length),pP 5 (.ms 901 1 0 k2.length),pP 25 (i64 i)]) (fun _ k1 k2=>[pP 900 (.row 1 (k1.map bl)),pP 901 (.row 1 (k2.map bl))]) (fun i k1 k2=>i<=(findG l).length/\k1.length=l.bo.length/\k2.length=l.jo.length/\((findG l).drop i).foldl (fun k g=>bJ k g.bo) k1=bZ l/\((findG l).drop i).foldl (fun k g=>bJ k g.jo) k2=ee l) (fun i _ _=>(findG l).length-i) 0 (cV l.bo.length 0) (Y6 l.jo.length false) ⟨aa0 _,ir _ _,abp,rfl,rfl⟩ ?_
 rintro i k1 k2 ⟨hi,hk1,hk2,hf1,hf2⟩ K1 J1;refine gC (fun z=>?_) (fun z=>?_)
 ·have hin:=a9 z;obtain⟨g,hg⟩:=ay hin;have hgk:=hgo g (aap hg);have hlb:=hgk.lb;have hlj:=hgk.lj;refine gi (aH hg) ?_;refine gl ?_;refine hO [1,2,3,7,23,24,25,30,31] [1,7,901] (fun(q:Nat)(kk:List Bool)=>[pP 4 (.ms 900 1 0 kk.length),pP 5 (.ms 901 1 0 k2.length),pP 32 (i64 q)]) (fun _ kk=>[pP 900 (.row 1 (kk.map bl))]) (fun q kk=>q<=g.bo.length/\kk.length=l.bo.length/\bJ kk (g.bo.drop q)=bJ k1 g.bo) (fun q _=>g.bo.length-q) 0 k1 ⟨aa0 _,hk1,rfl⟩ ?_;rintro q kk ⟨hq,hkk,hmk⟩ K2 J2;refine gC (fun z=>?_) (fun z=>?_)
  ·have hqn:=a9 z;obtain⟨x,hx⟩:=ay hqn;have hxb:=hgk.b x (aap hx);obtain⟨v,hv⟩:∃v,kk[x.toNat]?=some v:=ay oz;refine gi (aH hx) ?_;refine gs (mw (.tmp rfl) (.tmp rfl) T320 rfl T4 rfl oz oz rfl) ?_;refine gs (dM (.tmp rfl) rfl (by rw[Yf,aav,hv];rfl) rfl (.const _) rfl rfl T4 rfl rfl) ?_;refine ga aS ?_;exact gk J2 (q+1) (kk.set x.toNat true) ⟨hqn,by rw[ab4];exact hkk,by rw[<- B4 hx];exact hmk⟩ (hw:=Wk.of (.cons rfl (Sub.of (by rw[ab4])) (.k (.k (.k (.k (.k (.k (.k (.k (.k (.k (.k .nil)))))))))))) (.cons rfl (BlkSub.of (by rw[ab0,Yf];rfl)) (.k (.k (.k .nil)))))
  have hqn:=bn hq z;have hmk2:kk=bJ k1 g.bo:=by rw[hqn,Y7]at hmk;exact hmk
  refine gl ?_;refine hO [1,2,3,23,24,25,41,42] [1,900] (fun(p:Nat)(jj:List Bool)=>[pP 4 (.ms 900 1 0 kk.length),pP 5 (.ms 901 1 0 jj.length),pP 43 (i64 p)]) (fun _ jj=>[pP 901 (.row 1 (jj.map bl))]) (fun p jj=>p<=g.jo.length/\jj.length=l.jo.length/\bJ jj (g.jo.drop p)=bJ k2 g.jo) (fun p _=>g.jo.length-p) 0 k2 ⟨aa0 _,hk2,rfl⟩ ?_;rintro p jj ⟨hp,hjj,hmj⟩ K3 J3;refine gC (fun z=>?_) (fun z=>?_)
  ·have hpn:=a9 z;obtain⟨x,hx⟩:=ay hpn;have hxb:=hgk.j x (aap hx);obtain⟨v,hv⟩:∃v,jj[x.toNat]?=some v:=ay oz;refine gi (aH hx) ?_;refine gs (mw (.tmp rfl) (.tmp rfl) T320 rfl T4 rfl oz oz rfl) ?_;refine gs (dM (.tmp rfl) rfl (by rw[Yf,aav,hv];rfl) rfl (.const _) rfl rfl T4 rfl rfl) ?_;refine ga aS ?_;exact gk J3 (p+1) (jj.set x.toNat true) ⟨hpn,by rw[ab4];exact hjj,by rw[<- B4 hx];exact hmj⟩ (hw:=Wk.of (.k (.cons rfl (Sub.of (by rw[ab4])) (.k (.k (.k (.k (.k (.k (.k (.k (.k .nil))))))))))) (.cons rfl (BlkSub.of (by rw[ab0,Yf];rfl)) (.k (.k .nil))))
  have hpn:=bn hp z;have hmj2:jj=bJ k2 g.jo:=by rw[hpn,Y7]at hmj;exact hmj
  refine ga aS ?_;exact ik J1 (i+1) kk jj ⟨hin,hkk,hjj,by rw[hmk2,<- hf1,FX hg],by rw[hmj2,<- hf2,FX hg]⟩
 have hin:=bn hi z;have e1:k1=bZ l:=by rw[hin,Y7]at hf1;exact hf1
 have e2:k2=ee l:=by rw[hin,Y7]at hf2;exact hf2
 refine gW (Wk.virt 902 1 rfl) ?_;refine aW [3,53] [900,901] (fun(i:Nat)=>[pP 2 (.ms 902 1 0 (io k1 i).length),pP 5 (.ms 901 1 0 k2.length),pP 52 (.ms 900 1 0 k1.length),pP 54 (i64 i)]) (fun i=>[pP 902 (.row 1 ((io k1 i).map i64))]) (fun i=>i<=k1.length) (fun i=>k1.length-i) 0 (aa0 _) ?_;rintro i ha K4 J4;refine gC (fun z=>?_) (fun z=>?_) (st2:=(22,0))
 ·have hin6:=a9 z;obtain ⟨v,hv⟩:=ay hin6;have hvd:k1.getD i false = v:=aq hv;have hul:=xK k1 i;refine gs (mw (.tmp rfl) (.tmp rfl) T320 rfl T4 rfl oz oz rfl) ?_;refine gs (eK (.tmp rfl) rfl (by rw [Yf,abn,aav,hv]; rfl) T4 rfl rfl rfl) ?_;refine gC (fun z=>?_) (fun z=>?_)
  ·have hu := GF (k := k1) (i := i) (by rw [hvd]; exact dl z);refine gs (cK (.tmp rfl) rfl (by rw [aar]) (.tmp rfl) T46 rfl T3 rfl rfl (by dsimp only; simp only [aa4,abg]; omega) rfl rfl) ?_ (21,0);refine gW (Wk.of (sl:=[pP 2 (.ms 64 1 0 (io k1 (i + 1)).length),pP 3 (nS),pP 5 (.ms 901 1 0 k2.length),pP 52 (.ms 900 1 0 k1.length),pP 53 (i64 k1.length),pP 54 (i64 i)]) (hp:=[pP 900 (.row 1 (k1.map bl)),pP 901 (.row 1 (k2.map bl)),pP 64 (.row 1 ((io k1 (i + 1)).map i64))]) (.cons rfl (Sub.of (by rw [hu,abi]; rfl)) (.k (.k (.k (.k (.k .nil)))))) (.k (.k (.cons rfl (BlkSub.of (by rw [hu,abf]; rfl)) .nil)))) ?_ (21,0)
   refine gW (Wk.rk (k:=64) (d:=902) rfl rfl) ?_;refine ga aS ?_;exact aR J4 (i+1) hin6 (hw:=Wk.of (.cons rfl (Sub.of (by first |rw[hu];done |rfl)) (.k (.k (.k (.k (.k .nil)))))) (.cons rfl (BlkSub.of (by first |rw[hu];done |rfl)) (.k (.k .nil))))
  have hu:=Jg (k:=k1) (i:=i) (by rw[hvd];exact du z);refine ga aS ?_;exact aR J4 (i+1) hin6 (hw:=Wk.of (.cons rfl (Sub.of (by first |rw[hu];done |rfl)) (.k (.k (.k (.k (.k .nil)))))) (.cons rfl (BlkSub.of (by first |rw[hu];done |rfl)) (.k (.k .nil))))
 have hin6:=bn ha z;refine gW ((Wk.freeze (k:=902) rfl).trans<|Wk.of (sl:=[pP 2 (.lst 1 ((eY (bZ l)).map i64)),pP 3 (nS),pP 5 (.ms 901 1 0 k2.length)]) (hp:=[pP 901 (.row 1 (k2.map bl))]) (.cons rfl (Sub.of (by rw[b7 (by rw[aar]),hin6,e1];rfl)) (.k (.k .nil))) (.k .nil)) ?_;refine gW (Wk.virt 902 1 rfl) ?_;refine aW [2,67] [901] (fun(i:Nat)=>[pP 3 (.ms 902 1 0 (io k2 i).length),pP 66 (.ms 901 1 0 k2.length),pP 68 (i64 i)]) (fun i=>[pP 902 (.row 1 ((io k2 i).map i64))]) (fun i=>i<=k2.length) (fun i=>k2.length-i) 0 (aa0 _) ?_;rintro i hb K5 J5;refine gC (fun z=>?_) (fun z=>?_) (st2:=(28,0))
 ·have hin8:=a9 z;obtain ⟨v,hv⟩:=ay hin8;have hvd:k2.getD i false = v:=aq hv;have hul:=xK k2 i;refine gs (mw (.tmp rfl) (.tmp rfl) T320 rfl T4 rfl oz oz rfl) ?_;refine gs (eK (.tmp rfl) rfl (by rw [Yf,abn,aav,hv]; rfl) T4 rfl rfl rfl) ?_;refine gC (fun z=>?_) (fun z=>?_)
  ·have hu := GF (k := k2) (i := i) (by rw [hvd]; exact dl z);refine gs (cK (.tmp rfl) rfl (by rw [aar]) (.tmp rfl) T46 rfl T3 rfl rfl (by dsimp only; simp only [aa4,abg]; omega) rfl rfl) ?_ (27,0);refine gW (Wk.of (sl:=[pP 2 (.lst 1 ((eY (bZ l)).map i64)),pP 3 (.ms 78 1 0 (io k2 (i + 1)).length),pP 66 (.ms 901 1 0 k2.length),pP 67 (i64 k2.length),pP 68 (i64 i)]) (hp:=[pP 901 (.row 1 (k2.map bl)),pP 78 (.row 1 ((io k2 (i + 1)).map i64))]) (.k (.cons rfl (Sub.of (by rw [hu,abi]; rfl)) (.k (.k (.k .nil))))) (.k (.cons rfl (BlkSub.of (by rw [hu,abf]; rfl)) .nil))) ?_ (27,0)
   refine gW (Wk.rk (k:=78) (d:=902) rfl rfl) ?_;refine ga aS ?_;exact aR J5 (i+1) hin8 (hw:=Wk.of (.cons rfl (Sub.of (by first |rw[hu];done |rfl)) (.k (.k (.k (.k .nil))))) (.cons rfl (BlkSub.of (by first |rw[hu];done |rfl)) (.k .nil)))
  have hu:=Jg (k:=k2) (i:=i) (by rw[hvd];exact du z);refine ga aS ?_;exact aR J5 (i+1) hin8 (hw:=Wk.of (.cons rfl (Sub.of (by first |rw[hu];done |rfl)) (.k (.k (.k (.k .nil))))) (.cons rfl (BlkSub.of (by first |rw[hu];done |rfl)) (.k .nil)))
 have hin8:=bn hb z;refine gW ((Wk.freeze (k:=902) rfl).trans<|Wk.of (sl:=[pP 2 (.lst 1 ((eY (bZ l)).map i64)),pP 3 (.lst 1 ((eY (ee l)).map i64))]) (hp:=[]) (.k (.cons rfl (Sub.of (by rw[b7 (by rw[aar]),hin8,e2];rfl)) .nil)) .nil) ?_;refine bt ?_;rfl
theorem Ud(l:Li)(hl:l.ok)(hli:aN l=0):FP 59 [l.av] (.tup [.lst 4 ((splitG l).map Gr.av),i64 (splitE l)]):=by
 have h8:=(dg hli).2.2.2.1;have hj16:l.jo.length<=16:=by have:=(dg hli).2.1;unfold fg at this;split at this;cases this;omega
 have u1:=SL l;have u2:=NG l;refine aj func59 ?_;refine gc (TQ l hl hli) ?_;refine gl ?_;refine gl ?_;refine ga (dq oz) ?_;refine gC (fun z=>?_) (fun z=>?_)
 ·have h1:0 < (eY (bZ l)).length + (eY (ee l)).length:=jX z;have hE:splitE l = 7:=by unfold splitE; rw [ab5 oz]
  refine gR ?_;exact dS (by unfold splitG;rw[ab5 (by rw[hE];decide),hE];exact Sub.tup (.cons (.nil _ _ _) (.cons (.refl _) .nil)))
 have h1:(eY (bZ l)).length+(eY (ee l)).length<=0:=iz z;have hE:splitE l=0:=by unfold splitE;rw[ab6 oz]
 refine gc (DY l hl hli) ?_;refine bt ?_;unfold splitG;rw[ab6 hE,hE];rfl
end Go.Lw
