/- LimitsExists: for any linkage and any turn the law returns true and leaves its arguments as they were. No other condition. Part 4 of 8: what the later parts need -/
import Derived.Test.YtmencaoblogmeaaGreatYc
import Derived.Test.YtmencaoblogmeaaGreatRows
set_option linter.unusedVariables false
open List (nil_append drop_drop map_take all_append)
open List renaming mem_of_getElem? → ah3, mem_cons_of_mem → ait, mem_append → aia, map_cons → ajd, mem_cons → aiq, length_cons → aij, mem_cons_self → ai2, length_append → ai0, length_nil → aiv, getD_eq_getElem?_getD → ah4, getElem?_eq_none → aig, all_eq_true → aif, getElem?_take → ai1, getElem?_map → aib, getElem?_eq_getElem → ah9, drop_eq_nil_of_le → aiy, getElem?_replicate → aix, map_append → ai4, take_of_length_le → aio, drop_zero → ai9, take_length → ail, not_mem_nil → aim, length_map → ah6, length_replicate → aiu, map_replicate → ai7, map_set → aja, length_set → aje, append_nil → afj, drop_eq_getElem_cons → afk, getElem?_eq_some_iff → afl, take_append_of_le_length → afo, length_pos_iff → afq, mem_singleton → afr, mem_of_mem_drop → afu, replicate → afv, getLast?_eq_getElem? → afw, find?_range_eq_none → afx, mem_range → afy, mem_map → af0, find?_range_eq_some → af3, getElem?_set → af4, length_eq_zero_iff → af7, length_eq_one_iff → af8, getElem_mem → agb, contains_iff_mem → age, take_take → agh, mem_of_mem_take → agi
open Nat renaming le_refl → aie, lt_of_lt_of_le → aip, lt_or_ge → aid, le_trans → aiw, mul_le_mul_right → aik, mul_le_mul_left → aih, zero_le → aii, pow_add → ai8, lt_of_le_of_lt → aiz, div_div_eq_div_mul → ad7, div_eq_of_lt → ad9, le_of_lt → aea, add_mul_div_left → aeb, two_pow_pos → aed, mod_lt → aeg, div_add_mod → aeh, succ_mul → aei, gcd → aej, blt → aek, pow_mul → aep, add_comm → aeq, mul_assoc → aer, gcd_comm → aev, mul_lt_mul'' → aew, div_lt_iff_lt_mul → aex, mul_comm → aey, add_mul → aez, eq_zero_or_pos → ae1, add_mul_mod_self_left → ae2, add_zero → ae4, pow_succ → ae5, pow_le_pow_right → ae6, mod_eq_of_lt → ae7, zero_add → ae9, mul_add → afa, pow_pos → afb, min_eq_left → afc, div_le_self → afd
open Option renaming map_eq_some_iff → ah8, getD_some → ah0
open Bool renaming and_eq_true → ah7, or_eq_true → ajb, eq_false_iff → ahb, not_eq_false' → ahc, false_and → ahe, eq_iff_iff → ahf, true_and → ahg, not_eq_true' → ahh, false_eq_true → ahi
open Int renaming toNat_natCast → ai6, natAbs_natCast → ai3, mul_nonneg → agp, gcd → ags, sign_trichotomy → agu, sign_nonneg_iff → agv, mul_ne_zero → agw, sign_eq_neg_one_iff_neg → agx, sign_eq_zero_iff_zero → ag0
open Rat renaming mul_nonneg → ag1, num_divInt_den → ag2, divInt → ag4, pow_succ → ag5, mul_pos → ag7, le_refl → ag9
open Decidable renaming not_not → ah2
open Go renaming Value → ajq, TypeId → ajr, Program → ajs, World → ajt
open Go.Proofs.Tryz
namespace Go.Lw
open Go.Proofs
theorem Co(a b:List Nat)(ha:Ws a)(hb:Ws b)(la:a.length<aw)(lb:b.length<aw):FP 363 [ws a,ws b] (ws (ofNat (val a+val b))):=by
 unfold aw at la lb;obtain⟨n,hn⟩:∃n,n=max a.length b.length+1:=⟨_,rfl⟩
 refine ak func363 ?_;refine gl ?_;refine gl ?_;refine gs (ra (.tmp rfl) (.tmp rfl) rfl) ?_;refine ga (show _=(n:Int) by rw[cP oz];omega) ?_;refine gW (Wk.virt 900 1 rfl) ?_;refine jf [0,1,14] [] (fun(out:List Nat)(c i:Nat)=>[pP 5 (.ms 900 1 0 i),pP 6 (u64 c),pP 15 (i64 i)]) (fun out _ _=>[pP 900 (.row 1 (out.map u32))]) (fun out c i=>out.length=i/\i<=n/\Ws out/\c<=1/\val out+c*4294967296^i=val (a.take i)+val (b.take i)) (fun _ _ i=>n-i) ([]) 0 0 ⟨rfl,by omega,w8,by omega,by simp[val]⟩ ?_;rintro out c i ⟨ho,hi,hw,hc,hv⟩ K1 J1;refine gC (fun z=>?_) (fun z=>?_) (st2:=(9,0))
 ·have ae : i < n := by simpa [aa] using z
  have h1:=bu ha i;have h2:=bu hb i;obtain⟨s,hs⟩:∃s,s=c+(aj a i+aj b i):=⟨_,rfl⟩
  have h3:=B6 (u:=aj a i) (w:=aj b i) hv;rw[<- hs]at h3;refine gc (by apply mC <;> assumption) ?_;refine gc (by apply mC <;> assumption) ?_;refine ga (jE oz) ?_;refine ga ((jE oz).trans (show _=(s:Int) by congr 1;omega)) ?_;refine gv (dj _) ?_;refine gs (dX (.tmp rfl) rfl (by rw[ah6,ho]) (.tmp rfl) T42 rfl T87 rfl rfl (by simp;omega) rfl rfl) ?_;refine gs (fd (.tmp rfl) (.const _) oz (ib _ 32 oz) rfl) ?_ (8,0);refine gW (Wk.of (sl:=[pP 0 (ws a),pP 1 (ws b),pP 5 (.ms 31 1 0 (i+1)),pP 6 (u64 (s/2^32)),pP 14 (i64 n),pP 15 (i64 i)]) (hp:=[pP 31 (.row 1 ((out++[s%4294967296]).map u32))]) aU (.cons rfl (.of (by rw[ai4];rfl)) .nil)) ?_ (8,0);refine gW (Wk.rk (k:=31) (d:=900) rfl rfl) ?_;refine ga (cP oz) ?_;exact ip J1 (out++[s%4294967296]) (s/2^32) (i+1) ⟨by simp[ho],by omega,z7 hw (xf oz),by omega,by rw[HU ho,cU,cU,ae5];exact h3⟩
 have ae:i=n:=by have:n<=i:=(by simpa[aa]using z);omega
 refine gW ((Wk.freeze (k:=900) rfl).trans<|Wk.of (sl:=[pP 5 (ws out)]) (hp:=[]) (.cons rfl (.of (b8 (by simp[ho]))) .nil) .nil) ?_;refine gc (ut out hw (by unfold aw;omega)) ?_;refine ah ?_;subst ae;rw[Jb ha hb hn ho (by rw[eM (l:=out) oz];exact hv)]
theorem CT(a b:List Nat)(ha:Ws a)(hb:Ws b)(la:a.length<aw)(bB:val b<=val a):FP 364 [ws a,ws b] (ws (ofNat (val a-val b))):=by
 unfold aw at la;obtain⟨n,hn⟩:∃n,n=a.length:=⟨_,rfl⟩
 refine ak func364 ?_;refine gl ?_;refine gW (Wk.virt 900 1 rfl) ?_;refine jf [0,1] [] (fun(out:List Nat)(c i:Nat)=>[pP 5 (.ms 900 1 0 i),pP 6 (u64 c),pP 10 (i64 n),pP 11 (i64 i)]) (fun out _ _=>[pP 900 (.row 1 (out.map u32))]) (fun out c i=>out.length=i/\i<=n/\Ws out/\c<=1/\val out+val (b.take i)=val (a.take i)+c*4294967296^i) (fun _ _ i=>n-i) ([]) 0 0 ⟨rfl,by omega,w8,by omega,by simp[val]⟩ ?_ (h1:=(.k (.k (.cons rfl (Sub.int (by rw[hn])) (.k .nil)))))
 rintro out c i ⟨ho,hi,hw,hc,hv⟩ K1 J1;refine gC (fun z=>?_) (fun z=>?_) (st2:=(9,0))
 ·have ae : i < n := by simpa [aa] using z
  have h1:=bu ha i;have h2:=bu hb i;obtain⟨s,hs⟩:∃s,s=4294967296+aj a i-aj b i-c:=⟨_,rfl⟩
  have h3:=NS h1 h2 hc hv;rw[<- hs]at h3;refine gc (by apply mC <;> assumption) ?_;refine ga ((jE (x:=4294967296) oz)) ?_;refine gc (by apply mC <;> assumption) ?_;refine ga ((lB oz oz).trans (by rw[ajg oz])) ?_;refine ga ((lB oz oz).trans (show _=(s:Int) by rw[ajg oz];congr 1;omega)) ?_;refine gv (dj _) ?_;refine gs (dX (.tmp rfl) rfl (by rw[ah6,ho]) (.tmp rfl) T42 rfl T87 rfl rfl (by simp;omega) rfl rfl) ?_;refine gs (fd (.tmp rfl) (.const _) oz (ib _ 32 oz) rfl) ?_;refine ga ((lB (x:=1) oz oz).trans (by rw[ajg oz])) ?_ (8,0);refine gW (Wk.of (sl:=[pP 0 (ws a),pP 1 (ws b),pP 5 (.ms 28 1 0 (i+1)),pP 6 (u64 (1-s/2^32:Nat)),pP 10 (i64 n),pP 11 (i64 i)]) (hp:=[pP 28 (.row 1 ((out++[s%4294967296]).map u32))]) aU (.cons rfl (.of (by rw[ai4];rfl)) .nil)) ?_ (8,0);refine gW (Wk.rk (k:=28) (d:=900) rfl rfl) ?_;refine ga (cP oz) ?_;exact ip J1 (out++[s%4294967296]) (1-s/2^32) (i+1) ⟨by simp[ho],by omega,z7 hw (xf oz),by omega,by rw[HU ho,cU,cU,ae5];exact h3⟩
 have ae:i=n:=by have:n<=i:=(by simpa[aa]using z);omega
 refine gW ((Wk.freeze (k:=900) rfl).trans<|Wk.of (sl:=[pP 5 (ws out)]) (hp:=[]) (.cons rfl (.of (b8 (by simp[ho]))) .nil) .nil) ?_;refine gc (ut out hw (by unfold aw;omega)) ?_;refine ah ?_;subst ae;subst hn;rw[Om ha hw ho bB hv]
theorem SU(a b:List Nat)(ha:Ws a)(hb:Ws b)(la:a.length+b.length<=aw):FP 302 [ws a,ws b] (ws (ofNat (val a*val b))):=by
 have la':=la;unfold aw at la;refine ak func302 ?_;refine gl ?_;refine gl ?_;refine ga (fh (by unfold az;omega) (by unfold az;omega)) ?_;refine gs (f6 (.tmp rfl) T42 rfl T87 rfl rfl oz (by dsimp only;omega) rfl) ?_;refine gl ?_;refine fF [0,1,17] [] (fun(out:List Nat)(i:Nat)=>[pP 5 (.ms 15 1 0 (a.length+b.length)),pP 18 (i64 i)]) (fun out _=>[pP 15 (.row 1 (out.map u32))]) (fun out i=>out.length=a.length+b.length/\i<=a.length/\Ws out/\val (out.take (i+b.length))=val (a.take i)*val b) (fun _ i=>a.length-i) (afv (a.length+b.length) 0) 0 ⟨by simp,by omega,mT _,by simp[val,zy]⟩ ?_ (h2:=(.cons rfl (.of (by rw[ai7];rfl)) .nil))
 rintro out i ⟨ho,hi,hw,hv⟩ K1 J1;refine gC (fun z=>?_) (fun z=>?_) (st2:=(14,0))
 ·have ae : i < a.length := by simpa [aa] using z
  have h1:=bu ha i;refine gl ?_;refine jf [0,1,17,18,6,22] [] (fun(o:List Nat)(c k:Nat)=>[pP 5 (.ms 15 1 0 (a.length+b.length)),pP 7 (u64 c),pP 23 (i64 k)]) (fun o _ _=>[pP 15 (.row 1 (o.map u32))]) (fun o c k=>o.length=a.length+b.length/\k<=b.length/\Ws o/\c<4294967296/\val (o.take (i+b.length))+c*4294967296^(i+k)=val (out.take (i+b.length))+4294967296^i*(aj a i*val (b.take k))) (fun _ _ k=>b.length-k) out 0 0 ⟨ho,by omega,hw,by omega,by simp[val]⟩ ?_
  rintro o c k ⟨iA,hk,l6,hc,jn⟩ K2 J2;refine gC (fun z=>?_) (fun z=>?_)
  ·have aW : k < b.length := by simpa [aa] using z
   have h2:=bu hb k;have h3:=bu l6 (i+k);have h4:=yh h1 h2;obtain⟨s,hs⟩:∃s,s=c+(aj a i*aj b k+aj o (i+k)):=⟨_,rfl⟩
   have h5:=LB (x:=s%4294967296) (show i+k<o.length by omega) (show i+k<i+b.length by omega);have h6:=IN h5 hs jn;refine gi (gY (n:=i) oz (by first |omega |(simp;omega))) ?_;refine gv (u64_in oz) ?_;refine gi (gY (n:=k) oz (by first |omega |(simp;omega))) ?_;refine gv (u64_in oz) ?_;refine ga (zZ oz) ?_;refine ga (fh (by unfold az;omega) (by unfold az;omega)) ?_;refine gs (bt (n:=i+k) (.tmp rfl) (.tmp rfl) T42 rfl T87 rfl oz (by first |omega |(simp;omega)) rfl) ?_;refine gs (dq (.tmp rfl) rfl (bI (i:=i+k) oz) T87 rfl rfl rfl) ?_;refine gv (u64_in oz) ?_;refine ga (jE oz) ?_;refine ga ((jE oz).trans (show _=(s:Int) by congr 1;omega)) ?_;refine gD ?_;refine ga (fh (by unfold az;omega) (by unfold az;omega)) ?_;refine gv (dj _) ?_;refine gs (fd (.tmp rfl) (.const _) oz (ib _ 32 oz) rfl) ?_;refine gs (bt (n:=i+k) (.tmp rfl) (.tmp rfl) T42 rfl T87 rfl oz (by first |omega |(simp;omega)) rfl) ?_;refine gs (de (.tmp rfl) rfl (bI (i:=i+k) oz) rfl (.tmp rfl) rfl rfl T87 rfl rfl) ?_;refine ga (cP oz) ?_;exact ip J2 (o.set (i+k) (s%4294967296)) (s/2^32) (k+1) ⟨by simp[iA],by omega,gL l6 oz,by omega,by rw[show i+(k+1)=(i+k)+1 from rfl,show s/2^32=s/4294967296 from rfl,ae5,h6,cU];simp only[ai8];grind⟩ (hw:=Wk.of aU (.cons rfl (.of (by rw[aja];rfl)) .nil))
  have aW:k=b.length:=by have:b.length<=k:=(by simpa[aa]using z);omega
  subst aW;have h5:=mh (x:=c) (show i+b.length<o.length by omega);rw[ail]at jn;refine gl ?_;refine ga (fh (by unfold az;omega) (by unfold az;omega)) ?_;refine gv ((dj c).trans (by rw[ae7 hc])) ?_;refine gs (bt (n:=i+b.length) (.tmp rfl) (.tmp rfl) T42 rfl T87 rfl oz (by first |omega |(simp;omega)) rfl) ?_;refine gs (de (.tmp rfl) rfl (bI (i:=i+b.length) oz) rfl (.tmp rfl) rfl rfl T87 rfl rfl) ?_;refine ga (cP oz) ?_;exact fC J1 (o.set (i+b.length) c) (i+1) ⟨by simp[iA],by omega,gL l6 hc,by rw[show i+1+b.length=i+b.length+1 by omega,h5,cU];simp only[ai8]at *;grind⟩ (hw:=Wk.of aU (.cons rfl (.of (by rw[aja];rfl)) .nil))
 have ae:i=a.length:=by have:a.length<=i:=(by simpa[aa]using z);omega
 subst ae;rw[ail,eM oz]at hv;refine gW ((Wk.freeze (k:=15) rfl).trans<|Wk.of (sl:=[pP 5 (ws out)]) (hp:=[]) (.cons rfl (.of (b8 (by simp[ho]))) .nil) .nil) ?_;refine gc (ut out hw oz) ?_;refine ah ?_;rw[hv]
theorem E4(a:Wh)(ha:a.ok):FP 208 [a.av] (i64 a.z.sign):=by
 obtain⟨e1,e2,e3⟩:=IT ha;refine ak func208 ?_;refine gc (lL a ha) ?_;refine gl ?_;refine gC (fun z=>?_) (fun z=>?_)
 ·have h0 : a.m.length = 0 := by simpa [aa] using z
  refine ah ?_;rw[e1 h0];rfl
 have h0:a.m.length≠0:=by simpa[aa]using z
 have ji:a.valid=true:=by
  unfold Wh.m at h0;split at h0
  ·assumption
  ·exact ajm rfl h0
 refine gc (jD a ha) ?_;refine gC (fun z=>?_) (fun z=>?_)
 ·have h1 : a.neg = true := by unfold Wh.n at z; rw [ji] at z; simpa using z
  refine ah ?_;rw[e2 h0 h1];rfl
 have h1:a.neg=false:=by unfold Wh.n at z;rw[ji]at z;simpa using z
 refine ah ?_;rw[e3 h0 h1];rfl
theorem OD(a:Wh)(ha:a.ok)(la:a.mag.length<aw):FP 280 [a.av] (zA (-a.z)):=by
 refine ak func280 ?_;refine gc (jD a ha) ?_;refine gc (lL a ha) ?_;refine gc (kz _ a.m (Wh.ws ha) (aea (Wh.small ha la))) ?_;refine gD ?_;refine ah ?_;rw[Wh.z_eq,<- OP];rfl
theorem aar(a b:Wh)(ha:a.ok)(hb:b.ok)(la:a.mag.length+b.mag.length<=aw):FP 201 [a.av,b.av] (zA (a.z*b.z)):=by
 have h1:=Wh.m_le (w:=a);have h2:=Wh.m_le (w:=b);have h3:(ofNat (val a.m*val b.m)).length<=a.m.length+b.m.length:=fi (by rw[ai8];exact aew (bG _ (Wh.ws ha)) (bG _ (Wh.ws hb)));refine ak func201 ?_;refine gc (jD a ha) ?_;refine gc (jD b hb) ?_;refine gc (lL a ha) ?_;refine gc (lL b hb) ?_;refine gc (SU a.m b.m (Wh.ws ha) (Wh.ws hb) oz) ?_;refine gc (kz _ _ (cT _) oz) ?_;refine gD ?_;refine ah ?_;rw[bN,Jl];rfl
theorem Ix(a b:Wh)(ha:a.ok)(hb:b.ok)(la:a.mag.length<aw)(lb:b.mag.length<aw):FP 294 [a.av,b.av] (zA (a.z+b.z)):=by
 have h1:=Wh.m_le (w:=a);have h2:=Wh.m_le (w:=b);have p8:val a.m<4294967296^(max a.m.length b.m.length):=aip (bG _ (Wh.ws ha)) (ae6 oz oz);have fJ:val b.m<4294967296^(max a.m.length b.m.length):=aip (bG _ (Wh.ws hb)) (ae6 oz oz);have h3:(ofNat (val a.m+val b.m)).length<=max a.m.length b.m.length+1:=fi (by rw[ae5];omega);have h4:(ofNat (val a.m-val b.m)).length<=max a.m.length b.m.length:=fi oz;have h5:(ofNat (val b.m-val a.m)).length<=max a.m.length b.m.length:=fi oz;refine ak func294 ?_;refine gc (lL a ha) ?_;refine gc (lL b hb) ?_;refine gD ?_;refine gc (jD a ha) ?_;refine gc (jD b hb) ?_;refine gD ?_;refine gC (fun z=>?_) (fun z=>?_)
 ·have h0 : a.n = b.n := by simpa using z
  refine gc (jD a ha) ?_;refine gc (Co a.m b.m (Wh.ws ha) (Wh.ws hb) oz oz) ?_;refine gc (kz _ _ (cT _) oz) ?_;refine ah ?_;rw[bN,IP h0];rfl
 have h0:a.n≠b.n:=by simpa using z
 refine gc (CO a.m b.m (Wh.ws ha) (Wh.ws hb)) ?_;refine gC (fun t25=>?_) (fun t25=>?_)
 ·have h6:val b.m<=val a.m:=by
   rcases aid (val a.m) (val b.m)with h |h
   ·rw[ajg h]at t25;cases t25
   ·exact h
  refine gc (jD a ha) ?_;refine gc (CT a.m b.m (Wh.ws ha) (Wh.ws hb) oz oz) ?_;refine gc (kz _ _ (cT _) oz) ?_;refine ah ?_;rw[bN,Ed h0 h6];rfl
 have h6:val a.m<val b.m:=by
  rcases aid (val a.m) (val b.m)with h |h
  ·exact h
  ·rw[ajf oz]at t25;split at t25 <;> cases t25
 refine gc (jD b hb) ?_;refine gc (CT b.m a.m (Wh.ws hb) (Wh.ws ha) oz oz) ?_;refine gc (kz _ _ (cT _) oz) ?_;refine ah ?_;rw[bN,Jq h0 oz];rfl
theorem Mo(n:Int)(h:-9223372036854775808<=n/\n<=9223372036854775807):FP 174 [i64 n] (zA n):=by
 obtain⟨N,hN⟩:∃N,N=n.natAbs:=⟨_,rfl⟩
 have ot:N<18446744073709551616:=by omega
 refine ak func174 ?_;refine gv (show IntKind.u64.wrap n=((n%18446744073709551616:Int)) by simp only[IntKind.wrap,IntKind.signed,IntKind.bits,ahe,if_false,ahi];omega) ?_;refine gC (fun z=>?_) (fun z=>?_) (st2:=(77777,0))
 ·have hn : n < 0 := by simpa [aa] using z
  refine gs (zB (.tmp rfl) rfl) ?_ (4,0);refine gW (Wk.of (sl:=[pP 0 (i64 n),pP 2 (.ptr 2 0),pP 3 (u64 N)]) (hp:=[pP 2 (.box [.v (.bool false),nS])]) (.k (.k (.cons rfl (Sub.int (by simp only[IntKind.wrap,IntKind.signed,IntKind.bits,ahe,if_false,ahi];omega)) .nil))) (.k .nil)) ?_;refine gv (dj _) ?_;refine gs (fd (.tmp rfl) (.const _) oz (ib _ 32 oz) rfl) ?_;refine gv ((dj _).trans (by rw[ae7 (show N/2^32<4294967296 by omega)])) ?_;refine gc (kz (aa .lss n 0) [N%4294967296,N/2^32] (zl ot) (by unfold aw;simp)) ?_;refine ah ?_;rw[zd ot,show sgn (aa .lss n 0) N=n by simp only[sgn,aa,ajh];split <;> omega];rfl
 have hn:¬n<0:=by simpa[aa]using z
 refine gW (Wk.of (sl:=[pP 0 (i64 n),pP 2 (.ptr 2 0),pP 3 (u64 N)]) (hp:=[pP 2 (.box [.v (.bool false),nS])]) (.k (.k (.cons rfl (Sub.int oz) .nil))) (.k .nil)) ?_;refine gv (dj _) ?_;refine gs (fd (.tmp rfl) (.const _) oz (ib _ 32 oz) rfl) ?_;refine gv ((dj _).trans (by rw[ae7 (show N/2^32<4294967296 by omega)])) ?_;refine gc (kz (aa .lss n 0) [N%4294967296,N/2^32] (zl ot) (by unfold aw;simp)) ?_;refine ah ?_;rw[zd ot,show sgn (aa .lss n 0) N=n by simp only[sgn,aa,ajh];split <;> omega];rfl
theorem abg(a b:Wh)(ha:a.ok)(hb:b.ok)(la:a.mag.length<aw)(lb:b.mag.length<aw):FP 304 [a.av,b.av] (zA (a.z-b.z)):=by
 have h1:=(Wh.lz hb).neg;have h2:=JW h1;refine ak func304 ?_;refine gc (OD b hb lb) ?_;refine gc (Ix a (ofInt (-b.z)) ha (N2 h1 hb.2) la oz) ?_;refine gD ?_;refine ah ?_;rw[dG,<- Int.sub_eq_add_neg];rfl
theorem Su(a b:Wh)(ha:a.ok)(hb:b.ok)(la:a.mag.length<aw)(lb:b.mag.length<aw):FP 206 [a.av,b.av] (i64 (gX a.z b.z)):=by
 have h1:=(Wh.lz ha).sub (Wh.lz hb);have h2:=JW h1;refine ak func206 ?_;refine gc (abg a b ha hb la lb) ?_;refine gc (E4 (ofInt (a.z-b.z)) (N2 h1 (by unfold az;unfold aw at la lb;omega))) ?_;refine ah ?_;rw[dG,YC]
theorem tD{A:List Nat}{n:Nat}:AV.lst 1 (((A.map u32).drop 0).take n)=ws (A.take n):=by
 rw[ai9,<- map_take];rfl
theorem It(A:List Nat):(Blk.row 1 (A.map u32)).sc=true:=by
 simp only[Blk.sc,List.all_map];rw[aif];intro x _;rfl
theorem rD{A:List Nat}{n i:Nat}(h:i<n):aj (A.take n) i=aj A i:=by
 simp[aj,h]
theorem IF{A:List Nat}{n i:Nat}(h:n<=i):aj (A.take n) i=0:=sR (by simp;omega)
theorem RD{x:Nat}(h:0<x):aM x=aM (x/2)+1:=by
 rcases aid x 2 with h1 |h1
 ·have : x = 1 := by omega
  subst this;decide
 ·have:=vt (x:=x) (k:=1) oz;rw[show x/2^1=x/2 from rfl]at this;omega
theorem UB{a:List Nat}{n:Nat}(ha:Ws a)(na:Nz a)(hl:a.length=n+1):aM (val a)=32*n+aM (aj a n):=by
 have ht:aj a n≠0:=by
  refine na _ ?_;rw[afw,hl];exact jX oz
 have hv:val a=val (a.take n)+4294967296^n*aj a n:=by rw[<- cU,eM oz]
 have hlt:=rC ha n;have hp:(4294967296:Nat)^n=2^(32*n):=by rw[aep]
 rw[hp]at hv hlt
 have h1:val a/2^(32*n)=aj a n:=by
  rw[hv,aeb _ _ (afb oz),ad9 hlt,ae9]
 have h2:2^(32*n)<=val a:=by
  have:=aih (2^(32*n)) (show 1<=aj a n by omega);omega
 rw[vt h2,h1]
theorem KR{o A:List Nat}{n v:Nat}(ho:Ws o)(hl:o.length=A.length)(hn:n<=A.length)(hd:o.drop n=A.drop n)(hv:val (o.take n)=v):o=wr A 0 (aT n v):=by
 have h1:a6 o 0 n=aT n v:=yU (oV ho _ _) (qM oz) (by rw[a6,ai9,hv]);rw[<- h1];exact BJ (by simp) (by rw[ae9];exact hd) oz
theorem DS(k:Nat)(A:List Nat)(n i:Nat)(hA:Ws A)(hn:n<=A.length) :
  Con prog 401 [.ms k 1 0 n,i64 i] [(k,some (.row 1 (A.map u32)))] (u64 (aj (A.take n) i)) [(k,some (.row 1 (A.map u32)))]:=by
 refine Con.borrow (args:=[ws (A.take n),i64 i]) k 1 (A.map u32) rfl rfl rfl ?_ rfl (fun k' x h=>by cases h) (mC (A.take n) i (gH hA n));intro j x' hj
 match j,hj with
 |0,hj=>cases hj;exact .inr ⟨0,n,rfl,by simpa using hn,by rw[tD];rfl⟩
 |1,hj=>cases hj;exact .inl rfl
theorem Tx(k1 k2:Nat)(hk:k1≠k2)(A D:List Nat)(n p:Nat)(hA:Ws A)(hD:Ws D)(hn:n<=A.length)(hp:p<=D.length) :
  Con prog 370 [.ms k1 1 0 n,.ms k2 1 0 p] [(k1,some (.row 1 (A.map u32))),(k2,some (.row 1 (D.map u32)))]
   (i64 (if val (A.take n)<val (D.take p)then -1 else if val (D.take p)<val (A.take n)then 1 else 0)) [(k1,some (.row 1 (A.map u32))),(k2,some (.row 1 (D.map u32)))]:=by
 have h1:Con prog 370 [ws (A.take n),.ms k2 1 0 p] [(k2,some (.row 1 (D.map u32)))]
   (i64 (if val (A.take n)<val (D.take p)then -1 else if val (D.take p)<val (A.take n)then 1 else 0)) [(k2,some (.row 1 (D.map u32)))]:=by
  refine Con.borrow (args:=[ws (A.take n),ws (D.take p)]) k2 1 (D.map u32) rfl rfl rfl ?_ rfl (fun k' x h=>by cases h) (CO (A.take n) (D.take p) (gH hA n) (gH hD p));intro j x' hj
  match j,hj with
  |0,hj=>cases hj;exact .inl rfl
  |1,hj=>cases hj;exact .inr ⟨0,p,rfl,by simpa using hp,by rw[tD];rfl⟩
 refine Con.borrow (args:=[ws (A.take n),.ms k2 1 0 p]) k1 1 (A.map u32) ?_ ?_ rfl ?_ rfl ?_ h1
 ·rw[aA,ajf hk];rfl
 ·rw[aA,ajf hk];rfl
 ·intro j x' hj
  match j,hj with
  |0,hj=>cases hj;exact .inr ⟨0,n,rfl,by simpa using hn,by rw[tD];rfl⟩
  |1,hj=>cases hj;exact .inl rfl
 ·intro k' x h;obtain⟨_,h⟩:=ic h;cases h;exact It D
theorem Qc(k:Nat)(A b:List Nat)(n:Nat)(hA:Ws A)(hb:Ws b)(hn:n<=A.length) :
  Con prog 370 [.ms k 1 0 n,ws b] [(k,some (.row 1 (A.map u32)))]
   (i64 (if val (A.take n)<val b then -1 else if val b<val (A.take n)then 1 else 0)) [(k,some (.row 1 (A.map u32)))]:=by
 refine Con.borrow (args:=[ws (A.take n),ws b]) k 1 (A.map u32) rfl rfl rfl ?_ rfl (fun k' x h=>by cases h) (CO (A.take n) b (gH hA n) hb);intro j x' hj
 match j,hj with
 |0,hj=>cases hj;exact .inr ⟨0,n,rfl,by simpa using hn,by rw[tD];rfl⟩
 |1,hj=>cases hj;exact .inl rfl
theorem U4(a:List Nat)(ha:Ws a)(na:Nz a)(la:a.length<=aw):FP 400 [ws a] (i64 (aM (val a))):=by
 unfold aw at la;refine ak func400 ?_;refine gl ?_;refine gC (fun z=>?_) (fun z=>?_)
 ·have h0 : a=[] := af7.1 (by simpa[aa]using z);refine ah ?_;subst h0;rfl
 have h0:a.length≠0:=by simpa[aa]using z
 obtain⟨n,hn⟩:∃n,a.length=n+1:=⟨a.length-1,by omega⟩
 have hB:=UB ha na hn;have ht:=bu ha n;refine gl ?_;refine ga (show _=(n:Int) by rw[dg oz];omega) ?_;refine ga (show _=((32*n:Nat):Int) by rw[Hc oz];omega) ?_;refine gl ?_;refine ga (show _=(n:Int) by rw[dg oz];omega) ?_;refine gi (gY (n:=n) oz (by first |omega |(simp;omega))) ?_;refine fF [] [] (fun(x c:Nat)=>[pP 3 (i64 c),pP 4 (u32 x)]) (fun _ _=>[]) (fun x c=>x<4294967296/\c<=281474976710656/\c+aM x=aM (val a)) (fun x _=>x) (aj a n) (32*n) ⟨ht,by omega,hB.symm⟩ ?_;rintro x c ⟨hx,hc,hv⟩ K1 J1;refine gC (fun z=>?_) (fun z=>?_)
 ·have lg : 0 < x := by simpa [aa] using z
  have h2:=RD lg
  have h3:aM (val a)<=32*n+32:=by
   have:=(DX (x:=aj a n)  (by
    refine na _ ?_;rw[afw,hn];exact jX oz) ht).1
   omega
  refine ga (show _=((c+1:Nat):Int) by rw[cP oz];omega) ?_;refine gs (fd (.tmp rfl) (.const _) oz (tY x 1 oz) rfl) ?_;exact fC J1 (x/2^1) (c+1) ⟨by omega,by omega,by rw[show x/2^1=x/2 from rfl];omega⟩
 have lg:x=0:=by have:x<=0:=(by simpa[aa]using z);omega
 subst lg;refine ah ?_;rw[<- hv];rfl
theorem CF(A:List Nat)(n:Nat)(hA:Ws A)(hn:n<=A.length)(la:A.length<=aw) :
  Con prog 375 [.ms 1000 1 0 n] [pP 1000 (.row 1 (A.map u32))] (.ms 1000 1 0 (ofNat (val (A.take n))).length) [pP 1000 (.row 1 (A.map u32))]:=by
 unfold aw at la;refine gF func375 (fun k z h=>eU h) ?_;refine aK [] [1000] (fun(j:Nat)=>[pP 0 (.ms 1000 1 0 j)]) (fun _=>[]) (fun j=>j<=n/\val (A.take j)=val (A.take n)) (fun j=>j) n ⟨aie _,rfl⟩ ?_;rintro j ⟨hj,hv⟩ K1 J1;refine kG (fun h=>(gx (by simp[aa]at h;omega) (by unfold az;omega))) ?_;refine gs (fX rfl rfl rfl (fun h=>bt (n:=j-1) (.opt rfl (o1 h)) (.opt rfl (o1 h)) T42 rfl T87 rfl oz (by simp[aa]at h;omega) rfl)) ?_;refine gs (fX rfl rfl rfl (fun h=>dq (.opt rfl (o1 h)) rfl (bI (i:=j-1) (by simp[aa]at h;omega)) T87 rfl rfl rfl)) ?_;refine gC (fun t14=>?_) (fun t14=>?_)
 ·have t14 : 0 < j /\ aj A (j - 1) = 0 := by simpa [aa] using t14
  refine ga (gx oz (by unfold az;omega)) ?_;refine gs (qJ (.tmp rfl) (.none _) (.some _ (.tmp rfl) oz) T42 rfl T87 rfl oz oz rfl) ?_;exact aE J1 (j-1) ⟨by omega,by have h:=@cU A (j-1);rw[show j-1+1=j by omega,t14.2]at h;simp at h;omega⟩ (hw:=Wk.of (.cons rfl (.of (by congr 1)) .nil) (.k .nil))
 have t14:0<j->aj A (j-1)≠0:=by simpa[aa]using t14
 have iS := HT (m := A.take n) (n := j) (gH hA n) (by simp; omega) (by rw [agh, afc hj]; exact hv) (by
  rcases ae1 j with h |h
  ·exact .inl h
  ·exact .inr (by rw[rD oz];exact t14 h))
 subst iS;refine gR ?_;exact aJ.own2 rfl rfl rfl
theorem yJ(A:List Nat)(n:Nat)(hA:Ws A)(hn:n<=A.length)(la:A.length<=aw) :
  Con prog 373 [.ms 1000 1 0 n] [pP 1000 (.row 1 (A.map u32))] (.ms 1000 1 0 (ofNat (val (A.take n)/2)).length) [pP 1000 (.row 1 ((wr A 0 (aT n (val (A.take n)/2))).map u32))]:=by
 have la':=la;unfold aw at la;refine gF func373 (fun k z h=>eU h) ?_;refine fF [5] [] (fun(o:List Nat)(i:Nat)=>[pP 0 (.ms 1000 1 0 n),pP 6 (i64 i)]) (fun o _=>[pP 1000 (.row 1 (o.map u32))]) (fun o i=>o.length=A.length/\i<=n/\Ws o/\o.drop i=A.drop i/\val (o.take i)=val (A.take n)/2^1%4294967296^i) (fun _ i=>n-i) A 0 ⟨rfl,by omega,hA,rfl,by simp[val,Nat.mod_one]⟩ ?_;rintro o i ⟨ho,hi,hw,hd,hv⟩ K1 J1;refine gC (fun u=>?_) (fun u=>?_)
 ·have ae : i < n := by simpa [aa] using u
  have e1:aj (o.take n) i=aj (A.take n) i:=by rw[rD ae,rD ae];exact sT hd
  have l0:o.drop (i+1)=A.drop (i+1):=by
   have h1:(o.drop i).drop 1=(A.drop i).drop 1:=by rw[hd]
   rwa [drop_drop,drop_drop]at h1
  have e2:aj (o.take n) (i+1)=aj (A.take n) (i+1):=by
   rcases aid (i+1) n with h |h
   ·rw[rD h,rD h];exact sT l0
   ·rw[IF h,IF h]
  have b1:=bu (gH hA n) i;have b2:=bu (gH hA n) (i+1);have h3:=JE (n:=1) (gH hA n) (show i<(A.take n).length by simp;omega) (show i<o.length by omega) oz hv;refine gt (br (DS 1000 o n i hw oz) (cS rfl rfl) bT rfl rfl) ?_;refine gs (fd (.tmp rfl) (.const _) oz ((ib _ 1 oz).trans (by rw[e1])) rfl) ?_;refine ga (fh (y:=1) (by unfold az;omega) (by unfold az;omega)) ?_;refine gt (br (DS 1000 o n (i+1) hw oz) (cS rfl rfl) bT rfl rfl) ?_;refine gs (mD (.tmp rfl) (.const _) oz ((sK (n:=31) oz oz).trans (by rw[e2])) rfl) ?_;refine gs (kj (.tmp rfl) (.tmp rfl) rfl ((vV oz oz).trans (by rw[BT oz])) rfl) ?_;refine gv ((dj _).trans (show _=(((aj (A.take n) i+aj (A.take n) (i+1)*2^32)/2^1%4294967296:Nat):Int) by congr 1;omega)) ?_;refine gs (bt (n:=i) (.tmp rfl) (.tmp rfl) T42 rfl T87 rfl oz (by first |omega |(simp;omega)) rfl) ?_;refine gs (de (.tmp rfl) rfl (bI (i:=i) oz) rfl (.tmp rfl) rfl rfl T87 rfl rfl) ?_;refine ga (cP oz) ?_;exact fC J1 (o.set i ((aj (A.take n) i+aj (A.take n) (i+1)*2^32)/2^1%4294967296)) (i+1) ⟨by simp[ho],by omega,gL hw oz,wR hd,h3⟩ (hw:=Wk.of aU (.cons rfl (.of (by rw[aja];rfl)) .nil))
 have ae:i=n:=by have:n<=i:=(by simpa[aa]using u);omega
 subst ae;have hlt:=rC hA i;have hv':val (o.take i)=val (A.take i)/2:=by rw[hv,ae7 oz]
 have h9:=KR hw ho hn hd hv';refine gt (br (CF o i hw oz oz) (iL rfl) bT rfl rfl) ?_;refine gR ?_;exact aJ.own2 rfl (by rw[<- h9]) (by rw[hv'];rfl)
theorem Hl(A b:List Nat)(n:Nat)(hA:Ws A)(hb:Ws b)(hn:n<=A.length)(la:A.length<=aw)(bB:val b<=val (A.take n)) :
  Con prog 374 [.ms 1000 1 0 n,ws b] [pP 1000 (.row 1 (A.map u32))] (.tup []) [pP 1000 (.row 1 ((wr A 0 (aT n (val (A.take n)-val b))).map u32))]:=by
 unfold aw at la;refine gF func374 (fun k z h=>eU h) ?_;refine jf [1,8] [] (fun(o:List Nat)(c i:Nat)=>[pP 0 (.ms 1000 1 0 n),pP 4 (u64 c),pP 9 (i64 i)]) (fun o _ _=>[pP 1000 (.row 1 (o.map u32))]) (fun o c i=>o.length=A.length/\i<=n/\Ws o/\c<=1/\o.drop i=A.drop i/\val (o.take i)+val (b.take i)=val (A.take i)+c*4294967296^i) (fun _ _ i=>n-i) A 0 0 ⟨rfl,by omega,hA,by omega,rfl,by simp[val]⟩ ?_;rintro o c i ⟨ho,hi,hw,hc,hd,hv⟩ K1 J1;refine gC (fun y=>?_) (fun y=>?_)
 ·have ae : i < n := by simpa [aa] using y
  have e1:aj (o.take n) i=aj A i:=by rw[rD ae];exact sT hd
  have h1:=bu hA i;have h2:=bu hb i;obtain⟨s,hs⟩:∃s,s=4294967296+aj A i-aj b i-c:=⟨_,rfl⟩
  have h3:=NS h1 h2 hc hv;rw[<- hs]at h3;refine gt (br (DS 1000 o n i hw oz) (cS rfl rfl) bT rfl rfl) ?_;refine ga ((jE (x:=4294967296) oz).trans (by rw[e1])) ?_;refine gc (mC b i hb) ?_;refine ga ((lB oz oz).trans (by rw[ajg oz])) ?_;refine ga ((lB oz oz).trans (show _=(s:Int) by rw[ajg oz];congr 1;omega)) ?_;refine gv (dj _) ?_;refine gs (fd (.tmp rfl) (.const _) oz (ib _ 32 oz) rfl) ?_;refine ga ((lB (x:=1) oz oz).trans (by rw[ajg oz])) ?_;refine gs (bt (n:=i) (.tmp rfl) (.tmp rfl) T42 rfl T87 rfl oz (by first |omega |(simp;omega)) rfl) ?_;refine gs (de (.tmp rfl) rfl (bI (i:=i) oz) rfl (.tmp rfl) rfl rfl T87 rfl rfl) ?_;refine ga (cP oz) ?_;exact ip J1 (o.set i (s%4294967296)) (1-s/2^32) (i+1) ⟨by simp[ho],by omega,gL hw oz,by omega,wR hd,by rw[mh oz,cU,cU,ae5];exact h3⟩ (hw:=Wk.of aU (.cons rfl (.of (by rw[aja];rfl)) .nil))
 have ae:i=n:=by have:n<=i:=(by simpa[aa]using y);omega
 subst ae;have hl:(A.take i).length=i:=by simp;omega
 have h4:=Om (a:=A.take i) (b:=b) (out:=o.take i) (gH hA i) (gH hw i) (by simp;omega) bB (by rw[hl,aio (show(A.take i).length<=i by omega)];exact hv);have h9:=KR hw ho hn hd h4;refine gR ?_;exact aJ.own2 rfl (by rw[<- h9]) rfl
theorem Oj{x:Nat}(h:x<=9223372036854775807):IntKind.i64.wrap ((x:Int).tdiv 32)=((x/32:Nat):Int):=by
 rw[show(32:Int)=((32:Nat):Int)from rfl,<- Int.ofNat_tdiv];exact i64_in oz
theorem MD{x:Nat}:(x:Int).tmod 32=((x%32:Nat):Int):=(Int.ofNat_tmod _ _).symm
theorem wY(i:Nat):(4294967296:Nat)^i=2^(32*i):=by rw[aep]
theorem Xd{a:List Nat}(ha:Ws a){k:Nat}(hk:k/32<a.length):aj a (k/32)/2^(k%32)%2=val a/2^k%2:=by
 have h1:val a/2^k=(val a/4294967296^(k/32))/2^(k%32):=by
  rw[wY,ad7,<- ai8];congr 2;omega
 rw[h1,yW ha _ oz,vP];generalize val (a.drop (k/32+1))=R
 have h2:4294967296*R=2^(k%32)*(2*(2^(31-k%32)*R)):=by
  have:(4294967296:Nat)=2^(k%32)*(2*2^(31-k%32)):=by
   rw[<- Nat.pow_succ',<- ai8,show k%32+(31-k%32).succ=32 by omega]
  conv=>lhs;rw[this]
  grind
 rw[h2,aeb _ _ (afb oz),ae2]
theorem ab8{w c:Nat}(hc:c<=1):w*2^1%4294967296 ||| c=w*2^1%4294967296+c:=by
 have h:w*2^1%4294967296=(w%2147483648)*2^1:=by omega
 rw[h];exact xe oz
theorem ab1{o c P rt w bit:Nat}(hw:w<4294967296)(h:o+c*P=2*rt+bit) :
  (o+P*(w*2^1%4294967296+c))+(w/2^31)*(P*4294967296)=2*(rt+P*w)+bit:=by
 have h0:w*2^1%4294967296+(w/2^31)*4294967296=2*w:=by omega
 generalize w*2^1%4294967296=r at *;generalize w/2^31=q at *;grind
theorem ZS{q:List Nat}(hq:Ws q){k Y:Nat}(hk:k/32<q.length)(h:val q=2^(k+1)*Y) :
  aj q (k/32) ||| 2^(k%32)=aj q (k/32)+2^(k%32)/\aj q (k/32)+2^(k%32)<4294967296:=by
 have h1:=yW hq (k/32) oz;rw[vP,h,wY,show k+1=32*(k/32)+(k%32+1) by omega,ai8,aer,Nat.mul_div_cancel_left _ (afb oz)]at h1;have hw:=bu hq (k/32);generalize aj q (k/32)=w at *;generalize val (q.drop (k/32+1))=R at *
 have hB:(4294967296:Nat)=2^(k%32+1)*2^(31-k%32):=by
  rw[<- ai8,show k%32+1+(31-k%32)=32 by omega]
 have h2:w%2^(k%32+1)=0:=by
  have h3:(w+4294967296*R)%2^(k%32+1)=0:=by rw[<- h1];exact Nat.mul_mod_right _ _
  rw[hB,aer,ae2]at h3;exact h3
 have h4:w=2^(k%32+1)*(w/2^(k%32+1)):=by
  have:=aeh w (2^(k%32+1));omega
 have h5:2^(k%32)<2^(k%32+1):=by rw[ae5];have:=afb (n:=k%32) (show 0<2 by omega);omega
 constructor
 ·rw[h4];exact(Nat.two_pow_add_eq_or_of_lt h5 _).symm
 ·have h6:w/2^(k%32+1)<2^(31-k%32):=by
   rw[aex (afb oz),aey,<- hB];exact hw
  have h7:=aih (2^(k%32+1)) (show w/2^(k%32+1)+1<=2^(31-k%32)from h6);rw[<- hB,afa,<- h4]at h7;omega
theorem Th{q:List Nat}(hq:Ws q){k Y:Nat}(hk:k/32<q.length)(h:val q=2^(k+1)*Y) :
  val (q.set (k/32) (aj q (k/32)+2^(k%32)))=2^k*(2*Y+1):=by
 have h1:=Fj (x:=aj q (k/32)+2^(k%32)) hk;rw[afa]at h1;have h2:4294967296^(k/32)*2^(k%32)=2^k:=by rw[wY,<- ai8];congr 1;omega
 rw[h2,h,ae5]at h1;grind
theorem aca{V Bv k:Nat}(hB:0<Bv) :
  (Bv<=2*(V/2^(k+1)%Bv)+V/2^k%2->V/2^k%Bv=2*(V/2^(k+1)%Bv)+V/2^k%2-Bv/\V/2^k/Bv=2*(V/2^(k+1)/Bv)+1) /\
  (2*(V/2^(k+1)%Bv)+V/2^k%2<Bv->V/2^k%Bv=2*(V/2^(k+1)%Bv)+V/2^k%2/\V/2^k/Bv=2*(V/2^(k+1)/Bv)):=by
 have h1:V/2^(k+1)=V/2^k/2:=by rw[ae5,ad7]
 rw[h1];generalize V/2^k=X;have h2:=aeh X 2;have h3:=aeh (X/2) Bv;have h4:=aeg (X/2) hB;have h5:=aeg X (show 0<2 by omega);generalize X/2%Bv=r at *;generalize X/2/Bv=q at *;generalize X%2=b at *;generalize X/2=Y at *;constructor
 ·intro h;have:=yO (a:=X) (w:=Bv) (q:=2*q+1) (r:=2*r+b-Bv) (by rw[afa,Nat.mul_one,show Bv*(2*q)=2*(Bv*q) by grind];omega) oz;exact⟨this.2,this.1⟩
 ·intro h;have:=yO (a:=X) (w:=Bv) (q:=2*q) (r:=2*r+b) (by rw[show Bv*(2*q)=2*(Bv*q) by grind];omega) oz;exact⟨this.2,this.1⟩
theorem Rb{A l:List Nat}(h:l.length=A.length):wr A 0 l=l:=by
 unfold wr;rw[aiy oz];simp
theorem Jw{V:Nat}:V/2^aM V=0:=ad9 zU
theorem L0{a:List Nat}(ha:Ws a){k:Nat}(h:k<aM (val a)):k/32<a.length:=by
 rcases aid (k/32) a.length with h1 |h1
 ·exact h1
 ·exfalso;have h2:=bG a ha;rw [wY] at h2;have h3:val a ≠ 0:=by intro h0; rw [h0] at h; simp [aM] at h
  have h4:=AC h3;have h5:2^(32*a.length)<=2^(aM (val a)-1):=qS oz;omega
theorem ZY(a b:List Nat)(ha:Ws a)(hb:Ws b)(na:Nz a)(iC:val b≠0)(la:a.length<aw)(lb:b.length<aw) :
  FP 362 [ws a,ws b] (.tup [ws (ofNat (val a/val b)),ws (ofNat (val a%val b))]):=by
 have la':=la;have lb':=lb;unfold aw at la lb;obtain⟨V,hV⟩:∃V,V=val a:=⟨_,rfl⟩
 obtain⟨Bv,Bo⟩:∃Bv,Bv=val b:=⟨_,rfl⟩
 have Gm:0<Bv:=by omega
 have hBl:2*Bv<=4294967296^(b.length+1):=by have:=bG b hb;rw[ae5];omega
 have xH:aM V<=32*a.length:=by
  rcases ae1 (aM V)with h |h
  ·omega
  ·have := L0 ha (k := aM V-1) (by rw[<- hV];omega);omega
 rw[<- hV,<- Bo];refine ak func362 ?_;refine gl ?_;refine gs (f6 (.tmp rfl) T42 rfl T87 rfl rfl oz (by dsimp only;omega) rfl) ?_;refine gl ?_;refine ga (fh (y:=1) (by unfold az;omega) (by unfold az;omega)) ?_;refine gs (f6 (.tmp rfl) T42 rfl T87 rfl rfl oz (by dsimp only;omega) rfl) ?_;refine gc (hV▸U4 a ha na oz) ?_;refine ga (dg oz) ?_;refine jf [0,1] [] (fun(q r:List Nat)(i:Nat)=>[pP 6 (.ms 13 1 0 a.length),pP 7 (.ms 17 1 0 (b.length+1)),pP 8 (i64 ((i:Int)-1))]) (fun q r _=>[pP 13 (.row 1 (q.map u32)),pP 17 (.row 1 (r.map u32))]) (fun q r i=>q.length=a.length/\r.length=b.length+1/\Ws q/\Ws r/\i<=aM V/\val r=V/2^i%Bv/\val q=2^i*(V/2^i/Bv)) (fun _ _ i=>i) (afv a.length 0) (afv (b.length+1) 0) (aM V) ⟨by simp,by simp,mT _,mT _,aie _,by rw[zy,Jw,Nat.zero_mod],by rw[zy,Jw,Nat.zero_div,Nat.mul_zero]⟩ ?_ (h2:=(.cons rfl (.of (by rw[ai7];rfl)) (.cons rfl (.of (by rw[ai7];rfl)) .nil)))
 rintro q r i ⟨rW,xJ,wq,wr',hi,hr,hq⟩ K1 J1;refine gC (fun z=>?_) (fun z=>?_) (st2:=(15,0))
 ·have Px : 1 <= i := by have := z; simp [aa] at this; omega
  obtain⟨k,rfl⟩:∃k,i=k+1:=⟨i-1,by omega⟩
  rw[show((k+1:Nat):Int)-1=(k:Int) by omega];have hka:=L0 ha (k:=k) (by rw[<- hV];omega);have Py:=Xd ha hka;have hwB:=bu ha (k/32);rw[<- hV]at Py;obtain⟨bit,Bm⟩:∃bit,bit=V/2^k%2:=⟨_,rfl⟩
  have bh:bit<=1:=by omega
  have ady:=aeg (V/2^(k+1)) Gm;have hdw:aj a (k/32)/2^(k%32)<=aj a (k/32):=afd _ _;refine gs (lG (.tmp rfl) (.const _) oz (Oj oz) rfl) ?_;refine gi (gY (n:=k/32) oz (by first |omega |(simp;omega))) ?_;refine gs (yr (.tmp rfl) (.const _) oz MD rfl) ?_;refine gs (fd (.tmp rfl) (.tmp rfl) oz (tY _ (k%32) oz) rfl) ?_;refine gs (kj (.tmp rfl) (.const _) rfl ((Oq (y:=1) oz oz).trans (show _=(bit:Int) by rw[Nat.and_one_is_mod,Py,Bm])) rfl) ?_;refine jf [0,1,8,35] [13] (fun(o:List Nat)(c j:Nat)=>[pP 6 (.ms 13 1 0 a.length),pP 7 (.ms 17 1 0 (b.length+1)),pP 9 (u32 c),pP 36 (i64 j)]) (fun o _ _=>[pP 17 (.row 1 (o.map u32))]) (fun o c j=>o.length=b.length+1/\Ws o/\j<=b.length+1/\c<=1/\o.drop j=r.drop j/\val (o.take j)+c*4294967296^j=2*val (r.take j)+bit) (fun _ _ j=>b.length+1-j) r bit 0 ⟨xJ,wr',by omega,bh,rfl,by simp[val]⟩ ?_
  rintro o c j ⟨kZ,wo,hj,hc,hd,hv⟩ K2 J2;refine gC (fun z=>?_) (fun z=>?_)
  ·have lr : j < b.length + 1 := by have := z; simp [aa] at this; omega
   have e1:aj o j=aj r j:=sT hd;have h1:=bu wr' j;have h3:=ab1 (w:=aj r j) h1 hv;refine gs (bt (n:=j) (.tmp rfl) (.tmp rfl) T42 rfl T87 rfl oz (by first |omega |(simp;omega)) rfl) ?_;refine gs (dq (.tmp rfl) rfl (by rw[bI (show j<o.length by omega),e1]) T87 rfl rfl rfl) ?_;refine gs (mD (.tmp rfl) (.const _) oz (OL (n:=1) oz) rfl) ?_;refine gs (kj (.tmp rfl) (.tmp rfl) rfl ((Eu oz oz).trans (by rw[ab8 hc])) rfl) ?_;refine gs (bt (n:=j) (.tmp rfl) (.tmp rfl) T42 rfl T87 rfl oz (by first |omega |(simp;omega)) rfl) ?_;refine gs (dq (.tmp rfl) rfl (by rw[bI (show j<o.length by omega),e1]) T87 rfl rfl rfl) ?_;refine gs (fd (.tmp rfl) (.const _) oz (tY _ 31 oz) rfl) ?_;refine gs (bt (n:=j) (.tmp rfl) (.tmp rfl) T42 rfl T87 rfl oz (by first |omega |(simp;omega)) rfl) ?_;refine gs (de (.tmp rfl) rfl (bI (i:=j) oz) rfl (.tmp rfl) rfl rfl T87 rfl rfl) ?_;refine gD ?_;refine ga (cP oz) ?_;exact ip J2 (o.set j (aj r j*2^1%4294967296+c)) (aj r j/2^31) (j+1) ⟨by simp[kZ],gL wo oz,by omega,by omega,wR hd,by rw[mh oz,cU];rw[show 4294967296^(j+1)=4294967296^j*4294967296 from ae5 _ _];exact h3⟩ (hw:=Wk.of aU (.cons rfl (.of (by rw[aja];rfl)) (.k .nil)))
  have lr:j=b.length+1:=by have:b.length+1<=j:=(by have:=z;simp[aa]at this;omega);omega
  subst lr;rw[eM (l:=r) oz,eM (l:=o) oz,hr]at hv
  have Gh:c=0:=by
   cases c with
   |zero=>rfl
   |succ c=>rw[aei]at hv;omega
  subst Gh;rw[Nat.zero_mul,ae4]at hv;have Gn:o.take (b.length+1)=o:=aio oz;obtain⟨d1,d2⟩:=aca (V:=V) (k:=k) Gm;rw[<- Bm]at d1 d2;have PA:=Qc 17 o b (b.length+1) wo hb oz;rw[Gn,<- Bo,hv]at PA;have Bp:k/32<q.length:=by omega
  obtain⟨w1,w2⟩:=ZS wq Bp hq;have w3:=Th wq Bp hq;refine gt (br PA (cS rfl rfl) bT rfl rfl) ?_;refine gC (fun t58=>?_) (fun t58=>?_)
  ·have hge:Bv<=2*(V/2^(k+1)%Bv)+bit:=by
    rcases aid (2*(V/2^(k+1)%Bv)+bit) Bv with h |h
    ·rw[ajg h]at t58;cases t58
    ·exact h
   obtain⟨d3,d4⟩:=d1 hge;have PB:=Hl o b (b.length+1) wo hb oz (by unfold aw;omega) (by rw[Gn,<- Bo,hv];exact hge);rw[Gn,<- Bo,hv,<- d3,Rb (by rw[fy,kZ])]at PB;have jM:V/2^k%Bv<4294967296^(b.length+1):=by have:=aeg (V/2^k) Gm;omega
   refine gt (br (Con.rk 17 rfl rfl PB) (cS rfl rfl) bT rfl rfl) ?_;refine gs (lG (.tmp rfl) (.const _) oz (Oj oz) rfl) ?_;refine gs (bt (n:=k/32) (.tmp rfl) (.tmp rfl) T42 rfl T87 rfl oz oz rfl) ?_;refine gs (dq (.tmp rfl) rfl (bI (i:=k/32) Bp) T87 rfl rfl rfl) ?_;refine gs (yr (.tmp rfl) (.const _) oz MD rfl) ?_;refine gs (mD (.const _) (.tmp rfl) oz ((OL (x:=1) (n:=k%32) oz).trans (show _=((2^(k%32):Nat):Int) by rw[Nat.one_mul,ae7 (aiz (Nat.le_add_left _ _) w2)])) rfl) ?_;refine gs (kj (.tmp rfl) (.tmp rfl) rfl ((Eu (bu wq _) (aiz (Nat.le_add_left _ _) w2)).trans (by rw[w1])) rfl) ?_;refine gs (bt (n:=k/32) (.tmp rfl) (.tmp rfl) T42 rfl T87 rfl oz oz rfl) ?_;refine gs (de (.tmp rfl) rfl (bI (i:=k/32) Bp) rfl (.tmp rfl) rfl rfl T87 rfl rfl) ?_;refine gD ?_;refine ga (dg oz) ?_;exact ip J1 (q.set (k/32) (aj q (k/32)+2^(k%32))) (aT (b.length+1) (V/2^k%Bv)) k ⟨by simp[rW],fy _ _,gL wq w2,kL _ _,by omega,mz _ _ jM,by rw[w3,d4]⟩ (hw:=Wk.of aU (.cons rfl (.of (by first |rfl |(rw[aja];rfl))) (.k .nil)))
  have hge:2*(V/2^(k+1)%Bv)+bit<Bv:=by
   rcases aid (2*(V/2^(k+1)%Bv)+bit) Bv with h |h
   ·exact h
   ·rw[ajf oz]at t58;split at t58 <;> cases t58
  obtain⟨d3,d4⟩:=d2 hge;refine ga (dg oz) ?_;exact ip J1 q o k ⟨rW,kZ,wq,wo,by omega,by rw[hv,d3],by rw[hq,d4,ae5,aer]⟩ (hw:=Wk.of aU (.cons rfl (.of (by first |rfl |(rw[aja];rfl))) (.k .nil)))
 have Px:i=0:=by have:=z;simp[aa]at this;omega
 subst Px;refine gW ((Wk.freeze (k:=13) rfl).trans<|(Wk.freeze (k:=17) rfl).trans<|Wk.of (sl:=[pP 6 (ws q),pP 7 (ws r)]) (hp:=[]) (.cons rfl (.of (by rw[show AV.fz 13 1 (q.map u32) (.ms 13 1 0 a.length)=ws q from b8 (by simp[rW])];rfl)) (.cons rfl (.of (b8 (by simp[xJ]))) .nil)) .nil) ?_;refine gc (ut q wq oz) ?_;refine gc (ut r wr' (by unfold aw;omega)) ?_;refine bq ?_;rw[hr,hq];simp[]
def i6(L:Nat)(A:List Nat)(n:Nat):Prop:=Ws A/\n<=A.length/\A.length<=L/\n=(ofNat (val (A.take n))).length
theorem TH(v:Nat):ofNat v=aT (ofNat v).length v:=by
 have h:=vo (ofNat v) (cT _)
 rwa [bN]at h
theorem j6{L:Nat}{A:List Nat}{n v:Nat}(h:i6 L A n)(hv:v<=val (A.take n)) :
  i6 L (wr A 0 (aT n v)) (ofNat v).length/\val ((wr A 0 (aT n v)).take (ofNat v).length)=v/\val ((wr A 0 (aT n v)).take n)=v:=by
 obtain⟨hw,hn,hl,hN⟩:=h;have hlt:=rC hw n;have lZ:v<4294967296^n:=by omega
 have bB:(ofNat v).length<=n:=fi lZ
 have ht:(wr A 0 (aT n v)).take n=aT n v:=by
  unfold wr;rw[List.take_zero,nil_append,afo (by rw[fy];omega),aio (by rw[fy];omega)]
 have PC:(wr A 0 (aT n v)).take (ofNat v).length=ofNat v:=by
  have h1:((wr A 0 (aT n v)).take n).take (ofNat v).length=(wr A 0 (aT n v)).take (ofNat v).length:=by rw[agh,afc bB]
  rw[<- h1,ht,Ef _ _ _ bB,<- TH]
 have ch:(wr A 0 (aT n v)).length=A.length:=nh (by rw[fy];omega);refine⟨⟨ue hw (kL _ _),by omega,by omega,by rw[PC,bN]⟩,by rw[PC,bN],by rw[ht,mz _ _ lZ]⟩
theorem iK{L:Nat}{A:List Nat}{n:Nat}(h:i6 L A n)(hx:0<val (A.take n)):0<n/\val (A.take n)%2=aj A 0%2:=by
 have hn:0<n:=by
  rcases ae1 n with h0 |h0
  ·subst h0;simp[val]at hx
  ·exact h0
 refine⟨hn,?_⟩;have:=vP (A.take n) 0;rw[ai9,rD hn]at this;omega
theorem Tq{L:Nat}{A:List Nat}{n:Nat}(h:i6 L A n):A.take n=ofNat (val (A.take n)):=by
 obtain⟨hw,hn,hl,hN⟩:=h;have h1:=MV (gH hw n);rw[<- hN,agh,Nat.min_self]at h1;exact h1
theorem NT{L:Nat}{A:List Nat}{n:Nat}(h:i6 L A n):n=0↔val (A.take n)=0:=by
 constructor
 ·intro h0;subst h0;rfl
 ·intro h0;have h1:=h.2.2.2;rw[h0]at h1;exact h1
theorem UC{x y:Nat}(hx:x%2=0)(hy:y%2=0):aej x y=2*aej (x/2) (y/2):=by
 rw[<- Nat.gcd_mul_left,Nat.mul_div_cancel' (Nat.dvd_of_mod_eq_zero hx),Nat.mul_div_cancel' (Nat.dvd_of_mod_eq_zero hy)]
theorem Ni{x y:Nat}(hx:x%2=0)(hy:y%2=1):aej (x/2) y=aej x y:=by
 have h1:x=2*(x/2):=by omega
 have h2:Nat.Coprime 2 y:=by
  rw[Nat.Coprime,Nat.gcd_rec,hy];rfl
 conv=>rhs;rw[h1]
 exact(Nat.Coprime.gcd_mul_left_cancel _ h2).symm
theorem MT{x y:Nat}(h:y<=x):aej (x-y) y=aej x y:=Nat.gcd_sub_self_left h
theorem I3{t L g V:Nat}(hg:0<g)(h:2^t*g<=V)(hV:V<4294967296^L):t<32*L:=by
 rw[wY]at hV;have h1:=aih (2^t) (show 1<=g from hg);rcases aid t (32*L)with h2 |h2
 ·exact h2
 ·have:=qS h2;omega
theorem JT(A D:List Nat)(n p:Nat)(hA:Ws A)(hD:Ws D)(hn:n<=A.length)(hp:p<=D.length)(la:A.length<=aw)(bB:val (D.take p)<=val (A.take n)) :
  Con prog 374 [.ms 901 1 0 n,.ms 902 1 0 p] [pP 902 (.row 1 (D.map u32)),pP 901 (.row 1 (A.map u32))] (.tup [])
   [pP 902 (.row 1 (D.map u32)),pP 901 (.row 1 ((wr A 0 (aT n (val (A.take n)-val (D.take p)))).map u32))]:=by
 have h1:=Con.rk 901 rfl rfl (Hl A (D.take p) n hA (gH hD p) hn la bB);refine Con.borrow (args:=[.ms 901 1 0 n,ws (D.take p)]) 902 1 (D.map u32) rfl rfl rfl ?_ rfl ?_ h1
 ·intro j x' hj
  match j,hj with
  |0,hj=>cases hj;exact .inl rfl
  |1,hj=>cases hj;exact .inr ⟨0,p,rfl,by simpa using hp,by rw[tD];rfl⟩
 ·intro k' x h;obtain⟨_,h⟩:=ic h;cases h;exact It _
theorem z5{A:List Nat}(hA:Ws A){i:Nat}:n8 .and .u32 (aj A i:Int) 1=((aj A i%2:Nat):Int) :=
 (Oq (y:=1) (bu hA i) oz).trans (by rw[Nat.and_one_is_mod])
theorem Vc(a b:List Nat)(ha:Ws a)(hb:Ws b)(na:Nz a)(nb:Nz b)(la:a.length+b.length<aw):FP 305 [ws a,ws b] (ws (ofNat (aej (val a) (val b)))):=by
 have la':=la;unfold aw at la;have ea:=ss ha na;have eb:=ss hb nb;obtain⟨L,hL⟩:∃L,L=a.length+b.length:=⟨_,rfl⟩
 obtain⟨G,hG⟩:∃G,G=aej (val a) (val b):=⟨_,rfl⟩
 rw[<- hG];refine ak func305 ?_;refine gt (br (Dj 901 rfl a ha (by unfold aw;omega)) (iL rfl) bT rfl rfl) ?_;refine gt (br (Dj 902 rfl b hb (by unfold aw;omega)) (iL rfl) bT rfl rfl) ?_ (2,0);refine gW (Wk.of (sl:=[pP 0 (.ms 901 1 0 a.length),pP 1 (.ms 902 1 0 b.length)]) (hp:=[pP 901 (.row 1 (a.map u32)),pP 902 (.row 1 (b.map u32))]) (.cons rfl (.of (by rw[ea])) (.cons rfl (.of (by rw[eb])) .nil)) (.k (.k .nil))) ?_;refine gC (fun z=>?_) (fun z=>?_) (st1:=(3,0))
 ·have h0 : a=[] := af7.1 (by simpa[aa]using z);refine gW ((Wk.freeze (k:=902) rfl).trans<|Wk.of (sl:=[pP 1 (ws b)]) (hp:=[]) (.cons rfl (.of (b8 (by simp))) .nil) .nil) ?_;refine ah ?_;rw[hG,h0];simp[val,eb]
 have h0:a≠[]:=fun h=>by rw[h]at z;simp[aa]at z
 refine gC (fun z=>?_) (fun z=>?_) (st1:=(5,0))
 ·have h1 : b=[] := af7.1 (by simpa[aa]using z);refine gW ((Wk.freeze (k:=901) rfl).trans<|Wk.of (sl:=[pP 0 (ws a)]) (hp:=[]) (.cons rfl (.of (b8 (by simp))) .nil) .nil) ?_;refine ah ?_;rw[hG,h1];simp[val,ea]
 have h1:b≠[]:=fun h=>by rw[h]at z;simp[aa]at z
 have va:=qC na h0;have vb:=qC nb h1;have hGp:0<G:=by rw[hG];exact Nat.gcd_pos_of_pos_left _ va
 have PD:G<=val a:=by rw[hG];exact Nat.gcd_le_left _ va
 have vla:=bG a ha;refine HR [] [] (fun(A D:List Nat)(n p t:Nat)=>[pP 0 (.ms 901 1 0 n),pP 1 (.ms 902 1 0 p),pP 5 (i64 t)]) (fun A D _ _ _=>[pP 901 (.row 1 (A.map u32)),pP 902 (.row 1 (D.map u32))]) (fun A D n p t=>i6 L A n/\i6 L D p/\0<val (A.take n)/\0<val (D.take p)/\G=2^t*aej (val (A.take n)) (val (D.take p))) (fun A _ n _ _=>val (A.take n)) a b a.length b.length 0 ⟨⟨ha,aie _,by omega,by rw[ail,ea]⟩,⟨hb,aie _,by omega,by rw[ail,eb]⟩,by rw[ail];exact va,by rw[ail];exact vb,by rw[ail,ail,hG];simp⟩ ?_
 rintro A D n p t ⟨gA,gD,pA,pD,hg⟩ K1 J1;refine gs (bt (n:=0) (.tmp rfl) (.const _) T42 rfl T87 rfl oz (by have:=(iK gA pA).1;omega) rfl) ?_;refine gs (dq (.tmp rfl) rfl (bI (i:=0) (by have:=(iK gA pA).1;have:=gA.2.1;omega)) T87 rfl rfl rfl) ?_;refine gs (kj (.tmp rfl) (.const _) rfl (z5 gA.1) rfl) ?_;refine gs (fX rfl rfl rfl (fun h=>bt (n:=0) (.opt rfl (o1 h)) (.const _) T42 rfl T87 rfl oz (by have:=(iK gD pD).1;omega) rfl)) ?_;refine gs (fX rfl rfl rfl (fun h=>dq (.opt rfl (o1 h)) rfl (bI (i:=0) (by have:=(iK gD pD).1;have:=gD.2.1;omega)) T87 rfl rfl rfl)) ?_;refine gs (fX rfl rfl rfl (fun h=>kj (.opt rfl (o1 h)) (.const _) rfl (z5 gD.1) rfl)) ?_;refine gC (fun t29=>?_) (fun t29=>?_)
 ·have da:aj A 0%2=0/\aj D 0%2=0:=by
   have:=t29;simp[aa]at this;omega
  have xA:val (A.take n)%2=0:=by rw[(iK gA pA).2];exact da.1
  have xD:val (D.take p)%2=0:=by rw[(iK gD pD).2];exact da.2
  obtain⟨k1,k2,k3⟩:=j6 gA (v:=val (A.take n)/2) oz;obtain⟨m1,m2,m3⟩:=j6 gD (v:=val (D.take p)/2) oz;have ht:t<32*a.length:=I3 (Nat.gcd_pos_of_pos_left _ pA) (by rw[<- hg];exact PD) vla;refine gt (br (Con.rekeyR 901 rfl (yJ A n gA.1 gA.2.1 (by have:=gA.2.2.1;unfold aw;omega))) (iL rfl) bT rfl rfl) ?_;refine gt (br (Con.rekeyR 902 rfl (yJ D p gD.1 gD.2.1 (by have:=gD.2.2.1;unfold aw;omega))) (iL rfl) bT rfl rfl) ?_;refine ga (show _=((t+1:Nat):Int) by rw[cP oz];omega) ?_;exact H0 J1 (wr A 0 (aT n (val (A.take n)/2))) (wr D 0 (aT p (val (D.take p)/2))) ((ofNat (val (A.take n)/2)).length) ((ofNat (val (D.take p)/2)).length) (t+1) ⟨k1,m1,by rw[k2];omega,by rw[m2];omega,by rw[k2,m2,hg,UC xA xD,ae5];grind⟩ (by rw[k2];omega)
 have hod:val (A.take n)%2=1\/val (D.take p)%2=1:=by
  rw[(iK gA pA).2,(iK gD pD).2];have:=t29;simp[aa]at this;omega
 refine Vk [5] [] (fun(A1 D1:List Nat)(n1 p1:Nat)=>[pP 0 (.ms 901 1 0 n1),pP 1 (.ms 902 1 0 p1)]) (fun A1 D1 _ _=>[pP 901 (.row 1 (A1.map u32)),pP 902 (.row 1 (D1.map u32))]) (fun A1 D1 n1 p1=>i6 L A1 n1/\i6 L D1 p1/\0<val (D1.take p1)/\(val (A1.take n1)%2=1\/val (D1.take p1)%2=1)/\G=2^t*aej (val (A1.take n1)) (val (D1.take p1))) (fun A1 D1 n1 p1=>val (A1.take n1)+val (D1.take p1)) A D n p ⟨gA,gD,pD,hod,hg⟩ ?_
 rintro A1 D1 n1 p1 ⟨gA1,gD1,pD1,adl,oq⟩ K2 J2;refine gC (fun t38=>?_) (fun t38=>?_) (st2:=(19,0))
 ·have pA1:0<val (A1.take n1):=by
   have h3:n1≠0:=by have:=t38;simp[aa]at this;omega
   exact Nat.pos_of_ne_zero (fun h=>h3 ((NT gA1).2 h))
  refine fF [5] [902] (fun(A2:List Nat)(n2:Nat)=>[pP 0 (.ms 901 1 0 n2),pP 1 (.ms 902 1 0 p1)]) (fun A2 _=>[pP 901 (.row 1 (A2.map u32))]) (fun A2 n2=>i6 L A2 n2/\0<val (A2.take n2)/\val (A2.take n2)<=val (A1.take n1)/\(val (A2.take n2)%2=1\/val (D1.take p1)%2=1)/\aej (val (A2.take n2)) (val (D1.take p1))=aej (val (A1.take n1)) (val (D1.take p1))) (fun A2 n2=>val (A2.take n2)) A1 n1 ⟨gA1,pA1,aie _,adl,rfl⟩ ?_
  rintro A2 n2 ⟨gA2,pA2,lA2,adz,rX⟩ K3 J3;refine gs (bt (n:=0) (.tmp rfl) (.const _) T42 rfl T87 rfl oz (by have:=(iK gA2 pA2).1;omega) rfl) ?_;refine gs (dq (.tmp rfl) rfl (bI (i:=0) (by have:=(iK gA2 pA2).1;have:=gA2.2.1;omega)) T87 rfl rfl rfl) ?_;refine gs (kj (.tmp rfl) (.const _) rfl (z5 gA2.1) rfl) ?_;refine gC (fun t43=>?_) (fun t43=>?_)
  ·have xA2:val (A2.take n2)%2=0:=by
    rw[(iK gA2 pA2).2];have:=t43;simp[aa]at this;omega
   obtain⟨k1,k2,k3⟩:=j6 gA2 (v:=val (A2.take n2)/2) oz;refine gt (br (Con.rekeyR 901 rfl (yJ A2 n2 gA2.1 gA2.2.1 (by have:=gA2.2.2.1;unfold aw;omega))) (iL rfl) bT rfl rfl) ?_;exact fC J3 (wr A2 0 (aT n2 (val (A2.take n2)/2))) ((ofNat (val (A2.take n2)/2)).length) ⟨k1,by rw[k2];omega,by rw[k2];omega,.inr oz,by rw[k2,Ni xA2 oz,rX]⟩ (by rw[k2];omega)
  have xA2:val (A2.take n2)%2=1:=by
   rw[(iK gA2 pA2).2];have:=t43;simp[aa]at this;omega
  refine fF [5] [901] (fun(D2:List Nat)(p2:Nat)=>[pP 0 (.ms 901 1 0 n2),pP 1 (.ms 902 1 0 p2)]) (fun D2 _=>[pP 902 (.row 1 (D2.map u32))]) (fun D2 p2=>i6 L D2 p2/\0<val (D2.take p2)/\val (D2.take p2)<=val (D1.take p1)/\aej (val (A2.take n2)) (val (D2.take p2))=aej (val (A2.take n2)) (val (D1.take p1))) (fun D2 p2=>val (D2.take p2)) D1 p1 ⟨gD1,pD1,aie _,rfl⟩ ?_;rintro D2 p2 ⟨gD2,pD2,lD2,Gp⟩ K4 J4;refine gs (bt (n:=0) (.tmp rfl) (.const _) T42 rfl T87 rfl oz (by have:=(iK gD2 pD2).1;omega) rfl) ?_;refine gs (dq (.tmp rfl) rfl (bI (i:=0) (by have:=(iK gD2 pD2).1;have:=gD2.2.1;omega)) T87 rfl rfl rfl) ?_;refine gs (kj (.tmp rfl) (.const _) rfl (z5 gD2.1) rfl) ?_;refine gC (fun t50=>?_) (fun t50=>?_)
  ·have xD2:val (D2.take p2)%2=0:=by
    rw[(iK gD2 pD2).2];have:=t50;simp[aa]at this;omega
   obtain⟨k1,k2,k3⟩:=j6 gD2 (v:=val (D2.take p2)/2) oz;refine gt (br (Con.rekeyR 902 rfl (yJ D2 p2 gD2.1 gD2.2.1 (by have:=gD2.2.2.1;unfold aw;omega))) (iL rfl) bT rfl rfl) ?_;exact fC J4 (wr D2 0 (aT p2 (val (D2.take p2)/2))) ((ofNat (val (D2.take p2)/2)).length) ⟨k1,by rw[k2];omega,by rw[k2];omega,by rw[k2,aev,Ni xD2 xA2,aev,Gp]⟩ (by rw[k2];omega)
  have xD2:val (D2.take p2)%2=1:=by
   rw[(iK gD2 pD2).2];have:=t50;simp[aa]at this;omega
  refine gt (br (Tx 901 902 oz A2 D2 n2 p2 gA2.1 gD2.1 gA2.2.1 gD2.2.1) (cS rfl rfl) bT rfl rfl) ?_;refine gC (fun t56=>?_) (fun t56=>?_) (st1:=(17,0)) (st2:=(77777,0))
  ·have hlt:val (A2.take n2)<val (D2.take p2):=by
    rcases aid (val (A2.take n2)) (val (D2.take p2))with h |h
    ·exact h
    ·rw[ajf oz]at t56;split at t56 <;> cases t56
   refine gW (Wk.o (sl:=[pP 0 (.ms 902 1 0 p2),pP 1 (.ms 901 1 0 n2),pP 5 (i64 t)]) (hp:=[pP 901 (.row 1 (A2.map u32)),pP 902 (.row 1 (D2.map u32))])) ?_ (17,0);refine gW (Wk.rk (k:=901) (d:=903) rfl rfl) ?_ (17,0);refine gW (Wk.rk (k:=902) (d:=901) rfl rfl) ?_ (17,0);refine gW (Wk.rk (k:=903) (d:=902) rfl rfl) ?_ (17,0);refine gW (Wk.of (sl:=[pP 0 (.ms 901 1 0 p2),pP 1 (.ms 902 1 0 n2),pP 5 (i64 t)]) (hp:=[pP 901 (.row 1 (D2.map u32)),pP 902 (.row 1 (A2.map u32))]) (.cons rfl (Sub.refl _) (.cons rfl (Sub.refl _) (.cons rfl (Sub.refl _) .nil))) (.k (.k .nil))) ?_ (17,0);obtain⟨A3,D3,n3,p3,gA3,gD3,xA3,xD3,xK,Gq,hs3,e1,e2,e3,e4⟩:∃A3 D3 n3 p3,i6 L A3 n3/\i6 L D3 p3/\val (A3.take n3)%2=1/\val (D3.take p3)%2=1/\val (D3.take p3)<=val (A3.take n3)/\aej (val (A3.take n3)) (val (D3.take p3))=aej (val (A2.take n2)) (val (D2.take p2))/\val (A3.take n3)+val (D3.take p3)=val (A2.take n2)+val (D2.take p2)/\A3=D2/\n3=p2/\D3=A2/\p3=n2:=⟨D2,A2,p2,n2,gD2,gA2,xD2,xA2,by omega,aev _ _,aeq _ _,rfl,rfl,rfl,rfl⟩
   rw[<- e1,<- e2,<- e3,<- e4];refine go ?_;refine gt (br (JT A3 D3 n3 p3 gA3.1 gD3.1 gA3.2.1 gD3.2.1 (by have:=gA3.2.2.1;unfold aw;omega) xK) (cS rfl rfl) bT rfl rfl) ?_;refine gt (br (Con.rekeyR 901 rfl (CF (wr A3 0 (aT n3 (val (A3.take n3)-val (D3.take p3)))) n3 (ue gA3.1 (kL _ _)) (by rw[nh (by rw[fy];have:=gA3.2.1;omega)];exact gA3.2.1) (by rw[nh (by rw[fy];have:=gA3.2.1;omega)];have:=gA3.2.2.1;unfold aw;omega))) (iL rfl) bT rfl rfl) ?_;exact IH J2 (wr A3 0 (aT n3 (val (A3.take n3)-val (D3.take p3)))) D3 ((ofNat (val (A3.take n3)-val (D3.take p3))).length) p3 ⟨(j6 gA3 oz).1,gD3,by omega,.inr xD3,by rw[(j6 gA3 (v:=val (A3.take n3)-val (D3.take p3)) oz).2.1,MT xK,Gq,Gp,rX,oq]⟩ (by rw[(j6 gA3 (v:=val (A3.take n3)-val (D3.take p3)) oz).2.1];omega) (hw:=Wk.of (.cons rfl (.of (by rw[(j6 gA3 (v:=val (A3.take n3)-val (D3.take p3)) oz).2.2])) (.k (.k .nil))) (.k (.k .nil)))
  have hlt:val (D2.take p2)<=val (A2.take n2):=by
   rcases aid (val (A2.take n2)) (val (D2.take p2))with h |h
   ·rw[ajg h]at t56;cases t56
   ·exact h
  refine gW (Wk.o (sl:=[pP 0 (.ms 901 1 0 n2),pP 1 (.ms 902 1 0 p2),pP 5 (i64 t)]) (hp:=[pP 901 (.row 1 (A2.map u32)),pP 902 (.row 1 (D2.map u32))])) ?_ (77777,0);obtain⟨A3,D3,n3,p3,gA3,gD3,xA3,xD3,xK,Gq,hs3,e1,e2,e3,e4⟩:∃A3 D3 n3 p3,i6 L A3 n3/\i6 L D3 p3/\val (A3.take n3)%2=1/\val (D3.take p3)%2=1/\val (D3.take p3)<=val (A3.take n3)/\aej (val (A3.take n3)) (val (D3.take p3))=aej (val (A2.take n2)) (val (D2.take p2))/\val (A3.take n3)+val (D3.take p3)=val (A2.take n2)+val (D2.take p2)/\A3=A2/\n3=n2/\D3=D2/\p3=p2:=⟨A2,D2,n2,p2,gA2,gD2,xA2,xD2,hlt,rfl,rfl,rfl,rfl,rfl,rfl⟩
  rw[<- e1,<- e2,<- e3,<- e4];obtain⟨k1,k2,k3⟩:=j6 gA3 (v:=val (A3.take n3)-val (D3.take p3)) oz;refine go ?_;refine gt (br (JT A3 D3 n3 p3 gA3.1 gD3.1 gA3.2.1 gD3.2.1 (by have:=gA3.2.2.1;unfold aw;omega) xK) (cS rfl rfl) bT rfl rfl) ?_;refine gt (br (Con.rekeyR 901 rfl (CF (wr A3 0 (aT n3 (val (A3.take n3)-val (D3.take p3)))) n3 (ue gA3.1 (kL _ _)) (by rw[nh (by rw[fy];have:=gA3.2.1;omega)];exact gA3.2.1) (by rw[nh (by rw[fy];have:=gA3.2.1;omega)];have:=gA3.2.2.1;unfold aw;omega))) (iL rfl) bT rfl rfl) ?_;exact IH J2 (wr A3 0 (aT n3 (val (A3.take n3)-val (D3.take p3)))) D3 ((ofNat (val (A3.take n3)-val (D3.take p3))).length) p3 ⟨(j6 gA3 oz).1,gD3,by omega,.inr xD3,by rw[(j6 gA3 (v:=val (A3.take n3)-val (D3.take p3)) oz).2.1,MT xK,Gq,Gp,rX,oq]⟩ (by rw[(j6 gA3 (v:=val (A3.take n3)-val (D3.take p3)) oz).2.1];omega) (hw:=Wk.of (.cons rfl (.of (by rw[(j6 gA3 (v:=val (A3.take n3)-val (D3.take p3)) oz).2.2])) (.k (.k .nil))) (.k (.k .nil)))
 have zA1:val (A1.take n1)=0:=by
  have h3:n1=0:=by have:=t38;simp[aa]at this;omega
  exact(NT gA1).1 h3
 rw[zA1,Nat.gcd_zero_left]at oq;refine gW ((Wk.freeze (k:=902) rfl).trans<|Wk.of (sl:=[pP 1 (ws (ofNat (val (D1.take p1)))),pP 5 (i64 t)]) (hp:=[]) (.cons rfl (.of (by rw[qz (by rw[ah6];have:=gD1.2.1;omega),tD,<- Tq gD1])) (.k .nil)) .nil) ?_;refine aK [64] [] (fun(i:Nat)=>[pP 1 (ws (ofNat (2^i*val (D1.take p1)))),pP 65 (i64 i)]) (fun _=>[]) (fun i=>i<=t) (fun i=>t-i) 0 (aii _) ?_ (h1:=(.cons rfl (.of (by rw[Nat.pow_zero,Nat.one_mul])) (.k .nil)));rintro i hit K5 J5;refine gC (fun z=>?_) (fun z=>?_)
 ·have ae : i < t := by simpa [aa] using z
  have h3:2^i*val (D1.take p1)<=G:=by rw[oq];exact aik _ (qS oz)
  have h4:(ofNat (2^i*val (D1.take p1))).length<=a.length:=fi oz;have ht:t<32*a.length:=I3 pD1 (by rw[<- oq];exact PD) vla;refine gc (Co _ _ (cT _) (cT _) (by unfold aw;omega) (by unfold aw;omega)) ?_;refine ga (cP oz) ?_;exact aE J5 (i+1) ae (hw:=Wk.of (.cons rfl (.of (by rw[bN,ae5];congr 2;grind)) (.k (.k .nil))) .nil)
 have ae:i=t:=by have:t<=i:=(by simpa[aa]using z);omega
 subst ae;refine ah ?_;rw[oq]
theorem KO(a b:Wh)(ha:a.ok)(hb:b.ok)(la:a.mag.length+b.mag.length<aw):FP 207 [a.av,b.av] (zA (ags a.z b.z)):=by
 have h1:=Wh.m_le (w:=a);have h2:=Wh.m_le (w:=b);have h3:ags a.z b.z=aej (val a.m) (val b.m):=by rw[ags,Wh.abs,Wh.abs]
 have h4:(ofNat (aej (val a.m) (val b.m))).length<=a.m.length+b.m.length:=by
  rcases ae1 (val a.m)with h |h
  ·rw[h,Nat.gcd_zero_left,Wh.ofNat_m hb];omega
  ·exact aiw (fi (aiz (Nat.gcd_le_left _ h) (bG _ (Wh.ws ha)))) oz
 refine ak func207 ?_;refine gc (lL a ha) ?_;refine gc (lL b hb) ?_;refine gc (Vc a.m b.m (Wh.ws ha) (Wh.ws hb) a.nz b.nz oz) ?_;refine gc (kz false _ (cT _) oz) ?_;refine gD ?_;refine ah ?_;rw[bN,h3];rfl
theorem WP(a b:Wh)(ha:a.ok)(hb:b.ok)(la:a.mag.length+1<aw)(lb:b.mag.length<aw)(h0:b.z≠0):FP 281 [a.av,b.av] (.tup [zA (a.z/b.z),zA (a.z%b.z),i64 0]):=by
 have f0:=Wh.m_le (w:=a);have jO:=Wh.m_le (w:=b);have bh:val b.m≠0:=by have:=Wh.abs (w:=b);omega
 have pZ:(ofNat (val a.m/val b.m)).length<=a.m.length:=fi (aiz (afd _ _) (bG _ (Wh.ws ha)));have xt:=aeg (val a.m) (show 0<val b.m by omega);have qc:(ofNat (val a.m%val b.m)).length<=b.m.length:=fi (Nat.lt_trans xt (bG _ (Wh.ws hb)));have hl3:(ofNat (val a.m/val b.m+1)).length<=a.m.length+1:=fi (by have h7:=aiz (afd (val a.m) (val b.m)) (bG _ (Wh.ws ha));rw[ae5];generalize val a.m/val b.m=m at *;omega);have hl4:(ofNat (val b.m-val a.m%val b.m)).length<=b.m.length:=fi (by have:=bG _ (Wh.ws hb);omega);have uH:val [1]=1:=rfl;refine ak func281 ?_;refine gc (E4 b hb) ?_;refine gC (fun z=>?_) (fun z=>?_) (st1:=(2,0));exact ajm (ag0.1 (by simpa[aa]using z)) h0;refine gc (lL a ha) ?_;refine gc (lL b hb) ?_;refine gc (ZY a.m b.m (Wh.ws ha) (Wh.ws hb) a.nz bh oz oz) ?_;refine gD ?_;refine gc (jD a ha) ?_;refine cq ?_;refine gC (fun z=>?_) (fun z=>?_)
 ·have h1:a.n = true /\ 0 < val a.m % val b.m:=yz.1 z;obtain ⟨e1,e2⟩:=NK bh h1.1 h1.2;refine gc (Co (ofNat (val a.m / val b.m)) [1] (cT _) (xf oz) oz (by unfold aw; simp)) ?_;refine gc (lL b hb) ?_;refine gc (CT b.m (ofNat (val a.m % val b.m)) (Wh.ws hb) (cT _) oz (by rw [bN]; omega)) ?_;refine gD ?_ (6,0);refine gW (Wk.of (sl:=[pP 2 (.ptr 2 0),pP 3 (.ptr 3 0),pP 4 (.ptr 4 0),pP 5 (.ptr 5 0),pP 7 (ws (ofNat (val a.m / val b.m + 1))),pP 8 (ws (ofNat (val b.m - val a.m % val b.m)))]) (hp:=[pP 2 (.box [bl a.neg,ws a.mag]),pP 3 (.box [bl b.neg,ws b.mag]),pP 4 (.box [.v (.bool false),nS]),pP 5 (.box [.v (.bool false),nS])]) (.k (.k (.k (.k (.cons rfl (.of (by rw [bN,uH])) (.cons rfl (.of (by rw [bN])) .nil)))))) (.k (.k (.k (.k .nil))))) ?_
  refine gc (jD a ha) ?_;refine gc (jD b hb) ?_;refine gc (by apply kz _ _ (cT _) oz) ?_;refine gc (by apply kz _ _ (cT _) oz) ?_;refine gD ?_;refine gR ?_;exact wm (by rw[bN,bN,e1,show sgn false _=_ from e2];rfl)
 have h1:¬(a.n=true/\0<val a.m%val b.m):=fun h=>ahb.1 z (yz.2 h)
 obtain⟨e1,e2⟩:=IZ bh h1;refine gc (jD a ha) ?_;refine gc (jD b hb) ?_;refine gc (by apply kz _ _ (cT _) oz) ?_;refine gc (by apply kz _ _ (cT _) oz) ?_;refine gD ?_;refine gR ?_;exact wm (by rw[bN,bN,e1,show sgn false _=_ from e2];rfl)
theorem wa{x:Int}(hx:Zs x):FP 73 [zA x] (i64 x.sign):=by
 have h:=Ea (ofInt x) hx.ok;rw[dG]at h;exact h
theorem Ac{x:Int}(hx:Zs x):FP 118 [zA x] (zA (-x)):=by
 have h:=Um (ofInt x) hx.ok (by have:=hx.len;unfold aw;omega);rw[dG]at h;exact h
theorem GV{x y:Int}(hx:Zs x)(hy:Zs y):FP 204 [zA x,zA y] (i64 (gX x y)):=by
 have h:=Qf (ofInt x) (ofInt y) hx.ok hy.ok;rw[dG,dG]at h;exact h
theorem Ub{x y:Int}(hx:Zs x)(hy:Zs y):FP 116 [zA x,zA y] (zA (x+y)):=by
 have h:=Xb (ofInt x) (ofInt y) hx.ok hy.ok (by have:=hx.len;unfold aw;omega) (by have:=hy.len;unfold aw;omega);rw[dG,dG]at h;exact h
theorem nv{x y:Int}(hx:Zs x)(hy:Zs y):FP 117 [zA x,zA y] (zA (x*y)):=by
 have h:=TQ (ofInt x) (ofInt y) hx.ok hy.ok (by have:=hx.len;have:=hy.len;unfold aw;omega);rw[dG,dG]at h;exact h
theorem Yb{x y:Int}(hx:Zs x)(hy:Zs y):FP 119 [zA x,zA y] (zA (ags x y)):=by
 have h:=Jg (ofInt x) (ofInt y) hx.ok hy.ok (by have:=hx.len;unfold aw;omega) (by have:=hy.len;unfold aw;omega);rw[dG,dG]at h;exact h
theorem Mw{x y:Int}(hx:Zs x)(hy:Zs y)(h0:y≠0):FP 120 [zA x,zA y] (.tup [zA (x/y),zA (x%y),.v .nilIface]):=by
 have h:=QO (ofInt x) (ofInt y) hx.ok hy.ok (by have:=hx.len;unfold aw;omega) (by have:=hy.len;unfold aw;omega) (by rw[dG];exact h0);rw[dG,dG]at h;exact h
theorem yN{x:Int}(hx:Zs x):FP 208 [zA x] (i64 x.sign):=by
 have h:=E4 (ofInt x) hx.ok;rw[dG]at h;exact h
theorem B4{x:Int}(hx:Zs x):FP 280 [zA x] (zA (-x)):=by
 have h:=OD (ofInt x) hx.ok (by have:=hx.len;unfold aw;omega);rw[dG]at h;exact h
theorem Rh{x y:Int}(hx:Zs x)(hy:Zs y):FP 206 [zA x,zA y] (i64 (gX x y)):=by
 have h:=Su (ofInt x) (ofInt y) hx.ok hy.ok (by have:=hx.len;unfold aw;omega) (by have:=hy.len;unfold aw;omega);rw[dG,dG]at h;exact h
theorem UH{x y:Int}(hx:Zs x)(hy:Zs y):FP 294 [zA x,zA y] (zA (x+y)):=by
 have h:=Ix (ofInt x) (ofInt y) hx.ok hy.ok (by have:=hx.len;unfold aw;omega) (by have:=hy.len;unfold aw;omega);rw[dG,dG]at h;exact h
theorem qi{x y:Int}(hx:Zs x)(hy:Zs y):FP 201 [zA x,zA y] (zA (x*y)):=by
 have h:=aar (ofInt x) (ofInt y) hx.ok hy.ok (by have:=hx.len;have:=hy.len;unfold aw;omega);rw[dG,dG]at h;exact h
theorem SD{x y:Int}(hx:Zs x)(hy:Zs y):FP 207 [zA x,zA y] (zA (ags x y)):=by
 have h:=KO (ofInt x) (ofInt y) hx.ok hy.ok (by have:=hx.len;have:=hy.len;unfold aw;omega);rw[dG,dG]at h;exact h
theorem HJ{x y:Int}(hx:Zs x)(hy:Zs y)(h0:y≠0):FP 281 [zA x,zA y] (.tup [zA (x/y),zA (x%y),i64 0]):=by
 have h:=WP (ofInt x) (ofInt y) hx.ok hy.ok (by have:=hx.len;unfold aw;omega) (by have:=hy.len;unfold aw;omega) (by rw[dG];exact h0);rw[dG,dG]at h;exact h
def hO(e:Nat):ajq:=match e with |0=>.nilIface |e+1=>.iface 107 (.int .i64 ((e+1:Nat):Int))
def db(e:Nat):AV:=.v (hO e)
theorem Sd(e:Nat):hO e=.nilIface\/∃T u,hO e=.iface T u:=by cases e;exact .inl rfl;exact .inr ⟨_,_,rfl⟩
theorem Mi(e:Nat):eI (hO e)=decide (e=0):=by cases e <;> simp[hO,eI]
theorem Yl{e:Nat}(h:eI (hO e)=true):e=0:=by rw[Mi]at h;exact aji h
theorem R4{e:Nat}(h:eI (hO e)=false):e≠0:=by rw[Mi]at h;exact ajj h
theorem n7{e:Nat}(h:(!eI (hO e))=true):e≠0:=R4 (by cases h':eI (hO e) <;> simp_all)
theorem n5{e:Nat}(h:(!eI (hO e))=false):e=0:=Yl (by cases h':eI (hO e) <;> simp_all)
theorem Er:FP 48 [] (zA 1):=by
 refine ak func48 ?_;refine gc (zz 1 oz) ?_;refine ah ?_
 first |rfl |(simp;done)
theorem uo(r:Rt)(h:r.ok):FP 104 [r.av] (bl r.valid):=by
 have hn:=h.n0;have hd:=h.d0;refine ak func104 ?_;refine gl ?_;refine cq ?_;refine gC (fun t14=>?_) (fun t14=>?_)
 ·have h0 : r.num = [] /\ r.den = [] := by simpa [aa] using t14
  refine ah ?_;unfold Rt.valid;rw[ajg h0];rfl
 have h0:¬(r.num=[]/\r.den=[]):=by
  have:=t14;simp[aa]at this;exact fun h=>this h.1 h.2
 refine gD ?_;refine gl ?_;refine cq ?_;refine bP (fun _=>(Au r.n0 hn)) ?_;refine bP (fun _=>(Au r.d0 hd)) ?_;refine gC (fun z=>?_) (fun z=>?_)
 ·have h1:r.valid=false:=ED h0 z;refine ah ?_;rw[h1];rfl
 have h1:=GY h0 z;refine gc (Jg r.n0 r.d0 hn hd h.n0l h.d0l) ?_;refine gc (by apply Er) ?_;refine gc (GV (Rt.gcd_zs h) AX) ?_;refine ah ?_;rw[h1];rfl
theorem lK(r:Rt)(h:r.ok):FP 72 [r.av] (.tup [zA r.q.num,zA r.q.den]):=by
 have pZ:r.num.length<=137438953472:=h.2.2.1;have qc:r.den.length<=137438953472:=h.2.2.2;refine ak func72 ?_;refine gc (uo r h) ?_;refine cq ?_;refine gC (fun t12=>?_) (fun t12=>?_)
 ·have h0:¬(r.valid=true/\r.num≠[]):=by
   have:=t12;intro h';simp[aa,h'.1,h'.2]at this
  refine gc Er ?_;refine gR ?_;exact gE (by rw[Rt.zero h0];exact Sub.tup (.cons NL (.cons (.refl _) .nil)))
 have h0:r.valid=true/\r.num≠[]:=by
  have:=t12;cases hv:r.valid
  ·rw[hv]at this;cases this
  ·rw[hv]at this;exact⟨rfl,by simpa[aa]using this⟩
 obtain⟨e1,e2,e3,e4,e5,e6⟩:=Rt.parts h h0.1 h0.2;refine gs (qT T42 rfl T87 rfl rfl rfl) ?_;refine gs (dX (.tmp rfl) rfl rfl (.tmp rfl) T42 rfl T87 rfl rfl (by simp only[ah6];omega) rfl rfl) ?_;refine gD ?_ (4,0);refine gW ((Wk.freeze (k:=20) rfl).trans<|Wk.of (sl:=[pP 1 (.ptr 1 0),pP 2 (.ptr 2 0),pP 3 (.ptr 3 0)]) (hp:=[pP 1 (.box [bl r.neg,ws r.num,ws r.den]),pP 2 (.box [bl r.neg,ws r.num]),pP 3 (.box [bl false,nS])]) aU (.k (.cons rfl (BlkSub.bL (.cons (.refl _) (.cons (.of (b8 (by simp))) .nil)) rfl) (.k .nil)))) ?_;refine gs (qT T42 rfl T87 rfl rfl rfl) ?_;refine gs (dX (.tmp rfl) rfl rfl (.tmp rfl) T42 rfl T87 rfl rfl (by simp only[ah6];omega) rfl rfl) ?_;refine gD ?_ (77777,0);refine gW ((Wk.freeze (k:=26) rfl).trans<|Wk.of (sl:=[pP 2 (.ptr 2 0),pP 3 (.ptr 3 0)]) (hp:=[pP 2 (.box [bl r.neg,ws r.num]),pP 3 (.box [bl false,ws r.den])]) aU (.k (.cons rfl (BlkSub.bL (.cons (.refl _) (.cons (.of (b8 (by simp))) .nil)) rfl) .nil))) ?_;refine bq ?_;rw[e1,e2];exact Mj e3 e4 e5
theorem tj{n d:Int}(hn:Zs n)(hd:Zs d)(h0:d≠0):FP 46 [zA n,zA d] (qA (ag4 n d)):=by
 refine ak func46 ?_;refine gc (wa hn) ?_;refine gC (fun z=>?_) (fun z=>?_)
 ·have e0 : n=0 := ag0.1 (by simpa[aa]using z);refine gR ?_;exact lP (by rw[e0,Rat.zero_divInt];exact o0)
 have e0:n≠0:=fun h=>by rw[h]at z;cases z
 refine gc (wa hd) ?_;refine ID [2,3,4] [4] (fun(n1 d1:Int)=>[]) (fun n1 d1=>[pP 2 (.box (zA n1).cells),pP 3 (.box (zA d1).cells)]) (fun n1 d1=>0<d1/\n1≠0/\Zs n1/\Zs d1/\ag4 n1 d1=ag4 n d) ?_ ?_
 ·intro K1 J1;refine gC (fun t13=>?_) (fun t13=>?_)
  ·have e1 : d<0 := agx.1 (by have := agu d;have h9 : d.sign<0 := (by simpa[aa]using t13);omega);refine gc (Ac hn) ?_;refine gc (Ac hd) ?_;refine gD ?_;exact yA J1 (-n) (-d) ⟨by omega,by omega,hn.neg,hd.neg,Ko n d⟩
  have e1:0<d:=by
   have h9:0<=d.sign:=by simpa[aa]using t13
   have:=agv.1 h9;omega
  exact yA J1 n d ⟨e1,e0,hn,hd,rfl⟩
 rintro n1 d1 ⟨f1,f2,f3,f4,f5⟩;refine gc (Yb f3 f4) ?_;refine gc (wa f3) ?_;refine Fu [2,3,4,5] [3,4,5] (fun(n2:Int)=>[pP 6 (bl (decide (n1<0)))]) (fun n2=>[pP 2 (.box (zA n2).cells)]) (fun n2=>n2=(n1.natAbs:Int)) ?_ ?_
 ·intro K2 J2;refine gC (fun t24=>?_) (fun t24=>?_)
  ·have e2 : n1<0 := agx.1 (by have := agu n1;have h9 : n1.sign<0 := (by simpa[aa]using t24);omega);refine gc (Ac f3) ?_;exact ta J2 (-n1) oz (hw:=Wk.of (.cons rfl (.of (by rw[show aa .lss n1.sign 0=true from t24,ajk e2];rfl)) (.k (.k (.k (.k .nil))))) (.k (.k (.k (.k .nil)))))
  have e2:0<n1:=by
   have h9:0<=n1.sign:=by simpa[aa]using t24
   have:=agv.1 h9;omega
  exact ta J2 n1 oz (hw:=Wk.of (.cons rfl (.of (by rw[show aa .lss n1.sign 0=false from t24,ajl oz];rfl)) (.k (.k (.k (.k .nil))))) (.k (.k (.k (.k .nil)))))
 rintro n2 g1;have g2:Zs (ags n1 d1:Int):=f3.of_le (by rw[ai3];exact Nat.le_of_dvd oz (Int.gcd_dvd_natAbs_left _ _));have g3:(ags n1 d1:Int)≠0:=by have:=Int.gcd_pos_of_ne_zero_left d1 f2;omega
 have g4:Zs n2:=f3.of_le oz;refine gc (Mw g4 g2 g3) ?_;refine gc (Mw f4 g2 g3) ?_;refine ah ?_;rw[<- f5,<- VN f1 f2,<- g1];rfl
theorem Ov{n d:Int}(hn:Zs n)(hd:Zs d):FP 361 [zA n,zA d] (.tup [qA (ag4 n d),db (if d=0 then 8 else 0)]):=by
 refine ak func361 ?_;refine gc (wa hd) ?_;refine gC (fun z=>?_) (fun z=>?_)
 ·have h0 : d=0 := ag0.1 (by simpa[aa]using z);refine gR ?_;exact gE (by rw[ajg h0,h0,Rat.divInt_zero];exact Sub.tup (.cons o0 (.cons (.refl _) .nil)))
 have h0:d≠0:=fun h=>by rw[h]at z;cases z
 refine gc (tj hn hd h0) ?_;refine bq ?_;rw[ajf h0];rfl
theorem pM(n:Int)(h:-9223372036854775808<=n/\n<=9223372036854775807):FP 19 [i64 n] (qA n):=by
 have hz:Zs n:=⟨2,by omega,by unfold Lz;simp only[Nat.reducePow];omega⟩
 refine ak func19 ?_;refine gc (zz n h) ?_;refine gc Er ?_;refine gc (tj hz AX oz) ?_;refine ah ?_;exact ajn qA (ag2 (n:Rat))
theorem Fo(a:Rt)(ha:a.ok):FP 279 [a.av] (qA (-a.q)):=by
 have za:=ha.qs;refine ak func279 ?_;refine gc (lK a ha) ?_;refine gc (Ac za.num) ?_;refine gc (tj za.num.neg za.den (by have:=a.q.den_nz;omega)) ?_;refine gD ?_;refine ah ?_;rw[Nd];rfl
theorem yi(a:Rt)(ha:a.ok):FP 24 [a.av] (i64 (aR a.q)):=by
 refine ak func24 ?_;refine gc (lK a ha) ?_;refine gc (wa ha.qs.num) ?_;refine ah ?_;rw[L2]
theorem DO(a b:Rt)(ha:a.ok)(hb:b.ok):FP 352 [a.av,b.av] (i64 (aR (a.q-b.q))):=by
 have za:=ha.qs;have zb:=hb.qs;have m1:=za.mul zb;have m2:=zb.mul za;refine ak func352 ?_;refine gc (lK a ha) ?_;refine gc (lK b hb) ?_;refine gc (nv za.num zb.den) ?_;refine gc (nv zb.num za.den) ?_;refine gc (GV m1.1 m2.1) ?_;refine gD ?_;refine ah ?_;rw[XG]
theorem yS(a b:Rt)(ha:a.ok)(hb:b.ok):FP 45 [a.av,b.av] (qA (a.q+b.q)):=by
 have za:=ha.qs;have zb:=hb.qs;have m1:=za.mul zb;have m2:=zb.mul za;refine ak func45 ?_;refine gc (lK a ha) ?_;refine gc (lK b hb) ?_;refine gc (nv za.num zb.den) ?_;refine gc (nv zb.num za.den) ?_;refine gc (Ub m1.1 m2.1) ?_;refine gc (nv za.den zb.den) ?_;refine gc (tj (za.cross zb) m1.2.2.1 (agw (by have:=a.q.den_nz;omega) (by have:=b.q.den_nz;omega))) ?_;refine gD ?_;refine ah ?_;rw[ET];rfl
theorem Tt(a b:Rt)(ha:a.ok)(hb:b.ok):FP 172 [a.av,b.av] (qA (a.q-b.q)):=by
 refine ak func172 ?_;refine gc (Fo b hb) ?_;refine gc (yS a (rt (-b.q)) ha hb.qs.neg.ok) ?_;refine gD ?_;refine ah ?_;rw[bH,<- Rat.sub_eq_add_neg];rfl
theorem Nx(a b:Rt)(ha:a.ok)(hb:b.ok):FP 71 [a.av,b.av] (qA (a.q*b.q)):=by
 have za:=ha.qs;have zb:=hb.qs;have m1:=za.mul zb;refine ak func71 ?_;refine gc (lK a ha) ?_;refine gc (lK b hb) ?_;refine gc (nv za.num zb.num) ?_;refine gc (nv za.den zb.den) ?_;refine gc (tj m1.2.1 m1.2.2.1 (agw (by have:=a.q.den_nz;omega) (by have:=b.q.den_nz;omega))) ?_;refine gD ?_;refine ah ?_;rw[E0];rfl
theorem GZ(a b:Rt)(ha:a.ok)(hb:b.ok):FP 389 [a.av,b.av] (.tup [qA (a.q/b.q),db (if b.q=0 then 8 else 0)]):=by
 have za:=ha.qs;have zb:=hb.qs;have m1:=za.mul zb;refine ak func389 ?_;refine gc (lK a ha) ?_;refine gc (lK b hb) ?_;refine gc (nv za.num zb.den) ?_;refine gc (nv za.den zb.num) ?_;refine gc (Ov m1.1 m1.2.2.2) ?_;refine gD ?_;refine bq ?_
 have e1:((a.q.den:Int)*b.q.num=0)=(b.q=0):=by
  apply propext;rw[<- Rat.num_eq_zero,Int.mul_eq_zero];exact⟨fun h=>h.resolve_left (by have:=a.q.den_nz;omega),.inr⟩
 simp only[No,e1];rfl
structure Pq where
  c:List Rat
  s:List Rat
  x:List Rat
  y:List Rat
def Pq.av(p:Pq):AV:=.agg [nA p.c,nA p.s,nA p.x,nA p.y]
structure Pq.ok(n e:Nat)(p:Pq):Prop where
  c:Nm n e p.c
  s:Nm n e p.s
  x:Nm n e p.x
  y:Nm n e p.y
def Vq(p:Pse):Pq:=⟨sh 0 (CC p.turn.half p.turn.t.q:Rat),sh 0 (CH p.turn.half p.turn.t.q:Rat),sh 0 (p.at_.x.q:Rat),sh 0 (p.at_.y.q:Rat)⟩
def Oo(ps:List Pse):Nat:=if ps.all Pse.ok=true then 0 else 2
def Wd(ts:LL)(b:Pl)(w:Pq):Bool :=
  AY ts (ao ts.length (lq b.c)) (ao ts.length w.c)&&AY ts (ao ts.length (lq b.s)) (ao ts.length w.s)&&AY ts (ao ts.length (lq b.x)) (ao ts.length w.x)&&AY ts (ao ts.length (lq b.y)) (ao ts.length w.y)
def mE(a:As)(ps:List Pse):Nat :=
  if fp a.rs≠0 then fp a.rs else if Oo ps≠0 then Oo ps else if a.bs.length≠ps.length then 10 else ir (a.bs.map (fun b=>pp a.rs b.l))
def mB(a:As)(ps:List Pse):Bool:=decide (mE a ps=0)&&(a.bs.zip ps).all (fun z=>Wd (llq a.rs) z.1 (Vq z.2))
theorem ab9{rs:List (List Rt)}{b:Pl}{E:Nat}(h:pp rs b.l=0)(hb:∀x∈b.l,NR x E)(h5:rs.length<=5) :
  b.av=Pq.av ⟨lq b.c,lq b.s,lq b.x,lq b.y⟩/\Pq.ok rs.length E ⟨lq b.c,lq b.s,lq b.x,lq b.y⟩:=by
 have h1:=(Q9 h).2
 have g:∀x∈b.l,nR x=nA (lq x)/\Nm rs.length E (lq x):=fun x hx=>by
  obtain⟨e1,e2⟩:=(hb x hx).num (h1 x hx);exact⟨e1,h5,e2,(hb x hx).cb⟩
 have c:=g b.c (by simp[Pl.l]);have s:=g b.s (by simp[Pl.l]);have x:=g b.x (by simp[Pl.l]);have y:=g b.y (by simp[Pl.l]);exact⟨by unfold Pl.av Pq.av;rw[c.1,s.1,x.1,y.1],c.2,s.2,x.2,y.2⟩
instance:Inhabited Tn:=⟨⟨⟨false,[],[]⟩,false⟩⟩
def dO(n:Nat)(ok:Nat->Bool):Option Nat:=(List.range n).find? (fun i=>!ok i)
theorem j5{n i:Nat}{ok:Nat->Bool}(hi:i<n)(h:∀j,j<i->ok j=true)(he:ok i=false):dO n ok=some i:=by
 unfold dO;rw[af3];exact⟨by rw[he];rfl,by simpa using hi,fun j hj=>by rw[h j hj];rfl⟩
theorem kt{n:Nat}{ok:Nat->Bool}(h:∀j,j<n->ok j=true):dO n ok=none:=by
 unfold dO;rw[afx];exact fun j hj=>by rw[h j hj];rfl
theorem Xr{n:Nat}{ok:Nat->Bool}(h:dO n ok=none):∀j,j<n->ok j=true:=by
 unfold dO at h;rw[afx]at h;intro j hj;have:=h j hj;simpa using this
def uv:Option Nat->Int
  |none=>-1
  |some i=>i
abbrev r8(ts:LL)(x:List Rt):T ts.length:=ao ts.length (lq x)
def zu(ts:LL)(b:Pl)(m:Mk):T ts.length×T ts.length:=(Jh ts (r8 ts b.c) (r8 ts b.s) (r8 ts b.x) m.x.q m.y.q,JQ ts (r8 ts b.c) (r8 ts b.s) (r8 ts b.y) m.x.q m.y.q)
def BI(l:Li)(a:As)(body pt:Int):T (llq a.rs).length×T (llq a.rs).length:=zu (llq a.rs) (a.bs.getD body.toNat default) ((bV l body).getD pt.toNat default)
theorem ft{l:Li}(h:ax l=0):il l=0/\ez l=0/\gK l=0/\l.bo.length<=8/\l.bo.length≠0:=by
 unfold ax at h;split at h
 ·cases h
 ·split at h
  ·cases h
  ·split at h
   ·cases h
   ·split at h
    ·rename_i h1;exact ajm h h1
    ·rename_i g1 _ h1;split at h
     ·rename_i h2;exact ajm h h2
     ·rename_i h2;exact⟨ah2.1 h1,ah2.1 h2,h,by omega,by omega⟩
theorem Hw{l:Li}(h:ax l=0){i:Nat}{j:Jt}(hj:l.jo[i]?=some j):ew l j=0:=by
 have h1:=(ft h).2.1;unfold ez at h1;split at h1
 ·cases h1
 ·have h2:=w9 h1 i (afl.1 hj).1;unfold gh at h2;rw[aP hj]at h2;split at h2
  ·cases h2
  ·split at h2
   ·cases h2
   ·exact h2
theorem ee{l:Li}(h:ax l=0){i:Nat}{j:Jt}(hj:l.jo[i]?=some j) :
  aX j.a l.bo.length=true/\aX j.b l.bo.length=true/\aX j.point (bV l j.a).length=true/\aX j.on (bV l j.b).length=true/\(j.kind≠0->aX j.to (bV l j.b).length=true):=by
 have h1:=Hw h hj;unfold ew at h1;split at h1
 ·cases h1
 ·split at h1
  ·cases h1
  ·rename_i h2;split at h1
   ·cases h1
   ·split at h1
    ·cases h1
    ·rename_i h3;have a1:aX j.a l.bo.length = true:=by cases h:aX j.a l.bo.length <;> simp_all
     have a2:aX j.b l.bo.length=true:=by cases h:aX j.b l.bo.length <;> simp_all
     have a3:aX j.point (bV l j.a).length=true:=by cases h:aX j.point (bV l j.a).length <;> simp_all
     have a4:aX j.on (bV l j.b).length=true:=by cases h:aX j.on (bV l j.b).length <;> simp_all
     refine⟨a1,a2,a3,a4,fun hk=>?_⟩;rw[ajf hk]at h1;split at h1
     ·cases h1
     ·rename_i h4;cases h:aX j.to (bV l j.b).length <;> simp_all
theorem qj{l:Li}(h:ax l=0){i:Nat}{d:Dr}(hd:l.drivers[i]?=some d):aX d.body l.bo.length=true:=by
 have h1:=(ft h).2.2.1;unfold gK at h1;split at h1
 ·cases h1
 ·have h2:=w9 h1 i (afl.1 hd).1;unfold dH at h2;rw[aP hd]at h2;split at h2
  ·cases h2
  ·split at h2
   ·cases h2
   ·split at h2
    ·cases h2
    ·rename_i h3;cases h:aX d.body l.bo.length <;> simp_all
theorem Vi{l:Li}(h:ax l=0){n k:Nat}{b:Bd}{m:Mk}(hb:l.bo[n]?=some b)(hm:b.pts[k]?=some m):m.x.valid=true/\m.y.valid=true:=by
 have h2:=w9 (ft h).1 n (afl.1 hb).1;unfold eh at h2;rw[aP hb]at h2;split at h2
 ·cases h2
 ·split at h2
  ·cases h2
  ·split at h2
   ·cases h2
   ·have h3:=w9 h2 k (afl.1 hm).1;unfold dP at h3;rw[aP hm]at h3;split at h3
    ·cases h3
    ·split at h3
     ·cases h3
     ·split at h3
      ·assumption
      ·cases h3
theorem ZI{ts:LL}{r e f:Nat}(tw:Tw ts r){b:Pl}{m:Mk}(hb:Pq.ok ts.length e ⟨lq b.c,lq b.s,lq b.x,lq b.y⟩)(hx:Qb f m.x.q)(hy:Qb f m.y.q) :
  Nm ts.length (3*e+2*f+2*kB r ts.length+10) (sh ts.length (zu ts b m).1)/\Nm ts.length (3*e+2*f+2*kB r ts.length+10) (sh ts.length (zu ts b m).2):=by
 have nx:=Nm.ofQ tw.five (Cb.one hx);have ny:=Nm.ofQ tw.five (Cb.one hy);have h1:=(Y9 tw hb.c hb.s nx ny).add hb.x;rw[acs]at h1;have h2:=(P9 tw hb.c hb.s nx ny).add hb.y;rw[Y6]at h2;exact⟨h1.mono oz,h2.mono oz⟩
structure Gr where
  kind:Int
  bo:List Int
  jo:List Int
  driver:Int
instance:Inhabited Gr:=⟨⟨0,[],[],0⟩⟩
def Gr.av(g:Gr):AV:=.agg [i64 g.kind,.lst 1 (g.bo.map i64),.lst 1 (g.jo.map i64),i64 g.driver]
def kn(k:List Bool)(i:Int):Bool:=k.getD i.toNat false
def cB(n:Nat)(b:Int):List Bool:=(afv n false).set b.toNat true
def sV(l:Li)(b:Int):Bool:=l.drivers.any (fun d=>decide (d.body=b))
def eV(l:Li)(kw:List Bool)(b:Int):Bool:=!kn kw b&&!sV l b
def mf(kind body:Int)(oth:List Bool)(j:Jt):Bool:=decide (j.kind=kind)&&(decide (j.a=body)&&kn oth j.b||decide (j.b=body)&&kn oth j.a)
def bC(l:Li)(kind body:Int)(oth:List Bool):Int:=uv (dO l.jo.length (fun i=>!mf kind body oth (l.jo.getD i default)))
def gd(l:Li)(kw:List Bool)(i:Nat):Bool:=!kn kw (l.drivers.getD i default).body&&decide (0<=bC l 0 (l.drivers.getD i default).body kw)
def du(l:Li)(kw:List Bool):Option Gr :=
  (dO l.drivers.length (fun i=>!gd l kw i)).map fun i=>⟨0,[(l.drivers.getD i default).body],[bC l 0 (l.drivers.getD i default).body kw],i⟩
def df(l:Li)(kw:List Bool)(i k:Nat):Bool :=
  (eV l kw i&&eV l kw k)&&(decide (0<=bC l 0 i kw)&&decide (0<=bC l 0 k kw)&&decide (0<=bC l 0 i (cB l.bo.length k)))
def ik(l:Li)(kw:List Bool)(i:Nat):Option Nat:=(dO (l.bo.length-(i+1)) (fun k=>!df l kw i (i+1+k))).map (·+(i+1))
def ia(l:Li)(kw:List Bool)(i k:Nat):Gr:=⟨1,[i,k],[bC l 0 i kw,bC l 0 k kw,bC l 0 i (cB l.bo.length k)],0⟩
def cH(l:Li)(kw:List Bool):Option Gr :=
  (dO l.bo.length (fun i=>(ik l kw i).isNone)).map fun i=>match ik l kw i with
    |some k=>ia l kw i k
    |none=>default
def fV(l:Li)(kw:List Bool)(i:Nat):Bool:=eV l kw i&&(decide (0<=bC l 0 i kw)&&decide (0<=bC l 1 i kw))
def iP(l:Li)(kw:List Bool)(i:Nat):Gr :=
  ⟨if(l.jo.getD (bC l 1 i kw).toNat default).a=i then 2 else 3,[i],[bC l 0 i kw,bC l 1 i kw],0⟩
def d5(l:Li)(kw:List Bool):Option Gr:=(dO l.bo.length (fun i=>!fV l kw i)).map (iP l kw)
def bY(l:Li)(kw:List Bool):Option Gr:=(du l kw).or ((cH l kw).or (d5 l kw))
def ba(kw:List Bool)(bs:List Int):List Bool:=bs.foldl (fun k b=>k.set b.toNat true) kw
def cw(l:Li):Nat->List Bool->List Gr->List Bool×List Gr
  |0,kw,out=>(kw,out)
  |n+1,kw,out=>match bY l kw with
    |none=>(kw,out)
    |some g=>cw l n (ba kw g.bo) (out++[g])
def ce(l:Li):List Gr:=(cw l l.bo.length (cB l.bo.length 0) []).2
def bW(l:Li):List Bool:=(ce l).foldl (fun k g=>ba k g.bo) (cB l.bo.length 0)
def fo(l:Li):List Bool:=(ce l).foldl (fun k g=>ba k g.jo) (afv l.jo.length false)
def eY(k:List Bool):List Int:=((List.range k.length).filter (fun i=>!k.getD i false)).map (fun i:Nat=>((i:Nat):Int))
def bU(l:Li):Nat:=if(eY (bW l)).length+(eY (fo l)).length=0 then 0 else 7
def aC(l:Li):List Gr:=if bU l=0 then ce l else[]
theorem ML{kind body:Int}{oth:List Bool}{j:Jt}{va vb:Bool}(ea:kn oth j.a=va)(eb:kn oth j.b=vb) :
  cond (aa .eql j.kind kind) (cond (cond (aa .eql j.a body) vb false) true (cond (aa .eql j.b body) va false)) false=mf kind body oth j:=by
 unfold mf;rw[sf,sf,sf,ea,eb,mG,mG,mG,Fa]
theorem jh(n:Nat)(b:Int):(cB n b).length=n:=by unfold cB;simp
theorem lF:∀(bs:List Int)(k:List Bool),(ba k bs).length=k.length
 |[],k=>rfl
 |b::bs,k=>by
  show(ba (k.set b.toNat true) bs).length=_;rw[lF bs];simp
theorem fj{n i:Nat}{ok:Nat->Bool}(h:dO n ok=some i):i<n/\ok i=false:=by
 unfold dO at h;rw[af3]at h;exact⟨by simpa using h.2.1,by simpa using h.1⟩
theorem oM{l:Li}{kind body:Int}{oth:List Bool}:-1<=bC l kind body oth/\bC l kind body oth<l.jo.length:=by
 unfold bC;cases h:dO l.jo.length (fun i=>!mf kind body oth (l.jo.getD i default))with
 |none=>exact⟨by decide,by show(-1:Int)<_;omega⟩
 |some i=>have:=(fj h).1;exact⟨by show(-1:Int)<=(i:Int);omega,by show(i:Int)<_;omega⟩
structure GrOk(l:Li)(g:Gr):Prop where
  b:∀x∈g.bo,0<=x/\x<l.bo.length
  j:∀x∈g.jo,0<=x/\x<l.jo.length
  lb:g.bo.length<=2
  lj:g.jo.length<=3
theorem abj{l:Li}(hl:ax l=0){kw:List Bool}{g:Gr}(h:du l kw=some g):GrOk l g:=by
 unfold du at h;rw[ah8]at h;obtain⟨i,hi,rfl⟩:=h;obtain⟨h1,h2⟩:=fj hi;obtain⟨d,hd⟩:=aB h1;have h3:=dM (qj hl hd);unfold gd at h2;simp only[ahc,ah7,ajh]at h2;rw[aP hd]at h2 ⊢;have h4:=oM (l:=l) (kind:=0) (body:=d.body) (oth:=kw);refine⟨fun x hx=>?_,fun x hx=>?_,by simp,by simp⟩
 ·rw[afr.1 hx];exact h3
 ·rw[afr.1 hx];exact⟨h2.2,h4.2⟩
theorem aa9{l:Li}{kw:List Bool}{g:Gr}(h:cH l kw=some g):GrOk l g:=by
 unfold cH at h;rw[ah8]at h;obtain⟨i,hi,h⟩:=h;obtain⟨h1,h2⟩:=fj hi;split at h
 ·rename_i k hk;subst h;unfold ik at hk;rw [ah8] at hk;obtain ⟨k',hk',rfl⟩:=hk;obtain ⟨h3,h4⟩:=fj hk';rw [show i + 1 + k' = k' + (i + 1) by omega] at h4;unfold df at h4;simp only [ahc,ah7,ajh] at h4;obtain ⟨_,⟨j1,j2⟩,j3⟩:=h4;refine ⟨fun x hx=>?_,fun x hx=>?_,by simp [ia],by simp [ia]⟩
  ·simp only[ia,aiq,aim,or_false]at hx;rcases hx with rfl |rfl <;> constructor <;> omega
  ·simp only[ia,aiq,aim,or_false]at hx;rcases hx with rfl |rfl |rfl
   ·exact⟨j1,oM.2⟩
   ·exact⟨j2,oM.2⟩
   ·exact⟨j3,oM.2⟩
 ·rename_i hk;rw[hk]at h2;cases h2
theorem Z0{l:Li}{kw:List Bool}{g:Gr}(h:d5 l kw=some g):GrOk l g:=by
 unfold d5 at h;rw[ah8]at h;obtain⟨i,hi,rfl⟩:=h;obtain⟨h1,h2⟩:=fj hi;unfold fV at h2;simp only[ahc,ah7,ajh]at h2;obtain⟨_,j1,j2⟩:=h2;refine⟨fun x hx=>?_,fun x hx=>?_,by simp[iP],by simp[iP]⟩
 ·simp only[iP,aiq,aim,or_false]at hx;subst hx;constructor <;> omega
 ·simp only[iP,aiq,aim,or_false]at hx;rcases hx with rfl |rfl
  ·exact⟨j1,oM.2⟩
  ·exact⟨j2,oM.2⟩
theorem Cr{l:Li}(hl:ax l=0){kw:List Bool}{g:Gr}(h:bY l kw=some g):GrOk l g:=by
 unfold bY at h;cases h1:du l kw with
 |some g'=>rw[h1]at h;cases h;exact abj hl h1
 |none =>
  rw[h1]at h;cases h2:cH l kw with
  |some g'=>rw[h2]at h;cases h;exact aa9 h2
  |none=>rw[h2]at h;exact Z0 h
theorem KT{l:Li}(hl:ax l=0):∀(n:Nat)(kw:List Bool)(out:List Gr),(∀g∈out,GrOk l g)->(∀g∈(cw l n kw out).2,GrOk l g)/\(cw l n kw out).2.length<=out.length+n
 |0,kw,out,h=>⟨h,by simp[cw]⟩
 |n+1,kw,out,h=>by
  unfold cw;cases hg:bY l kw with
  |none=>exact⟨h,by simp⟩
  |some g =>
   have h1:=KT hl n (ba kw g.bo) (out++[g]) (fun x hx=>by
    rcases aia.1 hx with hx |hx
    ·exact h x hx
    ·rw[afr.1 hx];exact Cr hl hg)
   refine⟨h1.1,?_⟩;have:=h1.2;rw[ai0]at this;show(cw l n (ba kw g.bo) (out++[g])).2.length<=_;simp only[aij,aiv]at this;omega
theorem yX{l:Li}(hl:ax l=0):(∀g∈ce l,GrOk l g)/\(ce l).length<=8:=by
 have h:=KT hl l.bo.length (cB l.bo.length 0) [] (fun g hg=>by cases hg);have h8:=(ft hl).2.2.2.1;exact⟨h.1,by have:=h.2;simp only[aiv]at this;unfold ce;omega⟩
def kD(j:Jt)(b:Int):Int:=if b=j.a then j.b else if b=j.b then j.a else -1
def Ak(kind body:Int)(p:Int->Bool)(j:Jt):Bool:=decide (j.kind=kind)&&(decide (0<=kD j body)&&p (kD j body))
def gJ(l:Li)(kind body:Int)(p:Int->Bool):Int:=uv (dO l.jo.length (fun i=>!Ak kind body p (l.jo.getD i default)))
theorem abi{b:Bool}{z:Int}(h:cond b (aa .geq z 0) false=true):0<=z:=by
 cases b
 ·cases h
 ·exact aji h
theorem XI{a k z:Int}{q:Bool}:cond (cond (aa .eql a k) (aa .geq z 0) false) q false=(decide (a=k)&&(decide (0<=z)&&q)):=by
 rw[sf,show aa .geq z 0=decide (0<=z)from rfl,mG,mG,Bool.and_assoc]
theorem UK{l:Li}(af:ax l=0){i:Nat}{j:Jt}(hj:l.jo[i]?=some j)(b:Int):kD j b<l.bo.length:=by
 obtain⟨i1,i2,_⟩:=ee af hj;have b1:=dM i1;have b2:=dM i2;unfold kD;split
 ·omega
 ·split <;> omega
theorem aaw{n:Nat}{ok ok':Nat->Bool}(h:∀i,i<n->ok i=ok' i):dO n ok=dO n ok':=by
 unfold dO
 have:∀l:List Nat,(∀i∈l,i<n)->l.find? (fun i=>!ok i)=l.find? (fun i=>!ok' i):=by
  intro l
  induction l with
  |nil=>intro _;rfl
  |cons a l ih =>
   intro hl;simp only[List.find?_cons,h a (hl a (by simp)),ih (fun i hi=>hl i (by simp[hi]))]
 exact this _ (fun i hi=>afy.1 hi)
theorem Ey{l:Li}(af:ax l=0){kind body:Int}{p:Int->Bool}{oth:List Bool}(h:∀o:Int,0<=o->o<l.bo.length->p o=kn oth o):gJ l kind body p=bC l kind body oth:=by
 unfold gJ bC;rw[aaw];intro i hi;obtain⟨j,hj⟩:=aB hi;rw[aP hj];obtain⟨i1,i2,_⟩:=ee af hj;have b1:=dM i1;have b2:=dM i2;congr 1;unfold Ak mf;congr 1;unfold kD
 by_cases h1:body=j.a
 ·subst h1;rw[ajg rfl,h _ b2.1 b2.2]
  by_cases h2:j.b=j.a
  ·simp[h2,b1.1]
  ·simp[h2,b2.1]
 ·rw[ajf h1]
  by_cases h2:body=j.b
  ·subst h2;rw[ajg rfl,h _ b1.1 b1.2];have h3:¬j.a=j.b:=fun e=>h1 e.symm
   simp[h3,b1.1]
  ·rw[ajf h2];have h3:¬j.a=body:=fun e=>h1 e.symm
   have h4:¬j.b=body:=fun e=>h2 e.symm
   simp[h3,h4]
theorem KL{k:List Bool}{i:Nat}{b:Int}(h0:0<=b)(hi:i<k.length):kn (k.set i true) b=(decide (b=i)||kn k b):=by
 unfold kn;rw[ah4,af4,ah4]
 by_cases h:b=i
 ·rw[ajk h,Bool.true_or,ajg oz];rw[ajg oz];rfl
 ·rw[ajl h,Bool.false_or,ajf oz]
theorem C9:∀{bs:List Int}{k:List Bool}{b:Int},0<=b->(∀x∈bs,0<=x/\x<k.length)->kn (ba k bs) b=(bs.any (fun x=>decide (x=b))||kn k b)
 |[],k,b,h0,h=>by simp[ba]
 |x::bs,k,b,h0,h=>by
  show kn (ba (k.set x.toNat true) bs) b=_;obtain⟨lg,rN⟩:=h x (by simp);rw[C9 h0 (fun y hy=>by rw[aje];exact h y (by simp[hy])),KL h0 oz,List.any_cons];have e:decide (b=(x.toNat:Int))=decide (x=b):=decide_eq_decide.2 oz;rw[e];cases decide (x=b) <;> simp
theorem I7(n:Nat)(b:Int):kn (afv n false) b=false:=by
 unfold kn;rw[ah4,aix];split <;> rfl
def bE(l:Li):List Bool:=ba (afv l.bo.length false) (l.drivers.map Dr.body)
theorem wJ(l:Li):(bE l).length=l.bo.length:=by unfold bE;rw[lF,aiu]
theorem RZ{l:Li}(af:ax l=0){b:Int}(h0:0<=b):kn (bE l) b=sV l b:=by
 unfold bE sV;rw[C9 h0,I7,Bool.or_false,List.any_map]
 ·rfl
 ·intro x hx;obtain⟨d,hd,rfl⟩:=af0.1 hx;obtain⟨i,hi⟩:=List.mem_iff_getElem?.1 hd;have:=dM (qj af hi);rw[aiu];omega
theorem uy{n:Nat}{b o:Int}(h0:0<=o)(iC:0<=b)(hb:b<n):kn (cB n b) o=decide (o=b):=by
 unfold cB;rw[KL h0 (by rw[aiu];omega),I7,Bool.or_false];exact decide_eq_decide.2 oz
def dA(k:List Bool):Nat:=k.countP (fun x=>!x)
theorem Un{k:List Bool}{i:Nat}(h:k[i]?=some false):dA (k.set i true)+1=dA k:=by
 unfold dA;have hi:=(afl.1 h).1;have he:=(afl.1 h).2;rw[List.countP_set hi,he];have:0<k.countP (fun x=>!x):=List.countP_pos_iff.2 ⟨false,ah3 h,rfl⟩;simp;omega
theorem Zh(k:List Bool)(i:Nat):dA (k.set i true)<=dA k:=by
 by_cases hi:i<k.length
 ·unfold dA;rw[List.countP_set hi];simp
 ·rw[List.set_eq_of_length_le oz];exact aie _
theorem M1:∀(bs:List Int)(k:List Bool),dA (ba k bs)<=dA k
 |[],k=>aie _
 |x::bs,k=>aiw (M1 bs (k.set x.toNat true)) (Zh k _)
theorem V3{x:Int}{bs:List Int}{k:List Bool}(h:k[x.toNat]?=some false):dA (ba k (x::bs))<dA k:=by
 have h1:=M1 bs (k.set x.toNat true);have h2:=Un h;show dA (ba (k.set x.toNat true) bs)<_;omega
theorem DM{k:List Bool}{b:Int}(h:kn k b=false)(h1:b.toNat<k.length):k[b.toNat]?=some false:=by
 unfold kn at h;rw[ah4,ah9 h1]at h;rw[ah9 h1];simpa using h
theorem Q4{l:Li}(hl:ax l=0){kw:List Bool}(hk:kw.length=l.bo.length){g:Gr}(h:bY l kw=some g):∃x bs,g.bo=x::bs/\kw[x.toNat]?=some false:=by
 unfold bY at h;cases h1:du l kw with
 |some g' =>
  rw[h1]at h;cases h
  unfold du at h1;rw[ah8]at h1;obtain⟨i,hi,rfl⟩:=h1;obtain⟨h2,h3⟩:=fj hi;obtain⟨d,hd⟩:=aB h2;have h4:=dM (qj hl hd);rw[aP hd]at *;unfold gd at h3;rw[aP hd]at h3;simp only[ahc,ah7,ahh,ajh]at h3;exact⟨_,_,rfl,DM h3.1 oz⟩
 |none =>
  rw[h1]at h;cases h2:cH l kw with
  |some g' =>
   rw[h2]at h;cases h
   unfold cH at h2;rw[ah8]at h2;obtain⟨i,hi,h2⟩:=h2;obtain⟨h3,h4⟩:=fj hi;split at h2
   ·rename_i k hk';subst h2;unfold ik at hk';rw[ah8]at hk';obtain⟨k',hk',rfl⟩:=hk';obtain⟨h5,h6⟩:=fj hk';unfold df eV at h6;simp only[ahc,ah7,ahh,ajh]at h6;exact⟨_,_,rfl,DM h6.1.1.1 oz⟩
   ·rename_i hk';rw[hk']at h4;cases h4
  |none =>
   rw[h2]at h;have h:d5 l kw=some g:=h;unfold d5 at h;rw[ah8]at h;obtain⟨i,hi,rfl⟩:=h;obtain⟨h3,h4⟩:=fj hi;unfold fV eV at h4;simp only[ahc,ah7,ahh,ajh]at h4;exact⟨_,_,rfl,DM h4.1.1 oz⟩
theorem we{l:Li}(hl:ax l=0){kw:List Bool}(hk:kw.length=l.bo.length){g:Gr}(h:bY l kw=some g):dA (ba kw g.bo)<dA kw:=by
 obtain⟨x,bs,e,h1⟩:=Q4 hl hk h;rw[e];exact V3 h1
theorem E9{l:Li}(hl:ax l=0):∀(n m:Nat)(kw:List Bool)(out:List Gr),kw.length=l.bo.length->dA kw<=n->dA kw<=m->cw l n kw out=cw l m kw out
 |0,0,kw,out,hk,h1,h2=>rfl
 |0,m+1,kw,out,hk,h1,h2=>by
  unfold cw;cases hg:bY l kw with
  |none=>rfl
  |some g=>have:=we hl hk hg;omega
 |n+1,0,kw,out,hk,h1,h2=>by
  unfold cw;cases hg:bY l kw with
  |none=>rfl
  |some g=>have:=we hl hk hg;omega
 |n+1,m+1,kw,out,hk,h1,h2=>by
  unfold cw;cases hg:bY l kw with
  |none=>rfl
  |some g =>
   have:=we hl hk hg;exact E9 hl n m _ _ (by rw[lF];exact hk) oz oz
theorem EK{l:Li}:∀(n:Nat)(kw:List Bool)(out:List Gr),∃gs,cw l n kw out=(gs.foldl (fun k g=>ba k g.bo) kw,out++gs)
 |0,kw,out=>⟨[],by simp[cw]⟩
 |n+1,kw,out=>by
  unfold cw;cases hg:bY l kw with
  |none=>exact⟨[],by simp⟩
  |some g =>
   obtain⟨gs,e⟩:=EK n (ba kw g.bo) (out++[g]);exact⟨g::gs,by show cw l n _ _=_;rw[e];simp⟩
theorem VH(l:Li):cw l l.bo.length (cB l.bo.length 0) []=(bW l,ce l):=by
 obtain⟨gs,e⟩:=EK (l:=l) l.bo.length (cB l.bo.length 0) [];unfold bW ce;rw[e];simp
theorem Oc{k:List Bool}:(eY k).length=0↔k.contains false=false:=by
 unfold eY;rw[ah6,af7,List.filter_eq_nil_iff];constructor
 ·intro h;rw[<- Bool.not_eq_true,age];intro hm;obtain⟨i,hi⟩:=List.mem_iff_getElem?.1 hm;have hlt:=(afl.1 hi).1;have:=h i (afy.2 hlt);rw[ah4,hi]at this;simp at this
 ·intro h i hi;rw[<- Bool.not_eq_true,age]at h;intro hc;have hlt:=afy.1 hi;rw[ah4,ah9 hlt]at hc;simp at hc;exact h (hc▸agb hlt)
theorem tb:Sub (.agg [.v (.int .i64 0),.v (.slice none 0 0),.v (.slice none 0 0),.v (.int .i64 0)]) (Gr.av default):=.agg (.cons (.refl _) (.cons (.nil _ _ _) (.cons (.nil _ _ _) (.cons (.refl _) .nil)))) rfl
theorem NC{z:Int}(h:aa .geq z 0=true):0<=z:=aji h
theorem Mp{z:Int}(h:aa .geq z 0=false):¬0<=z:=ajj h
theorem zE{a b c:Int}:cond (cond (aa .geq a 0) (aa .geq b 0) false) (aa .geq c 0) false=(decide (0<=a)&&decide (0<=b)&&decide (0<=c)):=by
 have e:∀z:Int,aa .geq z 0=decide (0<=z):=fun z=>rfl
 rw[e,e,e,mG,mG]
theorem GO{a b:Int}:cond (aa .lss a 0) true (aa .lss b 0)=!(decide (0<=a)&&decide (0<=b)):=by
 have e:∀z:Int,aa .lss z 0=!decide (0<=z):=fun z=>by rw[<- decide_not];exact decide_eq_decide.2 oz
 rw[e,e,Fa,Bool.not_and]
theorem HN{a b:Int}(h:cond (aa .lss a 0) true (aa .lss b 0)=true):(decide (0<=a)&&decide (0<=b))=false:=by rw[GO]at h;exact dR h
theorem JA{a b:Int}(h:cond (aa .lss a 0) true (aa .lss b 0)=false):0<=a/\0<=b:=by
 rw[GO]at h;have:=eK h;simpa using this
structure TieO(l:Li)(kind:Int)(bs:List Int)(z b:Int)(j:Jt):Prop where
  hz:0<=z
  hj:l.jo[z.toNat]?=some j
  kd:j.kind=kind
  tie:(j.a=b/\j.b∉bs)\/(j.b=b/\j.a∉bs)
inductive DyK(l:Li):Gr->Prop where
  |drv {b z d:Int} {j:Jt} {x:Dr} (t:TieO l 0 [b] z b j) (d0:0<=d) (hd:l.drivers[d.toNat]?=some x) (hb:x.body=b):DyK l ⟨0,[b],[z],d⟩
  |rrr {i k z0 z1 z2:Int} {j0 j1 j2:Jt} (ne:i≠k) (t0:TieO l 0 [i,k] z0 i j0) (t1:TieO l 0 [i,k] z1 k j1) (h0:0<=z2) (h2:l.jo[z2.toNat]?=some j2) (kd:j2.kind=0)
      (tie:(j2.a=i/\j2.b=k)\/(j2.b=i/\j2.a=k)):DyK l ⟨1,[i,k],[z0,z1,z2],0⟩
  |pr {i z0 z1:Int} {j0 j1:Jt} (t0:TieO l 0 [i] z0 i j0) (t1:TieO l 1 [i] z1 i j1) (ha:j1.a=i):DyK l ⟨2,[i],[z0,z1],0⟩
  |rp {i z0 z1:Int} {j0 j1:Jt} (t0:TieO l 0 [i] z0 i j0) (t1:TieO l 1 [i] z1 i j1) (ha:j1.a≠i):DyK l ⟨3,[i],[z0,z1],0⟩
theorem AR{l:Li}{kind b:Int}{oth:List Bool}(h:0<=bC l kind b oth) :
  ∃(i:Nat)(j:Jt),bC l kind b oth=(i:Int)/\l.jo[i]?=some j/\j.kind=kind/\((j.a=b/\kn oth j.b=true)\/(j.b=b/\kn oth j.a=true)):=by
 unfold bC at h ⊢;cases hf:dO l.jo.length (fun i=>!mf kind b oth (l.jo.getD i default))with
 |none=>rw[hf]at h;exact ajm h (by decide)
 |some i =>
  obtain⟨h1,h2⟩:=fj hf;obtain⟨j,hj⟩:=aB h1;rw[aP hj]at h2;unfold mf at h2;simp only[ahc,ah7,ajb,ajh]at h2;exact⟨i,j,rfl,hj,h2.1,h2.2⟩
theorem vF{l:Li}{kind b:Int}{kw:List Bool}{bs:List Int}(hb:∀x∈bs,kn kw x=false)(h:0<=bC l kind b kw):∃j,TieO l kind bs (bC l kind b kw) b j:=by
 obtain⟨i,j,e,hj,hk,ht⟩:=AR h;have hn:∀x,kn kw x=true->x∉bs:=fun x hx hm=>by rw[hb x hm]at hx;cases hx
 refine⟨j,h,by rw[e,ai6];exact hj,hk,?_⟩;rcases ht with⟨h1,h2⟩ |⟨h1,h2⟩
 ·exact .inl ⟨h1,hn _ h2⟩
 ·exact .inr ⟨h1,hn _ h2⟩
theorem sJ{l:Li}{kw:List Bool}{b:Int}(h:eV l kw b=true):kn kw b=false:=by
 unfold eV at h;simp only[ah7,ahh]at h;exact h.1
theorem yy{kw:List Bool}{b:Int}(h:kn kw b=false):∀x∈[b],kn kw x=false:=fun x hx=>by rw[afr.1 hx];exact h
theorem aai{l:Li}(hl:ax l=0){kw:List Bool}{g:Gr}(h:du l kw=some g):DyK l g:=by
 unfold du at h;rw[ah8]at h;obtain⟨i,hi,rfl⟩:=h;obtain⟨h1,h2⟩:=fj hi;obtain⟨d,hd⟩:=aB h1;unfold gd at h2;simp only[ahc,ah7,ajh,ahh]at h2;rw[aP hd]at h2 ⊢;obtain⟨j,hj⟩:=vF (yy h2.1) h2.2;exact .drv hj oz (by rw[ai6];exact hd) rfl
theorem WH{l:Li}(hl:ax l=0){kw:List Bool}{g:Gr}(h:cH l kw=some g):DyK l g:=by
 unfold cH at h;rw[ah8]at h;obtain⟨i,hi,h⟩:=h;obtain⟨h1,h2⟩:=fj hi;split at h
 ·rename_i k hk;subst h;unfold ik at hk;rw [ah8] at hk;obtain ⟨k',hk',rfl⟩:=hk;obtain ⟨h3,h4⟩:=fj hk';rw [show i + 1 + k' = k' + (i + 1) by omega] at h4;unfold df at h4;simp only [ahc,ah7,ajh] at h4;obtain ⟨⟨f1,f2⟩,⟨j1,j2⟩,j3⟩:=h4
  have hb:∀x∈[(i:Int),((k'+(i+1):Nat):Int)],kn kw x=false:=fun x hx=>by
   simp only[aiq,aim,or_false]at hx;rcases hx with rfl |rfl
   ·exact sJ f1
   ·exact sJ f2
  obtain⟨a0,t0⟩:=vF hb j1;obtain⟨a1,t1⟩:=vF hb j2;obtain⟨n,a2,e,hj,iy,ht⟩:=AR j3;obtain⟨i1,i2,_⟩:=ee hl hj;have i1:=(dM i1).1;have i2:=(dM i2).1;refine .rrr oz t0 t1 j3 (by rw[e,ai6];exact hj) iy ?_;rcases ht with⟨e1,e2⟩ |⟨e1,e2⟩
  ·rw[uy i2 oz oz]at e2;exact .inl ⟨e1,aji e2⟩
  ·rw[uy i1 oz oz]at e2;exact .inr ⟨e1,aji e2⟩
 ·rename_i hk;rw[hk]at h2;cases h2
theorem Rg{l:Li}{kw:List Bool}{g:Gr}(h:d5 l kw=some g):DyK l g:=by
 unfold d5 at h;rw[ah8]at h;obtain⟨i,hi,rfl⟩:=h;obtain⟨h1,h2⟩:=fj hi;unfold fV at h2;simp only[ahc,ah7,ajh]at h2;obtain⟨f1,j1,j2⟩:=h2;obtain⟨a0,t0⟩:=vF (yy (sJ f1)) j1;obtain⟨a1,t1⟩:=vF (yy (sJ f1)) j2;unfold iP;rw[aP t1.hj]
 by_cases e:a1.a=i
 ·rw[ajg e];exact .pr t0 t1 e
 ·rw[ajf e];exact .rp t0 t1 e
theorem Ze{l:Li}(hl:ax l=0){kw:List Bool}{g:Gr}(h:bY l kw=some g):DyK l g:=by
 unfold bY at h;cases h1:du l kw with
 |some g'=>rw[h1]at h;cases h;exact aai hl h1
 |none =>
  rw[h1]at h;cases h2:cH l kw with
  |some g'=>rw[h2]at h;cases h;exact WH hl h2
  |none=>rw[h2]at h;exact Rg h
theorem KD{l:Li}(hl:ax l=0):∀(n:Nat)(kw:List Bool)(out:List Gr),(∀g∈out,DyK l g)->∀g∈(cw l n kw out).2,DyK l g
 |0,kw,out,h=>h
 |n+1,kw,out,h=>by
  unfold cw;cases hg:bY l kw with
  |none=>exact h
  |some g=>exact KD hl n (ba kw g.bo) (out++[g]) (fun x hx=>by
    rcases aia.1 hx with hx |hx
    ·exact h x hx
    ·rw[afr.1 hx];exact Ze hl hg)
theorem lT{l:Li}(hl:ax l=0){g:Gr}(h:g∈aC l):DyK l g/\GrOk l g:=by
 unfold aC at h;split at h
 ·exact⟨KD hl _ _ _ (fun g hg=>by cases hg) g h,(yX hl).1 g h⟩
 ·cases h
open Lean.Grind
def E(r:(k:Nat)->T k)(n:Nat):Type:=T n
namespace T
theorem ofQ_zero:∀n,ofQ n 0=zero n
 |0=>rfl
 |n+1=>by simp only[ofQ,zero,ofQ_zero n]
theorem ofQ_add:∀n (p q:Rat),ofQ n (p+q)=add n (ofQ n p) (ofQ n q)
 |0,p,q=>rfl
 |n+1,p,q=>by simp only[ofQ,add,ofQ_add n,add_zero]
theorem ofQ_neg:∀n (p:Rat),ofQ n (-p)=neg n (ofQ n p)
 |0,p=>rfl
 |n+1,p=>by simp only[ofQ,neg,ofQ_neg n,H1]
end T
structure Laws(r:(k:Nat)->T k)(n:Nat):Prop where
  assoc:∀x y z,T.mul r n (T.mul r n x y) z=T.mul r n x (T.mul r n y z)
  dist:∀x y z,T.mul r n x (T.add n y z)=T.add n (T.mul r n x y) (T.mul r n x z)
  one:∀x,T.mul r n (T.ofQ n 1) x=x
theorem T.neg_mul'{r:(k:Nat)->T k}{n:Nat}(h:Laws r n)(x y:T n):T.mul r n (T.neg n x) y=T.neg n (T.mul r n x y):=by
 have h1:T.add n (T.mul r n x y) (T.mul r n (T.neg n x) y)=T.zero n:=by
  rw[T.mul_comm r n x,T.mul_comm r n (T.neg n x),<- h.dist,T.add_neg,T.mul_zero]
 have h2:=ajn (fun z=>T.add n (T.neg n (T.mul r n x y)) z) h1;simp only[T.add_zero]at h2;rw[<- T.add_assoc,T.add_comm n (T.neg n _),T.add_neg,T.zero_add]at h2;exact h2
theorem T.mul_addr{r:(k:Nat)->T k}{n:Nat}(h:Laws r n)(a b c:T n):T.mul r n (T.add n a b) c=T.add n (T.mul r n a c) (T.mul r n b c):=by
 rw[T.mul_comm r n _ c,h.dist,T.mul_comm r n c,T.mul_comm r n c]
instance (r:(k:Nat)->T k)(n:Nat):Add (E r n):=⟨T.add n⟩
instance (r:(k:Nat)->T k)(n:Nat):Mul (E r n):=⟨T.mul r n⟩
instance (r:(k:Nat)->T k)(n:Nat):Neg (E r n):=⟨T.neg n⟩
instance (r:(k:Nat)->T k)(n:Nat):_root_.Sub (E r n):=⟨fun x y=>T.add n x (T.neg n y)⟩
instance (r:(k:Nat)->T k)(n c:Nat):OfNat (E r n) c:=⟨T.ofQ n (c:Rat)⟩
instance (r:(k:Nat)->T k)(n:Nat):NatCast (E r n):=⟨fun c=>T.ofQ n (c:Rat)⟩
instance (r:(k:Nat)->T k)(n:Nat):IntCast (E r n):=⟨fun c=>T.ofQ n (c:Rat)⟩
instance (r:(k:Nat)->T k)(n:Nat):SMul Nat (E r n):=⟨fun c x=>T.mul r n (T.ofQ n (c:Rat)) x⟩
instance (r:(k:Nat)->T k)(n:Nat):SMul Int (E r n):=⟨fun c x=>T.mul r n (T.ofQ n (c:Rat)) x⟩
def E.pow{r:(k:Nat)->T k}{n:Nat}(x:E r n):Nat->E r n
  |0=>T.ofQ n 1
  |c+1=>T.mul r n (E.pow x c) x
instance (r:(k:Nat)->T k)(n:Nat):HPow (E r n) Nat (E r n):=⟨E.pow⟩
@[reducible] def Laws.ring {r:(k:Nat)->T k} {n:Nat} (h:Laws r n):CommRing (E r n) where
  add_zero a:=by
    show T.add n a (T.ofQ n ((0:Nat):Rat))=a;rw[show(((0:Nat):Rat))=0 from rfl,T.ofQ_zero];exact T.add_zero n a
  add_comm a b:=T.add_comm n a b
  add_assoc a b c:=T.add_assoc n a b c
  mul_assoc a b c:=h.assoc a b c
  mul_one a:=(T.mul_comm r n a _).trans (h.one a)
  one_mul a:=h.one a
  left_distrib a b c:=h.dist a b c
  right_distrib a b c:=T.mul_addr h a b c
  zero_mul a:=by
    show T.mul r n (T.ofQ n ((0:Nat):Rat)) a=T.ofQ n ((0:Nat):Rat);rw[show(((0:Nat):Rat))=0 from rfl,T.ofQ_zero];exact T.zero_mul r n a
  mul_zero a:=by
    show T.mul r n a (T.ofQ n ((0:Nat):Rat))=T.ofQ n ((0:Nat):Rat);rw[show(((0:Nat):Rat))=0 from rfl,T.ofQ_zero];exact T.mul_zero r n a
  pow_zero a:=rfl
  pow_succ a c:=rfl
  ofNat_succ c:=by
    show T.ofQ n ((c+1:Nat):Rat)=T.add n (T.ofQ n (c:Rat)) (T.ofQ n ((1:Nat):Rat));rw[<- T.ofQ_add];congr 1;exact Rat.natCast_add c 1
  ofNat_eq_natCast c:=rfl
  nsmul_eq_natCast_mul c a:=rfl
  neg_add_cancel a:=(T.add_comm n (T.neg n a) a).trans ((T.add_neg n a).trans (T.ofQ_zero n).symm)
  sub a b:=T.add n a (T.neg n b)
  sub_eq_add_neg a b:=rfl
  neg_zsmul i a:=(ajn (fun z=>T.mul r n z a) (show T.ofQ n ((-i:Int):Rat)=T.neg n (T.ofQ n (i:Rat)) by rw[Rat.intCast_neg,T.ofQ_neg])).trans (T.neg_mul' h _ a)
  zsmul_natCast_eq_nsmul c a:=rfl
  intCast_ofNat c:=rfl
  intCast_neg i:=by
    show T.ofQ n ((-i:Int):Rat)=T.neg n (T.ofQ n (i:Rat));rw[Rat.intCast_neg,T.ofQ_neg]
  mul_comm a b:=T.mul_comm r n a b
section
variable{R:Type}[CommRing R](x y u v p q d:R)
theorem QS:(x*u+y*v*d)*p+(x*v+y*u)*q*d=x*(u*p+v*q*d)+y*(u*q+v*p)*d:=by grind
theorem WL:(x*u+y*v*d)*q+(x*v+y*u)*p=x*(u*q+v*p)+y*(u*p+v*q*d):=by grind
theorem QV:x*(u+p)+y*(v+q)*d=(x*u+y*v*d)+(x*p+y*q*d):=by grind
theorem Wc:x*(v+q)+y*(u+p)=(x*v+y*u)+(x*q+y*p):=by grind
end
theorem rH(r:(k:Nat)->T k):∀n,Laws r n
 |0=>⟨fun x y z=>Rat.mul_assoc x y z,fun x y z=>Rat.mul_add x y z,fun x=>Rat.one_mul x⟩
 |n+1=>by
  have I:=(rH r n).ring;have h1:=(rH r n).one;refine⟨?_,?_,?_⟩
  ·rintro⟨x,y⟩ ⟨u,v⟩ ⟨p,q⟩;exact Prod.ext (@QS (E r n) (rH r n).ring x y u v p q (r n)) (@WL (E r n) (rH r n).ring x y u v p q (r n))
  ·rintro⟨x,y⟩ ⟨u,v⟩ ⟨p,q⟩;exact Prod.ext (@QV (E r n) (rH r n).ring x y u v p q (r n)) (@Wc (E r n) (rH r n).ring x y u v p q)
  ·rintro⟨u,v⟩;refine Prod.ext ?_ ?_
   ·show T.add n (T.mul r n (T.ofQ n 1) u) (T.mul r n (T.mul r n (T.zero n) v) (r n))=u;rw[h1,T.zero_mul,T.zero_mul,T.add_zero]
   ·show T.add n (T.mul r n (T.ofQ n 1) v) (T.mul r n (T.zero n) u)=v;rw[h1,T.zero_mul,T.add_zero]
instance eRing(r:(k:Nat)->T k)(n:Nat):CommRing (E r n):=(rH r n).ring
structure Sg(R:Type)[CommRing R](s:R->Int):Prop where
  cs:∀x,s x=-1\/s x=0\/s x=1
  one:s 1=1
  neg:∀x,s (-x)=-s x
  mul:∀x y,s (x*y)=s x*s y
  add:∀x y,0<=s x->0<=s y->0<=s (x+y)
namespace Sg
variable{R:Type}[CommRing R]{s:R->Int}
theorem zero(h:Sg R s):s 0=0:=by
 have h1:=h.neg 0;rw[show -(0:R)=0 by grind]at h1;omega
theorem zadd(h:Sg R s){x y:R}(hx:s x=0):s (x+y)=s y:=by
 have h1:=h.cs y;have h2:=h.cs (x+y);have n1:=h.neg x;have n2:=h.neg y;have n3:=h.neg (x+y);have a1:=h.add x y;have a2:=h.add (-x) (-y);have a3:=h.add (-x) (x+y);have a4:=h.add x (-(x+y));rw[show -x+-y=-(x+y) by grind]at a2;rw[show -x+(x+y)=y by grind]at a3;rw[show x+-(x+y)=-y by grind]at a4;omega
theorem padd(h:Sg R s){x y:R}(hx:s x=1)(hy:0<=s y):s (x+y)=1:=by
 have h2:=h.cs (x+y);have a1:=h.add x y;have n2:=h.neg y;have n3:=h.neg (x+y);have a4:=h.add (-(x+y)) y;have e:-(x+y)+y=-x:=by grind
 have n1:=h.neg x;rw[e]at a4;rcases h2 with h2 |h2 |h2
 ·omega
 ·have:=h.zadd (x:=-(x+y)) (y:=y) oz;rw[e]at this;omega
 ·exact h2
theorem sq(h:Sg R s)(x:R):0<=s (x*x):=by
 rw[h.mul];rcases h.cs x with e |e |e <;> rw[e] <;> decide
theorem sqle(h:Sg R s){a b:R}(ha:0<=s a)(hb:0<=s (a*a-b*b)):0<=s (a+b):=by
 have c1:=h.cs (a+b);rcases c1 with c1 |c1 |c1
 ·exfalso;have n1:=h.neg (a+b);have p1:s (-(a+b)+a)=1:=h.padd oz ha;rw[show -(a+b)+a=-b by grind]at p1;have p2:s (-b+a)=1:=h.padd p1 ha;have m:=h.mul (-b+a) (a+b);rw[show(-b+a)*(a+b)=a*a-b*b by grind,p2,c1]at m;omega
 ·omega
 ·omega
theorem cancel(h:Sg R s){p x:R}(hp:s p=1)(hx:0<=s (p*x)):0<=s x:=by
 rw[h.mul,hp]at hx;omega
end Sg
def dF{r:(k:Nat)->T k}{n:Nat}(x y:E r n):E r (n+1):=((x,y):T n×T n)
def sg(r:(k:Nat)->T k)(n:Nat)(x:E r n):Int:=T.sgn r n x
def a9(r:(k:Nat)->T k)(n:Nat):E r n:=r n
variable{r:(k:Nat)->T k}{n:Nat}
theorem lI(z:E r (n+1)):∃x y:E r n,z=dF x y:=⟨z.1,z.2,rfl⟩
theorem Fe(x y u v:E r n):dF x y+dF u v=dF (x+u) (y+v):=rfl
theorem YL(x y:E r n):-dF x y=dF (-x) (-y):=rfl
theorem ua(x y u v:E r n):dF x y*dF u v=dF (x*u+y*v*a9 r n) (x*v+y*u):=rfl
theorem E.zero_def:(0:E r n)=T.zero n:=T.ofQ_zero n
theorem aa8:(1:E r (n+1))=dF 1 0:=by
 show T.ofQ (n+1) ((1:Nat):Rat)=(T.ofQ n ((1:Nat):Rat),T.ofQ n ((0:Nat):Rat));rw[show(((0:Nat):Rat))=0 from rfl,T.ofQ_zero];rfl
def aH(x y:E r n):E r n:=x*x+-(y*y*a9 r n)
theorem mj(x y:E r n):sg r (n+1) (dF x y)=T.sgn3 (sg r n x) (sg r n y) (sg r n (a9 r n)) (sg r n (aH x y)):=rfl
def PE(x y:E r n):Prop:=(0<=sg r n x/\0<=sg r n (aH x y))\/(0<=sg r n y/\0 <= -sg r n (aH x y))
theorem tB(h:Sg (E r n) (sg r n))(hd:sg r n (a9 r n)=1)(x y:E r n):0<=sg r (n+1) (dF x y)↔PE x y:=by
 rw[mj,hd];unfold PE
 have f1:sg r n y=0->sg r n (aH x y)=sg r n x*sg r n x:=by
  intro hy;have h1:sg r n (-(y*y*a9 r n))=0:=by rw[h.neg,h.mul,h.mul,hy];simp
  have:=h.zadd (y:=x*x) h1;unfold aH;rw[show x*x+-(y*y*a9 r n)=-(y*y*a9 r n)+x*x by grind,this,h.mul]
 have f2:sg r n x=0->sg r n (aH x y)=-(sg r n y*sg r n y):=by
  intro hx;have h1:sg r n (x*x)=0:=by rw[h.mul,hx];simp
  have:=h.zadd (y:=-(y*y*a9 r n)) h1;unfold aH;rw[this,h.neg,h.mul,h.mul,hd];simp
 have c1:=h.cs x;have c2:=h.cs y;have c3:=h.cs (aH x y)
 revert f1 f2 c1 c2 c3
 generalize sg r n x=a;generalize sg r n y=b;generalize sg r n (aH x y)=c;intro f1 f2 c1 c2 c3;rcases c1 with rfl |rfl |rfl <;> rcases c2 with rfl |rfl |rfl <;> rcases c3 with rfl |rfl |rfl <;> first |decide |(exfalso;revert f1 f2;decide)
theorem S7(h:Sg (E r n) (sg r n))(hd:sg r n (a9 r n)=1){x y u v:E r n}(h1:PE x y)(h2:PE u v):PE (x*u+y*v*a9 r n) (x*v+y*u):=by
 have nm:aH (x*u+y*v*a9 r n) (x*v+y*u)=aH x y*aH u v:=by unfold aH;grind
 have hn:=h.mul (aH x y) (aH u v);have d0:0<=sg r n (a9 r n):=by omega
 unfold PE;rw[nm,hn];rcases h1 with⟨a1,a2⟩ |⟨a1,a2⟩ <;> rcases h2 with⟨b1,b2⟩ |⟨b1,b2⟩
 ·refine .inl ⟨h.sqle ?_ ?_,agp a2 b2⟩
  ·rw[h.mul];exact agp a1 b1
  ·have e : x * u * (x * u) - y * v * a9 r n * (y * v * a9 r n) = aH x y * (u * u) + y * y * a9 r n * aH u v := by unfold aH; grind
   rw[e];refine h.add _ _ ?_ ?_
   ·rw[h.mul];exact agp a2 (h.sq u)
   ·rw[h.mul,h.mul];exact agp (agp (h.sq y) d0) b2
 ·refine .inr ⟨h.sqle ?_ ?_,?_⟩
  ·rw[h.mul];exact agp a1 b1
  ·have e : x * v * (x * v) - y * u * (y * u) = aH x y * (v * v) + y * y * -aH u v := by unfold aH; grind
   rw[e];refine h.add _ _ ?_ ?_
   ·rw[h.mul];exact agp a2 (h.sq v)
   ·rw[h.mul,h.neg];exact agp (h.sq y) b2
  ·rw[<- Int.mul_neg];exact agp a2 b2
 ·refine .inr ⟨?_,?_⟩
  ·rw [show x * v + y * u = y * u + x * v by grind];refine h.sqle ?_ ?_
   ·rw[h.mul];exact agp a1 b1
   ·have e : y * u * (y * u) - x * v * (x * v) = aH u v * (y * y) + v * v * -aH x y := by unfold aH; grind
    rw[e];refine h.add _ _ ?_ ?_
    ·rw[h.mul];exact agp b2 (h.sq y)
    ·rw[h.mul,h.neg];exact agp (h.sq v) a2
  ·rw[<- Int.neg_mul];exact agp a2 b2
 ·refine .inl ⟨?_,?_⟩
  ·rw [show x * u + y * v * a9 r n = y * v * a9 r n + x * u by grind];refine h.sqle ?_ ?_
   ·rw[h.mul,h.mul];exact agp (agp a1 b1) d0
   ·have e : y * v * a9 r n * (y * v * a9 r n) - x * u * (x * u) = -aH x y * (v * v * a9 r n) + x * x * -aH u v := by unfold aH; grind
    rw[e];refine h.add _ _ ?_ ?_
    ·rw[h.mul,h.neg,h.mul];exact agp a2 (agp (h.sq v) d0)
    ·rw[h.mul,h.neg];exact agp (h.sq x) b2
  ·rw[<- Int.neg_mul_neg];exact agp a2 b2
theorem Od(h:Sg (E r n) (sg r n))(hd:sg r n (a9 r n)=1){x y u v:E r n}(a1:0<=sg r n x)(a2:0<=sg r n (aH x y))(b1:0<=sg r n v)(b2:0 <= -sg r n (aH u v)):PE (x+u) (y+v):=by
  have cX:=h.cs (x+u);have cY:=h.cs (y+v);have cN:=h.cs (aH (x+u) (y+v));unfold PE
  by_cases hX:0<=sg r n (x+u)
  · by_cases hN:0<=sg r n (aH (x+u) (y+v))
    · exact .inl ⟨hX,hN⟩
    · by_cases hY:0<=sg r n (y+v)
      · exact .inr ⟨hY,by omega⟩
      · -- Y < 0: then N is at least 0
        exfalso;have hY':sg r n (-(y+v))=1:=by rw[h.neg];omega
        have ny:sg r n (-y)=1:=by
          have:=h.padd hY' b1
          rwa [show -(y+v)+v=-y by grind]at this
        have k1:0<=sg r n (x*v+y*u):=by
          refine h.sqle (by rw[h.mul];exact agp a1 b1) ?_;have e:x*v*(x*v)-y*u*(y*u)=aH x y*(v*v)+y*y*-aH u v:=by unfold aH;grind
          rw[e];refine h.add _ _ ?_ ?_
          · rw[h.mul];exact agp a2 (h.sq v)
          · rw[h.mul,h.neg];exact agp (h.sq y) b2
        have k2:0<=sg r n (x*v+-(y*u)):=by
          refine h.sqle (by rw[h.mul];exact agp a1 b1) ?_;have e:x*v*(x*v) - -(y*u)*-(y*u)=aH x y*(v*v)+y*y*-aH u v:=by unfold aH;grind
          rw[e];refine h.add _ _ ?_ ?_
          · rw[h.mul];exact agp a2 (h.sq v)
          · rw[h.mul,h.neg];exact agp (h.sq y) b2
        have k3:0<=sg r n (-y*(x+u)-x*-(y+v)):=by
          rw[show -y*(x+u)-x*-(y+v)=x*v+-(y*u) by grind];exact k2
        have k4:0<=sg r n (-y*(x+u)+x*-(y+v)):=by
          rw[show -y*(x+u)+x*-(y+v)=(-y*(x+u)-x*-(y+v))+(x*-(y+v)+x*-(y+v)) by grind];refine h.add _ _ k3 (h.add _ _ ?_ ?_) <;> (rw[h.mul,hY'];omega)
        have k5:0<=sg r n ((y*y)*aH (x+u) (y+v)):=by
          have e:(y*y)*aH (x+u) (y+v)=(-y*(x+u)-x*-(y+v))*(-y*(x+u)+x*-(y+v))+aH x y*(-(y+v)*-(y+v)):=by unfold aH;grind
          rw[e];refine h.add _ _ (by rw[h.mul];exact agp k3 k4) (by rw[h.mul];exact agp a2 (h.sq _))
        have k6 := h.cancel (by rw [h.mul]; rw [h.neg] at ny; have : sg r n y = -1 := by omega
                                rw[this];rfl) k5
        exact hN k6
  · have hX' : sg r n (-(x + u)) = 1 := by rw [h.neg]; omega
    have nu:sg r n (-u)=1:=by
      have:=h.padd hX' a1
      rwa [show -(x+u)+x=-u by grind]at this
    have su:sg r n u=-1:=by rw[h.neg]at nu;omega
    have hv:sg r n v=1:=by
      rcases h.cs v with e |e |e
      · omega
      · exfalso
        have h1:sg r n (-(v*v*a9 r n))=0:=by rw[h.neg,h.mul,h.mul,e];simp
        have:=h.zadd (y:=u*u) h1;rw[show -(v*v*a9 r n)+u*u=aH u v by unfold aH;grind,h.mul,su]at this;omega
      · exact e
    have k1:0<=sg r n (x*v+y*-u):=by
      refine h.sqle (by rw[h.mul];exact agp a1 b1) ?_;have e:x*v*(x*v)-y*-u*(y*-u)=aH x y*(v*v)+y*y*-aH u v:=by unfold aH;grind
      rw[e];refine h.add _ _ ?_ ?_
      · rw[h.mul];exact agp a2 (h.sq v)
      · rw[h.mul,h.neg];exact agp (h.sq y) b2
    have k3:0<=sg r n (-u*(y+v)-v*-(x+u)):=by
      rw[show -u*(y+v)-v*-(x+u)=x*v+y*-u by grind];exact k1
    have k4:0<=sg r n (v*-(x+u)):=by rw[h.mul,hv,hX'];decide
    have kY:0<=sg r n (y+v):=by
      refine h.cancel nu ?_;rw[show -u*(y+v)=(-u*(y+v)-v*-(x+u))+v*-(x+u) by grind];exact h.add _ _ k3 k4
    refine .inr ⟨kY,?_⟩
    have k5:0<=sg r n ((v*v)*-aH (x+u) (y+v)):=by
      have e:(v*v)*-aH (x+u) (y+v)=(-u*(y+v)-v*-(x+u))*(-u*(y+v)+v*-(x+u))+-aH u v*((y+v)*(y+v)):=by unfold aH;grind
      rw[e];have k6:0<=sg r n (-u*(y+v)+v*-(x+u)):=h.add _ _ (by rw[h.mul,nu];omega) k4;refine h.add _ _ (by rw[h.mul];exact agp k3 k6) (by rw[h.mul,h.neg];exact agp b2 (h.sq _))
    have k7:=h.cancel (by rw[h.mul,hv];rfl) k5
    rwa [h.neg]at k7
theorem XV(h:Sg (E r n) (sg r n))(hd:sg r n (a9 r n)=1){x y u v:E r n}(h1:PE x y)(h2:PE u v):PE (x+u) (y+v):=by
 have d0:0<=sg r n (a9 r n):=by omega
 rcases h1 with⟨a1,a2⟩ |⟨a1,a2⟩ <;> rcases h2 with⟨b1,b2⟩ |⟨b1,b2⟩
 ·refine .inl ⟨h.add _ _ a1 b1,?_⟩
  have k:0<=sg r n (x*u+-(y*v*a9 r n)):=by
   refine h.sqle (by rw[h.mul];exact agp a1 b1) ?_;have e:x*u*(x*u) - -(y*v*a9 r n)*-(y*v*a9 r n)=aH x y*(u*u)+y*y*a9 r n*aH u v:=by unfold aH;grind
   rw[e];refine h.add _ _ ?_ ?_
   ·rw[h.mul];exact agp a2 (h.sq u)
   ·rw[h.mul,h.mul];exact agp (agp (h.sq y) d0) b2
  rw[show aH (x+u) (y+v)=(aH x y+aH u v)+((x*u+-(y*v*a9 r n))+(x*u+-(y*v*a9 r n))) by unfold aH;grind];exact h.add _ _ (h.add _ _ a2 b2) (h.add _ _ k k)
 ·exact Od h hd a1 a2 b1 b2
 ·rw[show x+u=u+x by grind,show y+v=v+y by grind];exact Od h hd b1 b2 a1 a2
 ·refine .inr ⟨h.add _ _ a1 b1,?_⟩
  have k:0<=sg r n (y*v*a9 r n+-(x*u)):=by
   refine h.sqle (by rw[h.mul,h.mul];exact agp (agp a1 b1) d0) ?_;have e:y*v*a9 r n*(y*v*a9 r n) - -(x*u)*-(x*u)=-aH x y*(v*v*a9 r n)+x*x*-aH u v:=by unfold aH;grind
   rw[e];refine h.add _ _ ?_ ?_
   ·rw[h.mul,h.neg,h.mul];exact agp a2 (agp (h.sq v) d0)
   ·rw[h.mul,h.neg];exact agp (h.sq x) b2
  have k2:0<=sg r n (-aH (x+u) (y+v)):=by
   rw[show -aH (x+u) (y+v)=(-aH x y+-aH u v)+((y*v*a9 r n+-(x*u))+(y*v*a9 r n+-(x*u))) by unfold aH;grind];exact h.add _ _ (h.add _ _ (by rw[h.neg];exact a2) (by rw[h.neg];exact b2)) (h.add _ _ k k)
  rwa [h.neg]at k2
theorem ab5(a b c d:Int):T.sgn3 (-a) (-b) c d=-T.sgn3 a b c d:=by
 unfold T.sgn3;have e:(-a=-b \/ -b=0)↔(a=b\/b=0):=by omega
 simp only[e];split
 ·rfl
 ·split
  ·rfl
  ·by_cases h:a=0
   ·rw[ajg oz,ajg h]
   ·rw[ajf oz,ajf h,Int.neg_mul]
theorem TM(h:Sg (E r n) (sg r n))(hd:0<=sg r n (a9 r n)):Sg (E r (n+1)) (sg r (n+1)):=by
 have bp:∀z:E r (n+1),sg r (n+1) z=-1\/sg r (n+1) z=0\/sg r (n+1) z=1:=fun z=>T.sgn_cases r (n+1) z
 have uE:sg r (n+1) 1=1:=by
  rw[aa8,mj,h.one,h.zero];unfold T.sgn3;split
  ·rfl
  ·simp
 have jp:∀z:E r (n+1),sg r (n+1) (-z)=-sg r (n+1) z:=by
  intro z;obtain⟨x,y,rfl⟩:=lI z;rw[YL,mj,mj,h.neg,h.neg,show aH (-x) (-y)=aH x y by unfold aH;grind,ab5]
 by_cases qd:sg r n (a9 r n)=0
 ·have e0:∀x y:E r n,sg r (n+1) (dF x y)=sg r n x:=by
   intro x y;rw[mj,qd];unfold T.sgn3;rw[ajg rfl]
  refine⟨bp,uE,jp,?_,?_⟩
  ·intro z w;obtain ⟨x,y,rfl⟩:=lI z;obtain ⟨u,v,rfl⟩:=lI w;rw [ua,e0,e0,e0];have h1:sg r n (y * v * a9 r n) = 0:=by rw [h.mul,qd]; simp
   have:=h.zadd (y:=x*u) h1;rw[show x*u+y*v*a9 r n=y*v*a9 r n+x*u by grind,this,h.mul]
  ·intro z w;obtain⟨x,y,rfl⟩:=lI z;obtain⟨u,v,rfl⟩:=lI w;rw[Fe,e0,e0,e0];exact h.add x u
 ·have fK : sg r n (a9 r n) = 1 := by rcases h.cs (a9 r n) with e | e | e <;> omega
  have ou:∀z w:E r (n+1),0<=sg r (n+1) z->0<=sg r (n+1) w->0<=sg r (n+1) (z+w):=by
   intro z w;obtain⟨x,y,rfl⟩:=lI z;obtain⟨u,v,rfl⟩:=lI w;rw[Fe,tB h fK,tB h fK,tB h fK];exact XV h fK
  have kV:∀z w:E r (n+1),0<=sg r (n+1) z->0<=sg r (n+1) w->0<=sg r (n+1) (z*w):=by
   intro z w;obtain⟨x,y,rfl⟩:=lI z;obtain⟨u,v,rfl⟩:=lI w;rw[ua,tB h fK,tB h fK,tB h fK];exact S7 h fK
  have Bq:∀z w:E r (n+1),sg r (n+1) z=0->sg r (n+1) (w*z)=0:=by
   intro z w hz;have n1:=jp z;have n2:=jp w;have n3:=jp (w*z);have m1:=kV w z;have m2:=kV w (-z);have m3:=kV (-w) z;have m4:=kV (-w) (-z);rw[show w*-z=-(w*z) by grind]at m2;rw[show -w*z=-(w*z) by grind]at m3;rw[show -w*-z=w*z by grind]at m4;rcases bp w with e |e |e <;> omega
  have PF:∀(a u v:E r n),sg r (n+1) (dF (a*u) (a*v))=sg r n a*sg r (n+1) (dF u v):=by
   intro a u v;rw[mj,mj,show aH (a*u) (a*v)=a*a*aH u v by unfold aH;grind,h.mul,h.mul,h.mul,h.mul,fK]
   have f1:sg r n v=0->sg r n (aH u v)=sg r n u*sg r n u:=by
    intro hy;have h1:sg r n (-(v*v*a9 r n))=0:=by rw[h.neg,h.mul,h.mul,hy];simp
    have:=h.zadd (y:=u*u) h1;unfold aH;rw[show u*u+-(v*v*a9 r n)=-(v*v*a9 r n)+u*u by grind,this,h.mul]
   have c1:=h.cs u;have c2:=h.cs v;have c3:=h.cs (aH u v);have c4:=h.cs a
   revert c1 c2 c3 c4
   generalize sg r n u=a1;generalize sg r n v=b1;generalize sg r n (aH u v)=c1;generalize sg r n a=e1;intro c1 c2 c3 c4;rcases c1 with rfl |rfl |rfl <;> rcases c2 with rfl |rfl |rfl <;> rcases c3 with rfl |rfl |rfl <;> rcases c4 with rfl |rfl |rfl <;> decide
  have adm:∀z w:E r (n+1),sg r (n+1) z=1->0<=sg r (n+1) w->sg r (n+1) (z+w)=1:=by
   intro z w hz hw;have a1:=ou z w oz hw;rcases bp (z+w)with e |e |e
   ·omega
   ·exfalso;have n1:=jp z;have n2:=jp (z+w);have a2:=ou (-(z+w)) w oz hw;rw[show -(z+w)+w=-z by grind]at a2;omega
   ·exact e
  have Br:∀z w:E r (n+1),sg r (n+1) z=1->sg r (n+1) w=1->sg r (n+1) (z*w)=1:=by
   intro z w hz hw;obtain⟨x,y,rfl⟩:=lI z;obtain⟨u,v,rfl⟩:=lI w;have p0:=kV _ _ (by omega:0<=sg r (n+1) (dF x y)) (by omega:0<=sg r (n+1) (dF u v));rcases bp (dF x y*dF u v)with e |e |e
   ·omega
   ·exfalso
    by_cases hN:sg r n (aH x y)=0
    ·have xL:sg r n x=1/\sg r n y=1:=by
      rw[mj,fK,hN]at hz
      have f1:sg r n y=0->sg r n (aH x y)=sg r n x*sg r n x:=by
       intro hy;have h1:sg r n (-(y*y*a9 r n))=0:=by rw[h.neg,h.mul,h.mul,hy];simp
       have:=h.zadd (y:=x*x) h1;unfold aH;rw[show x*x+-(y*y*a9 r n)=-(y*y*a9 r n)+x*x by grind,this,h.mul]
      have f2:sg r n x=0->sg r n (aH x y)=-(sg r n y*sg r n y):=by
       intro hx;have h1:sg r n (x*x)=0:=by rw[h.mul,hx];simp
       have:=h.zadd (y:=-(y*y*a9 r n)) h1;unfold aH;rw[this,h.neg,h.mul,h.mul,fK];simp
      rw[hN]at f1 f2;have c1:=h.cs x;have c2:=h.cs y
      revert hz f1 f2 c1 c2
      generalize sg r n x=a;generalize sg r n y=b;intro hz f1 f2 c1 c2;rcases c1 with rfl |rfl |rfl <;> rcases c2 with rfl |rfl |rfl <;> revert hz f1 f2 <;> decide
     have k1:sg r (n+1) (dF (x*u) (x*v))=1:=by rw[PF,xL.1,hw];rfl
     have k2:0<=sg r (n+1) (dF 0 y):=by
      rw[mj,h.zero,xL.2,fK];unfold T.sgn3;simp
     have k3:=kV _ _ k2 (by omega:0<=sg r (n+1) (dF u v));have k4:=adm _ _ k1 k3;rw[ua,Fe]at k4;rw[ua]at e;rw[show x*u+(0*u+y*v*a9 r n)=x*u+y*v*a9 r n by grind,show x*v+(0*v+y*u)=x*v+y*u by grind]at k4;omega
    ·have k1:=Bq _ (dF x (-y)) e;rw[show dF x (-y)*(dF x y*dF u v)=dF (aH x y*u) (aH x y*v) by rw[ua,ua];unfold aH;congr 1 <;> grind,PF,hw]at k1;omega
   ·exact e
  refine⟨bp,uE,jp,?_,ou⟩;intro z w;rcases bp w with e |e |e
  ·rcases bp z with e' |e' |e'
   ·have := Br (-z) (-w) (by rw[jp];omega) (by rw[jp];omega);rw[show -z*-w=z*w by grind]at this;rw[this,e,e'];rfl
   ·have:=Bq z w e';rw[show w*z=z*w by grind]at this;rw[this,e'];simp
   ·have := Br z (-w) e' (by rw[jp];omega);rw[show z*-w=-(z*w) by grind,jp]at this;rw[e,e'];omega
  ·rw[Bq w z e,e];simp
  ·rcases bp z with e' |e' |e'
   ·have := Br (-z) w (by rw[jp];omega) e;rw[show -z*w=-(z*w) by grind,jp]at this;rw[e,e'];omega
   ·have:=Bq z w e';rw[show w*z=z*w by grind]at this;rw[this,e'];simp
   ·rw[Br z w e' e,e,e'];rfl
theorem mJ(q:Rat):aR q=-1/\q<0\/aR q=0/\q=0\/aR q=1/\0<q:=by
 unfold aR;split
 ·exact .inl ⟨rfl,by assumption⟩
 ·split
  ·exact .inr (.inr ⟨rfl,by assumption⟩)
  ·exact .inr (.inl ⟨rfl,by grind⟩)
theorem Dd{q:Rat}(h:0<q):aR q=1:=by
 rcases mJ q with⟨_,h'⟩ |⟨_,h'⟩ |⟨e,_⟩
 ·grind
 ·grind
 ·exact e
theorem B5{q:Rat}(h:q<0):aR q=-1:=by
 rcases mJ q with⟨e,_⟩ |⟨_,h'⟩ |⟨_,h'⟩
 ·exact e
 ·grind
 ·grind
theorem ab3(q:Rat):aR (-q)=-aR q:=by
 rcases mJ q with⟨e,h⟩ |⟨e,h⟩ |⟨e,h⟩
 ·rw[e,Dd (by grind)];rfl
 ·rw[h];rfl
 ·rw[e,B5 (by grind)]
theorem WO(p q:Rat):aR (p*q)=aR p*aR q:=by
 have h0:aR 0=0:=rfl;rcases mJ p with⟨e,h⟩ |⟨e,h⟩ |⟨e,h⟩ <;> rcases mJ q with⟨e',h'⟩ |⟨e',h'⟩ |⟨e',h'⟩
 ·have := ag7 (a := -p) (b := -q) (by grind) (by grind);rw[e,e',Dd (by grind)];rfl
 ·rw[h',Rat.mul_zero,h0];simp
 ·have := ag7 (a := -p) (b := q) (by grind) h';rw[e,e',B5 (by grind)];rfl
 ·rw[h,Rat.zero_mul,h0];simp
 ·rw[h,Rat.zero_mul,h0];simp
 ·rw[h,Rat.zero_mul,h0];simp
 ·have := ag7 (a := p) (b := -q) h (by grind);rw[e,e',B5 (by grind)];rfl
 ·rw[h',Rat.mul_zero,h0];simp
 ·rw[e,e',Dd (ag7 h h')];rfl
theorem Tr(p q:Rat)(h1:0<=aR p)(h2:0<=aR q):0<=aR (p+q):=by
 rcases mJ (p+q)with⟨e,h⟩ |⟨e,h⟩ |⟨e,h⟩
 ·exfalso;rcases mJ p with⟨e1,g1⟩ |⟨e1,g1⟩ |⟨e1,g1⟩ <;> rcases mJ q with⟨e2,g2⟩ |⟨e2,g2⟩ |⟨e2,g2⟩ <;> first |omega |grind
 ·omega
 ·omega
theorem S6(r:(k:Nat)->T k):Sg (E r 0) (sg r 0) :=
 ⟨fun q=>T.sgnQ_cases q,rfl,fun q=>ab3 q,fun p q=>WO p q,fun p q=>Tr p q⟩
def fT(r:(k:Nat)->T k)(n:Nat):Prop:=∀j,j<n->0<=T.sgn r j (r j)
theorem pa(r:(k:Nat)->T k):∀n,fT r n->Sg (E r n) (sg r n)
 |0,_=>S6 r
 |n+1,h=>TM (pa r n (fun j hj=>h j oz)) (h n oz)
end Go.Lw
namespace Go.Lw
def xA{r:(k:Nat)->T k}{n:Nat}(x:E r n):AV:=nA (sh n x)
abbrev Pn(r:(k:Nat)->T k)(n:Nat):Type:=E r n×E r n
def nP(r:(k:Nat)->T k)(n:Nat):LL:=(List.range n).map fun k=>enc k (r k)
def qE{r:(k:Nat)->T k}{n:Nat}(q:Rat):E r n:=T.ofQ n q
theorem Fv:∀(n:Nat)(q:Rat),sh n (T.ofQ n q)=sh 0 (q:Rat)
 |0,q=>rfl
 |n+1,q=>by
  show(if T.isZ n (T.zero n)=true then sh n (T.ofQ n q)else _)=_;rw[ajg ((T.isZ_iff n _).2 rfl),Fv n q]
theorem Mc:∀n:Nat,sh n (T.zero n)=[]
 |0=>rfl
 |n+1=>by
  show(if T.isZ n (T.zero n)=true then sh n (T.zero n)else _)=_;rw[ajg ((T.isZ_iff n _).2 rfl),Mc n]
theorem wV(r:(k:Nat)->T k)(n:Nat):(nP r n).length=n:=by simp[nP]
theorem Ka{r:(k:Nat)->T k}{n j:Nat}(h:j<n):(nP r n).getD j []=enc j (r j):=by
 unfold nP;rw[ah4,aib,List.getElem?_range h];rfl
theorem Zt{r:(k:Nat)->T k}{n j:Nat}(h:j<n):aD (nP r n) j=r j:=by
 unfold aD;rw[Ka h,AG]
theorem Hs{ts:LL}{R:Nat}(tw:Tw ts R):ts=nP (aD ts) ts.length:=by
 apply List.ext_getElem?;intro j
 by_cases hj:j<ts.length
 ·have h1:=Ka (r:=aD ts) hj;have h2:=tw.len j hj;rw[ah4]at h1;rw[ah9 (show j<(nP (aD ts) ts.length).length by rw[wV];exact hj)]at h1 ⊢;rw[ah0]at h1;rw[h1,ah9 hj];unfold aD;rw[s9 _ _ h2,ah4,ah9 hj];rfl
 ·rw[aig oz,aig (by rw[wV];omega)]
class Cx(r:(k:Nat)->T k)(n:Nat)(u k:outParam Nat):Prop where
  ex:∃R,Tw (nP r n) R/\eB R n<=k
  k1:1<=k
  u3:3<=u
class Zu(u k:Nat){r:(k:Nat)->T k}{n:Nat}(x:E r n)(w v:outParam Nat):Prop where
  nm:Nm n (w*u+v*k) (sh n x)
class Zp(u k:Nat){r:(k:Nat)->T k}{n:Nat}(p:Pn r n)(w v:outParam Nat):Prop where
  x:Nm n (w*u+v*k) (sh n p.1)
  y:Nm n (w*u+v*k) (sh n p.2)
class Qz(u:Nat)(q:Rat)(w:outParam Nat):Prop where
  cb:Cb (w*u) [q]
section
variable{r:(k:Nat)->T k}{n u k:Nat}
theorem Cx.five(c:Cx r n u k):n<=5:=by obtain⟨R,tw,_⟩:=c.ex;have:=tw.five;rwa [wV]at this
theorem Cx.three(c:Cx r n u k):n<=3:=by obtain⟨R,tw,_⟩:=c.ex;have:=tw.three;rwa [wV]at this
theorem Ci(w v w' v' u k:Nat):(w*u+v*k)+(w'*u+v'*k)=(w+w')*u+(v+v')*k:=by
 rw[aez,aez];omega
theorem Nm.eq{n e f:Nat}{l:List Rat}(h:Nm n e l)(hf:e=f):Nm n f l:=hf▸h
theorem Nm.addT{e f:Nat}{x y:T n}(hx:Nm n e (sh n x))(hy:Nm n f (sh n y)):Nm n (e+f+1) (sh n (T.add n x y)):=by
 have h:=hx.add hy
 rwa [dY,dY]at h
theorem Nm.subT{e f:Nat}{x y:T n}(hx:Nm n e (sh n x))(hy:Nm n f (sh n y)):Nm n (e+f+1) (sh n (T.add n x (T.neg n y))):=by
 have h:=hx.sub hy
 rwa [dY,dY]at h
theorem Nm.negT{e:Nat}{x:T n}(hx:Nm n e (sh n x)):Nm n e (sh n (T.neg n x)):=by
 have h:=hx.neg
 rwa [dY]at h
theorem Nm.mulT{R e f:Nat}(tw:Tw (nP r n) R){x y:T n}(hx:Nm n e (sh n x))(hy:Nm n f (sh n y)):Nm n (e+f+eB R n) (sh n (T.mul r n x y)):=by
 have h:=Nm.mul tw (wV r n).symm hx hy
 rwa [dY,dY,T.mul_congr n (fun j hj=>Zt hj)]at h
instance Zu.add[c:Cx r n u k]{x y:E r n}{w v w' v':Nat}[hx:Zu u k x w v][hy:Zu u k y w' v']:Zu u k (x+y) (w+w') (v+v'+1) :=
  ⟨(Nm.addT hx.nm hy.nm).mono (by rw[Ci,aez _ 1];have:=c.k1;omega)⟩
instance Zu.sub[c:Cx r n u k]{x y:E r n}{w v w' v':Nat}[hx:Zu u k x w v][hy:Zu u k y w' v']:Zu u k (x-y) (w+w') (v+v'+1) :=
  ⟨(Nm.subT hx.nm hy.nm).mono (by rw[Ci,aez _ 1];have:=c.k1;omega)⟩
instance Zu.neg{x:E r n}{w v:Nat}[hx:Zu u k x w v]:Zu u k (-x) w v:=⟨Nm.negT hx.nm⟩
instance Zu.mul[c:Cx r n u k]{x y:E r n}{w v w' v':Nat}[hx:Zu u k x w v][hy:Zu u k y w' v']:Zu u k (x*y) (w+w') (v+v'+1):=by
  obtain⟨R,tw,hk⟩:=c.ex;exact⟨(Nm.mulT tw hx.nm hy.nm).mono (by rw[Ci,aez _ 1];omega)⟩
instance Zu.qE[c:Cx r n u k]{q:Rat}{w:Nat}[h:Qz u q w]:Zu u k (qE q:E r n) w 0:=⟨by
  show Nm n _ (sh n (T.ofQ n q));rw[Fv];exact(Nm.ofQ c.five h.cb).eq oz⟩
theorem Cb.int{e:Nat}{z:Int}(h:z.natAbs<=2^e):Cb e [(z:Rat)] :=
 ⟨1,z.natAbs,⟨by omega,fun q hq=>⟨z,by rw[afr.1 hq];exact Rat.mul_one _,aie _⟩⟩,Nat.one_le_two_pow,h⟩
theorem Qz.int[c:Cx r n u k]{z:Int}(h:z.natAbs<=8):Qz u (z:Rat) 1:=⟨Cb.int (aiw h (show 2^3<=_ from ef (by have:=c.u3;omega)))⟩
instance Zu.c0[c:Cx r n u k]:Zu u k (0:E r n) 0 0:=⟨by
  show Nm n _ (sh n (T.ofQ n ((0:Nat):Rat)));rw[show(((0:Nat):Rat))=0 from rfl,T.ofQ_zero,Mc];exact⟨c.five,.inl rfl,Cb.nil.mono (aii _)⟩⟩
instance Zu.c1[c:Cx r n u k]:Zu u k (1:E r n) 1 0:=by
  haveI:Qz u ((1:Nat):Rat) 1:=Qz.int (c:=c) (z:=1) (by decide);exact(ajo:Zu u k (Go.Lw.qE ((1:Nat):Rat):E r n) 1 0)
instance Zu.c2[c:Cx r n u k]:Zu u k (2:E r n) 1 0:=by
  haveI:Qz u ((2:Nat):Rat) 1:=Qz.int (c:=c) (z:=2) (by decide);exact(ajo:Zu u k (Go.Lw.qE ((2:Nat):Rat):E r n) 1 0)
instance Zu.c4[c:Cx r n u k]:Zu u k (4:E r n) 1 0:=by
  haveI:Qz u ((4:Nat):Rat) 1:=Qz.int (c:=c) (z:=4) (by decide);exact(ajo:Zu u k (Go.Lw.qE ((4:Nat):Rat):E r n) 1 0)
instance Zu.px{p:Pn r n}{w v:Nat}[h:Zp u k p w v]:Zu u k p.1 w v:=⟨h.x⟩
instance Zu.py{p:Pn r n}{w v:Nat}[h:Zp u k p w v]:Zu u k p.2 w v:=⟨h.y⟩
theorem Lb{w v w' v' u k:Nat}(h:w<=w')(h':v<=v'):w*u+v*k<=w'*u+v'*k:=Nat.add_le_add (aik _ h) (aik _ h')
instance Zp.mk'{x y:E r n}{w v w' v':Nat}[hx:Zu u k x w v][hy:Zu u k y w' v']:Zp u k ((x,y):Pn r n) (max w w') (max v v') :=
  ⟨hx.nm.mono (Lb (Nat.le_max_left ..) (Nat.le_max_left ..)),hy.nm.mono (Lb (Nat.le_max_right ..) (Nat.le_max_right ..))⟩
def Ul(p q:Pn r n):Pn r n:=(p.1+q.1,p.2+q.2)
def Zj(p q:Pn r n):Pn r n:=(p.1-q.1,p.2-q.2)
def aae(c:E r n)(p:Pn r n):Pn r n:=(c*p.1,c*p.2)
def WI(p q:Pn r n):E r n:=p.1*q.1+p.2*q.2
def acd(p q:Pn r n):E r n:=p.1*q.2-p.2*q.1
def Ud(c s:E r n)(p:Pn r n):Pn r n:=(c*p.1-s*p.2,s*p.1+c*p.2)
def pQ(x y:Rat):Pn r n:=(qE x,qE y)
def Tu(p:Pn r n):Pn r n:=(-p.2,p.1)
instance Zp.add[c:Cx r n u k]{p q:Pn r n}{w v w' v':Nat}[hp:Zp u k p w v][hq:Zp u k q w' v']:Zp u k (Ul p q) (w+w') (v+v'+1) :=
  ⟨(ajo:Zu u k (p.1+q.1) (w+w') (v+v'+1)).nm,(ajo:Zu u k (p.2+q.2) (w+w') (v+v'+1)).nm⟩
instance Zp.sub[c:Cx r n u k]{p q:Pn r n}{w v w' v':Nat}[hp:Zp u k p w v][hq:Zp u k q w' v']:Zp u k (Zj p q) (w+w') (v+v'+1) :=
  ⟨(ajo:Zu u k (p.1-q.1) (w+w') (v+v'+1)).nm,(ajo:Zu u k (p.2-q.2) (w+w') (v+v'+1)).nm⟩
instance Zp.scale[c:Cx r n u k]{a:E r n}{q:Pn r n}{w v w' v':Nat}[hp:Zu u k a w v][hq:Zp u k q w' v']:Zp u k (aae a q) (w+w') (v+v'+1) :=
  ⟨(ajo:Zu u k (a*q.1) (w+w') (v+v'+1)).nm,(ajo:Zu u k (a*q.2) (w+w') (v+v'+1)).nm⟩
instance Zu.dot[c:Cx r n u k]{p q:Pn r n}{w v w' v':Nat}[hp:Zp u k p w v][hq:Zp u k q w' v']:Zu u k (WI p q) (w+w'+(w+w')) (v+v'+1+(v+v'+1)+1) :=
  (ajo:Zu u k (p.1*q.1+p.2*q.2) _ _)
instance Zu.cross[c:Cx r n u k]{p q:Pn r n}{w v w' v':Nat}[hp:Zp u k p w v][hq:Zp u k q w' v']:Zu u k (acd p q) (w+w'+(w+w')) (v+v'+1+(v+v'+1)+1) :=
  (ajo:Zu u k (p.1*q.2-p.2*q.1) _ _)
instance Zp.turn[c:Cx r n u k]{a b:E r n}{p:Pn r n}{w v w' v' w2 v2:Nat}[ha:Zu u k a w v][hb:Zu u k b w' v'][hp:Zp u k p w2 v2] :
    Zp u k (Ud a b p) (w+w2+(w'+w2)) (v+v2+1+(v'+v2+1)+1) :=
  ⟨(ajo:Zu u k (a*p.1-b*p.2) _ _).nm,by
    have h:=(ajo:Zu u k (b*p.1+a*p.2) _ _).nm;exact h.eq (by rw[aeq (w'+w2),aeq (v'+v2+1)])⟩
instance Zp.ofQ[c:Cx r n u k]{x y:Rat}{w w':Nat}[hx:Qz u x w][hy:Qz u y w']:Zp u k (pQ x y:Pn r n) (max w w') (max 0 0) :=
  (ajo:Zp u k ((qE x,qE y):Pn r n) _ _)
instance Zp.quart{p:Pn r n}{w v:Nat}[hp:Zp u k p w v]:Zp u k (Tu p) w v:=⟨(ajo:Zu u k (-p.2) w v).nm,hp.x⟩
end
theorem I5(rs:List (List Rt)):(llq rs).length=rs.length:=by simp[llq]
abbrev Et(ts:LL):Type:=E (aD ts) ts.length
def dE(ts:LL)(a:List Rat):Et ts:=ao ts.length a
def sX{ts:LL}(x:Et ts):List Rat:=sh ts.length x
def a5{ts:LL}(x:Et ts):Int:=T.sgn (aD ts) ts.length x
class Ct(ts:LL)(u k:outParam Nat):Prop where
  ex:∃R,Tw ts R/\eB R ts.length<=k
  k1:1<=k
  u3:3<=u
  ub:u<=1000000
  kb:k<=1000000
instance Ct.cx{ts:LL}{u k:Nat}[c:Ct ts u k]:Cx (aD ts) ts.length u k:=by
  obtain⟨R,tw,h⟩:=c.ex;exact⟨⟨R,Hs tw▸tw,h⟩,c.k1,c.u3⟩
class Zl(ts:LL)(u k:Nat)(a:List Rat)(x:outParam (Et ts))(w v:outParam Nat):Prop where
  eq:ao ts.length a=x
  nm:Nm ts.length (w*u+v*k) a
section
variable{ts:LL}{u k:Nat}
instance Zl.sX{x:Et ts}{w v:Nat}[h:Zu u k x w v]:Zl ts u k (sX x) x w v:=⟨dY _ _,h.nm⟩
instance Zl.q[c:Ct ts u k]{q:Rat}{w:Nat}[h:Qz u q w]:Zl ts u k (sh 0 (q:Rat)) (qE q:Et ts) w 0:=⟨tN _ q,by
  obtain⟨R,tw,_⟩:=c.ex;exact(Nm.ofQ tw.five h.cb).eq oz⟩
instance Zl.nil [c : Ct ts u k] : Zl ts u k [] (0 : Et ts) 0 0 := ⟨by rw [oK]; exact E.zero_def.symm, by
  obtain⟨R,tw,_⟩:=c.ex;exact⟨tw.five,.inl rfl,Cb.nil.mono (aii _)⟩⟩
theorem Zl.at{a:List Rat}{e:Nat}(h:Nm ts.length e a)(he:e<=u):Zl ts u k a (dE ts a) 1 0:=⟨rfl,h.mono oz⟩
theorem RH(c:Ct ts u k){w v m:Nat}(h:w+v<=m):w*u+v*k<=m*1000000:=by
 have h1:w*u<=w*1000000:=aih _ c.ub;have h2:v*k<=v*1000000:=aih _ c.kb;omega
theorem Zl.up(c:Ct ts u k){a:List Rat}{x:Et ts}{w v m:Nat}(h:Zl ts u k a x w v)(hm:w+v<=m):Nm ts.length (m*1000000) a:=h.nm.mono (RH c hm)
theorem Ct.kk(c:Ct ts u k){R:Nat}(h:eB R ts.length<=k):kB R ts.length<=1000000:=aiw h c.kb
def dotE(x y z t:Et ts):Et ts:=x*z+y*t
def crsE(x y z t:Et ts):Et ts:=x*t-y*z
instance Zu.dotE[c:Ct ts u k]{x y z t:Et ts}{w1 v1 w2 v2 w3 v3 w4 v4:Nat}[Zu u k x w1 v1][Zu u k y w2 v2][Zu u k z w3 v3][Zu u k t w4 v4]:Zu u k (dotE x y z t) (w1+w3+(w2+w4)) (v1+v3+1+(v2+v4+1)+1) :=
  (ajo:Zu u k (x*z+y*t) _ _)
instance Zu.crsE[c:Ct ts u k]{x y z t:Et ts}{w1 v1 w2 v2 w3 v3 w4 v4:Nat}[Zu u k x w1 v1][Zu u k y w2 v2][Zu u k z w3 v3][Zu u k t w4 v4]:Zu u k (crsE x y z t) (w1+w4+(w2+w3)) (v1+v4+1+(v2+v3+1)+1) :=
  (ajo:Zu u k (x*t-y*z) _ _)
end
def z4(xs:List Int):List Int:=xs.mergeSort (fun a b=>decide (a<=b))
theorem VG(xs:List Int):(z4 xs).Perm xs:=List.mergeSort_perm _ _
theorem Kf{xs:List Int}{b:Int}:b∈z4 xs↔b∈xs:=(VG xs).mem_iff
theorem VZ(e:Nat)(l:List Nat):ir (e::l)=if e≠0 then e else ir l:=rfl
theorem M9{α:Type}{f:α->Nat}{L:List α}(h:∀x∈L,f x=0):ir (L.map f)=0:=by
 induction L with
 |nil=>rfl
 |cons x L ih =>
  rw[ajd,VZ,ajf (by rw[h x (ai2 ..)];simp)];exact ih (fun y hy=>h y (ait _ hy))
def eH(g:Gr)(j:Jt):Int:=if g.bo.contains j.a=true then(if g.bo.contains j.b=true then -1 else j.b)else j.a
def ck(l:Li)(g:Gr):List Int:=g.jo.map (fun j=>eH g (l.jo.getD j.toNat default))
theorem pS(l:Li)(g:Gr):(ck l g).length=g.jo.length:=by unfold ck;rw[ah6]
theorem TV{l:Li}(hl:ax l=0){g:Gr}(hg:GrOk l g):∀b∈ck l g,b<l.bo.length:=by
 intro b hb;unfold ck at hb;obtain⟨z,hz,rfl⟩:=af0.1 hb;obtain⟨z0,z1⟩:=hg.j z hz;obtain⟨j,hj⟩:=aB (l:=l.jo) (i:=z.toNat) oz;rw[aP hj];obtain⟨i1,i2,_⟩:=ee hl hj;have i1:=dM i1;have i2:=dM i2;unfold eH;split
 ·split
  ·omega
  ·omega
 ·omega
def mR(l:Li)(g:Gr)(own:Bool):List Int:=ck l g++(if own=true then g.bo else[])
theorem JJ{l:Li}(hl:ax l=0){g:Gr}(hg:GrOk l g){own:Bool}:∀b∈mR l g own,b<l.bo.length:=by
 intro b hb;rcases aia.1 hb with hb |hb
 ·exact TV hl hg b hb
 ·split at hb
  ·exact(hg.b b hb).2
  ·cases hb
def tQ(a:As)(b:Int):Nat:=if b<0 then 0 else pp a.rs (a.bs.getD b.toNat default).l
def wE(l:Li)(k:Int):Gr:=(aC l).getD k.toNat default
def wi(l:Li)(k:Int)(a:As)(own:Bool):Nat :=
  if bU l≠0 then bU l else if k<0\/((aC l).length:Int)<=k then 9 else if a.bs.length≠l.bo.length then 10 else if fp a.rs≠0 then fp a.rs
  else ir ((z4 (mR l (wE l k) own)).map (tQ a))
def xb(l:Li)(k:Int)(a:As)(own:Bool):Nat:=if ax l≠0 then ax l else wi l k a own
section
variable{l:Li}{k:Int}{a:As}{own:Bool}
theorem QB(h:ax l=0):xb l k a own=wi l k a own:=by unfold xb;rw[ajf oz]
theorem RK(hs:bU l=0)(hk:¬(k<0\/((aC l).length:Int)<=k))(hb:a.bs.length=l.bo.length)(hc:fp a.rs=0):wi l k a own=ir ((z4 (mR l (wE l k) own)).map (tQ a)):=by
 unfold wi;rw[ajf oz,ajf hk,ajf oz,ajf oz]
end
structure DyOk(E:Nat)(l:Li)(k:Int)(a:As)(own:Bool)(i:Nat)(g:Gr):Prop where
  li:ax l=0
  sp:bU l=0
  hk:k=(i:Int)
  hg:(aC l)[i]?=some g
  ok:GrOk l g
  dy:DyK l g
  ln:a.bs.length=l.bo.length
  chk:fp a.rs=0
  nd:∀b∈mR l g own,tQ a b=0
  sm:∀b∈mR l g own,0<=b->∀p,a.bs[b.toNat]?=some p->∀x∈p.l,NR x E
def JC(E:Nat)(l:Li)(k:Int)(a:As)(own:Bool):Prop:=∀b∈mR l (wE l k) own,0<=b->∀p,a.bs[b.toNat]?=some p->∀x∈p.l,NR x E
theorem Q6{l:Li}{k:Int}{a:As}{own:Bool}{E:Nat}(hs:JC E l k a own)(h:xb l k a own=0):∃i g,DyOk E l k a own i g:=by
 unfold xb at h;split at h
 ·rename_i h1;exact ajm h h1
 ·rename_i h1;have h1:=ah2.1 h1;unfold wi at h;split at h
  ·rename_i h2;exact ajm h h2
  ·rename_i h2;split at h
   ·cases h
   ·rename_i h3;split at h
    ·cases h
    ·rename_i h4;split at h
     ·rename_i h5;exact ajm h h5
     ·rename_i h5;obtain⟨g,hg⟩:=aB (l:=aC l) (i:=k.toNat) oz;have e:wE l k=g:=aP hg;rw[e]at h;obtain⟨d1,d2⟩:=lT h1 (ah3 hg);refine⟨k.toNat,g,h1,by omega,by omega,hg,d2,d1,by omega,by omega,fun b hb=>?_,e▸hs⟩;exact tM h _ (af0.2 ⟨b,Kf.2 hb,rfl⟩)
theorem DyOk.body{E:Nat}{l:Li}{k:Int}{a:As}{own:Bool}{i:Nat}{g:Gr}(h:DyOk E l k a own i g){b:Int}(hb:b∈mR l g own)(h0:0<=b):∃p,a.bs[b.toNat]?=some p/\pp a.rs p.l=0/\∀x∈p.l,NR x E:=by
 have h1:=JJ h.li h.ok b hb;obtain⟨p,hp⟩:=aB (l:=a.bs) (i:=b.toNat) (by have:=h.ln;omega);have h2:=h.nd b hb;unfold tQ at h2;rw[ajf oz,aP hp]at h2;exact⟨p,hp,h2,h.sm b hb h0 p hp⟩
theorem Kl{r:(k:Nat)->T k}{n:Nat}(p q:Rat):(qE (p+q):E r n)=qE p+qE q:=T.ofQ_add n p q
def aL(l:Li)(body pt:Int):Rat×Rat:=(((bV l body).getD pt.toNat default).x.q,((bV l body).getD pt.toNat default).y.q)
structure Sm(e:Nat)(p:Rat×Rat):Prop where
  x:Qb e p.1
  y:Qb e p.2
structure MkP(l:Li)(body pt:Int)(n k:Nat)(bd:Bd)(m:Mk):Prop where
  hn:body=n
  hk:pt=k
  gbd:l.bo[n]?=some bd
  gm:bd.pts[k]?=some m
  ex:m.x=rt (aL l body pt).1
  ey:m.y=rt (aL l body pt).2
  sm:Sm 1000 (aL l body pt)
theorem xi{l:Li}(hl:l.ok)(af:ax l=0){body pt:Int}(h1:aX body l.bo.length=true)(h2:aX pt (bV l body).length=true):∃n k bd m,MkP l body pt n k bd m:=by
 obtain⟨bd,g1,g2,g3,g4⟩:=sS h1;rw[g2]at h2;obtain⟨m,g5,g6,g7,g8⟩:=vh h2;have hv:=Vi af g1 g5;have ho:=(hl.bo bd g3).pts m g7;have e:aL l body pt=(m.x.q,m.y.q):=by unfold aL;rw[g2,g6]
 exact⟨body.toNat,pt.toNat,bd,m,by omega,by omega,g1,g5,by rw[e];exact Rt.eq_rt ho.x hv.1,by rw[e];exact Rt.eq_rt ho.y hv.2,by rw[e];exact⟨ho.qx.mono oz,ho.qy.mono oz⟩⟩
theorem cu{l:Li}(hl:l.ok)(af:ax l=0){body pt:Int}(h1:aX body l.bo.length=true)(h2:aX pt (bV l body).length=true):Sm 1000 (aL l body pt):=by
 obtain⟨n,k,bd,m,h⟩:=xi hl af h1 h2;exact h.sm
def jy(l:Li)(a:As)(body pt:Int):Et (llq a.rs)×Et (llq a.rs):=BI l a body pt
structure PlP(E:Nat)(l:Li)(a:As)(body pt:Int)(n k:Nat)(bd:Bd)(m:Mk)(b:Pl):Prop where
  mp:MkP l body pt n k bd m
  gb:a.bs[n]?=some b
  eq:BI l a body pt=zu (llq a.rs) b m
  av:b.av=Pq.av ⟨lq b.c,lq b.s,lq b.x,lq b.y⟩
  ok:Pq.ok (llq a.rs).length E ⟨lq b.c,lq b.s,lq b.x,lq b.y⟩
def Pd(E:Nat)(a:As)(body:Int):Prop:=∃p,a.bs[body.toNat]?=some p/\pp a.rs p.l=0/\∀x∈p.l,NR x E
theorem Rw{E:Nat}{l:Li}(hl:l.ok)(af:ax l=0){a:As}(al:AB a)(hc:fp a.rs=0){body pt:Int}(h1:aX body l.bo.length=true)(h2:aX pt (bV l body).length=true)(hb:Pd E a body):∃n k bd m b,PlP E l a body pt n k bd m b:=by
 obtain⟨n,k,bd,m,h⟩:=xi hl af h1 h2;obtain⟨b,gb,hb,Bi⟩:=hb;obtain⟨tw,_⟩:=KV al.tr hc;have h5:a.rs.length<=5:=by have:=tw.five;rwa [I5]at this
 have h9:=ab9 hb Bi h5;have e:body.toNat=n:=by have:=h.hn;omega
 have e2:pt.toNat=k:=by have:=h.hk;omega
 rw[e]at gb;obtain⟨bd',g1,g2,_,_⟩:=sS h1;rw[e]at g1;have:bd'=bd:=Option.some.inj (g1.symm.trans h.gbd);subst this;refine⟨n,k,bd',m,b,h,gb,?_,h9.1,by rw[I5];exact h9.2⟩;unfold BI;rw[e,e2,aP gb,g2,aP h.gm]
structure DyS(a:As):Prop where
  tr:TR a.rs 132000
  two:fp a.rs=0->(llq a.rs).length<=2
  ct:fp a.rs=0->Ct (llq a.rs) 310000 132100
structure DyT(a:As):Prop extends DyS a where
  one:fp a.rs=0->(llq a.rs).length<=1
theorem Wa{a:As}(tr:TR a.rs 132000)(one:fp a.rs=0->(llq a.rs).length<=1):DyT a:=by
 refine⟨⟨tr,fun hc=>aiw (one hc) oz,fun hc=>?_⟩,one⟩;obtain⟨tw,_⟩:=KV tr hc;refine⟨⟨132000,tw,?_⟩,by omega,by omega,by omega,by omega⟩;have h1:=qB 132000 (one hc);have h2:eB 132000 1=132002:=by simp only[eB]
 omega
def cc(p q:Rat×Rat):Rat×Rat:=(p.1-q.1,p.2-q.2)
def gG(p q:Rat×Rat):Rat:=p.1*q.1+p.2*q.2
def Fm(p q:Rat×Rat):Rat:=p.1*q.2-p.2*q.1
theorem Sm.sub{e f:Nat}{p q:Rat×Rat}(hp:Sm e p)(hq:Sm f q):Sm (e+f+1) (cc p q):=⟨hp.x.sub hq.x,hp.y.sub hq.y⟩
theorem Sm.dot{e f:Nat}{p q:Rat×Rat}(hp:Sm e p)(hq:Sm f q):Qb (e+f+(e+f)+1) (gG p q):=(hp.x.mul hq.x).add (hp.y.mul hq.y)
theorem Sm.cross{e f:Nat}{p q:Rat×Rat}(hp:Sm e p)(hq:Sm f q):Qb (e+f+(e+f)+1) (Fm p q):=(hp.x.mul hq.y).sub (hp.y.mul hq.x)
theorem Sm.mono{e f:Nat}{p:Rat×Rat}(hp:Sm e p)(h:e<=f):Sm f p:=⟨hp.x.mono h,hp.y.mono h⟩
def bi(l:Li)(j:Jt)(b:Int):Rat×Rat:=if j.a=b then aL l b j.point else aL l b j.on
def fm(l:Li)(a:As)(j:Jt)(b:Int):Et (llq a.rs)×Et (llq a.rs):=if j.a=b then jy l a j.b j.on else jy l a j.a j.point
structure PinP(E:Nat)(l:Li)(a:As)(j:Jt)(b:Int):Prop where
  tie:(j.a=b/\Pd E a j.b)\/(j.a≠b/\j.b=b/\Pd E a j.a)
theorem PinP.or{E:Nat}{l:Li}{a:As}{j:Jt}{b:Int}(h:PinP E l a j b):j.a=b\/j.b=b:=by
 rcases h.tie with h9 |h9
 ·exact .inl h9.1
 ·exact .inr h9.2.1
theorem Q7{l:Li}(hl:l.ok)(af:ax l=0){i:Nat}{j:Jt}(hj:l.jo[i]?=some j){b:Int}(h:j.a=b\/j.b=b):Sm 1000 (bi l j b):=by
 obtain⟨i1,i2,i3,i4,_⟩:=ee af hj;unfold bi
 by_cases e:j.a=b
 ·rw[ajg e];subst e;exact cu hl af i1 i3
 ·rw[ajf e];rcases h with h |h
  ·exact ajm h e
  ·subst h;exact cu hl af i2 i4
theorem Ae{bs:List Int}{b:Int}(h:b∈bs):bs.contains b=true:=age.2 h
theorem pR{bs:List Int}{b:Int}(h:b∉bs):bs.contains b=false:=by
 cases hc:bs.contains b with
 |false=>rfl
 |true=>exact ajm (age.1 hc) h
theorem DyOk.ancs{E:Nat}{l:Li}{k:Int}{a:As}{own:Bool}{n:Nat}{g:Gr}(h:DyOk E l k a own n g){z b:Int}{j:Jt}(hz:z∈g.jo)(hj:l.jo[z.toNat]?=some j)(hb:eH g j=b)(h0:0<=b):Pd E a b:=by
 refine h.body ?_ h0;unfold mR ck;refine List.mem_append_left _ (af0.2 ⟨z,hz,?_⟩);rw[aP hj];exact hb
theorem DyOk.pin{E:Nat}{l:Li}{k:Int}{a:As}{own:Bool}{n:Nat}{g:Gr}(h:DyOk E l k a own n g){kd z b:Int}{j:Jt}{bs:List Int}(lh:g.bo=bs)(t:TieO l kd bs z b j)(hz:z∈g.jo)(hb:b∈bs):PinP E l a j b:=by
 subst lh;obtain⟨i1,i2,_⟩:=ee h.li t.hj;have i1:=dM i1;have i2:=dM i2;rcases t.tie with⟨e,hn⟩ |⟨e,hn⟩
 ·refine⟨.inl ⟨e,h.ancs hz t.hj ?_ i2.1⟩⟩;unfold eH;rw[ajg (Ae (e▸hb)),ajf (by rw[pR hn];simp)]
 ·refine⟨.inr ⟨fun e2=>hn (e2▸hb),e,h.ancs hz t.hj ?_ i1.1⟩⟩;unfold eH;rw[ajf (by rw[pR hn];simp)]
theorem DyOk.own{E:Nat}{l:Li}{k:Int}{a:As}{n:Nat}{g:Gr}(h:DyOk E l k a true n g){b:Int}(hb:b∈g.bo):Pd E a b:=by
 refine h.body ?_ (h.ok.b b hb).1;unfold mR;rw[ajg rfl];exact List.mem_append_right _ hb
structure RrrP(E:Nat)(l:Li)(a:As)(g:Gr)(i k z0 z1 z2:Int)(j0 j1 j2:Jt):Prop where
  eq:g=⟨1,[i,k],[z0,z1,z2],0⟩
  h0:l.jo[z0.toNat]?=some j0
  h1:l.jo[z1.toNat]?=some j1
  h2:l.jo[z2.toNat]?=some j2
  p0:PinP E l a j0 i
  p1:PinP E l a j1 k
  t1:j2.a=i\/j2.b=i
  t2:j2.a=k\/j2.b=k
structure SlP(E:Nat)(l:Li)(a:As)(g:Gr)(kd i z0 z1:Int)(j0 j:Jt):Prop where
  eq:g=⟨kd,[i],[z0,z1],0⟩
  h0:l.jo[z0.toNat]?=some j0
  h1:l.jo[z1.toNat]?=some j
  p0:PinP E l a j0 i
  p1:PinP E l a j i
  hk:j.kind≠0
theorem DyOk.rrr{E:Nat}{l:Li}{k:Int}{a:As}{own:Bool}{n:Nat}{g:Gr}(h:DyOk E l k a own n g)(hk:g.kind=1):∃i k z0 z1 z2 j0 j1 j2,RrrP E l a g i k z0 z1 z2 j0 j1 j2:=by
 have hd:=h.dy;cases hd with
 |drv _ _ _ _=>exact ajm hk (by simp)
 |pr _ _ _=>exact ajm hk (by simp)
 |rp _ _ _=>exact ajm hk (by simp)
 | @rrr i k z0 z1 z2 j0 j1 j2 ne t0 t1 h0 h2 kd tie =>
  refine⟨i,k,z0,z1,z2,j0,j1,j2,rfl,t0.hj,t1.hj,h2,h.pin rfl t0 (by simp) (by simp),h.pin rfl t1 (by simp) (by simp),?_,?_⟩
  ·rcases tie with h9 |h9
   ·exact .inl h9.1
   ·exact .inr h9.1
  ·rcases tie with h9 |h9
   ·exact .inr h9.2
   ·exact .inl h9.2
theorem DyOk.pr{E:Nat}{l:Li}{k:Int}{a:As}{own:Bool}{n:Nat}{g:Gr}(h:DyOk E l k a own n g)(hk:g.kind=2):∃i z0 z1 j0 j,SlP E l a g 2 i z0 z1 j0 j/\j.a=i/\Pd E a j.b:=by
 have hd:=h.dy;cases hd with
 |drv _ _ _ _=>exact ajm hk (by simp)
 |rrr _ _ _ _ _ _ _=>exact ajm hk (by simp)
 |rp _ _ _=>exact ajm hk (by simp)
 | @pr i z0 z1 j0 j1 t0 t1 ha =>
  have p1:PinP E l a j1 i:=h.pin rfl t1 (by simp) (by simp);refine⟨i,z0,z1,j0,j1,⟨rfl,t0.hj,t1.hj,h.pin rfl t0 (by simp) (by simp),p1,by rw[t1.kd];decide⟩,ha,?_⟩;rcases p1.tie with h9 |h9
  ·exact h9.2
  ·exact ajm ha h9.1
theorem DyOk.rp{E:Nat}{l:Li}{k:Int}{a:As}{own:Bool}{n:Nat}{g:Gr}(h:DyOk E l k a own n g)(h0:g.kind≠0)(h1:g.kind≠1)(h2:g.kind≠2):∃i z0 z1 j0 j,SlP E l a g 3 i z0 z1 j0 j/\j.a≠i/\j.b=i/\Pd E a j.a:=by
 have hd:=h.dy;cases hd with
 |drv _ _ _ _=>exact ajm rfl h0
 |rrr _ _ _ _ _ _ _=>exact ajm rfl h1
 |pr _ _ _=>exact ajm rfl h2
 | @rp i z0 z1 j0 j1 t0 t1 ha =>
  have p1:PinP E l a j1 i:=h.pin rfl t1 (by simp) (by simp);refine⟨i,z0,z1,j0,j1,⟨rfl,t0.hj,t1.hj,h.pin rfl t0 (by simp) (by simp),p1,by rw[t1.kd];decide⟩,ha,?_⟩;rcases p1.tie with h9 |h9
  ·exact ajm h9.1 ha
  ·exact⟨h9.2.1,h9.2.2⟩
def lA(c p:Rat×Rat):Rat:=gG (cc c p) (cc c p)
def jZ(l:Li)(g:Gr)(n:Nat):Jt:=l.jo.getD (g.jo.getD n 0).toNat default
def oS(g:Gr)(n:Nat):Int:=g.bo.getD n 0
section
variable(l:Li)(a:As)
def q5(i:Int)(j:Jt):Rat×Rat:=cc (aL l i j.to) (aL l i j.on)
def ns(i:Int)(j0 j:Jt):Rat:=Fm (q5 l i j) (cc (aL l i j.on) (bi l j0 i))
def Nh(i:Int)(j:Jt):Rat:=gG (q5 l i j) (q5 l i j)
def iH{ts:LL}(p q:Et ts×Et ts):Et ts×Et ts:=(p.1-q.1,p.2-q.2)
def vU{ts:LL}(p q:Et ts×Et ts):Et ts:=dotE p.1 p.2 q.1 q.2
def K9{ts:LL}(p q:Et ts×Et ts):Et ts:=crsE p.1 p.2 q.1 q.2
def vI(i:Int)(j0 j:Jt):Et (llq a.rs)×Et (llq a.rs):=iH (jy l a j.a j.point) (fm l a j0 i)
def mO(i:Int)(j0 j:Jt):Et (llq a.rs):=vU (vI l a i j0 j) (vI l a i j0 j)
end
section
variable{E:Nat}{l:Li}{a:As}{g:Gr}
theorem RrrP.at{i k z0 z1 z2:Int}{j0 j1 j2:Jt}(h:RrrP E l a g i k z0 z1 z2 j0 j1 j2):jZ l g 0=j0/\jZ l g 1=j1/\jZ l g 2=j2/\oS g 0=i/\oS g 1=k/\g.kind=1:=by
 rw[h.eq];exact⟨aP h.h0,aP h.h1,aP h.h2,rfl,rfl,rfl⟩
theorem SlP.at{kd i z0 z1:Int}{j0 j:Jt}(h:SlP E l a g kd i z0 z1 j0 j):jZ l g 0=j0/\jZ l g 1=j/\oS g 0=i/\g.kind=kd:=by
 rw[h.eq];exact⟨aP h.h0,aP h.h1,rfl,rfl⟩
end
section
variable{ts:LL}
def qv(p:Rat×Rat):Et ts×Et ts:=(qE p.1,qE p.2)
def ki(p q:Et ts×Et ts):Et ts:=vU (iH p q) (iH p q)
theorem K7(x:Rat):0<=x*x:=by
 rcases(Rat.le_total:0<=x\/x<=0)with h |h
 ·exact ag1 h h
 ·have h1 : 0 <= -x := by grind
  have h2:=ag1 h1 h1;grind
def iG(p:Et ts×Et ts)(r:Et ts)(q:Et ts×Et ts)(s:Et ts):Et ts:=qE 4*(r*ki p q)-((r+ki p q)-s)*((r+ki p q)-s)
end
section
variable{E:Nat}{l:Li}{a:As}{g:Gr}
end
def dh(j:Jt)(b:Int):Int:=if j.a=b then j.point else j.on
def fE(j:Jt)(b:Int):Int:=if j.a=b then j.b else j.a
def b9(j:Jt)(b:Int):Int:=if j.a=b then j.on else j.point
theorem DyOk.ne{E:Nat}{l:Li}{k:Int}{a:As}{own:Bool}{n:Nat}{i k2 z0 z1 z2:Int}(h:DyOk E l k a own n ⟨1,[i,k2],[z0,z1,z2],0⟩):i≠k2:=by
 have hd:=h.dy;generalize hg:(⟨1,[i,k2],[z0,z1,z2],0⟩:Gr)=g at hd;cases hd with
 |drv _ _ _ _=>simp at hg
 |pr _ _ _=>simp at hg
 |rp _ _ _=>simp at hg
 |rrr ne _ _ _ _ _ _=>simp at hg;obtain⟨⟨rfl,rfl⟩,_⟩:=hg;exact ne
structure Bulk{H:Type}(bk:DataW H->Nat)(bka:List (DataW H)->Nat):Prop where
  one:∀d,1<=bk d
  nil:bka []=0
  cons:∀d l,bka (d::l)=bk d+bka l
  slice:∀e s,bka e+1<=bk (.slice e s)
  agg:∀l,bka l<=bk (.agg l)
section
variable{P:ajs}{W:ajt}{H:Type}{enc:ajr×ajq->H}{bk:DataW H->Nat}{bka:List (DataW H)->Nat}
theorem Bulk.pick(B:Bulk bk bka){α:Type}{m:α->Nat}:∀{l:List α}{xs:List (DataW H)},l.length<=xs.length->(∀(i:Nat)(a:α),l[i]?=some a->∃x,xs[i]?=some x/\m a<=bk x)->(l.map m).sum<=bka xs
 |[],xs,_,_=>by simp
 |a::l,[],hl,_=>by simp at hl
 |a::l,x::xs,hl,h=>by
  obtain⟨y,hy,h1⟩:=h 0 a rfl;cases hy;have h2:=B.pick (l:=l) (xs:=xs) (by simpa using hl) (fun i b hb=>h (i+1) b hb);rw[B.cons,ajd,List.sum_cons];omega
def wG(P:ajs)(W:ajt)(enc:ajr×ajq->H)(bk:DataW H->Nat)(t:ajr){α:Type}(f:α->AV)(p:α->Prop)(m:α->Nat):Prop :=
  ∀(sp:Nat->Bool)(fuel:Nat)(cs:List ajq)(x:DataW H×List MemPlace),DataW.trod enc P W 0 sp true fuel t cs=some x->(∀n∈x.1.weights P t,n<=reachBytes)->∃a,p a/\oU W cs (f a).cells/\m a<=bk x.1
theorem dp.m{t:ajr}{α:Type}{f:α->AV}{p:α->Prop}(h:dp P W enc t f p):wG P W enc bk t f p (fun _=>0):=by
 intro sp fuel cs x hx hw;obtain⟨a,h1,h2⟩:=h sp fuel cs x hx hw;exact⟨a,h1,h2,aii _⟩
theorem dp.m1(B:Bulk bk bka){t:ajr}{α:Type}{f:α->AV}{p:α->Prop}(h:dp P W enc t f p):wG P W enc bk t f p (fun _=>1):=by
 intro sp fuel cs x hx hw;obtain⟨a,h1,h2⟩:=h sp fuel cs x hx hw;exact⟨a,h1,h2,B.one _⟩
theorem wG.map{α β:Type}{t:ajr}{f:α->AV}{p:α->Prop}{m:α->Nat}(h:wG P W enc bk t f p m)(g:α->β)(f':β->AV)(p':β->Prop)(m':β->Nat)(hg:∀a,p a->p' (g a)/\f' (g a)=f a/\m' (g a)<=m a):wG P W enc bk t f' p' m':=by
 intro sp fuel cs x hx c9;obtain⟨a,ha,hc,hm⟩:=h sp fuel cs x hx c9;obtain⟨h1,h2,h3⟩:=hg a ha;exact⟨g a,h1,by rw[h2];exact hc,aiw h3 hm⟩
end
open Go.Proofs
section
variable{W:ajt}{H:Type}{enc:ajr×ajq->H}
theorem W8:dp prog W enc 87 (fun n:Nat=>u32 n) (fun n=>n<4294967296) :=
 (J8 (k:=.u32) Tryz.underlying87).map Int.toNat _ _ (fun n h=>by
  have h1:0<=n/\n<=4294967295:=by simpa[Lit.wf,IntKind.min,IntKind.max,IntKind.signed,IntKind.bits]using h
  have h2:((n.toNat:Nat):Int)=n:=by omega
  exact⟨by omega,by unfold u32;rw[h2]⟩)
theorem Kj:dp prog W enc 42 ws (fun l=>Ws l/\l.length<=281474976710656) :=
 (vd Tryz.underlying42 (n:=1) (by kernel_rfl) oz (by kernel_rfl) W8 (fun _=>rfl)).map id _ _ (fun l h=>⟨⟨fun x hx=>h.1 x hx,h.2⟩,rfl⟩)
theorem G3:dp prog W enc 4 bl (fun _=>True):=Sn Tryz.underlying4
theorem qV:dp prog W enc 3 i64 (fun _=>True):=(J8 (k:=.i64) Tryz.underlying3).map id _ _ (fun n h=>⟨trivial,rfl⟩)
theorem wA:dp prog W enc 9 (fun s:ByteArray=>AV.v (.string s)) (fun s=>s.size<=281474976710656):=Q8 Tryz.underlying9
theorem DH:dp prog W enc 44 Rt.av Rt.wok :=
 (qH (n := 3) Tryz.underlying44 (by kernel_rfl)
  (.cons rfl (n:=1) (by kernel_rfl) G3 (fun _=>rfl) (.cons rfl (n:=1) (by kernel_rfl) Kj (fun _=>rfl) (.cons rfl (n:=1) (by kernel_rfl) Kj (fun _=>rfl) (.nil _)))) (fun _=>rfl)).map
  (fun z=>⟨z.1,z.2.1,z.2.2.1⟩) _ _ (fun z h=>⟨⟨h.2.1.1,h.2.2.1.1⟩,rfl⟩)
theorem Ux:dp prog W enc 46 Tn.av (fun x=>x.t.wok) :=
 (qH (n := 4) Tryz.underlying46 (by kernel_rfl) (.cons rfl (n := 3) (by kernel_rfl) DH (fun _ => rfl) (.cons rfl (n := 1) (by kernel_rfl) G3 (fun _ => rfl) (.nil _))) (fun _ => rfl)).map
  (fun z=>⟨z.1,z.2.1⟩) _ _ (fun z h=>⟨h.1,rfl⟩)
theorem U5:dp prog W enc 85 Mk.av (fun m=>m.name.size<=281474976710656/\m.x.wok/\m.y.wok) :=
 (qH (n := 7) Tryz.underlying85 (by kernel_rfl)
  (.cons rfl (n:=1) (by kernel_rfl) wA (fun _=>rfl) (.cons rfl (n:=3) (by kernel_rfl) DH (fun _=>rfl) (.cons rfl (n:=3) (by kernel_rfl) DH (fun _=>rfl) (.nil _)))) (fun _=>rfl)).map
  (fun z=>⟨z.1,z.2.1,z.2.2.1⟩) _ _ (fun z h=>⟨⟨h.1,h.2.1,h.2.2.1⟩,rfl⟩)
theorem Ti:dp prog W enc 83 Bd.av (fun b=>b.name.size<=281474976710656/\b.pts.length<=281474976710656/\∀m∈b.pts,m.name.size<=281474976710656/\m.x.wok/\m.y.wok) :=
 (qH (n := 2) Tryz.underlying83 (by kernel_rfl)
  (.cons rfl (n:=1) (by kernel_rfl) wA (fun _=>rfl) (.cons rfl (n:=1) (by kernel_rfl) (vd Tryz.underlying81 (n:=7) (by kernel_rfl) oz (by kernel_rfl) U5 (fun _=>rfl)) (fun _=>rfl) (.nil _))) (fun _=>rfl)).map
  (fun z=>⟨z.1,z.2.1⟩) _ _ (fun z h=>⟨⟨h.1,h.2.1.2,h.2.1.1⟩,rfl⟩)
theorem abw:dp prog W enc 102 Jt.av (fun j=>j.name.size<=281474976710656) :=
 (qH (n := 7) Tryz.underlying102 (by kernel_rfl)
  (.cons rfl (n := 1) (by kernel_rfl) wA (fun _ => rfl) (.cons rfl (n := 1) (by kernel_rfl) qV (fun _ => rfl) (.cons rfl (n := 1) (by kernel_rfl) qV (fun _ => rfl) (.cons rfl (n := 1) (by kernel_rfl) qV (fun _ => rfl)
   (.cons rfl (n:=1) (by kernel_rfl) qV (fun _=>rfl) (.cons rfl (n:=1) (by kernel_rfl) qV (fun _=>rfl) (.cons rfl (n:=1) (by kernel_rfl) qV (fun _=>rfl) (.nil _)))))))) (fun _=>rfl)).map
  (fun z=>⟨z.1,z.2.1,z.2.2.1,z.2.2.2.1,z.2.2.2.2.1,z.2.2.2.2.2.1,z.2.2.2.2.2.2.1⟩) _ _ (fun z h=>⟨h.1,rfl⟩)
theorem Tv:dp prog W enc 73 Dr.av (fun d=>d.name.size<=281474976710656) :=
 (qH (n := 2) Tryz.underlying73 (by kernel_rfl) (.cons rfl (n := 1) (by kernel_rfl) wA (fun _ => rfl) (.cons rfl (n := 1) (by kernel_rfl) qV (fun _ => rfl) (.nil _))) (fun _ => rfl)).map
  (fun z=>⟨z.1,z.2.1⟩) _ _ (fun z h=>⟨h.1,rfl⟩)
abbrev aaa(l:Li):List AV:=[.v (.string l.name),.lst 2 (l.bo.map Bd.av),.lst 7 (l.jo.map Jt.av),.lst 2 (l.drivers.map Dr.av)]
theorem VX:dp prog W enc 26 (fun l:Li=>.agg (aaa l)) Li.okw :=
 (qH (n := 4) Tryz.underlying26 (by kernel_rfl)
  (.cons rfl (n := 1) (by kernel_rfl) wA (fun _ => rfl)
   (.cons rfl (n := 1) (by kernel_rfl) (vd Tryz.underlying22 (n := 2) (by kernel_rfl) oz (by kernel_rfl) Ti (fun _ => rfl)) (fun _ => rfl)
    (.cons rfl (n := 1) (by kernel_rfl) (vd Tryz.underlying23 (n := 7) (by kernel_rfl) oz (by kernel_rfl) abw (fun _ => rfl)) (fun _ => rfl)
     (.cons rfl (n:=1) (by kernel_rfl) (vd Tryz.underlying24 (n:=2) (by kernel_rfl) oz (by kernel_rfl) Tv (fun _=>rfl)) (fun _=>rfl) (.nil _))))) (fun _=>rfl)).map
  (fun z=>⟨z.1,z.2.1,z.2.2.1,z.2.2.2.1⟩) _ _ (fun z h=>⟨⟨h.1,h.2.1.1,h.2.2.1.1,h.2.2.2.1.1,h.2.1.2,h.2.2.1.2,h.2.2.2.1.2⟩,rfl⟩)
end
open Go.Proofs Go.Proofs.YtmencaoblogmeaaGreat
open Go.ChangeShapes Go.WideShapes Go.ChangeAt Go.RowKit
theorem own:ownKnob prog.godebug=none:=by kernel_rfl
theorem LZ:laidOutB prog=true:=by kernel_rfl
theorem S3:prog.stopsHeard=true:=by kernel_rfl
theorem Tf:prog.plainKeys=true:=by kernel_rfl
theorem VC:mapsRowed prog=true:=by kernel_rfl
theorem XH:prog.mayEnter=true:=by kernel_rfl
theorem X4:prog.liftsFinal=false:=by kernel_rfl
theorem M4{H:Type}{enc:ajr×ajq->H}{W W':ajt}{t:ajr}{v:ajq}{d:DataW H}{ps:List MemPlace}{sp':Nat->Bool}(hr:prog.readableRec t=true)(ht:t<prog.types.size)
  (h:DataW.Trod enc prog W 0 (fun _=>true) true t v d ps) (hb:Below W.heap.size W W') (hlt:∀x∈ps,x.block<W.heap.size) (hs:∀p∈ps,sp' p.block=true):DataW.Trod enc prog W' 0 sp' true t v d ps :=
 WideElems.Trod_stays LZ hr ht h (fun x hx=>hb.same (hlt x hx)) hs
end Go.Lw
namespace Go.Lw
def au:List Rat->Rat->Rat
  |[],_=>0
  |c::p,t=>c+t*au p t
def ptr:List Rat->List Rat
  |[]=>[]
  |c::p=>if ptr p=[]/\c=0 then[]else c::ptr p
def cV(p:List Rat):Prop:=ptr p=p
theorem it:∀(p:List Rat)(t:Rat),au (ptr p) t=au p t
 |[],t=>rfl
 |c::p,t=>by
  have ih:=it p t;unfold ptr;split
  ·rename_i h;rw[h.1]at ih;show 0=c+t*au p t;rw[<- ih,h.2];show(0:Rat)=0+t*0;grind
  ·show c+t*au (ptr p) t=c+t*au p t;rw[ih]
theorem OC:∀p:List Rat,ptr (ptr p)=ptr p
 |[]=>rfl
 |c::p=>by
  have ih:=OC p
  by_cases h:ptr p=[]/\c=0
  ·rw[show ptr (c::p)=[]from ajg h];rfl
  ·rw[show ptr (c::p)=c::ptr p from ajf h];show(if ptr (ptr p)=[]/\c=0 then[]else c::ptr (ptr p))=c::ptr p;rw[ih,ajf h]
theorem dC(p:List Rat):cV (ptr p):=OC p
theorem cV.tail{c:Rat}{p:List Rat}(h:cV (c::p)):cV p:=by
 unfold cV ptr at h;split at h
 ·cases h
 ·exact(List.cons.inj h).2
theorem cV.ne{c:Rat}{p:List Rat}(h:cV (c::p))(hp:p=[]):c≠0:=by
 subst hp;intro hc;unfold cV ptr at h;rw[ajg ⟨rfl,hc⟩]at h;cases h
theorem A5:∀{p:List Rat},ptr p=[]↔∀c∈p,c=0
 |[]=>⟨fun _=>fun c h=>(by cases h),fun _=>rfl⟩
 |c::p=>by
  have ih:=A5 (p:=p);constructor
  ·intro h d hd;unfold ptr at h;split at h
   ·rename_i h1;rcases aiq.1 hd with rfl |h2
    ·exact h1.2
    ·exact ih.1 h1.1 d h2
   ·cases h
  ·intro h;unfold ptr;rw[ajg ⟨ih.2 (fun d hd=>h d (ait _ hd)),h c (ai2 ..)⟩]
theorem ja:∀p:List Rat,(ptr p).length<=p.length
 |[]=>aie _
 |c::p=>by
  have ih:=ja p;unfold ptr;split
  ·exact aii _
  ·simp only[aij];omega
theorem Hx:∀{p:List Rat}{c:Rat},c∈ptr p->c∈p
 |d::p,c,h=>by
  unfold ptr at h;split at h
  ·cases h
  ·rcases aiq.1 h with rfl |h
   ·exact ai2 ..
   ·exact ait _ (Hx h)
theorem Ft{a b c:Rat}(h:a<=b)(hc:0<=c):c*a<=c*b:=Rat.mul_le_mul_of_nonneg_left h hc
theorem KP:∀(p:List Rat),ptr p≠[]->∃T δ:Rat,1<=T/\0<δ/\∀t,T<=t->δ<=au p t\/au p t <= -δ
 |[],h=>ajm rfl h
 |c::p,h=>by
  by_cases hp:ptr p=[]
  ·have hc : c ≠ 0 := fun hc => h (by unfold ptr; rw [ajg ⟨hp, hc⟩])
   have e:∀t,au (c::p) t=c:=fun t=>by
    show c+t*au p t=c;rw[<- it p,hp];show c+t*0=c;grind
   rcases(Rat.le_total (a:=0) (b:=c))with h1 |h1
   ·exact⟨1,c,ag9,by grind,fun t _=>.inl (by rw[e];exact ag9)⟩
   ·exact⟨1,-c,ag9,by grind,fun t _=>.inr (by rw[e];grind)⟩
  ·obtain⟨T,δ,hT,hδ,hb⟩:=KP p hp
   obtain⟨M,h0,h1,h2⟩:∃M:Rat,0<=M/\c<=M /\ -c<=M:=by
    rcases(Rat.le_total (a:=0) (b:=c))with h1 |h1
    ·exact⟨c,h1,ag9,by grind⟩
    ·exact⟨-c,by grind,by grind,ag9⟩
   have hi:0<=M/δ:=by
    rw[Rat.div_def];exact ag1 h0 (Rat.le_of_lt (Rat.inv_pos.2 hδ))
   have he:M/δ*δ=M:=Rat.div_mul_cancel (by grind);refine⟨T+1+M/δ,δ,by grind,hδ,fun t ht=>?_⟩;have htT:T<=t:=by grind
   have h3:δ+M<=t*δ:=by
    have h4:δ*(1+M/δ)<=δ*t:=Ft (by grind) (Rat.le_of_lt hδ);grind
   have xM:0<=t:=by grind
   show δ<=c+t*au p t\/c+t*au p t <= -δ;rcases hb t htT with h5 |h5
   ·left;have h6:=Ft h5 xM;grind
   ·right;have h6:=Ft h5 xM;grind
theorem Mf{p:List Rat}(h:∀t,au p t=0):ptr p=[]:=by
 refine Decidable.byContradiction fun hp=>?_
 obtain⟨T,δ,_,hδ,hb⟩:=KP p hp;have h1:=hb T ag9;rw[h T]at h1;rcases h1 with h1 |h1 <;> grind
def gV:List Rat->List Rat->Rat->List Rat
  |[],q,c=>q.map fun x=>c*x
  |a::p,[],_=>a::p
  |a::p,b::q,c=>(a+c*b)::gV p q c
theorem JG(c t:Rat):∀q:List Rat,au (q.map fun x=>c*x) t=c*au q t
 |[]=>by show(0:Rat)=c*0;grind
 |b::q=>by
  have ih:=JG c t q;show c*b+t*au (q.map fun x=>c*x) t=c*(b+t*au q t);rw[ih];grind
theorem u9(c t:Rat):∀p q:List Rat,au (gV p q c) t=au p t+c*au q t
 |[],q=>by
  show au (q.map fun x=>c*x) t=0+c*au q t;rw[JG];grind
 |a::p,[]=>by
  show a+t*au p t=a+t*au p t+c*0;grind
 |a::p,b::q=>by
  have ih:=u9 c t p q;show(a+c*b)+t*au (gV p q c) t=a+t*au p t+c*(b+t*au q t);rw[ih];grind
theorem ni(c:Rat):∀p q:List Rat,(gV p q c).length=max p.length q.length
 |[],q=>by show(q.map _).length=_;rw[ah6];simp
 |a::p,[]=>by show(a::p).length=max (a::p).length 0;omega
 |a::p,b::q=>by
  have ih:=ni c p q;show(gV p q c).length+1=max (p.length+1) (q.length+1);omega
theorem Cn(c:Rat):∀(p q:List Rat)(i:Nat),(gV p q c).getD i 0=p.getD i 0+c*q.getD i 0
 |[],q,i=>by
  show(q.map fun x=>c*x).getD i 0=0+c*q.getD i 0;rw[ah4,ah4,aib];cases q[i]? with
  |none=>show(0:Rat)=0+c*0;grind
  |some x=>show c*x=0+c*x;grind
 |a::p,[],i=>by show(a::p).getD i 0=(a::p).getD i 0+c*0;grind
 |a::p,b::q,0=>rfl
 |a::p,b::q,i+1=>Cn c p q i
theorem OG:∀{p q:List Rat},cV p->cV q->(∀c∈gV p q (-1),c=0)->p=q
 |[],q,hp,hq,h=>by
  have h1:∀c∈q,c=0:=fun c hc=>by
   have:=h (-1*c) (af0.2 ⟨c,hc,rfl⟩);grind
  have h2:=A5.2 h1;rw[hq]at h2;exact h2.symm
 |a::p,[],hp,hq,h=>by
  have h2:=A5.2 h;rw[show gV (a::p) [] (-1)=a::p from rfl,hp]at h2;exact h2
 |a::p,b::q,hp,hq,h=>by
  have h1:=h (a+-1*b) (ai2 ..);have h2:=OG hp.tail hq.tail (fun c hc=>h c (ait _ hc));rw[h2,show a=b by grind]
theorem nV{p q:List Rat}(hp:cV p)(hq:cV q)(h:∀t,au p t=au q t):p=q:=by
 refine OG hp hq (A5.1 (Mf fun t=>?_));rw[u9,h];grind
def padd(p q:List Rat)(c:Rat):List Rat:=ptr (gV p q c)
theorem j9(p q:List Rat)(c t:Rat):au (padd p q c) t=au p t+c*au q t:=by unfold padd;rw[it,u9]
def mH:List Rat->List Rat->List Rat
  |[],_=>[]
  |a::p,q=>gV (0::mH p q) q a
def fA(p q:List Rat):List Rat:=ptr (mH p q)
theorem Dc(t:Rat):∀p q:List Rat,au (mH p q) t=au p t*au q t
 |[],q=>by show(0:Rat)=0*au q t;grind
 |a::p,q=>by
  have ih:=Dc t p q;show au (gV (0::mH p q) q a) t=(a+t*au p t)*au q t;rw[u9];show 0+t*au (mH p q) t+a*au q t=_;rw[ih];grind
theorem ux(p q:List Rat)(t:Rat):au (fA p q) t=au p t*au q t:=by unfold fA;rw[it,Dc]
theorem Mg(p:List Rat):fA p []=[]:=Mf fun t=>by rw[Dc];show au p t*0=0;grind
theorem Le:∀p q:List Rat,q≠[]->p≠[]->(mH p q).length+1=p.length+q.length
 |[],q,hq,hp=>ajm rfl hp
 |[a],q,hq,_=>by
  show(gV (0::[]) q a).length+1=1+q.length;rw[ni];have:=afq.2 hq;simp only[aij,aiv];omega
 |a::b::p,q,hq,_=>by
  have ih:=Le (b::p) q hq (by simp);show(gV (0::mH (b::p) q) q a).length+1=_;rw[ni];simp only[aij]at ih ⊢;omega
def dvL:List Rat->List Rat×Rat×Rat
  |[]=>([],0,0)
  |c::p=>((dvL p).2.2::(dvL p).1,c-(dvL p).2.2,(dvL p).2.1)
theorem Ns(t:Rat):∀p:List Rat,au p t=au (dvL p).1 t*(1+t*t)+(dvL p).2.1+(dvL p).2.2*t
 |[]=>by show(0:Rat)=0*(1+t*t)+0+0*t;grind
 |c::p=>by
  have ih:=Ns t p;show c+t*au p t=((dvL p).2.2+t*au (dvL p).1 t)*(1+t*t)+(c-(dvL p).2.2)+(dvL p).2.1*t;rw[ih];grind
def dvQ(p:List Rat):List Rat:=ptr (dvL p).1
def fM(p:List Rat):List Rat:=ptr [(dvL p).2.1,(dvL p).2.2]
theorem LX(p:List Rat)(t:Rat):au p t=au (dvQ p) t*(1+t*t)+au (fM p) t:=by
 unfold dvQ fM;rw[it,it,Ns t p];show _=_+((dvL p).2.1+t*((dvL p).2.2+t*0));grind
theorem Z2(p:List Rat):(fM p).length<=2:=ja _
def uh(p:List Rat):List Rat:=gV (0::0::p) p 1
theorem Yd(p:List Rat)(t:Rat):au (uh p) t=au p t*(1+t*t):=by
 unfold uh;rw[u9];show 0+t*(0+t*au p t)+1*au p t=_;grind
theorem vN{c:Rat}{p:List Rat}(hp:cV p)(h:p=[]->c≠0):cV (c::p):=by
 unfold cV ptr;rw[hp];split
 ·rename_i h1;exact ajm h1.2 (h h1.1)
 ·rfl
theorem OJ(c:Rat):∀{p q:List Rat},cV p->q.length<p.length->cV (gV p q c)
 |[],q,_,h=>by simp at h
 |a::p,[],hp,_=>hp
 |a::p,b::q,hp,h=>by
  have h1:q.length<p.length:=by simp only[aij]at h;omega
  refine vN (OJ c hp.tail h1) (fun h2=>?_);have h3:=ni c p q;rw[h2]at h3;simp only[aiv]at h3;omega
theorem Q1{p:List Rat}(hp:cV p)(h:p≠[]):cV (uh p):=OJ 1 (vN (vN hp (fun e=>ajm e h)) (fun e=>by cases e)) (by simp only[aij];omega)
theorem Xg(p:List Rat):(uh p).length=p.length+2:=by unfold uh;rw[ni];simp only[aij];omega
theorem EX{p Q R:List Rat}(hQ:cV Q)(hR:cV R)(h2:R.length<=2)(h:∀t,au p t=au Q t*(1+t*t)+au R t):Q=dvQ p/\R=fM p:=by
 have e:∀t,au (padd Q (dvQ p) (-1)) t*(1+t*t)=au (padd (fM p) R (-1)) t:=fun t=>by
  rw[j9,j9];have h1:=h t;have h3:=LX p t;grind
 have hD:padd Q (dvQ p) (-1)=[]:=by
  refine Decidable.byContradiction fun aF=>?_
  have h4:uh (padd Q (dvQ p) (-1))=padd (fM p) R (-1):=nV (Q1 (dC _) aF) (dC _) (fun t=>by rw[Yd];exact e t);have h5:=ajn List.length h4;rw[Xg]at h5
  have h6:(padd (fM p) R (-1)).length<=2:=by
   refine aiw (ja _) ?_;rw[ni];have:=Z2 p;omega
  have h7:=afq.2 aF;omega
 have hq:Q=dvQ p:=nV hQ (dC _) (fun t=>by
  have h1:=j9 Q (dvQ p) (-1) t;rw[hD]at h1;have h3:au ([]:List Rat) t=0:=rfl;grind)
 refine⟨hq,nV hR (dC _) (fun t=>?_)⟩;have h1:=h t;have h3:=LX p t;have h4:au Q t=au (dvQ p) t:=by rw[<- hq]
 rw[h4]at h1;have h5:au R t=au (fM p) t:=by grind
 exact h5
theorem IS{p K:List Rat}(h:∀t,au p t=au K t*(1+t*t)):dvQ p=ptr K/\fM p=[]:=by
 obtain⟨h1,h2⟩:=EX (p:=p) (dC K) (rfl:cV []) (by simp) (fun t=>by rw[h,it];show _=_+(0:Rat);grind);exact⟨h1.symm,h2.symm⟩
def Pb(e:Nat)(p:List Rat):Prop:=∀c∈p,Qb e c
theorem Pb.mono{e f:Nat}{p:List Rat}(h:Pb e p)(hf:e<=f):Pb f p:=fun c hc=>(h c hc).mono hf
theorem Pb.tr{e:Nat}{p:List Rat}(h:Pb e p):Pb e (ptr p):=fun c hc=>h c (Hx hc)
theorem Pb.map{e k:Nat}{c:Rat}{p:List Rat}(h:Pb e p)(hc:Qb k c):Pb (k+e) (p.map fun x=>c*x):=fun x hx=>by
 obtain⟨y,hy,rfl⟩:=af0.1 hx;exact hc.mul (h y hy)
theorem Pb.lin{e f k:Nat}{c:Rat}(hc:Qb k c):∀{p q:List Rat},Pb e p->Pb f q->Pb (e+(k+f)+1) (gV p q c)
 |[],q,_,hq=>(hq.map hc).mono oz
 |a::p,[],hp,_=>hp.mono oz
 |a::p,b::q,hp,hq=>fun x hx=>by
  rcases aiq.1 hx with rfl |h
  ·exact(hp a (ai2 ..)).add (hc.mul (hq b (ai2 ..)))
  ·exact Pb.lin hc (p:=p) (q:=q) (fun y hy=>hp y (ait _ hy)) (fun y hy=>hq y (ait _ hy)) x h
theorem Pb.add{e f k:Nat}{c:Rat}{p q:List Rat}(hc:Qb k c)(hp:Pb e p)(hq:Pb f q):Pb (e+(k+f)+1) (padd p q c):=(hp.lin hc hq).tr
theorem Pb.mulL{e f:Nat}:∀{p q:List Rat},Pb e p->Pb f q->Pb (p.length*(e+f+1)+1) (mH p q)
 |[],q,_,_=>fun x hx=>by cases hx
 |a::p,q,hp,hq=>by
  have ih:=Pb.mulL (p:=p) (fun y hy=>hp y (ait _ hy)) hq
  have h0:Pb (p.length*(e+f+1)+1) (0::mH p q):=fun x hx=>by
   rcases aiq.1 hx with rfl |h
   ·exact Qb.zero.mono oz
   ·exact ih x h
  have h1:=h0.lin (hp a (ai2 ..)) hq;refine h1.mono ?_;rw[aij,aez];omega
theorem Pb.mul{e f:Nat}{p q:List Rat}(hp:Pb e p)(hq:Pb f q):Pb (p.length*(e+f+1)+1) (fA p q):=(hp.mulL hq).tr
theorem Pb.dvL{e:Nat}:∀{p:List Rat},Pb e p->Pb (p.length*(e+1)+1) (Lw.dvL p).1/\Qb (p.length*(e+1)+1) (Lw.dvL p).2.1/\Qb (p.length*(e+1)+1) (Lw.dvL p).2.2
 |[],_=>⟨fun x hx=>(by cases hx),Qb.zero.mono oz,Qb.zero.mono oz⟩
 |c::p,hp=>by
  obtain⟨h1,h2,h3⟩:=Pb.dvL (p:=p) (fun y hy=>hp y (ait _ hy));have hl:(c::p).length*(e+1)+1=p.length*(e+1)+1+(e+1):=by rw[aij,aez];omega
  refine⟨fun x hx=>?_,?_,?_⟩
  ·rcases aiq.1 hx with rfl |h
   ·exact h3.mono oz
   ·exact(h1 x h).mono oz
  ·exact((hp c (ai2 ..)).sub h3).mono oz
  ·exact h2.mono oz
theorem Pb.dvQ{e:Nat}{p:List Rat}(h:Pb e p):Pb (p.length*(e+1)+1) (Lw.dvQ p):=h.dvL.1.tr
theorem Fk(p q:List Rat)(c:Rat):(padd p q c).length<=max p.length q.length:=aiw (ja _) (Nat.le_of_eq (ni c p q))
theorem Mb(p q:List Rat):(fA p q).length<=p.length+q.length-1:=by
 by_cases hp:p=[]
 ·subst hp;exact aii _
 by_cases hq:q=[]
 ·subst hq;rw[Mg];exact aii _
 have h:=Le p q hq hp;have h2:=ja (mH p q);unfold fA;omega
theorem Rj(p:List Rat):(dvQ p).length<=p.length:=by
 have h:∀p:List Rat,(dvL p).1.length=p.length:=fun p=>by
  induction p with
  |nil=>rfl
  |cons c p ih=>show(dvL p).1.length+1=p.length+1;rw[ih]
 exact aiw (ja _) (Nat.le_of_eq (h p))
theorem BV(n:Nat)(t:Rat):au (afv n 0) t=0:=by
 induction n with
 |zero=>rfl
 |succ n ih =>
  rw[List.replicate_succ];show 0+t*au (afv n 0) t=0;rw[ih];grind
theorem wg(v t:Rat):∀(l:List Rat)(j:Nat),j<l.length->au (l.set j v) t=au l t+(v-l.getD j 0)*t^j
 |[],j,h=>by simp at h
 |c::l,0,_=>by
  show v+t*au l t=c+t*au l t+(v-c)*t^0;rw[Rat.pow_zero];grind
 |c::l,j+1,h=>by
  have ih:=wg v t l j (by simpa using h);show c+t*au (l.set j v) t=c+t*au l t+(v-l.getD j 0)*t^(j+1);rw[ih,ag5];grind
theorem sG(t:Rat):∀{l:List Rat}{n:Nat}{c:Rat},l[n]?=some c->au (l.take (n+1)) t=au (l.take n) t+t^n*c
 |[],n,c,h=>by simp at h
 |d::l,0,c,h=>by
  simp at h;subst h;show d+t*0=0+t^0*d;rw[Rat.pow_zero];grind
 |d::l,n+1,c,h=>by
  have ih:=sG t (l:=l) (n:=n) (c:=c) (by simpa using h);show d+t*au (l.take (n+1)) t=d+t*au (l.take n) t+t^(n+1)*c;rw[ih,ag5];grind
theorem KS(t:Rat){l:List Rat}{n:Nat}{c:Rat}(h:l[n]?=some c):au (l.drop n) t=c+t*au (l.drop (n+1)) t:=by
 rw[afk (afl.1 h).1,(afl.1 h).2];rfl
theorem gO{l:List Rat}{i:Nat}(h:i<l.length):l[i]?=some (l.getD i 0):=by
 rw[ah4,ah9 h];rfl
theorem Sa{l:List Rat}{i:Nat}(h:l.length<=i):l.getD i 0=0:=by rw[ah4,aig h];rfl
theorem m9(l:List Rat)(i j:Nat)(v:Rat)(h:i<l.length):(l.set i v).getD j 0=if j=i then v else l.getD j 0:=by
 rw[ah4,ah4,af4]
 by_cases e:i=j
 ·rw[ajg e,ajg e.symm,ajg h];rfl
 ·rw[ajf e,ajf (fun h=>e h.symm)]
theorem wt{e:Nat}{p:List Rat}(h:Pb e p)(i:Nat):Qb (e+1) (p.getD i 0):=by
 by_cases hi:i<p.length
 ·exact(h _ (ah3 (gO hi))).mono oz
 ·rw[Sa oz];exact Qb.zero.mono oz
theorem zw{e:Nat}{p:List Rat}(h:∀i,Qb e (p.getD i 0)):Pb e p:=fun c hc=>by
 obtain⟨i,hi⟩:=List.getElem?_of_mem hc;have h1:=h i;rw[ah4,hi]at h1;exact h1
theorem Cg{e:Nat}{p:List Rat}(h:Pb e p)(he:e<=1000000000000)(i:Nat):Qs (p.getD i 0):=(wt h i).qs oz
open Go.Proofs
theorem I9(m:List Nat)(hm:Ws m)(hl:m.length<=fQ):FP 205 [ws m] (bl (!decide (m=[])&&(⟨false,m⟩:Wh).valid)):=by
 refine ak func205 ?_;refine gl ?_;refine cq ?_;refine kG (fun h=>(gx (by simp[aa]at h;omega) (by unfold fQ at hl;unfold az;exact aiw hl oz))) ?_;refine mS (fun h=>(bI (i:=m.length-1) (by simp[aa]at h;omega))) ?_;refine ah ?_
 by_cases h:m=[]
 ·subst h;rfl
 ·have h1:0 < m.length:=afq.2 h;have h2:aa .gtr (m.length:Int) 0 = true:=by simp [aa,h1]
  simp only[bl,h,decide_false,Bool.not_false,ahg,Wh.valid,afw,jX (show m.length-1<m.length by omega),aa];congr 2;generalize aj m _=x;rw[ahf];simp[h1]
theorem Dg:FP 175 [] (zA 1):=by
 refine ak func175 ?_;refine gc (Mo 1 oz) ?_;refine ah ?_
 first |rfl |(simp;done)
theorem wk(r:Rt)(h:r.ok):FP 106 [r.av] (bl r.valid):=by
 have hr:=h;have hn:=h.n0;have hd:=h.d0;have pZ:r.num.length<=137438953472:=h.2.2.1;have qc:r.den.length<=137438953472:=h.2.2.2;refine ak func106 ?_;refine gl ?_;refine cq ?_;refine gC (fun t12=>?_) (fun t12=>?_)
 ·have h0 : r.num = [] /\ r.den = [] := by simpa [aa] using t12
  refine ah ?_;unfold Rt.valid;rw[ajg h0];rfl
 have h0:¬(r.num=[]/\r.den=[]):=by
  have:=t12;simp[aa]at this;exact fun h=>this h.1 h.2
 refine gc (I9 r.num hr.1 hr.2.2.1) ?_;refine bP (fun _=>(I9 r.den hr.2.1 hr.2.2.2)) ?_;refine bP (fun _=>(KO r.n0 r.d0 hn hd (by show r.num.length+r.den.length<_;unfold aw;omega))) ?_;refine bP (fun _=>Dg) ?_;refine bP (fun _=>(Rh (Rt.gcd_zs hr) AX)) ?_;refine ah ?_;exact ajn bl (abc h0).symm
theorem pw(r:Rt)(h:r.ok):FP 200 [r.av] (.tup [zA r.q.num,zA r.q.den]):=by
 have pZ:r.num.length<=137438953472:=h.2.2.1;have qc:r.den.length<=137438953472:=h.2.2.2;refine ak func200 ?_;refine gc (wk r h) ?_;refine cq ?_;refine gC (fun t12=>?_) (fun t12=>?_)
 ·have h0:¬(r.valid=true/\r.num≠[]):=by
   have:=t12;intro h';simp[aa,h'.1,h'.2]at this
  refine gc Dg ?_;refine gR ?_;exact gE (by rw[Rt.zero h0];exact Sub.tup (.cons NL (.cons (.refl _) .nil)))
 have h0:r.valid=true/\r.num≠[]:=by
  have:=t12;cases hv:r.valid
  ·rw[hv]at this;cases this
  ·rw[hv]at this;exact⟨rfl,by simpa[aa]using this⟩
 obtain⟨e1,e2,e3,e4,e5,e6⟩:=Rt.parts h h0.1 h0.2;refine gD ?_;refine bq ?_;rw[e1,e2];exact Mj e3 e4 e5
theorem wn{n d:Int}(hn:Zs n)(hd:Zs d)(h0:d≠0):FP 173 [zA n,zA d] (qA (ag4 n d)):=by
 refine ak func173 ?_;refine gc (yN hn) ?_;refine gC (fun z=>?_) (fun z=>?_)
 ·have e0 : n=0 := ag0.1 (by simpa[aa]using z);refine gR ?_;exact lP (by rw[e0,Rat.zero_divInt];exact o0)
 have e0:n≠0:=fun h=>by rw[h]at z;cases z
 refine gc (yN hd) ?_;refine ID [2,3,4] [4] (fun(n1 d1:Int)=>[]) (fun n1 d1=>[pP 2 (.box (zA n1).cells),pP 3 (.box (zA d1).cells)]) (fun n1 d1=>0<d1/\n1≠0/\Zs n1/\Zs d1/\ag4 n1 d1=ag4 n d) ?_ ?_
 ·intro K1 J1;refine gC (fun t18=>?_) (fun t18=>?_)
  ·have e1 : d<0 := agx.1 (by have := agu d;have h9 : d.sign<0 := (by simpa[aa]using t18);omega);refine gc (B4 hn) ?_;refine gc (B4 hd) ?_;refine gD ?_;exact yA J1 (-n) (-d) ⟨by omega,by omega,hn.neg,hd.neg,Ko n d⟩
  have e1:0<d:=by
   have h9:0<=d.sign:=by simpa[aa]using t18
   have:=agv.1 h9;omega
  exact yA J1 n d ⟨e1,e0,hn,hd,rfl⟩
 rintro n1 d1 ⟨f1,f2,f3,f4,f5⟩;have g2:Zs (ags n1 d1:Int):=f3.of_le (by rw[ai3];exact Nat.le_of_dvd oz (Int.gcd_dvd_natAbs_left _ _));have g3:(ags n1 d1:Int)≠0:=by have:=Int.gcd_pos_of_ne_zero_left d1 f2;omega
 refine gc (SD f3 f4) ?_;refine gc (HJ f3 g2 g3) ?_;refine gc (HJ f4 g2 g3) ?_;refine ah ?_;rw[<- f5,<- ab2 f1 f2];rfl
theorem W9{n d:Int}(hn:Zs n)(hd:Zs d):FP 404 [zA n,zA d] (.tup [qA (ag4 n d),i64 (if d=0 then 8 else 0)]):=by
 refine ak func404 ?_;refine gc (yN hd) ?_;refine gC (fun z=>?_) (fun z=>?_)
 ·have h0 : d=0 := ag0.1 (by simpa[aa]using z);refine gR ?_;exact gE (by rw[ajg h0,h0,Rat.divInt_zero];exact Sub.tup (.cons o0 (.cons (.refl _) .nil)))
 have h0:d≠0:=fun h=>by rw[h]at z;cases z
 refine gc (wn hn hd h0) ?_;refine bq ?_;rw[ajf h0];rfl
theorem r9(n:Int)(h:-9223372036854775808<=n/\n<=9223372036854775807):FP 82 [i64 n] (qA n):=by
 have hz:Zs n:=⟨2,by omega,by unfold Lz;simp only[Nat.reducePow];omega⟩
 refine ak func82 ?_;refine gc (Mo n h) ?_;refine gc Dg ?_;refine gc (wn hz AX oz) ?_;refine ah ?_;exact ajn qA (ag2 (n:Rat))
theorem OO(a:Rt)(ha:a.ok):FP 197 [a.av] (qA (-a.q)):=by
 have za:=ha.qs;refine ak func197 ?_;refine gc (pw a ha) ?_;refine gc (B4 za.num) ?_;refine gc (wn za.num.neg za.den (by have:=a.q.den_nz;omega)) ?_;refine gD ?_;refine ah ?_;rw[Nd];rfl
theorem BF(a:Rt)(ha:a.ok):FP 107 [a.av] (i64 (aR a.q)):=by
 refine ak func107 ?_;refine gc (pw a ha) ?_;refine gc (yN ha.qs.num) ?_;refine ah ?_;rw[L2]
theorem Fq(a b:Rt)(ha:a.ok)(hb:b.ok):FP 193 [a.av,b.av] (qA (a.q+b.q)):=by
 have za:=ha.qs;have zb:=hb.qs;have m1:=za.mul zb;have m2:=zb.mul za;refine ak func193 ?_;refine gc (pw a ha) ?_;refine gc (pw b hb) ?_;refine gc (qi za.num zb.den) ?_;refine gc (qi zb.num za.den) ?_;refine gc (UH m1.1 m2.1) ?_;refine gc (qi za.den zb.den) ?_;refine gc (wn (za.cross zb) m1.2.2.1 (agw (by have:=a.q.den_nz;omega) (by have:=b.q.den_nz;omega))) ?_;refine gD ?_;refine ah ?_;rw[ET];rfl
theorem Lt(a b:Rt)(ha:a.ok)(hb:b.ok):FP 96 [a.av,b.av] (qA (a.q-b.q)):=by
 refine ak func96 ?_;refine gc (OO b hb) ?_;refine gc (Fq a (rt (-b.q)) ha hb.qs.neg.ok) ?_;refine gD ?_;refine ah ?_;rw[bH,<- Rat.sub_eq_add_neg];rfl
theorem UO(a b:Rt)(ha:a.ok)(hb:b.ok):FP 99 [a.av,b.av] (qA (a.q*b.q)):=by
 have za:=ha.qs;have zb:=hb.qs;have m1:=za.mul zb;refine ak func99 ?_;refine gc (pw a ha) ?_;refine gc (pw b hb) ?_;refine gc (qi za.num zb.num) ?_;refine gc (qi za.den zb.den) ?_;refine gc (wn m1.2.1 m1.2.2.1 (agw (by have:=a.q.den_nz;omega) (by have:=b.q.den_nz;omega))) ?_;refine gD ?_;refine ah ?_;rw[E0];rfl
theorem SP(a b:Rt)(ha:a.ok)(hb:b.ok):FP 371 [a.av,b.av] (.tup [qA (a.q/b.q),i64 (if b.q=0 then 8 else 0)]):=by
 have za:=ha.qs;have zb:=hb.qs;have m1:=za.mul zb;refine ak func371 ?_;refine gc (pw a ha) ?_;refine gc (pw b hb) ?_;refine gc (qi za.num zb.den) ?_;refine gc (qi za.den zb.num) ?_;refine gc (W9 m1.1 m1.2.2.2) ?_;refine gD ?_;refine bq ?_
 have e1:((a.q.den:Int)*b.q.num=0)=(b.q=0):=by
  apply propext;rw[<- Rat.num_eq_zero,Int.mul_eq_zero];exact⟨fun h=>h.resolve_left (by have:=a.q.den_nz;omega),.inr⟩
 simp only[No,e1];rfl
theorem HK(a b:Rt)(ha:a.ok)(hb:b.ok)(hs:Qs (a.q-b.q)):FP 261 [a.av,b.av] (i64 (aR (a.q-b.q))):=by
 refine ak func261 ?_;refine gc (Lt a b ha hb) ?_;refine gc (BF (rt (a.q-b.q)) hs.ok) ?_;refine ah ?_;rw[bH]
theorem zK{α:Type}(f:α->AV)(l:List α)(hl:l.length<=281474976710656):FP 113 [.lst 3 (l.map f)] (i64 (kK l.length)):=by
 refine ak func113 ?_;refine aK [0] [] (fun(k:Nat)=>[pP 3 (i64 k)]) (fun _=>[]) (fun k=>k<=48/\∀j,j<k->2^j<l.length) (fun k=>48-k) 0 ⟨by omega,fun j h=>by omega⟩ ?_;rintro k ⟨hk,hj⟩ K1 J1;refine gs (mD (.const _) (.tmp rfl) oz (OM oz) rfl) ?_;refine gl ?_;refine gC (fun z=>?_) (fun z=>?_)
 ·have h1 : 2 ^ k < l.length := by have := z; simp only [aa, ajh] at this; omega
  have h2:k<48:=by
   rcases aid k 48 with h |h
   ·exact h
   ·have:2 ^ 48 <= 2 ^ k:=ef h;have:(2:Nat) ^ 48 = 281474976710656:=by decide
    omega
  refine ga (cP oz) ?_;exact aE J1 (k+1) ⟨by omega,fun j h=>by rcases aid j k with h3 |h3;exact hj j h3;(have:j=k:=by omega);subst this;exact h1⟩
 have h1:l.length<=2^k:=by have:=z;simp only[aa,decide_eq_false_iff_not]at this;omega
 have h2:=KY hj h1;refine gs (mD (.const _) (.tmp rfl) oz (OM oz) rfl) ?_;refine gl ?_;refine gC (fun z=>?_) (fun z=>?_)
 ·have h3 : 2 ^ k ≠ l.length := by have := z; simp only [aa, bne_iff_ne, ne_eq] at this; omega
  refine ah ?_;unfold kK;rw[h2,ajf h3];rfl
 have h3:2^k=l.length:=by have:=z;simp only[aa,bne_eq_false_iff_eq]at this;omega
 refine ah ?_;unfold kK;rw[h2,ajg h3]
theorem Hu(a:List Rat)(ha:∀q∈a,Qs q)(hl:a.length<=281474976710656):FP 341 [nA a] (bl (bf a)):=by
 refine ak func341 ?_;refine gl ?_;refine aK [5,6] [] (fun(i:Nat)=>[pP 7 (i64 i)]) (fun _=>[]) (fun i=>i<=a.length/\bf (a.take i)=true) (fun i=>a.length-i) 0 ⟨aii _,by simp[bf]⟩ ?_;rintro i ⟨hi,hv⟩ K1 J1;refine gC (fun z=>?_) (fun z=>?_)
 ·have ae : i < a.length := by simpa [aa] using z
  obtain⟨q,hq⟩:=aB ae;have uJ:=ha q (ah3 hq);refine gi (ay hq) ?_;refine gc (yi (rt q) uJ.ok) ?_;refine gC (fun t13=>?_) (fun t13=>?_)
  ·have h0:q≠0:=by
    intro h;have h9:=t13;rw[bH,h]at h9;cases h9
   refine ah ?_
   have:bf a=false:=by
    rw[ahb];intro h;exact h0 (by simpa using aif.1 h q (ah3 hq))
   rw[this];rfl
  have h0:q=0:=by
   have h9:aR q=0:=by have:=t13;rw[bH]at this;simpa[aa]using this
   exact ym h9
  refine ga aG ?_;exact aE J1 (i+1) ⟨by omega,by rw[g9 hq];simp only[bf,all_append,ah7];exact⟨hv,by simp[h0]⟩⟩
 have ae:i=a.length:=by have:a.length<=i:=(by simpa[aa]using z);omega
 subst ae;rw[ail]at hv;refine ah ?_;rw[hv];rfl
theorem M6(a:List Rat)(hl:a.length<=281474976710656):FP 115 [nA a] (bl (bf a)):=by
 refine ak func115 ?_;refine gl ?_;refine aK [5,6] [] (fun(i:Nat)=>[pP 7 (i64 i)]) (fun _=>[]) (fun i=>i<=a.length/\bf (a.take i)=true) (fun i=>a.length-i) 0 ⟨aii _,by simp[bf]⟩ ?_;rintro i ⟨hi,hv⟩ K1 J1;refine gC (fun z=>?_) (fun z=>?_)
 ·have ae : i < a.length := by simpa [aa] using z
  obtain⟨q,hq⟩:=aB ae;refine gi (ay hq) ?_;refine cq ?_;refine cq ?_;refine gC (fun z=>?_) (fun z=>?_)
  ·have h0:q≠0:=ZN z;refine ah ?_
   have:bf a=false:=by
    rw[ahb];intro h;exact h0 (by simpa using aif.1 h q (ah3 hq))
   rw[this];rfl
  have h0:q=0:=TY z;refine ga aG ?_;exact aE J1 (i+1) ⟨by omega,by rw[g9 hq];simp only[bf,all_append,ah7];exact⟨hv,by simp[h0]⟩⟩
 have ae:i=a.length:=by have:a.length<=i:=(by simpa[aa]using z);omega
 subst ae;rw[ail]at hv;refine ah ?_;rw[hv];rfl
theorem Uj(a:List Rat)(ha:∀q∈a,Qs q)(hl:a.length<=1099511627776):FP 114 [nA a] (nA a):=by
 refine ak func114 ?_;refine gl ?_;refine gW (Wk.virt 900 3 rfl) ?_;refine aK [6,7] [] (fun(i:Nat)=>[pP 3 (.ms 900 3 0 i),pP 8 (i64 i)]) (fun i=>[pP 900 (.row 3 ((a.take i).map qA))]) (fun i=>i<=a.length) (fun i=>a.length-i) 0 (aii _) ?_;rintro i hi K1 J1;refine gC (fun z=>?_) (fun z=>?_) (st2:=(7,0))
 ·have ae : i < a.length := by simpa [aa] using z
  obtain⟨q,hq⟩:=aB ae;have uJ:=(ha q (ah3 hq)).ok;have pZ:(rt q).num.length<=137438953472:=uJ.2.2.1;have qc:(rt q).den.length<=137438953472:=uJ.2.2.2;refine gi (ay hq) ?_;refine gs (qT T42 rfl T87 rfl rfl rfl) ?_;refine gs (D0 (.tmp rfl) rfl rfl (.tmp rfl) T42 rfl T87 rfl rfl (by simp only[ah6];omega) rfl rfl) ?_;refine gs (qT T42 rfl T87 rfl rfl rfl) ?_;refine gs (D0 (.tmp rfl) rfl rfl (.tmp rfl) T42 rfl T87 rfl rfl (by simp only[ah6];omega) rfl rfl) ?_;refine gs (dX (.tmp rfl) rfl (by simp;omega) (.tmp rfl) T62 rfl T44 rfl rfl (by simp;omega) rfl rfl) ?_;refine gD ?_ (6,0);refine gW (Wk.of (sl:=[pP 3 (.ms 25 3 0 (i+1)),pP 6 (nA a),pP 7 (i64 a.length),pP 8 (i64 i)]) (hp:=[pP 25 (.row 3 ((a.take (i+1)).map qA))]) aU (.cons rfl (.of (by rw[g9 hq,ai4];rfl)) .nil)) ?_ (6,0);refine gW (Wk.rk (k:=25) (d:=900) rfl rfl) ?_;refine ga aG ?_;exact aE J1 (i+1) ae
 have ae:i=a.length:=by have:a.length<=i:=(by simpa[aa]using z);omega
 subst ae;refine gW ((Wk.freeze (k:=900) rfl).trans<|Wk.of (sl:=[pP 3 (nA a)]) (hp:=[]) (.cons rfl (.of (by rw[b8 (by simp),ail];rfl)) .nil) .nil) ?_;refine ah ?_;rfl
theorem AP{n:Nat}(a:List Rat)(hn:n<=5)(ha:Nl n a)(hs:∀q∈a,Qs q):FP 44 [nA a] (nA (sh n (ao n a))):=by
 have hl:=ha.len5 hn;rw[<- QQ ha hn];refine ak func44 ?_;refine gc (zK qA a oz) ?_;refine gl ?_;refine gC (fun z=>?_) (fun z=>?_) (st1:=(3,0));exact ajm z (by rcases ha with rfl |⟨j,hj,h⟩;(simp[aa]);(rw[h,wj];simp[aa];omega));refine gl ?_;refine aK [0] [] (fun(m:Nat)=>[pP 4 (i64 m)]) (fun _=>[]) (fun m=>pi a m) (fun m=>m) a.length (VI (ha.mono hn)) ?_;rintro m hm K1 J1;refine gs (fX rfl rfl rfl (fun h=>lG (.opt rfl (o1 h)) (.const _) oz (qP (by have:=hm.le;omega)) rfl)) ?_;refine gs (fX rfl rfl rfl (fun h=>eF (.opt rfl (o1 h)) (.some _ (.opt rfl (o1 h)) oz) (.some _ (.opt rfl (o1 h)) oz) T62 rfl T44 rfl oz (by have:=hm.le;simp;omega) rfl)) ?_;refine bP (fun _=>(by have h9:=M6 ((a.drop (m/2)).take (m-m/2)) (by simp;omega);rw[<- FH]at h9;exact h9)) ?_;refine gC (fun t31=>?_) (fun t31=>?_)
 ·have h1:1<m/\bf ((a.drop (m/2)).take (m-m/2))=true:=by
   have h9:=t31
   by_cases h:(m:Int)>1
   ·simp only[aa,ajk h,cond_true]at h9;exact⟨by omega,h9⟩
   ·simp only[aa,ajl h,cond_false]at h9;cases h9
  refine gs (lG (.tmp rfl) (.const _) oz (qP (by have:=hm.le;omega)) rfl) ?_;exact aE J1 (m/2) (Qe hm h1.1 h1.2)
 have h1:1<m->bf ((a.drop (m/2)).take (m-m/2))=false:=by
  intro h;have h9:=t31;simp only[aa,ajk (show(m:Int)>1 by omega),cond_true]at h9;exact h9
 refine gs (fX rfl rfl rfl (fun h=>eF (.opt rfl (o1 h)) (.none _) (.some _ (.const _) oz) T62 rfl T44 rfl oz (by have h8:(m:Int)=1:=(by simpa[aa]using h);have:=hm.le;simp only[ah6];omega) rfl)) ?_;refine bP (fun _=>(by have h9:=M6 ((a.drop 0).take 1) (by simp;omega);rw[<- FH]at h9;exact h9)) ?_;refine gC (fun t40=>?_) (fun t40=>?_)
 ·have h2:m=1/\bf (a.take 1)=true:=by
   have h9:=t40
   by_cases h:m=1
   ·rw[h]at h9;exact⟨h,h9⟩
   ·rw[show aa .eql (m:Int) 1=false by simp[aa];omega]at h9;cases h9
  obtain⟨rfl,h3⟩:=h2;refine gR ?_;exact lP (by rw[aax hm h3];exact Sub.nil _ _ _)
 have h2:m=1->bf (a.take 1)=false:=by
  intro h;have h9:=t40;rw[h]at h9;exact h9
 have h3:=W4 hm h1 h2;refine gs (eF (.tmp rfl) (.none _) (.some _ (.tmp rfl) oz) T62 rfl T44 rfl oz (by have:=hm.le;simp;omega) rfl) ?_;refine gc (by have h9:=Uj ((a.drop 0).take m) (fun q hq=>hs q (afu (agi hq))) (by simp;omega);have h8:=h9;rw[<- FH]at h9;exact h9) ?_;refine ah ?_;rw[h3];simp[nA,map_take]
theorem EN(d:Nat)(hd:aek d 1000=true)(a:List Rat)(n:Nat)(hl:a.length<=n)(hn:n<=1099511627776) :
  Con prog 337 [nA a,i64 n] [] (.ms d 3 0 n) [(d,some (.row 3 ((bw a n).map qA)))]:=by
 refine gF func337 (fun k z h=>by cases h) ?_;refine gs (f6 (.tmp rfl) T62 rfl T44 rfl rfl oz (by dsimp only;omega) rfl) ?_;refine gs (UG (.tmp rfl) rfl (by simp) (.tmp rfl) T62 rfl T44 rfl rfl (by simp;omega) rfl) ?_ (3,0);refine gW (Wk.of (sl:=[pP 5 (.ms 7 3 0 n)]) (hp:=[pP 7 (.row 3 ((bw a n).map qA))]) (.cons rfl (.of (by simp)) .nil) (.cons rfl (Ii a n hl) .nil)) ?_;refine gR ?_;exact aJ.own1 rfl hd rfl
theorem Kx(a:List Rat)(n:Nat)(hl:a.length<=n)(hn:n<=1099511627776):FP 337 [nA a,i64 n] (nA (bw a n)):=by
 have h:=Con.freeze (by rw[ah6,ig hl];omega) (EN 0 rfl a n hl hn);rw[ai9,aio (by rw[ah6,ig hl];exact aie _)]at h;exact h
theorem z8(a b:List Rat)(ha:∀q∈a,Qs q)(hb:∀q∈b,Qs q)(la:a.length<=1099511627776)(lb:b.length<=1099511627776):FP 255 [nA a,nA b] (nA (dS a b)):=by
 obtain⟨n,hn⟩:∃n,n=max a.length b.length:=⟨_,rfl⟩
 have hwa:=ig (show a.length<=n by omega);have hwb:=ig (show b.length<=n by omega);have hp:=gB (a:=a) (b:=b);rw[<- hn]at hp;have qa:∀q∈bw a n,Qs q:=fun q hq=>by rcases aia.1 hq with h |h;exact ha q h;(rw[(List.mem_replicate.1 h).2];exact Qs.zero)
 have qb:∀q∈bw b n,Qs q:=fun q hq=>by rcases aia.1 hq with h |h;exact hb q h;(rw[(List.mem_replicate.1 h).2];exact Qs.zero)
 refine ak func255 ?_;refine gl ?_;refine gl ?_;refine gs (ra (.tmp rfl) (.tmp rfl) rfl) ?_ (2,0);refine gW (Wk.of (sl:=[pP 0 (nA a),pP 1 (nA b),pP 5 (i64 n)]) (hp:=[]) (.k (.k (.cons rfl (Sub.int oz) .nil))) .nil) ?_;refine go ?_;refine gt (br (EN 900 rfl a n oz oz) (cS rfl rfl) bT rfl rfl) ?_;refine gc (Kx b n oz oz) ?_;refine aK [1,19] [] (fun(i:Nat)=>[pP 0 (.ms 900 3 0 n),pP 20 (i64 i)]) (fun i=>[pP 900 (.row 3 (((dS a b).take i++(bw a n).drop i).map qA))]) (fun i=>i<=n) (fun i=>n-i) 0 (aii _) ?_;rintro i hi K1 J1;refine gC (fun z=>?_) (fun z=>?_) (st2:=(8,0))
 ·have ae : i < n := by simpa [aa] using z
  have Bs:=Nn (p:=dS a b) (w:=bw a n) (i:=i) oz oz;have ov:=(qa _ (Dq (i:=i) oz)).ok;have hqb:=(qb _ (Dq (i:=i) oz)).ok;refine gs (bt (n:=i) (.tmp rfl) (.tmp rfl) T62 rfl T44 rfl oz oz rfl) ?_;refine gs (dq (.tmp rfl) rfl (ay Bs) T44 rfl rfl rfl) ?_;refine gi (ay (getD_some (i:=i) (l:=bw b n) oz)) ?_;refine gc (yS (rt ((bw a n).getD i 0)) (rt ((bw b n).getD i 0)) ov hqb) ?_;refine gs (bt (n:=i) (.tmp rfl) (.tmp rfl) T62 rfl T44 rfl oz oz rfl) ?_;refine gs (de (.tmp rfl) rfl (ay Bs) rfl (.tmp rfl) rfl rfl T44 rfl rfl) ?_;refine gD ?_ (7,0);refine gW (Wk.of (sl:=[pP 0 (.ms 900 3 0 n),pP 1 (nA (bw b n)),pP 19 (i64 n),pP 20 (i64 i)]) (hp:=[pP 900 (.row 3 (((dS a b).take (i+1)++(bw a n).drop (i+1)).map qA))]) aU (.cons rfl (.of (by rw[HD oz oz (by rw[ack,<- hn,bH,bH])])) .nil)) ?_;refine ga aG ?_;exact aE J1 (i+1) ae
 have ae:i=n:=by have:n<=i:=(by simpa[aa]using z);omega
 refine gW ((Wk.freeze (k:=900) rfl).trans<|Wk.of (sl:=[pP 0 (nA (dS a b))]) (hp:=[]) (.cons rfl (.of (by rw[b8 (by simp;omega),ae,List.drop_of_length_le oz,aio oz,afj];rfl)) .nil) .nil) ?_;refine ah ?_;rfl
theorem HV(a:List Rat)(ha:∀q∈a,Qs q)(la:a.length<=1099511627776):FP 226 [nA a] (nA (fw a)):=by
 obtain⟨n,hn⟩:∃n,n=a.length:=⟨_,rfl⟩
 refine ak func226 ?_;refine gl ?_;refine gs (f6 (.tmp rfl) T62 rfl T44 rfl rfl oz (by dsimp only;omega) rfl) ?_ (2,0);refine gW (Wk.of (sl:=[pP 0 (nA a),pP 3 (.ms 7 3 0 n)]) (hp:=[pP 7 (.row 3 ((bw [] n).map qA))]) (.k (.cons rfl (.of (by simp[hn])) .nil)) (.cons rfl (BlkSub.of_ (Ii [] n (by simp)) (by rw[hn];rfl)) .nil)) ?_;refine gl ?_;refine aK [0] [] (fun(i:Nat)=>[pP 3 (.ms 7 3 0 n),pP 9 (i64 n),pP 10 (i64 i)]) (fun i=>[pP 7 (.row 3 (((fw a).take i++(bw [] n).drop i).map qA))]) (fun i=>i<=n) (fun i=>n-i) 0 (aii _) ?_ (h1:=(.k (.cons rfl (Sub.int oz) (.k .nil))));rintro i hi K1 J1;refine gC (fun z=>?_) (fun z=>?_) (st2:=(7,0))
 ·have ae : i < n := by simpa [aa] using z
  have f0:=lE (a:=a);have jO:=ig (a:=[]) (n:=n) (by simp);have Bs:=Nn (p:=fw a) (w:=bw [] n) (i:=i) oz oz;have ov:=(ha _ (Dq (i:=i) oz)).ok;refine gi (ay (getD_some (i:=i) oz)) ?_;refine gc (Fo (rt (a.getD i 0)) ov) ?_;refine gs (bt (n:=i) (.tmp rfl) (.tmp rfl) T62 rfl T44 rfl oz oz rfl) ?_;refine gs (de (.tmp rfl) rfl (ay Bs) rfl (.tmp rfl) rfl rfl T44 rfl rfl) ?_ (6,0);refine gW (Wk.of (sl:=[pP 0 (nA a),pP 3 (.ms 7 3 0 n),pP 9 (i64 n),pP 10 (i64 i)]) (hp:=[pP 7 (.row 3 (((fw a).take (i+1)++(bw [] n).drop (i+1)).map qA))]) aU (.cons rfl (.of (by rw[HD oz oz (by rw[Q5,bH])])) .nil)) ?_;refine ga aG ?_;exact aE J1 (i+1) ae
 have ae:i=n:=by have:n<=i:=(by simpa[aa]using z);omega
 have f0:=lE (a:=a);have jO:=ig (a:=[]) (n:=n) (by simp);refine gW ((Wk.freeze (k:=7) rfl).trans<|Wk.of (sl:=[pP 3 (nA (fw a))]) (hp:=[]) (.cons rfl (.of (by rw[b8 (by simp;omega),ae,List.drop_of_length_le oz,aio oz,afj];rfl)) .nil) .nil) ?_;refine ah ?_;rfl
theorem DK(a b:List Rat)(n:Nat)(la:a.length<=n)(lb:b.length<=n)(hn:n<=274877906944):FP 342 [nA a,nA b,i64 n] (nA (fS a b n)):=by
 refine ak func342 ?_;refine gt (br (EN 900 rfl a n la oz) (cS rfl rfl) bT rfl rfl) ?_;refine gc (Kx b n lb oz) ?_;refine gs (D0 (.tmp rfl) rfl (by simp[ig la]) (.tmp rfl) T62 rfl T44 rfl rfl (by simp[ig lb];omega) rfl rfl) ?_;refine ah ?_;rw[<- ai4];rfl
theorem zq(ts:LL)(m r:Nat)(ht:nC ts m r)(hm:m<=5)(gP:m<=ts.length)(k:Nat):∀(j:Nat)(a b:List Rat)(e f:Nat),j<=m->j<=k->Nl j a->Nl j b->Cb e a->Cb f b->e+f+eB r j<4398046511104 ->
  FP 256 [jS ts,nA a,nA b] (nA (pT ts k a b)):=by
 induction k using Nat.strongRecOn
 rename_i k ih;intro j a b e f hj uF ha hb ca cb hs;have p8:=ha.len5 oz;have fJ:=hb.len5 oz;refine ak func256 ?_;refine gl ?_;refine gl ?_;refine Uw [3] [3] (fun(x y:List Rat)(e1 f1:Nat)=>[pP 1 (nA x),pP 2 (nA y)]) (fun _ _ _ _=>[]) (fun x y e1 f1=>y.length<=x.length/\Nl j x/\Nl j y/\Cb e1 x/\Cb f1 y/\e1+f1=e+f/\pT ts k a b=pT ts k x y) ?_ ?_
 ·intro K1 J1;refine gC (fun z=>?_) (fun z=>?_)
  ·have h1 : a.length < b.length := by have := z; simp only [aa, ajh] at this; omega
   exact NO J1 b a f e ⟨by omega,hb,ha,cb,ca,by omega,Fl ts k a b h1⟩
  have h1:b.length<=a.length:=by have:=z;simp only[aa,decide_eq_false_iff_not]at this;omega
  exact NO J1 a b e f ⟨h1,ha,hb,ca,cb,rfl,rfl⟩
 rintro x y e1 f1 ⟨Bk,hx,hy,cx,cy,hef,hp⟩;have hlx:=hx.len5 oz;have hly:=hy.len5 oz;have qx:∀q∈x,Qs q:=fun q hq=>cx.qs oz hq
 have qy:∀q∈y,Qs q:=fun q hq=>cy.qs oz hq
 rw[hp];refine gc (Hu x qx oz) ?_;refine bP (fun _=>(Hu y qy oz)) ?_;refine gC (fun t21=>?_) (fun t21=>?_)
 ·have h1:bf x=true\/bf y=true:=by
   have:=t21;cases hz:bf x
   ·rw[hz]at this;exact .inr this
   ·exact .inl rfl
  refine gR ?_;exact lP (by rw[UF Bk h1];exact Sub.nil _ _ _)
 have h1:¬(bf x=true\/bf y=true):=by
  have:=t21;cases hz:bf x
  ·rw[hz]at this;intro h;rcases h with h |h;cases h;(rw[show bf y=false from this]at h;cases h)
  ·rw[hz]at this;cases this
 refine gl ?_;refine gC (fun z=>?_) (fun z=>?_)
 ·have h2 : x.length = 1 := by have := z; simp only [aa, beq_iff_eq] at this; omega
  obtain⟨p,rfl⟩:=af8.1 h2;have h3:y≠[]:=fun h=>h1 (.inr (by rw[h];rfl))
  obtain⟨q,rfl⟩:∃q,y=[q]:=af8.1 (by have:=afq.2 h3;simp at Bk;omega);refine gi rfl ?_;refine gi rfl ?_;refine gc (Nx (rt p) (rt q) (qx p (by simp)).ok (qy q (by simp)).ok) ?_;refine gD ?_;refine ah ?_;rw[acw h1,bH,bH];rfl
 have h2:x.length≠1:=by have:=z;simp only[aa,beq_eq_false_iff_ne,ne_eq]at this;omega
 have h3:x≠[]:=fun h=>h1 (.inl (by rw[h];rfl))
 obtain⟨i,dL,kW⟩:∃i,i+1<=j/\x.length=2^(i+1):=by
  rcases DQ hx with h |h |h
  ·exact ajm (af7.1 h) h3
  ·exact ajm h h2
  ·exact h
 obtain⟨k',rfl⟩:∃k',k=k'+1:=⟨k-1,by omega⟩
 have rY:=aed i;have uK:2^i<=32:=ef (b:=5) oz;have oa:2^(i+1)=2*2^i:=by rw[ae5];omega
 have fg:eB r (i+1)<=eB r j:=qB r dL;have hee:eB r (i+1)=2*eB r i+r+2:=rfl;have n1:Nl i (x.take (2^i)):=.inr ⟨i,aie _,kN kW⟩;have n2:Nl i (x.drop (2^i)):=.inr ⟨i,aie _,lC kW⟩;refine gl ?_;refine gs (lG (.tmp rfl) (.const _) oz (show _=((2^i:Nat):Int) by rw[qP oz,kW,mL]) rfl) ?_;refine gs (eF (.tmp rfl) (.none _) (.some _ (.tmp rfl) oz) T62 rfl T44 rfl oz (by simp only[ah6];omega) rfl) ?_;refine gs (eF (.tmp rfl) (.some _ (.tmp rfl) oz) (.none _) T62 rfl T44 rfl (by simp only[ah6];omega) oz rfl) ?_;refine gD ?_ (9,0);refine gW (Wk.of (sl:=[pP 1 (nA x),pP 2 (nA y),pP 3 (.ptr 3 0),pP 7 (i64 ((2^i:Nat):Int)),pP 8 (nA (x.take (2^i))),pP 9 (nA (x.drop (2^i)))]) (hp:=[pP 3 (.box [.lst 1 (ts.map nA)])]) (.k (.k (.k (.k (.cons rfl (.of (uw x (2^i))) (.cons rfl (.of (uQ x (2^i))) .nil)))))) (.k .nil)) ?_;refine gl ?_;refine gC (fun z=>?_) (fun z=>?_)
 ·have h4 : y.length <= 2 ^ i := by have := z; simp only [aa, ajh] at this; omega
  have n3:Nl i y:=YT hy h4;have s1:=iY ts m ht.1 i k' _ _ oz oz n1 n3;have s2:=iY ts m ht.1 i k' _ _ oz oz n2 n3;refine gc (ih k' oz i _ _ e1 f1 oz oz n1 n3 cx.take cy oz) ?_;refine gc (ih k' oz i _ _ e1 f1 oz oz n2 n3 cx.drop cy oz) ?_;refine gc (DK _ _ (2^i) s1.1.le s2.1.le oz) ?_;refine gD ?_;refine ah ?_;rw[abv kW h4 h1]
 have h4:¬y.length<=2^i:=by have:=z;simp only[aa,decide_eq_false_iff_not]at this;omega
 have PG:=TN hy h4 oz;have n3:Nl i (y.take (2^i)):=.inr ⟨i,aie _,kN PG⟩;have n4:Nl i (y.drop (2^i)):=.inr ⟨i,aie _,lC PG⟩;have nd:=ht.1 i oz;have cd:=ht.2.cb i;have s1:=iY ts m ht.1 i k' _ _ oz oz n1 n3;have s2:=iY ts m ht.1 i k' _ _ oz oz n2 n4;have s3:=iY ts m ht.1 i k' _ _ oz oz s2.1 nd;have s4:=iY ts m ht.1 i k' _ _ oz oz n1 n4;have s5:=iY ts m ht.1 i k' _ _ oz oz n2 n3;have c1:=Cb.mul ht (k:=k') (show i<=m by omega) oz n1 n3 cx.take cy.take;have c2:=Cb.mul ht (k:=k') (show i<=m by omega) oz n2 n4 cx.drop cy.drop;have c3:=Cb.mul ht (k:=k') (show i<=m by omega) oz s2.1 nd c2 cd;have c4:=Cb.mul ht (k:=k') (show i<=m by omega) oz n1 n4 cx.take cy.drop;have c5:=Cb.mul ht (k:=k') (show i<=m by omega) oz n2 n3 cx.drop cy.take;have hpT:=Wq (ts:=ts) (k:=k') kW h4 Bk h1;refine gs (eF (.tmp rfl) (.none _) (.some _ (.tmp rfl) oz) T62 rfl T44 rfl oz (by simp only[ah6];omega) rfl) ?_;refine gs (eF (.tmp rfl) (.some _ (.tmp rfl) oz) (.none _) T62 rfl T44 rfl (by simp only[ah6];omega) oz rfl) ?_;refine gD ?_ (12,0);refine gW (Wk.of (sl:=[pP 1 (nA x),pP 3 (.ptr 3 0),pP 7 (i64 ((2^i:Nat):Int)),pP 8 (nA (x.take (2^i))),pP 9 (nA (x.drop (2^i))),pP 10 (nA (y.take (2^i))),pP 11 (nA (y.drop (2^i)))]) (hp:=[pP 3 (.box [.lst 1 (ts.map nA)])]) (.k (.k (.k (.k (.k (.cons rfl (.of (uw y (2^i))) (.cons rfl (.of (uQ y (2^i))) .nil))))))) (.k .nil)) ?_;refine gc (zK qA x oz) ?_;refine ga (show _=(i:Int) by rw[kW,wj,dg oz];omega) ?_;refine gi (ES (j:=i) oz) ?_;refine gD ?_;refine gc (ih k' oz i _ _ e1 f1 oz oz n1 n3 cx.take cy.take oz) ?_;refine gc (ih k' oz i _ _ e1 f1 oz oz n2 n4 cx.drop cy.drop oz) ?_;refine gc (ih k' oz i _ _ _ _ oz oz s2.1 nd c2 cd oz) ?_;refine gc (z8 _ _ (fun q hq=>c1.qs oz hq) (fun q hq=>c3.qs oz hq) (by have:=s1.1.le;omega) (by have:=s3.1.le;omega)) ?_;refine gD ?_;refine gc (ih k' oz i _ _ e1 f1 oz oz n1 n4 cx.take cy.drop oz) ?_;refine gc (ih k' oz i _ _ e1 f1 oz oz n2 n3 cx.drop cy.take oz) ?_;refine gc (z8 _ _ (fun q hq=>c4.qs oz hq) (fun q hq=>c5.qs oz hq) (by have:=s4.1.le;omega) (by have:=s5.1.le;omega)) ?_;refine gc (DK _ _ (2^i) (by have:=s1.1.le;have:=s3.1.le;rw[gB];omega) (by have:=s4.1.le;have:=s5.1.le;rw[gB];omega) oz) ?_;refine gD ?_;refine ah ?_;rw[hpT]
theorem Dl(ts:LL)(m r:Nat)(ht:nC ts m r)(hm:m<=5)(gP:m<=ts.length)(i:Nat)(a:List Rat)(e:Nat)(hi:i+1<=m)(bg:a.length=2^(i+1))(ca:Cb e a)(hs:4*e+3*eB r i+r+1<4398046511104) :
  FP 159 [jS ts,nA a] (nA (i9 ts i a)):=by
 have rY:=aed i;have uK:2^i<=32:=ef (b:=5) oz;have oa:2^(i+1)=2*2^i:=by rw[ae5];omega
 have n1:Nl i (a.take (2^i)):=.inr ⟨i,aie _,kN bg⟩;have n2:Nl i (a.drop (2^i)):=.inr ⟨i,aie _,lC bg⟩;have nd:=ht.1 i oz;have cd:=ht.2.cb i;have s1:=iY ts m ht.1 i i _ _ oz oz n1 n1;have s2:=iY ts m ht.1 i i _ _ oz oz n2 n2;have s3:=iY ts m ht.1 i i _ _ oz oz s2.1 nd;have c1:=Cb.mul ht (k:=i) (show i<=m by omega) oz n1 n1 ca.take ca.take;have c2:=Cb.mul ht (k:=i) (show i<=m by omega) oz n2 n2 ca.drop ca.drop;have c3:=Cb.mul ht (k:=i) (show i<=m by omega) oz s2.1 nd c2 cd;refine ak func159 ?_;refine gl ?_;refine gs (lG (.tmp rfl) (.const _) oz (show _=((2^i:Nat):Int) by rw[qP oz,bg,mL]) rfl) ?_;refine gs (eF (.tmp rfl) (.none _) (.some _ (.tmp rfl) oz) T62 rfl T44 rfl oz (by simp only[ah6];omega) rfl) ?_;refine gs (eF (.tmp rfl) (.some _ (.tmp rfl) oz) (.none _) T62 rfl T44 rfl (by simp only[ah6];omega) oz rfl) ?_;refine gD ?_ (3,0);refine gW (Wk.of (sl:=[pP 1 (nA a),pP 2 (.ptr 2 0),pP 6 (nA (a.take (2^i))),pP 7 (nA (a.drop (2^i)))]) (hp:=[pP 2 (.box [.lst 1 (ts.map nA)])]) (.k (.k (.cons rfl (.of (uw a (2^i))) (.cons rfl (.of (uQ a (2^i))) .nil)))) (.k .nil)) ?_;refine gc (zq ts m r ht hm gP i i _ _ e e oz oz n1 n1 ca.take ca.take oz) ?_;refine gc (zq ts m r ht hm gP i i _ _ e e oz oz n2 n2 ca.drop ca.drop oz) ?_;refine gc (zK qA a oz) ?_;refine ga (show _=(i:Int) by rw[bg,wj,dg oz];omega) ?_;refine gi (ES (j:=i) oz) ?_;refine gc (zq ts m r ht hm gP i i _ _ _ _ oz oz s2.1 nd c2 cd oz) ?_;refine gc (HV _ (fun q hq=>c3.qs oz hq) (by have:=s3.1.le;omega)) ?_;refine gc (z8 _ _ (fun q hq=>c1.qs oz hq) (fun q hq=>c3.minus.qs oz hq) (by have:=s1.1.le;omega) (by have:=s3.1.le;rw[lE];omega)) ?_;refine gD ?_;refine ah ?_;rfl
theorem LO(ts:LL)(m r:Nat)(ht:nC ts m r)(hm:m<=5)(gP:m<=ts.length)(j:Nat):∀(a:List Rat)(e:Nat),j<=m->Nl j a->Cb e a->sB r j e<4398046511104 ->
  FP 69 [jS ts,nA a] (i64 (T.sgn (aD ts) j (ao j a))):=by
 induction j using Nat.strongRecOn
 rename_i j ih;intro a e hj ha ca hs;have hse:=vL r j e;have qa:∀q∈a,Qs q:=fun q hq=>ca.qs oz hq
 obtain⟨s,qe⟩:∃s,s=sh j (ao j a):=⟨_,rfl⟩
 have ow:ao j s=ao j a:=by rw[qe,dY]
 have xN:Nl j s:=by rw[qe];exact iI j _
 have cs:Cb e s:=by rw[qe];exact ca.sh ha
 have Gs:=xN.len5 oz;rw[<- ow];refine ak func69 ?_;refine gc (qe▸AP a oz ha qa) ?_;refine gl ?_;refine gC (fun z=>?_) (fun z=>?_)
 ·have h1 : s=[] := af7.1 (by have := z;simp only[aa,beq_iff_eq]at this;omega);refine ah ?_;rw[h1,oK,T.sgn_zero];rfl
 have h1:s.length≠0:=by have:=z;simp only[aa,beq_eq_false_iff_ne,ne_eq]at this;omega
 refine gl ?_;refine gC (fun z=>?_) (fun z=>?_)
 ·have h2 : s.length = 1 := by have := z; simp only [aa, beq_iff_eq] at this; omega
  obtain⟨q,rfl⟩:=af8.1 h2;refine gi rfl ?_;refine gc (yi (rt q) (cs.qs oz (by simp:q∈[q])).ok) ?_;refine ah ?_;rw[qw,T.sgn_ofQ,bH]
 have h2:s.length≠1:=by have:=z;simp only[aa,beq_eq_false_iff_ne,ne_eq]at this;omega
 obtain⟨i,dL,eC⟩:∃i,i+1<=j/\s.length=2^(i+1):=by
  rcases DQ xN with h |h |h
  ·exact ajm h h1
  ·exact ajm h h2
  ·exact h
 have rY:=aed i;have uK:2^i<=32:=ef (b:=5) oz;have oa:2^(i+1)=2*2^i:=by rw[ae5];omega
 have n1:Nl i (s.take (2^i)):=.inr ⟨i,aie _,kN eC⟩;have n2:Nl i (s.drop (2^i)):=.inr ⟨i,aie _,lC eC⟩;have nd:=ht.1 i oz;have cd:=ht.2.cb i;obtain⟨nn,dn,cn⟩:=zD ht oz eC cs;have b1:sB r i (4*e+3*eB r i+r+1)<=sB r j e:=zk r e dL;have b2:sB r i e<=sB r i (4*e+3*eB r i+r+1):=v6 r i oz;have b3:sB r i r<=sB r i (4*e+3*eB r i+r+1):=v6 r i oz;have b4:=vL r i (4*e+3*eB r i+r+1);have k1:=ih i oz (s.take (2^i)) e oz n1 cs.take oz;have k2:=ih i oz (s.drop (2^i)) e oz n2 cs.drop oz;have k3:=ih i oz _ r oz nd cd oz;have k4:=ih i oz _ _ oz nn cn oz
 have om:T.sgn (aD ts) j (ao j s)=T.sgn3 (T.sgn (aD ts) i (ao i (s.take (2^i)))) (T.sgn (aD ts) i (ao i (s.drop (2^i)))) (T.sgn (aD ts) i (ao i (ts.getD i []))) (T.sgn (aD ts) i (ao i (i9 ts i s))):=by
  rw[Aw _ oz dL,dn];rfl
 have v1:=T.sgn_cases (aD ts) i (ao i (s.take (2^i)));have v4:=T.sgn_cases (aD ts) i (ao i (i9 ts i s));refine gl ?_;refine gs (lG (.tmp rfl) (.const _) oz (show _=((2^i:Nat):Int) by rw[qP oz,eC,mL]) rfl) ?_;refine gs (eF (.tmp rfl) (.none _) (.some _ (.tmp rfl) oz) T62 rfl T44 rfl oz (by simp only[ah6];omega) rfl) ?_;refine gc (by have h9:=k1;rw[<- uw]at h9;exact h9) ?_;refine gs (eF (.tmp rfl) (.some _ (.tmp rfl) oz) (.none _) T62 rfl T44 rfl (by simp only[ah6];omega) oz rfl) ?_;refine gc (by have h9:=k2;rw[<- uQ]at h9;exact h9) ?_;refine gD ?_;refine gc (zK qA s oz) ?_;refine ga (show _=(i:Int) by rw[eC,wj,dg oz];omega) ?_;refine gi (ES (j:=i) oz) ?_;refine gc k3 ?_;refine gD ?_;refine gC (fun z=>?_) (fun z=>?_)
 ·have e1 : T.sgn (aD ts) i (ao i (ts.getD i [])) = 0 := by simpa [aa] using z
  refine ah ?_;rw[om];unfold T.sgn3;rw[ajg e1]
 have e1:¬T.sgn (aD ts) i (ao i (ts.getD i []))=0:=by simpa[aa]using z
 refine gC (fun z=>?_) (fun z=>?_)
 ·have e2:T.sgn (aD ts) i (ao i (s.take (2^i)))=T.sgn (aD ts) i (ao i (s.drop (2^i)))\/T.sgn (aD ts) i (ao i (s.drop (2^i)))=0:=QT z;refine ah ?_;rw[om];unfold T.sgn3;rw[ajf e1,ajg e2]
 have e2:¬(T.sgn (aD ts) i (ao i (s.take (2^i)))=T.sgn (aD ts) i (ao i (s.drop (2^i)))\/T.sgn (aD ts) i (ao i (s.drop (2^i)))=0):=ach z;refine gC (fun z=>?_) (fun z=>?_)
 ·have e3 : T.sgn (aD ts) i (ao i (s.take (2 ^ i))) = 0 := by simpa [aa] using z
  refine ah ?_;rw[om];unfold T.sgn3;rw[ajf e1,ajf e2,ajg e3]
 have e3:¬T.sgn (aD ts) i (ao i (s.take (2^i)))=0:=by simpa[aa]using z
 refine gc (Dl ts m r ht hm gP i s e oz eC cs oz) ?_;refine gc k4 ?_;refine ga (SO v1 v4) ?_;refine gD ?_;refine ah ?_;rw[om];unfold T.sgn3;rw[ajf e1,ajf e2,ajf e3];rfl
theorem wX{p q:Rat}(hp:Qs p)(hq:Qs q):FP 45 [qA p,qA q] (qA (p+q)):=by
 have h:=yS (rt p) (rt q) hp.ok hq.ok;rw[bH,bH]at h;exact h
theorem tp{p q:Rat}(hp:Qs p)(hq:Qs q):FP 172 [qA p,qA q] (qA (p-q)):=by
 have h:=Tt (rt p) (rt q) hp.ok hq.ok;rw[bH,bH]at h;exact h
theorem jA{p q:Rat}(hp:Qs p)(hq:Qs q):FP 71 [qA p,qA q] (qA (p*q)):=by
 have h:=Nx (rt p) (rt q) hp.ok hq.ok;rw[bH,bH]at h;exact h
theorem KH{p q:Rat}(hp:Qs p)(hq:Qs q):FP 389 [qA p,qA q] (.tup [qA (p/q),db (if q=0 then 8 else 0)]):=by
 have h:=GZ (rt p) (rt q) hp.ok hq.ok;rw[bH,bH]at h;exact h
theorem vY{p:Rat}(hp:Qs p):FP 279 [qA p] (qA (-p)):=by
 have h:=Fo (rt p) hp.ok;rw[bH]at h;exact h
theorem qR{p:Rat}(hp:Qs p):FP 24 [qA p] (i64 (aR p)):=by
 have h:=yi (rt p) hp.ok;rw[bH]at h;exact h
theorem SZ{p q:Rat}(hp:Qs p)(hq:Qs q):FP 352 [qA p,qA q] (i64 (aR (p-q))):=by
 have h:=DO (rt p) (rt q) hp.ok hq.ok;rw[bH,bH]at h;exact h
theorem Zv(x:Tn)(hx:x.t.ok):FP 37 [x.av] (db x.err):=by
 refine ak func37 ?_;refine gc (uo x.t hx) ?_;refine bP (fun _=>(yi x.t hx)) ?_;refine gC (fun z=>?_) (fun z=>?_)
 ·have h0:=Tn.err_yes z;refine ah ?_;rw[h0];rfl
 have h0:=Tn.err_no z;refine ah ?_;rw[h0];rfl
theorem Vx(x:Tn)(hx:x.t.ok):FP 40 [x.av] (i64 x.err):=by
 refine ak func40 ?_;refine gc (wk x.t hx) ?_;refine bP (fun _=>(BF x.t hx)) ?_;refine gC (fun z=>?_) (fun z=>?_)
 ·have h0:=Tn.err_yes z;refine ah ?_;rw[h0];rfl
 have h0:=Tn.err_no z;refine ah ?_;rw[h0];rfl
end Go.Lw
