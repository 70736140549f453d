/- LimitsRadicands: for any linkage the law returns true and leaves its argument as it was. No other condition. Part 4 of 8: what the later parts need -/
import Derived.Test.YtmencaoblogmeaaGreatXc
import Derived.Test.YtmencaoblogmeaaGreatRows
set_option linter.unusedVariables false
open List (nil_append drop_drop map_take all_append)
open List renaming mem_of_getElem? → ahg, mem_cons_of_mem → ah6, mem_append → ahn, map_cons → aiq, mem_cons → ah3, length_cons → ahx, mem_cons_self → aig, length_append → aid, length_nil → ah9, getD_eq_getElem?_getD → ahh, getElem?_eq_none → aht, all_eq_true → ahs, getElem?_take → aie, getElem?_map → aho, getElem?_eq_getElem → ahm, drop_eq_nil_of_le → aib, getElem?_replicate → aia, map_append → aih, take_of_length_le → ah1, drop_zero → aim, take_length → ahw, not_mem_nil → ahy, length_map → ahk, length_replicate → ah7, map_replicate → aik, map_set → ain, length_set → air, mem_of_mem_take → aes, mem_of_mem_drop → aeu, getElem_mem → aey, length_pos_iff → aez, mem_singleton → ae4, append_nil → ae5, getLast?_eq_getElem? → ae6, find?_range_eq_none → ae8, length_eq_one_iff → afc, getElem?_set → afe, take_append_of_le_length → aff, getElem?_eq_some_iff → afh, find?_range_eq_some → afo, length_eq_zero_iff → afp, replicate → afq, take_take → afr, mem_map → aft, mem_range → afu, contains_iff_mem → afv
open Nat renaming le_refl → ahr, lt_of_lt_of_le → ah2, lt_or_ge → ahq, le_trans → ah8, mul_le_mul_right → ah0, mul_le_mul_left → ahu, zero_le → ahv, pow_add → ail, lt_of_le_of_lt → aic, min_eq_left → adi, gcd_comm → adj, add_comm → adk, eq_zero_or_pos → adm, mod_lt → adn, pow_succ → ado, succ_mul → adp, add_mul_mod_self_left → ady, div_add_mod → adz, mul_assoc → ad0, add_mul → ad2, mul_lt_mul'' → ad4, mod_eq_of_lt → ad5, pow_pos → ad7, pow_le_pow_right → ad8, le_of_lt → aea, div_eq_of_lt → aeb, gcd → aed, mul_comm → aef, zero_add → aeg, div_le_self → aeh, pow_mul → aei, two_pow_pos → aej, add_mul_div_left → aek, mul_add → ael, blt → aem, div_div_eq_div_mul → aen, add_zero → aep, div_lt_iff_lt_mul → aer
open Option renaming map_eq_some_iff → ahl, getD_some → ahe
open Bool renaming and_eq_true → ahj, or_eq_true → aio, eq_false_iff → agn, false_and → agq, not_eq_false' → agr, eq_iff_iff → ags, not_eq_true' → agt, true_and → agu, false_eq_true → agv
open Int renaming toNat_natCast → aij, natAbs_natCast → aif, sign_trichotomy → afy, gcd → af1, mul_ne_zero → af2, sign_eq_zero_iff_zero → af4, mul_nonneg → aga, sign_nonneg_iff → agb, sign_eq_neg_one_iff_neg → agc
open Rat renaming pow_succ → age, mul_pos → agi, mul_nonneg → agj, le_refl → agk, divInt → agl, num_divInt_den → agm
open Decidable renaming not_not → ahf
open Go renaming Value → ai3, TypeId → ai4, Program → ai5, World → ai6
open Go.Proofs.Tryz
namespace Go.Lw
open Go.Proofs
theorem BT(a b:List Nat)(ha:Ws a)(hb:Ws b)(la:a.length<aw)(lb:b.length<aw):FP 363 [ws a,ws b] (ws (ofNat (val a+val b))):=by
 unfold aw at la lb;obtain⟨n,hn⟩:∃n,n=max a.length b.length+1:=⟨_,rfl⟩
 refine ak func363 ?_;refine gl ?_;refine gl ?_;refine gs (ri (.tmp rfl) (.tmp rfl) rfl) ?_;refine ga (show _=(n:Int) by rw[cO oz];omega) ?_;refine gW (Wk.virt 900 1 rfl) ?_;refine iW [0,1,14] [] (fun(out:List Nat)(c i:Nat)=>[pP 5 (.ms 900 1 0 i),pP 6 (u64 c),pP 15 (i64 i)]) (fun out _ _=>[pP 900 (.row 1 (out.map u32))]) (fun out c i=>out.length=i/\i<=n/\Ws out/\c<=1/\val out+c*4294967296^i=val (a.take i)+val (b.take i)) (fun _ _ i=>n-i) ([]) 0 0 ⟨rfl,by omega,uO,by omega,by simp[val]⟩ ?_;rintro out c i ⟨ho,hi,hw,hc,hv⟩ K1 J1;refine gC (fun z=>?_) (fun z=>?_) (st2:=(9,0))
 ·have af : i < n := by simpa [aa] using z
  have h1:=bu ha i;have h2:=bu hb i;obtain⟨s,hs⟩:∃s,s=c+(aj a i+aj b i):=⟨_,rfl⟩
  have h3:=DS (u:=aj a i) (w:=aj b i) hv;rw[<- hs]at h3;refine gc (by apply mn <;> assumption) ?_;refine gc (by apply mn <;> assumption) ?_;refine ga (jD oz) ?_;refine ga ((jD oz).trans (show _=(s:Int) by congr 1;omega)) ?_;refine gv (dg _) ?_;refine gs (eD (.tmp rfl) rfl (by rw[ahk,ho]) (.tmp rfl) T42 rfl T87 rfl rfl (by simp;omega) rfl rfl) ?_;refine gs (eW (.tmp rfl) (.const _) oz (io _ 32 oz) rfl) ?_ (8,0);refine gW (Wk.of (sl:=[pP 0 (ws a),pP 1 (ws b),pP 5 (.ms 31 1 0 (i+1)),pP 6 (u64 (s/2^32)),pP 14 (i64 n),pP 15 (i64 i)]) (hp:=[pP 31 (.row 1 ((out++[s%4294967296]).map u32))]) aY (.cons rfl (.of (by rw[aih];rfl)) .nil)) ?_ (8,0);refine gW (Wk.rk (k:=31) (d:=900) rfl rfl) ?_;refine ga (cO oz) ?_;exact ia J1 (out++[s%4294967296]) (s/2^32) (i+1) ⟨by simp[ho],by omega,Ar hw (vn oz),by omega,by rw[M1 ho,cU,cU,ado];exact h3⟩
 have af:i=n:=by have:n<=i:=(by simpa[aa]using z);omega
 refine gW ((Wk.freeze (k:=900) rfl).trans<|Wk.of (sl:=[pP 5 (ws out)]) (hp:=[]) (.cons rfl (.of (cf (by simp[ho]))) .nil) .nil) ?_;refine gc (sZ out hw (by unfold aw;omega)) ?_;refine ah ?_;subst af;rw[KD ha hb hn ho (by rw[eO (l:=out) oz];exact hv)]
theorem DV(a b:List Nat)(ha:Ws a)(hb:Ws b)(la:a.length<aw)(bA:val b<=val a):FP 364 [ws a,ws b] (ws (ofNat (val a-val b))):=by
 unfold aw at la;obtain⟨n,hn⟩:∃n,n=a.length:=⟨_,rfl⟩
 refine ak func364 ?_;refine gl ?_;refine gW (Wk.virt 900 1 rfl) ?_;refine iW [0,1] [] (fun(out:List Nat)(c i:Nat)=>[pP 5 (.ms 900 1 0 i),pP 6 (u64 c),pP 10 (i64 n),pP 11 (i64 i)]) (fun out _ _=>[pP 900 (.row 1 (out.map u32))]) (fun out c i=>out.length=i/\i<=n/\Ws out/\c<=1/\val out+val (b.take i)=val (a.take i)+c*4294967296^i) (fun _ _ i=>n-i) ([]) 0 0 ⟨rfl,by omega,uO,by omega,by simp[val]⟩ ?_ (h1:=(.k (.k (.cons rfl (Sub.int (by rw[hn])) (.k .nil)))))
 rintro out c i ⟨ho,hi,hw,hc,hv⟩ K1 J1;refine gC (fun z=>?_) (fun z=>?_) (st2:=(9,0))
 ·have af : i < n := by simpa [aa] using z
  have h1:=bu ha i;have h2:=bu hb i;obtain⟨s,hs⟩:∃s,s=4294967296+aj a i-aj b i-c:=⟨_,rfl⟩
  have h3:=NN h1 h2 hc hv;rw[<- hs]at h3;refine gc (by apply mn <;> assumption) ?_;refine ga ((jD (x:=4294967296) oz)) ?_;refine gc (by apply mn <;> assumption) ?_;refine ga ((lD oz oz).trans (by rw[ait oz])) ?_;refine ga ((lD oz oz).trans (show _=(s:Int) by rw[ait oz];congr 1;omega)) ?_;refine gv (dg _) ?_;refine gs (eD (.tmp rfl) rfl (by rw[ahk,ho]) (.tmp rfl) T42 rfl T87 rfl rfl (by simp;omega) rfl rfl) ?_;refine gs (eW (.tmp rfl) (.const _) oz (io _ 32 oz) rfl) ?_;refine ga ((lD (x:=1) oz oz).trans (by rw[ait oz])) ?_ (8,0);refine gW (Wk.of (sl:=[pP 0 (ws a),pP 1 (ws b),pP 5 (.ms 28 1 0 (i+1)),pP 6 (u64 (1-s/2^32:Nat)),pP 10 (i64 n),pP 11 (i64 i)]) (hp:=[pP 28 (.row 1 ((out++[s%4294967296]).map u32))]) aY (.cons rfl (.of (by rw[aih];rfl)) .nil)) ?_ (8,0);refine gW (Wk.rk (k:=28) (d:=900) rfl rfl) ?_;refine ga (cO oz) ?_;exact ia J1 (out++[s%4294967296]) (1-s/2^32) (i+1) ⟨by simp[ho],by omega,Ar hw (vn oz),by omega,by rw[M1 ho,cU,cU,ado];exact h3⟩
 have af:i=n:=by have:n<=i:=(by simpa[aa]using z);omega
 refine gW ((Wk.freeze (k:=900) rfl).trans<|Wk.of (sl:=[pP 5 (ws out)]) (hp:=[]) (.cons rfl (.of (cf (by simp[ho]))) .nil) .nil) ?_;refine gc (sZ out hw (by unfold aw;omega)) ?_;refine ah ?_;subst af;subst hn;rw[Ks ha hw ho bA hv]
theorem Qf(a b:List Nat)(ha:Ws a)(hb:Ws b)(la:a.length+b.length<=aw):FP 302 [ws a,ws b] (ws (ofNat (val a*val b))):=by
 have la':=la;unfold aw at la;refine ak func302 ?_;refine gl ?_;refine gl ?_;refine ga (fw (by unfold az;omega) (by unfold az;omega)) ?_;refine gs (gh (.tmp rfl) T42 rfl T87 rfl rfl oz (by dsimp only;omega) rfl) ?_;refine gl ?_;refine fH [0,1,17] [] (fun(out:List Nat)(i:Nat)=>[pP 5 (.ms 15 1 0 (a.length+b.length)),pP 18 (i64 i)]) (fun out _=>[pP 15 (.row 1 (out.map u32))]) (fun out i=>out.length=a.length+b.length/\i<=a.length/\Ws out/\val (out.take (i+b.length))=val (a.take i)*val b) (fun _ i=>a.length-i) (afq (a.length+b.length) 0) 0 ⟨by simp,by omega,mL _,by simp[val,ze]⟩ ?_ (h2:=(.cons rfl (.of (by rw[aik];rfl)) .nil))
 rintro out i ⟨ho,hi,hw,hv⟩ K1 J1;refine gC (fun z=>?_) (fun z=>?_) (st2:=(14,0))
 ·have af : i < a.length := by simpa [aa] using z
  have h1:=bu ha i;refine gl ?_;refine iW [0,1,17,18,6,22] [] (fun(o:List Nat)(c k:Nat)=>[pP 5 (.ms 15 1 0 (a.length+b.length)),pP 7 (u64 c),pP 23 (i64 k)]) (fun o _ _=>[pP 15 (.row 1 (o.map u32))]) (fun o c k=>o.length=a.length+b.length/\k<=b.length/\Ws o/\c<4294967296/\val (o.take (i+b.length))+c*4294967296^(i+k)=val (out.take (i+b.length))+4294967296^i*(aj a i*val (b.take k))) (fun _ _ k=>b.length-k) out 0 0 ⟨ho,by omega,hw,by omega,by simp[val]⟩ ?_
  rintro o c k ⟨iz,hk,lX,hc,jl⟩ K2 J2;refine gC (fun z=>?_) (fun z=>?_)
  ·have aT : k < b.length := by simpa [aa] using z
   have h2:=bu hb k;have h3:=bu lX (i+k);have h4:=zN h1 h2;obtain⟨s,hs⟩:∃s,s=c+(aj a i*aj b k+aj o (i+k)):=⟨_,rfl⟩
   have h5:=Nc (x:=s%4294967296) (show i+k<o.length by omega) (show i+k<i+b.length by omega);have h6:=MZ h5 hs jl;refine gi (ic (n:=i) oz (by first |omega |(simp;omega))) ?_;refine gv (u64_in oz) ?_;refine gi (ic (n:=k) oz (by first |omega |(simp;omega))) ?_;refine gv (u64_in oz) ?_;refine ga (yQ oz) ?_;refine ga (fw (by unfold az;omega) (by unfold az;omega)) ?_;refine gs (br (n:=i+k) (.tmp rfl) (.tmp rfl) T42 rfl T87 rfl oz (by first |omega |(simp;omega)) rfl) ?_;refine gs (dx (.tmp rfl) rfl (bP (i:=i+k) oz) T87 rfl rfl rfl) ?_;refine gv (u64_in oz) ?_;refine ga (jD oz) ?_;refine ga ((jD oz).trans (show _=(s:Int) by congr 1;omega)) ?_;refine gD ?_;refine ga (fw (by unfold az;omega) (by unfold az;omega)) ?_;refine gv (dg _) ?_;refine gs (eW (.tmp rfl) (.const _) oz (io _ 32 oz) rfl) ?_;refine gs (br (n:=i+k) (.tmp rfl) (.tmp rfl) T42 rfl T87 rfl oz (by first |omega |(simp;omega)) rfl) ?_;refine gs (dc (.tmp rfl) rfl (bP (i:=i+k) oz) rfl (.tmp rfl) rfl rfl T87 rfl rfl) ?_;refine ga (cO oz) ?_;exact ia J2 (o.set (i+k) (s%4294967296)) (s/2^32) (k+1) ⟨by simp[iz],by omega,gK lX oz,by omega,by rw[show i+(k+1)=(i+k)+1 from rfl,show s/2^32=s/4294967296 from rfl,ado,h6,cU];simp only[ail];grind⟩ (hw:=Wk.of aY (.cons rfl (.of (by rw[ain];rfl)) .nil))
  have aT:k=b.length:=by have:b.length<=k:=(by simpa[aa]using z);omega
  subst aT;have h5:=mf (x:=c) (show i+b.length<o.length by omega);rw[ahw]at jl;refine gl ?_;refine ga (fw (by unfold az;omega) (by unfold az;omega)) ?_;refine gv ((dg c).trans (by rw[ad5 hc])) ?_;refine gs (br (n:=i+b.length) (.tmp rfl) (.tmp rfl) T42 rfl T87 rfl oz (by first |omega |(simp;omega)) rfl) ?_;refine gs (dc (.tmp rfl) rfl (bP (i:=i+b.length) oz) rfl (.tmp rfl) rfl rfl T87 rfl rfl) ?_;refine ga (cO oz) ?_;exact fE J1 (o.set (i+b.length) c) (i+1) ⟨by simp[iz],by omega,gK lX hc,by rw[show i+1+b.length=i+b.length+1 by omega,h5,cU];simp only[ail]at *;grind⟩ (hw:=Wk.of aY (.cons rfl (.of (by rw[ain];rfl)) .nil))
 have af:i=a.length:=by have:a.length<=i:=(by simpa[aa]using z);omega
 subst af;rw[ahw,eO oz]at hv;refine gW ((Wk.freeze (k:=15) rfl).trans<|Wk.of (sl:=[pP 5 (ws out)]) (hp:=[]) (.cons rfl (.of (cf (by simp[ho]))) .nil) .nil) ?_;refine gc (sZ out hw oz) ?_;refine ah ?_;rw[hv]
theorem ES(a:Wh)(ha:a.ok):FP 208 [a.av] (i64 a.z.sign):=by
 obtain⟨e1,e2,e3⟩:=Mq ha;refine ak func208 ?_;refine gc (lP a ha) ?_;refine gl ?_;refine gC (fun z=>?_) (fun z=>?_)
 ·have h0 : a.m.length = 0 := by simpa [aa] using z
  refine ah ?_;rw[e1 h0];rfl
 have h0:a.m.length≠0:=by simpa[aa]using z
 have jG:a.valid=true:=by
  unfold Wh.m at h0;split at h0
  ·assumption
  ·exact aiz rfl h0
 refine gc (jr a ha) ?_;refine gC (fun z=>?_) (fun z=>?_)
 ·have h1 : a.neg = true := by unfold Wh.n at z; rw [jG] at z; simpa using z
  refine ah ?_;rw[e2 h0 h1];rfl
 have h1:a.neg=false:=by unfold Wh.n at z;rw[jG]at z;simpa using z
 refine ah ?_;rw[e3 h0 h1];rfl
theorem GY(a:Wh)(ha:a.ok)(la:a.mag.length<aw):FP 280 [a.av] (zA (-a.z)):=by
 refine ak func280 ?_;refine gc (jr a ha) ?_;refine gc (lP a ha) ?_;refine gc (kK _ a.m (Wh.ws ha) (aea (Wh.small ha la))) ?_;refine gD ?_;refine ah ?_;rw[Wh.z_eq,<- IS];rfl
theorem U3(a b:Wh)(ha:a.ok)(hb:b.ok)(la:a.mag.length+b.mag.length<=aw):FP 201 [a.av,b.av] (zA (a.z*b.z)):=by
 have h1:=Wh.m_le (w:=a);have h2:=Wh.m_le (w:=b);have h3:(ofNat (val a.m*val b.m)).length<=a.m.length+b.m.length:=ft (by rw[ail];exact ad4 (bF _ (Wh.ws ha)) (bF _ (Wh.ws hb)));refine ak func201 ?_;refine gc (jr a ha) ?_;refine gc (jr b hb) ?_;refine gc (lP a ha) ?_;refine gc (lP b hb) ?_;refine gc (Qf a.m b.m (Wh.ws ha) (Wh.ws hb) oz) ?_;refine gc (kK _ _ (cT _) oz) ?_;refine gD ?_;refine ah ?_;rw[bI,Hz];rfl
theorem IX(a b:Wh)(ha:a.ok)(hb:b.ok)(la:a.mag.length<aw)(lb:b.mag.length<aw):FP 294 [a.av,b.av] (zA (a.z+b.z)):=by
 have h1:=Wh.m_le (w:=a);have h2:=Wh.m_le (w:=b);have pU:val a.m<4294967296^(max a.m.length b.m.length):=ah2 (bF _ (Wh.ws ha)) (ad8 oz oz);have fK:val b.m<4294967296^(max a.m.length b.m.length):=ah2 (bF _ (Wh.ws hb)) (ad8 oz oz);have h3:(ofNat (val a.m+val b.m)).length<=max a.m.length b.m.length+1:=ft (by rw[ado];omega);have h4:(ofNat (val a.m-val b.m)).length<=max a.m.length b.m.length:=ft oz;have h5:(ofNat (val b.m-val a.m)).length<=max a.m.length b.m.length:=ft oz;refine ak func294 ?_;refine gc (lP a ha) ?_;refine gc (lP b hb) ?_;refine gD ?_;refine gc (jr a ha) ?_;refine gc (jr b hb) ?_;refine gD ?_;refine gC (fun z=>?_) (fun z=>?_)
 ·have h0 : a.n = b.n := by simpa using z
  refine gc (jr a ha) ?_;refine gc (BT a.m b.m (Wh.ws ha) (Wh.ws hb) oz oz) ?_;refine gc (kK _ _ (cT _) oz) ?_;refine ah ?_;rw[bI,N9 h0];rfl
 have h0:a.n≠b.n:=by simpa using z
 refine gc (BO a.m b.m (Wh.ws ha) (Wh.ws hb)) ?_;refine gC (fun t25=>?_) (fun t25=>?_)
 ·have h6:val b.m<=val a.m:=by
   rcases ahq (val a.m) (val b.m)with h |h
   ·rw[ait h]at t25;cases t25
   ·exact h
  refine gc (jr a ha) ?_;refine gc (DV a.m b.m (Wh.ws ha) (Wh.ws hb) oz oz) ?_;refine gc (kK _ _ (cT _) oz) ?_;refine ah ?_;rw[bI,D0 h0 h6];rfl
 have h6:val a.m<val b.m:=by
  rcases ahq (val a.m) (val b.m)with h |h
  ·exact h
  ·rw[ais oz]at t25;split at t25 <;> cases t25
 refine gc (jr b hb) ?_;refine gc (DV b.m a.m (Wh.ws hb) (Wh.ws ha) oz oz) ?_;refine gc (kK _ _ (cT _) oz) ?_;refine ah ?_;rw[bI,IP h0 oz];rfl
theorem Ih(n:Int)(h:-9223372036854775808<=n/\n<=9223372036854775807):FP 174 [i64 n] (zA n):=by
 obtain⟨N,hN⟩:∃N,N=n.natAbs:=⟨_,rfl⟩
 have oc:N<18446744073709551616:=by omega
 refine ak func174 ?_;refine gv (show IntKind.u64.wrap n=((n%18446744073709551616:Int)) by simp only[IntKind.wrap,IntKind.signed,IntKind.bits,agq,if_false,agv];omega) ?_;refine gC (fun z=>?_) (fun z=>?_) (st2:=(77777,0))
 ·have hn : n < 0 := by simpa [aa] using z
  refine gs (yr (.tmp rfl) rfl) ?_ (4,0);refine gW (Wk.of (sl:=[pP 0 (i64 n),pP 2 (.ptr 2 0),pP 3 (u64 N)]) (hp:=[pP 2 (.box [.v (.bool false),nS])]) (.k (.k (.cons rfl (Sub.int (by simp only[IntKind.wrap,IntKind.signed,IntKind.bits,agq,if_false,agv];omega)) .nil))) (.k .nil)) ?_;refine gv (dg _) ?_;refine gs (eW (.tmp rfl) (.const _) oz (io _ 32 oz) rfl) ?_;refine gv ((dg _).trans (by rw[ad5 (show N/2^32<4294967296 by omega)])) ?_;refine gc (kK (aa .lss n 0) [N%4294967296,N/2^32] (yL oc) (by unfold aw;simp)) ?_;refine ah ?_;rw[yc oc,show sgn (aa .lss n 0) N=n by simp only[sgn,aa,aiu];split <;> omega];rfl
 have hn:¬n<0:=by simpa[aa]using z
 refine gW (Wk.of (sl:=[pP 0 (i64 n),pP 2 (.ptr 2 0),pP 3 (u64 N)]) (hp:=[pP 2 (.box [.v (.bool false),nS])]) (.k (.k (.cons rfl (Sub.int oz) .nil))) (.k .nil)) ?_;refine gv (dg _) ?_;refine gs (eW (.tmp rfl) (.const _) oz (io _ 32 oz) rfl) ?_;refine gv ((dg _).trans (by rw[ad5 (show N/2^32<4294967296 by omega)])) ?_;refine gc (kK (aa .lss n 0) [N%4294967296,N/2^32] (yL oc) (by unfold aw;simp)) ?_;refine ah ?_;rw[yc oc,show sgn (aa .lss n 0) N=n by simp only[sgn,aa,aiu];split <;> omega];rfl
theorem abe(a b:Wh)(ha:a.ok)(hb:b.ok)(la:a.mag.length<aw)(lb:b.mag.length<aw):FP 304 [a.av,b.av] (zA (a.z-b.z)):=by
 have h1:=(Wh.lz hb).neg;have h2:=Lm h1;refine ak func304 ?_;refine gc (GY b hb lb) ?_;refine gc (IX a (ofInt (-b.z)) ha (Nv h1 hb.2) la oz) ?_;refine gD ?_;refine ah ?_;rw[du,<- Int.sub_eq_add_neg];rfl
theorem Zf(a b:Wh)(ha:a.ok)(hb:b.ok)(la:a.mag.length<aw)(lb:b.mag.length<aw):FP 206 [a.av,b.av] (i64 (ig a.z b.z)):=by
 have h1:=(Wh.lz ha).sub (Wh.lz hb);have h2:=Lm h1;refine ak func206 ?_;refine gc (abe a b ha hb la lb) ?_;refine gc (ES (ofInt (a.z-b.z)) (Nv h1 (by unfold az;unfold aw at la lb;omega))) ?_;refine ah ?_;rw[du,aar]
theorem tB{A:List Nat}{n:Nat}:AV.lst 1 (((A.map u32).drop 0).take n)=ws (A.take n):=by
 rw[aim,<- map_take];rfl
theorem M3(A:List Nat):(Blk.row 1 (A.map u32)).sc=true:=by
 simp only[Blk.sc,List.all_map];rw[ahs];intro x _;rfl
theorem rh{A:List Nat}{n i:Nat}(h:i<n):aj (A.take n) i=aj A i:=by
 simp[aj,h]
theorem Ll{A:List Nat}{n i:Nat}(h:n<=i):aj (A.take n) i=0:=tt (by simp;omega)
theorem Yo{x:Nat}(h:0<x):aM x=aM (x/2)+1:=by
 rcases ahq x 2 with h1 |h1
 ·have : x = 1 := by omega
  subst this;decide
 ·have:=wV (x:=x) (k:=1) oz;rw[show x/2^1=x/2 from rfl]at this;omega
theorem Ui{a:List Nat}{n:Nat}(ha:Ws a)(na:Nz a)(hl:a.length=n+1):aM (val a)=32*n+aM (aj a n):=by
 have ht:aj a n≠0:=by
  refine na _ ?_;rw[ae6,hl];exact jQ oz
 have hv:val a=val (a.take n)+4294967296^n*aj a n:=by rw[<- cU,eO oz]
 have hlt:=p7 ha n;have hp:(4294967296:Nat)^n=2^(32*n):=by rw[aei]
 rw[hp]at hv hlt
 have h1:val a/2^(32*n)=aj a n:=by
  rw[hv,aek _ _ (ad7 oz),aeb hlt,aeg]
 have h2:2^(32*n)<=val a:=by
  have:=ahu (2^(32*n)) (show 1<=aj a n by omega);omega
 rw[wV h2,h1]
theorem Hj{o A:List Nat}{n v:Nat}(ho:Ws o)(hl:o.length=A.length)(hn:n<=A.length)(hd:o.drop n=A.drop n)(hv:val (o.take n)=v):o=wr A 0 (aS n v):=by
 have h1:a5 o 0 n=aS n v:=zc (pH ho _ _) (qY oz) (by rw[a5,aim,hv]);rw[<- h1];exact Ch (by simp) (by rw[aeg];exact hd) oz
theorem Bw(k:Nat)(A:List Nat)(n i:Nat)(hA:Ws A)(hn:n<=A.length) :
  Con prog 401 [.ms k 1 0 n,i64 i] [(k,some (.row 1 (A.map u32)))] (u64 (aj (A.take n) i)) [(k,some (.row 1 (A.map u32)))]:=by
 refine Con.borrow (args:=[ws (A.take n),i64 i]) k 1 (A.map u32) rfl rfl rfl ?_ rfl (fun k' x h=>by cases h) (mn (A.take n) i (gO hA n));intro j x' hj
 match j,hj with
 |0,hj=>cases hj;exact .inr ⟨0,n,rfl,by simpa using hn,by rw[tB];rfl⟩
 |1,hj=>cases hj;exact .inl rfl
theorem To(k1 k2:Nat)(hk:k1≠k2)(A D:List Nat)(n p:Nat)(hA:Ws A)(hD:Ws D)(hn:n<=A.length)(hp:p<=D.length) :
  Con prog 370 [.ms k1 1 0 n,.ms k2 1 0 p] [(k1,some (.row 1 (A.map u32))),(k2,some (.row 1 (D.map u32)))]
   (i64 (if val (A.take n)<val (D.take p)then -1 else if val (D.take p)<val (A.take n)then 1 else 0)) [(k1,some (.row 1 (A.map u32))),(k2,some (.row 1 (D.map u32)))]:=by
 have h1:Con prog 370 [ws (A.take n),.ms k2 1 0 p] [(k2,some (.row 1 (D.map u32)))]
   (i64 (if val (A.take n)<val (D.take p)then -1 else if val (D.take p)<val (A.take n)then 1 else 0)) [(k2,some (.row 1 (D.map u32)))]:=by
  refine Con.borrow (args:=[ws (A.take n),ws (D.take p)]) k2 1 (D.map u32) rfl rfl rfl ?_ rfl (fun k' x h=>by cases h) (BO (A.take n) (D.take p) (gO hA n) (gO hD p));intro j x' hj
  match j,hj with
  |0,hj=>cases hj;exact .inl rfl
  |1,hj=>cases hj;exact .inr ⟨0,p,rfl,by simpa using hp,by rw[tB];rfl⟩
 refine Con.borrow (args:=[ws (A.take n),.ms k2 1 0 p]) k1 1 (A.map u32) ?_ ?_ rfl ?_ rfl ?_ h1
 ·rw[aA,ais hk];rfl
 ·rw[aA,ais hk];rfl
 ·intro j x' hj
  match j,hj with
  |0,hj=>cases hj;exact .inr ⟨0,n,rfl,by simpa using hn,by rw[tB];rfl⟩
  |1,hj=>cases hj;exact .inl rfl
 ·intro k' x h;obtain⟨_,h⟩:=gY h;cases h;exact M3 D
theorem Tm(k:Nat)(A b:List Nat)(n:Nat)(hA:Ws A)(hb:Ws b)(hn:n<=A.length) :
  Con prog 370 [.ms k 1 0 n,ws b] [(k,some (.row 1 (A.map u32)))]
   (i64 (if val (A.take n)<val b then -1 else if val b<val (A.take n)then 1 else 0)) [(k,some (.row 1 (A.map u32)))]:=by
 refine Con.borrow (args:=[ws (A.take n),ws b]) k 1 (A.map u32) rfl rfl rfl ?_ rfl (fun k' x h=>by cases h) (BO (A.take n) b (gO hA n) hb);intro j x' hj
 match j,hj with
 |0,hj=>cases hj;exact .inr ⟨0,n,rfl,by simpa using hn,by rw[tB];rfl⟩
 |1,hj=>cases hj;exact .inl rfl
theorem ZQ(a:List Nat)(ha:Ws a)(na:Nz a)(la:a.length<=aw):FP 400 [ws a] (i64 (aM (val a))):=by
 unfold aw at la;refine ak func400 ?_;refine gl ?_;refine gC (fun z=>?_) (fun z=>?_)
 ·have h0 : a=[] := afp.1 (by simpa[aa]using z);refine ah ?_;subst h0;rfl
 have h0:a.length≠0:=by simpa[aa]using z
 obtain⟨n,hn⟩:∃n,a.length=n+1:=⟨a.length-1,by omega⟩
 have hB:=Ui ha na hn;have ht:=bu ha n;refine gl ?_;refine ga (show _=(n:Int) by rw[el oz];omega) ?_;refine ga (show _=((32*n:Nat):Int) by rw[Md oz];omega) ?_;refine gl ?_;refine ga (show _=(n:Int) by rw[el oz];omega) ?_;refine gi (ic (n:=n) oz (by first |omega |(simp;omega))) ?_;refine fH [] [] (fun(x c:Nat)=>[pP 3 (i64 c),pP 4 (u32 x)]) (fun _ _=>[]) (fun x c=>x<4294967296/\c<=281474976710656/\c+aM x=aM (val a)) (fun x _=>x) (aj a n) (32*n) ⟨ht,by omega,hB.symm⟩ ?_;rintro x c ⟨hx,hc,hv⟩ K1 J1;refine gC (fun z=>?_) (fun z=>?_)
 ·have kZ : 0 < x := by simpa [aa] using z
  have h2:=Yo kZ
  have h3:aM (val a)<=32*n+32:=by
   have:=(ET (x:=aj a n)  (by
    refine na _ ?_;rw[ae6,hn];exact jQ oz) ht).1
   omega
  refine ga (show _=((c+1:Nat):Int) by rw[cO oz];omega) ?_;refine gs (eW (.tmp rfl) (.const _) oz (tU x 1 oz) rfl) ?_;exact fE J1 (x/2^1) (c+1) ⟨by omega,by omega,by rw[show x/2^1=x/2 from rfl];omega⟩
 have kZ:x=0:=by have:x<=0:=(by simpa[aa]using z);omega
 subst kZ;refine ah ?_;rw[<- hv];rfl
theorem EP(A:List Nat)(n:Nat)(hA:Ws A)(hn:n<=A.length)(la:A.length<=aw) :
  Con prog 375 [.ms 1000 1 0 n] [pP 1000 (.row 1 (A.map u32))] (.ms 1000 1 0 (ofNat (val (A.take n))).length) [pP 1000 (.row 1 (A.map u32))]:=by
 unfold aw at la;refine gF func375 (fun k z h=>eQ h) ?_;refine aL [] [1000] (fun(j:Nat)=>[pP 0 (.ms 1000 1 0 j)]) (fun _=>[]) (fun j=>j<=n/\val (A.take j)=val (A.take n)) (fun j=>j) n ⟨ahr _,rfl⟩ ?_;rintro j ⟨hj,hv⟩ K1 J1;refine kD (fun h=>(gM (by simp[aa]at h;omega) (by unfold az;omega))) ?_;refine gs (fT rfl rfl rfl (fun h=>br (n:=j-1) (.opt rfl (o1 h)) (.opt rfl (o1 h)) T42 rfl T87 rfl oz (by simp[aa]at h;omega) rfl)) ?_;refine gs (fT rfl rfl rfl (fun h=>dx (.opt rfl (o1 h)) rfl (bP (i:=j-1) (by simp[aa]at h;omega)) T87 rfl rfl rfl)) ?_;refine gC (fun t14=>?_) (fun t14=>?_)
 ·have t14 : 0 < j /\ aj A (j - 1) = 0 := by simpa [aa] using t14
  refine ga (gM oz (by unfold az;omega)) ?_;refine gs (qN (.tmp rfl) (.none _) (.some _ (.tmp rfl) oz) T42 rfl T87 rfl oz oz rfl) ?_;exact aE J1 (j-1) ⟨by omega,by have h:=@cU A (j-1);rw[show j-1+1=j by omega,t14.2]at h;simp at h;omega⟩ (hw:=Wk.of (.cons rfl (.of (by congr 1)) .nil) (.k .nil))
 have t14:0<j->aj A (j-1)≠0:=by simpa[aa]using t14
 have iR := Mu (m := A.take n) (n := j) (gO hA n) (by simp; omega) (by rw [afr, adi hj]; exact hv) (by
  rcases adm j with h |h
  ·exact .inl h
  ·exact .inr (by rw[rh oz];exact t14 h))
 subst iR;refine gR ?_;exact aI.own2 rfl rfl rfl
theorem z5(A:List Nat)(n:Nat)(hA:Ws A)(hn:n<=A.length)(la:A.length<=aw) :
  Con prog 373 [.ms 1000 1 0 n] [pP 1000 (.row 1 (A.map u32))] (.ms 1000 1 0 (ofNat (val (A.take n)/2)).length) [pP 1000 (.row 1 ((wr A 0 (aS n (val (A.take n)/2))).map u32))]:=by
 have la':=la;unfold aw at la;refine gF func373 (fun k z h=>eQ h) ?_;refine fH [5] [] (fun(o:List Nat)(i:Nat)=>[pP 0 (.ms 1000 1 0 n),pP 6 (i64 i)]) (fun o _=>[pP 1000 (.row 1 (o.map u32))]) (fun o i=>o.length=A.length/\i<=n/\Ws o/\o.drop i=A.drop i/\val (o.take i)=val (A.take n)/2^1%4294967296^i) (fun _ i=>n-i) A 0 ⟨rfl,by omega,hA,rfl,by simp[val,Nat.mod_one]⟩ ?_;rintro o i ⟨ho,hi,hw,hd,hv⟩ K1 J1;refine gC (fun u=>?_) (fun u=>?_)
 ·have af : i < n := by simpa [aa] using u
  have e1:aj (o.take n) i=aj (A.take n) i:=by rw[rh af,rh af];exact tW hd
  have lW:o.drop (i+1)=A.drop (i+1):=by
   have h1:(o.drop i).drop 1=(A.drop i).drop 1:=by rw[hd]
   rwa [drop_drop,drop_drop]at h1
  have e2:aj (o.take n) (i+1)=aj (A.take n) (i+1):=by
   rcases ahq (i+1) n with h |h
   ·rw[rh h,rh h];exact tW lW
   ·rw[Ll h,Ll h]
  have b1:=bu (gO hA n) i;have b2:=bu (gO hA n) (i+1);have h3:=NE (n:=1) (gO hA n) (show i<(A.take n).length by simp;omega) (show i<o.length by omega) oz hv;refine gt (bq (Bw 1000 o n i hw oz) (cV rfl rfl) bU rfl rfl) ?_;refine gs (eW (.tmp rfl) (.const _) oz ((io _ 1 oz).trans (by rw[e1])) rfl) ?_;refine ga (fw (y:=1) (by unfold az;omega) (by unfold az;omega)) ?_;refine gt (bq (Bw 1000 o n (i+1) hw oz) (cV rfl rfl) bU rfl rfl) ?_;refine gs (mr (.tmp rfl) (.const _) oz ((tg (n:=31) oz oz).trans (by rw[e2])) rfl) ?_;refine gs (jR (.tmp rfl) (.tmp rfl) rfl ((vU oz oz).trans (by rw[Dk oz])) rfl) ?_;refine gv ((dg _).trans (show _=(((aj (A.take n) i+aj (A.take n) (i+1)*2^32)/2^1%4294967296:Nat):Int) by congr 1;omega)) ?_;refine gs (br (n:=i) (.tmp rfl) (.tmp rfl) T42 rfl T87 rfl oz (by first |omega |(simp;omega)) rfl) ?_;refine gs (dc (.tmp rfl) rfl (bP (i:=i) oz) rfl (.tmp rfl) rfl rfl T87 rfl rfl) ?_;refine ga (cO oz) ?_;exact fE J1 (o.set i ((aj (A.take n) i+aj (A.take n) (i+1)*2^32)/2^1%4294967296)) (i+1) ⟨by simp[ho],by omega,gK hw oz,vo hd,h3⟩ (hw:=Wk.of aY (.cons rfl (.of (by rw[ain];rfl)) .nil))
 have af:i=n:=by have:n<=i:=(by simpa[aa]using u);omega
 subst af;have hlt:=p7 hA i;have hv':val (o.take i)=val (A.take i)/2:=by rw[hv,ad5 oz]
 have h9:=Hj hw ho hn hd hv';refine gt (bq (EP o i hw oz oz) (iN rfl) bU rfl rfl) ?_;refine gR ?_;exact aI.own2 rfl (by rw[<- h9]) (by rw[hv'];rfl)
theorem N5(A b:List Nat)(n:Nat)(hA:Ws A)(hb:Ws b)(hn:n<=A.length)(la:A.length<=aw)(bA:val b<=val (A.take n)) :
  Con prog 374 [.ms 1000 1 0 n,ws b] [pP 1000 (.row 1 (A.map u32))] (.tup []) [pP 1000 (.row 1 ((wr A 0 (aS n (val (A.take n)-val b))).map u32))]:=by
 unfold aw at la;refine gF func374 (fun k z h=>eQ h) ?_;refine iW [1,8] [] (fun(o:List Nat)(c i:Nat)=>[pP 0 (.ms 1000 1 0 n),pP 4 (u64 c),pP 9 (i64 i)]) (fun o _ _=>[pP 1000 (.row 1 (o.map u32))]) (fun o c i=>o.length=A.length/\i<=n/\Ws o/\c<=1/\o.drop i=A.drop i/\val (o.take i)+val (b.take i)=val (A.take i)+c*4294967296^i) (fun _ _ i=>n-i) A 0 0 ⟨rfl,by omega,hA,by omega,rfl,by simp[val]⟩ ?_;rintro o c i ⟨ho,hi,hw,hc,hd,hv⟩ K1 J1;refine gC (fun y=>?_) (fun y=>?_)
 ·have af : i < n := by simpa [aa] using y
  have e1:aj (o.take n) i=aj A i:=by rw[rh af];exact tW hd
  have h1:=bu hA i;have h2:=bu hb i;obtain⟨s,hs⟩:∃s,s=4294967296+aj A i-aj b i-c:=⟨_,rfl⟩
  have h3:=NN h1 h2 hc hv;rw[<- hs]at h3;refine gt (bq (Bw 1000 o n i hw oz) (cV rfl rfl) bU rfl rfl) ?_;refine ga ((jD (x:=4294967296) oz).trans (by rw[e1])) ?_;refine gc (mn b i hb) ?_;refine ga ((lD oz oz).trans (by rw[ait oz])) ?_;refine ga ((lD oz oz).trans (show _=(s:Int) by rw[ait oz];congr 1;omega)) ?_;refine gv (dg _) ?_;refine gs (eW (.tmp rfl) (.const _) oz (io _ 32 oz) rfl) ?_;refine ga ((lD (x:=1) oz oz).trans (by rw[ait oz])) ?_;refine gs (br (n:=i) (.tmp rfl) (.tmp rfl) T42 rfl T87 rfl oz (by first |omega |(simp;omega)) rfl) ?_;refine gs (dc (.tmp rfl) rfl (bP (i:=i) oz) rfl (.tmp rfl) rfl rfl T87 rfl rfl) ?_;refine ga (cO oz) ?_;exact ia J1 (o.set i (s%4294967296)) (1-s/2^32) (i+1) ⟨by simp[ho],by omega,gK hw oz,by omega,vo hd,by rw[mf oz,cU,cU,ado];exact h3⟩ (hw:=Wk.of aY (.cons rfl (.of (by rw[ain];rfl)) .nil))
 have af:i=n:=by have:n<=i:=(by simpa[aa]using y);omega
 subst af;have hl:(A.take i).length=i:=by simp;omega
 have h4:=Ks (a:=A.take i) (b:=b) (out:=o.take i) (gO hA i) (gO hw i) (by simp;omega) bA (by rw[hl,ah1 (show(A.take i).length<=i by omega)];exact hv);have h9:=Hj hw ho hn hd h4;refine gR ?_;exact aI.own2 rfl (by rw[<- h9]) rfl
theorem GH{x:Nat}(h:x<=9223372036854775807):IntKind.i64.wrap ((x:Int).tdiv 32)=((x/32:Nat):Int):=by
 rw[show(32:Int)=((32:Nat):Int)from rfl,<- Int.ofNat_tdiv];exact i64_in oz
theorem KY{x:Nat}:(x:Int).tmod 32=((x%32:Nat):Int):=(Int.ofNat_tmod _ _).symm
theorem wF(i:Nat):(4294967296:Nat)^i=2^(32*i):=by rw[aei]
theorem Yw{a:List Nat}(ha:Ws a){k:Nat}(hk:k/32<a.length):aj a (k/32)/2^(k%32)%2=val a/2^k%2:=by
 have h1:val a/2^k=(val a/4294967296^(k/32))/2^(k%32):=by
  rw[wF,aen,<- ail];congr 2;omega
 rw[h1,ye ha _ oz,wL];generalize val (a.drop (k/32+1))=R
 have h2:4294967296*R=2^(k%32)*(2*(2^(31-k%32)*R)):=by
  have:(4294967296:Nat)=2^(k%32)*(2*2^(31-k%32)):=by
   rw[<- Nat.pow_succ',<- ail,show k%32+(31-k%32).succ=32 by omega]
  conv=>lhs;rw[this]
  grind
 rw[h2,aek _ _ (ad7 oz),ady]
theorem Qg{w c:Nat}(hc:c<=1):w*2^1%4294967296 ||| c=w*2^1%4294967296+c:=by
 have h:w*2^1%4294967296=(w%2147483648)*2^1:=by omega
 rw[h];exact vC oz
theorem ab3{o c P rt w bit:Nat}(hw:w<4294967296)(h:o+c*P=2*rt+bit) :
  (o+P*(w*2^1%4294967296+c))+(w/2^31)*(P*4294967296)=2*(rt+P*w)+bit:=by
 have h0:w*2^1%4294967296+(w/2^31)*4294967296=2*w:=by omega
 generalize w*2^1%4294967296=r at *;generalize w/2^31=q at *;grind
theorem SY{q:List Nat}(hq:Ws q){k Y:Nat}(hk:k/32<q.length)(h:val q=2^(k+1)*Y) :
  aj q (k/32) ||| 2^(k%32)=aj q (k/32)+2^(k%32)/\aj q (k/32)+2^(k%32)<4294967296:=by
 have h1:=ye hq (k/32) oz;rw[wL,h,wF,show k+1=32*(k/32)+(k%32+1) by omega,ail,ad0,Nat.mul_div_cancel_left _ (ad7 oz)]at h1;have hw:=bu hq (k/32);generalize aj q (k/32)=w at *;generalize val (q.drop (k/32+1))=R at *
 have hB:(4294967296:Nat)=2^(k%32+1)*2^(31-k%32):=by
  rw[<- ail,show k%32+1+(31-k%32)=32 by omega]
 have h2:w%2^(k%32+1)=0:=by
  have h3:(w+4294967296*R)%2^(k%32+1)=0:=by rw[<- h1];exact Nat.mul_mod_right _ _
  rw[hB,ad0,ady]at h3;exact h3
 have h4:w=2^(k%32+1)*(w/2^(k%32+1)):=by
  have:=adz w (2^(k%32+1));omega
 have h5:2^(k%32)<2^(k%32+1):=by rw[ado];have:=ad7 (n:=k%32) (show 0<2 by omega);omega
 constructor
 ·rw[h4];exact(Nat.two_pow_add_eq_or_of_lt h5 _).symm
 ·have h6:w/2^(k%32+1)<2^(31-k%32):=by
   rw[aer (ad7 oz),aef,<- hB];exact hw
  have h7:=ahu (2^(k%32+1)) (show w/2^(k%32+1)+1<=2^(31-k%32)from h6);rw[<- hB,ael,<- h4]at h7;omega
theorem abp{q:List Nat}(hq:Ws q){k Y:Nat}(hk:k/32<q.length)(h:val q=2^(k+1)*Y) :
  val (q.set (k/32) (aj q (k/32)+2^(k%32)))=2^k*(2*Y+1):=by
 have h1:=CQ (x:=aj q (k/32)+2^(k%32)) hk;rw[ael]at h1;have h2:4294967296^(k/32)*2^(k%32)=2^k:=by rw[wF,<- ail];congr 1;omega
 rw[h2,h,ado]at h1;grind
theorem Y7{V Bv k:Nat}(hB:0<Bv) :
  (Bv<=2*(V/2^(k+1)%Bv)+V/2^k%2->V/2^k%Bv=2*(V/2^(k+1)%Bv)+V/2^k%2-Bv/\V/2^k/Bv=2*(V/2^(k+1)/Bv)+1) /\
  (2*(V/2^(k+1)%Bv)+V/2^k%2<Bv->V/2^k%Bv=2*(V/2^(k+1)%Bv)+V/2^k%2/\V/2^k/Bv=2*(V/2^(k+1)/Bv)):=by
 have h1:V/2^(k+1)=V/2^k/2:=by rw[ado,aen]
 rw[h1];generalize V/2^k=X;have h2:=adz X 2;have h3:=adz (X/2) Bv;have h4:=adn (X/2) hB;have h5:=adn X (show 0<2 by omega);generalize X/2%Bv=r at *;generalize X/2/Bv=q at *;generalize X%2=b at *;generalize X/2=Y at *;constructor
 ·intro h;have:=xQ (a:=X) (w:=Bv) (q:=2*q+1) (r:=2*r+b-Bv) (by rw[ael,Nat.mul_one,show Bv*(2*q)=2*(Bv*q) by grind];omega) oz;exact⟨this.2,this.1⟩
 ·intro h;have:=xQ (a:=X) (w:=Bv) (q:=2*q) (r:=2*r+b) (by rw[show Bv*(2*q)=2*(Bv*q) by grind];omega) oz;exact⟨this.2,this.1⟩
theorem XH{A l:List Nat}(h:l.length=A.length):wr A 0 l=l:=by
 unfold wr;rw[aib oz];simp
theorem LP{V:Nat}:V/2^aM V=0:=aeb x7
theorem Ky{a:List Nat}(ha:Ws a){k:Nat}(h:k<aM (val a)):k/32<a.length:=by
 rcases ahq (k/32) a.length with h1 |h1
 ·exact h1
 ·exfalso;have h2:=bF a ha;rw [wF] at h2;have h3:val a ≠ 0:=by intro h0; rw [h0] at h; simp [aM] at h
  have h4:=yH h3;have h5:2^(32*a.length)<=2^(aM (val a)-1):=qB oz;omega
theorem ZV(a b:List Nat)(ha:Ws a)(hb:Ws b)(na:Nz a)(iA:val b≠0)(la:a.length<aw)(lb:b.length<aw) :
  FP 362 [ws a,ws b] (.tup [ws (ofNat (val a/val b)),ws (ofNat (val a%val b))]):=by
 have la':=la;have lb':=lb;unfold aw at la lb;obtain⟨V,hV⟩:∃V,V=val a:=⟨_,rfl⟩
 obtain⟨Bv,A7⟩:∃Bv,Bv=val b:=⟨_,rfl⟩
 have F3:0<Bv:=by omega
 have hBl:2*Bv<=4294967296^(b.length+1):=by have:=bF b hb;rw[ado];omega
 have xr:aM V<=32*a.length:=by
  rcases adm (aM V)with h |h
  ·omega
  ·have := Ky ha (k := aM V-1) (by rw[<- hV];omega);omega
 rw[<- hV,<- A7];refine ak func362 ?_;refine gl ?_;refine gs (gh (.tmp rfl) T42 rfl T87 rfl rfl oz (by dsimp only;omega) rfl) ?_;refine gl ?_;refine ga (fw (y:=1) (by unfold az;omega) (by unfold az;omega)) ?_;refine gs (gh (.tmp rfl) T42 rfl T87 rfl rfl oz (by dsimp only;omega) rfl) ?_;refine gc (hV▸ZQ a ha na oz) ?_;refine ga (el oz) ?_;refine iW [0,1] [] (fun(q r:List Nat)(i:Nat)=>[pP 6 (.ms 13 1 0 a.length),pP 7 (.ms 17 1 0 (b.length+1)),pP 8 (i64 ((i:Int)-1))]) (fun q r _=>[pP 13 (.row 1 (q.map u32)),pP 17 (.row 1 (r.map u32))]) (fun q r i=>q.length=a.length/\r.length=b.length+1/\Ws q/\Ws r/\i<=aM V/\val r=V/2^i%Bv/\val q=2^i*(V/2^i/Bv)) (fun _ _ i=>i) (afq a.length 0) (afq (b.length+1) 0) (aM V) ⟨by simp,by simp,mL _,mL _,ahr _,by rw[ze,LP,Nat.zero_mod],by rw[ze,LP,Nat.zero_div,Nat.mul_zero]⟩ ?_ (h2:=(.cons rfl (.of (by rw[aik];rfl)) (.cons rfl (.of (by rw[aik];rfl)) .nil)))
 rintro q r i ⟨rI,xu,wq,wr',hi,hr,hq⟩ K1 J1;refine gC (fun z=>?_) (fun z=>?_) (st2:=(15,0))
 ·have O3 : 1 <= i := by have := z; simp [aa] at this; omega
  obtain⟨k,rfl⟩:∃k,i=k+1:=⟨i-1,by omega⟩
  rw[show((k+1:Nat):Int)-1=(k:Int) by omega];have hka:=Ky ha (k:=k) (by rw[<- hV];omega);have O4:=Yw ha hka;have hwB:=bu ha (k/32);rw[<- hV]at O4;obtain⟨bit,A5⟩:∃bit,bit=V/2^k%2:=⟨_,rfl⟩
  have bn:bit<=1:=by omega
  have ac9:=adn (V/2^(k+1)) F3;have hdw:aj a (k/32)/2^(k%32)<=aj a (k/32):=aeh _ _;refine gs (ls (.tmp rfl) (.const _) oz (GH oz) rfl) ?_;refine gi (ic (n:=k/32) oz (by first |omega |(simp;omega))) ?_;refine gs (zH (.tmp rfl) (.const _) oz KY rfl) ?_;refine gs (eW (.tmp rfl) (.tmp rfl) oz (tU _ (k%32) oz) rfl) ?_;refine gs (jR (.tmp rfl) (.const _) rfl ((Nr (y:=1) oz oz).trans (show _=(bit:Int) by rw[Nat.and_one_is_mod,O4,A5])) rfl) ?_;refine iW [0,1,8,35] [13] (fun(o:List Nat)(c j:Nat)=>[pP 6 (.ms 13 1 0 a.length),pP 7 (.ms 17 1 0 (b.length+1)),pP 9 (u32 c),pP 36 (i64 j)]) (fun o _ _=>[pP 17 (.row 1 (o.map u32))]) (fun o c j=>o.length=b.length+1/\Ws o/\j<=b.length+1/\c<=1/\o.drop j=r.drop j/\val (o.take j)+c*4294967296^j=2*val (r.take j)+bit) (fun _ _ j=>b.length+1-j) r bit 0 ⟨xu,wr',by omega,bn,rfl,by simp[val]⟩ ?_
  rintro o c j ⟨kU,wo,hj,hc,hd,hv⟩ K2 J2;refine gC (fun z=>?_) (fun z=>?_)
  ·have lc : j < b.length + 1 := by have := z; simp [aa] at this; omega
   have e1:aj o j=aj r j:=tW hd;have h1:=bu wr' j;have h3:=ab3 (w:=aj r j) h1 hv;refine gs (br (n:=j) (.tmp rfl) (.tmp rfl) T42 rfl T87 rfl oz (by first |omega |(simp;omega)) rfl) ?_;refine gs (dx (.tmp rfl) rfl (by rw[bP (show j<o.length by omega),e1]) T87 rfl rfl rfl) ?_;refine gs (mr (.tmp rfl) (.const _) oz (J0 (n:=1) oz) rfl) ?_;refine gs (jR (.tmp rfl) (.tmp rfl) rfl ((Eo oz oz).trans (by rw[Qg hc])) rfl) ?_;refine gs (br (n:=j) (.tmp rfl) (.tmp rfl) T42 rfl T87 rfl oz (by first |omega |(simp;omega)) rfl) ?_;refine gs (dx (.tmp rfl) rfl (by rw[bP (show j<o.length by omega),e1]) T87 rfl rfl rfl) ?_;refine gs (eW (.tmp rfl) (.const _) oz (tU _ 31 oz) rfl) ?_;refine gs (br (n:=j) (.tmp rfl) (.tmp rfl) T42 rfl T87 rfl oz (by first |omega |(simp;omega)) rfl) ?_;refine gs (dc (.tmp rfl) rfl (bP (i:=j) oz) rfl (.tmp rfl) rfl rfl T87 rfl rfl) ?_;refine gD ?_;refine ga (cO oz) ?_;exact ia J2 (o.set j (aj r j*2^1%4294967296+c)) (aj r j/2^31) (j+1) ⟨by simp[kU],gK wo oz,by omega,by omega,vo hd,by rw[mf oz,cU];rw[show 4294967296^(j+1)=4294967296^j*4294967296 from ado _ _];exact h3⟩ (hw:=Wk.of aY (.cons rfl (.of (by rw[ain];rfl)) (.k .nil)))
  have lc:j=b.length+1:=by have:b.length+1<=j:=(by have:=z;simp[aa]at this;omega);omega
  subst lc;rw[eO (l:=r) oz,eO (l:=o) oz,hr]at hv
  have FV:c=0:=by
   cases c with
   |zero=>rfl
   |succ c=>rw[adp]at hv;omega
  subst FV;rw[Nat.zero_mul,aep]at hv;have F4:o.take (b.length+1)=o:=ah1 oz;obtain⟨d1,d2⟩:=Y7 (V:=V) (k:=k) F3;rw[<- A5]at d1 d2;have O5:=Tm 17 o b (b.length+1) wo hb oz;rw[F4,<- A7,hv]at O5;have A8:k/32<q.length:=by omega
  obtain⟨w1,w2⟩:=SY wq A8 hq;have w3:=abp wq A8 hq;refine gt (bq O5 (cV rfl rfl) bU rfl rfl) ?_;refine gC (fun t58=>?_) (fun t58=>?_)
  ·have hge:Bv<=2*(V/2^(k+1)%Bv)+bit:=by
    rcases ahq (2*(V/2^(k+1)%Bv)+bit) Bv with h |h
    ·rw[ait h]at t58;cases t58
    ·exact h
   obtain⟨d3,d4⟩:=d1 hge;have O6:=N5 o b (b.length+1) wo hb oz (by unfold aw;omega) (by rw[F4,<- A7,hv];exact hge);rw[F4,<- A7,hv,<- d3,XH (by rw[fh,kU])]at O6;have jI:V/2^k%Bv<4294967296^(b.length+1):=by have:=adn (V/2^k) F3;omega
   refine gt (bq (Con.rk 17 rfl rfl O6) (cV rfl rfl) bU rfl rfl) ?_;refine gs (ls (.tmp rfl) (.const _) oz (GH oz) rfl) ?_;refine gs (br (n:=k/32) (.tmp rfl) (.tmp rfl) T42 rfl T87 rfl oz oz rfl) ?_;refine gs (dx (.tmp rfl) rfl (bP (i:=k/32) A8) T87 rfl rfl rfl) ?_;refine gs (zH (.tmp rfl) (.const _) oz KY rfl) ?_;refine gs (mr (.const _) (.tmp rfl) oz ((J0 (x:=1) (n:=k%32) oz).trans (show _=((2^(k%32):Nat):Int) by rw[Nat.one_mul,ad5 (aic (Nat.le_add_left _ _) w2)])) rfl) ?_;refine gs (jR (.tmp rfl) (.tmp rfl) rfl ((Eo (bu wq _) (aic (Nat.le_add_left _ _) w2)).trans (by rw[w1])) rfl) ?_;refine gs (br (n:=k/32) (.tmp rfl) (.tmp rfl) T42 rfl T87 rfl oz oz rfl) ?_;refine gs (dc (.tmp rfl) rfl (bP (i:=k/32) A8) rfl (.tmp rfl) rfl rfl T87 rfl rfl) ?_;refine gD ?_;refine ga (el oz) ?_;exact ia J1 (q.set (k/32) (aj q (k/32)+2^(k%32))) (aS (b.length+1) (V/2^k%Bv)) k ⟨by simp[rI],fh _ _,gK wq w2,ku _ _,by omega,mi _ _ jI,by rw[w3,d4]⟩ (hw:=Wk.of aY (.cons rfl (.of (by first |rfl |(rw[ain];rfl))) (.k .nil)))
  have hge:2*(V/2^(k+1)%Bv)+bit<Bv:=by
   rcases ahq (2*(V/2^(k+1)%Bv)+bit) Bv with h |h
   ·exact h
   ·rw[ais oz]at t58;split at t58 <;> cases t58
  obtain⟨d3,d4⟩:=d2 hge;refine ga (el oz) ?_;exact ia J1 q o k ⟨rI,kU,wq,wo,by omega,by rw[hv,d3],by rw[hq,d4,ado,ad0]⟩ (hw:=Wk.of aY (.cons rfl (.of (by first |rfl |(rw[ain];rfl))) (.k .nil)))
 have O3:i=0:=by have:=z;simp[aa]at this;omega
 subst O3;refine gW ((Wk.freeze (k:=13) rfl).trans<|(Wk.freeze (k:=17) rfl).trans<|Wk.of (sl:=[pP 6 (ws q),pP 7 (ws r)]) (hp:=[]) (.cons rfl (.of (by rw[show AV.fz 13 1 (q.map u32) (.ms 13 1 0 a.length)=ws q from cf (by simp[rI])];rfl)) (.cons rfl (.of (cf (by simp[xu]))) .nil)) .nil) ?_;refine gc (sZ q wq oz) ?_;refine gc (sZ r wr' (by unfold aw;omega)) ?_;refine bZ ?_;rw[hr,hq];simp[]
def iV(L:Nat)(A:List Nat)(n:Nat):Prop:=Ws A/\n<=A.length/\A.length<=L/\n=(ofNat (val (A.take n))).length
theorem Xd(v:Nat):ofNat v=aS (ofNat v).length v:=by
 have h:=w9 (ofNat v) (cT _)
 rwa [bI]at h
theorem kc{L:Nat}{A:List Nat}{n v:Nat}(h:iV L A n)(hv:v<=val (A.take n)) :
  iV L (wr A 0 (aS n v)) (ofNat v).length/\val ((wr A 0 (aS n v)).take (ofNat v).length)=v/\val ((wr A 0 (aS n v)).take n)=v:=by
 obtain⟨hw,hn,hl,hN⟩:=h;have hlt:=p7 hw n;have lV:v<4294967296^n:=by omega
 have bA:(ofNat v).length<=n:=ft lV
 have ht:(wr A 0 (aS n v)).take n=aS n v:=by
  unfold wr;rw[List.take_zero,nil_append,aff (by rw[fh];omega),ah1 (by rw[fh];omega)]
 have O7:(wr A 0 (aS n v)).take (ofNat v).length=ofNat v:=by
  have h1:((wr A 0 (aS n v)).take n).take (ofNat v).length=(wr A 0 (aS n v)).take (ofNat v).length:=by rw[afr,adi bA]
  rw[<- h1,ht,BD _ _ _ bA,<- Xd]
 have ch:(wr A 0 (aS n v)).length=A.length:=nk (by rw[fh];omega);refine⟨⟨uc hw (ku _ _),by omega,by omega,by rw[O7,bI]⟩,by rw[O7,bI],by rw[ht,mi _ _ lV]⟩
theorem iP{L:Nat}{A:List Nat}{n:Nat}(h:iV L A n)(hx:0<val (A.take n)):0<n/\val (A.take n)%2=aj A 0%2:=by
 have hn:0<n:=by
  rcases adm n with h0 |h0
  ·subst h0;simp[val]at hx
  ·exact h0
 refine⟨hn,?_⟩;have:=wL (A.take n) 0;rw[aim,rh hn]at this;omega
theorem Re{L:Nat}{A:List Nat}{n:Nat}(h:iV L A n):A.take n=ofNat (val (A.take n)):=by
 obtain⟨hw,hn,hl,hN⟩:=h;have h1:=JF (gO hw n);rw[<- hN,afr,Nat.min_self]at h1;exact h1
theorem N3{L:Nat}{A:List Nat}{n:Nat}(h:iV L A n):n=0↔val (A.take n)=0:=by
 constructor
 ·intro h0;subst h0;rfl
 ·intro h0;have h1:=h.2.2.2;rw[h0]at h1;exact h1
theorem Ss{x y:Nat}(hx:x%2=0)(hy:y%2=0):aed x y=2*aed (x/2) (y/2):=by
 rw[<- Nat.gcd_mul_left,Nat.mul_div_cancel' (Nat.dvd_of_mod_eq_zero hx),Nat.mul_div_cancel' (Nat.dvd_of_mod_eq_zero hy)]
theorem H9{x y:Nat}(hx:x%2=0)(hy:y%2=1):aed (x/2) y=aed x y:=by
 have h1:x=2*(x/2):=by omega
 have h2:Nat.Coprime 2 y:=by
  rw[Nat.Coprime,Nat.gcd_rec,hy];rfl
 conv=>rhs;rw[h1]
 exact(Nat.Coprime.gcd_mul_left_cancel _ h2).symm
theorem JJ{x y:Nat}(h:y<=x):aed (x-y) y=aed x y:=Nat.gcd_sub_self_left h
theorem Oc{t L g V:Nat}(hg:0<g)(h:2^t*g<=V)(hV:V<4294967296^L):t<32*L:=by
 rw[wF]at hV;have h1:=ahu (2^t) (show 1<=g from hg);rcases ahq t (32*L)with h2 |h2
 ·exact h2
 ·have:=qB h2;omega
theorem Jd(A D:List Nat)(n p:Nat)(hA:Ws A)(hD:Ws D)(hn:n<=A.length)(hp:p<=D.length)(la:A.length<=aw)(bA:val (D.take p)<=val (A.take n)) :
  Con prog 374 [.ms 901 1 0 n,.ms 902 1 0 p] [pP 902 (.row 1 (D.map u32)),pP 901 (.row 1 (A.map u32))] (.tup [])
   [pP 902 (.row 1 (D.map u32)),pP 901 (.row 1 ((wr A 0 (aS n (val (A.take n)-val (D.take p)))).map u32))]:=by
 have h1:=Con.rk 901 rfl rfl (N5 A (D.take p) n hA (gO hD p) hn la bA);refine Con.borrow (args:=[.ms 901 1 0 n,ws (D.take p)]) 902 1 (D.map u32) rfl rfl rfl ?_ rfl ?_ h1
 ·intro j x' hj
  match j,hj with
  |0,hj=>cases hj;exact .inl rfl
  |1,hj=>cases hj;exact .inr ⟨0,p,rfl,by simpa using hp,by rw[tB];rfl⟩
 ·intro k' x h;obtain⟨_,h⟩:=gY h;cases h;exact M3 _
theorem zi{A:List Nat}(hA:Ws A){i:Nat}:nG .and .u32 (aj A i:Int) 1=((aj A i%2:Nat):Int) :=
 (Nr (y:=1) (bu hA i) oz).trans (by rw[Nat.and_one_is_mod])
theorem PP(a b:List Nat)(ha:Ws a)(hb:Ws b)(na:Nz a)(nb:Nz b)(la:a.length+b.length<aw):FP 305 [ws a,ws b] (ws (ofNat (aed (val a) (val b)))):=by
 have la':=la;unfold aw at la;have ea:=sE ha na;have eb:=sE hb nb;obtain⟨L,hL⟩:∃L,L=a.length+b.length:=⟨_,rfl⟩
 obtain⟨G,hG⟩:∃G,G=aed (val a) (val b):=⟨_,rfl⟩
 rw[<- hG];refine ak func305 ?_;refine gt (bq (Dy 901 rfl a ha (by unfold aw;omega)) (iN rfl) bU rfl rfl) ?_;refine gt (bq (Dy 902 rfl b hb (by unfold aw;omega)) (iN rfl) bU rfl rfl) ?_ (2,0);refine gW (Wk.of (sl:=[pP 0 (.ms 901 1 0 a.length),pP 1 (.ms 902 1 0 b.length)]) (hp:=[pP 901 (.row 1 (a.map u32)),pP 902 (.row 1 (b.map u32))]) (.cons rfl (.of (by rw[ea])) (.cons rfl (.of (by rw[eb])) .nil)) (.k (.k .nil))) ?_;refine gC (fun z=>?_) (fun z=>?_) (st1:=(3,0))
 ·have h0 : a=[] := afp.1 (by simpa[aa]using z);refine gW ((Wk.freeze (k:=902) rfl).trans<|Wk.of (sl:=[pP 1 (ws b)]) (hp:=[]) (.cons rfl (.of (cf (by simp))) .nil) .nil) ?_;refine ah ?_;rw[hG,h0];simp[val,eb]
 have h0:a≠[]:=fun h=>by rw[h]at z;simp[aa]at z
 refine gC (fun z=>?_) (fun z=>?_) (st1:=(5,0))
 ·have h1 : b=[] := afp.1 (by simpa[aa]using z);refine gW ((Wk.freeze (k:=901) rfl).trans<|Wk.of (sl:=[pP 0 (ws a)]) (hp:=[]) (.cons rfl (.of (cf (by simp))) .nil) .nil) ?_;refine ah ?_;rw[hG,h1];simp[val,ea]
 have h1:b≠[]:=fun h=>by rw[h]at z;simp[aa]at z
 have va:=qJ na h0;have vb:=qJ nb h1;have hGp:0<G:=by rw[hG];exact Nat.gcd_pos_of_pos_left _ va
 have O8:G<=val a:=by rw[hG];exact Nat.gcd_le_left _ va
 have vla:=bF a ha;refine Ng [] [] (fun(A D:List Nat)(n p t:Nat)=>[pP 0 (.ms 901 1 0 n),pP 1 (.ms 902 1 0 p),pP 5 (i64 t)]) (fun A D _ _ _=>[pP 901 (.row 1 (A.map u32)),pP 902 (.row 1 (D.map u32))]) (fun A D n p t=>iV L A n/\iV L D p/\0<val (A.take n)/\0<val (D.take p)/\G=2^t*aed (val (A.take n)) (val (D.take p))) (fun A _ n _ _=>val (A.take n)) a b a.length b.length 0 ⟨⟨ha,ahr _,by omega,by rw[ahw,ea]⟩,⟨hb,ahr _,by omega,by rw[ahw,eb]⟩,by rw[ahw];exact va,by rw[ahw];exact vb,by rw[ahw,ahw,hG];simp⟩ ?_
 rintro A D n p t ⟨gA,gD,pA,pD,hg⟩ K1 J1;refine gs (br (n:=0) (.tmp rfl) (.const _) T42 rfl T87 rfl oz (by have:=(iP gA pA).1;omega) rfl) ?_;refine gs (dx (.tmp rfl) rfl (bP (i:=0) (by have:=(iP gA pA).1;have:=gA.2.1;omega)) T87 rfl rfl rfl) ?_;refine gs (jR (.tmp rfl) (.const _) rfl (zi gA.1) rfl) ?_;refine gs (fT rfl rfl rfl (fun h=>br (n:=0) (.opt rfl (o1 h)) (.const _) T42 rfl T87 rfl oz (by have:=(iP gD pD).1;omega) rfl)) ?_;refine gs (fT rfl rfl rfl (fun h=>dx (.opt rfl (o1 h)) rfl (bP (i:=0) (by have:=(iP gD pD).1;have:=gD.2.1;omega)) T87 rfl rfl rfl)) ?_;refine gs (fT rfl rfl rfl (fun h=>jR (.opt rfl (o1 h)) (.const _) rfl (zi gD.1) rfl)) ?_;refine gC (fun t29=>?_) (fun t29=>?_)
 ·have cZ:aj A 0%2=0/\aj D 0%2=0:=by
   have:=t29;simp[aa]at this;omega
  have xA:val (A.take n)%2=0:=by rw[(iP gA pA).2];exact cZ.1
  have xD:val (D.take p)%2=0:=by rw[(iP gD pD).2];exact cZ.2
  obtain⟨k1,k2,k3⟩:=kc gA (v:=val (A.take n)/2) oz;obtain⟨m1,m2,m3⟩:=kc gD (v:=val (D.take p)/2) oz;have ht:t<32*a.length:=Oc (Nat.gcd_pos_of_pos_left _ pA) (by rw[<- hg];exact O8) vla;refine gt (bq (Con.rekeyR 901 rfl (z5 A n gA.1 gA.2.1 (by have:=gA.2.2.1;unfold aw;omega))) (iN rfl) bU rfl rfl) ?_;refine gt (bq (Con.rekeyR 902 rfl (z5 D p gD.1 gD.2.1 (by have:=gD.2.2.1;unfold aw;omega))) (iN rfl) bU rfl rfl) ?_;refine ga (show _=((t+1:Nat):Int) by rw[cO oz];omega) ?_;exact He J1 (wr A 0 (aS n (val (A.take n)/2))) (wr D 0 (aS p (val (D.take p)/2))) ((ofNat (val (A.take n)/2)).length) ((ofNat (val (D.take p)/2)).length) (t+1) ⟨k1,m1,by rw[k2];omega,by rw[m2];omega,by rw[k2,m2,hg,Ss xA xD,ado];grind⟩ (by rw[k2];omega)
 have hod:val (A.take n)%2=1\/val (D.take p)%2=1:=by
  rw[(iP gA pA).2,(iP gD pD).2];have:=t29;simp[aa]at this;omega
 refine Xv [5] [] (fun(A1 D1:List Nat)(n1 p1:Nat)=>[pP 0 (.ms 901 1 0 n1),pP 1 (.ms 902 1 0 p1)]) (fun A1 D1 _ _=>[pP 901 (.row 1 (A1.map u32)),pP 902 (.row 1 (D1.map u32))]) (fun A1 D1 n1 p1=>iV L A1 n1/\iV L D1 p1/\0<val (D1.take p1)/\(val (A1.take n1)%2=1\/val (D1.take p1)%2=1)/\G=2^t*aed (val (A1.take n1)) (val (D1.take p1))) (fun A1 D1 n1 p1=>val (A1.take n1)+val (D1.take p1)) A D n p ⟨gA,gD,pD,hod,hg⟩ ?_
 rintro A1 D1 n1 p1 ⟨gA1,gD1,pD1,acx,oa⟩ K2 J2;refine gC (fun t38=>?_) (fun t38=>?_) (st2:=(19,0))
 ·have pA1:0<val (A1.take n1):=by
   have h3:n1≠0:=by have:=t38;simp[aa]at this;omega
   exact Nat.pos_of_ne_zero (fun h=>h3 ((N3 gA1).2 h))
  refine fH [5] [902] (fun(A2:List Nat)(n2:Nat)=>[pP 0 (.ms 901 1 0 n2),pP 1 (.ms 902 1 0 p1)]) (fun A2 _=>[pP 901 (.row 1 (A2.map u32))]) (fun A2 n2=>iV L A2 n2/\0<val (A2.take n2)/\val (A2.take n2)<=val (A1.take n1)/\(val (A2.take n2)%2=1\/val (D1.take p1)%2=1)/\aed (val (A2.take n2)) (val (D1.take p1))=aed (val (A1.take n1)) (val (D1.take p1))) (fun A2 n2=>val (A2.take n2)) A1 n1 ⟨gA1,pA1,ahr _,acx,rfl⟩ ?_
  rintro A2 n2 ⟨gA2,pA2,lA2,ada,rJ⟩ K3 J3;refine gs (br (n:=0) (.tmp rfl) (.const _) T42 rfl T87 rfl oz (by have:=(iP gA2 pA2).1;omega) rfl) ?_;refine gs (dx (.tmp rfl) rfl (bP (i:=0) (by have:=(iP gA2 pA2).1;have:=gA2.2.1;omega)) T87 rfl rfl rfl) ?_;refine gs (jR (.tmp rfl) (.const _) rfl (zi gA2.1) rfl) ?_;refine gC (fun t43=>?_) (fun t43=>?_)
  ·have xA2:val (A2.take n2)%2=0:=by
    rw[(iP gA2 pA2).2];have:=t43;simp[aa]at this;omega
   obtain⟨k1,k2,k3⟩:=kc gA2 (v:=val (A2.take n2)/2) oz;refine gt (bq (Con.rekeyR 901 rfl (z5 A2 n2 gA2.1 gA2.2.1 (by have:=gA2.2.2.1;unfold aw;omega))) (iN rfl) bU rfl rfl) ?_;exact fE J3 (wr A2 0 (aS n2 (val (A2.take n2)/2))) ((ofNat (val (A2.take n2)/2)).length) ⟨k1,by rw[k2];omega,by rw[k2];omega,.inr oz,by rw[k2,H9 xA2 oz,rJ]⟩ (by rw[k2];omega)
  have xA2:val (A2.take n2)%2=1:=by
   rw[(iP gA2 pA2).2];have:=t43;simp[aa]at this;omega
  refine fH [5] [901] (fun(D2:List Nat)(p2:Nat)=>[pP 0 (.ms 901 1 0 n2),pP 1 (.ms 902 1 0 p2)]) (fun D2 _=>[pP 902 (.row 1 (D2.map u32))]) (fun D2 p2=>iV L D2 p2/\0<val (D2.take p2)/\val (D2.take p2)<=val (D1.take p1)/\aed (val (A2.take n2)) (val (D2.take p2))=aed (val (A2.take n2)) (val (D1.take p1))) (fun D2 p2=>val (D2.take p2)) D1 p1 ⟨gD1,pD1,ahr _,rfl⟩ ?_;rintro D2 p2 ⟨gD2,pD2,lD2,F5⟩ K4 J4;refine gs (br (n:=0) (.tmp rfl) (.const _) T42 rfl T87 rfl oz (by have:=(iP gD2 pD2).1;omega) rfl) ?_;refine gs (dx (.tmp rfl) rfl (bP (i:=0) (by have:=(iP gD2 pD2).1;have:=gD2.2.1;omega)) T87 rfl rfl rfl) ?_;refine gs (jR (.tmp rfl) (.const _) rfl (zi gD2.1) rfl) ?_;refine gC (fun t50=>?_) (fun t50=>?_)
  ·have xD2:val (D2.take p2)%2=0:=by
    rw[(iP gD2 pD2).2];have:=t50;simp[aa]at this;omega
   obtain⟨k1,k2,k3⟩:=kc gD2 (v:=val (D2.take p2)/2) oz;refine gt (bq (Con.rekeyR 902 rfl (z5 D2 p2 gD2.1 gD2.2.1 (by have:=gD2.2.2.1;unfold aw;omega))) (iN rfl) bU rfl rfl) ?_;exact fE J4 (wr D2 0 (aS p2 (val (D2.take p2)/2))) ((ofNat (val (D2.take p2)/2)).length) ⟨k1,by rw[k2];omega,by rw[k2];omega,by rw[k2,adj,H9 xD2 xA2,adj,F5]⟩ (by rw[k2];omega)
  have xD2:val (D2.take p2)%2=1:=by
   rw[(iP gD2 pD2).2];have:=t50;simp[aa]at this;omega
  refine gt (bq (To 901 902 oz A2 D2 n2 p2 gA2.1 gD2.1 gA2.2.1 gD2.2.1) (cV rfl rfl) bU rfl rfl) ?_;refine gC (fun t56=>?_) (fun t56=>?_) (st1:=(17,0)) (st2:=(77777,0))
  ·have hlt:val (A2.take n2)<val (D2.take p2):=by
    rcases ahq (val (A2.take n2)) (val (D2.take p2))with h |h
    ·exact h
    ·rw[ais oz]at t56;split at t56 <;> cases t56
   refine gW (Wk.o (sl:=[pP 0 (.ms 902 1 0 p2),pP 1 (.ms 901 1 0 n2),pP 5 (i64 t)]) (hp:=[pP 901 (.row 1 (A2.map u32)),pP 902 (.row 1 (D2.map u32))])) ?_ (17,0);refine gW (Wk.rk (k:=901) (d:=903) rfl rfl) ?_ (17,0);refine gW (Wk.rk (k:=902) (d:=901) rfl rfl) ?_ (17,0);refine gW (Wk.rk (k:=903) (d:=902) rfl rfl) ?_ (17,0);refine gW (Wk.of (sl:=[pP 0 (.ms 901 1 0 p2),pP 1 (.ms 902 1 0 n2),pP 5 (i64 t)]) (hp:=[pP 901 (.row 1 (D2.map u32)),pP 902 (.row 1 (A2.map u32))]) (.cons rfl (Sub.refl _) (.cons rfl (Sub.refl _) (.cons rfl (Sub.refl _) .nil))) (.k (.k .nil))) ?_ (17,0);obtain⟨A3,D3,n3,p3,gA3,gD3,xA3,xD3,xw,F6,hs3,e1,e2,e3,e4⟩:∃A3 D3 n3 p3,iV L A3 n3/\iV L D3 p3/\val (A3.take n3)%2=1/\val (D3.take p3)%2=1/\val (D3.take p3)<=val (A3.take n3)/\aed (val (A3.take n3)) (val (D3.take p3))=aed (val (A2.take n2)) (val (D2.take p2))/\val (A3.take n3)+val (D3.take p3)=val (A2.take n2)+val (D2.take p2)/\A3=D2/\n3=p2/\D3=A2/\p3=n2:=⟨D2,A2,p2,n2,gD2,gA2,xD2,xA2,by omega,adj _ _,adk _ _,rfl,rfl,rfl,rfl⟩
   rw[<- e1,<- e2,<- e3,<- e4];refine go ?_;refine gt (bq (Jd A3 D3 n3 p3 gA3.1 gD3.1 gA3.2.1 gD3.2.1 (by have:=gA3.2.2.1;unfold aw;omega) xw) (cV rfl rfl) bU rfl rfl) ?_;refine gt (bq (Con.rekeyR 901 rfl (EP (wr A3 0 (aS n3 (val (A3.take n3)-val (D3.take p3)))) n3 (uc gA3.1 (ku _ _)) (by rw[nk (by rw[fh];have:=gA3.2.1;omega)];exact gA3.2.1) (by rw[nk (by rw[fh];have:=gA3.2.1;omega)];have:=gA3.2.2.1;unfold aw;omega))) (iN rfl) bU rfl rfl) ?_;exact Ji J2 (wr A3 0 (aS n3 (val (A3.take n3)-val (D3.take p3)))) D3 ((ofNat (val (A3.take n3)-val (D3.take p3))).length) p3 ⟨(kc gA3 oz).1,gD3,by omega,.inr xD3,by rw[(kc gA3 (v:=val (A3.take n3)-val (D3.take p3)) oz).2.1,JJ xw,F6,F5,rJ,oa]⟩ (by rw[(kc gA3 (v:=val (A3.take n3)-val (D3.take p3)) oz).2.1];omega) (hw:=Wk.of (.cons rfl (.of (by rw[(kc gA3 (v:=val (A3.take n3)-val (D3.take p3)) oz).2.2])) (.k (.k .nil))) (.k (.k .nil)))
  have hlt:val (D2.take p2)<=val (A2.take n2):=by
   rcases ahq (val (A2.take n2)) (val (D2.take p2))with h |h
   ·rw[ait h]at t56;cases t56
   ·exact h
  refine gW (Wk.o (sl:=[pP 0 (.ms 901 1 0 n2),pP 1 (.ms 902 1 0 p2),pP 5 (i64 t)]) (hp:=[pP 901 (.row 1 (A2.map u32)),pP 902 (.row 1 (D2.map u32))])) ?_ (77777,0);obtain⟨A3,D3,n3,p3,gA3,gD3,xA3,xD3,xw,F6,hs3,e1,e2,e3,e4⟩:∃A3 D3 n3 p3,iV L A3 n3/\iV L D3 p3/\val (A3.take n3)%2=1/\val (D3.take p3)%2=1/\val (D3.take p3)<=val (A3.take n3)/\aed (val (A3.take n3)) (val (D3.take p3))=aed (val (A2.take n2)) (val (D2.take p2))/\val (A3.take n3)+val (D3.take p3)=val (A2.take n2)+val (D2.take p2)/\A3=A2/\n3=n2/\D3=D2/\p3=p2:=⟨A2,D2,n2,p2,gA2,gD2,xA2,xD2,hlt,rfl,rfl,rfl,rfl,rfl,rfl⟩
  rw[<- e1,<- e2,<- e3,<- e4];obtain⟨k1,k2,k3⟩:=kc gA3 (v:=val (A3.take n3)-val (D3.take p3)) oz;refine go ?_;refine gt (bq (Jd A3 D3 n3 p3 gA3.1 gD3.1 gA3.2.1 gD3.2.1 (by have:=gA3.2.2.1;unfold aw;omega) xw) (cV rfl rfl) bU rfl rfl) ?_;refine gt (bq (Con.rekeyR 901 rfl (EP (wr A3 0 (aS n3 (val (A3.take n3)-val (D3.take p3)))) n3 (uc gA3.1 (ku _ _)) (by rw[nk (by rw[fh];have:=gA3.2.1;omega)];exact gA3.2.1) (by rw[nk (by rw[fh];have:=gA3.2.1;omega)];have:=gA3.2.2.1;unfold aw;omega))) (iN rfl) bU rfl rfl) ?_;exact Ji J2 (wr A3 0 (aS n3 (val (A3.take n3)-val (D3.take p3)))) D3 ((ofNat (val (A3.take n3)-val (D3.take p3))).length) p3 ⟨(kc gA3 oz).1,gD3,by omega,.inr xD3,by rw[(kc gA3 (v:=val (A3.take n3)-val (D3.take p3)) oz).2.1,JJ xw,F6,F5,rJ,oa]⟩ (by rw[(kc gA3 (v:=val (A3.take n3)-val (D3.take p3)) oz).2.1];omega) (hw:=Wk.of (.cons rfl (.of (by rw[(kc gA3 (v:=val (A3.take n3)-val (D3.take p3)) oz).2.2])) (.k (.k .nil))) (.k (.k .nil)))
 have zA1:val (A1.take n1)=0:=by
  have h3:n1=0:=by have:=t38;simp[aa]at this;omega
  exact(N3 gA1).1 h3
 rw[zA1,Nat.gcd_zero_left]at oa;refine gW ((Wk.freeze (k:=902) rfl).trans<|Wk.of (sl:=[pP 1 (ws (ofNat (val (D1.take p1)))),pP 5 (i64 t)]) (hp:=[]) (.cons rfl (.of (by rw[qD (by rw[ahk];have:=gD1.2.1;omega),tB,<- Re gD1])) (.k .nil)) .nil) ?_;refine aL [64] [] (fun(i:Nat)=>[pP 1 (ws (ofNat (2^i*val (D1.take p1)))),pP 65 (i64 i)]) (fun _=>[]) (fun i=>i<=t) (fun i=>t-i) 0 (ahv _) ?_ (h1:=(.cons rfl (.of (by rw[Nat.pow_zero,Nat.one_mul])) (.k .nil)));rintro i hit K5 J5;refine gC (fun z=>?_) (fun z=>?_)
 ·have af : i < t := by simpa [aa] using z
  have h3:2^i*val (D1.take p1)<=G:=by rw[oa];exact ah0 _ (qB oz)
  have h4:(ofNat (2^i*val (D1.take p1))).length<=a.length:=ft oz;have ht:t<32*a.length:=Oc pD1 (by rw[<- oa];exact O8) vla;refine gc (BT _ _ (cT _) (cT _) (by unfold aw;omega) (by unfold aw;omega)) ?_;refine ga (cO oz) ?_;exact aE J5 (i+1) af (hw:=Wk.of (.cons rfl (.of (by rw[bI,ado];congr 2;grind)) (.k (.k .nil))) .nil)
 have af:i=t:=by have:t<=i:=(by simpa[aa]using z);omega
 subst af;refine ah ?_;rw[oa]
theorem Kj(a b:Wh)(ha:a.ok)(hb:b.ok)(la:a.mag.length+b.mag.length<aw):FP 207 [a.av,b.av] (zA (af1 a.z b.z)):=by
 have h1:=Wh.m_le (w:=a);have h2:=Wh.m_le (w:=b);have h3:af1 a.z b.z=aed (val a.m) (val b.m):=by rw[af1,Wh.abs,Wh.abs]
 have h4:(ofNat (aed (val a.m) (val b.m))).length<=a.m.length+b.m.length:=by
  rcases adm (val a.m)with h |h
  ·rw[h,Nat.gcd_zero_left,Wh.ofNat_m hb];omega
  ·exact ah8 (ft (aic (Nat.gcd_le_left _ h) (bF _ (Wh.ws ha)))) oz
 refine ak func207 ?_;refine gc (lP a ha) ?_;refine gc (lP b hb) ?_;refine gc (PP a.m b.m (Wh.ws ha) (Wh.ws hb) a.nz b.nz oz) ?_;refine gc (kK false _ (cT _) oz) ?_;refine gD ?_;refine ah ?_;rw[bI,h3];rfl
theorem Z2(a b:Wh)(ha:a.ok)(hb:b.ok)(la:a.mag.length+1<aw)(lb:b.mag.length<aw)(h0:b.z≠0):FP 281 [a.av,b.av] (.tup [zA (a.z/b.z),zA (a.z%b.z),i64 0]):=by
 have f0:=Wh.m_le (w:=a);have jJ:=Wh.m_le (w:=b);have bn:val b.m≠0:=by have:=Wh.abs (w:=b);omega
 have pM:(ofNat (val a.m/val b.m)).length<=a.m.length:=ft (aic (aeh _ _) (bF _ (Wh.ws ha)));have xg:=adn (val a.m) (show 0<val b.m by omega);have pX:(ofNat (val a.m%val b.m)).length<=b.m.length:=ft (Nat.lt_trans xg (bF _ (Wh.ws hb)));have hl3:(ofNat (val a.m/val b.m+1)).length<=a.m.length+1:=ft (by have h7:=aic (aeh (val a.m) (val b.m)) (bF _ (Wh.ws ha));rw[ado];generalize val a.m/val b.m=m at *;omega);have hl4:(ofNat (val b.m-val a.m%val b.m)).length<=b.m.length:=ft (by have:=bF _ (Wh.ws hb);omega);have ut:val [1]=1:=rfl;refine ak func281 ?_;refine gc (ES b hb) ?_;refine gC (fun z=>?_) (fun z=>?_) (st1:=(2,0));exact aiz (af4.1 (by simpa[aa]using z)) h0;refine gc (lP a ha) ?_;refine gc (lP b hb) ?_;refine gc (ZV a.m b.m (Wh.ws ha) (Wh.ws hb) a.nz bn oz oz) ?_;refine gD ?_;refine gc (jr a ha) ?_;refine cm ?_;refine gC (fun z=>?_) (fun z=>?_)
 ·have h1:a.n = true /\ 0 < val a.m % val b.m:=AH.1 z;obtain ⟨e1,e2⟩:=HZ bn h1.1 h1.2;refine gc (BT (ofNat (val a.m / val b.m)) [1] (cT _) (vn oz) oz (by unfold aw; simp)) ?_;refine gc (lP b hb) ?_;refine gc (DV b.m (ofNat (val a.m % val b.m)) (Wh.ws hb) (cT _) oz (by rw [bI]; omega)) ?_;refine gD ?_ (6,0);refine gW (Wk.of (sl:=[pP 2 (.ptr 2 0),pP 3 (.ptr 3 0),pP 4 (.ptr 4 0),pP 5 (.ptr 5 0),pP 7 (ws (ofNat (val a.m / val b.m + 1))),pP 8 (ws (ofNat (val b.m - val a.m % val b.m)))]) (hp:=[pP 2 (.box [bl a.neg,ws a.mag]),pP 3 (.box [bl b.neg,ws b.mag]),pP 4 (.box [.v (.bool false),nS]),pP 5 (.box [.v (.bool false),nS])]) (.k (.k (.k (.k (.cons rfl (.of (by rw [bI,ut])) (.cons rfl (.of (by rw [bI])) .nil)))))) (.k (.k (.k (.k .nil))))) ?_
  refine gc (jr a ha) ?_;refine gc (jr b hb) ?_;refine gc (by apply kK _ _ (cT _) oz) ?_;refine gc (by apply kK _ _ (cT _) oz) ?_;refine gD ?_;refine gR ?_;exact uV (by rw[bI,bI,e1,show sgn false _=_ from e2];rfl)
 have h1:¬(a.n=true/\0<val a.m%val b.m):=fun h=>agn.1 z (AH.2 h)
 obtain⟨e1,e2⟩:=Kk bn h1;refine gc (jr a ha) ?_;refine gc (jr b hb) ?_;refine gc (by apply kK _ _ (cT _) oz) ?_;refine gc (by apply kK _ _ (cT _) oz) ?_;refine gD ?_;refine gR ?_;exact uV (by rw[bI,bI,e1,show sgn false _=_ from e2];rfl)
theorem v6{x:Int}(hx:Zs x):FP 73 [zA x] (i64 x.sign):=by
 have h:=Fa (ofInt x) hx.ok;rw[du]at h;exact h
theorem yI{x:Int}(hx:Zs x):FP 118 [zA x] (zA (-x)):=by
 have h:=Sy (ofInt x) hx.ok (by have:=hx.len;unfold aw;omega);rw[du]at h;exact h
theorem Iu{x y:Int}(hx:Zs x)(hy:Zs y):FP 204 [zA x,zA y] (i64 (ig x y)):=by
 have h:=aa6 (ofInt x) (ofInt y) hx.ok hy.ok;rw[du,du]at h;exact h
theorem abj{x y:Int}(hx:Zs x)(hy:Zs y):FP 116 [zA x,zA y] (zA (x+y)):=by
 have h:=Zh (ofInt x) (ofInt y) hx.ok hy.ok (by have:=hx.len;unfold aw;omega) (by have:=hy.len;unfold aw;omega);rw[du,du]at h;exact h
theorem nQ{x y:Int}(hx:Zs x)(hy:Zs y):FP 117 [zA x,zA y] (zA (x*y)):=by
 have h:=Yb (ofInt x) (ofInt y) hx.ok hy.ok (by have:=hx.len;have:=hy.len;unfold aw;omega);rw[du,du]at h;exact h
theorem Yq{x y:Int}(hx:Zs x)(hy:Zs y):FP 119 [zA x,zA y] (zA (af1 x y)):=by
 have h:=Kg (ofInt x) (ofInt y) hx.ok hy.ok (by have:=hx.len;unfold aw;omega) (by have:=hy.len;unfold aw;omega);rw[du,du]at h;exact h
theorem KF{x y:Int}(hx:Zs x)(hy:Zs y)(h0:y≠0):FP 120 [zA x,zA y] (.tup [zA (x/y),zA (x%y),.v .nilIface]):=by
 have h:=WH (ofInt x) (ofInt y) hx.ok hy.ok (by have:=hx.len;unfold aw;omega) (by have:=hy.len;unfold aw;omega) (by rw[du];exact h0);rw[du,du]at h;exact h
theorem AF{x:Int}(hx:Zs x):FP 208 [zA x] (i64 x.sign):=by
 have h:=ES (ofInt x) hx.ok;rw[du]at h;exact h
theorem Dc{x:Int}(hx:Zs x):FP 280 [zA x] (zA (-x)):=by
 have h:=GY (ofInt x) hx.ok (by have:=hx.len;unfold aw;omega);rw[du]at h;exact h
theorem YV{x y:Int}(hx:Zs x)(hy:Zs y):FP 206 [zA x,zA y] (i64 (ig x y)):=by
 have h:=Zf (ofInt x) (ofInt y) hx.ok hy.ok (by have:=hx.len;unfold aw;omega) (by have:=hy.len;unfold aw;omega);rw[du,du]at h;exact h
theorem S8{x y:Int}(hx:Zs x)(hy:Zs y):FP 294 [zA x,zA y] (zA (x+y)):=by
 have h:=IX (ofInt x) (ofInt y) hx.ok hy.ok (by have:=hx.len;unfold aw;omega) (by have:=hy.len;unfold aw;omega);rw[du,du]at h;exact h
theorem rj{x y:Int}(hx:Zs x)(hy:Zs y):FP 201 [zA x,zA y] (zA (x*y)):=by
 have h:=U3 (ofInt x) (ofInt y) hx.ok hy.ok (by have:=hx.len;have:=hy.len;unfold aw;omega);rw[du,du]at h;exact h
theorem Wo{x y:Int}(hx:Zs x)(hy:Zs y):FP 207 [zA x,zA y] (zA (af1 x y)):=by
 have h:=Kj (ofInt x) (ofInt y) hx.ok hy.ok (by have:=hx.len;have:=hy.len;unfold aw;omega);rw[du,du]at h;exact h
theorem HO{x y:Int}(hx:Zs x)(hy:Zs y)(h0:y≠0):FP 281 [zA x,zA y] (.tup [zA (x/y),zA (x%y),i64 0]):=by
 have h:=Z2 (ofInt x) (ofInt y) hx.ok hy.ok (by have:=hx.len;unfold aw;omega) (by have:=hy.len;unfold aw;omega) (by rw[du];exact h0);rw[du,du]at h;exact h
def ip(e:Nat):ai3:=match e with |0=>.nilIface |e+1=>.iface 107 (.int .i64 ((e+1:Nat):Int))
def dh(e:Nat):AV:=.v (ip e)
theorem RC(e:Nat):ip e=.nilIface\/∃T u,ip e=.iface T u:=by cases e;exact .inl rfl;exact .inr ⟨_,_,rfl⟩
theorem Ik(e:Nat):eK (ip e)=decide (e=0):=by cases e <;> simp[ip,eK]
theorem VV{e:Nat}(h:eK (ip e)=true):e=0:=by rw[Ik]at h;exact aiv h
theorem Sa{e:Nat}(h:eK (ip e)=false):e≠0:=by rw[Ik]at h;exact aiw h
theorem p9{e:Nat}(h:(!eK (ip e))=true):e≠0:=Sa (by cases h':eK (ip e) <;> simp_all)
theorem qI{e:Nat}(h:(!eK (ip e))=false):e=0:=VV (by cases h':eK (ip e) <;> simp_all)
theorem EN:FP 48 [] (zA 1):=by
 refine ak func48 ?_;refine gc (zV 1 oz) ?_;refine ah ?_
 first |rfl |(simp;done)
theorem u9(r:Rt)(h:r.ok):FP 104 [r.av] (bl r.valid):=by
 have hn:=h.n0;have hd:=h.d0;refine ak func104 ?_;refine gl ?_;refine cm ?_;refine gC (fun t14=>?_) (fun t14=>?_)
 ·have h0 : r.num = [] /\ r.den = [] := by simpa [aa] using t14
  refine ah ?_;unfold Rt.valid;rw[ait h0];rfl
 have h0:¬(r.num=[]/\r.den=[]):=by
  have:=t14;simp[aa]at this;exact fun h=>this h.1 h.2
 refine gD ?_;refine gl ?_;refine cm ?_;refine bJ (fun _=>(zo r.n0 hn)) ?_;refine bJ (fun _=>(zo r.d0 hd)) ?_;refine gC (fun z=>?_) (fun z=>?_)
 ·have h1:r.valid=false:=B7 h0 z;refine ah ?_;rw[h1];rfl
 have h1:=Jn h0 z;refine gc (Kg r.n0 r.d0 hn hd h.n0l h.d0l) ?_;refine gc (by apply EN) ?_;refine gc (Iu (Rt.gcd_zs h) yV) ?_;refine ah ?_;rw[h1];rfl
theorem lC(r:Rt)(h:r.ok):FP 72 [r.av] (.tup [zA r.q.num,zA r.q.den]):=by
 have pM:r.num.length<=137438953472:=h.2.2.1;have pX:r.den.length<=137438953472:=h.2.2.2;refine ak func72 ?_;refine gc (u9 r h) ?_;refine cm ?_;refine gC (fun t12=>?_) (fun t12=>?_)
 ·have h0:¬(r.valid=true/\r.num≠[]):=by
   have:=t12;intro h';simp[aa,h'.1,h'.2]at this
  refine gc EN ?_;refine gR ?_;exact gP (by rw[Rt.zero h0];exact Sub.tup (.cons I3 (.cons (.refl _) .nil)))
 have h0:r.valid=true/\r.num≠[]:=by
  have:=t12;cases hv:r.valid
  ·rw[hv]at this;cases this
  ·rw[hv]at this;exact⟨rfl,by simpa[aa]using this⟩
 obtain⟨e1,e2,e3,e4,e5,e6⟩:=Rt.parts h h0.1 h0.2;refine gs (qS T42 rfl T87 rfl rfl rfl) ?_;refine gs (eD (.tmp rfl) rfl rfl (.tmp rfl) T42 rfl T87 rfl rfl (by simp only[ahk];omega) rfl rfl) ?_;refine gD ?_ (4,0);refine gW ((Wk.freeze (k:=20) rfl).trans<|Wk.of (sl:=[pP 1 (.ptr 1 0),pP 2 (.ptr 2 0),pP 3 (.ptr 3 0)]) (hp:=[pP 1 (.box [bl r.neg,ws r.num,ws r.den]),pP 2 (.box [bl r.neg,ws r.num]),pP 3 (.box [bl false,nS])]) aY (.k (.cons rfl (BlkSub.bL (.cons (.refl _) (.cons (.of (cf (by simp))) .nil)) rfl) (.k .nil)))) ?_;refine gs (qS T42 rfl T87 rfl rfl rfl) ?_;refine gs (eD (.tmp rfl) rfl rfl (.tmp rfl) T42 rfl T87 rfl rfl (by simp only[ahk];omega) rfl rfl) ?_;refine gD ?_ (77777,0);refine gW ((Wk.freeze (k:=26) rfl).trans<|Wk.of (sl:=[pP 2 (.ptr 2 0),pP 3 (.ptr 3 0)]) (hp:=[pP 2 (.box [bl r.neg,ws r.num]),pP 3 (.box [bl false,ws r.den])]) aY (.k (.cons rfl (BlkSub.bL (.cons (.refl _) (.cons (.of (cf (by simp))) .nil)) rfl) .nil))) ?_;refine bZ ?_;rw[e1,e2];exact HN e3 e4 e5
theorem tM{n d:Int}(hn:Zs n)(hd:Zs d)(h0:d≠0):FP 46 [zA n,zA d] (qA (agl n d)):=by
 refine ak func46 ?_;refine gc (v6 hn) ?_;refine gC (fun z=>?_) (fun z=>?_)
 ·have e0 : n=0 := af4.1 (by simpa[aa]using z);refine gR ?_;exact mb (by rw[e0,Rat.zero_divInt];exact qF)
 have e0:n≠0:=fun h=>by rw[h]at z;cases z
 refine gc (v6 hd) ?_;refine JZ [2,3,4] [4] (fun(n1 d1:Int)=>[]) (fun n1 d1=>[pP 2 (.box (zA n1).cells),pP 3 (.box (zA d1).cells)]) (fun n1 d1=>0<d1/\n1≠0/\Zs n1/\Zs d1/\agl n1 d1=agl n d) ?_ ?_
 ·intro K1 J1;refine gC (fun t13=>?_) (fun t13=>?_)
  ·have e1 : d<0 := agc.1 (by have := afy d;have h9 : d.sign<0 := (by simpa[aa]using t13);omega);refine gc (yI hn) ?_;refine gc (yI hd) ?_;refine gD ?_;exact z6 J1 (-n) (-d) ⟨by omega,by omega,hn.neg,hd.neg,MS n d⟩
  have e1:0<d:=by
   have h9:0<=d.sign:=by simpa[aa]using t13
   have:=agb.1 h9;omega
  exact z6 J1 n d ⟨e1,e0,hn,hd,rfl⟩
 rintro n1 d1 ⟨f1,f2,f3,f4,f5⟩;refine gc (Yq f3 f4) ?_;refine gc (v6 f3) ?_;refine CD [2,3,4,5] [3,4,5] (fun(n2:Int)=>[pP 6 (bl (decide (n1<0)))]) (fun n2=>[pP 2 (.box (zA n2).cells)]) (fun n2=>n2=(n1.natAbs:Int)) ?_ ?_
 ·intro K2 J2;refine gC (fun t24=>?_) (fun t24=>?_)
  ·have e2 : n1<0 := agc.1 (by have := afy n1;have h9 : n1.sign<0 := (by simpa[aa]using t24);omega);refine gc (yI f3) ?_;exact tC J2 (-n1) oz (hw:=Wk.of (.cons rfl (.of (by rw[show aa .lss n1.sign 0=true from t24,aix e2];rfl)) (.k (.k (.k (.k .nil))))) (.k (.k (.k (.k .nil)))))
  have e2:0<n1:=by
   have h9:0<=n1.sign:=by simpa[aa]using t24
   have:=agb.1 h9;omega
  exact tC J2 n1 oz (hw:=Wk.of (.cons rfl (.of (by rw[show aa .lss n1.sign 0=false from t24,aiy oz];rfl)) (.k (.k (.k (.k .nil))))) (.k (.k (.k (.k .nil)))))
 rintro n2 g1;have g2:Zs (af1 n1 d1:Int):=f3.of_le (by rw[aif];exact Nat.le_of_dvd oz (Int.gcd_dvd_natAbs_left _ _));have g3:(af1 n1 d1:Int)≠0:=by have:=Int.gcd_pos_of_ne_zero_left d1 f2;omega
 have g4:Zs n2:=f3.of_le oz;refine gc (KF g4 g2 g3) ?_;refine gc (KF f4 g2 g3) ?_;refine ah ?_;rw[<- f5,<- Sp f1 f2,<- g1];rfl
theorem IN{n d:Int}(hn:Zs n)(hd:Zs d):FP 361 [zA n,zA d] (.tup [qA (agl n d),dh (if d=0 then 8 else 0)]):=by
 refine ak func361 ?_;refine gc (v6 hd) ?_;refine gC (fun z=>?_) (fun z=>?_)
 ·have h0 : d=0 := af4.1 (by simpa[aa]using z);refine gR ?_;exact gP (by rw[ait h0,h0,Rat.divInt_zero];exact Sub.tup (.cons qF (.cons (.refl _) .nil)))
 have h0:d≠0:=fun h=>by rw[h]at z;cases z
 refine gc (tM hn hd h0) ?_;refine bZ ?_;rw[ais h0];rfl
theorem oG(n:Int)(h:-9223372036854775808<=n/\n<=9223372036854775807):FP 19 [i64 n] (qA n):=by
 have hz:Zs n:=⟨2,by omega,by unfold Lz;simp only[Nat.reducePow];omega⟩
 refine ak func19 ?_;refine gc (zV n h) ?_;refine gc EN ?_;refine gc (tM hz yV oz) ?_;refine ah ?_;exact ai0 qA (agm (n:Rat))
theorem B4(a:Rt)(ha:a.ok):FP 279 [a.av] (qA (-a.q)):=by
 have za:=ha.qs;refine ak func279 ?_;refine gc (lC a ha) ?_;refine gc (yI za.num) ?_;refine gc (tM za.num.neg za.den (by have:=a.q.den_nz;omega)) ?_;refine gD ?_;refine ah ?_;rw[Ny];rfl
theorem Fq(a:Rt)(ha:a.ok):FP 24 [a.av] (i64 (a7 a.q)):=by
 refine ak func24 ?_;refine gc (lC a ha) ?_;refine gc (v6 ha.qs.num) ?_;refine ah ?_;rw[IW]
theorem E7(a b:Rt)(ha:a.ok)(hb:b.ok):FP 352 [a.av,b.av] (i64 (a7 (a.q-b.q))):=by
 have za:=ha.qs;have zb:=hb.qs;have m1:=za.mul zb;have m2:=zb.mul za;refine ak func352 ?_;refine gc (lC a ha) ?_;refine gc (lC b hb) ?_;refine gc (nQ za.num zb.den) ?_;refine gc (nQ zb.num za.den) ?_;refine gc (Iu m1.1 m2.1) ?_;refine gD ?_;refine ah ?_;rw[Th]
theorem zI(a b:Rt)(ha:a.ok)(hb:b.ok):FP 45 [a.av,b.av] (qA (a.q+b.q)):=by
 have za:=ha.qs;have zb:=hb.qs;have m1:=za.mul zb;have m2:=zb.mul za;refine ak func45 ?_;refine gc (lC a ha) ?_;refine gc (lC b hb) ?_;refine gc (nQ za.num zb.den) ?_;refine gc (nQ zb.num za.den) ?_;refine gc (abj m1.1 m2.1) ?_;refine gc (nQ za.den zb.den) ?_;refine gc (tM (za.cross zb) m1.2.2.1 (af2 (by have:=a.q.den_nz;omega) (by have:=b.q.den_nz;omega))) ?_;refine gD ?_;refine ah ?_;rw[Dl];rfl
theorem ZO(a b:Rt)(ha:a.ok)(hb:b.ok):FP 172 [a.av,b.av] (qA (a.q-b.q)):=by
 refine ak func172 ?_;refine gc (B4 b hb) ?_;refine gc (zI a (rt (-b.q)) ha hb.qs.neg.ok) ?_;refine gD ?_;refine ah ?_;rw[bG,<- Rat.sub_eq_add_neg];rfl
theorem M0(a b:Rt)(ha:a.ok)(hb:b.ok):FP 71 [a.av,b.av] (qA (a.q*b.q)):=by
 have za:=ha.qs;have zb:=hb.qs;have m1:=za.mul zb;refine ak func71 ?_;refine gc (lC a ha) ?_;refine gc (lC b hb) ?_;refine gc (nQ za.num zb.num) ?_;refine gc (nQ za.den zb.den) ?_;refine gc (tM m1.2.1 m1.2.2.1 (af2 (by have:=a.q.den_nz;omega) (by have:=b.q.den_nz;omega))) ?_;refine gD ?_;refine ah ?_;rw[EL];rfl
theorem Ja(a b:Rt)(ha:a.ok)(hb:b.ok):FP 389 [a.av,b.av] (.tup [qA (a.q/b.q),dh (if b.q=0 then 8 else 0)]):=by
 have za:=ha.qs;have zb:=hb.qs;have m1:=za.mul zb;refine ak func389 ?_;refine gc (lC a ha) ?_;refine gc (lC b hb) ?_;refine gc (nQ za.num zb.den) ?_;refine gc (nQ za.den zb.num) ?_;refine gc (IN m1.1 m1.2.2.2) ?_;refine gD ?_;refine bZ ?_
 have e1:((a.q.den:Int)*b.q.num=0)=(b.q=0):=by
  apply propext;rw[<- Rat.num_eq_zero,Int.mul_eq_zero];exact⟨fun h=>h.resolve_left (by have:=a.q.den_nz;omega),.inr⟩
 simp only[L3,e1];rfl
structure Pq where
  c:List Rat
  s:List Rat
  x:List Rat
  y:List Rat
def Pq.av(p:Pq):AV:=.agg [nA p.c,nA p.s,nA p.x,nA p.y]
structure Pq.ok(n e:Nat)(p:Pq):Prop where
  c:Nm n e p.c
  s:Nm n e p.s
  x:Nm n e p.x
  y:Nm n e p.y
def Ya(p:Pse):Pq:=⟨sh 0 (Fh p.turn.half p.turn.t.q:Rat),sh 0 (ER p.turn.half p.turn.t.q:Rat),sh 0 (p.at_.x.q:Rat),sh 0 (p.at_.y.q:Rat)⟩
def La(ps:List Pse):Nat:=if ps.all Pse.ok=true then 0 else 2
def WO(ts:LL)(b:Pl)(w:Pq):Bool :=
  AC ts (ao ts.length (lq b.c)) (ao ts.length w.c)&&AC ts (ao ts.length (lq b.s)) (ao ts.length w.s)&&AC ts (ao ts.length (lq b.x)) (ao ts.length w.x)&&AC ts (ao ts.length (lq b.y)) (ao ts.length w.y)
def mE(a:As)(ps:List Pse):Nat :=
  if fg a.rs≠0 then fg a.rs else if La ps≠0 then La ps else if a.bs.length≠ps.length then 10 else ii (a.bs.map (fun b=>oO a.rs b.l))
def mB(a:As)(ps:List Pse):Bool:=decide (mE a ps=0)&&(a.bs.zip ps).all (fun z=>WO (llq a.rs) z.1 (Ya z.2))
theorem Zg{rs:List (List Rt)}{b:Pl}{E:Nat}(h:oO rs b.l=0)(hb:∀x∈b.l,NR x E)(h5:rs.length<=5) :
  b.av=Pq.av ⟨lq b.c,lq b.s,lq b.x,lq b.y⟩/\Pq.ok rs.length E ⟨lq b.c,lq b.s,lq b.x,lq b.y⟩:=by
 have h1:=(QJ h).2
 have g:∀x∈b.l,nR x=nA (lq x)/\Nm rs.length E (lq x):=fun x hx=>by
  obtain⟨e1,e2⟩:=(hb x hx).num (h1 x hx);exact⟨e1,h5,e2,(hb x hx).cb⟩
 have c:=g b.c (by simp[Pl.l]);have s:=g b.s (by simp[Pl.l]);have x:=g b.x (by simp[Pl.l]);have y:=g b.y (by simp[Pl.l]);exact⟨by unfold Pl.av Pq.av;rw[c.1,s.1,x.1,y.1],c.2,s.2,x.2,y.2⟩
instance:Inhabited Tn:=⟨⟨⟨false,[],[]⟩,false⟩⟩
def dP(n:Nat)(ok:Nat->Bool):Option Nat:=(List.range n).find? (fun i=>!ok i)
theorem jT{n i:Nat}{ok:Nat->Bool}(hi:i<n)(h:∀j,j<i->ok j=true)(he:ok i=false):dP n ok=some i:=by
 unfold dP;rw[afo];exact⟨by rw[he];rfl,by simpa using hi,fun j hj=>by rw[h j hj];rfl⟩
theorem km{n:Nat}{ok:Nat->Bool}(h:∀j,j<n->ok j=true):dP n ok=none:=by
 unfold dP;rw[ae8];exact fun j hj=>by rw[h j hj];rfl
theorem RH{n:Nat}{ok:Nat->Bool}(h:dP n ok=none):∀j,j<n->ok j=true:=by
 unfold dP at h;rw[ae8]at h;intro j hj;have:=h j hj;simpa using this
def sD:Option Nat->Int
  |none=>-1
  |some i=>i
abbrev r4(ts:LL)(x:List Rt):T ts.length:=ao ts.length (lq x)
def z8(ts:LL)(b:Pl)(m:Mk):T ts.length×T ts.length:=(GP ts (r4 ts b.c) (r4 ts b.s) (r4 ts b.x) m.x.q m.y.q,JI ts (r4 ts b.c) (r4 ts b.s) (r4 ts b.y) m.x.q m.y.q)
def DY(l:Li)(a:As)(body pt:Int):T (llq a.rs).length×T (llq a.rs).length:=z8 (llq a.rs) (a.bs.getD body.toNat default) ((bV l body).getD pt.toNat default)
theorem fp{l:Li}(h:ax l=0):hO l=0/\et l=0/\gG l=0/\l.bo.length<=8/\l.bo.length≠0:=by
 unfold ax at h;split at h
 ·cases h
 ·split at h
  ·cases h
  ·split at h
   ·cases h
   ·split at h
    ·rename_i h1;exact aiz h h1
    ·rename_i g1 _ h1;split at h
     ·rename_i h2;exact aiz h h2
     ·rename_i h2;exact⟨ahf.1 h1,ahf.1 h2,h,by omega,by omega⟩
theorem JK{l:Li}(h:ax l=0){i:Nat}{j:Jt}(hj:l.jo[i]?=some j):ek l j=0:=by
 have h1:=(fp h).2.1;unfold et at h1;split at h1
 ·cases h1
 ·have h2:=wi h1 i (afh.1 hj).1;unfold f6 at h2;rw[aQ hj]at h2;split at h2
  ·cases h2
  ·split at h2
   ·cases h2
   ·exact h2
theorem d8{l:Li}(h:ax l=0){i:Nat}{j:Jt}(hj:l.jo[i]?=some j) :
  aV j.a l.bo.length=true/\aV j.b l.bo.length=true/\aV j.point (bV l j.a).length=true/\aV j.on (bV l j.b).length=true/\(j.kind≠0->aV j.to (bV l j.b).length=true):=by
 have h1:=JK h hj;unfold ek at h1;split at h1
 ·cases h1
 ·split at h1
  ·cases h1
  ·rename_i h2;split at h1
   ·cases h1
   ·split at h1
    ·cases h1
    ·rename_i h3;have a1:aV j.a l.bo.length = true:=by cases h:aV j.a l.bo.length <;> simp_all
     have a2:aV j.b l.bo.length=true:=by cases h:aV j.b l.bo.length <;> simp_all
     have a3:aV j.point (bV l j.a).length=true:=by cases h:aV j.point (bV l j.a).length <;> simp_all
     have a4:aV j.on (bV l j.b).length=true:=by cases h:aV j.on (bV l j.b).length <;> simp_all
     refine⟨a1,a2,a3,a4,fun hk=>?_⟩;rw[ais hk]at h1;split at h1
     ·cases h1
     ·rename_i h4;cases h:aV j.to (bV l j.b).length <;> simp_all
theorem qV{l:Li}(h:ax l=0){i:Nat}{d:Dr}(hd:l.drivers[i]?=some d):aV d.body l.bo.length=true:=by
 have h1:=(fp h).2.2.1;unfold gG at h1;split at h1
 ·cases h1
 ·have h2:=wi h1 i (afh.1 hd).1;unfold dq at h2;rw[aQ hd]at h2;split at h2
  ·cases h2
  ·split at h2
   ·cases h2
   ·split at h2
    ·cases h2
    ·rename_i h3;cases h:aV d.body l.bo.length <;> simp_all
theorem aay{l:Li}(h:ax l=0){n k:Nat}{b:Bd}{m:Mk}(hb:l.bo[n]?=some b)(hm:b.pts[k]?=some m):m.x.valid=true/\m.y.valid=true:=by
 have h2:=wi (fp h).1 n (afh.1 hb).1;unfold dZ at h2;rw[aQ hb]at h2;split at h2
 ·cases h2
 ·split at h2
  ·cases h2
  ·split at h2
   ·cases h2
   ·have h3:=wi h2 k (afh.1 hm).1;unfold dK at h3;rw[aQ hm]at h3;split at h3
    ·cases h3
    ·split at h3
     ·cases h3
     ·split at h3
      ·assumption
      ·cases h3
theorem Z9{ts:LL}{r e f:Nat}(tw:Tw ts r){b:Pl}{m:Mk}(hb:Pq.ok ts.length e ⟨lq b.c,lq b.s,lq b.x,lq b.y⟩)(hx:Qb f m.x.q)(hy:Qb f m.y.q) :
  Nm ts.length (3*e+2*f+2*kB r ts.length+10) (sh ts.length (z8 ts b m).1)/\Nm ts.length (3*e+2*f+2*kB r ts.length+10) (sh ts.length (z8 ts b m).2):=by
 have nx:=Nm.ofQ tw.five (Cb.one hx);have ny:=Nm.ofQ tw.five (Cb.one hy);have h1:=(WC tw hb.c hb.s nx ny).add hb.x;rw[UI]at h1;have h2:=(YK tw hb.c hb.s nx ny).add hb.y;rw[Zn]at h2;exact⟨h1.mono oz,h2.mono oz⟩
structure Gr where
  kind:Int
  bo:List Int
  jo:List Int
  driver:Int
instance:Inhabited Gr:=⟨⟨0,[],[],0⟩⟩
def Gr.av(g:Gr):AV:=.agg [i64 g.kind,.lst 1 (g.bo.map i64),.lst 1 (g.jo.map i64),i64 g.driver]
def kn(k:List Bool)(i:Int):Bool:=k.getD i.toNat false
def cz(n:Nat)(b:Int):List Bool:=(afq n false).set b.toNat true
def sF(l:Li)(b:Int):Bool:=l.drivers.any (fun d=>decide (d.body=b))
def e8(l:Li)(kw:List Bool)(b:Int):Bool:=!kn kw b&&!sF l b
def l7(kind body:Int)(oth:List Bool)(j:Jt):Bool:=decide (j.kind=kind)&&(decide (j.a=body)&&kn oth j.b||decide (j.b=body)&&kn oth j.a)
def bB(l:Li)(kind body:Int)(oth:List Bool):Int:=sD (dP l.jo.length (fun i=>!l7 kind body oth (l.jo.getD i default)))
def f9(l:Li)(kw:List Bool)(i:Nat):Bool:=!kn kw (l.drivers.getD i default).body&&decide (0<=bB l 0 (l.drivers.getD i default).body kw)
def dt(l:Li)(kw:List Bool):Option Gr :=
  (dP l.drivers.length (fun i=>!f9 l kw i)).map fun i=>⟨0,[(l.drivers.getD i default).body],[bB l 0 (l.drivers.getD i default).body kw],i⟩
def df(l:Li)(kw:List Bool)(i k:Nat):Bool :=
  (e8 l kw i&&e8 l kw k)&&(decide (0<=bB l 0 i kw)&&decide (0<=bB l 0 k kw)&&decide (0<=bB l 0 i (cz l.bo.length k)))
def gV(l:Li)(kw:List Bool)(i:Nat):Option Nat:=(dP (l.bo.length-(i+1)) (fun k=>!df l kw i (i+1+k))).map (·+(i+1))
def il(l:Li)(kw:List Bool)(i k:Nat):Gr:=⟨1,[i,k],[bB l 0 i kw,bB l 0 k kw,bB l 0 i (cz l.bo.length k)],0⟩
def cG(l:Li)(kw:List Bool):Option Gr :=
  (dP l.bo.length (fun i=>(gV l kw i).isNone)).map fun i=>match gV l kw i with
    |some k=>il l kw i k
    |none=>default
def fU(l:Li)(kw:List Bool)(i:Nat):Bool:=e8 l kw i&&(decide (0<=bB l 0 i kw)&&decide (0<=bB l 1 i kw))
def iO(l:Li)(kw:List Bool)(i:Nat):Gr :=
  ⟨if(l.jo.getD (bB l 1 i kw).toNat default).a=i then 2 else 3,[i],[bB l 0 i kw,bB l 1 i kw],0⟩
def d9(l:Li)(kw:List Bool):Option Gr:=(dP l.bo.length (fun i=>!fU l kw i)).map (iO l kw)
def bY(l:Li)(kw:List Bool):Option Gr:=(dt l kw).or ((cG l kw).or (d9 l kw))
def a9(kw:List Bool)(bs:List Int):List Bool:=bs.foldl (fun k b=>k.set b.toNat true) kw
def cr(l:Li):Nat->List Bool->List Gr->List Bool×List Gr
  |0,kw,out=>(kw,out)
  |n+1,kw,out=>match bY l kw with
    |none=>(kw,out)
    |some g=>cr l n (a9 kw g.bo) (out++[g])
def b8(l:Li):List Gr:=(cr l l.bo.length (cz l.bo.length 0) []).2
def bT(l:Li):List Bool:=(b8 l).foldl (fun k g=>a9 k g.bo) (cz l.bo.length 0)
def fk(l:Li):List Bool:=(b8 l).foldl (fun k g=>a9 k g.jo) (afq l.jo.length false)
def eS(k:List Bool):List Int:=((List.range k.length).filter (fun i=>!k.getD i false)).map (fun i:Nat=>((i:Nat):Int))
def bS(l:Li):Nat:=if(eS (bT l)).length+(eS (fk l)).length=0 then 0 else 7
def aC(l:Li):List Gr:=if bS l=0 then b8 l else[]
theorem HY{kind body:Int}{oth:List Bool}{j:Jt}{va vb:Bool}(ea:kn oth j.a=va)(eb:kn oth j.b=vb) :
  cond (aa .eql j.kind kind) (cond (cond (aa .eql j.a body) vb false) true (cond (aa .eql j.b body) va false)) false=l7 kind body oth j:=by
 unfold l7;rw[s9,s9,s9,ea,eb,me,me,me,DW]
theorem jd(n:Nat)(b:Int):(cz n b).length=n:=by unfold cz;simp
theorem lL:∀(bs:List Int)(k:List Bool),(a9 k bs).length=k.length
 |[],k=>rfl
 |b::bs,k=>by
  show(a9 (k.set b.toNat true) bs).length=_;rw[lL bs];simp
theorem fm{n i:Nat}{ok:Nat->Bool}(h:dP n ok=some i):i<n/\ok i=false:=by
 unfold dP at h;rw[afo]at h;exact⟨by simpa using h.2.1,by simpa using h.1⟩
theorem pE{l:Li}{kind body:Int}{oth:List Bool}:-1<=bB l kind body oth/\bB l kind body oth<l.jo.length:=by
 unfold bB;cases h:dP l.jo.length (fun i=>!l7 kind body oth (l.jo.getD i default))with
 |none=>exact⟨by decide,by show(-1:Int)<_;omega⟩
 |some i=>have:=(fm h).1;exact⟨by show(-1:Int)<=(i:Int);omega,by show(i:Int)<_;omega⟩
structure GrOk(l:Li)(g:Gr):Prop where
  b:∀x∈g.bo,0<=x/\x<l.bo.length
  j:∀x∈g.jo,0<=x/\x<l.jo.length
  lb:g.bo.length<=2
  lj:g.jo.length<=3
theorem Uz{l:Li}(hl:ax l=0){kw:List Bool}{g:Gr}(h:dt l kw=some g):GrOk l g:=by
 unfold dt at h;rw[ahl]at h;obtain⟨i,hi,rfl⟩:=h;obtain⟨h1,h2⟩:=fm hi;obtain⟨d,hd⟩:=aB h1;have h3:=dJ (qV hl hd);unfold f9 at h2;simp only[agr,ahj,aiu]at h2;rw[aQ hd]at h2 ⊢;have h4:=pE (l:=l) (kind:=0) (body:=d.body) (oth:=kw);refine⟨fun x hx=>?_,fun x hx=>?_,by simp,by simp⟩
 ·rw[ae4.1 hx];exact h3
 ·rw[ae4.1 hx];exact⟨h2.2,h4.2⟩
theorem WW{l:Li}{kw:List Bool}{g:Gr}(h:cG l kw=some g):GrOk l g:=by
 unfold cG at h;rw[ahl]at h;obtain⟨i,hi,h⟩:=h;obtain⟨h1,h2⟩:=fm hi;split at h
 ·rename_i k hk;subst h;unfold gV at hk;rw [ahl] at hk;obtain ⟨k',hk',rfl⟩:=hk;obtain ⟨h3,h4⟩:=fm hk';rw [show i + 1 + k' = k' + (i + 1) by omega] at h4;unfold df at h4;simp only [agr,ahj,aiu] at h4;obtain ⟨_,⟨j1,j2⟩,j3⟩:=h4;refine ⟨fun x hx=>?_,fun x hx=>?_,by simp [il],by simp [il]⟩
  ·simp only[il,ah3,ahy,or_false]at hx;rcases hx with rfl |rfl <;> constructor <;> omega
  ·simp only[il,ah3,ahy,or_false]at hx;rcases hx with rfl |rfl |rfl
   ·exact⟨j1,pE.2⟩
   ·exact⟨j2,pE.2⟩
   ·exact⟨j3,pE.2⟩
 ·rename_i hk;rw[hk]at h2;cases h2
theorem Sc{l:Li}{kw:List Bool}{g:Gr}(h:d9 l kw=some g):GrOk l g:=by
 unfold d9 at h;rw[ahl]at h;obtain⟨i,hi,rfl⟩:=h;obtain⟨h1,h2⟩:=fm hi;unfold fU at h2;simp only[agr,ahj,aiu]at h2;obtain⟨_,j1,j2⟩:=h2;refine⟨fun x hx=>?_,fun x hx=>?_,by simp[iO],by simp[iO]⟩
 ·simp only[iO,ah3,ahy,or_false]at hx;subst hx;constructor <;> omega
 ·simp only[iO,ah3,ahy,or_false]at hx;rcases hx with rfl |rfl
  ·exact⟨j1,pE.2⟩
  ·exact⟨j2,pE.2⟩
theorem CA{l:Li}(hl:ax l=0){kw:List Bool}{g:Gr}(h:bY l kw=some g):GrOk l g:=by
 unfold bY at h;cases h1:dt l kw with
 |some g'=>rw[h1]at h;cases h;exact Uz hl h1
 |none =>
  rw[h1]at h;cases h2:cG l kw with
  |some g'=>rw[h2]at h;cases h;exact WW h2
  |none=>rw[h2]at h;exact Sc h
theorem KS{l:Li}(hl:ax l=0):∀(n:Nat)(kw:List Bool)(out:List Gr),(∀g∈out,GrOk l g)->(∀g∈(cr l n kw out).2,GrOk l g)/\(cr l n kw out).2.length<=out.length+n
 |0,kw,out,h=>⟨h,by simp[cr]⟩
 |n+1,kw,out,h=>by
  unfold cr;cases hg:bY l kw with
  |none=>exact⟨h,by simp⟩
  |some g =>
   have h1:=KS hl n (a9 kw g.bo) (out++[g]) (fun x hx=>by
    rcases ahn.1 hx with hx |hx
    ·exact h x hx
    ·rw[ae4.1 hx];exact CA hl hg)
   refine⟨h1.1,?_⟩;have:=h1.2;rw[aid]at this;show(cr l n (a9 kw g.bo) (out++[g])).2.length<=_;simp only[ahx,ah9]at this;omega
theorem zB{l:Li}(hl:ax l=0):(∀g∈b8 l,GrOk l g)/\(b8 l).length<=8:=by
 have h:=KS hl l.bo.length (cz l.bo.length 0) [] (fun g hg=>by cases hg);have h8:=(fp hl).2.2.2.1;exact⟨h.1,by have:=h.2;simp only[ah9]at this;unfold b8;omega⟩
def kJ(j:Jt)(b:Int):Int:=if b=j.a then j.b else if b=j.b then j.a else -1
def zU(kind body:Int)(p:Int->Bool)(j:Jt):Bool:=decide (j.kind=kind)&&(decide (0<=kJ j body)&&p (kJ j body))
def gJ(l:Li)(kind body:Int)(p:Int->Bool):Int:=sD (dP l.jo.length (fun i=>!zU kind body p (l.jo.getD i default)))
theorem Q0{b:Bool}{z:Int}(h:cond b (aa .geq z 0) false=true):0<=z:=by
 cases b
 ·cases h
 ·exact aiv h
theorem Ys{a k z:Int}{q:Bool}:cond (cond (aa .eql a k) (aa .geq z 0) false) q false=(decide (a=k)&&(decide (0<=z)&&q)):=by
 rw[s9,show aa .geq z 0=decide (0<=z)from rfl,me,me,Bool.and_assoc]
theorem Q6{l:Li}(ae:ax l=0){i:Nat}{j:Jt}(hj:l.jo[i]?=some j)(b:Int):kJ j b<l.bo.length:=by
 obtain⟨i1,i2,_⟩:=d8 ae hj;have b1:=dJ i1;have b2:=dJ i2;unfold kJ;split
 ·omega
 ·split <;> omega
theorem QZ{n:Nat}{ok ok':Nat->Bool}(h:∀i,i<n->ok i=ok' i):dP n ok=dP n ok':=by
 unfold dP
 have:∀l:List Nat,(∀i∈l,i<n)->l.find? (fun i=>!ok i)=l.find? (fun i=>!ok' i):=by
  intro l
  induction l with
  |nil=>intro _;rfl
  |cons a l ih =>
   intro hl;simp only[List.find?_cons,h a (hl a (by simp)),ih (fun i hi=>hl i (by simp[hi]))]
 exact this _ (fun i hi=>afu.1 hi)
theorem DZ{l:Li}(ae:ax l=0){kind body:Int}{p:Int->Bool}{oth:List Bool}(h:∀o:Int,0<=o->o<l.bo.length->p o=kn oth o):gJ l kind body p=bB l kind body oth:=by
 unfold gJ bB;rw[QZ];intro i hi;obtain⟨j,hj⟩:=aB hi;rw[aQ hj];obtain⟨i1,i2,_⟩:=d8 ae hj;have b1:=dJ i1;have b2:=dJ i2;congr 1;unfold zU l7;congr 1;unfold kJ
 by_cases h1:body=j.a
 ·subst h1;rw[ait rfl,h _ b2.1 b2.2]
  by_cases h2:j.b=j.a
  ·simp[h2,b1.1]
  ·simp[h2,b2.1]
 ·rw[ais h1]
  by_cases h2:body=j.b
  ·subst h2;rw[ait rfl,h _ b1.1 b1.2];have h3:¬j.a=j.b:=fun e=>h1 e.symm
   simp[h3,b1.1]
  ·rw[ais h2];have h3:¬j.a=body:=fun e=>h1 e.symm
   have h4:¬j.b=body:=fun e=>h2 e.symm
   simp[h3,h4]
theorem Jb{k:List Bool}{i:Nat}{b:Int}(h0:0<=b)(hi:i<k.length):kn (k.set i true) b=(decide (b=i)||kn k b):=by
 unfold kn;rw[ahh,afe,ahh]
 by_cases h:b=i
 ·rw[aix h,Bool.true_or,ait oz];rw[ait oz];rfl
 ·rw[aiy h,Bool.false_or,ais oz]
theorem EJ:∀{bs:List Int}{k:List Bool}{b:Int},0<=b->(∀x∈bs,0<=x/\x<k.length)->kn (a9 k bs) b=(bs.any (fun x=>decide (x=b))||kn k b)
 |[],k,b,h0,h=>by simp[a9]
 |x::bs,k,b,h0,h=>by
  show kn (a9 (k.set x.toNat true) bs) b=_;obtain⟨kZ,rz⟩:=h x (by simp);rw[EJ h0 (fun y hy=>by rw[air];exact h y (by simp[hy])),Jb h0 oz,List.any_cons];have e:decide (b=(x.toNat:Int))=decide (x=b):=decide_eq_decide.2 oz;rw[e];cases decide (x=b) <;> simp
theorem Ol(n:Nat)(b:Int):kn (afq n false) b=false:=by
 unfold kn;rw[ahh,aia];split <;> rfl
def bD(l:Li):List Bool:=a9 (afq l.bo.length false) (l.drivers.map Dr.body)
theorem vI(l:Li):(bD l).length=l.bo.length:=by unfold bD;rw[lL,ah7]
theorem QI{l:Li}(ae:ax l=0){b:Int}(h0:0<=b):kn (bD l) b=sF l b:=by
 unfold bD sF;rw[EJ h0,Ol,Bool.or_false,List.any_map]
 ·rfl
 ·intro x hx;obtain⟨d,hd,rfl⟩:=aft.1 hx;obtain⟨i,hi⟩:=List.mem_iff_getElem?.1 hd;have:=dJ (qV ae hi);rw[ah7];omega
theorem sJ{n:Nat}{b o:Int}(h0:0<=o)(iA:0<=b)(hb:b<n):kn (cz n b) o=decide (o=b):=by
 unfold cz;rw[Jb h0 (by rw[ah7];omega),Ol,Bool.or_false];exact decide_eq_decide.2 oz
def dl(k:List Bool):Nat:=k.countP (fun x=>!x)
theorem XR{k:List Bool}{i:Nat}(h:k[i]?=some false):dl (k.set i true)+1=dl k:=by
 unfold dl;have hi:=(afh.1 h).1;have he:=(afh.1 h).2;rw[List.countP_set hi,he];have:0<k.countP (fun x=>!x):=List.countP_pos_iff.2 ⟨false,ahg h,rfl⟩;simp;omega
theorem abo(k:List Bool)(i:Nat):dl (k.set i true)<=dl k:=by
 by_cases hi:i<k.length
 ·unfold dl;rw[List.countP_set hi];simp
 ·rw[List.set_eq_of_length_le oz];exact ahr _
theorem Jc:∀(bs:List Int)(k:List Bool),dl (a9 k bs)<=dl k
 |[],k=>ahr _
 |x::bs,k=>ah8 (Jc bs (k.set x.toNat true)) (abo k _)
theorem PZ{x:Int}{bs:List Int}{k:List Bool}(h:k[x.toNat]?=some false):dl (a9 k (x::bs))<dl k:=by
 have h1:=Jc bs (k.set x.toNat true);have h2:=XR h;show dl (a9 (k.set x.toNat true) bs)<_;omega
theorem Ft{k:List Bool}{b:Int}(h:kn k b=false)(h1:b.toNat<k.length):k[b.toNat]?=some false:=by
 unfold kn at h;rw[ahh,ahm h1]at h;rw[ahm h1];simpa using h
theorem Qy{l:Li}(hl:ax l=0){kw:List Bool}(hk:kw.length=l.bo.length){g:Gr}(h:bY l kw=some g):∃x bs,g.bo=x::bs/\kw[x.toNat]?=some false:=by
 unfold bY at h;cases h1:dt l kw with
 |some g' =>
  rw[h1]at h;cases h
  unfold dt at h1;rw[ahl]at h1;obtain⟨i,hi,rfl⟩:=h1;obtain⟨h2,h3⟩:=fm hi;obtain⟨d,hd⟩:=aB h2;have h4:=dJ (qV hl hd);rw[aQ hd]at *;unfold f9 at h3;rw[aQ hd]at h3;simp only[agr,ahj,agt,aiu]at h3;exact⟨_,_,rfl,Ft h3.1 oz⟩
 |none =>
  rw[h1]at h;cases h2:cG l kw with
  |some g' =>
   rw[h2]at h;cases h
   unfold cG at h2;rw[ahl]at h2;obtain⟨i,hi,h2⟩:=h2;obtain⟨h3,h4⟩:=fm hi;split at h2
   ·rename_i k hk';subst h2;unfold gV at hk';rw[ahl]at hk';obtain⟨k',hk',rfl⟩:=hk';obtain⟨h5,h6⟩:=fm hk';unfold df e8 at h6;simp only[agr,ahj,agt,aiu]at h6;exact⟨_,_,rfl,Ft h6.1.1.1 oz⟩
   ·rename_i hk';rw[hk']at h4;cases h4
  |none =>
   rw[h2]at h;have h:d9 l kw=some g:=h;unfold d9 at h;rw[ahl]at h;obtain⟨i,hi,rfl⟩:=h;obtain⟨h3,h4⟩:=fm hi;unfold fU e8 at h4;simp only[agr,ahj,agt,aiu]at h4;exact⟨_,_,rfl,Ft h4.1.1 oz⟩
theorem uU{l:Li}(hl:ax l=0){kw:List Bool}(hk:kw.length=l.bo.length){g:Gr}(h:bY l kw=some g):dl (a9 kw g.bo)<dl kw:=by
 obtain⟨x,bs,e,h1⟩:=Qy hl hk h;rw[e];exact PZ h1
theorem CY{l:Li}(hl:ax l=0):∀(n m:Nat)(kw:List Bool)(out:List Gr),kw.length=l.bo.length->dl kw<=n->dl kw<=m->cr l n kw out=cr l m kw out
 |0,0,kw,out,hk,h1,h2=>rfl
 |0,m+1,kw,out,hk,h1,h2=>by
  unfold cr;cases hg:bY l kw with
  |none=>rfl
  |some g=>have:=uU hl hk hg;omega
 |n+1,0,kw,out,hk,h1,h2=>by
  unfold cr;cases hg:bY l kw with
  |none=>rfl
  |some g=>have:=uU hl hk hg;omega
 |n+1,m+1,kw,out,hk,h1,h2=>by
  unfold cr;cases hg:bY l kw with
  |none=>rfl
  |some g =>
   have:=uU hl hk hg;exact CY hl n m _ _ (by rw[lL];exact hk) oz oz
theorem BR{l:Li}:∀(n:Nat)(kw:List Bool)(out:List Gr),∃gs,cr l n kw out=(gs.foldl (fun k g=>a9 k g.bo) kw,out++gs)
 |0,kw,out=>⟨[],by simp[cr]⟩
 |n+1,kw,out=>by
  unfold cr;cases hg:bY l kw with
  |none=>exact⟨[],by simp⟩
  |some g =>
   obtain⟨gs,e⟩:=BR n (a9 kw g.bo) (out++[g]);exact⟨g::gs,by show cr l n _ _=_;rw[e];simp⟩
theorem SG(l:Li):cr l l.bo.length (cz l.bo.length 0) []=(bT l,b8 l):=by
 obtain⟨gs,e⟩:=BR (l:=l) l.bo.length (cz l.bo.length 0) [];unfold bT b8;rw[e];simp
theorem Kc{k:List Bool}:(eS k).length=0↔k.contains false=false:=by
 unfold eS;rw[ahk,afp,List.filter_eq_nil_iff];constructor
 ·intro h;rw[<- Bool.not_eq_true,afv];intro hm;obtain⟨i,hi⟩:=List.mem_iff_getElem?.1 hm;have hlt:=(afh.1 hi).1;have:=h i (afu.2 hlt);rw[ahh,hi]at this;simp at this
 ·intro h i hi;rw[<- Bool.not_eq_true,afv]at h;intro hc;have hlt:=afu.1 hi;rw[ahh,ahm hlt]at hc;simp at hc;exact h (hc▸aey hlt)
theorem tk:Sub (.agg [.v (.int .i64 0),.v (.slice none 0 0),.v (.slice none 0 0),.v (.int .i64 0)]) (Gr.av default):=.agg (.cons (.refl _) (.cons (.nil _ _ _) (.cons (.nil _ _ _) (.cons (.refl _) .nil)))) rfl
theorem Lr{z:Int}(h:aa .geq z 0=true):0<=z:=aiv h
theorem MA{z:Int}(h:aa .geq z 0=false):¬0<=z:=aiw h
theorem x5{a b c:Int}:cond (cond (aa .geq a 0) (aa .geq b 0) false) (aa .geq c 0) false=(decide (0<=a)&&decide (0<=b)&&decide (0<=c)):=by
 have e:∀z:Int,aa .geq z 0=decide (0<=z):=fun z=>rfl
 rw[e,e,e,me,me]
theorem LF{a b:Int}:cond (aa .lss a 0) true (aa .lss b 0)=!(decide (0<=a)&&decide (0<=b)):=by
 have e:∀z:Int,aa .lss z 0=!decide (0<=z):=fun z=>by rw[<- decide_not];exact decide_eq_decide.2 oz
 rw[e,e,DW,Bool.not_and]
theorem MG{a b:Int}(h:cond (aa .lss a 0) true (aa .lss b 0)=true):(decide (0<=a)&&decide (0<=b))=false:=by rw[LF]at h;exact dS h
theorem HK{a b:Int}(h:cond (aa .lss a 0) true (aa .lss b 0)=false):0<=a/\0<=b:=by
 rw[LF]at h;have:=eJ h;simpa using this
structure TieO(l:Li)(kind:Int)(bs:List Int)(z b:Int)(j:Jt):Prop where
  hz:0<=z
  hj:l.jo[z.toNat]?=some j
  kd:j.kind=kind
  tie:(j.a=b/\j.b∉bs)\/(j.b=b/\j.a∉bs)
inductive DyK(l:Li):Gr->Prop where
  |drv {b z d:Int} {j:Jt} {x:Dr} (t:TieO l 0 [b] z b j) (d0:0<=d) (hd:l.drivers[d.toNat]?=some x) (hb:x.body=b):DyK l ⟨0,[b],[z],d⟩
  |rrr {i k z0 z1 z2:Int} {j0 j1 j2:Jt} (ne:i≠k) (t0:TieO l 0 [i,k] z0 i j0) (t1:TieO l 0 [i,k] z1 k j1) (h0:0<=z2) (h2:l.jo[z2.toNat]?=some j2) (kd:j2.kind=0)
      (tie:(j2.a=i/\j2.b=k)\/(j2.b=i/\j2.a=k)):DyK l ⟨1,[i,k],[z0,z1,z2],0⟩
  |pr {i z0 z1:Int} {j0 j1:Jt} (t0:TieO l 0 [i] z0 i j0) (t1:TieO l 1 [i] z1 i j1) (ha:j1.a=i):DyK l ⟨2,[i],[z0,z1],0⟩
  |rp {i z0 z1:Int} {j0 j1:Jt} (t0:TieO l 0 [i] z0 i j0) (t1:TieO l 1 [i] z1 i j1) (ha:j1.a≠i):DyK l ⟨3,[i],[z0,z1],0⟩
theorem yA{l:Li}{kind b:Int}{oth:List Bool}(h:0<=bB l kind b oth) :
  ∃(i:Nat)(j:Jt),bB l kind b oth=(i:Int)/\l.jo[i]?=some j/\j.kind=kind/\((j.a=b/\kn oth j.b=true)\/(j.b=b/\kn oth j.a=true)):=by
 unfold bB at h ⊢;cases hf:dP l.jo.length (fun i=>!l7 kind b oth (l.jo.getD i default))with
 |none=>rw[hf]at h;exact aiz h (by decide)
 |some i =>
  obtain⟨h1,h2⟩:=fm hf;obtain⟨j,hj⟩:=aB h1;rw[aQ hj]at h2;unfold l7 at h2;simp only[agr,ahj,aio,aiu]at h2;exact⟨i,j,rfl,hj,h2.1,h2.2⟩
theorem wT{l:Li}{kind b:Int}{kw:List Bool}{bs:List Int}(hb:∀x∈bs,kn kw x=false)(h:0<=bB l kind b kw):∃j,TieO l kind bs (bB l kind b kw) b j:=by
 obtain⟨i,j,e,hj,hk,ht⟩:=yA h;have hn:∀x,kn kw x=true->x∉bs:=fun x hx hm=>by rw[hb x hm]at hx;cases hx
 refine⟨j,h,by rw[e,aij];exact hj,hk,?_⟩;rcases ht with⟨h1,h2⟩ |⟨h1,h2⟩
 ·exact .inl ⟨h1,hn _ h2⟩
 ·exact .inr ⟨h1,hn _ h2⟩
theorem sL{l:Li}{kw:List Bool}{b:Int}(h:e8 l kw b=true):kn kw b=false:=by
 unfold e8 at h;simp only[ahj,agt]at h;exact h.1
theorem yD{kw:List Bool}{b:Int}(h:kn kw b=false):∀x∈[b],kn kw x=false:=fun x hx=>by rw[ae4.1 hx];exact h
theorem Qx{l:Li}(hl:ax l=0){kw:List Bool}{g:Gr}(h:dt l kw=some g):DyK l g:=by
 unfold dt at h;rw[ahl]at h;obtain⟨i,hi,rfl⟩:=h;obtain⟨h1,h2⟩:=fm hi;obtain⟨d,hd⟩:=aB h1;unfold f9 at h2;simp only[agr,ahj,aiu,agt]at h2;rw[aQ hd]at h2 ⊢;obtain⟨j,hj⟩:=wT (yD h2.1) h2.2;exact .drv hj oz (by rw[aij];exact hd) rfl
theorem aab{l:Li}(hl:ax l=0){kw:List Bool}{g:Gr}(h:cG l kw=some g):DyK l g:=by
 unfold cG at h;rw[ahl]at h;obtain⟨i,hi,h⟩:=h;obtain⟨h1,h2⟩:=fm hi;split at h
 ·rename_i k hk;subst h;unfold gV at hk;rw [ahl] at hk;obtain ⟨k',hk',rfl⟩:=hk;obtain ⟨h3,h4⟩:=fm hk';rw [show i + 1 + k' = k' + (i + 1) by omega] at h4;unfold df at h4;simp only [agr,ahj,aiu] at h4;obtain ⟨⟨f1,f2⟩,⟨j1,j2⟩,j3⟩:=h4
  have hb:∀x∈[(i:Int),((k'+(i+1):Nat):Int)],kn kw x=false:=fun x hx=>by
   simp only[ah3,ahy,or_false]at hx;rcases hx with rfl |rfl
   ·exact sL f1
   ·exact sL f2
  obtain⟨a0,t0⟩:=wT hb j1;obtain⟨a1,t1⟩:=wT hb j2;obtain⟨n,a2,e,hj,iw,ht⟩:=yA j3;obtain⟨i1,i2,_⟩:=d8 hl hj;have i1:=(dJ i1).1;have i2:=(dJ i2).1;refine .rrr oz t0 t1 j3 (by rw[e,aij];exact hj) iw ?_;rcases ht with⟨e1,e2⟩ |⟨e1,e2⟩
  ·rw[sJ i2 oz oz]at e2;exact .inl ⟨e1,aiv e2⟩
  ·rw[sJ i1 oz oz]at e2;exact .inr ⟨e1,aiv e2⟩
 ·rename_i hk;rw[hk]at h2;cases h2
theorem Yy{l:Li}{kw:List Bool}{g:Gr}(h:d9 l kw=some g):DyK l g:=by
 unfold d9 at h;rw[ahl]at h;obtain⟨i,hi,rfl⟩:=h;obtain⟨h1,h2⟩:=fm hi;unfold fU at h2;simp only[agr,ahj,aiu]at h2;obtain⟨f1,j1,j2⟩:=h2;obtain⟨a0,t0⟩:=wT (yD (sL f1)) j1;obtain⟨a1,t1⟩:=wT (yD (sL f1)) j2;unfold iO;rw[aQ t1.hj]
 by_cases e:a1.a=i
 ·rw[ait e];exact .pr t0 t1 e
 ·rw[ais e];exact .rp t0 t1 e
theorem Qt{l:Li}(hl:ax l=0){kw:List Bool}{g:Gr}(h:bY l kw=some g):DyK l g:=by
 unfold bY at h;cases h1:dt l kw with
 |some g'=>rw[h1]at h;cases h;exact Qx hl h1
 |none =>
  rw[h1]at h;cases h2:cG l kw with
  |some g'=>rw[h2]at h;cases h;exact aab hl h2
  |none=>rw[h2]at h;exact Yy h
theorem HM{l:Li}(hl:ax l=0):∀(n:Nat)(kw:List Bool)(out:List Gr),(∀g∈out,DyK l g)->∀g∈(cr l n kw out).2,DyK l g
 |0,kw,out,h=>h
 |n+1,kw,out,h=>by
  unfold cr;cases hg:bY l kw with
  |none=>exact h
  |some g=>exact HM hl n (a9 kw g.bo) (out++[g]) (fun x hx=>by
    rcases ahn.1 hx with hx |hx
    ·exact h x hx
    ·rw[ae4.1 hx];exact Qt hl hg)
theorem lw{l:Li}(hl:ax l=0){g:Gr}(h:g∈aC l):DyK l g/\GrOk l g:=by
 unfold aC at h;split at h
 ·exact⟨HM hl _ _ _ (fun g hg=>by cases hg) g h,(zB hl).1 g h⟩
 ·cases h
open Lean.Grind
def E(r:(k:Nat)->T k)(n:Nat):Type:=T n
namespace T
theorem ofQ_zero:∀n,ofQ n 0=zero n
 |0=>rfl
 |n+1=>by simp only[ofQ,zero,ofQ_zero n]
theorem ofQ_add:∀n (p q:Rat),ofQ n (p+q)=add n (ofQ n p) (ofQ n q)
 |0,p,q=>rfl
 |n+1,p,q=>by simp only[ofQ,add,ofQ_add n,add_zero]
theorem ofQ_neg:∀n (p:Rat),ofQ n (-p)=neg n (ofQ n p)
 |0,p=>rfl
 |n+1,p=>by simp only[ofQ,neg,ofQ_neg n,JE]
end T
structure Laws(r:(k:Nat)->T k)(n:Nat):Prop where
  assoc:∀x y z,T.mul r n (T.mul r n x y) z=T.mul r n x (T.mul r n y z)
  dist:∀x y z,T.mul r n x (T.add n y z)=T.add n (T.mul r n x y) (T.mul r n x z)
  one:∀x,T.mul r n (T.ofQ n 1) x=x
theorem T.neg_mul'{r:(k:Nat)->T k}{n:Nat}(h:Laws r n)(x y:T n):T.mul r n (T.neg n x) y=T.neg n (T.mul r n x y):=by
 have h1:T.add n (T.mul r n x y) (T.mul r n (T.neg n x) y)=T.zero n:=by
  rw[T.mul_comm r n x,T.mul_comm r n (T.neg n x),<- h.dist,T.add_neg,T.mul_zero]
 have h2:=ai0 (fun z=>T.add n (T.neg n (T.mul r n x y)) z) h1;simp only[T.add_zero]at h2;rw[<- T.add_assoc,T.add_comm n (T.neg n _),T.add_neg,T.zero_add]at h2;exact h2
theorem T.mul_addr{r:(k:Nat)->T k}{n:Nat}(h:Laws r n)(a b c:T n):T.mul r n (T.add n a b) c=T.add n (T.mul r n a c) (T.mul r n b c):=by
 rw[T.mul_comm r n _ c,h.dist,T.mul_comm r n c,T.mul_comm r n c]
instance (r:(k:Nat)->T k)(n:Nat):Add (E r n):=⟨T.add n⟩
instance (r:(k:Nat)->T k)(n:Nat):Mul (E r n):=⟨T.mul r n⟩
instance (r:(k:Nat)->T k)(n:Nat):Neg (E r n):=⟨T.neg n⟩
instance (r:(k:Nat)->T k)(n:Nat):_root_.Sub (E r n):=⟨fun x y=>T.add n x (T.neg n y)⟩
instance (r:(k:Nat)->T k)(n c:Nat):OfNat (E r n) c:=⟨T.ofQ n (c:Rat)⟩
instance (r:(k:Nat)->T k)(n:Nat):NatCast (E r n):=⟨fun c=>T.ofQ n (c:Rat)⟩
instance (r:(k:Nat)->T k)(n:Nat):IntCast (E r n):=⟨fun c=>T.ofQ n (c:Rat)⟩
instance (r:(k:Nat)->T k)(n:Nat):SMul Nat (E r n):=⟨fun c x=>T.mul r n (T.ofQ n (c:Rat)) x⟩
instance (r:(k:Nat)->T k)(n:Nat):SMul Int (E r n):=⟨fun c x=>T.mul r n (T.ofQ n (c:Rat)) x⟩
def E.pow{r:(k:Nat)->T k}{n:Nat}(x:E r n):Nat->E r n
  |0=>T.ofQ n 1
  |c+1=>T.mul r n (E.pow x c) x
instance (r:(k:Nat)->T k)(n:Nat):HPow (E r n) Nat (E r n):=⟨E.pow⟩
@[reducible] def Laws.ring {r:(k:Nat)->T k} {n:Nat} (h:Laws r n):CommRing (E r n) where
  add_zero a:=by
    show T.add n a (T.ofQ n ((0:Nat):Rat))=a;rw[show(((0:Nat):Rat))=0 from rfl,T.ofQ_zero];exact T.add_zero n a
  add_comm a b:=T.add_comm n a b
  add_assoc a b c:=T.add_assoc n a b c
  mul_assoc a b c:=h.assoc a b c
  mul_one a:=(T.mul_comm r n a _).trans (h.one a)
  one_mul a:=h.one a
  left_distrib a b c:=h.dist a b c
  right_distrib a b c:=T.mul_addr h a b c
  zero_mul a:=by
    show T.mul r n (T.ofQ n ((0:Nat):Rat)) a=T.ofQ n ((0:Nat):Rat);rw[show(((0:Nat):Rat))=0 from rfl,T.ofQ_zero];exact T.zero_mul r n a
  mul_zero a:=by
    show T.mul r n a (T.ofQ n ((0:Nat):Rat))=T.ofQ n ((0:Nat):Rat);rw[show(((0:Nat):Rat))=0 from rfl,T.ofQ_zero];exact T.mul_zero r n a
  pow_zero a:=rfl
  pow_succ a c:=rfl
  ofNat_succ c:=by
    show T.ofQ n ((c+1:Nat):Rat)=T.add n (T.ofQ n (c:Rat)) (T.ofQ n ((1:Nat):Rat));rw[<- T.ofQ_add];congr 1;exact Rat.natCast_add c 1
  ofNat_eq_natCast c:=rfl
  nsmul_eq_natCast_mul c a:=rfl
  neg_add_cancel a:=(T.add_comm n (T.neg n a) a).trans ((T.add_neg n a).trans (T.ofQ_zero n).symm)
  sub a b:=T.add n a (T.neg n b)
  sub_eq_add_neg a b:=rfl
  neg_zsmul i a:=(ai0 (fun z=>T.mul r n z a) (show T.ofQ n ((-i:Int):Rat)=T.neg n (T.ofQ n (i:Rat)) by rw[Rat.intCast_neg,T.ofQ_neg])).trans (T.neg_mul' h _ a)
  zsmul_natCast_eq_nsmul c a:=rfl
  intCast_ofNat c:=rfl
  intCast_neg i:=by
    show T.ofQ n ((-i:Int):Rat)=T.neg n (T.ofQ n (i:Rat));rw[Rat.intCast_neg,T.ofQ_neg]
  mul_comm a b:=T.mul_comm r n a b
section
variable{R:Type}[CommRing R](x y u v p q d:R)
theorem XW:(x*u+y*v*d)*p+(x*v+y*u)*q*d=x*(u*p+v*q*d)+y*(u*q+v*p)*d:=by grind
theorem Y3:(x*u+y*v*d)*q+(x*v+y*u)*p=x*(u*q+v*p)+y*(u*p+v*q*d):=by grind
theorem PX:x*(u+p)+y*(v+q)*d=(x*u+y*v*d)+(x*p+y*q*d):=by grind
theorem Yf:x*(v+q)+y*(u+p)=(x*v+y*u)+(x*q+y*p):=by grind
end
theorem qz(r:(k:Nat)->T k):∀n,Laws r n
 |0=>⟨fun x y z=>Rat.mul_assoc x y z,fun x y z=>Rat.mul_add x y z,fun x=>Rat.one_mul x⟩
 |n+1=>by
  have I:=(qz r n).ring;have h1:=(qz r n).one;refine⟨?_,?_,?_⟩
  ·rintro⟨x,y⟩ ⟨u,v⟩ ⟨p,q⟩;exact Prod.ext (@XW (E r n) (qz r n).ring x y u v p q (r n)) (@Y3 (E r n) (qz r n).ring x y u v p q (r n))
  ·rintro⟨x,y⟩ ⟨u,v⟩ ⟨p,q⟩;exact Prod.ext (@PX (E r n) (qz r n).ring x y u v p q (r n)) (@Yf (E r n) (qz r n).ring x y u v p q)
  ·rintro⟨u,v⟩;refine Prod.ext ?_ ?_
   ·show T.add n (T.mul r n (T.ofQ n 1) u) (T.mul r n (T.mul r n (T.zero n) v) (r n))=u;rw[h1,T.zero_mul,T.zero_mul,T.add_zero]
   ·show T.add n (T.mul r n (T.ofQ n 1) v) (T.mul r n (T.zero n) u)=v;rw[h1,T.zero_mul,T.add_zero]
instance eRing(r:(k:Nat)->T k)(n:Nat):CommRing (E r n):=(qz r n).ring
structure Sg(R:Type)[CommRing R](s:R->Int):Prop where
  cs:∀x,s x=-1\/s x=0\/s x=1
  one:s 1=1
  neg:∀x,s (-x)=-s x
  mul:∀x y,s (x*y)=s x*s y
  add:∀x y,0<=s x->0<=s y->0<=s (x+y)
namespace Sg
variable{R:Type}[CommRing R]{s:R->Int}
theorem zero(h:Sg R s):s 0=0:=by
 have h1:=h.neg 0;rw[show -(0:R)=0 by grind]at h1;omega
theorem zadd(h:Sg R s){x y:R}(hx:s x=0):s (x+y)=s y:=by
 have h1:=h.cs y;have h2:=h.cs (x+y);have n1:=h.neg x;have n2:=h.neg y;have n3:=h.neg (x+y);have a1:=h.add x y;have a2:=h.add (-x) (-y);have a3:=h.add (-x) (x+y);have a4:=h.add x (-(x+y));rw[show -x+-y=-(x+y) by grind]at a2;rw[show -x+(x+y)=y by grind]at a3;rw[show x+-(x+y)=-y by grind]at a4;omega
theorem padd(h:Sg R s){x y:R}(hx:s x=1)(hy:0<=s y):s (x+y)=1:=by
 have h2:=h.cs (x+y);have a1:=h.add x y;have n2:=h.neg y;have n3:=h.neg (x+y);have a4:=h.add (-(x+y)) y;have e:-(x+y)+y=-x:=by grind
 have n1:=h.neg x;rw[e]at a4;rcases h2 with h2 |h2 |h2
 ·omega
 ·have:=h.zadd (x:=-(x+y)) (y:=y) oz;rw[e]at this;omega
 ·exact h2
theorem sq(h:Sg R s)(x:R):0<=s (x*x):=by
 rw[h.mul];rcases h.cs x with e |e |e <;> rw[e] <;> decide
theorem sqle(h:Sg R s){a b:R}(ha:0<=s a)(hb:0<=s (a*a-b*b)):0<=s (a+b):=by
 have c1:=h.cs (a+b);rcases c1 with c1 |c1 |c1
 ·exfalso;have n1:=h.neg (a+b);have p1:s (-(a+b)+a)=1:=h.padd oz ha;rw[show -(a+b)+a=-b by grind]at p1;have p2:s (-b+a)=1:=h.padd p1 ha;have m:=h.mul (-b+a) (a+b);rw[show(-b+a)*(a+b)=a*a-b*b by grind,p2,c1]at m;omega
 ·omega
 ·omega
theorem cancel(h:Sg R s){p x:R}(hp:s p=1)(hx:0<=s (p*x)):0<=s x:=by
 rw[h.mul,hp]at hx;omega
end Sg
def dA{r:(k:Nat)->T k}{n:Nat}(x y:E r n):E r (n+1):=((x,y):T n×T n)
def sg(r:(k:Nat)->T k)(n:Nat)(x:E r n):Int:=T.sgn r n x
def bb(r:(k:Nat)->T k)(n:Nat):E r n:=r n
variable{r:(k:Nat)->T k}{n:Nat}
theorem lH(z:E r (n+1)):∃x y:E r n,z=dA x y:=⟨z.1,z.2,rfl⟩
theorem BN(x y u v:E r n):dA x y+dA u v=dA (x+u) (y+v):=rfl
theorem Ur(x y:E r n):-dA x y=dA (-x) (-y):=rfl
theorem rW(x y u v:E r n):dA x y*dA u v=dA (x*u+y*v*bb r n) (x*v+y*u):=rfl
theorem E.zero_def:(0:E r n)=T.zero n:=T.ofQ_zero n
theorem Y9:(1:E r (n+1))=dA 1 0:=by
 show T.ofQ (n+1) ((1:Nat):Rat)=(T.ofQ n ((1:Nat):Rat),T.ofQ n ((0:Nat):Rat));rw[show(((0:Nat):Rat))=0 from rfl,T.ofQ_zero];rfl
def aH(x y:E r n):E r n:=x*x+-(y*y*bb r n)
theorem my(x y:E r n):sg r (n+1) (dA x y)=T.sgn3 (sg r n x) (sg r n y) (sg r n (bb r n)) (sg r n (aH x y)):=rfl
def PE(x y:E r n):Prop:=(0<=sg r n x/\0<=sg r n (aH x y))\/(0<=sg r n y/\0 <= -sg r n (aH x y))
theorem sO(h:Sg (E r n) (sg r n))(hd:sg r n (bb r n)=1)(x y:E r n):0<=sg r (n+1) (dA x y)↔PE x y:=by
 rw[my,hd];unfold PE
 have f1:sg r n y=0->sg r n (aH x y)=sg r n x*sg r n x:=by
  intro hy;have h1:sg r n (-(y*y*bb r n))=0:=by rw[h.neg,h.mul,h.mul,hy];simp
  have:=h.zadd (y:=x*x) h1;unfold aH;rw[show x*x+-(y*y*bb r n)=-(y*y*bb r n)+x*x by grind,this,h.mul]
 have f2:sg r n x=0->sg r n (aH x y)=-(sg r n y*sg r n y):=by
  intro hx;have h1:sg r n (x*x)=0:=by rw[h.mul,hx];simp
  have:=h.zadd (y:=-(y*y*bb r n)) h1;unfold aH;rw[this,h.neg,h.mul,h.mul,hd];simp
 have c1:=h.cs x;have c2:=h.cs y;have c3:=h.cs (aH x y)
 revert f1 f2 c1 c2 c3
 generalize sg r n x=a;generalize sg r n y=b;generalize sg r n (aH x y)=c;intro f1 f2 c1 c2 c3;rcases c1 with rfl |rfl |rfl <;> rcases c2 with rfl |rfl |rfl <;> rcases c3 with rfl |rfl |rfl <;> first |decide |(exfalso;revert f1 f2;decide)
theorem Ww(h:Sg (E r n) (sg r n))(hd:sg r n (bb r n)=1){x y u v:E r n}(h1:PE x y)(h2:PE u v):PE (x*u+y*v*bb r n) (x*v+y*u):=by
 have nm:aH (x*u+y*v*bb r n) (x*v+y*u)=aH x y*aH u v:=by unfold aH;grind
 have hn:=h.mul (aH x y) (aH u v);have d0:0<=sg r n (bb r n):=by omega
 unfold PE;rw[nm,hn];rcases h1 with⟨a1,a2⟩ |⟨a1,a2⟩ <;> rcases h2 with⟨b1,b2⟩ |⟨b1,b2⟩
 ·refine .inl ⟨h.sqle ?_ ?_,aga a2 b2⟩
  ·rw[h.mul];exact aga a1 b1
  ·have e : x * u * (x * u) - y * v * bb r n * (y * v * bb r n) = aH x y * (u * u) + y * y * bb r n * aH u v := by unfold aH; grind
   rw[e];refine h.add _ _ ?_ ?_
   ·rw[h.mul];exact aga a2 (h.sq u)
   ·rw[h.mul,h.mul];exact aga (aga (h.sq y) d0) b2
 ·refine .inr ⟨h.sqle ?_ ?_,?_⟩
  ·rw[h.mul];exact aga a1 b1
  ·have e : x * v * (x * v) - y * u * (y * u) = aH x y * (v * v) + y * y * -aH u v := by unfold aH; grind
   rw[e];refine h.add _ _ ?_ ?_
   ·rw[h.mul];exact aga a2 (h.sq v)
   ·rw[h.mul,h.neg];exact aga (h.sq y) b2
  ·rw[<- Int.mul_neg];exact aga a2 b2
 ·refine .inr ⟨?_,?_⟩
  ·rw [show x * v + y * u = y * u + x * v by grind];refine h.sqle ?_ ?_
   ·rw[h.mul];exact aga a1 b1
   ·have e : y * u * (y * u) - x * v * (x * v) = aH u v * (y * y) + v * v * -aH x y := by unfold aH; grind
    rw[e];refine h.add _ _ ?_ ?_
    ·rw[h.mul];exact aga b2 (h.sq y)
    ·rw[h.mul,h.neg];exact aga (h.sq v) a2
  ·rw[<- Int.neg_mul];exact aga a2 b2
 ·refine .inl ⟨?_,?_⟩
  ·rw [show x * u + y * v * bb r n = y * v * bb r n + x * u by grind];refine h.sqle ?_ ?_
   ·rw[h.mul,h.mul];exact aga (aga a1 b1) d0
   ·have e : y * v * bb r n * (y * v * bb r n) - x * u * (x * u) = -aH x y * (v * v * bb r n) + x * x * -aH u v := by unfold aH; grind
    rw[e];refine h.add _ _ ?_ ?_
    ·rw[h.mul,h.neg,h.mul];exact aga a2 (aga (h.sq v) d0)
    ·rw[h.mul,h.neg];exact aga (h.sq x) b2
  ·rw[<- Int.neg_mul_neg];exact aga a2 b2
theorem JV(h:Sg (E r n) (sg r n))(hd:sg r n (bb r n)=1){x y u v:E r n}(a1:0<=sg r n x)(a2:0<=sg r n (aH x y))(b1:0<=sg r n v)(b2:0 <= -sg r n (aH u v)):PE (x+u) (y+v):=by
  have cX:=h.cs (x+u);have cY:=h.cs (y+v);have cN:=h.cs (aH (x+u) (y+v));unfold PE
  by_cases hX:0<=sg r n (x+u)
  · by_cases hN:0<=sg r n (aH (x+u) (y+v))
    · exact .inl ⟨hX,hN⟩
    · by_cases hY:0<=sg r n (y+v)
      · exact .inr ⟨hY,by omega⟩
      · -- Y < 0: then N is at least 0
        exfalso;have hY':sg r n (-(y+v))=1:=by rw[h.neg];omega
        have ny:sg r n (-y)=1:=by
          have:=h.padd hY' b1
          rwa [show -(y+v)+v=-y by grind]at this
        have k1:0<=sg r n (x*v+y*u):=by
          refine h.sqle (by rw[h.mul];exact aga a1 b1) ?_;have e:x*v*(x*v)-y*u*(y*u)=aH x y*(v*v)+y*y*-aH u v:=by unfold aH;grind
          rw[e];refine h.add _ _ ?_ ?_
          · rw[h.mul];exact aga a2 (h.sq v)
          · rw[h.mul,h.neg];exact aga (h.sq y) b2
        have k2:0<=sg r n (x*v+-(y*u)):=by
          refine h.sqle (by rw[h.mul];exact aga a1 b1) ?_;have e:x*v*(x*v) - -(y*u)*-(y*u)=aH x y*(v*v)+y*y*-aH u v:=by unfold aH;grind
          rw[e];refine h.add _ _ ?_ ?_
          · rw[h.mul];exact aga a2 (h.sq v)
          · rw[h.mul,h.neg];exact aga (h.sq y) b2
        have k3:0<=sg r n (-y*(x+u)-x*-(y+v)):=by
          rw[show -y*(x+u)-x*-(y+v)=x*v+-(y*u) by grind];exact k2
        have k4:0<=sg r n (-y*(x+u)+x*-(y+v)):=by
          rw[show -y*(x+u)+x*-(y+v)=(-y*(x+u)-x*-(y+v))+(x*-(y+v)+x*-(y+v)) by grind];refine h.add _ _ k3 (h.add _ _ ?_ ?_) <;> (rw[h.mul,hY'];omega)
        have k5:0<=sg r n ((y*y)*aH (x+u) (y+v)):=by
          have e:(y*y)*aH (x+u) (y+v)=(-y*(x+u)-x*-(y+v))*(-y*(x+u)+x*-(y+v))+aH x y*(-(y+v)*-(y+v)):=by unfold aH;grind
          rw[e];refine h.add _ _ (by rw[h.mul];exact aga k3 k4) (by rw[h.mul];exact aga a2 (h.sq _))
        have k6 := h.cancel (by rw [h.mul]; rw [h.neg] at ny; have : sg r n y = -1 := by omega
                                rw[this];rfl) k5
        exact hN k6
  · have hX' : sg r n (-(x + u)) = 1 := by rw [h.neg]; omega
    have nu:sg r n (-u)=1:=by
      have:=h.padd hX' a1
      rwa [show -(x+u)+x=-u by grind]at this
    have su:sg r n u=-1:=by rw[h.neg]at nu;omega
    have hv:sg r n v=1:=by
      rcases h.cs v with e |e |e
      · omega
      · exfalso
        have h1:sg r n (-(v*v*bb r n))=0:=by rw[h.neg,h.mul,h.mul,e];simp
        have:=h.zadd (y:=u*u) h1;rw[show -(v*v*bb r n)+u*u=aH u v by unfold aH;grind,h.mul,su]at this;omega
      · exact e
    have k1:0<=sg r n (x*v+y*-u):=by
      refine h.sqle (by rw[h.mul];exact aga a1 b1) ?_;have e:x*v*(x*v)-y*-u*(y*-u)=aH x y*(v*v)+y*y*-aH u v:=by unfold aH;grind
      rw[e];refine h.add _ _ ?_ ?_
      · rw[h.mul];exact aga a2 (h.sq v)
      · rw[h.mul,h.neg];exact aga (h.sq y) b2
    have k3:0<=sg r n (-u*(y+v)-v*-(x+u)):=by
      rw[show -u*(y+v)-v*-(x+u)=x*v+y*-u by grind];exact k1
    have k4:0<=sg r n (v*-(x+u)):=by rw[h.mul,hv,hX'];decide
    have kY:0<=sg r n (y+v):=by
      refine h.cancel nu ?_;rw[show -u*(y+v)=(-u*(y+v)-v*-(x+u))+v*-(x+u) by grind];exact h.add _ _ k3 k4
    refine .inr ⟨kY,?_⟩
    have k5:0<=sg r n ((v*v)*-aH (x+u) (y+v)):=by
      have e:(v*v)*-aH (x+u) (y+v)=(-u*(y+v)-v*-(x+u))*(-u*(y+v)+v*-(x+u))+-aH u v*((y+v)*(y+v)):=by unfold aH;grind
      rw[e];have k6:0<=sg r n (-u*(y+v)+v*-(x+u)):=h.add _ _ (by rw[h.mul,nu];omega) k4;refine h.add _ _ (by rw[h.mul];exact aga k3 k6) (by rw[h.mul,h.neg];exact aga b2 (h.sq _))
    have k7:=h.cancel (by rw[h.mul,hv];rfl) k5
    rwa [h.neg]at k7
theorem Xw(h:Sg (E r n) (sg r n))(hd:sg r n (bb r n)=1){x y u v:E r n}(h1:PE x y)(h2:PE u v):PE (x+u) (y+v):=by
 have d0:0<=sg r n (bb r n):=by omega
 rcases h1 with⟨a1,a2⟩ |⟨a1,a2⟩ <;> rcases h2 with⟨b1,b2⟩ |⟨b1,b2⟩
 ·refine .inl ⟨h.add _ _ a1 b1,?_⟩
  have k:0<=sg r n (x*u+-(y*v*bb r n)):=by
   refine h.sqle (by rw[h.mul];exact aga a1 b1) ?_;have e:x*u*(x*u) - -(y*v*bb r n)*-(y*v*bb r n)=aH x y*(u*u)+y*y*bb r n*aH u v:=by unfold aH;grind
   rw[e];refine h.add _ _ ?_ ?_
   ·rw[h.mul];exact aga a2 (h.sq u)
   ·rw[h.mul,h.mul];exact aga (aga (h.sq y) d0) b2
  rw[show aH (x+u) (y+v)=(aH x y+aH u v)+((x*u+-(y*v*bb r n))+(x*u+-(y*v*bb r n))) by unfold aH;grind];exact h.add _ _ (h.add _ _ a2 b2) (h.add _ _ k k)
 ·exact JV h hd a1 a2 b1 b2
 ·rw[show x+u=u+x by grind,show y+v=v+y by grind];exact JV h hd b1 b2 a1 a2
 ·refine .inr ⟨h.add _ _ a1 b1,?_⟩
  have k:0<=sg r n (y*v*bb r n+-(x*u)):=by
   refine h.sqle (by rw[h.mul,h.mul];exact aga (aga a1 b1) d0) ?_;have e:y*v*bb r n*(y*v*bb r n) - -(x*u)*-(x*u)=-aH x y*(v*v*bb r n)+x*x*-aH u v:=by unfold aH;grind
   rw[e];refine h.add _ _ ?_ ?_
   ·rw[h.mul,h.neg,h.mul];exact aga a2 (aga (h.sq v) d0)
   ·rw[h.mul,h.neg];exact aga (h.sq x) b2
  have k2:0<=sg r n (-aH (x+u) (y+v)):=by
   rw[show -aH (x+u) (y+v)=(-aH x y+-aH u v)+((y*v*bb r n+-(x*u))+(y*v*bb r n+-(x*u))) by unfold aH;grind];exact h.add _ _ (h.add _ _ (by rw[h.neg];exact a2) (by rw[h.neg];exact b2)) (h.add _ _ k k)
  rwa [h.neg]at k2
theorem Q7(a b c d:Int):T.sgn3 (-a) (-b) c d=-T.sgn3 a b c d:=by
 unfold T.sgn3;have e:(-a=-b \/ -b=0)↔(a=b\/b=0):=by omega
 simp only[e];split
 ·rfl
 ·split
  ·rfl
  ·by_cases h:a=0
   ·rw[ait oz,ait h]
   ·rw[ais oz,ais h,Int.neg_mul]
theorem aax(h:Sg (E r n) (sg r n))(hd:0<=sg r n (bb r n)):Sg (E r (n+1)) (sg r (n+1)):=by
 have bp:∀z:E r (n+1),sg r (n+1) z=-1\/sg r (n+1) z=0\/sg r (n+1) z=1:=fun z=>T.sgn_cases r (n+1) z
 have uo:sg r (n+1) 1=1:=by
  rw[Y9,my,h.one,h.zero];unfold T.sgn3;split
  ·rfl
  ·simp
 have jm:∀z:E r (n+1),sg r (n+1) (-z)=-sg r (n+1) z:=by
  intro z;obtain⟨x,y,rfl⟩:=lH z;rw[Ur,my,my,h.neg,h.neg,show aH (-x) (-y)=aH x y by unfold aH;grind,Q7]
 by_cases pY:sg r n (bb r n)=0
 ·have e0:∀x y:E r n,sg r (n+1) (dA x y)=sg r n x:=by
   intro x y;rw[my,pY];unfold T.sgn3;rw[ait rfl]
  refine⟨bp,uo,jm,?_,?_⟩
  ·intro z w;obtain ⟨x,y,rfl⟩:=lH z;obtain ⟨u,v,rfl⟩:=lH w;rw [rW,e0,e0,e0];have h1:sg r n (y * v * bb r n) = 0:=by rw [h.mul,pY]; simp
   have:=h.zadd (y:=x*u) h1;rw[show x*u+y*v*bb r n=y*v*bb r n+x*u by grind,this,h.mul]
  ·intro z w;obtain⟨x,y,rfl⟩:=lH z;obtain⟨u,v,rfl⟩:=lH w;rw[BN,e0,e0,e0];exact h.add x u
 ·have fL : sg r n (bb r n) = 1 := by rcases h.cs (bb r n) with e | e | e <;> omega
  have od:∀z w:E r (n+1),0<=sg r (n+1) z->0<=sg r (n+1) w->0<=sg r (n+1) (z+w):=by
   intro z w;obtain⟨x,y,rfl⟩:=lH z;obtain⟨u,v,rfl⟩:=lH w;rw[BN,sO h fL,sO h fL,sO h fL];exact Xw h fL
  have kQ:∀z w:E r (n+1),0<=sg r (n+1) z->0<=sg r (n+1) w->0<=sg r (n+1) (z*w):=by
   intro z w;obtain⟨x,y,rfl⟩:=lH z;obtain⟨u,v,rfl⟩:=lH w;rw[rW,sO h fL,sO h fL,sO h fL];exact Ww h fL
  have A9:∀z w:E r (n+1),sg r (n+1) z=0->sg r (n+1) (w*z)=0:=by
   intro z w hz;have n1:=jm z;have n2:=jm w;have n3:=jm (w*z);have m1:=kQ w z;have m2:=kQ w (-z);have m3:=kQ (-w) z;have m4:=kQ (-w) (-z);rw[show w*-z=-(w*z) by grind]at m2;rw[show -w*z=-(w*z) by grind]at m3;rw[show -w*-z=w*z by grind]at m4;rcases bp w with e |e |e <;> omega
  have O9:∀(a u v:E r n),sg r (n+1) (dA (a*u) (a*v))=sg r n a*sg r (n+1) (dA u v):=by
   intro a u v;rw[my,my,show aH (a*u) (a*v)=a*a*aH u v by unfold aH;grind,h.mul,h.mul,h.mul,h.mul,fL]
   have f1:sg r n v=0->sg r n (aH u v)=sg r n u*sg r n u:=by
    intro hy;have h1:sg r n (-(v*v*bb r n))=0:=by rw[h.neg,h.mul,h.mul,hy];simp
    have:=h.zadd (y:=u*u) h1;unfold aH;rw[show u*u+-(v*v*bb r n)=-(v*v*bb r n)+u*u by grind,this,h.mul]
   have c1:=h.cs u;have c2:=h.cs v;have c3:=h.cs (aH u v);have c4:=h.cs a
   revert c1 c2 c3 c4
   generalize sg r n u=a1;generalize sg r n v=b1;generalize sg r n (aH u v)=c1;generalize sg r n a=e1;intro c1 c2 c3 c4;rcases c1 with rfl |rfl |rfl <;> rcases c2 with rfl |rfl |rfl <;> rcases c3 with rfl |rfl |rfl <;> rcases c4 with rfl |rfl |rfl <;> decide
  have acy:∀z w:E r (n+1),sg r (n+1) z=1->0<=sg r (n+1) w->sg r (n+1) (z+w)=1:=by
   intro z w hz hw;have a1:=od z w oz hw;rcases bp (z+w)with e |e |e
   ·omega
   ·exfalso;have n1:=jm z;have n2:=jm (z+w);have a2:=od (-(z+w)) w oz hw;rw[show -(z+w)+w=-z by grind]at a2;omega
   ·exact e
  have Ba:∀z w:E r (n+1),sg r (n+1) z=1->sg r (n+1) w=1->sg r (n+1) (z*w)=1:=by
   intro z w hz hw;obtain⟨x,y,rfl⟩:=lH z;obtain⟨u,v,rfl⟩:=lH w;have p0:=kQ _ _ (by omega:0<=sg r (n+1) (dA x y)) (by omega:0<=sg r (n+1) (dA u v));rcases bp (dA x y*dA u v)with e |e |e
   ·omega
   ·exfalso
    by_cases hN:sg r n (aH x y)=0
    ·have xx:sg r n x=1/\sg r n y=1:=by
      rw[my,fL,hN]at hz
      have f1:sg r n y=0->sg r n (aH x y)=sg r n x*sg r n x:=by
       intro hy;have h1:sg r n (-(y*y*bb r n))=0:=by rw[h.neg,h.mul,h.mul,hy];simp
       have:=h.zadd (y:=x*x) h1;unfold aH;rw[show x*x+-(y*y*bb r n)=-(y*y*bb r n)+x*x by grind,this,h.mul]
      have f2:sg r n x=0->sg r n (aH x y)=-(sg r n y*sg r n y):=by
       intro hx;have h1:sg r n (x*x)=0:=by rw[h.mul,hx];simp
       have:=h.zadd (y:=-(y*y*bb r n)) h1;unfold aH;rw[this,h.neg,h.mul,h.mul,fL];simp
      rw[hN]at f1 f2;have c1:=h.cs x;have c2:=h.cs y
      revert hz f1 f2 c1 c2
      generalize sg r n x=a;generalize sg r n y=b;intro hz f1 f2 c1 c2;rcases c1 with rfl |rfl |rfl <;> rcases c2 with rfl |rfl |rfl <;> revert hz f1 f2 <;> decide
     have k1:sg r (n+1) (dA (x*u) (x*v))=1:=by rw[O9,xx.1,hw];rfl
     have k2:0<=sg r (n+1) (dA 0 y):=by
      rw[my,h.zero,xx.2,fL];unfold T.sgn3;simp
     have k3:=kQ _ _ k2 (by omega:0<=sg r (n+1) (dA u v));have k4:=acy _ _ k1 k3;rw[rW,BN]at k4;rw[rW]at e;rw[show x*u+(0*u+y*v*bb r n)=x*u+y*v*bb r n by grind,show x*v+(0*v+y*u)=x*v+y*u by grind]at k4;omega
    ·have k1:=A9 _ (dA x (-y)) e;rw[show dA x (-y)*(dA x y*dA u v)=dA (aH x y*u) (aH x y*v) by rw[rW,rW];unfold aH;congr 1 <;> grind,O9,hw]at k1;omega
   ·exact e
  refine⟨bp,uo,jm,?_,od⟩;intro z w;rcases bp w with e |e |e
  ·rcases bp z with e' |e' |e'
   ·have := Ba (-z) (-w) (by rw[jm];omega) (by rw[jm];omega);rw[show -z*-w=z*w by grind]at this;rw[this,e,e'];rfl
   ·have:=A9 z w e';rw[show w*z=z*w by grind]at this;rw[this,e'];simp
   ·have := Ba z (-w) e' (by rw[jm];omega);rw[show z*-w=-(z*w) by grind,jm]at this;rw[e,e'];omega
  ·rw[A9 w z e,e];simp
  ·rcases bp z with e' |e' |e'
   ·have := Ba (-z) w (by rw[jm];omega) e;rw[show -z*w=-(z*w) by grind,jm]at this;rw[e,e'];omega
   ·have:=A9 z w e';rw[show w*z=z*w by grind]at this;rw[this,e'];simp
   ·rw[Ba z w e' e,e,e'];rfl
theorem mj(q:Rat):a7 q=-1/\q<0\/a7 q=0/\q=0\/a7 q=1/\0<q:=by
 unfold a7;split
 ·exact .inl ⟨rfl,by assumption⟩
 ·split
  ·exact .inr (.inr ⟨rfl,by assumption⟩)
  ·exact .inr (.inl ⟨rfl,by grind⟩)
theorem CP{q:Rat}(h:0<q):a7 q=1:=by
 rcases mj q with⟨_,h'⟩ |⟨_,h'⟩ |⟨e,_⟩
 ·grind
 ·grind
 ·exact e
theorem CF{q:Rat}(h:q<0):a7 q=-1:=by
 rcases mj q with⟨e,_⟩ |⟨_,h'⟩ |⟨_,h'⟩
 ·exact e
 ·grind
 ·grind
theorem Tx(q:Rat):a7 (-q)=-a7 q:=by
 rcases mj q with⟨e,h⟩ |⟨e,h⟩ |⟨e,h⟩
 ·rw[e,CP (by grind)];rfl
 ·rw[h];rfl
 ·rw[e,CF (by grind)]
theorem TQ(p q:Rat):a7 (p*q)=a7 p*a7 q:=by
 have h0:a7 0=0:=rfl;rcases mj p with⟨e,h⟩ |⟨e,h⟩ |⟨e,h⟩ <;> rcases mj q with⟨e',h'⟩ |⟨e',h'⟩ |⟨e',h'⟩
 ·have := agi (a := -p) (b := -q) (by grind) (by grind);rw[e,e',CP (by grind)];rfl
 ·rw[h',Rat.mul_zero,h0];simp
 ·have := agi (a := -p) (b := q) (by grind) h';rw[e,e',CF (by grind)];rfl
 ·rw[h,Rat.zero_mul,h0];simp
 ·rw[h,Rat.zero_mul,h0];simp
 ·rw[h,Rat.zero_mul,h0];simp
 ·have := agi (a := p) (b := -q) h (by grind);rw[e,e',CF (by grind)];rfl
 ·rw[h',Rat.mul_zero,h0];simp
 ·rw[e,e',CP (agi h h')];rfl
theorem Zm(p q:Rat)(h1:0<=a7 p)(h2:0<=a7 q):0<=a7 (p+q):=by
 rcases mj (p+q)with⟨e,h⟩ |⟨e,h⟩ |⟨e,h⟩
 ·exfalso;rcases mj p with⟨e1,g1⟩ |⟨e1,g1⟩ |⟨e1,g1⟩ <;> rcases mj q with⟨e2,g2⟩ |⟨e2,g2⟩ |⟨e2,g2⟩ <;> first |omega |grind
 ·omega
 ·omega
theorem V6(r:(k:Nat)->T k):Sg (E r 0) (sg r 0) :=
 ⟨fun q=>T.sgnQ_cases q,rfl,fun q=>Tx q,fun p q=>TQ p q,fun p q=>Zm p q⟩
def fO(r:(k:Nat)->T k)(n:Nat):Prop:=∀j,j<n->0<=T.sgn r j (r j)
theorem ox(r:(k:Nat)->T k):∀n,fO r n->Sg (E r n) (sg r n)
 |0,_=>V6 r
 |n+1,h=>aax (ox r n (fun j hj=>h j oz)) (h n oz)
end Go.Lw
namespace Go.Lw
def xA{r:(k:Nat)->T k}{n:Nat}(x:E r n):AV:=nA (sh n x)
abbrev Pn(r:(k:Nat)->T k)(n:Nat):Type:=E r n×E r n
def nv(r:(k:Nat)->T k)(n:Nat):LL:=(List.range n).map fun k=>enc k (r k)
def qE{r:(k:Nat)->T k}{n:Nat}(q:Rat):E r n:=T.ofQ n q
theorem Cz:∀(n:Nat)(q:Rat),sh n (T.ofQ n q)=sh 0 (q:Rat)
 |0,q=>rfl
 |n+1,q=>by
  show(if T.isZ n (T.zero n)=true then sh n (T.ofQ n q)else _)=_;rw[ait ((T.isZ_iff n _).2 rfl),Cz n q]
theorem Oq:∀n:Nat,sh n (T.zero n)=[]
 |0=>rfl
 |n+1=>by
  show(if T.isZ n (T.zero n)=true then sh n (T.zero n)else _)=_;rw[ait ((T.isZ_iff n _).2 rfl),Oq n]
theorem vh(r:(k:Nat)->T k)(n:Nat):(nv r n).length=n:=by simp[nv]
theorem Ka{r:(k:Nat)->T k}{n j:Nat}(h:j<n):(nv r n).getD j []=enc j (r j):=by
 unfold nv;rw[ahh,aho,List.getElem?_range h];rfl
theorem Us{r:(k:Nat)->T k}{n j:Nat}(h:j<n):aD (nv r n) j=r j:=by
 unfold aD;rw[Ka h,zG]
theorem MK{ts:LL}{R:Nat}(tw:Tw ts R):ts=nv (aD ts) ts.length:=by
 apply List.ext_getElem?;intro j
 by_cases hj:j<ts.length
 ·have h1:=Ka (r:=aD ts) hj;have h2:=tw.len j hj;rw[ahh]at h1;rw[ahm (show j<(nv (aD ts) ts.length).length by rw[vh];exact hj)]at h1 ⊢;rw[ahe]at h1;rw[h1,ahm hj];unfold aD;rw[so _ _ h2,ahh,ahm hj];rfl
 ·rw[aht oz,aht (by rw[vh];omega)]
class Cx(r:(k:Nat)->T k)(n:Nat)(u k:outParam Nat):Prop where
  ex:∃R,Tw (nv r n) R/\eB R n<=k
  k1:1<=k
  u3:3<=u
class Zu(u k:Nat){r:(k:Nat)->T k}{n:Nat}(x:E r n)(w v:outParam Nat):Prop where
  nm:Nm n (w*u+v*k) (sh n x)
class Zp(u k:Nat){r:(k:Nat)->T k}{n:Nat}(p:Pn r n)(w v:outParam Nat):Prop where
  x:Nm n (w*u+v*k) (sh n p.1)
  y:Nm n (w*u+v*k) (sh n p.2)
class Qz(u:Nat)(q:Rat)(w:outParam Nat):Prop where
  cb:Cb (w*u) [q]
section
variable{r:(k:Nat)->T k}{n u k:Nat}
theorem Cx.five(c:Cx r n u k):n<=5:=by obtain⟨R,tw,_⟩:=c.ex;have:=tw.five;rwa [vh]at this
theorem Cx.three(c:Cx r n u k):n<=3:=by obtain⟨R,tw,_⟩:=c.ex;have:=tw.three;rwa [vh]at this
theorem EQ(w v w' v' u k:Nat):(w*u+v*k)+(w'*u+v'*k)=(w+w')*u+(v+v')*k:=by
 rw[ad2,ad2];omega
theorem Nm.eq{n e f:Nat}{l:List Rat}(h:Nm n e l)(hf:e=f):Nm n f l:=hf▸h
theorem Nm.addT{e f:Nat}{x y:T n}(hx:Nm n e (sh n x))(hy:Nm n f (sh n y)):Nm n (e+f+1) (sh n (T.add n x y)):=by
 have h:=hx.add hy
 rwa [dY,dY]at h
theorem Nm.subT{e f:Nat}{x y:T n}(hx:Nm n e (sh n x))(hy:Nm n f (sh n y)):Nm n (e+f+1) (sh n (T.add n x (T.neg n y))):=by
 have h:=hx.sub hy
 rwa [dY,dY]at h
theorem Nm.negT{e:Nat}{x:T n}(hx:Nm n e (sh n x)):Nm n e (sh n (T.neg n x)):=by
 have h:=hx.neg
 rwa [dY]at h
theorem Nm.mulT{R e f:Nat}(tw:Tw (nv r n) R){x y:T n}(hx:Nm n e (sh n x))(hy:Nm n f (sh n y)):Nm n (e+f+eB R n) (sh n (T.mul r n x y)):=by
 have h:=Nm.mul tw (vh r n).symm hx hy
 rwa [dY,dY,T.mul_congr n (fun j hj=>Us hj)]at h
instance Zu.add[c:Cx r n u k]{x y:E r n}{w v w' v':Nat}[hx:Zu u k x w v][hy:Zu u k y w' v']:Zu u k (x+y) (w+w') (v+v'+1) :=
  ⟨(Nm.addT hx.nm hy.nm).mono (by rw[EQ,ad2 _ 1];have:=c.k1;omega)⟩
instance Zu.sub[c:Cx r n u k]{x y:E r n}{w v w' v':Nat}[hx:Zu u k x w v][hy:Zu u k y w' v']:Zu u k (x-y) (w+w') (v+v'+1) :=
  ⟨(Nm.subT hx.nm hy.nm).mono (by rw[EQ,ad2 _ 1];have:=c.k1;omega)⟩
instance Zu.neg{x:E r n}{w v:Nat}[hx:Zu u k x w v]:Zu u k (-x) w v:=⟨Nm.negT hx.nm⟩
instance Zu.mul[c:Cx r n u k]{x y:E r n}{w v w' v':Nat}[hx:Zu u k x w v][hy:Zu u k y w' v']:Zu u k (x*y) (w+w') (v+v'+1):=by
  obtain⟨R,tw,hk⟩:=c.ex;exact⟨(Nm.mulT tw hx.nm hy.nm).mono (by rw[EQ,ad2 _ 1];omega)⟩
instance Zu.qE[c:Cx r n u k]{q:Rat}{w:Nat}[h:Qz u q w]:Zu u k (qE q:E r n) w 0:=⟨by
  show Nm n _ (sh n (T.ofQ n q));rw[Cz];exact(Nm.ofQ c.five h.cb).eq oz⟩
theorem Cb.int{e:Nat}{z:Int}(h:z.natAbs<=2^e):Cb e [(z:Rat)] :=
 ⟨1,z.natAbs,⟨by omega,fun q hq=>⟨z,by rw[ae4.1 hq];exact Rat.mul_one _,ahr _⟩⟩,Nat.one_le_two_pow,h⟩
theorem Qz.int[c:Cx r n u k]{z:Int}(h:z.natAbs<=8):Qz u (z:Rat) 1:=⟨Cb.int (ah8 h (show 2^3<=_ from d7 (by have:=c.u3;omega)))⟩
instance Zu.c0[c:Cx r n u k]:Zu u k (0:E r n) 0 0:=⟨by
  show Nm n _ (sh n (T.ofQ n ((0:Nat):Rat)));rw[show(((0:Nat):Rat))=0 from rfl,T.ofQ_zero,Oq];exact⟨c.five,.inl rfl,Cb.nil.mono (ahv _)⟩⟩
instance Zu.c1[c:Cx r n u k]:Zu u k (1:E r n) 1 0:=by
  haveI:Qz u ((1:Nat):Rat) 1:=Qz.int (c:=c) (z:=1) (by decide);exact(ai1:Zu u k (Go.Lw.qE ((1:Nat):Rat):E r n) 1 0)
instance Zu.c2[c:Cx r n u k]:Zu u k (2:E r n) 1 0:=by
  haveI:Qz u ((2:Nat):Rat) 1:=Qz.int (c:=c) (z:=2) (by decide);exact(ai1:Zu u k (Go.Lw.qE ((2:Nat):Rat):E r n) 1 0)
instance Zu.c4[c:Cx r n u k]:Zu u k (4:E r n) 1 0:=by
  haveI:Qz u ((4:Nat):Rat) 1:=Qz.int (c:=c) (z:=4) (by decide);exact(ai1:Zu u k (Go.Lw.qE ((4:Nat):Rat):E r n) 1 0)
instance Zu.px{p:Pn r n}{w v:Nat}[h:Zp u k p w v]:Zu u k p.1 w v:=⟨h.x⟩
instance Zu.py{p:Pn r n}{w v:Nat}[h:Zp u k p w v]:Zu u k p.2 w v:=⟨h.y⟩
theorem M6{w v w' v' u k:Nat}(h:w<=w')(h':v<=v'):w*u+v*k<=w'*u+v'*k:=Nat.add_le_add (ah0 _ h) (ah0 _ h')
instance Zp.mk'{x y:E r n}{w v w' v':Nat}[hx:Zu u k x w v][hy:Zu u k y w' v']:Zp u k ((x,y):Pn r n) (max w w') (max v v') :=
  ⟨hx.nm.mono (M6 (Nat.le_max_left ..) (Nat.le_max_left ..)),hy.nm.mono (M6 (Nat.le_max_right ..) (Nat.le_max_right ..))⟩
def RS(p q:Pn r n):Pn r n:=(p.1+q.1,p.2+q.2)
def ZT(p q:Pn r n):Pn r n:=(p.1-q.1,p.2-q.2)
def aaj(c:E r n)(p:Pn r n):Pn r n:=(c*p.1,c*p.2)
def Ut(p q:Pn r n):E r n:=p.1*q.1+p.2*q.2
def Z1(p q:Pn r n):E r n:=p.1*q.2-p.2*q.1
def WA(c s:E r n)(p:Pn r n):Pn r n:=(c*p.1-s*p.2,s*p.1+c*p.2)
def pQ(x y:Rat):Pn r n:=(qE x,qE y)
def U2(p:Pn r n):Pn r n:=(-p.2,p.1)
instance Zp.add[c:Cx r n u k]{p q:Pn r n}{w v w' v':Nat}[hp:Zp u k p w v][hq:Zp u k q w' v']:Zp u k (RS p q) (w+w') (v+v'+1) :=
  ⟨(ai1:Zu u k (p.1+q.1) (w+w') (v+v'+1)).nm,(ai1:Zu u k (p.2+q.2) (w+w') (v+v'+1)).nm⟩
instance Zp.sub[c:Cx r n u k]{p q:Pn r n}{w v w' v':Nat}[hp:Zp u k p w v][hq:Zp u k q w' v']:Zp u k (ZT p q) (w+w') (v+v'+1) :=
  ⟨(ai1:Zu u k (p.1-q.1) (w+w') (v+v'+1)).nm,(ai1:Zu u k (p.2-q.2) (w+w') (v+v'+1)).nm⟩
instance Zp.scale[c:Cx r n u k]{a:E r n}{q:Pn r n}{w v w' v':Nat}[hp:Zu u k a w v][hq:Zp u k q w' v']:Zp u k (aaj a q) (w+w') (v+v'+1) :=
  ⟨(ai1:Zu u k (a*q.1) (w+w') (v+v'+1)).nm,(ai1:Zu u k (a*q.2) (w+w') (v+v'+1)).nm⟩
instance Zu.dot[c:Cx r n u k]{p q:Pn r n}{w v w' v':Nat}[hp:Zp u k p w v][hq:Zp u k q w' v']:Zu u k (Ut p q) (w+w'+(w+w')) (v+v'+1+(v+v'+1)+1) :=
  (ai1:Zu u k (p.1*q.1+p.2*q.2) _ _)
instance Zu.cross[c:Cx r n u k]{p q:Pn r n}{w v w' v':Nat}[hp:Zp u k p w v][hq:Zp u k q w' v']:Zu u k (Z1 p q) (w+w'+(w+w')) (v+v'+1+(v+v'+1)+1) :=
  (ai1:Zu u k (p.1*q.2-p.2*q.1) _ _)
instance Zp.turn[c:Cx r n u k]{a b:E r n}{p:Pn r n}{w v w' v' w2 v2:Nat}[ha:Zu u k a w v][hb:Zu u k b w' v'][hp:Zp u k p w2 v2] :
    Zp u k (WA a b p) (w+w2+(w'+w2)) (v+v2+1+(v'+v2+1)+1) :=
  ⟨(ai1:Zu u k (a*p.1-b*p.2) _ _).nm,by
    have h:=(ai1:Zu u k (b*p.1+a*p.2) _ _).nm;exact h.eq (by rw[adk (w'+w2),adk (v'+v2+1)])⟩
instance Zp.ofQ[c:Cx r n u k]{x y:Rat}{w w':Nat}[hx:Qz u x w][hy:Qz u y w']:Zp u k (pQ x y:Pn r n) (max w w') (max 0 0) :=
  (ai1:Zp u k ((qE x,qE y):Pn r n) _ _)
instance Zp.quart{p:Pn r n}{w v:Nat}[hp:Zp u k p w v]:Zp u k (U2 p) w v:=⟨(ai1:Zu u k (-p.2) w v).nm,hp.x⟩
end
theorem LB(rs:List (List Rt)):(llq rs).length=rs.length:=by simp[llq]
abbrev Et(ts:LL):Type:=E (aD ts) ts.length
def dE(ts:LL)(a:List Rat):Et ts:=ao ts.length a
def sX{ts:LL}(x:Et ts):List Rat:=sh ts.length x
def aZ{ts:LL}(x:Et ts):Int:=T.sgn (aD ts) ts.length x
class Ct(ts:LL)(u k:outParam Nat):Prop where
  ex:∃R,Tw ts R/\eB R ts.length<=k
  k1:1<=k
  u3:3<=u
  ub:u<=1000000
  kb:k<=1000000
instance Ct.cx{ts:LL}{u k:Nat}[c:Ct ts u k]:Cx (aD ts) ts.length u k:=by
  obtain⟨R,tw,h⟩:=c.ex;exact⟨⟨R,MK tw▸tw,h⟩,c.k1,c.u3⟩
class Zl(ts:LL)(u k:Nat)(a:List Rat)(x:outParam (Et ts))(w v:outParam Nat):Prop where
  eq:ao ts.length a=x
  nm:Nm ts.length (w*u+v*k) a
section
variable{ts:LL}{u k:Nat}
instance Zl.sX{x:Et ts}{w v:Nat}[h:Zu u k x w v]:Zl ts u k (sX x) x w v:=⟨dY _ _,h.nm⟩
instance Zl.q[c:Ct ts u k]{q:Rat}{w:Nat}[h:Qz u q w]:Zl ts u k (sh 0 (q:Rat)) (qE q:Et ts) w 0:=⟨tJ _ q,by
  obtain⟨R,tw,_⟩:=c.ex;exact(Nm.ofQ tw.five h.cb).eq oz⟩
instance Zl.nil [c : Ct ts u k] : Zl ts u k [] (0 : Et ts) 0 0 := ⟨by rw [oB]; exact E.zero_def.symm, by
  obtain⟨R,tw,_⟩:=c.ex;exact⟨tw.five,.inl rfl,Cb.nil.mono (ahv _)⟩⟩
theorem Zl.at{a:List Rat}{e:Nat}(h:Nm ts.length e a)(he:e<=u):Zl ts u k a (dE ts a) 1 0:=⟨rfl,h.mono oz⟩
theorem aah(c:Ct ts u k){w v m:Nat}(h:w+v<=m):w*u+v*k<=m*1000000:=by
 have h1:w*u<=w*1000000:=ahu _ c.ub;have h2:v*k<=v*1000000:=ahu _ c.kb;omega
theorem Zl.up(c:Ct ts u k){a:List Rat}{x:Et ts}{w v m:Nat}(h:Zl ts u k a x w v)(hm:w+v<=m):Nm ts.length (m*1000000) a:=h.nm.mono (aah c hm)
theorem Ct.kk(c:Ct ts u k){R:Nat}(h:eB R ts.length<=k):kB R ts.length<=1000000:=ah8 h c.kb
def dotE(x y z t:Et ts):Et ts:=x*z+y*t
def crsE(x y z t:Et ts):Et ts:=x*t-y*z
instance Zu.dotE[c:Ct ts u k]{x y z t:Et ts}{w1 v1 w2 v2 w3 v3 w4 v4:Nat}[Zu u k x w1 v1][Zu u k y w2 v2][Zu u k z w3 v3][Zu u k t w4 v4]:Zu u k (dotE x y z t) (w1+w3+(w2+w4)) (v1+v3+1+(v2+v4+1)+1) :=
  (ai1:Zu u k (x*z+y*t) _ _)
instance Zu.crsE[c:Ct ts u k]{x y z t:Et ts}{w1 v1 w2 v2 w3 v3 w4 v4:Nat}[Zu u k x w1 v1][Zu u k y w2 v2][Zu u k z w3 v3][Zu u k t w4 v4]:Zu u k (crsE x y z t) (w1+w4+(w2+w3)) (v1+v4+1+(v2+v3+1)+1) :=
  (ai1:Zu u k (x*t-y*z) _ _)
end
def yy(xs:List Int):List Int:=xs.mergeSort (fun a b=>decide (a<=b))
theorem WV(xs:List Int):(yy xs).Perm xs:=List.mergeSort_perm _ _
theorem LD{xs:List Int}{b:Int}:b∈yy xs↔b∈xs:=(WV xs).mem_iff
theorem VQ(e:Nat)(l:List Nat):ii (e::l)=if e≠0 then e else ii l:=rfl
theorem HL{α:Type}{f:α->Nat}{L:List α}(h:∀x∈L,f x=0):ii (L.map f)=0:=by
 induction L with
 |nil=>rfl
 |cons x L ih =>
  rw[aiq,VQ,ais (by rw[h x (aig ..)];simp)];exact ih (fun y hy=>h y (ah6 _ hy))
def eI(g:Gr)(j:Jt):Int:=if g.bo.contains j.a=true then(if g.bo.contains j.b=true then -1 else j.b)else j.a
def ci(l:Li)(g:Gr):List Int:=g.jo.map (fun j=>eI g (l.jo.getD j.toNat default))
theorem pv(l:Li)(g:Gr):(ci l g).length=g.jo.length:=by unfold ci;rw[ahk]
theorem Zr{l:Li}(hl:ax l=0){g:Gr}(hg:GrOk l g):∀b∈ci l g,b<l.bo.length:=by
 intro b hb;unfold ci at hb;obtain⟨z,hz,rfl⟩:=aft.1 hb;obtain⟨z0,z1⟩:=hg.j z hz;obtain⟨j,hj⟩:=aB (l:=l.jo) (i:=z.toNat) oz;rw[aQ hj];obtain⟨i1,i2,_⟩:=d8 hl hj;have i1:=dJ i1;have i2:=dJ i2;unfold eI;split
 ·split
  ·omega
  ·omega
 ·omega
def mF(l:Li)(g:Gr)(own:Bool):List Int:=ci l g++(if own=true then g.bo else[])
theorem JQ{l:Li}(hl:ax l=0){g:Gr}(hg:GrOk l g){own:Bool}:∀b∈mF l g own,b<l.bo.length:=by
 intro b hb;rcases ahn.1 hb with hb |hb
 ·exact Zr hl hg b hb
 ·split at hb
  ·exact(hg.b b hb).2
  ·cases hb
def tm(a:As)(b:Int):Nat:=if b<0 then 0 else oO a.rs (a.bs.getD b.toNat default).l
def w8(l:Li)(k:Int):Gr:=(aC l).getD k.toNat default
def vR(l:Li)(k:Int)(a:As)(own:Bool):Nat :=
  if bS l≠0 then bS l else if k<0\/((aC l).length:Int)<=k then 9 else if a.bs.length≠l.bo.length then 10 else if fg a.rs≠0 then fg a.rs
  else ii ((yy (mF l (w8 l k) own)).map (tm a))
def vL(l:Li)(k:Int)(a:As)(own:Bool):Nat:=if ax l≠0 then ax l else vR l k a own
section
variable{l:Li}{k:Int}{a:As}{own:Bool}
theorem YA(h:ax l=0):vL l k a own=vR l k a own:=by unfold vL;rw[ais oz]
theorem ab1(hs:bS l=0)(hk:¬(k<0\/((aC l).length:Int)<=k))(hb:a.bs.length=l.bo.length)(hc:fg a.rs=0):vR l k a own=ii ((yy (mF l (w8 l k) own)).map (tm a)):=by
 unfold vR;rw[ais oz,ais hk,ais oz,ais oz]
end
structure DyOk(E:Nat)(l:Li)(k:Int)(a:As)(own:Bool)(i:Nat)(g:Gr):Prop where
  li:ax l=0
  sp:bS l=0
  hk:k=(i:Int)
  hg:(aC l)[i]?=some g
  ok:GrOk l g
  dy:DyK l g
  ln:a.bs.length=l.bo.length
  chk:fg a.rs=0
  nd:∀b∈mF l g own,tm a b=0
  sm:∀b∈mF l g own,0<=b->∀p,a.bs[b.toNat]?=some p->∀x∈p.l,NR x E
def Kw(E:Nat)(l:Li)(k:Int)(a:As)(own:Bool):Prop:=∀b∈mF l (w8 l k) own,0<=b->∀p,a.bs[b.toNat]?=some p->∀x∈p.l,NR x E
theorem SQ{l:Li}{k:Int}{a:As}{own:Bool}{E:Nat}(hs:Kw E l k a own)(h:vL l k a own=0):∃i g,DyOk E l k a own i g:=by
 unfold vL at h;split at h
 ·rename_i h1;exact aiz h h1
 ·rename_i h1;have h1:=ahf.1 h1;unfold vR at h;split at h
  ·rename_i h2;exact aiz h h2
  ·rename_i h2;split at h
   ·cases h
   ·rename_i h3;split at h
    ·cases h
    ·rename_i h4;split at h
     ·rename_i h5;exact aiz h h5
     ·rename_i h5;obtain⟨g,hg⟩:=aB (l:=aC l) (i:=k.toNat) oz;have e:w8 l k=g:=aQ hg;rw[e]at h;obtain⟨d1,d2⟩:=lw h1 (ahg hg);refine⟨k.toNat,g,h1,by omega,by omega,hg,d2,d1,by omega,by omega,fun b hb=>?_,e▸hs⟩;exact r8 h _ (aft.2 ⟨b,LD.2 hb,rfl⟩)
theorem DyOk.body{E:Nat}{l:Li}{k:Int}{a:As}{own:Bool}{i:Nat}{g:Gr}(h:DyOk E l k a own i g){b:Int}(hb:b∈mF l g own)(h0:0<=b):∃p,a.bs[b.toNat]?=some p/\oO a.rs p.l=0/\∀x∈p.l,NR x E:=by
 have h1:=JQ h.li h.ok b hb;obtain⟨p,hp⟩:=aB (l:=a.bs) (i:=b.toNat) (by have:=h.ln;omega);have h2:=h.nd b hb;unfold tm at h2;rw[ais oz,aQ hp]at h2;exact⟨p,hp,h2,h.sm b hb h0 p hp⟩
theorem Tk{a b:Nat}(h:aa .neq (a:Int) (b:Int)=true):a≠b:=by
 have h1:((a:Int) != (b:Int))=true:=h;have h2:=bne_iff_ne.1 h1;omega
theorem RF{a b:Nat}(h:aa .neq (a:Int) (b:Int)=false):a=b:=by
 have h1:((a:Int) != (b:Int))=false:=h;have h2:(a:Int)=b:=by simpa only[bne_eq_false_iff_eq]using h1
 omega
theorem Lk{r:(k:Nat)->T k}{n:Nat}(p q:Rat):(qE (p+q):E r n)=qE p+qE q:=T.ofQ_add n p q
def aJ(l:Li)(body pt:Int):Rat×Rat:=(((bV l body).getD pt.toNat default).x.q,((bV l body).getD pt.toNat default).y.q)
structure Sm(e:Nat)(p:Rat×Rat):Prop where
  x:Qb e p.1
  y:Qb e p.2
structure MkP(l:Li)(body pt:Int)(n k:Nat)(bd:Bd)(m:Mk):Prop where
  hn:body=n
  hk:pt=k
  gbd:l.bo[n]?=some bd
  gm:bd.pts[k]?=some m
  ex:m.x=rt (aJ l body pt).1
  ey:m.y=rt (aJ l body pt).2
  sm:Sm 1000 (aJ l body pt)
theorem vN{l:Li}(hl:l.ok)(ae:ax l=0){body pt:Int}(h1:aV body l.bo.length=true)(h2:aV pt (bV l body).length=true):∃n k bd m,MkP l body pt n k bd m:=by
 obtain⟨bd,g1,g2,g3,g4⟩:=sH h1;rw[g2]at h2;obtain⟨m,g5,g6,g7,g8⟩:=wA h2;have hv:=aay ae g1 g5;have ho:=(hl.bo bd g3).pts m g7;have e:aJ l body pt=(m.x.q,m.y.q):=by unfold aJ;rw[g2,g6]
 exact⟨body.toNat,pt.toNat,bd,m,by omega,by omega,g1,g5,by rw[e];exact Rt.eq_rt ho.x hv.1,by rw[e];exact Rt.eq_rt ho.y hv.2,by rw[e];exact⟨ho.qx.mono oz,ho.qy.mono oz⟩⟩
theorem cu{l:Li}(hl:l.ok)(ae:ax l=0){body pt:Int}(h1:aV body l.bo.length=true)(h2:aV pt (bV l body).length=true):Sm 1000 (aJ l body pt):=by
 obtain⟨n,k,bd,m,h⟩:=vN hl ae h1 h2;exact h.sm
def jw(l:Li)(a:As)(body pt:Int):Et (llq a.rs)×Et (llq a.rs):=DY l a body pt
structure PlP(E:Nat)(l:Li)(a:As)(body pt:Int)(n k:Nat)(bd:Bd)(m:Mk)(b:Pl):Prop where
  mp:MkP l body pt n k bd m
  gb:a.bs[n]?=some b
  eq:DY l a body pt=z8 (llq a.rs) b m
  av:b.av=Pq.av ⟨lq b.c,lq b.s,lq b.x,lq b.y⟩
  ok:Pq.ok (llq a.rs).length E ⟨lq b.c,lq b.s,lq b.x,lq b.y⟩
def Pd(E:Nat)(a:As)(body:Int):Prop:=∃p,a.bs[body.toNat]?=some p/\oO a.rs p.l=0/\∀x∈p.l,NR x E
theorem VO{E:Nat}{l:Li}(hl:l.ok)(ae:ax l=0){a:As}(al:AB a)(hc:fg a.rs=0){body pt:Int}(h1:aV body l.bo.length=true)(h2:aV pt (bV l body).length=true)(hb:Pd E a body):∃n k bd m b,PlP E l a body pt n k bd m b:=by
 obtain⟨n,k,bd,m,h⟩:=vN hl ae h1 h2;obtain⟨b,gb,hb,AY⟩:=hb;obtain⟨tw,_⟩:=LS al.tr hc;have h5:a.rs.length<=5:=by have:=tw.five;rwa [LB]at this
 have h9:=Zg hb AY h5;have e:body.toNat=n:=by have:=h.hn;omega
 have e2:pt.toNat=k:=by have:=h.hk;omega
 rw[e]at gb;obtain⟨bd',g1,g2,_,_⟩:=sH h1;rw[e]at g1;have:bd'=bd:=Option.some.inj (g1.symm.trans h.gbd);subst this;refine⟨n,k,bd',m,b,h,gb,?_,h9.1,by rw[LB];exact h9.2⟩;unfold DY;rw[e,e2,aQ gb,g2,aQ h.gm]
structure DyS(a:As):Prop where
  tr:TR a.rs 132000
  two:fg a.rs=0->(llq a.rs).length<=2
  ct:fg a.rs=0->Ct (llq a.rs) 310000 132100
structure DyT(a:As):Prop extends DyS a where
  one:fg a.rs=0->(llq a.rs).length<=1
theorem Y4{a:As}(tr:TR a.rs 132000)(one:fg a.rs=0->(llq a.rs).length<=1):DyT a:=by
 refine⟨⟨tr,fun hc=>ah8 (one hc) oz,fun hc=>?_⟩,one⟩;obtain⟨tw,_⟩:=LS tr hc;refine⟨⟨132000,tw,?_⟩,by omega,by omega,by omega,by omega⟩;have h1:=q7 132000 (one hc);have h2:eB 132000 1=132002:=by simp only[eB]
 omega
def b9(p q:Rat×Rat):Rat×Rat:=(p.1-q.1,p.2-q.2)
def gx(p q:Rat×Rat):Rat:=p.1*q.1+p.2*q.2
def Ce(p q:Rat×Rat):Rat:=p.1*q.2-p.2*q.1
theorem Sm.sub{e f:Nat}{p q:Rat×Rat}(hp:Sm e p)(hq:Sm f q):Sm (e+f+1) (b9 p q):=⟨hp.x.sub hq.x,hp.y.sub hq.y⟩
theorem Sm.dot{e f:Nat}{p q:Rat×Rat}(hp:Sm e p)(hq:Sm f q):Qb (e+f+(e+f)+1) (gx p q):=(hp.x.mul hq.x).add (hp.y.mul hq.y)
theorem Sm.cross{e f:Nat}{p q:Rat×Rat}(hp:Sm e p)(hq:Sm f q):Qb (e+f+(e+f)+1) (Ce p q):=(hp.x.mul hq.y).sub (hp.y.mul hq.x)
theorem Sm.mono{e f:Nat}{p:Rat×Rat}(hp:Sm e p)(h:e<=f):Sm f p:=⟨hp.x.mono h,hp.y.mono h⟩
def bh(l:Li)(j:Jt)(b:Int):Rat×Rat:=if j.a=b then aJ l b j.point else aJ l b j.on
def fo(l:Li)(a:As)(j:Jt)(b:Int):Et (llq a.rs)×Et (llq a.rs):=if j.a=b then jw l a j.b j.on else jw l a j.a j.point
structure PinP(E:Nat)(l:Li)(a:As)(j:Jt)(b:Int):Prop where
  tie:(j.a=b/\Pd E a j.b)\/(j.a≠b/\j.b=b/\Pd E a j.a)
theorem PinP.or{E:Nat}{l:Li}{a:As}{j:Jt}{b:Int}(h:PinP E l a j b):j.a=b\/j.b=b:=by
 rcases h.tie with h9 |h9
 ·exact .inl h9.1
 ·exact .inr h9.2.1
theorem Tc{l:Li}(hl:l.ok)(ae:ax l=0){i:Nat}{j:Jt}(hj:l.jo[i]?=some j){b:Int}(h:j.a=b\/j.b=b):Sm 1000 (bh l j b):=by
 obtain⟨i1,i2,i3,i4,_⟩:=d8 ae hj;unfold bh
 by_cases e:j.a=b
 ·rw[ait e];subst e;exact cu hl ae i1 i3
 ·rw[ais e];rcases h with h |h
  ·exact aiz h e
  ·subst h;exact cu hl ae i2 i4
theorem zZ{bs:List Int}{b:Int}(h:b∈bs):bs.contains b=true:=afv.2 h
theorem pz{bs:List Int}{b:Int}(h:b∉bs):bs.contains b=false:=by
 cases hc:bs.contains b with
 |false=>rfl
 |true=>exact aiz (afv.1 hc) h
theorem DyOk.ancs{E:Nat}{l:Li}{k:Int}{a:As}{own:Bool}{n:Nat}{g:Gr}(h:DyOk E l k a own n g){z b:Int}{j:Jt}(hz:z∈g.jo)(hj:l.jo[z.toNat]?=some j)(hb:eI g j=b)(h0:0<=b):Pd E a b:=by
 refine h.body ?_ h0;unfold mF ci;refine List.mem_append_left _ (aft.2 ⟨z,hz,?_⟩);rw[aQ hj];exact hb
theorem DyOk.pin{E:Nat}{l:Li}{k:Int}{a:As}{own:Bool}{n:Nat}{g:Gr}(h:DyOk E l k a own n g){kd z b:Int}{j:Jt}{bs:List Int}(k8:g.bo=bs)(t:TieO l kd bs z b j)(hz:z∈g.jo)(hb:b∈bs):PinP E l a j b:=by
 subst k8;obtain⟨i1,i2,_⟩:=d8 h.li t.hj;have i1:=dJ i1;have i2:=dJ i2;rcases t.tie with⟨e,hn⟩ |⟨e,hn⟩
 ·refine⟨.inl ⟨e,h.ancs hz t.hj ?_ i2.1⟩⟩;unfold eI;rw[ait (zZ (e▸hb)),ais (by rw[pz hn];simp)]
 ·refine⟨.inr ⟨fun e2=>hn (e2▸hb),e,h.ancs hz t.hj ?_ i1.1⟩⟩;unfold eI;rw[ais (by rw[pz hn];simp)]
theorem DyOk.own{E:Nat}{l:Li}{k:Int}{a:As}{n:Nat}{g:Gr}(h:DyOk E l k a true n g){b:Int}(hb:b∈g.bo):Pd E a b:=by
 refine h.body ?_ (h.ok.b b hb).1;unfold mF;rw[ait rfl];exact List.mem_append_right _ hb
structure RrrP(E:Nat)(l:Li)(a:As)(g:Gr)(i k z0 z1 z2:Int)(j0 j1 j2:Jt):Prop where
  eq:g=⟨1,[i,k],[z0,z1,z2],0⟩
  h0:l.jo[z0.toNat]?=some j0
  h1:l.jo[z1.toNat]?=some j1
  h2:l.jo[z2.toNat]?=some j2
  p0:PinP E l a j0 i
  p1:PinP E l a j1 k
  t1:j2.a=i\/j2.b=i
  t2:j2.a=k\/j2.b=k
structure SlP(E:Nat)(l:Li)(a:As)(g:Gr)(kd i z0 z1:Int)(j0 j:Jt):Prop where
  eq:g=⟨kd,[i],[z0,z1],0⟩
  h0:l.jo[z0.toNat]?=some j0
  h1:l.jo[z1.toNat]?=some j
  p0:PinP E l a j0 i
  p1:PinP E l a j i
  hk:j.kind≠0
theorem DyOk.rrr{E:Nat}{l:Li}{k:Int}{a:As}{own:Bool}{n:Nat}{g:Gr}(h:DyOk E l k a own n g)(hk:g.kind=1):∃i k z0 z1 z2 j0 j1 j2,RrrP E l a g i k z0 z1 z2 j0 j1 j2:=by
 have hd:=h.dy;cases hd with
 |drv _ _ _ _=>exact aiz hk (by simp)
 |pr _ _ _=>exact aiz hk (by simp)
 |rp _ _ _=>exact aiz hk (by simp)
 | @rrr i k z0 z1 z2 j0 j1 j2 ne t0 t1 h0 h2 kd tie =>
  refine⟨i,k,z0,z1,z2,j0,j1,j2,rfl,t0.hj,t1.hj,h2,h.pin rfl t0 (by simp) (by simp),h.pin rfl t1 (by simp) (by simp),?_,?_⟩
  ·rcases tie with h9 |h9
   ·exact .inl h9.1
   ·exact .inr h9.1
  ·rcases tie with h9 |h9
   ·exact .inr h9.2
   ·exact .inl h9.2
theorem DyOk.pr{E:Nat}{l:Li}{k:Int}{a:As}{own:Bool}{n:Nat}{g:Gr}(h:DyOk E l k a own n g)(hk:g.kind=2):∃i z0 z1 j0 j,SlP E l a g 2 i z0 z1 j0 j/\j.a=i/\Pd E a j.b:=by
 have hd:=h.dy;cases hd with
 |drv _ _ _ _=>exact aiz hk (by simp)
 |rrr _ _ _ _ _ _ _=>exact aiz hk (by simp)
 |rp _ _ _=>exact aiz hk (by simp)
 | @pr i z0 z1 j0 j1 t0 t1 ha =>
  have p1:PinP E l a j1 i:=h.pin rfl t1 (by simp) (by simp);refine⟨i,z0,z1,j0,j1,⟨rfl,t0.hj,t1.hj,h.pin rfl t0 (by simp) (by simp),p1,by rw[t1.kd];decide⟩,ha,?_⟩;rcases p1.tie with h9 |h9
  ·exact h9.2
  ·exact aiz ha h9.1
theorem DyOk.rp{E:Nat}{l:Li}{k:Int}{a:As}{own:Bool}{n:Nat}{g:Gr}(h:DyOk E l k a own n g)(h0:g.kind≠0)(h1:g.kind≠1)(h2:g.kind≠2):∃i z0 z1 j0 j,SlP E l a g 3 i z0 z1 j0 j/\j.a≠i/\j.b=i/\Pd E a j.a:=by
 have hd:=h.dy;cases hd with
 |drv _ _ _ _=>exact aiz rfl h0
 |rrr _ _ _ _ _ _ _=>exact aiz rfl h1
 |pr _ _ _=>exact aiz rfl h2
 | @rp i z0 z1 j0 j1 t0 t1 ha =>
  have p1:PinP E l a j1 i:=h.pin rfl t1 (by simp) (by simp);refine⟨i,z0,z1,j0,j1,⟨rfl,t0.hj,t1.hj,h.pin rfl t0 (by simp) (by simp),p1,by rw[t1.kd];decide⟩,ha,?_⟩;rcases p1.tie with h9 |h9
  ·exact aiz h9.1 ha
  ·exact⟨h9.2.1,h9.2.2⟩
def lI(c p:Rat×Rat):Rat:=gx (b9 c p) (b9 c p)
def ke(l:Li)(g:Gr)(n:Nat):Jt:=l.jo.getD (g.jo.getD n 0).toNat default
def o8(g:Gr)(n:Nat):Int:=g.bo.getD n 0
section
variable(l:Li)(a:As)
def qR(i:Int)(j:Jt):Rat×Rat:=b9 (aJ l i j.to) (aJ l i j.on)
def nP(i:Int)(j0 j:Jt):Rat:=Ce (qR l i j) (b9 (aJ l i j.on) (bh l j0 i))
def HI(i:Int)(j:Jt):Rat:=gx (qR l i j) (qR l i j)
def iK{ts:LL}(p q:Et ts×Et ts):Et ts×Et ts:=(p.1-q.1,p.2-q.2)
def wt{ts:LL}(p q:Et ts×Et ts):Et ts:=dotE p.1 p.2 q.1 q.2
def HA{ts:LL}(p q:Et ts×Et ts):Et ts:=crsE p.1 p.2 q.1 q.2
def uT(i:Int)(j0 j:Jt):Et (llq a.rs)×Et (llq a.rs):=iK (jw l a j.a j.point) (fo l a j0 i)
def mJ(i:Int)(j0 j:Jt):Et (llq a.rs):=wt (uT l a i j0 j) (uT l a i j0 j)
end
section
variable{E:Nat}{l:Li}{a:As}{g:Gr}
theorem RrrP.at{i k z0 z1 z2:Int}{j0 j1 j2:Jt}(h:RrrP E l a g i k z0 z1 z2 j0 j1 j2):ke l g 0=j0/\ke l g 1=j1/\ke l g 2=j2/\o8 g 0=i/\o8 g 1=k/\g.kind=1:=by
 rw[h.eq];exact⟨aQ h.h0,aQ h.h1,aQ h.h2,rfl,rfl,rfl⟩
theorem SlP.at{kd i z0 z1:Int}{j0 j:Jt}(h:SlP E l a g kd i z0 z1 j0 j):ke l g 0=j0/\ke l g 1=j/\o8 g 0=i/\g.kind=kd:=by
 rw[h.eq];exact⟨aQ h.h0,aQ h.h1,rfl,rfl⟩
end
section
variable{ts:LL}
def qv(p:Rat×Rat):Et ts×Et ts:=(qE p.1,qE p.2)
def kf(p q:Et ts×Et ts):Et ts:=wt (iK p q) (iK p q)
theorem IU(x:Rat):0<=x*x:=by
 rcases(Rat.le_total:0<=x\/x<=0)with h |h
 ·exact agj h h
 ·have h1 : 0 <= -x := by grind
  have h2:=agj h1 h1;grind
def iJ(p:Et ts×Et ts)(r:Et ts)(q:Et ts×Et ts)(s:Et ts):Et ts:=qE 4*(r*kf p q)-((r+kf p q)-s)*((r+kf p q)-s)
end
section
variable{E:Nat}{l:Li}{a:As}{g:Gr}
end
def de(j:Jt)(b:Int):Int:=if j.a=b then j.point else j.on
def fD(j:Jt)(b:Int):Int:=if j.a=b then j.b else j.a
def cc(j:Jt)(b:Int):Int:=if j.a=b then j.on else j.point
theorem DyOk.ne{E:Nat}{l:Li}{k:Int}{a:As}{own:Bool}{n:Nat}{i k2 z0 z1 z2:Int}(h:DyOk E l k a own n ⟨1,[i,k2],[z0,z1,z2],0⟩):i≠k2:=by
 have hd:=h.dy;generalize hg:(⟨1,[i,k2],[z0,z1,z2],0⟩:Gr)=g at hd;cases hd with
 |drv _ _ _ _=>simp at hg
 |pr _ _ _=>simp at hg
 |rp _ _ _=>simp at hg
 |rrr ne _ _ _ _ _ _=>simp at hg;obtain⟨⟨rfl,rfl⟩,_⟩:=hg;exact ne
structure Bulk{H:Type}(bk:DataW H->Nat)(bka:List (DataW H)->Nat):Prop where
  one:∀d,1<=bk d
  nil:bka []=0
  cons:∀d l,bka (d::l)=bk d+bka l
  slice:∀e s,bka e+1<=bk (.slice e s)
  agg:∀l,bka l<=bk (.agg l)
section
variable{P:ai5}{W:ai6}{H:Type}{enc:ai4×ai3->H}{bk:DataW H->Nat}{bka:List (DataW H)->Nat}
theorem Bulk.pick(B:Bulk bk bka){α:Type}{m:α->Nat}:∀{l:List α}{xs:List (DataW H)},l.length<=xs.length->(∀(i:Nat)(a:α),l[i]?=some a->∃x,xs[i]?=some x/\m a<=bk x)->(l.map m).sum<=bka xs
 |[],xs,_,_=>by simp
 |a::l,[],hl,_=>by simp at hl
 |a::l,x::xs,hl,h=>by
  obtain⟨y,hy,h1⟩:=h 0 a rfl;cases hy;have h2:=B.pick (l:=l) (xs:=xs) (by simpa using hl) (fun i b hb=>h (i+1) b hb);rw[B.cons,aiq,List.sum_cons];omega
def wC(P:ai5)(W:ai6)(enc:ai4×ai3->H)(bk:DataW H->Nat)(t:ai4){α:Type}(f:α->AV)(p:α->Prop)(m:α->Nat):Prop :=
  ∀(sp:Nat->Bool)(fuel:Nat)(cs:List ai3)(x:DataW H×List MemPlace),DataW.trod enc P W 0 sp true fuel t cs=some x->(∀n∈x.1.weights P t,n<=reachBytes)->∃a,p a/\oW W cs (f a).cells/\m a<=bk x.1
theorem dL.m{t:ai4}{α:Type}{f:α->AV}{p:α->Prop}(h:dL P W enc t f p):wC P W enc bk t f p (fun _=>0):=by
 intro sp fuel cs x hx hw;obtain⟨a,h1,h2⟩:=h sp fuel cs x hx hw;exact⟨a,h1,h2,ahv _⟩
theorem dL.m1(B:Bulk bk bka){t:ai4}{α:Type}{f:α->AV}{p:α->Prop}(h:dL P W enc t f p):wC P W enc bk t f p (fun _=>1):=by
 intro sp fuel cs x hx hw;obtain⟨a,h1,h2⟩:=h sp fuel cs x hx hw;exact⟨a,h1,h2,B.one _⟩
theorem wC.map{α β:Type}{t:ai4}{f:α->AV}{p:α->Prop}{m:α->Nat}(h:wC P W enc bk t f p m)(g:α->β)(f':β->AV)(p':β->Prop)(m':β->Nat)(hg:∀a,p a->p' (g a)/\f' (g a)=f a/\m' (g a)<=m a):wC P W enc bk t f' p' m':=by
 intro sp fuel cs x hx da;obtain⟨a,ha,hc,hm⟩:=h sp fuel cs x hx da;obtain⟨h1,h2,h3⟩:=hg a ha;exact⟨g a,h1,by rw[h2];exact hc,ah8 h3 hm⟩
end
open Go.Proofs
section
variable{W:ai6}{H:Type}{enc:ai4×ai3->H}
theorem Ti:dL prog W enc 87 (fun n:Nat=>u32 n) (fun n=>n<4294967296) :=
 (Mx (k:=.u32) Tryz.underlying87).map Int.toNat _ _ (fun n h=>by
  have h1:0<=n/\n<=4294967295:=by simpa[Lit.wf,IntKind.min,IntKind.max,IntKind.signed,IntKind.bits]using h
  have h2:((n.toNat:Nat):Int)=n:=by omega
  exact⟨by omega,by unfold u32;rw[h2]⟩)
theorem HD:dL prog W enc 42 ws (fun l=>Ws l/\l.length<=281474976710656) :=
 (vl Tryz.underlying42 (n:=1) (by kernel_rfl) oz (by kernel_rfl) Ti (fun _=>rfl)).map id _ _ (fun l h=>⟨⟨fun x hx=>h.1 x hx,h.2⟩,rfl⟩)
theorem YR:dL prog W enc 4 bl (fun _=>True):=QV Tryz.underlying4
theorem qT:dL prog W enc 3 i64 (fun _=>True):=(Mx (k:=.i64) Tryz.underlying3).map id _ _ (fun n h=>⟨trivial,rfl⟩)
theorem vd:dL prog W enc 9 (fun s:ByteArray=>AV.v (.string s)) (fun s=>s.size<=281474976710656):=R3 Tryz.underlying9
theorem MN:dL prog W enc 44 Rt.av Rt.wok :=
 (sa (n := 3) Tryz.underlying44 (by kernel_rfl)
  (.cons rfl (n:=1) (by kernel_rfl) YR (fun _=>rfl) (.cons rfl (n:=1) (by kernel_rfl) HD (fun _=>rfl) (.cons rfl (n:=1) (by kernel_rfl) HD (fun _=>rfl) (.nil _)))) (fun _=>rfl)).map
  (fun z=>⟨z.1,z.2.1,z.2.2.1⟩) _ _ (fun z h=>⟨⟨h.2.1.1,h.2.2.1.1⟩,rfl⟩)
theorem Uw:dL prog W enc 85 Mk.av (fun m=>m.name.size<=281474976710656/\m.x.wok/\m.y.wok) :=
 (sa (n := 7) Tryz.underlying85 (by kernel_rfl)
  (.cons rfl (n:=1) (by kernel_rfl) vd (fun _=>rfl) (.cons rfl (n:=3) (by kernel_rfl) MN (fun _=>rfl) (.cons rfl (n:=3) (by kernel_rfl) MN (fun _=>rfl) (.nil _)))) (fun _=>rfl)).map
  (fun z=>⟨z.1,z.2.1,z.2.2.1⟩) _ _ (fun z h=>⟨⟨h.1,h.2.1,h.2.2.1⟩,rfl⟩)
theorem Ue:dL prog W enc 83 Bd.av (fun b=>b.name.size<=281474976710656/\b.pts.length<=281474976710656/\∀m∈b.pts,m.name.size<=281474976710656/\m.x.wok/\m.y.wok) :=
 (sa (n := 2) Tryz.underlying83 (by kernel_rfl)
  (.cons rfl (n:=1) (by kernel_rfl) vd (fun _=>rfl) (.cons rfl (n:=1) (by kernel_rfl) (vl Tryz.underlying81 (n:=7) (by kernel_rfl) oz (by kernel_rfl) Uw (fun _=>rfl)) (fun _=>rfl) (.nil _))) (fun _=>rfl)).map
  (fun z=>⟨z.1,z.2.1⟩) _ _ (fun z h=>⟨⟨h.1,h.2.1.2,h.2.1.1⟩,rfl⟩)
theorem WN:dL prog W enc 102 Jt.av (fun j=>j.name.size<=281474976710656) :=
 (sa (n := 7) Tryz.underlying102 (by kernel_rfl)
  (.cons rfl (n := 1) (by kernel_rfl) vd (fun _ => rfl) (.cons rfl (n := 1) (by kernel_rfl) qT (fun _ => rfl) (.cons rfl (n := 1) (by kernel_rfl) qT (fun _ => rfl) (.cons rfl (n := 1) (by kernel_rfl) qT (fun _ => rfl)
   (.cons rfl (n:=1) (by kernel_rfl) qT (fun _=>rfl) (.cons rfl (n:=1) (by kernel_rfl) qT (fun _=>rfl) (.cons rfl (n:=1) (by kernel_rfl) qT (fun _=>rfl) (.nil _)))))))) (fun _=>rfl)).map
  (fun z=>⟨z.1,z.2.1,z.2.2.1,z.2.2.2.1,z.2.2.2.2.1,z.2.2.2.2.2.1,z.2.2.2.2.2.2.1⟩) _ _ (fun z h=>⟨h.1,rfl⟩)
theorem Zw:dL prog W enc 73 Dr.av (fun d=>d.name.size<=281474976710656) :=
 (sa (n := 2) Tryz.underlying73 (by kernel_rfl) (.cons rfl (n := 1) (by kernel_rfl) vd (fun _ => rfl) (.cons rfl (n := 1) (by kernel_rfl) qT (fun _ => rfl) (.nil _))) (fun _ => rfl)).map
  (fun z=>⟨z.1,z.2.1⟩) _ _ (fun z h=>⟨h.1,rfl⟩)
abbrev PY(l:Li):List AV:=[.v (.string l.name),.lst 2 (l.bo.map Bd.av),.lst 7 (l.jo.map Jt.av),.lst 2 (l.drivers.map Dr.av)]
theorem Rd:dL prog W enc 26 (fun l:Li=>.agg (PY l)) Li.okw :=
 (sa (n := 4) Tryz.underlying26 (by kernel_rfl)
  (.cons rfl (n := 1) (by kernel_rfl) vd (fun _ => rfl)
   (.cons rfl (n := 1) (by kernel_rfl) (vl Tryz.underlying22 (n := 2) (by kernel_rfl) oz (by kernel_rfl) Ue (fun _ => rfl)) (fun _ => rfl)
    (.cons rfl (n := 1) (by kernel_rfl) (vl Tryz.underlying23 (n := 7) (by kernel_rfl) oz (by kernel_rfl) WN (fun _ => rfl)) (fun _ => rfl)
     (.cons rfl (n:=1) (by kernel_rfl) (vl Tryz.underlying24 (n:=2) (by kernel_rfl) oz (by kernel_rfl) Zw (fun _=>rfl)) (fun _=>rfl) (.nil _))))) (fun _=>rfl)).map
  (fun z=>⟨z.1,z.2.1,z.2.2.1,z.2.2.2.1⟩) _ _ (fun z h=>⟨⟨h.1,h.2.1.1,h.2.2.1.1,h.2.2.2.1.1,h.2.1.2,h.2.2.1.2,h.2.2.2.1.2⟩,rfl⟩)
end
open Go.Proofs Go.Proofs.YtmencaoblogmeaaGreat
open Go.ChangeShapes Go.WideShapes Go.ChangeAt Go.RowKit
theorem own:ownKnob prog.godebug=none:=by kernel_rfl
theorem Ma:laidOutB prog=true:=by kernel_rfl
theorem aca:prog.stopsHeard=true:=by kernel_rfl
theorem SZ:prog.plainKeys=true:=by kernel_rfl
theorem Z6:mapsRowed prog=true:=by kernel_rfl
theorem Un:prog.mayEnter=true:=by kernel_rfl
theorem V3:prog.liftsFinal=false:=by kernel_rfl
theorem YT{H:Type}{enc:ai4×ai3->H}{W W':ai6}{t:ai4}{v:ai3}{d:DataW H}{ps:List MemPlace}{sp':Nat->Bool}(hr:prog.readableRec t=true)(ht:t<prog.types.size)
  (h:DataW.Trod enc prog W 0 (fun _=>true) true t v d ps) (hb:Below W.heap.size W W') (hlt:∀x∈ps,x.block<W.heap.size) (hs:∀p∈ps,sp' p.block=true):DataW.Trod enc prog W' 0 sp' true t v d ps :=
 WideElems.Trod_stays Ma hr ht h (fun x hx=>hb.same (hlt x hx)) hs
end Go.Lw
namespace Go.Lw
def au:List Rat->Rat->Rat
  |[],_=>0
  |c::p,t=>c+t*au p t
def ptr:List Rat->List Rat
  |[]=>[]
  |c::p=>if ptr p=[]/\c=0 then[]else c::ptr p
def cR(p:List Rat):Prop:=ptr p=p
theorem ib:∀(p:List Rat)(t:Rat),au (ptr p) t=au p t
 |[],t=>rfl
 |c::p,t=>by
  have ih:=ib p t;unfold ptr;split
  ·rename_i h;rw[h.1]at ih;show 0=c+t*au p t;rw[<- ih,h.2];show(0:Rat)=0+t*0;grind
  ·show c+t*au (ptr p) t=c+t*au p t;rw[ih]
theorem KL:∀p:List Rat,ptr (ptr p)=ptr p
 |[]=>rfl
 |c::p=>by
  have ih:=KL p
  by_cases h:ptr p=[]/\c=0
  ·rw[show ptr (c::p)=[]from ait h];rfl
  ·rw[show ptr (c::p)=c::ptr p from ais h];show(if ptr (ptr p)=[]/\c=0 then[]else c::ptr (ptr p))=c::ptr p;rw[ih,ais h]
theorem dp(p:List Rat):cR (ptr p):=KL p
theorem cR.tail{c:Rat}{p:List Rat}(h:cR (c::p)):cR p:=by
 unfold cR ptr at h;split at h
 ·cases h
 ·exact(List.cons.inj h).2
theorem cR.ne{c:Rat}{p:List Rat}(h:cR (c::p))(hp:p=[]):c≠0:=by
 subst hp;intro hc;unfold cR ptr at h;rw[ait ⟨rfl,hc⟩]at h;cases h
theorem zw:∀{p:List Rat},ptr p=[]↔∀c∈p,c=0
 |[]=>⟨fun _=>fun c h=>(by cases h),fun _=>rfl⟩
 |c::p=>by
  have ih:=zw (p:=p);constructor
  ·intro h d hd;unfold ptr at h;split at h
   ·rename_i h1;rcases ah3.1 hd with rfl |h2
    ·exact h1.2
    ·exact ih.1 h1.1 d h2
   ·cases h
  ·intro h;unfold ptr;rw[ait ⟨ih.2 (fun d hd=>h d (ah6 _ hd)),h c (aig ..)⟩]
theorem jf:∀p:List Rat,(ptr p).length<=p.length
 |[]=>ahr _
 |c::p=>by
  have ih:=jf p;unfold ptr;split
  ·exact ahv _
  ·simp only[ahx];omega
theorem NF:∀{p:List Rat}{c:Rat},c∈ptr p->c∈p
 |d::p,c,h=>by
  unfold ptr at h;split at h
  ·cases h
  ·rcases ah3.1 h with rfl |h
   ·exact aig ..
   ·exact ah6 _ (NF h)
theorem C1{a b c:Rat}(h:a<=b)(hc:0<=c):c*a<=c*b:=Rat.mul_le_mul_of_nonneg_left h hc
theorem KI:∀(p:List Rat),ptr p≠[]->∃T δ:Rat,1<=T/\0<δ/\∀t,T<=t->δ<=au p t\/au p t <= -δ
 |[],h=>aiz rfl h
 |c::p,h=>by
  by_cases hp:ptr p=[]
  ·have hc : c ≠ 0 := fun hc => h (by unfold ptr; rw [ait ⟨hp, hc⟩])
   have e:∀t,au (c::p) t=c:=fun t=>by
    show c+t*au p t=c;rw[<- ib p,hp];show c+t*0=c;grind
   rcases(Rat.le_total (a:=0) (b:=c))with h1 |h1
   ·exact⟨1,c,agk,by grind,fun t _=>.inl (by rw[e];exact agk)⟩
   ·exact⟨1,-c,agk,by grind,fun t _=>.inr (by rw[e];grind)⟩
  ·obtain⟨T,δ,hT,hδ,hb⟩:=KI p hp
   obtain⟨M,h0,h1,h2⟩:∃M:Rat,0<=M/\c<=M /\ -c<=M:=by
    rcases(Rat.le_total (a:=0) (b:=c))with h1 |h1
    ·exact⟨c,h1,agk,by grind⟩
    ·exact⟨-c,by grind,by grind,agk⟩
   have hi:0<=M/δ:=by
    rw[Rat.div_def];exact agj h0 (Rat.le_of_lt (Rat.inv_pos.2 hδ))
   have he:M/δ*δ=M:=Rat.div_mul_cancel (by grind);refine⟨T+1+M/δ,δ,by grind,hδ,fun t ht=>?_⟩;have htT:T<=t:=by grind
   have h3:δ+M<=t*δ:=by
    have h4:δ*(1+M/δ)<=δ*t:=C1 (by grind) (Rat.le_of_lt hδ);grind
   have xy:0<=t:=by grind
   show δ<=c+t*au p t\/c+t*au p t <= -δ;rcases hb t htT with h5 |h5
   ·left;have h6:=C1 h5 xy;grind
   ·right;have h6:=C1 h5 xy;grind
theorem Jm{p:List Rat}(h:∀t,au p t=0):ptr p=[]:=by
 refine Decidable.byContradiction fun hp=>?_
 obtain⟨T,δ,_,hδ,hb⟩:=KI p hp;have h1:=hb T agk;rw[h T]at h1;rcases h1 with h1 |h1 <;> grind
def g9:List Rat->List Rat->Rat->List Rat
  |[],q,c=>q.map fun x=>c*x
  |a::p,[],_=>a::p
  |a::p,b::q,c=>(a+c*b)::g9 p q c
theorem NT(c t:Rat):∀q:List Rat,au (q.map fun x=>c*x) t=c*au q t
 |[]=>by show(0:Rat)=c*0;grind
 |b::q=>by
  have ih:=NT c t q;show c*b+t*au (q.map fun x=>c*x) t=c*(b+t*au q t);rw[ih];grind
theorem v7(c t:Rat):∀p q:List Rat,au (g9 p q c) t=au p t+c*au q t
 |[],q=>by
  show au (q.map fun x=>c*x) t=0+c*au q t;rw[NT];grind
 |a::p,[]=>by
  show a+t*au p t=a+t*au p t+c*0;grind
 |a::p,b::q=>by
  have ih:=v7 c t p q;show(a+c*b)+t*au (g9 p q c) t=a+t*au p t+c*(b+t*au q t);rw[ih];grind
theorem m8(c:Rat):∀p q:List Rat,(g9 p q c).length=max p.length q.length
 |[],q=>by show(q.map _).length=_;rw[ahk];simp
 |a::p,[]=>by show(a::p).length=max (a::p).length 0;omega
 |a::p,b::q=>by
  have ih:=m8 c p q;show(g9 p q c).length+1=max (p.length+1) (q.length+1);omega
theorem Dj(c:Rat):∀(p q:List Rat)(i:Nat),(g9 p q c).getD i 0=p.getD i 0+c*q.getD i 0
 |[],q,i=>by
  show(q.map fun x=>c*x).getD i 0=0+c*q.getD i 0;rw[ahh,ahh,aho];cases q[i]? with
  |none=>show(0:Rat)=0+c*0;grind
  |some x=>show c*x=0+c*x;grind
 |a::p,[],i=>by show(a::p).getD i 0=(a::p).getD i 0+c*0;grind
 |a::p,b::q,0=>rfl
 |a::p,b::q,i+1=>Dj c p q i
theorem Nh:∀{p q:List Rat},cR p->cR q->(∀c∈g9 p q (-1),c=0)->p=q
 |[],q,hp,hq,h=>by
  have h1:∀c∈q,c=0:=fun c hc=>by
   have:=h (-1*c) (aft.2 ⟨c,hc,rfl⟩);grind
  have h2:=zw.2 h1;rw[hq]at h2;exact h2.symm
 |a::p,[],hp,hq,h=>by
  have h2:=zw.2 h;rw[show g9 (a::p) [] (-1)=a::p from rfl,hp]at h2;exact h2
 |a::p,b::q,hp,hq,h=>by
  have h1:=h (a+-1*b) (aig ..);have h2:=Nh hp.tail hq.tail (fun c hc=>h c (ah6 _ hc));rw[h2,show a=b by grind]
theorem nD{p q:List Rat}(hp:cR p)(hq:cR q)(h:∀t,au p t=au q t):p=q:=by
 refine Nh hp hq (zw.1 (Jm fun t=>?_));rw[v7,h];grind
def padd(p q:List Rat)(c:Rat):List Rat:=ptr (g9 p q c)
theorem kg(p q:List Rat)(c t:Rat):au (padd p q c) t=au p t+c*au q t:=by unfold padd;rw[ib,v7]
def mK:List Rat->List Rat->List Rat
  |[],_=>[]
  |a::p,q=>g9 (0::mK p q) q a
def fq(p q:List Rat):List Rat:=ptr (mK p q)
theorem Ey(t:Rat):∀p q:List Rat,au (mK p q) t=au p t*au q t
 |[],q=>by show(0:Rat)=0*au q t;grind
 |a::p,q=>by
  have ih:=Ey t p q;show au (g9 (0::mK p q) q a) t=(a+t*au p t)*au q t;rw[v7];show 0+t*au (mK p q) t+a*au q t=_;rw[ih];grind
theorem rX(p q:List Rat)(t:Rat):au (fq p q) t=au p t*au q t:=by unfold fq;rw[ib,Ey]
theorem Nd(p:List Rat):fq p []=[]:=Jm fun t=>by rw[Ey];show au p t*0=0;grind
theorem Jq:∀p q:List Rat,q≠[]->p≠[]->(mK p q).length+1=p.length+q.length
 |[],q,hq,hp=>aiz rfl hp
 |[a],q,hq,_=>by
  show(g9 (0::[]) q a).length+1=1+q.length;rw[m8];have:=aez.2 hq;simp only[ahx,ah9];omega
 |a::b::p,q,hq,_=>by
  have ih:=Jq (b::p) q hq (by simp);show(g9 (0::mK (b::p) q) q a).length+1=_;rw[m8];simp only[ahx]at ih ⊢;omega
def dvL:List Rat->List Rat×Rat×Rat
  |[]=>([],0,0)
  |c::p=>((dvL p).2.2::(dvL p).1,c-(dvL p).2.2,(dvL p).2.1)
theorem N7(t:Rat):∀p:List Rat,au p t=au (dvL p).1 t*(1+t*t)+(dvL p).2.1+(dvL p).2.2*t
 |[]=>by show(0:Rat)=0*(1+t*t)+0+0*t;grind
 |c::p=>by
  have ih:=N7 t p;show c+t*au p t=((dvL p).2.2+t*au (dvL p).1 t)*(1+t*t)+(c-(dvL p).2.2)+(dvL p).2.1*t;rw[ih];grind
def dvQ(p:List Rat):List Rat:=ptr (dvL p).1
def fS(p:List Rat):List Rat:=ptr [(dvL p).2.1,(dvL p).2.2]
theorem JB(p:List Rat)(t:Rat):au p t=au (dvQ p) t*(1+t*t)+au (fS p) t:=by
 unfold dvQ fS;rw[ib,ib,N7 t p];show _=_+((dvL p).2.1+t*((dvL p).2.2+t*0));grind
theorem RG(p:List Rat):(fS p).length<=2:=jf _
def sI(p:List Rat):List Rat:=g9 (0::0::p) p 1
theorem WM(p:List Rat)(t:Rat):au (sI p) t=au p t*(1+t*t):=by
 unfold sI;rw[v7];show 0+t*(0+t*au p t)+1*au p t=_;grind
theorem v5{c:Rat}{p:List Rat}(hp:cR p)(h:p=[]->c≠0):cR (c::p):=by
 unfold cR ptr;rw[hp];split
 ·rename_i h1;exact aiz h1.2 (h h1.1)
 ·rfl
theorem Hl(c:Rat):∀{p q:List Rat},cR p->q.length<p.length->cR (g9 p q c)
 |[],q,_,h=>by simp at h
 |a::p,[],hp,_=>hp
 |a::p,b::q,hp,h=>by
  have h1:q.length<p.length:=by simp only[ahx]at h;omega
  refine v5 (Hl c hp.tail h1) (fun h2=>?_);have h3:=m8 c p q;rw[h2]at h3;simp only[ah9]at h3;omega
theorem Uk{p:List Rat}(hp:cR p)(h:p≠[]):cR (sI p):=Hl 1 (v5 (v5 hp (fun e=>aiz e h)) (fun e=>by cases e)) (by simp only[ahx];omega)
theorem WJ(p:List Rat):(sI p).length=p.length+2:=by unfold sI;rw[m8];simp only[ahx];omega
theorem DL{p Q R:List Rat}(hQ:cR Q)(hR:cR R)(h2:R.length<=2)(h:∀t,au p t=au Q t*(1+t*t)+au R t):Q=dvQ p/\R=fS p:=by
 have e:∀t,au (padd Q (dvQ p) (-1)) t*(1+t*t)=au (padd (fS p) R (-1)) t:=fun t=>by
  rw[kg,kg];have h1:=h t;have h3:=JB p t;grind
 have hD:padd Q (dvQ p) (-1)=[]:=by
  refine Decidable.byContradiction fun aG=>?_
  have h4:sI (padd Q (dvQ p) (-1))=padd (fS p) R (-1):=nD (Uk (dp _) aG) (dp _) (fun t=>by rw[WM];exact e t);have h5:=ai0 List.length h4;rw[WJ]at h5
  have h6:(padd (fS p) R (-1)).length<=2:=by
   refine ah8 (jf _) ?_;rw[m8];have:=RG p;omega
  have h7:=aez.2 aG;omega
 have hq:Q=dvQ p:=nD hQ (dp _) (fun t=>by
  have h1:=kg Q (dvQ p) (-1) t;rw[hD]at h1;have h3:au ([]:List Rat) t=0:=rfl;grind)
 refine⟨hq,nD hR (dp _) (fun t=>?_)⟩;have h1:=h t;have h3:=JB p t;have h4:au Q t=au (dvQ p) t:=by rw[<- hq]
 rw[h4]at h1;have h5:au R t=au (fS p) t:=by grind
 exact h5
theorem GE{p K:List Rat}(h:∀t,au p t=au K t*(1+t*t)):dvQ p=ptr K/\fS p=[]:=by
 obtain⟨h1,h2⟩:=DL (p:=p) (dp K) (rfl:cR []) (by simp) (fun t=>by rw[h,ib];show _=_+(0:Rat);grind);exact⟨h1.symm,h2.symm⟩
def Pb(e:Nat)(p:List Rat):Prop:=∀c∈p,Qb e c
theorem Pb.mono{e f:Nat}{p:List Rat}(h:Pb e p)(hf:e<=f):Pb f p:=fun c hc=>(h c hc).mono hf
theorem Pb.tr{e:Nat}{p:List Rat}(h:Pb e p):Pb e (ptr p):=fun c hc=>h c (NF hc)
theorem Pb.map{e k:Nat}{c:Rat}{p:List Rat}(h:Pb e p)(hc:Qb k c):Pb (k+e) (p.map fun x=>c*x):=fun x hx=>by
 obtain⟨y,hy,rfl⟩:=aft.1 hx;exact hc.mul (h y hy)
theorem Pb.lin{e f k:Nat}{c:Rat}(hc:Qb k c):∀{p q:List Rat},Pb e p->Pb f q->Pb (e+(k+f)+1) (g9 p q c)
 |[],q,_,hq=>(hq.map hc).mono oz
 |a::p,[],hp,_=>hp.mono oz
 |a::p,b::q,hp,hq=>fun x hx=>by
  rcases ah3.1 hx with rfl |h
  ·exact(hp a (aig ..)).add (hc.mul (hq b (aig ..)))
  ·exact Pb.lin hc (p:=p) (q:=q) (fun y hy=>hp y (ah6 _ hy)) (fun y hy=>hq y (ah6 _ hy)) x h
theorem Pb.add{e f k:Nat}{c:Rat}{p q:List Rat}(hc:Qb k c)(hp:Pb e p)(hq:Pb f q):Pb (e+(k+f)+1) (padd p q c):=(hp.lin hc hq).tr
theorem Pb.mulL{e f:Nat}:∀{p q:List Rat},Pb e p->Pb f q->Pb (p.length*(e+f+1)+1) (mK p q)
 |[],q,_,_=>fun x hx=>by cases hx
 |a::p,q,hp,hq=>by
  have ih:=Pb.mulL (p:=p) (fun y hy=>hp y (ah6 _ hy)) hq
  have h0:Pb (p.length*(e+f+1)+1) (0::mK p q):=fun x hx=>by
   rcases ah3.1 hx with rfl |h
   ·exact Qb.zero.mono oz
   ·exact ih x h
  have h1:=h0.lin (hp a (aig ..)) hq;refine h1.mono ?_;rw[ahx,ad2];omega
theorem Pb.mul{e f:Nat}{p q:List Rat}(hp:Pb e p)(hq:Pb f q):Pb (p.length*(e+f+1)+1) (fq p q):=(hp.mulL hq).tr
theorem Pb.dvL{e:Nat}:∀{p:List Rat},Pb e p->Pb (p.length*(e+1)+1) (Lw.dvL p).1/\Qb (p.length*(e+1)+1) (Lw.dvL p).2.1/\Qb (p.length*(e+1)+1) (Lw.dvL p).2.2
 |[],_=>⟨fun x hx=>(by cases hx),Qb.zero.mono oz,Qb.zero.mono oz⟩
 |c::p,hp=>by
  obtain⟨h1,h2,h3⟩:=Pb.dvL (p:=p) (fun y hy=>hp y (ah6 _ hy));have hl:(c::p).length*(e+1)+1=p.length*(e+1)+1+(e+1):=by rw[ahx,ad2];omega
  refine⟨fun x hx=>?_,?_,?_⟩
  ·rcases ah3.1 hx with rfl |h
   ·exact h3.mono oz
   ·exact(h1 x h).mono oz
  ·exact((hp c (aig ..)).sub h3).mono oz
  ·exact h2.mono oz
theorem Pb.dvQ{e:Nat}{p:List Rat}(h:Pb e p):Pb (p.length*(e+1)+1) (Lw.dvQ p):=h.dvL.1.tr
theorem EE(p q:List Rat)(c:Rat):(padd p q c).length<=max p.length q.length:=ah8 (jf _) (Nat.le_of_eq (m8 c p q))
theorem Jo(p q:List Rat):(fq p q).length<=p.length+q.length-1:=by
 by_cases hp:p=[]
 ·subst hp;exact ahv _
 by_cases hq:q=[]
 ·subst hq;rw[Nd];exact ahv _
 have h:=Jq p q hq hp;have h2:=jf (mK p q);unfold fq;omega
theorem Xx(p:List Rat):(dvQ p).length<=p.length:=by
 have h:∀p:List Rat,(dvL p).1.length=p.length:=fun p=>by
  induction p with
  |nil=>rfl
  |cons c p ih=>show(dvL p).1.length+1=p.length+1;rw[ih]
 exact ah8 (jf _) (Nat.le_of_eq (h p))
theorem Ej(n:Nat)(t:Rat):au (afq n 0) t=0:=by
 induction n with
 |zero=>rfl
 |succ n ih =>
  rw[List.replicate_succ];show 0+t*au (afq n 0) t=0;rw[ih];grind
theorem uC(v t:Rat):∀(l:List Rat)(j:Nat),j<l.length->au (l.set j v) t=au l t+(v-l.getD j 0)*t^j
 |[],j,h=>by simp at h
 |c::l,0,_=>by
  show v+t*au l t=c+t*au l t+(v-c)*t^0;rw[Rat.pow_zero];grind
 |c::l,j+1,h=>by
  have ih:=uC v t l j (by simpa using h);show c+t*au (l.set j v) t=c+t*au l t+(v-l.getD j 0)*t^(j+1);rw[ih,age];grind
theorem rV(t:Rat):∀{l:List Rat}{n:Nat}{c:Rat},l[n]?=some c->au (l.take (n+1)) t=au (l.take n) t+t^n*c
 |[],n,c,h=>by simp at h
 |d::l,0,c,h=>by
  simp at h;subst h;show d+t*0=0+t^0*d;rw[Rat.pow_zero];grind
 |d::l,n+1,c,h=>by
  have ih:=rV t (l:=l) (n:=n) (c:=c) (by simpa using h);show d+t*au (l.take (n+1)) t=d+t*au (l.take n) t+t^(n+1)*c;rw[ih,age];grind
theorem gw{l:List Rat}{i:Nat}(h:i<l.length):l[i]?=some (l.getD i 0):=by
 rw[ahh,ahm h];rfl
theorem UH{l:List Rat}{i:Nat}(h:l.length<=i):l.getD i 0=0:=by rw[ahh,aht h];rfl
theorem nc(l:List Rat)(i j:Nat)(v:Rat)(h:i<l.length):(l.set i v).getD j 0=if j=i then v else l.getD j 0:=by
 rw[ahh,ahh,afe]
 by_cases e:i=j
 ·rw[ait e,ait e.symm,ait h];rfl
 ·rw[ais e,ais (fun h=>e h.symm)]
theorem u4{e:Nat}{p:List Rat}(h:Pb e p)(i:Nat):Qb (e+1) (p.getD i 0):=by
 by_cases hi:i<p.length
 ·exact(h _ (ahg (gw hi))).mono oz
 ·rw[UH oz];exact Qb.zero.mono oz
theorem yJ{e:Nat}{p:List Rat}(h:∀i,Qb e (p.getD i 0)):Pb e p:=fun c hc=>by
 obtain⟨i,hi⟩:=List.getElem?_of_mem hc;have h1:=h i;rw[ahh,hi]at h1;exact h1
theorem DQ{e:Nat}{p:List Rat}(h:Pb e p)(he:e<=1000000000000)(i:Nat):Qs (p.getD i 0):=(u4 h i).qs oz
open Go.Proofs
theorem MX(m:List Nat)(hm:Ws m)(hl:m.length<=fy):FP 205 [ws m] (bl (!decide (m=[])&&(⟨false,m⟩:Wh).valid)):=by
 refine ak func205 ?_;refine gl ?_;refine cm ?_;refine kD (fun h=>(gM (by simp[aa]at h;omega) (by unfold fy at hl;unfold az;exact ah8 hl oz))) ?_;refine mh (fun h=>(bP (i:=m.length-1) (by simp[aa]at h;omega))) ?_;refine ah ?_
 by_cases h:m=[]
 ·subst h;rfl
 ·have h1:0 < m.length:=aez.2 h;have h2:aa .gtr (m.length:Int) 0 = true:=by simp [aa,h1]
  simp only[bl,h,decide_false,Bool.not_false,agu,Wh.valid,ae6,jQ (show m.length-1<m.length by omega),aa];congr 2;generalize aj m _=x;rw[ags];simp[h1]
theorem CJ:FP 175 [] (zA 1):=by
 refine ak func175 ?_;refine gc (Ih 1 oz) ?_;refine ah ?_
 first |rfl |(simp;done)
theorem zf(r:Rt)(h:r.ok):FP 106 [r.av] (bl r.valid):=by
 have hr:=h;have hn:=h.n0;have hd:=h.d0;have pM:r.num.length<=137438953472:=h.2.2.1;have pX:r.den.length<=137438953472:=h.2.2.2;refine ak func106 ?_;refine gl ?_;refine cm ?_;refine gC (fun t12=>?_) (fun t12=>?_)
 ·have h0 : r.num = [] /\ r.den = [] := by simpa [aa] using t12
  refine ah ?_;unfold Rt.valid;rw[ait h0];rfl
 have h0:¬(r.num=[]/\r.den=[]):=by
  have:=t12;simp[aa]at this;exact fun h=>this h.1 h.2
 refine gc (MX r.num hr.1 hr.2.2.1) ?_;refine bJ (fun _=>(MX r.den hr.2.1 hr.2.2.2)) ?_;refine bJ (fun _=>(Kj r.n0 r.d0 hn hd (by show r.num.length+r.den.length<_;unfold aw;omega))) ?_;refine bJ (fun _=>CJ) ?_;refine bJ (fun _=>(YV (Rt.gcd_zs hr) yV)) ?_;refine ah ?_;exact ai0 bl (aaf h0).symm
theorem pf(r:Rt)(h:r.ok):FP 200 [r.av] (.tup [zA r.q.num,zA r.q.den]):=by
 have pM:r.num.length<=137438953472:=h.2.2.1;have pX:r.den.length<=137438953472:=h.2.2.2;refine ak func200 ?_;refine gc (zf r h) ?_;refine cm ?_;refine gC (fun t12=>?_) (fun t12=>?_)
 ·have h0:¬(r.valid=true/\r.num≠[]):=by
   have:=t12;intro h';simp[aa,h'.1,h'.2]at this
  refine gc CJ ?_;refine gR ?_;exact gP (by rw[Rt.zero h0];exact Sub.tup (.cons I3 (.cons (.refl _) .nil)))
 have h0:r.valid=true/\r.num≠[]:=by
  have:=t12;cases hv:r.valid
  ·rw[hv]at this;cases this
  ·rw[hv]at this;exact⟨rfl,by simpa[aa]using this⟩
 obtain⟨e1,e2,e3,e4,e5,e6⟩:=Rt.parts h h0.1 h0.2;refine gD ?_;refine bZ ?_;rw[e1,e2];exact HN e3 e4 e5
theorem wn{n d:Int}(hn:Zs n)(hd:Zs d)(h0:d≠0):FP 173 [zA n,zA d] (qA (agl n d)):=by
 refine ak func173 ?_;refine gc (AF hn) ?_;refine gC (fun z=>?_) (fun z=>?_)
 ·have e0 : n=0 := af4.1 (by simpa[aa]using z);refine gR ?_;exact mb (by rw[e0,Rat.zero_divInt];exact qF)
 have e0:n≠0:=fun h=>by rw[h]at z;cases z
 refine gc (AF hd) ?_;refine JZ [2,3,4] [4] (fun(n1 d1:Int)=>[]) (fun n1 d1=>[pP 2 (.box (zA n1).cells),pP 3 (.box (zA d1).cells)]) (fun n1 d1=>0<d1/\n1≠0/\Zs n1/\Zs d1/\agl n1 d1=agl n d) ?_ ?_
 ·intro K1 J1;refine gC (fun t18=>?_) (fun t18=>?_)
  ·have e1 : d<0 := agc.1 (by have := afy d;have h9 : d.sign<0 := (by simpa[aa]using t18);omega);refine gc (Dc hn) ?_;refine gc (Dc hd) ?_;refine gD ?_;exact z6 J1 (-n) (-d) ⟨by omega,by omega,hn.neg,hd.neg,MS n d⟩
  have e1:0<d:=by
   have h9:0<=d.sign:=by simpa[aa]using t18
   have:=agb.1 h9;omega
  exact z6 J1 n d ⟨e1,e0,hn,hd,rfl⟩
 rintro n1 d1 ⟨f1,f2,f3,f4,f5⟩;have g2:Zs (af1 n1 d1:Int):=f3.of_le (by rw[aif];exact Nat.le_of_dvd oz (Int.gcd_dvd_natAbs_left _ _));have g3:(af1 n1 d1:Int)≠0:=by have:=Int.gcd_pos_of_ne_zero_left d1 f2;omega
 refine gc (Wo f3 f4) ?_;refine gc (HO f3 g2 g3) ?_;refine gc (HO f4 g2 g3) ?_;refine ah ?_;rw[<- f5,<- QS f1 f2];rfl
theorem P0{n d:Int}(hn:Zs n)(hd:Zs d):FP 404 [zA n,zA d] (.tup [qA (agl n d),i64 (if d=0 then 8 else 0)]):=by
 refine ak func404 ?_;refine gc (AF hd) ?_;refine gC (fun z=>?_) (fun z=>?_)
 ·have h0 : d=0 := af4.1 (by simpa[aa]using z);refine gR ?_;exact gP (by rw[ait h0,h0,Rat.divInt_zero];exact Sub.tup (.cons qF (.cons (.refl _) .nil)))
 have h0:d≠0:=fun h=>by rw[h]at z;cases z
 refine gc (wn hn hd h0) ?_;refine bZ ?_;rw[ais h0];rfl
theorem sY(n:Int)(h:-9223372036854775808<=n/\n<=9223372036854775807):FP 82 [i64 n] (qA n):=by
 have hz:Zs n:=⟨2,by omega,by unfold Lz;simp only[Nat.reducePow];omega⟩
 refine ak func82 ?_;refine gc (Ih n h) ?_;refine gc CJ ?_;refine gc (wn hz yV oz) ?_;refine ah ?_;exact ai0 qA (agm (n:Rat))
theorem N4(a:Rt)(ha:a.ok):FP 197 [a.av] (qA (-a.q)):=by
 have za:=ha.qs;refine ak func197 ?_;refine gc (pf a ha) ?_;refine gc (Dc za.num) ?_;refine gc (wn za.num.neg za.den (by have:=a.q.den_nz;omega)) ?_;refine gD ?_;refine ah ?_;rw[Ny];rfl
theorem Oe(a:Rt)(ha:a.ok):FP 107 [a.av] (i64 (a7 a.q)):=by
 refine ak func107 ?_;refine gc (pf a ha) ?_;refine gc (AF ha.qs.num) ?_;refine ah ?_;rw[IW]
theorem BA(a b:Rt)(ha:a.ok)(hb:b.ok):FP 193 [a.av,b.av] (qA (a.q+b.q)):=by
 have za:=ha.qs;have zb:=hb.qs;have m1:=za.mul zb;have m2:=zb.mul za;refine ak func193 ?_;refine gc (pf a ha) ?_;refine gc (pf b hb) ?_;refine gc (rj za.num zb.den) ?_;refine gc (rj zb.num za.den) ?_;refine gc (S8 m1.1 m2.1) ?_;refine gc (rj za.den zb.den) ?_;refine gc (wn (za.cross zb) m1.2.2.1 (af2 (by have:=a.q.den_nz;omega) (by have:=b.q.den_nz;omega))) ?_;refine gD ?_;refine ah ?_;rw[Dl];rfl
theorem LI(a b:Rt)(ha:a.ok)(hb:b.ok):FP 96 [a.av,b.av] (qA (a.q-b.q)):=by
 refine ak func96 ?_;refine gc (N4 b hb) ?_;refine gc (BA a (rt (-b.q)) ha hb.qs.neg.ok) ?_;refine gD ?_;refine ah ?_;rw[bG,<- Rat.sub_eq_add_neg];rfl
theorem PN(a b:Rt)(ha:a.ok)(hb:b.ok):FP 99 [a.av,b.av] (qA (a.q*b.q)):=by
 have za:=ha.qs;have zb:=hb.qs;have m1:=za.mul zb;refine ak func99 ?_;refine gc (pf a ha) ?_;refine gc (pf b hb) ?_;refine gc (rj za.num zb.num) ?_;refine gc (rj za.den zb.den) ?_;refine gc (wn m1.2.1 m1.2.2.1 (af2 (by have:=a.q.den_nz;omega) (by have:=b.q.den_nz;omega))) ?_;refine gD ?_;refine ah ?_;rw[EL];rfl
theorem Wc(a b:Rt)(ha:a.ok)(hb:b.ok):FP 371 [a.av,b.av] (.tup [qA (a.q/b.q),i64 (if b.q=0 then 8 else 0)]):=by
 have za:=ha.qs;have zb:=hb.qs;have m1:=za.mul zb;refine ak func371 ?_;refine gc (pf a ha) ?_;refine gc (pf b hb) ?_;refine gc (rj za.num zb.den) ?_;refine gc (rj za.den zb.num) ?_;refine gc (P0 m1.1 m1.2.2.2) ?_;refine gD ?_;refine bZ ?_
 have e1:((a.q.den:Int)*b.q.num=0)=(b.q=0):=by
  apply propext;rw[<- Rat.num_eq_zero,Int.mul_eq_zero];exact⟨fun h=>h.resolve_left (by have:=a.q.den_nz;omega),.inr⟩
 simp only[L3,e1];rfl
theorem ML(a b:Rt)(ha:a.ok)(hb:b.ok)(hs:Qs (a.q-b.q)):FP 261 [a.av,b.av] (i64 (a7 (a.q-b.q))):=by
 refine ak func261 ?_;refine gc (LI a b ha hb) ?_;refine gc (Oe (rt (a.q-b.q)) hs.ok) ?_;refine ah ?_;rw[bG]
theorem z9{α:Type}(f:α->AV)(l:List α)(hl:l.length<=281474976710656):FP 113 [.lst 3 (l.map f)] (i64 (kM l.length)):=by
 refine ak func113 ?_;refine aL [0] [] (fun(k:Nat)=>[pP 3 (i64 k)]) (fun _=>[]) (fun k=>k<=48/\∀j,j<k->2^j<l.length) (fun k=>48-k) 0 ⟨by omega,fun j h=>by omega⟩ ?_;rintro k ⟨hk,hj⟩ K1 J1;refine gs (mr (.const _) (.tmp rfl) oz (K6 oz) rfl) ?_;refine gl ?_;refine gC (fun z=>?_) (fun z=>?_)
 ·have h1 : 2 ^ k < l.length := by have := z; simp only [aa, aiu] at this; omega
  have h2:k<48:=by
   rcases ahq k 48 with h |h
   ·exact h
   ·have:2 ^ 48 <= 2 ^ k:=d7 h;have:(2:Nat) ^ 48 = 281474976710656:=by decide
    omega
  refine ga (cO oz) ?_;exact aE J1 (k+1) ⟨by omega,fun j h=>by rcases ahq j k with h3 |h3;exact hj j h3;(have:j=k:=by omega);subst this;exact h1⟩
 have h1:l.length<=2^k:=by have:=z;simp only[aa,decide_eq_false_iff_not]at this;omega
 have h2:=Mm hj h1;refine gs (mr (.const _) (.tmp rfl) oz (K6 oz) rfl) ?_;refine gl ?_;refine gC (fun z=>?_) (fun z=>?_)
 ·have h3 : 2 ^ k ≠ l.length := by have := z; simp only [aa, bne_iff_ne, ne_eq] at this; omega
  refine ah ?_;unfold kM;rw[h2,ais h3];rfl
 have h3:2^k=l.length:=by have:=z;simp only[aa,bne_eq_false_iff_eq]at this;omega
 refine ah ?_;unfold kM;rw[h2,ait h3]
theorem Og(a:List Rat)(ha:∀q∈a,Qs q)(hl:a.length<=281474976710656):FP 341 [nA a] (bl (bf a)):=by
 refine ak func341 ?_;refine gl ?_;refine aL [5,6] [] (fun(i:Nat)=>[pP 7 (i64 i)]) (fun _=>[]) (fun i=>i<=a.length/\bf (a.take i)=true) (fun i=>a.length-i) 0 ⟨ahv _,by simp[bf]⟩ ?_;rintro i ⟨hi,hv⟩ K1 J1;refine gC (fun z=>?_) (fun z=>?_)
 ·have af : i < a.length := by simpa [aa] using z
  obtain⟨q,hq⟩:=aB af;have uv:=ha q (ahg hq);refine gi (ay hq) ?_;refine gc (Fq (rt q) uv.ok) ?_;refine gC (fun t13=>?_) (fun t13=>?_)
  ·have h0:q≠0:=by
    intro h;have h9:=t13;rw[bG,h]at h9;cases h9
   refine ah ?_
   have:bf a=false:=by
    rw[agn];intro h;exact h0 (by simpa using ahs.1 h q (ahg hq))
   rw[this];rfl
  have h0:q=0:=by
   have h9:a7 q=0:=by have:=t13;rw[bG]at this;simpa[aa]using this
   exact Fb h9
  refine ga aF ?_;exact aE J1 (i+1) ⟨by omega,by rw[gB hq];simp only[bf,all_append,ahj];exact⟨hv,by simp[h0]⟩⟩
 have af:i=a.length:=by have:a.length<=i:=(by simpa[aa]using z);omega
 subst af;rw[ahw]at hv;refine ah ?_;rw[hv];rfl
theorem Jv(a:List Rat)(hl:a.length<=281474976710656):FP 115 [nA a] (bl (bf a)):=by
 refine ak func115 ?_;refine gl ?_;refine aL [5,6] [] (fun(i:Nat)=>[pP 7 (i64 i)]) (fun _=>[]) (fun i=>i<=a.length/\bf (a.take i)=true) (fun i=>a.length-i) 0 ⟨ahv _,by simp[bf]⟩ ?_;rintro i ⟨hi,hv⟩ K1 J1;refine gC (fun z=>?_) (fun z=>?_)
 ·have af : i < a.length := by simpa [aa] using z
  obtain⟨q,hq⟩:=aB af;refine gi (ay hq) ?_;refine cm ?_;refine cm ?_;refine gC (fun z=>?_) (fun z=>?_)
  ·have h0:q≠0:=Qa z;refine ah ?_
   have:bf a=false:=by
    rw[agn];intro h;exact h0 (by simpa using ahs.1 h q (ahg hq))
   rw[this];rfl
  have h0:q=0:=RN z;refine ga aF ?_;exact aE J1 (i+1) ⟨by omega,by rw[gB hq];simp only[bf,all_append,ahj];exact⟨hv,by simp[h0]⟩⟩
 have af:i=a.length:=by have:a.length<=i:=(by simpa[aa]using z);omega
 subst af;rw[ahw]at hv;refine ah ?_;rw[hv];rfl
theorem WF(a:List Rat)(ha:∀q∈a,Qs q)(hl:a.length<=1099511627776):FP 114 [nA a] (nA a):=by
 refine ak func114 ?_;refine gl ?_;refine gW (Wk.virt 900 3 rfl) ?_;refine aL [6,7] [] (fun(i:Nat)=>[pP 3 (.ms 900 3 0 i),pP 8 (i64 i)]) (fun i=>[pP 900 (.row 3 ((a.take i).map qA))]) (fun i=>i<=a.length) (fun i=>a.length-i) 0 (ahv _) ?_;rintro i hi K1 J1;refine gC (fun z=>?_) (fun z=>?_) (st2:=(7,0))
 ·have af : i < a.length := by simpa [aa] using z
  obtain⟨q,hq⟩:=aB af;have uv:=(ha q (ahg hq)).ok;have pM:(rt q).num.length<=137438953472:=uv.2.2.1;have pX:(rt q).den.length<=137438953472:=uv.2.2.2;refine gi (ay hq) ?_;refine gs (qS T42 rfl T87 rfl rfl rfl) ?_;refine gs (DU (.tmp rfl) rfl rfl (.tmp rfl) T42 rfl T87 rfl rfl (by simp only[ahk];omega) rfl rfl) ?_;refine gs (qS T42 rfl T87 rfl rfl rfl) ?_;refine gs (DU (.tmp rfl) rfl rfl (.tmp rfl) T42 rfl T87 rfl rfl (by simp only[ahk];omega) rfl rfl) ?_;refine gs (eD (.tmp rfl) rfl (by simp;omega) (.tmp rfl) T62 rfl T44 rfl rfl (by simp;omega) rfl rfl) ?_;refine gD ?_ (6,0);refine gW (Wk.of (sl:=[pP 3 (.ms 25 3 0 (i+1)),pP 6 (nA a),pP 7 (i64 a.length),pP 8 (i64 i)]) (hp:=[pP 25 (.row 3 ((a.take (i+1)).map qA))]) aY (.cons rfl (.of (by rw[gB hq,aih];rfl)) .nil)) ?_ (6,0);refine gW (Wk.rk (k:=25) (d:=900) rfl rfl) ?_;refine ga aF ?_;exact aE J1 (i+1) af
 have af:i=a.length:=by have:a.length<=i:=(by simpa[aa]using z);omega
 subst af;refine gW ((Wk.freeze (k:=900) rfl).trans<|Wk.of (sl:=[pP 3 (nA a)]) (hp:=[]) (.cons rfl (.of (by rw[cf (by simp),ahw];rfl)) .nil) .nil) ?_;refine ah ?_;rfl
theorem yB{n:Nat}(a:List Rat)(hn:n<=5)(ha:Nl n a)(hs:∀q∈a,Qs q):FP 44 [nA a] (nA (sh n (ao n a))):=by
 have hl:=ha.len5 hn;rw[<- WX ha hn];refine ak func44 ?_;refine gc (z9 qA a oz) ?_;refine gl ?_;refine gC (fun z=>?_) (fun z=>?_) (st1:=(3,0));exact aiz z (by rcases ha with rfl |⟨j,hj,h⟩;(simp[aa]);(rw[h,vM];simp[aa];omega));refine gl ?_;refine aL [0] [] (fun(m:Nat)=>[pP 4 (i64 m)]) (fun _=>[]) (fun m=>ow a m) (fun m=>m) a.length (Um (ha.mono hn)) ?_;rintro m hm K1 J1;refine gs (fT rfl rfl rfl (fun h=>ls (.opt rfl (o1 h)) (.const _) oz (qQ (by have:=hm.le;omega)) rfl)) ?_;refine gs (fT rfl rfl rfl (fun h=>eF (.opt rfl (o1 h)) (.some _ (.opt rfl (o1 h)) oz) (.some _ (.opt rfl (o1 h)) oz) T62 rfl T44 rfl oz (by have:=hm.le;simp;omega) rfl)) ?_;refine bJ (fun _=>(by have h9:=Jv ((a.drop (m/2)).take (m-m/2)) (by simp;omega);rw[<- EZ]at h9;exact h9)) ?_;refine gC (fun t31=>?_) (fun t31=>?_)
 ·have h1:1<m/\bf ((a.drop (m/2)).take (m-m/2))=true:=by
   have h9:=t31
   by_cases h:(m:Int)>1
   ·simp only[aa,aix h,cond_true]at h9;exact⟨by omega,h9⟩
   ·simp only[aa,aiy h,cond_false]at h9;cases h9
  refine gs (ls (.tmp rfl) (.const _) oz (qQ (by have:=hm.le;omega)) rfl) ?_;exact aE J1 (m/2) (Uv hm h1.1 h1.2)
 have h1:1<m->bf ((a.drop (m/2)).take (m-m/2))=false:=by
  intro h;have h9:=t31;simp only[aa,aix (show(m:Int)>1 by omega),cond_true]at h9;exact h9
 refine gs (fT rfl rfl rfl (fun h=>eF (.opt rfl (o1 h)) (.none _) (.some _ (.const _) oz) T62 rfl T44 rfl oz (by have h8:(m:Int)=1:=(by simpa[aa]using h);have:=hm.le;simp only[ahk];omega) rfl)) ?_;refine bJ (fun _=>(by have h9:=Jv ((a.drop 0).take 1) (by simp;omega);rw[<- EZ]at h9;exact h9)) ?_;refine gC (fun t40=>?_) (fun t40=>?_)
 ·have h2:m=1/\bf (a.take 1)=true:=by
   have h9:=t40
   by_cases h:m=1
   ·rw[h]at h9;exact⟨h,h9⟩
   ·rw[show aa .eql (m:Int) 1=false by simp[aa];omega]at h9;cases h9
  obtain⟨rfl,h3⟩:=h2;refine gR ?_;exact mb (by rw[aaw hm h3];exact Sub.nil _ _ _)
 have h2:m=1->bf (a.take 1)=false:=by
  intro h;have h9:=t40;rw[h]at h9;exact h9
 have h3:=YE hm h1 h2;refine gs (eF (.tmp rfl) (.none _) (.some _ (.tmp rfl) oz) T62 rfl T44 rfl oz (by have:=hm.le;simp;omega) rfl) ?_;refine gc (by have h9:=WF ((a.drop 0).take m) (fun q hq=>hs q (aeu (aes hq))) (by simp;omega);have h8:=h9;rw[<- EZ]at h9;exact h9) ?_;refine ah ?_;rw[h3];simp[nA,map_take]
theorem Cq(d:Nat)(hd:aem d 1000=true)(a:List Rat)(n:Nat)(hl:a.length<=n)(hn:n<=1099511627776) :
  Con prog 337 [nA a,i64 n] [] (.ms d 3 0 n) [(d,some (.row 3 ((bt a n).map qA)))]:=by
 refine gF func337 (fun k z h=>by cases h) ?_;refine gs (gh (.tmp rfl) T62 rfl T44 rfl rfl oz (by dsimp only;omega) rfl) ?_;refine gs (Uo (.tmp rfl) rfl (by simp) (.tmp rfl) T62 rfl T44 rfl rfl (by simp;omega) rfl) ?_ (3,0);refine gW (Wk.of (sl:=[pP 5 (.ms 7 3 0 n)]) (hp:=[pP 7 (.row 3 ((bt a n).map qA))]) (.cons rfl (.of (by simp)) .nil) (.cons rfl (Ju a n hl) .nil)) ?_;refine gR ?_;exact aI.own1 rfl hd rfl
theorem KE(a:List Rat)(n:Nat)(hl:a.length<=n)(hn:n<=1099511627776):FP 337 [nA a,i64 n] (nA (bt a n)):=by
 have h:=Con.freeze (by rw[ahk,gX hl];omega) (Cq 0 rfl a n hl hn);rw[aim,ah1 (by rw[ahk,gX hl];exact ahr _)]at h;exact h
theorem AE(a b:List Rat)(ha:∀q∈a,Qs q)(hb:∀q∈b,Qs q)(la:a.length<=1099511627776)(lb:b.length<=1099511627776):FP 255 [nA a,nA b] (nA (dT a b)):=by
 obtain⟨n,hn⟩:∃n,n=max a.length b.length:=⟨_,rfl⟩
 have hwa:=gX (show a.length<=n by omega);have hwb:=gX (show b.length<=n by omega);have hp:=gy (a:=a) (b:=b);rw[<- hn]at hp;have qa:∀q∈bt a n,Qs q:=fun q hq=>by rcases ahn.1 hq with h |h;exact ha q h;(rw[(List.mem_replicate.1 h).2];exact Qs.zero)
 have qb:∀q∈bt b n,Qs q:=fun q hq=>by rcases ahn.1 hq with h |h;exact hb q h;(rw[(List.mem_replicate.1 h).2];exact Qs.zero)
 refine ak func255 ?_;refine gl ?_;refine gl ?_;refine gs (ri (.tmp rfl) (.tmp rfl) rfl) ?_ (2,0);refine gW (Wk.of (sl:=[pP 0 (nA a),pP 1 (nA b),pP 5 (i64 n)]) (hp:=[]) (.k (.k (.cons rfl (Sub.int oz) .nil))) .nil) ?_;refine go ?_;refine gt (bq (Cq 900 rfl a n oz oz) (cV rfl rfl) bU rfl rfl) ?_;refine gc (KE b n oz oz) ?_;refine aL [1,19] [] (fun(i:Nat)=>[pP 0 (.ms 900 3 0 n),pP 20 (i64 i)]) (fun i=>[pP 900 (.row 3 (((dT a b).take i++(bt a n).drop i).map qA))]) (fun i=>i<=n) (fun i=>n-i) 0 (ahv _) ?_;rintro i hi K1 J1;refine gC (fun z=>?_) (fun z=>?_) (st2:=(8,0))
 ·have af : i < n := by simpa [aa] using z
  have Bb:=L9 (p:=dT a b) (w:=bt a n) (i:=i) oz oz;have oe:=(qa _ (BY (i:=i) oz)).ok;have hqb:=(qb _ (BY (i:=i) oz)).ok;refine gs (br (n:=i) (.tmp rfl) (.tmp rfl) T62 rfl T44 rfl oz oz rfl) ?_;refine gs (dx (.tmp rfl) rfl (ay Bb) T44 rfl rfl rfl) ?_;refine gi (ay (getD_some (i:=i) (l:=bt b n) oz)) ?_;refine gc (zI (rt ((bt a n).getD i 0)) (rt ((bt b n).getD i 0)) oe hqb) ?_;refine gs (br (n:=i) (.tmp rfl) (.tmp rfl) T62 rfl T44 rfl oz oz rfl) ?_;refine gs (dc (.tmp rfl) rfl (ay Bb) rfl (.tmp rfl) rfl rfl T44 rfl rfl) ?_;refine gD ?_ (7,0);refine gW (Wk.of (sl:=[pP 0 (.ms 900 3 0 n),pP 1 (nA (bt b n)),pP 19 (i64 n),pP 20 (i64 i)]) (hp:=[pP 900 (.row 3 (((dT a b).take (i+1)++(bt a n).drop (i+1)).map qA))]) aY (.cons rfl (.of (by rw[H3 oz oz (by rw[Rb,<- hn,bG,bG])])) .nil)) ?_;refine ga aF ?_;exact aE J1 (i+1) af
 have af:i=n:=by have:n<=i:=(by simpa[aa]using z);omega
 refine gW ((Wk.freeze (k:=900) rfl).trans<|Wk.of (sl:=[pP 0 (nA (dT a b))]) (hp:=[]) (.cons rfl (.of (by rw[cf (by simp;omega),af,List.drop_of_length_le oz,ah1 oz,ae5];rfl)) .nil) .nil) ?_;refine ah ?_;rfl
theorem Hh(a:List Rat)(ha:∀q∈a,Qs q)(la:a.length<=1099511627776):FP 226 [nA a] (nA (fj a)):=by
 obtain⟨n,hn⟩:∃n,n=a.length:=⟨_,rfl⟩
 refine ak func226 ?_;refine gl ?_;refine gs (gh (.tmp rfl) T62 rfl T44 rfl rfl oz (by dsimp only;omega) rfl) ?_ (2,0);refine gW (Wk.of (sl:=[pP 0 (nA a),pP 3 (.ms 7 3 0 n)]) (hp:=[pP 7 (.row 3 ((bt [] n).map qA))]) (.k (.cons rfl (.of (by simp[hn])) .nil)) (.cons rfl (BlkSub.of_ (Ju [] n (by simp)) (by rw[hn];rfl)) .nil)) ?_;refine gl ?_;refine aL [0] [] (fun(i:Nat)=>[pP 3 (.ms 7 3 0 n),pP 9 (i64 n),pP 10 (i64 i)]) (fun i=>[pP 7 (.row 3 (((fj a).take i++(bt [] n).drop i).map qA))]) (fun i=>i<=n) (fun i=>n-i) 0 (ahv _) ?_ (h1:=(.k (.cons rfl (Sub.int oz) (.k .nil))));rintro i hi K1 J1;refine gC (fun z=>?_) (fun z=>?_) (st2:=(7,0))
 ·have af : i < n := by simpa [aa] using z
  have f0:=lO (a:=a);have jJ:=gX (a:=[]) (n:=n) (by simp);have Bb:=L9 (p:=fj a) (w:=bt [] n) (i:=i) oz oz;have oe:=(ha _ (BY (i:=i) oz)).ok;refine gi (ay (getD_some (i:=i) oz)) ?_;refine gc (B4 (rt (a.getD i 0)) oe) ?_;refine gs (br (n:=i) (.tmp rfl) (.tmp rfl) T62 rfl T44 rfl oz oz rfl) ?_;refine gs (dc (.tmp rfl) rfl (ay Bb) rfl (.tmp rfl) rfl rfl T44 rfl rfl) ?_ (6,0);refine gW (Wk.of (sl:=[pP 0 (nA a),pP 3 (.ms 7 3 0 n),pP 9 (i64 n),pP 10 (i64 i)]) (hp:=[pP 7 (.row 3 (((fj a).take (i+1)++(bt [] n).drop (i+1)).map qA))]) aY (.cons rfl (.of (by rw[H3 oz oz (by rw[Wj,bG])])) .nil)) ?_;refine ga aF ?_;exact aE J1 (i+1) af
 have af:i=n:=by have:n<=i:=(by simpa[aa]using z);omega
 have f0:=lO (a:=a);have jJ:=gX (a:=[]) (n:=n) (by simp);refine gW ((Wk.freeze (k:=7) rfl).trans<|Wk.of (sl:=[pP 3 (nA (fj a))]) (hp:=[]) (.cons rfl (.of (by rw[cf (by simp;omega),af,List.drop_of_length_le oz,ah1 oz,ae5];rfl)) .nil) .nil) ?_;refine ah ?_;rfl
theorem EC(a b:List Rat)(n:Nat)(la:a.length<=n)(lb:b.length<=n)(hn:n<=274877906944):FP 342 [nA a,nA b,i64 n] (nA (fP a b n)):=by
 refine ak func342 ?_;refine gt (bq (Cq 900 rfl a n la oz) (cV rfl rfl) bU rfl rfl) ?_;refine gc (KE b n lb oz) ?_;refine gs (DU (.tmp rfl) rfl (by simp[gX la]) (.tmp rfl) T62 rfl T44 rfl rfl (by simp[gX lb];omega) rfl rfl) ?_;refine ah ?_;rw[<- aih];rfl
theorem zJ(ts:LL)(m r:Nat)(ht:nU ts m r)(hm:m<=5)(gQ:m<=ts.length)(k:Nat):∀(j:Nat)(a b:List Rat)(e f:Nat),j<=m->j<=k->Nl j a->Nl j b->Cb e a->Cb f b->e+f+eB r j<4398046511104 ->
  FP 256 [jX ts,nA a,nA b] (nA (pT ts k a b)):=by
 induction k using Nat.strongRecOn
 rename_i k ih;intro j a b e f hj uq ha hb ca cb hs;have pU:=ha.len5 oz;have fK:=hb.len5 oz;refine ak func256 ?_;refine gl ?_;refine gl ?_;refine gJ4 [3] [3] (fun(x y:List Rat)(e1 f1:Nat)=>[pP 1 (nA x),pP 2 (nA y)]) (fun _ _ _ _=>[]) (fun x y e1 f1=>y.length<=x.length/\Nl j x/\Nl j y/\Cb e1 x/\Cb f1 y/\e1+f1=e+f/\pT ts k a b=pT ts k x y) ?_ ?_
 ·intro K1 J1;refine gC (fun z=>?_) (fun z=>?_)
  ·have h1 : a.length < b.length := by have := z; simp only [aa, aiu] at this; omega
   exact KC J1 b a f e ⟨by omega,hb,ha,cb,ca,by omega,E4 ts k a b h1⟩
  have h1:b.length<=a.length:=by have:=z;simp only[aa,decide_eq_false_iff_not]at this;omega
  exact KC J1 a b e f ⟨h1,ha,hb,ca,cb,rfl,rfl⟩
 rintro x y e1 f1 ⟨A0,hx,hy,cx,cy,hef,hp⟩;have hlx:=hx.len5 oz;have hly:=hy.len5 oz;have qx:∀q∈x,Qs q:=fun q hq=>cx.qs oz hq
 have qy:∀q∈y,Qs q:=fun q hq=>cy.qs oz hq
 rw[hp];refine gc (Og x qx oz) ?_;refine bJ (fun _=>(Og y qy oz)) ?_;refine gC (fun t21=>?_) (fun t21=>?_)
 ·have h1:bf x=true\/bf y=true:=by
   have:=t21;cases hz:bf x
   ·rw[hz]at this;exact .inr this
   ·exact .inl rfl
  refine gR ?_;exact mb (by rw[XP A0 h1];exact Sub.nil _ _ _)
 have h1:¬(bf x=true\/bf y=true):=by
  have:=t21;cases hz:bf x
  ·rw[hz]at this;intro h;rcases h with h |h;cases h;(rw[show bf y=false from this]at h;cases h)
  ·rw[hz]at this;cases this
 refine gl ?_;refine gC (fun z=>?_) (fun z=>?_)
 ·have h2 : x.length = 1 := by have := z; simp only [aa, beq_iff_eq] at this; omega
  obtain⟨p,rfl⟩:=afc.1 h2;have h3:y≠[]:=fun h=>h1 (.inr (by rw[h];rfl))
  obtain⟨q,rfl⟩:∃q,y=[q]:=afc.1 (by have:=aez.2 h3;simp at A0;omega);refine gi rfl ?_;refine gi rfl ?_;refine gc (M0 (rt p) (rt q) (qx p (by simp)).ok (qy q (by simp)).ok) ?_;refine gD ?_;refine ah ?_;rw[So h1,bG,bG];rfl
 have h2:x.length≠1:=by have:=z;simp only[aa,beq_eq_false_iff_ne,ne_eq]at this;omega
 have h3:x≠[]:=fun h=>h1 (.inl (by rw[h];rfl))
 obtain⟨i,dH,kS⟩:∃i,i+1<=j/\x.length=2^(i+1):=by
  rcases E3 hx with h |h |h
  ·exact aiz (afp.1 h) h3
  ·exact aiz h h2
  ·exact h
 obtain⟨k',rfl⟩:∃k',k=k'+1:=⟨k-1,by omega⟩
 have rK:=aej i;have uw:2^i<=32:=d7 (b:=5) oz;have nV:2^(i+1)=2*2^i:=by rw[ado];omega
 have ff:eB r (i+1)<=eB r j:=q7 r dH;have hee:eB r (i+1)=2*eB r i+r+2:=rfl;have n1:Nl i (x.take (2^i)):=.inr ⟨i,ahr _,kq kS⟩;have n2:Nl i (x.drop (2^i)):=.inr ⟨i,ahr _,lr kS⟩;refine gl ?_;refine gs (ls (.tmp rfl) (.const _) oz (show _=((2^i:Nat):Int) by rw[qQ oz,kS,l8]) rfl) ?_;refine gs (eF (.tmp rfl) (.none _) (.some _ (.tmp rfl) oz) T62 rfl T44 rfl oz (by simp only[ahk];omega) rfl) ?_;refine gs (eF (.tmp rfl) (.some _ (.tmp rfl) oz) (.none _) T62 rfl T44 rfl (by simp only[ahk];omega) oz rfl) ?_;refine gD ?_ (9,0);refine gW (Wk.of (sl:=[pP 1 (nA x),pP 2 (nA y),pP 3 (.ptr 3 0),pP 7 (i64 ((2^i:Nat):Int)),pP 8 (nA (x.take (2^i))),pP 9 (nA (x.drop (2^i)))]) (hp:=[pP 3 (.box [.lst 1 (ts.map nA)])]) (.k (.k (.k (.k (.cons rfl (.of (r5 x (2^i))) (.cons rfl (.of (wG x (2^i))) .nil)))))) (.k .nil)) ?_;refine gl ?_;refine gC (fun z=>?_) (fun z=>?_)
 ·have h4 : y.length <= 2 ^ i := by have := z; simp only [aa, aiu] at this; omega
  have n3:Nl i y:=S7 hy h4;have s1:=i6 ts m ht.1 i k' _ _ oz oz n1 n3;have s2:=i6 ts m ht.1 i k' _ _ oz oz n2 n3;refine gc (ih k' oz i _ _ e1 f1 oz oz n1 n3 cx.take cy oz) ?_;refine gc (ih k' oz i _ _ e1 f1 oz oz n2 n3 cx.drop cy oz) ?_;refine gc (EC _ _ (2^i) s1.1.le s2.1.le oz) ?_;refine gD ?_;refine ah ?_;rw[aa9 kS h4 h1]
 have h4:¬y.length<=2^i:=by have:=z;simp only[aa,decide_eq_false_iff_not]at this;omega
 have Pa:=VH hy h4 oz;have n3:Nl i (y.take (2^i)):=.inr ⟨i,ahr _,kq Pa⟩;have n4:Nl i (y.drop (2^i)):=.inr ⟨i,ahr _,lr Pa⟩;have nd:=ht.1 i oz;have cd:=ht.2.cb i;have s1:=i6 ts m ht.1 i k' _ _ oz oz n1 n3;have s2:=i6 ts m ht.1 i k' _ _ oz oz n2 n4;have s3:=i6 ts m ht.1 i k' _ _ oz oz s2.1 nd;have s4:=i6 ts m ht.1 i k' _ _ oz oz n1 n4;have s5:=i6 ts m ht.1 i k' _ _ oz oz n2 n3;have c1:=Cb.mul ht (k:=k') (show i<=m by omega) oz n1 n3 cx.take cy.take;have c2:=Cb.mul ht (k:=k') (show i<=m by omega) oz n2 n4 cx.drop cy.drop;have c3:=Cb.mul ht (k:=k') (show i<=m by omega) oz s2.1 nd c2 cd;have c4:=Cb.mul ht (k:=k') (show i<=m by omega) oz n1 n4 cx.take cy.drop;have c5:=Cb.mul ht (k:=k') (show i<=m by omega) oz n2 n3 cx.drop cy.take;have hpT:=VT (ts:=ts) (k:=k') kS h4 A0 h1;refine gs (eF (.tmp rfl) (.none _) (.some _ (.tmp rfl) oz) T62 rfl T44 rfl oz (by simp only[ahk];omega) rfl) ?_;refine gs (eF (.tmp rfl) (.some _ (.tmp rfl) oz) (.none _) T62 rfl T44 rfl (by simp only[ahk];omega) oz rfl) ?_;refine gD ?_ (12,0);refine gW (Wk.of (sl:=[pP 1 (nA x),pP 3 (.ptr 3 0),pP 7 (i64 ((2^i:Nat):Int)),pP 8 (nA (x.take (2^i))),pP 9 (nA (x.drop (2^i))),pP 10 (nA (y.take (2^i))),pP 11 (nA (y.drop (2^i)))]) (hp:=[pP 3 (.box [.lst 1 (ts.map nA)])]) (.k (.k (.k (.k (.k (.cons rfl (.of (r5 y (2^i))) (.cons rfl (.of (wG y (2^i))) .nil))))))) (.k .nil)) ?_;refine gc (z9 qA x oz) ?_;refine ga (show _=(i:Int) by rw[kS,vM,el oz];omega) ?_;refine gi (Fj (j:=i) oz) ?_;refine gD ?_;refine gc (ih k' oz i _ _ e1 f1 oz oz n1 n3 cx.take cy.take oz) ?_;refine gc (ih k' oz i _ _ e1 f1 oz oz n2 n4 cx.drop cy.drop oz) ?_;refine gc (ih k' oz i _ _ _ _ oz oz s2.1 nd c2 cd oz) ?_;refine gc (AE _ _ (fun q hq=>c1.qs oz hq) (fun q hq=>c3.qs oz hq) (by have:=s1.1.le;omega) (by have:=s3.1.le;omega)) ?_;refine gD ?_;refine gc (ih k' oz i _ _ e1 f1 oz oz n1 n4 cx.take cy.drop oz) ?_;refine gc (ih k' oz i _ _ e1 f1 oz oz n2 n3 cx.drop cy.take oz) ?_;refine gc (AE _ _ (fun q hq=>c4.qs oz hq) (fun q hq=>c5.qs oz hq) (by have:=s4.1.le;omega) (by have:=s5.1.le;omega)) ?_;refine gc (EC _ _ (2^i) (by have:=s1.1.le;have:=s3.1.le;rw[gy];omega) (by have:=s4.1.le;have:=s5.1.le;rw[gy];omega) oz) ?_;refine gD ?_;refine ah ?_;rw[hpT]
theorem DK(ts:LL)(m r:Nat)(ht:nU ts m r)(hm:m<=5)(gQ:m<=ts.length)(i:Nat)(a:List Rat)(e:Nat)(hi:i+1<=m)(bg:a.length=2^(i+1))(ca:Cb e a)(hs:4*e+3*eB r i+r+1<4398046511104) :
  FP 159 [jX ts,nA a] (nA (ja ts i a)):=by
 have rK:=aej i;have uw:2^i<=32:=d7 (b:=5) oz;have nV:2^(i+1)=2*2^i:=by rw[ado];omega
 have n1:Nl i (a.take (2^i)):=.inr ⟨i,ahr _,kq bg⟩;have n2:Nl i (a.drop (2^i)):=.inr ⟨i,ahr _,lr bg⟩;have nd:=ht.1 i oz;have cd:=ht.2.cb i;have s1:=i6 ts m ht.1 i i _ _ oz oz n1 n1;have s2:=i6 ts m ht.1 i i _ _ oz oz n2 n2;have s3:=i6 ts m ht.1 i i _ _ oz oz s2.1 nd;have c1:=Cb.mul ht (k:=i) (show i<=m by omega) oz n1 n1 ca.take ca.take;have c2:=Cb.mul ht (k:=i) (show i<=m by omega) oz n2 n2 ca.drop ca.drop;have c3:=Cb.mul ht (k:=i) (show i<=m by omega) oz s2.1 nd c2 cd;refine ak func159 ?_;refine gl ?_;refine gs (ls (.tmp rfl) (.const _) oz (show _=((2^i:Nat):Int) by rw[qQ oz,bg,l8]) rfl) ?_;refine gs (eF (.tmp rfl) (.none _) (.some _ (.tmp rfl) oz) T62 rfl T44 rfl oz (by simp only[ahk];omega) rfl) ?_;refine gs (eF (.tmp rfl) (.some _ (.tmp rfl) oz) (.none _) T62 rfl T44 rfl (by simp only[ahk];omega) oz rfl) ?_;refine gD ?_ (3,0);refine gW (Wk.of (sl:=[pP 1 (nA a),pP 2 (.ptr 2 0),pP 6 (nA (a.take (2^i))),pP 7 (nA (a.drop (2^i)))]) (hp:=[pP 2 (.box [.lst 1 (ts.map nA)])]) (.k (.k (.cons rfl (.of (r5 a (2^i))) (.cons rfl (.of (wG a (2^i))) .nil)))) (.k .nil)) ?_;refine gc (zJ ts m r ht hm gQ i i _ _ e e oz oz n1 n1 ca.take ca.take oz) ?_;refine gc (zJ ts m r ht hm gQ i i _ _ e e oz oz n2 n2 ca.drop ca.drop oz) ?_;refine gc (z9 qA a oz) ?_;refine ga (show _=(i:Int) by rw[bg,vM,el oz];omega) ?_;refine gi (Fj (j:=i) oz) ?_;refine gc (zJ ts m r ht hm gQ i i _ _ _ _ oz oz s2.1 nd c2 cd oz) ?_;refine gc (Hh _ (fun q hq=>c3.qs oz hq) (by have:=s3.1.le;omega)) ?_;refine gc (AE _ _ (fun q hq=>c1.qs oz hq) (fun q hq=>c3.minus.qs oz hq) (by have:=s1.1.le;omega) (by have:=s3.1.le;rw[lO];omega)) ?_;refine gD ?_;refine ah ?_;rfl
theorem KM(ts:LL)(m r:Nat)(ht:nU ts m r)(hm:m<=5)(gQ:m<=ts.length)(j:Nat):∀(a:List Rat)(e:Nat),j<=m->Nl j a->Cb e a->sB r j e<4398046511104 ->
  FP 69 [jX ts,nA a] (i64 (T.sgn (aD ts) j (ao j a))):=by
 induction j using Nat.strongRecOn
 rename_i j ih;intro a e hj ha ca hs;have hse:=uE r j e;have qa:∀q∈a,Qs q:=fun q hq=>ca.qs oz hq
 obtain⟨s,pZ⟩:∃s,s=sh j (ao j a):=⟨_,rfl⟩
 have oh:ao j s=ao j a:=by rw[pZ,dY]
 have xz:Nl j s:=by rw[pZ];exact iH j _
 have cs:Cb e s:=by rw[pZ];exact ca.sh ha
 have F7:=xz.len5 oz;rw[<- oh];refine ak func69 ?_;refine gc (pZ▸yB a oz ha qa) ?_;refine gl ?_;refine gC (fun z=>?_) (fun z=>?_)
 ·have h1 : s=[] := afp.1 (by have := z;simp only[aa,beq_iff_eq]at this;omega);refine ah ?_;rw[h1,oB,T.sgn_zero];rfl
 have h1:s.length≠0:=by have:=z;simp only[aa,beq_eq_false_iff_ne,ne_eq]at this;omega
 refine gl ?_;refine gC (fun z=>?_) (fun z=>?_)
 ·have h2 : s.length = 1 := by have := z; simp only [aa, beq_iff_eq] at this; omega
  obtain⟨q,rfl⟩:=afc.1 h2;refine gi rfl ?_;refine gc (Fq (rt q) (cs.qs oz (by simp:q∈[q])).ok) ?_;refine ah ?_;rw[rc,T.sgn_ofQ,bG]
 have h2:s.length≠1:=by have:=z;simp only[aa,beq_eq_false_iff_ne,ne_eq]at this;omega
 obtain⟨i,dH,eA⟩:∃i,i+1<=j/\s.length=2^(i+1):=by
  rcases E3 xz with h |h |h
  ·exact aiz h h1
  ·exact aiz h h2
  ·exact h
 have rK:=aej i;have uw:2^i<=32:=d7 (b:=5) oz;have nV:2^(i+1)=2*2^i:=by rw[ado];omega
 have n1:Nl i (s.take (2^i)):=.inr ⟨i,ahr _,kq eA⟩;have n2:Nl i (s.drop (2^i)):=.inr ⟨i,ahr _,lr eA⟩;have nd:=ht.1 i oz;have cd:=ht.2.cb i;obtain⟨nn,dn,cn⟩:=z4 ht oz eA cs;have b1:sB r i (4*e+3*eB r i+r+1)<=sB r j e:=Aw r e dH;have b2:sB r i e<=sB r i (4*e+3*eB r i+r+1):=vP r i oz;have b3:sB r i r<=sB r i (4*e+3*eB r i+r+1):=vP r i oz;have b4:=uE r i (4*e+3*eB r i+r+1);have k1:=ih i oz (s.take (2^i)) e oz n1 cs.take oz;have k2:=ih i oz (s.drop (2^i)) e oz n2 cs.drop oz;have k3:=ih i oz _ r oz nd cd oz;have k4:=ih i oz _ _ oz nn cn oz
 have n7:T.sgn (aD ts) j (ao j s)=T.sgn3 (T.sgn (aD ts) i (ao i (s.take (2^i)))) (T.sgn (aD ts) i (ao i (s.drop (2^i)))) (T.sgn (aD ts) i (ao i (ts.getD i []))) (T.sgn (aD ts) i (ao i (ja ts i s))):=by
  rw[yd _ oz dH,dn];rfl
 have v1:=T.sgn_cases (aD ts) i (ao i (s.take (2^i)));have v4:=T.sgn_cases (aD ts) i (ao i (ja ts i s));refine gl ?_;refine gs (ls (.tmp rfl) (.const _) oz (show _=((2^i:Nat):Int) by rw[qQ oz,eA,l8]) rfl) ?_;refine gs (eF (.tmp rfl) (.none _) (.some _ (.tmp rfl) oz) T62 rfl T44 rfl oz (by simp only[ahk];omega) rfl) ?_;refine gc (by have h9:=k1;rw[<- r5]at h9;exact h9) ?_;refine gs (eF (.tmp rfl) (.some _ (.tmp rfl) oz) (.none _) T62 rfl T44 rfl (by simp only[ahk];omega) oz rfl) ?_;refine gc (by have h9:=k2;rw[<- wG]at h9;exact h9) ?_;refine gD ?_;refine gc (z9 qA s oz) ?_;refine ga (show _=(i:Int) by rw[eA,vM,el oz];omega) ?_;refine gi (Fj (j:=i) oz) ?_;refine gc k3 ?_;refine gD ?_;refine gC (fun z=>?_) (fun z=>?_)
 ·have e1 : T.sgn (aD ts) i (ao i (ts.getD i [])) = 0 := by simpa [aa] using z
  refine ah ?_;rw[n7];unfold T.sgn3;rw[ait e1]
 have e1:¬T.sgn (aD ts) i (ao i (ts.getD i []))=0:=by simpa[aa]using z
 refine gC (fun z=>?_) (fun z=>?_)
 ·have e2:T.sgn (aD ts) i (ao i (s.take (2^i)))=T.sgn (aD ts) i (ao i (s.drop (2^i)))\/T.sgn (aD ts) i (ao i (s.drop (2^i)))=0:=Xk z;refine ah ?_;rw[n7];unfold T.sgn3;rw[ais e1,ait e2]
 have e2:¬(T.sgn (aD ts) i (ao i (s.take (2^i)))=T.sgn (aD ts) i (ao i (s.drop (2^i)))\/T.sgn (aD ts) i (ao i (s.drop (2^i)))=0):=SH z;refine gC (fun z=>?_) (fun z=>?_)
 ·have e3 : T.sgn (aD ts) i (ao i (s.take (2 ^ i))) = 0 := by simpa [aa] using z
  refine ah ?_;rw[n7];unfold T.sgn3;rw[ais e1,ais e2,ait e3]
 have e3:¬T.sgn (aD ts) i (ao i (s.take (2^i)))=0:=by simpa[aa]using z
 refine gc (DK ts m r ht hm gQ i s e oz eA cs oz) ?_;refine gc k4 ?_;refine ga (QW v1 v4) ?_;refine gD ?_;refine ah ?_;rw[n7];unfold T.sgn3;rw[ais e1,ais e2,ais e3];rfl
theorem zu{p q:Rat}(hp:Qs p)(hq:Qs q):FP 45 [qA p,qA q] (qA (p+q)):=by
 have h:=zI (rt p) (rt q) hp.ok hq.ok;rw[bG,bG]at h;exact h
theorem tc{p q:Rat}(hp:Qs p)(hq:Qs q):FP 172 [qA p,qA q] (qA (p-q)):=by
 have h:=ZO (rt p) (rt q) hp.ok hq.ok;rw[bG,bG]at h;exact h
theorem jP{p q:Rat}(hp:Qs p)(hq:Qs q):FP 71 [qA p,qA q] (qA (p*q)):=by
 have h:=M0 (rt p) (rt q) hp.ok hq.ok;rw[bG,bG]at h;exact h
theorem MM{p q:Rat}(hp:Qs p)(hq:Qs q):FP 389 [qA p,qA q] (.tup [qA (p/q),dh (if q=0 then 8 else 0)]):=by
 have h:=Ja (rt p) (rt q) hp.ok hq.ok;rw[bG,bG]at h;exact h
theorem wX{p:Rat}(hp:Qs p):FP 279 [qA p] (qA (-p)):=by
 have h:=B4 (rt p) hp.ok;rw[bG]at h;exact h
theorem uR{p:Rat}(hp:Qs p):FP 24 [qA p] (i64 (a7 p)):=by
 have h:=Fq (rt p) hp.ok;rw[bG]at h;exact h
theorem YW{p q:Rat}(hp:Qs p)(hq:Qs q):FP 352 [qA p,qA q] (i64 (a7 (p-q))):=by
 have h:=E7 (rt p) (rt q) hp.ok hq.ok;rw[bG,bG]at h;exact h
end Go.Lw
