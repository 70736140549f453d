/- LimitsDyads: for any linkage and any turn the law returns true and leaves its arguments as they were. No other condition. Part 4 of 9: what the later parts need -/
import Derived.Test.YtmencaoblogmeaaGreatZc
import Derived.Test.YtmencaoblogmeaaGreatRows
set_option linter.unusedVariables false
open List (nil_append drop_drop map_take all_append)
open List renaming mem_of_getElem? → ar1, mem_cons_of_mem → ass, mem_append → ar9, map_cons → atb, mem_cons → asj, length_cons → asi, mem_cons_self → as2, length_append → asx, length_nil → asu, getD_eq_getElem?_getD → ar2, getElem?_eq_none → asg, all_eq_true → asd, getElem?_take → asy, getElem?_map → asa, getElem?_eq_getElem → ar7, drop_eq_nil_of_le → as0, getElem?_replicate → ast, map_append → asz, take_of_length_le → asn, drop_zero → as8, take_length → asK, not_mem_nil → asf, length_map → ar3, length_replicate → asr, map_replicate → as5, map_set → as7, length_set → as9, replicate → apf, contains_iff_mem → api, find?_range_eq_none → apj, find?_range_eq_some → apm, take_append_of_le_length → apq, mem_range → apt, length_eq_zero_iff → apv, take_take → ap3, drop_eq_getElem_cons → ap7, getElem?_eq_some_iff → ap9, getLast?_eq_getElem? → aqa, length_pos_iff → aqb, mem_map → aqd, mem_singleton → aqf, getElem_mem → aqh
open Nat renaming le_refl → ar8, lt_of_lt_of_le → asp, lt_or_ge → asb, le_trans → asv, mul_le_mul_right → asl, mul_le_mul_left → ash, zero_le → ase, pow_add → as6, lt_of_le_of_lt → asw, le_of_lt → an4, add_mul → an5, add_mul_mod_self_left → an6, mul_assoc → an8, div_add_mod → aoa, blt → aob, mul_comm → aog, pow_pos → aoi, zero_add → aoj, pow_le_pow_right → aok, mod_eq_of_lt → aol, mul_add → aom, min_eq_left → aon, div_le_self → aop, div_lt_iff_lt_mul → aos, mod_lt → aou, eq_zero_or_pos → aov, div_eq_of_lt → aow, add_zero → aoy, pow_succ → ao1, gcd_comm → ao2, pow_mul → ao3, gcd → ao5, add_comm → ao7, add_mul_div_left → ao9, mul_lt_mul'' → apb, div_div_eq_div_mul → apd, succ_mul → ape
open Option renaming map_eq_some_iff → ar6, getD_some → ary
open Bool renaming and_eq_true → ar5, or_eq_true → ata, eq_iff_iff → aq8, false_eq_true → aq9, eq_false_iff → ara, not_eq_false' → arb, false_and → ard, true_and → are, not_eq_true' → arf
open Int renaming toNat_natCast → as4, natAbs_natCast → as1, sign_nonneg_iff → aqj, sign_eq_zero_iff_zero → aql, mul_ne_zero → aqm, gcd → aqn, sign_trichotomy → aqp, mul_nonneg → aqq, sign_eq_neg_one_iff_neg → aqr, ofNat_inj → aqx
open Rat renaming mul_nonneg → aqz, num_divInt_den → aq1, mul_pos → aq2, divInt → aq3, le_refl → aq4, sub_eq_add_neg → aq5, num_eq_zero → aq6
open Decidable renaming not_not → ar0
open Go renaming Value → ato, TypeId → atp, Program → atq, World → atr
open Go.Proofs.Tryz
namespace Go.Lw
open Go.Proofs
theorem oK(m:List Nat)(i:Nat)(hm:Ws m):FP 401 [ws m,i64 i] (u64 (ak m i)):=by
 refine am func401 ?_;refine gl ?_;refine gC (fun z=>?_) (fun z=>?_)
 ·simp[aa]at z;have:=bX hm i;refine gi (cB (i:=i) z) ?_;refine gv (u64_in oz) ?_;refine ah ?_;rfl
 simp[aa]at z;refine ah ?_;simp[u64,vc z]
theorem LK(w:Wh)(h:w.ok):FP 372 [w.av] (bl w.valid):=by
 have hl:w.mag.length<=aF:=h.2;refine am func372 ?_;refine gl ?_;refine gC (fun z=>?_) (fun z=>?_)
 ·have h0 : w.mag = [] := by simpa [aa] using z
  refine ah ?_;simp[bl,Wh.valid,h0]
 have h0:w.mag.length≠0:=by simpa[aa]using z
 refine gl ?_;refine ga (gG oz oz) ?_;refine gi (cB (i:=w.mag.length-1) oz) ?_;refine ah ?_;have h1:w.mag≠[]:=fun h=>h0 (by rw[h];rfl)
 simp only[bl,Wh.valid,atd h1,aqa,lI (show w.mag.length-1<w.mag.length by omega),aa];congr 2;generalize ak w.mag _=x;rw[aq8];simp
theorem nV(w:Wh)(h:w.ok):FP 303 [w.av] (ws w.m):=by
 refine am func303 ?_;refine gc (LK w h) ?_;refine gC (fun z=>?_) (fun z=>?_)
 ·have h0 : w.valid = false := by simpa [aa] using z
  refine gR ?_;exact nk (by rw[show w.m=[] by simp[Wh.m,h0]];exact Sub.nil _ _ _)
 have h0:w.valid=true:=by simpa[aa]using z
 refine ah ?_;simp only[Wh.m,h0];rfl
theorem kP(w:Wh)(h:w.ok):FP 301 [w.av] (bl w.n):=by
 refine am func301 ?_;refine gc (LK w h) ?_;refine ah ?_;simp only[Wh.n,bl];cases w.valid <;> rfl
theorem Fg(d:Nat)(hd:aob d 1000=true)(m:List Nat)(hm:Ws m)(hb:m.length<=aA) :
  Con prog 365 [ws m] [] (.ms d 1 0 (ofNat (val m)).length) [(d,some (.row 1 (m.map u32)))]:=by
 have hb':=hb;unfold aA at hb;refine gF func365 (fun k z h=>by cases h) ?_;refine gs (tf T42 rfl T87 rfl rfl rfl) ?_;refine gs (eQ (.tmp rfl) rfl rfl (.tmp rfl) T42 rfl T87 rfl rfl (by simp only[ar3];omega) rfl rfl) ?_;refine aP [] [6] (fun(n:Nat)=>[pP 3 (.ms 6 1 0 n)]) (fun _=>[]) (fun n=>n<=m.length/\val (m.take n)=val m) (fun n=>n) m.length ⟨ar8 _,by rw[asK]⟩ ?_ (h1:=(.cons rfl (.of (by rw[ar3,aoj])) .nil));rintro n ⟨hn,hv⟩ K1 J1;refine kG (fun h=>(gG (by simp[aa]at h;omega) (by unfold aF;omega))) ?_;refine gs (fM rfl rfl rfl (fun h=>bI (n:=n-1) (.opt rfl (o1 h)) (.opt rfl (o1 h)) T42 rfl T87 rfl oz (by simp[aa]at h;omega) rfl)) ?_;refine gs (fM rfl rfl rfl (fun h=>dt (.opt rfl (o1 h)) rfl (cB (i:=n-1) (by simp[aa]at h;omega)) T87 rfl rfl rfl)) ?_;refine gC (fun t18=>?_) (fun t18=>?_)
 ·have t18 : 0 < n /\ ak m (n - 1) = 0 := by simpa [aa] using t18
  refine ga (gG oz (by unfold aF;omega)) ?_;refine gs (ua (.tmp rfl) (.none _) (.some _ (.tmp rfl) oz) T42 rfl T87 rfl oz oz rfl) ?_;exact aM J1 (n-1) ⟨by omega,by have h:=@dU m (n-1);rw[show n-1+1=n by omega,t18.2]at h;simp at h;omega⟩ (hw:=Wk.of (.cons rfl (.of (by congr 1)) .nil) (.k .nil))
 have t18:0<n->ak m (n-1)≠0:=by simpa[aa]using t18
 have jY:=L6 hm hn hv (by rcases aov n with h |h;(exact .inl h);exact .inr (t18 h));subst jY;refine gR ?_;exact aD.own1 rfl hd rfl
theorem vp(m:List Nat)(hm:Ws m)(hb:m.length<=aA):FP 365 [ws m] (ws (ofNat (val m))):=by
 have h:=Con.freeze (by rw[ar3,aoj];exact RI hm) (Fg 0 rfl m hm hb)
 rwa [as8,<- map_take,N5 hm]at h
theorem mM(b:Bool)(m:List Nat)(hm:Ws m)(hb:m.length<=aA):FP 282 [bl b,ws m] (zA (sgn b (val m))):=by
 refine am func282 ?_;refine gc (vp m hm hb) ?_;refine gl ?_;refine gC (fun t9=>?_) (fun t9=>?_)
 ·have h0:val m=0:=by
   have:=cD (val m);have h9:ofNat (val m)=[]:=apv.1 (by simpa[aa]using t9);rw[h9]at this;exact this.symm
  refine gR ?_;exact nk (by rw[h0,show sgn b 0=0 by cases b <;> rfl];exact ajt)
 have h0:val m≠0:=by
  intro h;rw[h]at t9;cases t9
 refine ah ?_
 rw[show zA (sgn b (val m))=.agg [bl b,ws (ofNat (val m))] by
  unfold zA ofInt Wh.av;rw[show(sgn b (val m)).natAbs=val m by unfold sgn;split <;> omega,show decide (sgn b (val m)<0)=b by cases b <;> simp[sgn] <;> omega]]
theorem Gf(a b:List Nat)(ha:Ws a)(hb:Ws b):FP 370 [ws a,ws b] (i64 (if val a<val b then -1 else if val b<val a then 1 else 0)):=by
 refine am func370 ?_ (0,0);refine yj (t:=0) rfl (fun oo=>?_);refine yj (t:=1) rfl (fun eY=>?_);unfold aF at oo eY;refine go ?_;refine gl ?_;refine gl ?_;refine gs (tG (.tmp rfl) (.tmp rfl) rfl) ?_;refine ga (eO oz) ?_;refine aP [0,1] [] (fun(n:Nat)=>[pP 5 (i64 ((n:Int)-1))]) (fun _=>[]) (fun n=>n<=281474976710656/\val (a.drop n)=val (b.drop n)) (fun n=>n) (max a.length b.length) ⟨by omega,by rw[as0 oz,as0 oz]⟩ ?_ (h1:=(.cons rfl (Sub.int oz) .nil));rintro n ⟨hn,hd⟩ K1 J1;refine gC (fun z=>?_) (fun z=>?_)
 ·have kA : 1 <= n := by have := z; simp [aa] at this; omega
  obtain⟨k,rfl⟩:∃k,n=k+1:=⟨n-1,by omega⟩
  have hk:((k+1:Nat):Int)-1=(k:Int):=by omega
  rw[hk];refine gc (oK a k ha) ?_;refine gc (oK b k hb) ?_;refine gC (fun z=>?_) (fun z=>?_)
  ·have h3 : ak a k ≠ ak b k := by simpa [aa, aqx] using z
   refine gc (oK a k ha) ?_;refine gc (oK b k hb) ?_;refine gC (fun z=>?_) (fun z=>?_)
   ·have h4 : ak a k < ak b k := by simpa [aa] using z
    have h5:=Pe ha hd h4;refine ah ?_;simp[i64,h5]
   have h4:ak b k<ak a k:=by have:ak b k<=ak a k:=(by simpa[aa]using z);omega
   have h5:=Pe hb hd.symm h4;refine ah ?_;simp[i64,h5,Nat.lt_asymm h5]
  have h3:ak a k=ak b k:=by simpa[aa,aqx]using z
  refine ga (eO oz) ?_;exact aM J1 k ⟨by omega,by rw[x7 a,x7 b,hd,h3]⟩
 have kA:n=0:=by have:=z;simp[aa]at this;omega
 subst kA;refine ah ?_;simp at hd;simp[i64,hd]
theorem FV(a b:List Nat)(ha:Ws a)(hb:Ws b)(la:a.length<aA)(lb:b.length<aA):FP 363 [ws a,ws b] (ws (ofNat (val a+val b))):=by
 unfold aA at la lb;obtain⟨n,hn⟩:∃n,n=max a.length b.length+1:=⟨_,rfl⟩
 refine am func363 ?_;refine gl ?_;refine gl ?_;refine gs (tG (.tmp rfl) (.tmp rfl) rfl) ?_;refine ga (show _=(n:Int) by rw[dx oz];omega) ?_;refine gW (Wk.virt 900 1 rfl) ?_;refine kq [0,1,14] [] (fun(out:List Nat)(c i:Nat)=>[pP 5 (.ms 900 1 0 i),pP 6 (u64 c),pP 15 (i64 i)]) (fun out _ _=>[pP 900 (.row 1 (out.map u32))]) (fun out c i=>out.length=i/\i<=n/\Ws out/\c<=1/\val out+c*4294967296^i=val (a.take i)+val (b.take i)) (fun _ _ i=>n-i) ([]) 0 0 ⟨rfl,by omega,zy,by omega,by simp[val]⟩ ?_;rintro out c i ⟨ho,hi,hw,hc,hv⟩ K1 J1;refine gC (fun z=>?_) (fun z=>?_) (st2:=(9,0))
 ·have af : i < n := by simpa [aa] using z
  have h1:=bX ha i;have h2:=bX hb i;obtain⟨s,hs⟩:∃s,s=c+(ak a i+ak b i):=⟨_,rfl⟩
  have h3:=ID (u:=ak a i) (w:=ak b i) hv;rw[<- hs]at h3;refine gc (by apply oK <;> assumption) ?_;refine gc (by apply oK <;> assumption) ?_;refine ga (kK oz) ?_;refine ga ((kK oz).trans (show _=(s:Int) by congr 1;omega)) ?_;refine gv (ef _) ?_;refine gs (eQ (.tmp rfl) rfl (by rw[ar3,ho]) (.tmp rfl) T42 rfl T87 rfl rfl (by simp;omega) rfl rfl) ?_;refine gs (fZ (.tmp rfl) (.const _) oz (jv _ 32 oz) rfl) ?_ (8,0);refine gW (Wk.of (sl:=[pP 0 (ws a),pP 1 (ws b),pP 5 (.ms 31 1 0 (i+1)),pP 6 (u64 (s/2^32)),pP 14 (i64 n),pP 15 (i64 i)]) (hp:=[pP 31 (.row 1 ((out++[s%4294967296]).map u32))]) a6 (.cons rfl (.of (by rw[asz];rfl)) .nil)) ?_ (8,0);refine gW (Wk.rk (k:=31) (d:=900) rfl rfl) ?_;refine ga (dx oz) ?_;exact js J1 (out++[s%4294967296]) (s/2^32) (i+1) ⟨by simp[ho],by omega,Ca hw (zN oz),by omega,by rw[So ho,dU,dU,ao1];exact h3⟩
 have af:i=n:=by have:n<=i:=(by simpa[aa]using z);omega
 refine gW ((Wk.freeze (k:=900) rfl).trans<|Wk.of (sl:=[pP 5 (ws out)]) (hp:=[]) (.cons rfl (.of (cq (by simp[ho]))) .nil) .nil) ?_;refine gc (vp out hw (by unfold aA;omega)) ?_;refine ah ?_;subst af;rw[Mv ha hb hn ho (by rw[fX (l:=out) oz];exact hv)]
theorem Ig(a b:List Nat)(ha:Ws a)(hb:Ws b)(la:a.length<aA)(bR:val b<=val a):FP 364 [ws a,ws b] (ws (ofNat (val a-val b))):=by
 unfold aA at la;obtain⟨n,hn⟩:∃n,n=a.length:=⟨_,rfl⟩
 refine am func364 ?_;refine gl ?_;refine gW (Wk.virt 900 1 rfl) ?_;refine kq [0,1] [] (fun(out:List Nat)(c i:Nat)=>[pP 5 (.ms 900 1 0 i),pP 6 (u64 c),pP 10 (i64 n),pP 11 (i64 i)]) (fun out _ _=>[pP 900 (.row 1 (out.map u32))]) (fun out c i=>out.length=i/\i<=n/\Ws out/\c<=1/\val out+val (b.take i)=val (a.take i)+c*4294967296^i) (fun _ _ i=>n-i) ([]) 0 0 ⟨rfl,by omega,zy,by omega,by simp[val]⟩ ?_ (h1:=(.k (.k (.cons rfl (Sub.int (by rw[hn])) (.k .nil)))))
 rintro out c i ⟨ho,hi,hw,hc,hv⟩ K1 J1;refine gC (fun z=>?_) (fun z=>?_) (st2:=(9,0))
 ·have af : i < n := by simpa [aa] using z
  have h1:=bX ha i;have h2:=bX hb i;obtain⟨s,hs⟩:∃s,s=4294967296+ak a i-ak b i-c:=⟨_,rfl⟩
  have h3:=Tg h1 h2 hc hv;rw[<- hs]at h3;refine gc (by apply oK <;> assumption) ?_;refine ga ((kK (x:=4294967296) oz)) ?_;refine gc (by apply oK <;> assumption) ?_;refine ga ((nW oz oz).trans (by rw[ate oz])) ?_;refine ga ((nW oz oz).trans (show _=(s:Int) by rw[ate oz];congr 1;omega)) ?_;refine gv (ef _) ?_;refine gs (eQ (.tmp rfl) rfl (by rw[ar3,ho]) (.tmp rfl) T42 rfl T87 rfl rfl (by simp;omega) rfl rfl) ?_;refine gs (fZ (.tmp rfl) (.const _) oz (jv _ 32 oz) rfl) ?_;refine ga ((nW (x:=1) oz oz).trans (by rw[ate oz])) ?_ (8,0);refine gW (Wk.of (sl:=[pP 0 (ws a),pP 1 (ws b),pP 5 (.ms 28 1 0 (i+1)),pP 6 (u64 (1-s/2^32:Nat)),pP 10 (i64 n),pP 11 (i64 i)]) (hp:=[pP 28 (.row 1 ((out++[s%4294967296]).map u32))]) a6 (.cons rfl (.of (by rw[asz];rfl)) .nil)) ?_ (8,0);refine gW (Wk.rk (k:=28) (d:=900) rfl rfl) ?_;refine ga (dx oz) ?_;exact js J1 (out++[s%4294967296]) (1-s/2^32) (i+1) ⟨by simp[ho],by omega,Ca hw (zN oz),by omega,by rw[So ho,dU,dU,ao1];exact h3⟩
 have af:i=n:=by have:n<=i:=(by simpa[aa]using z);omega
 refine gW ((Wk.freeze (k:=900) rfl).trans<|Wk.of (sl:=[pP 5 (ws out)]) (hp:=[]) (.cons rfl (.of (cq (by simp[ho]))) .nil) .nil) ?_;refine gc (vp out hw (by unfold aA;omega)) ?_;refine ah ?_;subst af;subst hn;rw[Oq ha hw ho bR hv]
theorem aej(a b:List Nat)(ha:Ws a)(hb:Ws b)(la:a.length+b.length<=aA):FP 302 [ws a,ws b] (ws (ofNat (val a*val b))):=by
 have la':=la;unfold aA at la;refine am func302 ?_;refine gl ?_;refine gl ?_;refine ga (gy (by unfold aF;omega) (by unfold aF;omega)) ?_;refine gs (it (.tmp rfl) T42 rfl T87 rfl rfl oz (by dsimp only;omega) rfl) ?_;refine gl ?_;refine fT [0,1,17] [] (fun(out:List Nat)(i:Nat)=>[pP 5 (.ms 15 1 0 (a.length+b.length)),pP 18 (i64 i)]) (fun out _=>[pP 15 (.row 1 (out.map u32))]) (fun out i=>out.length=a.length+b.length/\i<=a.length/\Ws out/\val (out.take (i+b.length))=val (a.take i)*val b) (fun _ i=>a.length-i) (apf (a.length+b.length) 0) 0 ⟨by simp,by omega,o0 _,by simp[val,C0]⟩ ?_ (h2:=(.cons rfl (.of (by rw[as5];rfl)) .nil))
 rintro out i ⟨ho,hi,hw,hv⟩ K1 J1;refine gC (fun z=>?_) (fun z=>?_) (st2:=(14,0))
 ·have af : i < a.length := by simpa [aa] using z
  have h1:=bX ha i;refine gl ?_;refine kq [0,1,17,18,6,22] [] (fun(o:List Nat)(c k:Nat)=>[pP 5 (.ms 15 1 0 (a.length+b.length)),pP 7 (u64 c),pP 23 (i64 k)]) (fun o _ _=>[pP 15 (.row 1 (o.map u32))]) (fun o c k=>o.length=a.length+b.length/\k<=b.length/\Ws o/\c<4294967296/\val (o.take (i+b.length))+c*4294967296^(i+k)=val (out.take (i+b.length))+4294967296^i*(ak a i*val (b.take k))) (fun _ _ k=>b.length-k) out 0 0 ⟨ho,by omega,hw,by omega,by simp[val]⟩ ?_
  rintro o c k ⟨jH,hk,ot,hc,ky⟩ K2 J2;refine gC (fun z=>?_) (fun z=>?_)
  ·have bh : k < b.length := by simpa [aa] using z
   have h2:=bX hb k;have h3:=bX ot (i+k);have h4:=DI h1 h2;obtain⟨s,hs⟩:∃s,s=c+(ak a i*ak b k+ak o (i+k)):=⟨_,rfl⟩
   have h5:=PM (x:=s%4294967296) (show i+k<o.length by omega) (show i+k<i+b.length by omega);have h6:=KK h5 hs ky;refine gi (jy (n:=i) oz (by first |omega |(simp;omega))) ?_;refine gv (u64_in oz) ?_;refine gi (jy (n:=k) oz (by first |omega |(simp;omega))) ?_;refine gv (u64_in oz) ?_;refine ga (Bh oz) ?_;refine ga (gy (by unfold aF;omega) (by unfold aF;omega)) ?_;refine gs (bI (n:=i+k) (.tmp rfl) (.tmp rfl) T42 rfl T87 rfl oz (by first |omega |(simp;omega)) rfl) ?_;refine gs (dt (.tmp rfl) rfl (cB (i:=i+k) oz) T87 rfl rfl rfl) ?_;refine gv (u64_in oz) ?_;refine ga (kK oz) ?_;refine ga ((kK oz).trans (show _=(s:Int) by congr 1;omega)) ?_;refine gD ?_;refine ga (gy (by unfold aF;omega) (by unfold aF;omega)) ?_;refine gv (ef _) ?_;refine gs (fZ (.tmp rfl) (.const _) oz (jv _ 32 oz) rfl) ?_;refine gs (bI (n:=i+k) (.tmp rfl) (.tmp rfl) T42 rfl T87 rfl oz (by first |omega |(simp;omega)) rfl) ?_;refine gs (dS (.tmp rfl) rfl (cB (i:=i+k) oz) rfl (.tmp rfl) rfl rfl T87 rfl rfl) ?_;refine ga (dx oz) ?_;exact js J2 (o.set (i+k) (s%4294967296)) (s/2^32) (k+1) ⟨by simp[jH],by omega,jd ot oz,by omega,by rw[show i+(k+1)=(i+k)+1 from rfl,show s/2^32=s/4294967296 from rfl,ao1,h6,dU];simp only[as6];grind⟩ (hw:=Wk.of a6 (.cons rfl (.of (by rw[as7];rfl)) .nil))
  have bh:k=b.length:=by have:b.length<=k:=(by simpa[aa]using z);omega
  subst bh;have h5:=oF (x:=c) (show i+b.length<o.length by omega);rw[asK]at ky;refine gl ?_;refine ga (gy (by unfold aF;omega) (by unfold aF;omega)) ?_;refine gv ((ef c).trans (by rw[aol hc])) ?_;refine gs (bI (n:=i+b.length) (.tmp rfl) (.tmp rfl) T42 rfl T87 rfl oz (by first |omega |(simp;omega)) rfl) ?_;refine gs (dS (.tmp rfl) rfl (cB (i:=i+b.length) oz) rfl (.tmp rfl) rfl rfl T87 rfl rfl) ?_;refine ga (dx oz) ?_;exact f7 J1 (o.set (i+b.length) c) (i+1) ⟨by simp[jH],by omega,jd ot hc,by rw[show i+1+b.length=i+b.length+1 by omega,h5,dU];simp only[as6]at *;grind⟩ (hw:=Wk.of a6 (.cons rfl (.of (by rw[as7];rfl)) .nil))
 have af:i=a.length:=by have:a.length<=i:=(by simpa[aa]using z);omega
 subst af;rw[asK,fX oz]at hv;refine gW ((Wk.freeze (k:=15) rfl).trans<|Wk.of (sl:=[pP 5 (ws out)]) (hp:=[]) (.cons rfl (.of (cq (by simp[ho]))) .nil) .nil) ?_;refine gc (vp out hw oz) ?_;refine ah ?_;rw[hv]
theorem I7(a:Wh)(ha:a.ok):FP 208 [a.av] (i64 a.z.sign):=by
 obtain⟨e1,e2,e3⟩:=Sf ha;refine am func208 ?_;refine gc (nV a ha) ?_;refine gl ?_;refine gC (fun z=>?_) (fun z=>?_)
 ·have h0 : a.m.length = 0 := by simpa [aa] using z
  refine ah ?_;rw[e1 h0];rfl
 have h0:a.m.length≠0:=by simpa[aa]using z
 have kt:a.valid=true:=by
  unfold Wh.m at h0;split at h0
  ·assumption
  ·exact atk rfl h0
 refine gc (kP a ha) ?_;refine gC (fun z=>?_) (fun z=>?_)
 ·have h1 : a.neg = true := by unfold Wh.n at z; rw [kt] at z; simpa using z
  refine ah ?_;rw[e2 h0 h1];rfl
 have h1:a.neg=false:=by unfold Wh.n at z;rw[kt]at z;simpa using z
 refine ah ?_;rw[e3 h0 h1];rfl
theorem KA(a:Wh)(ha:a.ok)(la:a.mag.length<aA):FP 280 [a.av] (zA (-a.z)):=by
 refine am func280 ?_;refine gc (kP a ha) ?_;refine gc (nV a ha) ?_;refine gc (mM _ a.m (Wh.ws ha) (an4 (Wh.small ha la))) ?_;refine gD ?_;refine ah ?_;rw[Wh.z_eq,<- PO];rfl
theorem aht(a b:Wh)(ha:a.ok)(hb:b.ok)(la:a.mag.length+b.mag.length<=aA):FP 201 [a.av,b.av] (zA (a.z*b.z)):=by
 have h1:=Wh.m_le (w:=a);have h2:=Wh.m_le (w:=b);have h3:(ofNat (val a.m*val b.m)).length<=a.m.length+b.m.length:=gB (by rw[as6];exact apb (co _ (Wh.ws ha)) (co _ (Wh.ws hb)));refine am func201 ?_;refine gc (kP a ha) ?_;refine gc (kP b hb) ?_;refine gc (nV a ha) ?_;refine gc (nV b hb) ?_;refine gc (aej a.m b.m (Wh.ws ha) (Wh.ws hb) oz) ?_;refine gc (mM _ _ (dT _) oz) ?_;refine gD ?_;refine ah ?_;rw[cD,LW];rfl
theorem Pt(a b:Wh)(ha:a.ok)(hb:b.ok)(la:a.mag.length<aA)(lb:b.mag.length<aA):FP 294 [a.av,b.av] (zA (a.z+b.z)):=by
 have h1:=Wh.m_le (w:=a);have h2:=Wh.m_le (w:=b);have oo:val a.m<4294967296^(max a.m.length b.m.length):=asp (co _ (Wh.ws ha)) (aok oz oz);have eY:val b.m<4294967296^(max a.m.length b.m.length):=asp (co _ (Wh.ws hb)) (aok oz oz);have h3:(ofNat (val a.m+val b.m)).length<=max a.m.length b.m.length+1:=gB (by rw[ao1];omega);have h4:(ofNat (val a.m-val b.m)).length<=max a.m.length b.m.length:=gB oz;have h5:(ofNat (val b.m-val a.m)).length<=max a.m.length b.m.length:=gB oz;refine am func294 ?_;refine gc (nV a ha) ?_;refine gc (nV b hb) ?_;refine gD ?_;refine gc (kP a ha) ?_;refine gc (kP b hb) ?_;refine gD ?_;refine gC (fun z=>?_) (fun z=>?_)
 ·have h0 : a.n = b.n := by simpa using z
  refine gc (kP a ha) ?_;refine gc (FV a.m b.m (Wh.ws ha) (Wh.ws hb) oz oz) ?_;refine gc (mM _ _ (dT _) oz) ?_;refine ah ?_;rw[cD,SV h0];rfl
 have h0:a.n≠b.n:=by simpa using z
 refine gc (Gf a.m b.m (Wh.ws ha) (Wh.ws hb)) ?_;refine gC (fun t25=>?_) (fun t25=>?_)
 ·have h6:val b.m<=val a.m:=by
   rcases asb (val a.m) (val b.m)with h |h
   ·rw[ate h]at t25;cases t25
   ·exact h
  refine gc (kP a ha) ?_;refine gc (Ig a.m b.m (Wh.ws ha) (Wh.ws hb) oz oz) ?_;refine gc (mM _ _ (dT _) oz) ?_;refine ah ?_;rw[cD,He h0 h6];rfl
 have h6:val a.m<val b.m:=by
  rcases asb (val a.m) (val b.m)with h |h
  ·exact h
  ·rw[atd oz]at t25;split at t25 <;> cases t25
 refine gc (kP b hb) ?_;refine gc (Ig b.m a.m (Wh.ws hb) (Wh.ws ha) oz oz) ?_;refine gc (mM _ _ (dT _) oz) ?_;refine ah ?_;rw[cD,R0 h0 oz];rfl
theorem N2(n:Int)(h:-9223372036854775808<=n/\n<=9223372036854775807):FP 174 [i64 n] (zA n):=by
 obtain⟨N,hN⟩:∃N,N=n.natAbs:=⟨_,rfl⟩
 have qL:N<18446744073709551616:=by omega
 refine am func174 ?_;refine gv (show IntKind.u64.wrap n=((n%18446744073709551616:Int)) by simp only[IntKind.wrap,IntKind.signed,IntKind.bits,ard,if_false,aq9];omega) ?_;refine gC (fun z=>?_) (fun z=>?_) (st2:=(77777,0))
 ·have hn : n < 0 := by simpa [aa] using z
  refine gs (CI (.tmp rfl) rfl) ?_ (4,0);refine gW (Wk.of (sl:=[pP 0 (i64 n),pP 2 (.ptr 2 0),pP 3 (u64 N)]) (hp:=[pP 2 (.box [.v (.bool false),nS])]) (.k (.k (.cons rfl (Sub.int (by simp only[IntKind.wrap,IntKind.signed,IntKind.bits,ard,if_false,aq9];omega)) .nil))) (.k .nil)) ?_;refine gv (ef _) ?_;refine gs (fZ (.tmp rfl) (.const _) oz (jv _ 32 oz) rfl) ?_;refine gv ((ef _).trans (by rw[aol (show N/2^32<4294967296 by omega)])) ?_;refine gc (mM (aa .lss n 0) [N%4294967296,N/2^32] (DF qL) (by unfold aA;simp)) ?_;refine ah ?_;rw[DK qL,show sgn (aa .lss n 0) N=n by simp only[sgn,aa,atf];split <;> omega];rfl
 have hn:¬n<0:=by simpa[aa]using z
 refine gW (Wk.of (sl:=[pP 0 (i64 n),pP 2 (.ptr 2 0),pP 3 (u64 N)]) (hp:=[pP 2 (.box [.v (.bool false),nS])]) (.k (.k (.cons rfl (Sub.int oz) .nil))) (.k .nil)) ?_;refine gv (ef _) ?_;refine gs (fZ (.tmp rfl) (.const _) oz (jv _ 32 oz) rfl) ?_;refine gv ((ef _).trans (by rw[aol (show N/2^32<4294967296 by omega)])) ?_;refine gc (mM (aa .lss n 0) [N%4294967296,N/2^32] (DF qL) (by unfold aA;simp)) ?_;refine ah ?_;rw[DK qL,show sgn (aa .lss n 0) N=n by simp only[sgn,aa,atf];split <;> omega];rfl
theorem agt(a b:Wh)(ha:a.ok)(hb:b.ok)(la:a.mag.length<aA)(lb:b.mag.length<aA):FP 304 [a.av,b.av] (zA (a.z-b.z)):=by
 have h1:=(Wh.lz hb).neg;have h2:=R9 h1;refine am func304 ?_;refine gc (KA b hb lb) ?_;refine gc (Pt a (ofInt (-b.z)) ha (Qi h1 hb.2) la oz) ?_;refine gD ?_;refine ah ?_;rw[eD,<- Int.sub_eq_add_neg];rfl
theorem akb(a b:Wh)(ha:a.ok)(hb:b.ok)(la:a.mag.length<aA)(lb:b.mag.length<aA):FP 206 [a.av,b.av] (i64 (jE a.z b.z)):=by
 have h1:=(Wh.lz ha).sub (Wh.lz hb);have h2:=R9 h1;refine am func206 ?_;refine gc (agt a b ha hb la lb) ?_;refine gc (I7 (ofInt (a.z-b.z)) (Qi h1 (by unfold aF;unfold aA at la lb;omega))) ?_;refine ah ?_;rw[eD,X3]
theorem wM{A:List Nat}{n:Nat}:AV.lst 1 (((A.map u32).drop 0).take n)=ws (A.take n):=by
 rw[as8,<- map_take];rfl
theorem M0(A:List Nat):(Blk.row 1 (A.map u32)).sc=true:=by
 simp only[Blk.sc,List.all_map];rw[asd];intro x _;rfl
theorem tP{A:List Nat}{n i:Nat}(h:i<n):ak (A.take n) i=ak A i:=by
 simp[ak,h]
theorem RK{A:List Nat}{n i:Nat}(h:n<=i):ak (A.take n) i=0:=vc (by simp;omega)
theorem Xn{x:Nat}(h:0<x):aY x=aY (x/2)+1:=by
 rcases asb x 2 with h1 |h1
 ·have : x = 1 := by omega
  subst this;decide
 ·have:=yS (x:=x) (k:=1) oz;rw[show x/2^1=x/2 from rfl]at this;omega
theorem V9{a:List Nat}{n:Nat}(ha:Ws a)(na:Nz a)(hl:a.length=n+1):aY (val a)=32*n+aY (ak a n):=by
 have ht:ak a n≠0:=by
  refine na _ ?_;rw[aqa,hl];exact lI oz
 have hv:val a=val (a.take n)+4294967296^n*ak a n:=by rw[<- dU,fX oz]
 have hlt:=tC ha n;have hp:(4294967296:Nat)^n=2^(32*n):=by rw[ao3]
 rw[hp]at hv hlt
 have h1:val a/2^(32*n)=ak a n:=by
  rw[hv,ao9 _ _ (aoi oz),aow hlt,aoj]
 have h2:2^(32*n)<=val a:=by
  have:=ash (2^(32*n)) (show 1<=ak a n by omega);omega
 rw[yS h2,h1]
theorem Ta{o A:List Nat}{n v:Nat}(ho:Ws o)(hl:o.length=A.length)(hn:n<=A.length)(hd:o.drop n=A.drop n)(hv:val (o.take n)=v):o=wr A 0 (bf n v):=by
 have h1:bq o 0 n=bf n v:=Ce (ra ho _ _) (sP oz) (by rw[bq,as8,hv]);rw[<- h1];exact FU (by simp) (by rw[aoj];exact hd) oz
theorem GB(k:Nat)(A:List Nat)(n i:Nat)(hA:Ws A)(hn:n<=A.length) :
  Con prog 401 [.ms k 1 0 n,i64 i] [(k,some (.row 1 (A.map u32)))] (u64 (ak (A.take n) i)) [(k,some (.row 1 (A.map u32)))]:=by
 refine Con.borrow (args:=[ws (A.take n),i64 i]) k 1 (A.map u32) rfl rfl rfl ?_ rfl (fun k' x h=>by cases h) (oK (A.take n) i (iY hA n));intro j x' hj
 match j,hj with
 |0,hj=>cases hj;exact .inr ⟨0,n,rfl,by simpa using hn,by rw[wM];rfl⟩
 |1,hj=>cases hj;exact .inl rfl
theorem aeg(k1 k2:Nat)(hk:k1≠k2)(A D:List Nat)(n p:Nat)(hA:Ws A)(hD:Ws D)(hn:n<=A.length)(hp:p<=D.length) :
  Con prog 370 [.ms k1 1 0 n,.ms k2 1 0 p] [(k1,some (.row 1 (A.map u32))),(k2,some (.row 1 (D.map u32)))]
   (i64 (if val (A.take n)<val (D.take p)then -1 else if val (D.take p)<val (A.take n)then 1 else 0)) [(k1,some (.row 1 (A.map u32))),(k2,some (.row 1 (D.map u32)))]:=by
 have h1:Con prog 370 [ws (A.take n),.ms k2 1 0 p] [(k2,some (.row 1 (D.map u32)))]
   (i64 (if val (A.take n)<val (D.take p)then -1 else if val (D.take p)<val (A.take n)then 1 else 0)) [(k2,some (.row 1 (D.map u32)))]:=by
  refine Con.borrow (args:=[ws (A.take n),ws (D.take p)]) k2 1 (D.map u32) rfl rfl rfl ?_ rfl (fun k' x h=>by cases h) (Gf (A.take n) (D.take p) (iY hA n) (iY hD p));intro j x' hj
  match j,hj with
  |0,hj=>cases hj;exact .inl rfl
  |1,hj=>cases hj;exact .inr ⟨0,p,rfl,by simpa using hp,by rw[wM];rfl⟩
 refine Con.borrow (args:=[ws (A.take n),.ms k2 1 0 p]) k1 1 (A.map u32) ?_ ?_ rfl ?_ rfl ?_ h1
 ·rw[aE,atd hk];rfl
 ·rw[aE,atd hk];rfl
 ·intro j x' hj
  match j,hj with
  |0,hj=>cases hj;exact .inr ⟨0,n,rfl,by simpa using hn,by rw[wM];rfl⟩
  |1,hj=>cases hj;exact .inl rfl
 ·intro k' x h;obtain⟨_,h⟩:=io h;cases h;exact M0 D
theorem X0(k:Nat)(A b:List Nat)(n:Nat)(hA:Ws A)(hb:Ws b)(hn:n<=A.length) :
  Con prog 370 [.ms k 1 0 n,ws b] [(k,some (.row 1 (A.map u32)))]
   (i64 (if val (A.take n)<val b then -1 else if val b<val (A.take n)then 1 else 0)) [(k,some (.row 1 (A.map u32)))]:=by
 refine Con.borrow (args:=[ws (A.take n),ws b]) k 1 (A.map u32) rfl rfl rfl ?_ rfl (fun k' x h=>by cases h) (Gf (A.take n) b (iY hA n) hb);intro j x' hj
 match j,hj with
 |0,hj=>cases hj;exact .inr ⟨0,n,rfl,by simpa using hn,by rw[wM];rfl⟩
 |1,hj=>cases hj;exact .inl rfl
theorem agw(a:List Nat)(ha:Ws a)(na:Nz a)(la:a.length<=aA):FP 400 [ws a] (i64 (aY (val a))):=by
 unfold aA at la;refine am func400 ?_;refine gl ?_;refine gC (fun z=>?_) (fun z=>?_)
 ·have h0 : a=[] := apv.1 (by simpa[aa]using z);refine ah ?_;subst h0;rfl
 have h0:a.length≠0:=by simpa[aa]using z
 obtain⟨n,hn⟩:∃n,a.length=n+1:=⟨a.length-1,by omega⟩
 have hB:=V9 ha na hn;have ht:=bX ha n;refine gl ?_;refine ga (show _=(n:Int) by rw[eO oz];omega) ?_;refine ga (show _=((32*n:Nat):Int) by rw[P8 oz];omega) ?_;refine gl ?_;refine ga (show _=(n:Int) by rw[eO oz];omega) ?_;refine gi (jy (n:=n) oz (by first |omega |(simp;omega))) ?_;refine fT [] [] (fun(x c:Nat)=>[pP 3 (i64 c),pP 4 (u32 x)]) (fun _ _=>[]) (fun x c=>x<4294967296/\c<=281474976710656/\c+aY x=aY (val a)) (fun x _=>x) (ak a n) (32*n) ⟨ht,by omega,hB.symm⟩ ?_;rintro x c ⟨hx,hc,hv⟩ K1 J1;refine gC (fun z=>?_) (fun z=>?_)
 ·have nc : 0 < x := by simpa [aa] using z
  have h2:=Xn nc
  have h3:aY (val a)<=32*n+32:=by
   have:=(G1 (x:=ak a n)  (by
    refine na _ ?_;rw[aqa,hn];exact lI oz) ht).1
   omega
  refine ga (show _=((c+1:Nat):Int) by rw[dx oz];omega) ?_;refine gs (fZ (.tmp rfl) (.const _) oz (uN x 1 oz) rfl) ?_;exact f7 J1 (x/2^1) (c+1) ⟨by omega,by omega,by rw[show x/2^1=x/2 from rfl];omega⟩
 have nc:x=0:=by have:x<=0:=(by simpa[aa]using z);omega
 subst nc;refine ah ?_;rw[<- hv];rfl
theorem Fl(A:List Nat)(n:Nat)(hA:Ws A)(hn:n<=A.length)(la:A.length<=aA) :
  Con prog 375 [.ms 1000 1 0 n] [pP 1000 (.row 1 (A.map u32))] (.ms 1000 1 0 (ofNat (val (A.take n))).length) [pP 1000 (.row 1 (A.map u32))]:=by
 unfold aA at la;refine gF func375 (fun k z h=>bD h) ?_;refine aP [] [1000] (fun(j:Nat)=>[pP 0 (.ms 1000 1 0 j)]) (fun _=>[]) (fun j=>j<=n/\val (A.take j)=val (A.take n)) (fun j=>j) n ⟨ar8 _,rfl⟩ ?_;rintro j ⟨hj,hv⟩ K1 J1;refine kG (fun h=>(gG (by simp[aa]at h;omega) (by unfold aF;omega))) ?_;refine gs (fM rfl rfl rfl (fun h=>bI (n:=j-1) (.opt rfl (o1 h)) (.opt rfl (o1 h)) T42 rfl T87 rfl oz (by simp[aa]at h;omega) rfl)) ?_;refine gs (fM rfl rfl rfl (fun h=>dt (.opt rfl (o1 h)) rfl (cB (i:=j-1) (by simp[aa]at h;omega)) T87 rfl rfl rfl)) ?_;refine gC (fun t14=>?_) (fun t14=>?_)
 ·have t14 : 0 < j /\ ak A (j - 1) = 0 := by simpa [aa] using t14
  refine ga (gG oz (by unfold aF;omega)) ?_;refine gs (ua (.tmp rfl) (.none _) (.some _ (.tmp rfl) oz) T42 rfl T87 rfl oz oz rfl) ?_;exact aM J1 (j-1) ⟨by omega,by have h:=@dU A (j-1);rw[show j-1+1=j by omega,t14.2]at h;simp at h;omega⟩ (hw:=Wk.of (.cons rfl (.of (by congr 1)) .nil) (.k .nil))
 have t14:0<j->ak A (j-1)≠0:=by simpa[aa]using t14
 have jY := L6 (m := A.take n) (n := j) (iY hA n) (by simp; omega) (by rw [ap3, aon hj]; exact hv) (by
  rcases aov j with h |h
  ·exact .inl h
  ·exact .inr (by rw[tP oz];exact t14 h))
 subst jY;refine gR ?_;exact aD.own2 rfl rfl rfl
theorem D4(A:List Nat)(n:Nat)(hA:Ws A)(hn:n<=A.length)(la:A.length<=aA) :
  Con prog 373 [.ms 1000 1 0 n] [pP 1000 (.row 1 (A.map u32))] (.ms 1000 1 0 (ofNat (val (A.take n)/2)).length) [pP 1000 (.row 1 ((wr A 0 (bf n (val (A.take n)/2))).map u32))]:=by
 have la':=la;unfold aA at la;refine gF func373 (fun k z h=>bD h) ?_;refine fT [5] [] (fun(o:List Nat)(i:Nat)=>[pP 0 (.ms 1000 1 0 n),pP 6 (i64 i)]) (fun o _=>[pP 1000 (.row 1 (o.map u32))]) (fun o i=>o.length=A.length/\i<=n/\Ws o/\o.drop i=A.drop i/\val (o.take i)=val (A.take n)/2^1%4294967296^i) (fun _ i=>n-i) A 0 ⟨rfl,by omega,hA,rfl,by simp[val,Nat.mod_one]⟩ ?_;rintro o i ⟨ho,hi,hw,hd,hv⟩ K1 J1;refine gC (fun u=>?_) (fun u=>?_)
 ·have af : i < n := by simpa [aa] using u
  have e1:ak (o.take n) i=ak (A.take n) i:=by rw[tP af,tP af];exact v8 hd
  have mb:o.drop (i+1)=A.drop (i+1):=by
   have h1:(o.drop i).drop 1=(A.drop i).drop 1:=by rw[hd]
   rwa [drop_drop,drop_drop]at h1
  have e2:ak (o.take n) (i+1)=ak (A.take n) (i+1):=by
   rcases asb (i+1) n with h |h
   ·rw[tP h,tP h];exact v8 mb
   ·rw[RK h,RK h]
  have b1:=bX (iY hA n) i;have b2:=bX (iY hA n) (i+1);have h3:=SL (n:=1) (iY hA n) (show i<(A.take n).length by simp;omega) (show i<o.length by omega) oz hv;refine gt (aG (GB 1000 o n i hw oz) (b9 rfl rfl) aK rfl rfl) ?_;refine gs (fZ (.tmp rfl) (.const _) oz ((jv _ 1 oz).trans (by rw[e1])) rfl) ?_;refine ga (gy (y:=1) (by unfold aF;omega) (by unfold aF;omega)) ?_;refine gt (aG (GB 1000 o n (i+1) hw oz) (b9 rfl rfl) aK rfl rfl) ?_;refine gs (nQ (.tmp rfl) (.const _) oz ((uQ (n:=31) oz oz).trans (by rw[e2])) rfl) ?_;refine gs (lP (.tmp rfl) (.tmp rfl) rfl ((yf oz oz).trans (by rw[G5 oz])) rfl) ?_;refine gv ((ef _).trans (show _=(((ak (A.take n) i+ak (A.take n) (i+1)*2^32)/2^1%4294967296:Nat):Int) by congr 1;omega)) ?_;refine gs (bI (n:=i) (.tmp rfl) (.tmp rfl) T42 rfl T87 rfl oz (by first |omega |(simp;omega)) rfl) ?_;refine gs (dS (.tmp rfl) rfl (cB (i:=i) oz) rfl (.tmp rfl) rfl rfl T87 rfl rfl) ?_;refine ga (dx oz) ?_;exact f7 J1 (o.set i ((ak (A.take n) i+ak (A.take n) (i+1)*2^32)/2^1%4294967296)) (i+1) ⟨by simp[ho],by omega,jd hw oz,yA hd,h3⟩ (hw:=Wk.of a6 (.cons rfl (.of (by rw[as7];rfl)) .nil))
 have af:i=n:=by have:n<=i:=(by simpa[aa]using u);omega
 subst af;have hlt:=tC hA i;have hv':val (o.take i)=val (A.take i)/2:=by rw[hv,aol oz]
 have h9:=Ta hw ho hn hd hv';refine gt (aG (Fl o i hw oz oz) (eJ rfl) aK rfl rfl) ?_;refine gR ?_;exact aD.own2 rfl (by rw[<- h9]) (by rw[hv'];rfl)
theorem PI(A b:List Nat)(n:Nat)(hA:Ws A)(hb:Ws b)(hn:n<=A.length)(la:A.length<=aA)(bR:val b<=val (A.take n)) :
  Con prog 374 [.ms 1000 1 0 n,ws b] [pP 1000 (.row 1 (A.map u32))] (.tup []) [pP 1000 (.row 1 ((wr A 0 (bf n (val (A.take n)-val b))).map u32))]:=by
 unfold aA at la;refine gF func374 (fun k z h=>bD h) ?_;refine kq [1,8] [] (fun(o:List Nat)(c i:Nat)=>[pP 0 (.ms 1000 1 0 n),pP 4 (u64 c),pP 9 (i64 i)]) (fun o _ _=>[pP 1000 (.row 1 (o.map u32))]) (fun o c i=>o.length=A.length/\i<=n/\Ws o/\c<=1/\o.drop i=A.drop i/\val (o.take i)+val (b.take i)=val (A.take i)+c*4294967296^i) (fun _ _ i=>n-i) A 0 0 ⟨rfl,by omega,hA,by omega,rfl,by simp[val]⟩ ?_;rintro o c i ⟨ho,hi,hw,hc,hd,hv⟩ K1 J1;refine gC (fun y=>?_) (fun y=>?_)
 ·have af : i < n := by simpa [aa] using y
  have e1:ak (o.take n) i=ak A i:=by rw[tP af];exact v8 hd
  have h1:=bX hA i;have h2:=bX hb i;obtain⟨s,hs⟩:∃s,s=4294967296+ak A i-ak b i-c:=⟨_,rfl⟩
  have h3:=Tg h1 h2 hc hv;rw[<- hs]at h3;refine gt (aG (GB 1000 o n i hw oz) (b9 rfl rfl) aK rfl rfl) ?_;refine ga ((kK (x:=4294967296) oz).trans (by rw[e1])) ?_;refine gc (oK b i hb) ?_;refine ga ((nW oz oz).trans (by rw[ate oz])) ?_;refine ga ((nW oz oz).trans (show _=(s:Int) by rw[ate oz];congr 1;omega)) ?_;refine gv (ef _) ?_;refine gs (fZ (.tmp rfl) (.const _) oz (jv _ 32 oz) rfl) ?_;refine ga ((nW (x:=1) oz oz).trans (by rw[ate oz])) ?_;refine gs (bI (n:=i) (.tmp rfl) (.tmp rfl) T42 rfl T87 rfl oz (by first |omega |(simp;omega)) rfl) ?_;refine gs (dS (.tmp rfl) rfl (cB (i:=i) oz) rfl (.tmp rfl) rfl rfl T87 rfl rfl) ?_;refine ga (dx oz) ?_;exact js J1 (o.set i (s%4294967296)) (1-s/2^32) (i+1) ⟨by simp[ho],by omega,jd hw oz,by omega,yA hd,by rw[oF oz,dU,dU,ao1];exact h3⟩ (hw:=Wk.of a6 (.cons rfl (.of (by rw[as7];rfl)) .nil))
 have af:i=n:=by have:n<=i:=(by simpa[aa]using y);omega
 subst af;have hl:(A.take i).length=i:=by simp;omega
 have h4:=Oq (a:=A.take i) (b:=b) (out:=o.take i) (iY hA i) (iY hw i) (by simp;omega) bR (by rw[hl,asn (show(A.take i).length<=i by omega)];exact hv);have h9:=Ta hw ho hn hd h4;refine gR ?_;exact aD.own2 rfl (by rw[<- h9]) rfl
theorem NN{x:Nat}(h:x<=9223372036854775807):IntKind.i64.wrap ((x:Int).tdiv 32)=((x/32:Nat):Int):=by
 rw[show(32:Int)=((32:Nat):Int)from rfl,<- Int.ofNat_tdiv];exact i64_in oz
theorem Rc{x:Nat}:(x:Int).tmod 32=((x%32:Nat):Int):=(Int.ofNat_tmod _ _).symm
theorem yW(i:Nat):(4294967296:Nat)^i=2^(32*i):=by rw[ao3]
theorem ai0{a:List Nat}(ha:Ws a){k:Nat}(hk:k/32<a.length):ak a (k/32)/2^(k%32)%2=val a/2^k%2:=by
 have h1:val a/2^k=(val a/4294967296^(k/32))/2^(k%32):=by
  rw[yW,apd,<- as6];congr 2;omega
 rw[h1,Ei ha _ oz,x7];generalize val (a.drop (k/32+1))=R
 have h2:4294967296*R=2^(k%32)*(2*(2^(31-k%32)*R)):=by
  have:(4294967296:Nat)=2^(k%32)*(2*2^(31-k%32)):=by
   rw[<- Nat.pow_succ',<- as6,show k%32+(31-k%32).succ=32 by omega]
  conv=>lhs;rw[this]
  grind
 rw[h2,ao9 _ _ (aoi oz),an6]
theorem U9{w c:Nat}(hc:c<=1):w*2^1%4294967296 ||| c=w*2^1%4294967296+c:=by
 have h:w*2^1%4294967296=(w%2147483648)*2^1:=by omega
 rw[h];exact yk oz
theorem Z0{o c P rt w bit:Nat}(hw:w<4294967296)(h:o+c*P=2*rt+bit) :
  (o+P*(w*2^1%4294967296+c))+(w/2^31)*(P*4294967296)=2*(rt+P*w)+bit:=by
 have h0:w*2^1%4294967296+(w/2^31)*4294967296=2*w:=by omega
 generalize w*2^1%4294967296=r at *;generalize w/2^31=q at *;grind
theorem aij{q:List Nat}(hq:Ws q){k Y:Nat}(hk:k/32<q.length)(h:val q=2^(k+1)*Y) :
  ak q (k/32) ||| 2^(k%32)=ak q (k/32)+2^(k%32)/\ak q (k/32)+2^(k%32)<4294967296:=by
 have h1:=Ei hq (k/32) oz;rw[x7,h,yW,show k+1=32*(k/32)+(k%32+1) by omega,as6,an8,Nat.mul_div_cancel_left _ (aoi oz)]at h1;have hw:=bX hq (k/32);generalize ak q (k/32)=w at *;generalize val (q.drop (k/32+1))=R at *
 have hB:(4294967296:Nat)=2^(k%32+1)*2^(31-k%32):=by
  rw[<- as6,show k%32+1+(31-k%32)=32 by omega]
 have h2:w%2^(k%32+1)=0:=by
  have h3:(w+4294967296*R)%2^(k%32+1)=0:=by rw[<- h1];exact Nat.mul_mod_right _ _
  rw[hB,an8,an6]at h3;exact h3
 have h4:w=2^(k%32+1)*(w/2^(k%32+1)):=by
  have:=aoa w (2^(k%32+1));omega
 have h5:2^(k%32)<2^(k%32+1):=by rw[ao1];have:=aoi (n:=k%32) (show 0<2 by omega);omega
 constructor
 ·rw[h4];exact(Nat.two_pow_add_eq_or_of_lt h5 _).symm
 ·have h6:w/2^(k%32+1)<2^(31-k%32):=by
   rw[aos (aoi oz),aog,<- hB];exact hw
  have h7:=ash (2^(k%32+1)) (show w/2^(k%32+1)+1<=2^(31-k%32)from h6);rw[<- hB,aom,<- h4]at h7;omega
theorem ab0{q:List Nat}(hq:Ws q){k Y:Nat}(hk:k/32<q.length)(h:val q=2^(k+1)*Y) :
  val (q.set (k/32) (ak q (k/32)+2^(k%32)))=2^k*(2*Y+1):=by
 have h1:=GK (x:=ak q (k/32)+2^(k%32)) hk;rw[aom]at h1;have h2:4294967296^(k/32)*2^(k%32)=2^k:=by rw[yW,<- as6];congr 1;omega
 rw[h2,h,ao1]at h1;grind
theorem aj3{V Bv k:Nat}(hB:0<Bv) :
  (Bv<=2*(V/2^(k+1)%Bv)+V/2^k%2->V/2^k%Bv=2*(V/2^(k+1)%Bv)+V/2^k%2-Bv/\V/2^k/Bv=2*(V/2^(k+1)/Bv)+1) /\
  (2*(V/2^(k+1)%Bv)+V/2^k%2<Bv->V/2^k%Bv=2*(V/2^(k+1)%Bv)+V/2^k%2/\V/2^k/Bv=2*(V/2^(k+1)/Bv)):=by
 have h1:V/2^(k+1)=V/2^k/2:=by rw[ao1,apd]
 rw[h1];generalize V/2^k=X;have h2:=aoa X 2;have h3:=aoa (X/2) Bv;have h4:=aou (X/2) hB;have h5:=aou X (show 0<2 by omega);generalize X/2%Bv=r at *;generalize X/2/Bv=q at *;generalize X%2=b at *;generalize X/2=Y at *;constructor
 ·intro h;have:=A4 (a:=X) (w:=Bv) (q:=2*q+1) (r:=2*r+b-Bv) (by rw[aom,Nat.mul_one,show Bv*(2*q)=2*(Bv*q) by grind];omega) oz;exact⟨this.2,this.1⟩
 ·intro h;have:=A4 (a:=X) (w:=Bv) (q:=2*q) (r:=2*r+b) (by rw[show Bv*(2*q)=2*(Bv*q) by grind];omega) oz;exact⟨this.2,this.1⟩
theorem Zz{A l:List Nat}(h:l.length=A.length):wr A 0 l=l:=by
 unfold wr;rw[as0 oz];simp
theorem Lh{V:Nat}:V/2^aY V=0:=aow CX
theorem LR{a:List Nat}(ha:Ws a){k:Nat}(h:k<aY (val a)):k/32<a.length:=by
 rcases asb (k/32) a.length with h1 |h1
 ·exact h1
 ·exfalso;have h2:=co a ha;rw [yW] at h2;have h3:val a ≠ 0:=by intro h0; rw [h0] at h; simp [aY] at h
  have h4:=BF h3;have h5:2^(32*a.length)<=2^(aY (val a)-1):=tm oz;omega
theorem VT(a b:List Nat)(ha:Ws a)(hb:Ws b)(na:Nz a)(iP:val b≠0)(la:a.length<aA)(lb:b.length<aA) :
  FP 362 [ws a,ws b] (.tup [ws (ofNat (val a/val b)),ws (ofNat (val a%val b))]):=by
 have la':=la;have lb':=lb;unfold aA at la lb;obtain⟨V,hV⟩:∃V,V=val a:=⟨_,rfl⟩
 obtain⟨Bv,EI⟩:∃Bv,Bv=val b:=⟨_,rfl⟩
 have JS:0<Bv:=by omega
 have hBl:2*Bv<=4294967296^(b.length+1):=by have:=co b hb;rw[ao1];omega
 have qJ:aY V<=32*a.length:=by
  rcases aov (aY V)with h |h
  ·omega
  ·have := LR ha (k := aY V-1) (by rw[<- hV];omega);omega
 rw[<- hV,<- EI];refine am func362 ?_;refine gl ?_;refine gs (it (.tmp rfl) T42 rfl T87 rfl rfl oz (by dsimp only;omega) rfl) ?_;refine gl ?_;refine ga (gy (y:=1) (by unfold aF;omega) (by unfold aF;omega)) ?_;refine gs (it (.tmp rfl) T42 rfl T87 rfl rfl oz (by dsimp only;omega) rfl) ?_;refine gc (hV▸agw a ha na oz) ?_;refine ga (eO oz) ?_;refine kq [0,1] [] (fun(q r:List Nat)(i:Nat)=>[pP 6 (.ms 13 1 0 a.length),pP 7 (.ms 17 1 0 (b.length+1)),pP 8 (i64 ((i:Int)-1))]) (fun q r _=>[pP 13 (.row 1 (q.map u32)),pP 17 (.row 1 (r.map u32))]) (fun q r i=>q.length=a.length/\r.length=b.length+1/\Ws q/\Ws r/\i<=aY V/\val r=V/2^i%Bv/\val q=2^i*(V/2^i/Bv)) (fun _ _ i=>i) (apf a.length 0) (apf (b.length+1) 0) (aY V) ⟨by simp,by simp,o0 _,o0 _,ar8 _,by rw[C0,Lh,Nat.zero_mod],by rw[C0,Lh,Nat.zero_div,Nat.mul_zero]⟩ ?_ (h2:=(.cons rfl (.of (by rw[as5];rfl)) (.cons rfl (.of (by rw[as5];rfl)) .nil)))
 rintro q r i ⟨uD,Ah,wq,wr',hi,hr,hq⟩ K1 J1;refine gC (fun z=>?_) (fun z=>?_) (st2:=(15,0))
 ·have Uj : 1 <= i := by have := z; simp [aa] at this; omega
  obtain⟨k,rfl⟩:∃k,i=k+1:=⟨i-1,by omega⟩
  rw[show((k+1:Nat):Int)-1=(k:Int) by omega];have hka:=LR ha (k:=k) (by rw[<- hV];omega);have Uk:=ai0 ha hka;have hwB:=bX ha (k/32);rw[<- hV]at Uk;obtain⟨bit,EG⟩:∃bit,bit=V/2^k%2:=⟨_,rfl⟩
  have bM:bit<=1:=by omega
  have anu:=aou (V/2^(k+1)) JS;have hdw:ak a (k/32)/2^(k%32)<=ak a (k/32):=aop _ _;refine gs (nG (.tmp rfl) (.const _) oz (NN oz) rfl) ?_;refine gi (jy (n:=k/32) oz (by first |omega |(simp;omega))) ?_;refine gs (AN (.tmp rfl) (.const _) oz Rc rfl) ?_;refine gs (fZ (.tmp rfl) (.tmp rfl) oz (uN _ (k%32) oz) rfl) ?_;refine gs (lP (.tmp rfl) (.const _) rfl ((K8 (y:=1) oz oz).trans (show _=(bit:Int) by rw[Nat.and_one_is_mod,Uk,EG])) rfl) ?_;refine kq [0,1,8,35] [13] (fun(o:List Nat)(c j:Nat)=>[pP 6 (.ms 13 1 0 a.length),pP 7 (.ms 17 1 0 (b.length+1)),pP 9 (u32 c),pP 36 (i64 j)]) (fun o _ _=>[pP 17 (.row 1 (o.map u32))]) (fun o c j=>o.length=b.length+1/\Ws o/\j<=b.length+1/\c<=1/\o.drop j=r.drop j/\val (o.take j)+c*4294967296^j=2*val (r.take j)+bit) (fun _ _ j=>b.length+1-j) r bit 0 ⟨Ah,wr',by omega,bM,rfl,by simp[val]⟩ ?_
  rintro o c j ⟨m8,wo,hj,hc,hd,hv⟩ K2 J2;refine gC (fun z=>?_) (fun z=>?_)
  ·have fa : j < b.length + 1 := by have := z; simp [aa] at this; omega
   have e1:ak o j=ak r j:=v8 hd;have h1:=bX wr' j;have h3:=Z0 (w:=ak r j) h1 hv;refine gs (bI (n:=j) (.tmp rfl) (.tmp rfl) T42 rfl T87 rfl oz (by first |omega |(simp;omega)) rfl) ?_;refine gs (dt (.tmp rfl) rfl (by rw[cB (show j<o.length by omega),e1]) T87 rfl rfl rfl) ?_;refine gs (nQ (.tmp rfl) (.const _) oz (L3 (n:=1) oz) rfl) ?_;refine gs (lP (.tmp rfl) (.tmp rfl) rfl ((FI oz oz).trans (by rw[U9 hc])) rfl) ?_;refine gs (bI (n:=j) (.tmp rfl) (.tmp rfl) T42 rfl T87 rfl oz (by first |omega |(simp;omega)) rfl) ?_;refine gs (dt (.tmp rfl) rfl (by rw[cB (show j<o.length by omega),e1]) T87 rfl rfl rfl) ?_;refine gs (fZ (.tmp rfl) (.const _) oz (uN _ 31 oz) rfl) ?_;refine gs (bI (n:=j) (.tmp rfl) (.tmp rfl) T42 rfl T87 rfl oz (by first |omega |(simp;omega)) rfl) ?_;refine gs (dS (.tmp rfl) rfl (cB (i:=j) oz) rfl (.tmp rfl) rfl rfl T87 rfl rfl) ?_;refine gD ?_;refine ga (dx oz) ?_;exact js J2 (o.set j (ak r j*2^1%4294967296+c)) (ak r j/2^31) (j+1) ⟨by simp[m8],jd wo oz,by omega,by omega,yA hd,by rw[oF oz,dU];rw[show 4294967296^(j+1)=4294967296^j*4294967296 from ao1 _ _];exact h3⟩ (hw:=Wk.of a6 (.cons rfl (.of (by rw[as7];rfl)) (.k .nil)))
  have fa:j=b.length+1:=by have:b.length+1<=j:=(by have:=z;simp[aa]at this;omega);omega
  subst fa;rw[fX (l:=r) oz,fX (l:=o) oz,hr]at hv
  have Af:c=0:=by
   cases c with
   |zero=>rfl
   |succ c=>rw[ape]at hv;omega
  subst Af;rw[Nat.zero_mul,aoy]at hv;have JT:o.take (b.length+1)=o:=asn oz;obtain⟨d1,d2⟩:=aj3 (V:=V) (k:=k) JS;rw[<- EG]at d1 d2;have Ul:=X0 17 o b (b.length+1) wo hb oz;rw[JT,<- EI,hv]at Ul;have EJ:k/32<q.length:=by omega
  obtain⟨w1,w2⟩:=aij wq EJ hq;have w3:=ab0 wq EJ hq;refine gt (aG Ul (b9 rfl rfl) aK rfl rfl) ?_;refine gC (fun t58=>?_) (fun t58=>?_)
  ·have hge:Bv<=2*(V/2^(k+1)%Bv)+bit:=by
    rcases asb (2*(V/2^(k+1)%Bv)+bit) Bv with h |h
    ·rw[ate h]at t58;cases t58
    ·exact h
   obtain⟨d3,d4⟩:=d1 hge;have Um:=PI o b (b.length+1) wo hb oz (by unfold aA;omega) (by rw[JT,<- EI,hv];exact hge);rw[JT,<- EI,hv,<- d3,Zz (by rw[gK,m8])]at Um;have lr:V/2^k%Bv<4294967296^(b.length+1):=by have:=aou (V/2^k) JS;omega
   refine gt (aG (Con.rk 17 rfl rfl Um) (b9 rfl rfl) aK rfl rfl) ?_;refine gs (nG (.tmp rfl) (.const _) oz (NN oz) rfl) ?_;refine gs (bI (n:=k/32) (.tmp rfl) (.tmp rfl) T42 rfl T87 rfl oz oz rfl) ?_;refine gs (dt (.tmp rfl) rfl (cB (i:=k/32) EJ) T87 rfl rfl rfl) ?_;refine gs (AN (.tmp rfl) (.const _) oz Rc rfl) ?_;refine gs (nQ (.const _) (.tmp rfl) oz ((L3 (x:=1) (n:=k%32) oz).trans (show _=((2^(k%32):Nat):Int) by rw[Nat.one_mul,aol (asw (Nat.le_add_left _ _) w2)])) rfl) ?_;refine gs (lP (.tmp rfl) (.tmp rfl) rfl ((FI (bX wq _) (asw (Nat.le_add_left _ _) w2)).trans (by rw[w1])) rfl) ?_;refine gs (bI (n:=k/32) (.tmp rfl) (.tmp rfl) T42 rfl T87 rfl oz oz rfl) ?_;refine gs (dS (.tmp rfl) rfl (cB (i:=k/32) EJ) rfl (.tmp rfl) rfl rfl T87 rfl rfl) ?_;refine gD ?_;refine ga (eO oz) ?_;exact js J1 (q.set (k/32) (ak q (k/32)+2^(k%32))) (bf (b.length+1) (V/2^k%Bv)) k ⟨by simp[uD],gK _ _,jd wq w2,mh _ _,by omega,oV _ _ lr,by rw[w3,d4]⟩ (hw:=Wk.of a6 (.cons rfl (.of (by first |rfl |(rw[as7];rfl))) (.k .nil)))
  have hge:2*(V/2^(k+1)%Bv)+bit<Bv:=by
   rcases asb (2*(V/2^(k+1)%Bv)+bit) Bv with h |h
   ·exact h
   ·rw[atd oz]at t58;split at t58 <;> cases t58
  obtain⟨d3,d4⟩:=d2 hge;refine ga (eO oz) ?_;exact js J1 q o k ⟨uD,m8,wq,wo,by omega,by rw[hv,d3],by rw[hq,d4,ao1,an8]⟩ (hw:=Wk.of a6 (.cons rfl (.of (by first |rfl |(rw[as7];rfl))) (.k .nil)))
 have Uj:i=0:=by have:=z;simp[aa]at this;omega
 subst Uj;refine gW ((Wk.freeze (k:=13) rfl).trans<|(Wk.freeze (k:=17) rfl).trans<|Wk.of (sl:=[pP 6 (ws q),pP 7 (ws r)]) (hp:=[]) (.cons rfl (.of (by rw[show AV.fz 13 1 (q.map u32) (.ms 13 1 0 a.length)=ws q from cq (by simp[uD])];rfl)) (.cons rfl (.of (cq (by simp[Ah]))) .nil)) .nil) ?_;refine gc (vp q wq oz) ?_;refine gc (vp r wr' (by unfold aA;omega)) ?_;refine bu ?_;rw[hr,hq];simp[]
def kc(L:Nat)(A:List Nat)(n:Nat):Prop:=Ws A/\n<=A.length/\A.length<=L/\n=(ofNat (val (A.take n))).length
theorem ajl(v:Nat):ofNat v=bf (ofNat v).length v:=by
 have h:=xY (ofNat v) (dT _)
 rwa [cD]at h
theorem lQ{L:Nat}{A:List Nat}{n v:Nat}(h:kc L A n)(hv:v<=val (A.take n)) :
  kc L (wr A 0 (bf n v)) (ofNat v).length/\val ((wr A 0 (bf n v)).take (ofNat v).length)=v/\val ((wr A 0 (bf n v)).take n)=v:=by
 obtain⟨hw,hn,hl,hN⟩:=h;have hlt:=tC hw n;have om:v<4294967296^n:=by omega
 have bR:(ofNat v).length<=n:=gB om
 have ht:(wr A 0 (bf n v)).take n=bf n v:=by
  unfold wr;rw[List.take_zero,nil_append,apq (by rw[gK];omega),asn (by rw[gK];omega)]
 have Un:(wr A 0 (bf n v)).take (ofNat v).length=ofNat v:=by
  have h1:((wr A 0 (bf n v)).take n).take (ofNat v).length=(wr A 0 (bf n v)).take (ofNat v).length:=by rw[ap3,aon bR]
  rw[<- h1,ht,Jo _ _ _ bR,<- ajl]
 have cm:(wr A 0 (bf n v)).length=A.length:=pF (by rw[gK];omega);refine⟨⟨wl hw (mh _ _),by omega,by omega,by rw[Un,cD]⟩,by rw[Un,cD],by rw[ht,oV _ _ om]⟩
theorem jL{L:Nat}{A:List Nat}{n:Nat}(h:kc L A n)(hx:0<val (A.take n)):0<n/\val (A.take n)%2=ak A 0%2:=by
 have hn:0<n:=by
  rcases aov n with h0 |h0
  ·subst h0;simp[val]at hx
  ·exact h0
 refine⟨hn,?_⟩;have:=x7 (A.take n) 0;rw[as8,tP hn]at this;omega
theorem amq{L:Nat}{A:List Nat}{n:Nat}(h:kc L A n):A.take n=ofNat (val (A.take n)):=by
 obtain⟨hw,hn,hl,hN⟩:=h;have h1:=N5 (iY hw n);rw[<- hN,ap3,Nat.min_self]at h1;exact h1
theorem Nn{L:Nat}{A:List Nat}{n:Nat}(h:kc L A n):n=0↔val (A.take n)=0:=by
 constructor
 ·intro h0;subst h0;rfl
 ·intro h0;have h1:=h.2.2.2;rw[h0]at h1;exact h1
theorem UZ{x y:Nat}(hx:x%2=0)(hy:y%2=0):ao5 x y=2*ao5 (x/2) (y/2):=by
 rw[<- Nat.gcd_mul_left,Nat.mul_div_cancel' (Nat.dvd_of_mod_eq_zero hx),Nat.mul_div_cancel' (Nat.dvd_of_mod_eq_zero hy)]
theorem PG{x y:Nat}(hx:x%2=0)(hy:y%2=1):ao5 (x/2) y=ao5 x y:=by
 have h1:x=2*(x/2):=by omega
 have h2:Nat.Coprime 2 y:=by
  rw[Nat.Coprime,Nat.gcd_rec,hy];rfl
 conv=>rhs;rw[h1]
 exact(Nat.Coprime.gcd_mul_left_cancel _ h2).symm
theorem MW{x y:Nat}(h:y<=x):ao5 (x-y) y=ao5 x y:=Nat.gcd_sub_self_left h
theorem Tl{t L g V:Nat}(hg:0<g)(h:2^t*g<=V)(hV:V<4294967296^L):t<32*L:=by
 rw[yW]at hV;have h1:=ash (2^t) (show 1<=g from hg);rcases asb t (32*L)with h2 |h2
 ·exact h2
 ·have:=tm h2;omega
theorem O9(A D:List Nat)(n p:Nat)(hA:Ws A)(hD:Ws D)(hn:n<=A.length)(hp:p<=D.length)(la:A.length<=aA)(bR:val (D.take p)<=val (A.take n)) :
  Con prog 374 [.ms 901 1 0 n,.ms 902 1 0 p] [pP 902 (.row 1 (D.map u32)),pP 901 (.row 1 (A.map u32))] (.tup [])
   [pP 902 (.row 1 (D.map u32)),pP 901 (.row 1 ((wr A 0 (bf n (val (A.take n)-val (D.take p)))).map u32))]:=by
 have h1:=Con.rk 901 rfl rfl (PI A (D.take p) n hA (iY hD p) hn la bR);refine Con.borrow (args:=[.ms 901 1 0 n,ws (D.take p)]) 902 1 (D.map u32) rfl rfl rfl ?_ rfl ?_ h1
 ·intro j x' hj
  match j,hj with
  |0,hj=>cases hj;exact .inl rfl
  |1,hj=>cases hj;exact .inr ⟨0,p,rfl,by simpa using hp,by rw[wM];rfl⟩
 ·intro k' x h;obtain⟨_,h⟩:=io h;cases h;exact M0 _
theorem De{A:List Nat}(hA:Ws A){i:Nat}:p5 .and .u32 (ak A i:Int) 1=((ak A i%2:Nat):Int) :=
 (K8 (y:=1) (bX hA i) oz).trans (by rw[Nat.and_one_is_mod])
theorem WA(a b:List Nat)(ha:Ws a)(hb:Ws b)(na:Nz a)(nb:Nz b)(la:a.length+b.length<aA):FP 305 [ws a,ws b] (ws (ofNat (ao5 (val a) (val b)))):=by
 have la':=la;unfold aA at la;have ea:=vz ha na;have eb:=vz hb nb;obtain⟨L,hL⟩:∃L,L=a.length+b.length:=⟨_,rfl⟩
 obtain⟨G,hG⟩:∃G,G=ao5 (val a) (val b):=⟨_,rfl⟩
 rw[<- hG];refine am func305 ?_;refine gt (aG (Fg 901 rfl a ha (by unfold aA;omega)) (eJ rfl) aK rfl rfl) ?_;refine gt (aG (Fg 902 rfl b hb (by unfold aA;omega)) (eJ rfl) aK rfl rfl) ?_ (2,0);refine gW (Wk.of (sl:=[pP 0 (.ms 901 1 0 a.length),pP 1 (.ms 902 1 0 b.length)]) (hp:=[pP 901 (.row 1 (a.map u32)),pP 902 (.row 1 (b.map u32))]) (.cons rfl (.of (by rw[ea])) (.cons rfl (.of (by rw[eb])) .nil)) (.k (.k .nil))) ?_;refine gC (fun z=>?_) (fun z=>?_) (st1:=(3,0))
 ·have h0 : a=[] := apv.1 (by simpa[aa]using z);refine gW ((Wk.freeze (k:=902) rfl).trans<|Wk.of (sl:=[pP 1 (ws b)]) (hp:=[]) (.cons rfl (.of (cq (by simp))) .nil) .nil) ?_;refine ah ?_;rw[hG,h0];simp[val,eb]
 have h0:a≠[]:=fun h=>by rw[h]at z;simp[aa]at z
 refine gC (fun z=>?_) (fun z=>?_) (st1:=(5,0))
 ·have h1 : b=[] := apv.1 (by simpa[aa]using z);refine gW ((Wk.freeze (k:=901) rfl).trans<|Wk.of (sl:=[pP 0 (ws a)]) (hp:=[]) (.cons rfl (.of (cq (by simp))) .nil) .nil) ?_;refine ah ?_;rw[hG,h1];simp[val,ea]
 have h1:b≠[]:=fun h=>by rw[h]at z;simp[aa]at z
 have va:=ut na h0;have vb:=ut nb h1;have hGp:0<G:=by rw[hG];exact Nat.gcd_pos_of_pos_left _ va
 have Uo:G<=val a:=by rw[hG];exact Nat.gcd_le_left _ va
 have vla:=co a ha;refine LT [] [] (fun(A D:List Nat)(n p t:Nat)=>[pP 0 (.ms 901 1 0 n),pP 1 (.ms 902 1 0 p),pP 5 (i64 t)]) (fun A D _ _ _=>[pP 901 (.row 1 (A.map u32)),pP 902 (.row 1 (D.map u32))]) (fun A D n p t=>kc L A n/\kc L D p/\0<val (A.take n)/\0<val (D.take p)/\G=2^t*ao5 (val (A.take n)) (val (D.take p))) (fun A _ n _ _=>val (A.take n)) a b a.length b.length 0 ⟨⟨ha,ar8 _,by omega,by rw[asK,ea]⟩,⟨hb,ar8 _,by omega,by rw[asK,eb]⟩,by rw[asK];exact va,by rw[asK];exact vb,by rw[asK,asK,hG];simp⟩ ?_
 rintro A D n p t ⟨gA,gD,pA,pD,hg⟩ K1 J1;refine gs (bI (n:=0) (.tmp rfl) (.const _) T42 rfl T87 rfl oz (by have:=(jL gA pA).1;omega) rfl) ?_;refine gs (dt (.tmp rfl) rfl (cB (i:=0) (by have:=(jL gA pA).1;have:=gA.2.1;omega)) T87 rfl rfl rfl) ?_;refine gs (lP (.tmp rfl) (.const _) rfl (De gA.1) rfl) ?_;refine gs (fM rfl rfl rfl (fun h=>bI (n:=0) (.opt rfl (o1 h)) (.const _) T42 rfl T87 rfl oz (by have:=(jL gD pD).1;omega) rfl)) ?_;refine gs (fM rfl rfl rfl (fun h=>dt (.opt rfl (o1 h)) rfl (cB (i:=0) (by have:=(jL gD pD).1;have:=gD.2.1;omega)) T87 rfl rfl rfl)) ?_;refine gs (fM rfl rfl rfl (fun h=>lP (.opt rfl (o1 h)) (.const _) rfl (De gD.1) rfl)) ?_;refine gC (fun t29=>?_) (fun t29=>?_)
 ·have dC:ak A 0%2=0/\ak D 0%2=0:=by
   have:=t29;simp[aa]at this;omega
  have xA:val (A.take n)%2=0:=by rw[(jL gA pA).2];exact dC.1
  have xD:val (D.take p)%2=0:=by rw[(jL gD pD).2];exact dC.2
  obtain⟨k1,k2,k3⟩:=lQ gA (v:=val (A.take n)/2) oz;obtain⟨m1,m2,m3⟩:=lQ gD (v:=val (D.take p)/2) oz;have ht:t<32*a.length:=Tl (Nat.gcd_pos_of_pos_left _ pA) (by rw[<- hg];exact Uo) vla;refine gt (aG (Con.rekeyR 901 rfl (D4 A n gA.1 gA.2.1 (by have:=gA.2.2.1;unfold aA;omega))) (eJ rfl) aK rfl rfl) ?_;refine gt (aG (Con.rekeyR 902 rfl (D4 D p gD.1 gD.2.1 (by have:=gD.2.2.1;unfold aA;omega))) (eJ rfl) aK rfl rfl) ?_;refine ga (show _=((t+1:Nat):Int) by rw[dx oz];omega) ?_;exact OG J1 (wr A 0 (bf n (val (A.take n)/2))) (wr D 0 (bf p (val (D.take p)/2))) ((ofNat (val (A.take n)/2)).length) ((ofNat (val (D.take p)/2)).length) (t+1) ⟨k1,m1,by rw[k2];omega,by rw[m2];omega,by rw[k2,m2,hg,UZ xA xD,ao1];grind⟩ (by rw[k2];omega)
 have hod:val (A.take n)%2=1\/val (D.take p)%2=1:=by
  rw[(jL gA pA).2,(jL gD pD).2];have:=t29;simp[aa]at this;omega
 refine Yw [5] [] (fun(A1 D1:List Nat)(n1 p1:Nat)=>[pP 0 (.ms 901 1 0 n1),pP 1 (.ms 902 1 0 p1)]) (fun A1 D1 _ _=>[pP 901 (.row 1 (A1.map u32)),pP 902 (.row 1 (D1.map u32))]) (fun A1 D1 n1 p1=>kc L A1 n1/\kc L D1 p1/\0<val (D1.take p1)/\(val (A1.take n1)%2=1\/val (D1.take p1)%2=1)/\G=2^t*ao5 (val (A1.take n1)) (val (D1.take p1))) (fun A1 D1 n1 p1=>val (A1.take n1)+val (D1.take p1)) A D n p ⟨gA,gD,pD,hod,hg⟩ ?_
 rintro A1 D1 n1 p1 ⟨gA1,gD1,pD1,anf,qK⟩ K2 J2;refine gC (fun t38=>?_) (fun t38=>?_) (st2:=(19,0))
 ·have pA1:0<val (A1.take n1):=by
   have h3:n1≠0:=by have:=t38;simp[aa]at this;omega
   exact Nat.pos_of_ne_zero (fun h=>h3 ((Nn gA1).2 h))
  refine fT [5] [902] (fun(A2:List Nat)(n2:Nat)=>[pP 0 (.ms 901 1 0 n2),pP 1 (.ms 902 1 0 p1)]) (fun A2 _=>[pP 901 (.row 1 (A2.map u32))]) (fun A2 n2=>kc L A2 n2/\0<val (A2.take n2)/\val (A2.take n2)<=val (A1.take n1)/\(val (A2.take n2)%2=1\/val (D1.take p1)%2=1)/\ao5 (val (A2.take n2)) (val (D1.take p1))=ao5 (val (A1.take n1)) (val (D1.take p1))) (fun A2 n2=>val (A2.take n2)) A1 n1 ⟨gA1,pA1,ar8 _,anf,rfl⟩ ?_
  rintro A2 n2 ⟨gA2,pA2,lA2,anv,uE⟩ K3 J3;refine gs (bI (n:=0) (.tmp rfl) (.const _) T42 rfl T87 rfl oz (by have:=(jL gA2 pA2).1;omega) rfl) ?_;refine gs (dt (.tmp rfl) rfl (cB (i:=0) (by have:=(jL gA2 pA2).1;have:=gA2.2.1;omega)) T87 rfl rfl rfl) ?_;refine gs (lP (.tmp rfl) (.const _) rfl (De gA2.1) rfl) ?_;refine gC (fun t43=>?_) (fun t43=>?_)
  ·have xA2:val (A2.take n2)%2=0:=by
    rw[(jL gA2 pA2).2];have:=t43;simp[aa]at this;omega
   obtain⟨k1,k2,k3⟩:=lQ gA2 (v:=val (A2.take n2)/2) oz;refine gt (aG (Con.rekeyR 901 rfl (D4 A2 n2 gA2.1 gA2.2.1 (by have:=gA2.2.2.1;unfold aA;omega))) (eJ rfl) aK rfl rfl) ?_;exact f7 J3 (wr A2 0 (bf n2 (val (A2.take n2)/2))) ((ofNat (val (A2.take n2)/2)).length) ⟨k1,by rw[k2];omega,by rw[k2];omega,.inr oz,by rw[k2,PG xA2 oz,uE]⟩ (by rw[k2];omega)
  have xA2:val (A2.take n2)%2=1:=by
   rw[(jL gA2 pA2).2];have:=t43;simp[aa]at this;omega
  refine fT [5] [901] (fun(D2:List Nat)(p2:Nat)=>[pP 0 (.ms 901 1 0 n2),pP 1 (.ms 902 1 0 p2)]) (fun D2 _=>[pP 902 (.row 1 (D2.map u32))]) (fun D2 p2=>kc L D2 p2/\0<val (D2.take p2)/\val (D2.take p2)<=val (D1.take p1)/\ao5 (val (A2.take n2)) (val (D2.take p2))=ao5 (val (A2.take n2)) (val (D1.take p1))) (fun D2 p2=>val (D2.take p2)) D1 p1 ⟨gD1,pD1,ar8 _,rfl⟩ ?_;rintro D2 p2 ⟨gD2,pD2,lD2,JU⟩ K4 J4;refine gs (bI (n:=0) (.tmp rfl) (.const _) T42 rfl T87 rfl oz (by have:=(jL gD2 pD2).1;omega) rfl) ?_;refine gs (dt (.tmp rfl) rfl (cB (i:=0) (by have:=(jL gD2 pD2).1;have:=gD2.2.1;omega)) T87 rfl rfl rfl) ?_;refine gs (lP (.tmp rfl) (.const _) rfl (De gD2.1) rfl) ?_;refine gC (fun t50=>?_) (fun t50=>?_)
  ·have xD2:val (D2.take p2)%2=0:=by
    rw[(jL gD2 pD2).2];have:=t50;simp[aa]at this;omega
   obtain⟨k1,k2,k3⟩:=lQ gD2 (v:=val (D2.take p2)/2) oz;refine gt (aG (Con.rekeyR 902 rfl (D4 D2 p2 gD2.1 gD2.2.1 (by have:=gD2.2.2.1;unfold aA;omega))) (eJ rfl) aK rfl rfl) ?_;exact f7 J4 (wr D2 0 (bf p2 (val (D2.take p2)/2))) ((ofNat (val (D2.take p2)/2)).length) ⟨k1,by rw[k2];omega,by rw[k2];omega,by rw[k2,ao2,PG xD2 xA2,ao2,JU]⟩ (by rw[k2];omega)
  have xD2:val (D2.take p2)%2=1:=by
   rw[(jL gD2 pD2).2];have:=t50;simp[aa]at this;omega
  refine gt (aG (aeg 901 902 oz A2 D2 n2 p2 gA2.1 gD2.1 gA2.2.1 gD2.2.1) (b9 rfl rfl) aK rfl rfl) ?_;refine gC (fun t56=>?_) (fun t56=>?_) (st1:=(17,0)) (st2:=(77777,0))
  ·have hlt:val (A2.take n2)<val (D2.take p2):=by
    rcases asb (val (A2.take n2)) (val (D2.take p2))with h |h
    ·exact h
    ·rw[atd oz]at t56;split at t56 <;> cases t56
   refine gW (Wk.o (sl:=[pP 0 (.ms 902 1 0 p2),pP 1 (.ms 901 1 0 n2),pP 5 (i64 t)]) (hp:=[pP 901 (.row 1 (A2.map u32)),pP 902 (.row 1 (D2.map u32))])) ?_ (17,0);refine gW (Wk.rk (k:=901) (d:=903) rfl rfl) ?_ (17,0);refine gW (Wk.rk (k:=902) (d:=901) rfl rfl) ?_ (17,0);refine gW (Wk.rk (k:=903) (d:=902) rfl rfl) ?_ (17,0);refine gW (Wk.of (sl:=[pP 0 (.ms 901 1 0 p2),pP 1 (.ms 902 1 0 n2),pP 5 (i64 t)]) (hp:=[pP 901 (.row 1 (D2.map u32)),pP 902 (.row 1 (A2.map u32))]) (.cons rfl (Sub.refl _) (.cons rfl (Sub.refl _) (.cons rfl (Sub.refl _) .nil))) (.k (.k .nil))) ?_ (17,0);obtain⟨A3,D3,n3,p3,gA3,gD3,xA3,xD3,Ai,JV,hs3,e1,e2,e3,e4⟩:∃A3 D3 n3 p3,kc L A3 n3/\kc L D3 p3/\val (A3.take n3)%2=1/\val (D3.take p3)%2=1/\val (D3.take p3)<=val (A3.take n3)/\ao5 (val (A3.take n3)) (val (D3.take p3))=ao5 (val (A2.take n2)) (val (D2.take p2))/\val (A3.take n3)+val (D3.take p3)=val (A2.take n2)+val (D2.take p2)/\A3=D2/\n3=p2/\D3=A2/\p3=n2:=⟨D2,A2,p2,n2,gD2,gA2,xD2,xA2,by omega,ao2 _ _,ao7 _ _,rfl,rfl,rfl,rfl⟩
   rw[<- e1,<- e2,<- e3,<- e4];refine go ?_;refine gt (aG (O9 A3 D3 n3 p3 gA3.1 gD3.1 gA3.2.1 gD3.2.1 (by have:=gA3.2.2.1;unfold aA;omega) Ai) (b9 rfl rfl) aK rfl rfl) ?_;refine gt (aG (Con.rekeyR 901 rfl (Fl (wr A3 0 (bf n3 (val (A3.take n3)-val (D3.take p3)))) n3 (wl gA3.1 (mh _ _)) (by rw[pF (by rw[gK];have:=gA3.2.1;omega)];exact gA3.2.1) (by rw[pF (by rw[gK];have:=gA3.2.1;omega)];have:=gA3.2.2.1;unfold aA;omega))) (eJ rfl) aK rfl rfl) ?_;exact L9 J2 (wr A3 0 (bf n3 (val (A3.take n3)-val (D3.take p3)))) D3 ((ofNat (val (A3.take n3)-val (D3.take p3))).length) p3 ⟨(lQ gA3 oz).1,gD3,by omega,.inr xD3,by rw[(lQ gA3 (v:=val (A3.take n3)-val (D3.take p3)) oz).2.1,MW Ai,JV,JU,uE,qK]⟩ (by rw[(lQ gA3 (v:=val (A3.take n3)-val (D3.take p3)) oz).2.1];omega) (hw:=Wk.of (.cons rfl (.of (by rw[(lQ gA3 (v:=val (A3.take n3)-val (D3.take p3)) oz).2.2])) (.k (.k .nil))) (.k (.k .nil)))
  have hlt:val (D2.take p2)<=val (A2.take n2):=by
   rcases asb (val (A2.take n2)) (val (D2.take p2))with h |h
   ·rw[ate h]at t56;cases t56
   ·exact h
  refine gW (Wk.o (sl:=[pP 0 (.ms 901 1 0 n2),pP 1 (.ms 902 1 0 p2),pP 5 (i64 t)]) (hp:=[pP 901 (.row 1 (A2.map u32)),pP 902 (.row 1 (D2.map u32))])) ?_ (77777,0);obtain⟨A3,D3,n3,p3,gA3,gD3,xA3,xD3,Ai,JV,hs3,e1,e2,e3,e4⟩:∃A3 D3 n3 p3,kc L A3 n3/\kc L D3 p3/\val (A3.take n3)%2=1/\val (D3.take p3)%2=1/\val (D3.take p3)<=val (A3.take n3)/\ao5 (val (A3.take n3)) (val (D3.take p3))=ao5 (val (A2.take n2)) (val (D2.take p2))/\val (A3.take n3)+val (D3.take p3)=val (A2.take n2)+val (D2.take p2)/\A3=A2/\n3=n2/\D3=D2/\p3=p2:=⟨A2,D2,n2,p2,gA2,gD2,xA2,xD2,hlt,rfl,rfl,rfl,rfl,rfl,rfl⟩
  rw[<- e1,<- e2,<- e3,<- e4];obtain⟨k1,k2,k3⟩:=lQ gA3 (v:=val (A3.take n3)-val (D3.take p3)) oz;refine go ?_;refine gt (aG (O9 A3 D3 n3 p3 gA3.1 gD3.1 gA3.2.1 gD3.2.1 (by have:=gA3.2.2.1;unfold aA;omega) Ai) (b9 rfl rfl) aK rfl rfl) ?_;refine gt (aG (Con.rekeyR 901 rfl (Fl (wr A3 0 (bf n3 (val (A3.take n3)-val (D3.take p3)))) n3 (wl gA3.1 (mh _ _)) (by rw[pF (by rw[gK];have:=gA3.2.1;omega)];exact gA3.2.1) (by rw[pF (by rw[gK];have:=gA3.2.1;omega)];have:=gA3.2.2.1;unfold aA;omega))) (eJ rfl) aK rfl rfl) ?_;exact L9 J2 (wr A3 0 (bf n3 (val (A3.take n3)-val (D3.take p3)))) D3 ((ofNat (val (A3.take n3)-val (D3.take p3))).length) p3 ⟨(lQ gA3 oz).1,gD3,by omega,.inr xD3,by rw[(lQ gA3 (v:=val (A3.take n3)-val (D3.take p3)) oz).2.1,MW Ai,JV,JU,uE,qK]⟩ (by rw[(lQ gA3 (v:=val (A3.take n3)-val (D3.take p3)) oz).2.1];omega) (hw:=Wk.of (.cons rfl (.of (by rw[(lQ gA3 (v:=val (A3.take n3)-val (D3.take p3)) oz).2.2])) (.k (.k .nil))) (.k (.k .nil)))
 have zA1:val (A1.take n1)=0:=by
  have h3:n1=0:=by have:=t38;simp[aa]at this;omega
  exact(Nn gA1).1 h3
 rw[zA1,Nat.gcd_zero_left]at qK;refine gW ((Wk.freeze (k:=902) rfl).trans<|Wk.of (sl:=[pP 1 (ws (ofNat (val (D1.take p1)))),pP 5 (i64 t)]) (hp:=[]) (.cons rfl (.of (by rw[tl (by rw[ar3];have:=gD1.2.1;omega),wM,<- amq gD1])) (.k .nil)) .nil) ?_;refine aP [64] [] (fun(i:Nat)=>[pP 1 (ws (ofNat (2^i*val (D1.take p1)))),pP 65 (i64 i)]) (fun _=>[]) (fun i=>i<=t) (fun i=>t-i) 0 (ase _) ?_ (h1:=(.cons rfl (.of (by rw[Nat.pow_zero,Nat.one_mul])) (.k .nil)));rintro i hit K5 J5;refine gC (fun z=>?_) (fun z=>?_)
 ·have af : i < t := by simpa [aa] using z
  have h3:2^i*val (D1.take p1)<=G:=by rw[qK];exact asl _ (tm oz)
  have h4:(ofNat (2^i*val (D1.take p1))).length<=a.length:=gB oz;have ht:t<32*a.length:=Tl pD1 (by rw[<- qK];exact Uo) vla;refine gc (FV _ _ (dT _) (dT _) (by unfold aA;omega) (by unfold aA;omega)) ?_;refine ga (dx oz) ?_;exact aM J5 (i+1) af (hw:=Wk.of (.cons rfl (.of (by rw[cD,ao1];congr 2;grind)) (.k (.k .nil))) .nil)
 have af:i=t:=by have:t<=i:=(by simpa[aa]using z);omega
 subst af;refine ah ?_;rw[qK]
theorem RG(a b:Wh)(ha:a.ok)(hb:b.ok)(la:a.mag.length+b.mag.length<aA):FP 207 [a.av,b.av] (zA (aqn a.z b.z)):=by
 have h1:=Wh.m_le (w:=a);have h2:=Wh.m_le (w:=b);have h3:aqn a.z b.z=ao5 (val a.m) (val b.m):=by rw[aqn,Wh.abs,Wh.abs]
 have h4:(ofNat (ao5 (val a.m) (val b.m))).length<=a.m.length+b.m.length:=by
  rcases aov (val a.m)with h |h
  ·rw[h,Nat.gcd_zero_left,Wh.ofNat_m hb];omega
  ·exact asv (gB (asw (Nat.gcd_le_left _ h) (co _ (Wh.ws ha)))) oz
 refine am func207 ?_;refine gc (nV a ha) ?_;refine gc (nV b hb) ?_;refine gc (WA a.m b.m (Wh.ws ha) (Wh.ws hb) a.nz b.nz oz) ?_;refine gc (mM false _ (dT _) oz) ?_;refine gD ?_;refine ah ?_;rw[cD,h3];rfl
theorem ZJ(a b:Wh)(ha:a.ok)(hb:b.ok)(la:a.mag.length+1<aA)(lb:b.mag.length<aA)(h0:b.z≠0):FP 281 [a.av,b.av] (.tup [zA (a.z/b.z),zA (a.z%b.z),i64 0]):=by
 have iz:=Wh.m_le (w:=a);have lA:=Wh.m_le (w:=b);have bM:val b.m≠0:=by have:=Wh.abs (w:=b);omega
 have sr:(ofNat (val a.m/val b.m)).length<=a.m.length:=gB (asw (aop _ _) (co _ (Wh.ws ha)));have z4:=aou (val a.m) (show 0<val b.m by omega);have sE:(ofNat (val a.m%val b.m)).length<=b.m.length:=gB (Nat.lt_trans z4 (co _ (Wh.ws hb)));have hl3:(ofNat (val a.m/val b.m+1)).length<=a.m.length+1:=gB (by have h7:=asw (aop (val a.m) (val b.m)) (co _ (Wh.ws ha));rw[ao1];generalize val a.m/val b.m=m at *;omega);have hl4:(ofNat (val b.m-val a.m%val b.m)).length<=b.m.length:=gB (by have:=co _ (Wh.ws hb);omega);have xg:val [1]=1:=rfl;refine am func281 ?_;refine gc (I7 b hb) ?_;refine gC (fun z=>?_) (fun z=>?_) (st1:=(2,0));exact atk (aql.1 (by simpa[aa]using z)) h0;refine gc (nV a ha) ?_;refine gc (nV b hb) ?_;refine gc (VT a.m b.m (Wh.ws ha) (Wh.ws hb) a.nz bM oz oz) ?_;refine gD ?_;refine gc (kP a ha) ?_;refine cG ?_;refine gC (fun z=>?_) (fun z=>?_)
 ·have h1:a.n = true /\ 0 < val a.m % val b.m:=Cj.1 z;obtain ⟨e1,e2⟩:=N8 bM h1.1 h1.2;refine gc (FV (ofNat (val a.m / val b.m)) [1] (dT _) (zN oz) oz (by unfold aA; simp)) ?_;refine gc (nV b hb) ?_;refine gc (Ig b.m (ofNat (val a.m % val b.m)) (Wh.ws hb) (dT _) oz (by rw [cD]; omega)) ?_;refine gD ?_ (6,0);refine gW (Wk.of (sl:=[pP 2 (.ptr 2 0),pP 3 (.ptr 3 0),pP 4 (.ptr 4 0),pP 5 (.ptr 5 0),pP 7 (ws (ofNat (val a.m / val b.m + 1))),pP 8 (ws (ofNat (val b.m - val a.m % val b.m)))]) (hp:=[pP 2 (.box [bl a.neg,ws a.mag]),pP 3 (.box [bl b.neg,ws b.mag]),pP 4 (.box [.v (.bool false),nS]),pP 5 (.box [.v (.bool false),nS])]) (.k (.k (.k (.k (.cons rfl (.of (by rw [cD,xg])) (.cons rfl (.of (by rw [cD])) .nil)))))) (.k (.k (.k (.k .nil))))) ?_
  refine gc (kP a ha) ?_;refine gc (kP b hb) ?_;refine gc (by apply mM _ _ (dT _) oz) ?_;refine gc (by apply mM _ _ (dT _) oz) ?_;refine gD ?_;refine gR ?_;exact zH (by rw[cD,cD,e1,show sgn false _=_ from e2];rfl)
 have h1:¬(a.n=true/\0<val a.m%val b.m):=fun h=>ara.1 z (Cj.2 h)
 obtain⟨e1,e2⟩:=MN bM h1;refine gc (kP a ha) ?_;refine gc (kP b hb) ?_;refine gc (by apply mM _ _ (dT _) oz) ?_;refine gc (by apply mM _ _ (dT _) oz) ?_;refine gD ?_;refine gR ?_;exact zH (by rw[cD,cD,e1,show sgn false _=_ from e2];rfl)
theorem yn{x:Int}(hx:Zs x):FP 73 [zA x] (i64 x.sign):=by
 have h:=Gx (ofInt x) hx.ok;rw[eD]at h;exact h
theorem BD{x:Int}(hx:Zs x):FP 118 [zA x] (zA (-x)):=by
 have h:=ai1 (ofInt x) hx.ok (by have:=hx.len;unfold aA;omega);rw[eD]at h;exact h
theorem KG{x y:Int}(hx:Zs x)(hy:Zs y):FP 204 [zA x,zA y] (i64 (jE x y)):=by
 have h:=aep (ofInt x) (ofInt y) hx.ok hy.ok;rw[eD,eD]at h;exact h
theorem XX{x y:Int}(hx:Zs x)(hy:Zs y):FP 116 [zA x,zA y] (zA (x+y)):=by
 have h:=aif (ofInt x) (ofInt y) hx.ok hy.ok (by have:=hx.len;unfold aA;omega) (by have:=hy.len;unfold aA;omega);rw[eD,eD]at h;exact h
theorem p7{x y:Int}(hx:Zs x)(hy:Zs y):FP 117 [zA x,zA y] (zA (x*y)):=by
 have h:=Wx (ofInt x) (ofInt y) hx.ok hy.ok (by have:=hx.len;have:=hy.len;unfold aA;omega);rw[eD,eD]at h;exact h
theorem aei{x y:Int}(hx:Zs x)(hy:Zs y):FP 119 [zA x,zA y] (zA (aqn x y)):=by
 have h:=KW (ofInt x) (ofInt y) hx.ok hy.ok (by have:=hx.len;unfold aA;omega) (by have:=hy.len;unfold aA;omega);rw[eD,eD]at h;exact h
theorem QJ{x y:Int}(hx:Zs x)(hy:Zs y)(h0:y≠0):FP 120 [zA x,zA y] (.tup [zA (x/y),zA (x%y),.v .nilIface]):=by
 have h:=aln (ofInt x) (ofInt y) hx.ok hy.ok (by have:=hx.len;unfold aA;omega) (by have:=hy.len;unfold aA;omega) (by rw[eD];exact h0);rw[eD,eD]at h;exact h
theorem BO{x:Int}(hx:Zs x):FP 208 [zA x] (i64 x.sign):=by
 have h:=I7 (ofInt x) hx.ok;rw[eD]at h;exact h
theorem Jh{x:Int}(hx:Zs x):FP 280 [zA x] (zA (-x)):=by
 have h:=KA (ofInt x) hx.ok (by have:=hx.len;unfold aA;omega);rw[eD]at h;exact h
theorem aks{x y:Int}(hx:Zs x)(hy:Zs y):FP 206 [zA x,zA y] (i64 (jE x y)):=by
 have h:=akb (ofInt x) (ofInt y) hx.ok hy.ok (by have:=hx.len;unfold aA;omega) (by have:=hy.len;unfold aA;omega);rw[eD,eD]at h;exact h
theorem agm{x y:Int}(hx:Zs x)(hy:Zs y):FP 294 [zA x,zA y] (zA (x+y)):=by
 have h:=Pt (ofInt x) (ofInt y) hx.ok hy.ok (by have:=hx.len;unfold aA;omega) (by have:=hy.len;unfold aA;omega);rw[eD,eD]at h;exact h
theorem tV{x y:Int}(hx:Zs x)(hy:Zs y):FP 201 [zA x,zA y] (zA (x*y)):=by
 have h:=aht (ofInt x) (ofInt y) hx.ok hy.ok (by have:=hx.len;have:=hy.len;unfold aA;omega);rw[eD,eD]at h;exact h
theorem Zd{x y:Int}(hx:Zs x)(hy:Zs y):FP 207 [zA x,zA y] (zA (aqn x y)):=by
 have h:=RG (ofInt x) (ofInt y) hx.ok hy.ok (by have:=hx.len;have:=hy.len;unfold aA;omega);rw[eD,eD]at h;exact h
theorem MG{x y:Int}(hx:Zs x)(hy:Zs y)(h0:y≠0):FP 281 [zA x,zA y] (.tup [zA (x/y),zA (x%y),i64 0]):=by
 have h:=ZJ (ofInt x) (ofInt y) hx.ok hy.ok (by have:=hx.len;unfold aA;omega) (by have:=hy.len;unfold aA;omega) (by rw[eD];exact h0);rw[eD,eD]at h;exact h
def ja(e:Nat):ato:=match e with |0=>.nilIface |e+1=>.iface 107 (.int .i64 ((e+1:Nat):Int))
def bQ(e:Nat):AV:=.v (ja e)
theorem Xk(e:Nat):ja e=.nilIface\/∃T u,ja e=.iface T u:=by cases e;exact .inl rfl;exact .inr ⟨_,_,rfl⟩
theorem Sw(e:Nat):fc (ja e)=decide (e=0):=by cases e <;> simp[ja,fc]
theorem Yu{e:Nat}(h:fc (ja e)=true):e=0:=by rw[Sw]at h;exact atg h
theorem alf{e:Nat}(h:fc (ja e)=false):e≠0:=by rw[Sw]at h;exact ath h
theorem gQ{e:Nat}(h:(!fc (ja e))=true):e≠0:=alf (by cases h':fc (ja e) <;> simp_all)
theorem gV{e:Nat}(h:(!fc (ja e))=false):e=0:=Yu (by cases h':fc (ja e) <;> simp_all)
theorem HI:FP 48 [] (zA 1):=by
 refine am func48 ?_;refine gc (DR 1 oz) ?_;refine ah ?_
 first |rfl |(simp;done)
theorem sW(r:Rt)(h:r.ok):FP 104 [r.av] (bl r.valid):=by
 have hn:=h.n0;have hd:=h.d0;refine am func104 ?_;refine gl ?_;refine cG ?_;refine gC (fun t14=>?_) (fun t14=>?_)
 ·have h0 : r.num = [] /\ r.den = [] := by simpa [aa] using t14
  refine ah ?_;unfold Rt.valid;rw[ate h0];rfl
 have h0:¬(r.num=[]/\r.den=[]):=by
  have:=t14;simp[aa]at this;exact fun h=>this h.1 h.2
 refine gD ?_;refine gl ?_;refine cG ?_;refine bV (fun _=>(Cv r.n0 hn)) ?_;refine bV (fun _=>(Cv r.d0 hd)) ?_;refine gC (fun z=>?_) (fun z=>?_)
 ·have h1:r.valid=false:=E5 h0 z;refine ah ?_;rw[h1];rfl
 have h1:=RZ h0 z;refine gc (KW r.n0 r.d0 hn hd h.n0l h.d0l) ?_;refine gc (by apply HI) ?_;refine gc (KG (Rt.gcd_zs h) BW) ?_;refine ah ?_;rw[h1];rfl
theorem nU(r:Rt)(h:r.ok):FP 72 [r.av] (.tup [zA r.q.num,zA r.q.den]):=by
 have sr:r.num.length<=137438953472:=h.2.2.1;have sE:r.den.length<=137438953472:=h.2.2.2;refine am func72 ?_;refine gc (sW r h) ?_;refine cG ?_;refine gC (fun t12=>?_) (fun t12=>?_)
 ·have h0:¬(r.valid=true/\r.num≠[]):=by
   have:=t12;intro h';simp[aa,h'.1,h'.2]at this
  refine gc HI ?_;refine gR ?_;exact ft (by rw[Rt.zero h0];exact Sub.tup (.cons Kx (.cons (.refl _) .nil)))
 have h0:r.valid=true/\r.num≠[]:=by
  have:=t12;cases hv:r.valid
  ·rw[hv]at this;cases this
  ·rw[hv]at this;exact⟨rfl,by simpa[aa]using this⟩
 obtain⟨e1,e2,e3,e4,e5,e6⟩:=Rt.parts h h0.1 h0.2;refine gs (tf T42 rfl T87 rfl rfl rfl) ?_;refine gs (eQ (.tmp rfl) rfl rfl (.tmp rfl) T42 rfl T87 rfl rfl (by simp only[ar3];omega) rfl rfl) ?_;refine gD ?_ (4,0);refine gW ((Wk.freeze (k:=20) rfl).trans<|Wk.of (sl:=[pP 1 (.ptr 1 0),pP 2 (.ptr 2 0),pP 3 (.ptr 3 0)]) (hp:=[pP 1 (.box [bl r.neg,ws r.num,ws r.den]),pP 2 (.box [bl r.neg,ws r.num]),pP 3 (.box [bl false,nS])]) a6 (.k (.cons rfl (BlkSub.bL (.cons (.refl _) (.cons (.of (cq (by simp))) .nil)) rfl) (.k .nil)))) ?_;refine gs (tf T42 rfl T87 rfl rfl rfl) ?_;refine gs (eQ (.tmp rfl) rfl rfl (.tmp rfl) T42 rfl T87 rfl rfl (by simp only[ar3];omega) rfl rfl) ?_;refine gD ?_ (77777,0);refine gW ((Wk.freeze (k:=26) rfl).trans<|Wk.of (sl:=[pP 2 (.ptr 2 0),pP 3 (.ptr 3 0)]) (hp:=[pP 2 (.box [bl r.neg,ws r.num]),pP 3 (.box [bl false,ws r.den])]) a6 (.k (.cons rfl (BlkSub.bL (.cons (.refl _) (.cons (.of (cq (by simp))) .nil)) rfl) .nil))) ?_;refine bu ?_;rw[e1,e2];exact KH e3 e4 e5
theorem vR{n d:Int}(hn:Zs n)(hd:Zs d)(h0:d≠0):FP 46 [zA n,zA d] (qA (aq3 n d)):=by
 refine am func46 ?_;refine gc (yn hn) ?_;refine gC (fun z=>?_) (fun z=>?_)
 ·have e0 : n=0 := aql.1 (by simpa[aa]using z);refine gR ?_;exact nk (by rw[e0,Rat.zero_divInt];exact l6)
 have e0:n≠0:=fun h=>by rw[h]at z;cases z
 refine gc (yn hd) ?_;refine PF [2,3,4] [4] (fun(n1 d1:Int)=>[]) (fun n1 d1=>[pP 2 (.box (zA n1).cells),pP 3 (.box (zA d1).cells)]) (fun n1 d1=>0<d1/\n1≠0/\Zs n1/\Zs d1/\aq3 n1 d1=aq3 n d) ?_ ?_
 ·intro K1 J1;refine gC (fun t13=>?_) (fun t13=>?_)
  ·have e1 : d<0 := aqr.1 (by have := aqp d;have h9 : d.sign<0 := (by simpa[aa]using t13);omega);refine gc (BD hn) ?_;refine gc (BD hd) ?_;refine gD ?_;exact B4 J1 (-n) (-d) ⟨by omega,by omega,hn.neg,hd.neg,Oa n d⟩
  have e1:0<d:=by
   have h9:0<=d.sign:=by simpa[aa]using t13
   have:=aqj.1 h9;omega
  exact B4 J1 n d ⟨e1,e0,hn,hd,rfl⟩
 rintro n1 d1 ⟨f1,f2,f3,f4,f5⟩;refine gc (aei f3 f4) ?_;refine gc (yn f3) ?_;refine Gc [2,3,4,5] [3,4,5] (fun(n2:Int)=>[pP 6 (bl (decide (n1<0)))]) (fun n2=>[pP 2 (.box (zA n2).cells)]) (fun n2=>n2=(n1.natAbs:Int)) ?_ ?_
 ·intro K2 J2;refine gC (fun t24=>?_) (fun t24=>?_)
  ·have e2 : n1<0 := aqr.1 (by have := aqp n1;have h9 : n1.sign<0 := (by simpa[aa]using t24);omega);refine gc (BD f3) ?_;exact vZ J2 (-n1) oz (hw:=Wk.of (.cons rfl (.of (by rw[show aa .lss n1.sign 0=true from t24,ati e2];rfl)) (.k (.k (.k (.k .nil))))) (.k (.k (.k (.k .nil)))))
  have e2:0<n1:=by
   have h9:0<=n1.sign:=by simpa[aa]using t24
   have:=aqj.1 h9;omega
  exact vZ J2 n1 oz (hw:=Wk.of (.cons rfl (.of (by rw[show aa .lss n1.sign 0=false from t24,atj oz];rfl)) (.k (.k (.k (.k .nil))))) (.k (.k (.k (.k .nil)))))
 rintro n2 g1;have g2:Zs (aqn n1 d1:Int):=f3.of_le (by rw[as1];exact Nat.le_of_dvd oz (Int.gcd_dvd_natAbs_left _ _));have g3:(aqn n1 d1:Int)≠0:=by have:=Int.gcd_pos_of_ne_zero_left d1 f2;omega
 have g4:Zs n2:=f3.of_le oz;refine gc (QJ g4 g2 g3) ?_;refine gc (QJ f4 g2 g3) ?_;refine ah ?_;rw[<- f5,<- ak2 f1 f2,<- g1];rfl
theorem Oy{n d:Int}(hn:Zs n)(hd:Zs d):FP 361 [zA n,zA d] (.tup [qA (aq3 n d),bQ (if d=0 then 8 else 0)]):=by
 refine am func361 ?_;refine gc (yn hd) ?_;refine gC (fun z=>?_) (fun z=>?_)
 ·have h0 : d=0 := aql.1 (by simpa[aa]using z);refine gR ?_;exact ft (by rw[ate h0,h0,Rat.divInt_zero];exact Sub.tup (.cons l6 (.cons (.refl _) .nil)))
 have h0:d≠0:=fun h=>by rw[h]at z;cases z
 refine gc (vR hn hd h0) ?_;refine bu ?_;rw[atd h0];rfl
theorem kW(n:Int)(h:-9223372036854775808<=n/\n<=9223372036854775807):FP 19 [i64 n] (qA n):=by
 have hz:Zs n:=⟨2,by omega,by unfold Lz;simp only[Nat.reducePow];omega⟩
 refine am func19 ?_;refine gc (DR n h) ?_;refine gc HI ?_;refine gc (vR hz BW oz) ?_;refine ah ?_;exact atl qA (aq1 (n:Rat))
theorem H8(a:Rt)(ha:a.ok):FP 279 [a.av] (qA (-a.q)):=by
 have za:=ha.qs;refine am func279 ?_;refine gc (nU a ha) ?_;refine gc (BD za.num) ?_;refine gc (vR za.num.neg za.den (by have:=a.q.den_nz;omega)) ?_;refine gD ?_;refine ah ?_;rw[Q7];rfl
theorem C4(a:Rt)(ha:a.ok):FP 24 [a.av] (i64 (a9 a.q)):=by
 refine am func24 ?_;refine gc (nU a ha) ?_;refine gc (yn ha.qs.num) ?_;refine ah ?_;rw[Nv]
theorem I0(a b:Rt)(ha:a.ok)(hb:b.ok):FP 352 [a.av,b.av] (i64 (a9 (a.q-b.q))):=by
 have za:=ha.qs;have zb:=hb.qs;have m1:=za.mul zb;have m2:=zb.mul za;refine am func352 ?_;refine gc (nU a ha) ?_;refine gc (nU b hb) ?_;refine gc (p7 za.num zb.den) ?_;refine gc (p7 zb.num za.den) ?_;refine gc (KG m1.1 m2.1) ?_;refine gD ?_;refine ah ?_;rw[Y9]
theorem wX(a b:Rt)(ha:a.ok)(hb:b.ok):FP 45 [a.av,b.av] (qA (a.q+b.q)):=by
 have za:=ha.qs;have zb:=hb.qs;have m1:=za.mul zb;have m2:=zb.mul za;refine am func45 ?_;refine gc (nU a ha) ?_;refine gc (nU b hb) ?_;refine gc (p7 za.num zb.den) ?_;refine gc (p7 zb.num za.den) ?_;refine gc (XX m1.1 m2.1) ?_;refine gc (p7 za.den zb.den) ?_;refine gc (vR (za.cross zb) m1.2.2.1 (aqm (by have:=a.q.den_nz;omega) (by have:=b.q.den_nz;omega))) ?_;refine gD ?_;refine ah ?_;rw[Jf];rfl
theorem ami(a b:Rt)(ha:a.ok)(hb:b.ok):FP 172 [a.av,b.av] (qA (a.q-b.q)):=by
 refine am func172 ?_;refine gc (H8 b hb) ?_;refine gc (wX a (rt (-b.q)) ha hb.qs.neg.ok) ?_;refine gD ?_;refine ah ?_;rw[bE,<- aq5];rfl
theorem LZ(a b:Rt)(ha:a.ok)(hb:b.ok):FP 71 [a.av,b.av] (qA (a.q*b.q)):=by
 have za:=ha.qs;have zb:=hb.qs;have m1:=za.mul zb;refine am func71 ?_;refine gc (nU a ha) ?_;refine gc (nU b hb) ?_;refine gc (p7 za.num zb.num) ?_;refine gc (p7 za.den zb.den) ?_;refine gc (vR m1.2.1 m1.2.2.1 (aqm (by have:=a.q.den_nz;omega) (by have:=b.q.den_nz;omega))) ?_;refine gD ?_;refine ah ?_;rw[Hy];rfl
theorem OK(a b:Rt)(ha:a.ok)(hb:b.ok):FP 389 [a.av,b.av] (.tup [qA (a.q/b.q),bQ (if b.q=0 then 8 else 0)]):=by
 have za:=ha.qs;have zb:=hb.qs;have m1:=za.mul zb;refine am func389 ?_;refine gc (nU a ha) ?_;refine gc (nU b hb) ?_;refine gc (p7 za.num zb.den) ?_;refine gc (p7 za.den zb.num) ?_;refine gc (Oy m1.1 m1.2.2.2) ?_;refine gD ?_;refine bu ?_
 have e1:((a.q.den:Int)*b.q.num=0)=(b.q=0):=by
  apply propext;rw[<- aq6,Int.mul_eq_zero];exact⟨fun h=>h.resolve_left (by have:=a.q.den_nz;omega),.inr⟩
 simp only[G9,e1];rfl
structure Pq where
  c:List Rat
  s:List Rat
  x:List Rat
  y:List Rat
def Pq.av(p:Pq):AV:=.agg [nA p.c,nA p.s,nA p.x,nA p.y]
structure Pq.ok(n e:Nat)(p:Pq):Prop where
  c:Nm n e p.c
  s:Nm n e p.s
  x:Nm n e p.x
  y:Nm n e p.y
def afc(p:Pse):Pq:=⟨sh 0 (ce p.turn.half p.turn.t.q:Rat),sh 0 (b8 p.turn.half p.turn.t.q:Rat),sh 0 (p.at_.x.q:Rat),sh 0 (p.at_.y.q:Rat)⟩
def Np(ps:List Pse):Nat:=if ps.all Pse.ok=true then 0 else 2
theorem Ck{half:Bool}{t:Rat}{e:Nat}(h:Qb e t):Qb (4*e+6) (ce half t):=by
 unfold ce;split
 ·exact Qb.one.neg.mono oz
 ·exact((Qb.one.sub (h.mul h)).div (Qb.one.add (h.mul h))).mono oz
theorem Bn{half:Bool}{t:Rat}{e:Nat}(h:Qb e t):Qb (4*e+6) (b8 half t):=by
 unfold b8;split
 ·exact Qb.zero.mono oz
 ·exact((h.add h).div (Qb.one.add (h.mul h))).mono oz
def YJ(ts:LL)(b:Pl)(w:Pq):Bool :=
  Bs ts (ai ts.length (lq b.c)) (ai ts.length w.c)&&Bs ts (ai ts.length (lq b.s)) (ai ts.length w.s)&&Bs ts (ai ts.length (lq b.x)) (ai ts.length w.x)&&Bs ts (ai ts.length (lq b.y)) (ai ts.length w.y)
def mE(a:As)(ps:List Pse):Nat :=
  if bp a.rs≠0 then bp a.rs else if Np ps≠0 then Np ps else if a.bs.length≠ps.length then 10 else iH (a.bs.map (fun b=>cr a.rs b.l))
def mB(a:As)(ps:List Pse):Bool:=decide (mE a ps=0)&&(a.bs.zip ps).all (fun z=>YJ (llq a.rs) z.1 (afc z.2))
theorem Wu{rs:List (List Rt)}{b:Pl}{E:Nat}(h:cr rs b.l=0)(hb:∀x∈b.l,NR x E)(h5:rs.length<=5) :
  b.av=Pq.av ⟨lq b.c,lq b.s,lq b.x,lq b.y⟩/\Pq.ok rs.length E ⟨lq b.c,lq b.s,lq b.x,lq b.y⟩:=by
 have h1:=(wn h).2
 have g:∀x∈b.l,nR x=nA (lq x)/\Nm rs.length E (lq x):=fun x hx=>by
  obtain⟨e1,e2⟩:=(hb x hx).num (h1 x hx);exact⟨e1,h5,e2,(hb x hx).cb⟩
 have c:=g b.c (by simp[Pl.l]);have s:=g b.s (by simp[Pl.l]);have x:=g b.x (by simp[Pl.l]);have y:=g b.y (by simp[Pl.l]);exact⟨by unfold Pl.av Pq.av;rw[c.1,s.1,x.1,y.1],c.2,s.2,x.2,y.2⟩
instance:Inhabited Tn:=⟨⟨⟨false,[],[]⟩,false⟩⟩
def ff(n:Nat)(ok:Nat->Bool):Option Nat:=(List.range n).find? (fun i=>!ok i)
theorem lL{n i:Nat}{ok:Nat->Bool}(hi:i<n)(h:∀j,j<i->ok j=true)(he:ok i=false):ff n ok=some i:=by
 unfold ff;rw[apm];exact⟨by rw[he];rfl,by simpa using hi,fun j hj=>by rw[h j hj];rfl⟩
theorem mz{n:Nat}{ok:Nat->Bool}(h:∀j,j<n->ok j=true):ff n ok=none:=by
 unfold ff;rw[apj];exact fun j hj=>by rw[h j hj];rfl
theorem agc{n:Nat}{ok:Nat->Bool}(h:ff n ok=none):∀j,j<n->ok j=true:=by
 unfold ff at h;rw[apj]at h;intro j hj;have:=h j hj;simpa using this
def wV:Option Nat->Int
  |none=>-1
  |some i=>i
abbrev jC(ts:LL)(x:List Rt):T ts.length:=ai ts.length (lq x)
def oX(ts:LL)(b:Pl)(m:Mk):T ts.length×T ts.length:=(Dw ts (jC ts b.c) (jC ts b.s) (jC ts b.x) m.x.q m.y.q,AW ts (jC ts b.c) (jC ts b.s) (jC ts b.y) m.x.q m.y.q)
def uq(l:Li)(a:As)(body pt:Int):T (llq a.rs).length×T (llq a.rs).length:=oX (llq a.rs) (a.bs.getD body.toNat default) ((bT l body).getD pt.toNat default)
theorem f8{l:Li}(h:ax l=0):jx l=0/\fE l=0/\iW l=0/\l.bo.length<=8/\l.bo.length≠0:=by
 unfold ax at h;split at h
 ·cases h
 ·split at h
  ·cases h
  ·split at h
   ·cases h
   ·split at h
    ·rename_i h1;exact atk h h1
    ·rename_i g1 _ h1;split at h
     ·rename_i h2;exact atk h h2
     ·rename_i h2;exact⟨ar0.1 h1,ar0.1 h2,h,by omega,by omega⟩
theorem Lj{l:Li}(h:ax l=0){i:Nat}{j:Jt}(hj:l.jo[i]?=some j):fF l j=0:=by
 have h1:=(f8 h).2.1;unfold fE at h1;split at h1
 ·cases h1
 ·have h2:=zt h1 i (ap9.1 hj).1;unfold iK at h2;rw[aS hj]at h2;split at h2
  ·cases h2
  ·split at h2
   ·cases h2
   ·exact h2
theorem cJ{l:Li}(h:ax l=0){i:Nat}{j:Jt}(hj:l.jo[i]?=some j) :
  aZ j.a l.bo.length=true/\aZ j.b l.bo.length=true/\aZ j.point (bT l j.a).length=true/\aZ j.on (bT l j.b).length=true/\(j.kind≠0->aZ j.to (bT l j.b).length=true):=by
 have h1:=Lj h hj;unfold fF at h1;split at h1
 ·cases h1
 ·split at h1
  ·cases h1
  ·rename_i h2;split at h1
   ·cases h1
   ·split at h1
    ·cases h1
    ·rename_i h3;have a1:aZ j.a l.bo.length = true:=by cases h:aZ j.a l.bo.length <;> simp_all
     have a2:aZ j.b l.bo.length=true:=by cases h:aZ j.b l.bo.length <;> simp_all
     have a3:aZ j.point (bT l j.a).length=true:=by cases h:aZ j.point (bT l j.a).length <;> simp_all
     have a4:aZ j.on (bT l j.b).length=true:=by cases h:aZ j.on (bT l j.b).length <;> simp_all
     refine⟨a1,a2,a3,a4,fun hk=>?_⟩;rw[atd hk]at h1;split at h1
     ·cases h1
     ·rename_i h4;cases h:aZ j.to (bT l j.b).length <;> simp_all
theorem uk{l:Li}(h:ax l=0){i:Nat}{d:Dr}(hd:l.drivers[i]?=some d):aZ d.body l.bo.length=true:=by
 have h1:=(f8 h).2.2.1;unfold iW at h1;split at h1
 ·cases h1
 ·have h2:=zt h1 i (ap9.1 hd).1;unfold eL at h2;rw[aS hd]at h2;split at h2
  ·cases h2
  ·split at h2
   ·cases h2
   ·split at h2
    ·cases h2
    ·rename_i h3;cases h:aZ d.body l.bo.length <;> simp_all
theorem ahk{l:Li}(h:ax l=0){n k:Nat}{b:Bd}{m:Mk}(hb:l.bo[n]?=some b)(hm:b.pts[k]?=some m):m.x.valid=true/\m.y.valid=true:=by
 have h2:=zt (f8 h).1 n (ap9.1 hb).1;unfold fv at h2;rw[aS hb]at h2;split at h2
 ·cases h2
 ·split at h2
  ·cases h2
  ·split at h2
   ·cases h2
   ·have h3:=zt h2 k (ap9.1 hm).1;unfold fi at h3;rw[aS hm]at h3;split at h3
    ·cases h3
    ·split at h3
     ·cases h3
     ·split at h3
      ·assumption
      ·cases h3
theorem IG{ts:LL}{r e f:Nat}(tw:Tw ts r){b:Pl}{m:Mk}(hb:Pq.ok ts.length e ⟨lq b.c,lq b.s,lq b.x,lq b.y⟩)(hx:Qb f m.x.q)(hy:Qb f m.y.q) :
  Nm ts.length (3*e+2*f+2*kB r ts.length+10) (sh ts.length (oX ts b m).1)/\Nm ts.length (3*e+2*f+2*kB r ts.length+10) (sh ts.length (oX ts b m).2):=by
 have nx:=Nm.ofQ tw.five (Cb.one hx);have ny:=Nm.ofQ tw.five (Cb.one hy);have h1:=(FA tw hb.c hb.s nx ny).add hb.x;rw[Tp]at h1;have h2:=(IS tw hb.c hb.s nx ny).add hb.y;rw[Ng]at h2;exact⟨h1.mono oz,h2.mono oz⟩
structure Gr where
  kind:Int
  bo:List Int
  jo:List Int
  driver:Int
instance:Inhabited Gr:=⟨⟨0,[],[],0⟩⟩
def Gr.av(g:Gr):AV:=.agg [i64 g.kind,.lst 1 (g.bo.map i64),.lst 1 (g.jo.map i64),i64 g.driver]
def kn(k:List Bool)(i:Int):Bool:=k.getD i.toNat false
def dA(n:Nat)(b:Int):List Bool:=(apf n false).set b.toNat true
def wE(l:Li)(b:Int):Bool:=l.drivers.any (fun d=>decide (d.body=b))
def gg(l:Li)(kw:List Bool)(b:Int):Bool:=!kn kw b&&!wE l b
def oM(kind body:Int)(oth:List Bool)(j:Jt):Bool:=decide (j.kind=kind)&&(decide (j.a=body)&&kn oth j.b||decide (j.b=body)&&kn oth j.a)
def cc(l:Li)(kind body:Int)(oth:List Bool):Int:=wV (ff l.jo.length (fun i=>!oM kind body oth (l.jo.getD i default)))
def iD(l:Li)(kw:List Bool)(i:Nat):Bool:=!kn kw (l.drivers.getD i default).body&&decide (0<=cc l 0 (l.drivers.getD i default).body kw)
def eF(l:Li)(kw:List Bool):Option Gr :=
  (ff l.drivers.length (fun i=>!iD l kw i)).map fun i=>⟨0,[(l.drivers.getD i default).body],[cc l 0 (l.drivers.getD i default).body kw],i⟩
def d9(l:Li)(kw:List Bool)(i k:Nat):Bool :=
  (gg l kw i&&gg l kw k)&&(decide (0<=cc l 0 i kw)&&decide (0<=cc l 0 k kw)&&decide (0<=cc l 0 i (dA l.bo.length k)))
def jw(l:Li)(kw:List Bool)(i:Nat):Option Nat:=(ff (l.bo.length-(i+1)) (fun k=>!d9 l kw i (i+1+k))).map (·+(i+1))
def jz(l:Li)(kw:List Bool)(i k:Nat):Gr:=⟨1,[i,k],[cc l 0 i kw,cc l 0 k kw,cc l 0 i (dA l.bo.length k)],0⟩
def dK(l:Li)(kw:List Bool):Option Gr :=
  (ff l.bo.length (fun i=>(jw l kw i).isNone)).map fun i=>match jw l kw i with
    |some k=>jz l kw i k
    |none=>default
def ip(l:Li)(kw:List Bool)(i:Nat):Bool:=gg l kw i&&(decide (0<=cc l 0 i kw)&&decide (0<=cc l 1 i kw))
def jR(l:Li)(kw:List Bool)(i:Nat):Gr :=
  ⟨if(l.jo.getD (cc l 1 i kw).toNat default).a=i then 2 else 3,[i],[cc l 0 i kw,cc l 1 i kw],0⟩
def fw(l:Li)(kw:List Bool):Option Gr:=(ff l.bo.length (fun i=>!ip l kw i)).map (jR l kw)
def cM(l:Li)(kw:List Bool):Option Gr:=(eF l kw).or ((dK l kw).or (fw l kw))
def bw(kw:List Bool)(bs:List Int):List Bool:=bs.foldl (fun k b=>k.set b.toNat true) kw
def dj(l:Li):Nat->List Bool->List Gr->List Bool×List Gr
  |0,kw,out=>(kw,out)
  |n+1,kw,out=>match cM l kw with
    |none=>(kw,out)
    |some g=>dj l n (bw kw g.bo) (out++[g])
def cP(l:Li):List Gr:=(dj l l.bo.length (dA l.bo.length 0) []).2
def cH(l:Li):List Bool:=(cP l).foldl (fun k g=>bw k g.bo) (dA l.bo.length 0)
def gq(l:Li):List Bool:=(cP l).foldl (fun k g=>bw k g.jo) (apf l.jo.length false)
def f6(k:List Bool):List Int:=((List.range k.length).filter (fun i=>!k.getD i false)).map (fun i:Nat=>((i:Nat):Int))
def bS(l:Li):Nat:=if(f6 (cH l)).length+(f6 (gq l)).length=0 then 0 else 7
def ay(l:Li):List Gr:=if bS l=0 then cP l else[]
theorem Kw{kind body:Int}{oth:List Bool}{j:Jt}{va vb:Bool}(ea:kn oth j.a=va)(eb:kn oth j.b=vb) :
  cond (aa .eql j.kind kind) (cond (cond (aa .eql j.a body) vb false) true (cond (aa .eql j.b body) va false)) false=oM kind body oth j:=by
 unfold oM;rw[wQ,wQ,wQ,ea,eb,oP,oP,oP,Fp]
theorem kp(n:Nat)(b:Int):(dA n b).length=n:=by unfold dA;simp
theorem nC:∀(bs:List Int)(k:List Bool),(bw k bs).length=k.length
 |[],k=>rfl
 |b::bs,k=>by
  show(bw (k.set b.toNat true) bs).length=_;rw[nC bs];simp
theorem gL{n i:Nat}{ok:Nat->Bool}(h:ff n ok=some i):i<n/\ok i=false:=by
 unfold ff at h;rw[apm]at h;exact⟨by simpa using h.2.1,by simpa using h.1⟩
theorem rX{l:Li}{kind body:Int}{oth:List Bool}:-1<=cc l kind body oth/\cc l kind body oth<l.jo.length:=by
 unfold cc;cases h:ff l.jo.length (fun i=>!oM kind body oth (l.jo.getD i default))with
 |none=>exact⟨by decide,by show(-1:Int)<_;omega⟩
 |some i=>have:=(gL h).1;exact⟨by show(-1:Int)<=(i:Int);omega,by show(i:Int)<_;omega⟩
structure GrOk(l:Li)(g:Gr):Prop where
  b:∀x∈g.bo,0<=x/\x<l.bo.length
  j:∀x∈g.jo,0<=x/\x<l.jo.length
  lb:g.bo.length<=2
  lj:g.jo.length<=3
theorem WM{l:Li}(hl:ax l=0){kw:List Bool}{g:Gr}(h:eF l kw=some g):GrOk l g:=by
 unfold eF at h;rw[ar6]at h;obtain⟨i,hi,rfl⟩:=h;obtain⟨h1,h2⟩:=gL hi;obtain⟨d,hd⟩:=aJ h1;have h3:=fd (uk hl hd);unfold iD at h2;simp only[arb,ar5,atf]at h2;rw[aS hd]at h2 ⊢;have h4:=rX (l:=l) (kind:=0) (body:=d.body) (oth:=kw);refine⟨fun x hx=>?_,fun x hx=>?_,by simp,by simp⟩
 ·rw[aqf.1 hx];exact h3
 ·rw[aqf.1 hx];exact⟨h2.2,h4.2⟩
theorem ago{l:Li}{kw:List Bool}{g:Gr}(h:dK l kw=some g):GrOk l g:=by
 unfold dK at h;rw[ar6]at h;obtain⟨i,hi,h⟩:=h;obtain⟨h1,h2⟩:=gL hi;split at h
 ·rename_i k hk;subst h;unfold jw at hk;rw [ar6] at hk;obtain ⟨k',hk',rfl⟩:=hk;obtain ⟨h3,h4⟩:=gL hk';rw [show i + 1 + k' = k' + (i + 1) by omega] at h4;unfold d9 at h4;simp only [arb,ar5,atf] at h4;obtain ⟨_,⟨j1,j2⟩,j3⟩:=h4;refine ⟨fun x hx=>?_,fun x hx=>?_,by simp [jz],by simp [jz]⟩
  ·simp only[jz,asj,asf,or_false]at hx;rcases hx with rfl |rfl <;> constructor <;> omega
  ·simp only[jz,asj,asf,or_false]at hx;rcases hx with rfl |rfl |rfl
   ·exact⟨j1,rX.2⟩
   ·exact⟨j2,rX.2⟩
   ·exact⟨j3,rX.2⟩
 ·rename_i hk;rw[hk]at h2;cases h2
theorem aiw{l:Li}{kw:List Bool}{g:Gr}(h:fw l kw=some g):GrOk l g:=by
 unfold fw at h;rw[ar6]at h;obtain⟨i,hi,rfl⟩:=h;obtain⟨h1,h2⟩:=gL hi;unfold ip at h2;simp only[arb,ar5,atf]at h2;obtain⟨_,j1,j2⟩:=h2;refine⟨fun x hx=>?_,fun x hx=>?_,by simp[jR],by simp[jR]⟩
 ·simp only[jR,asj,asf,or_false]at hx;subst hx;constructor <;> omega
 ·simp only[jR,asj,asf,or_false]at hx;rcases hx with rfl |rfl
  ·exact⟨j1,rX.2⟩
  ·exact⟨j2,rX.2⟩
theorem Iw{l:Li}(hl:ax l=0){kw:List Bool}{g:Gr}(h:cM l kw=some g):GrOk l g:=by
 unfold cM at h;cases h1:eF l kw with
 |some g'=>rw[h1]at h;cases h;exact WM hl h1
 |none =>
  rw[h1]at h;cases h2:dK l kw with
  |some g'=>rw[h2]at h;cases h;exact ago h2
  |none=>rw[h2]at h;exact aiw h
theorem Ob{l:Li}(hl:ax l=0):∀(n:Nat)(kw:List Bool)(out:List Gr),(∀g∈out,GrOk l g)->(∀g∈(dj l n kw out).2,GrOk l g)/\(dj l n kw out).2.length<=out.length+n
 |0,kw,out,h=>⟨h,by simp[dj]⟩
 |n+1,kw,out,h=>by
  unfold dj;cases hg:cM l kw with
  |none=>exact⟨h,by simp⟩
  |some g =>
   have h1:=Ob hl n (bw kw g.bo) (out++[g]) (fun x hx=>by
    rcases ar9.1 hx with hx |hx
    ·exact h x hx
    ·rw[aqf.1 hx];exact Iw hl hg)
   refine⟨h1.1,?_⟩;have:=h1.2;rw[asx]at this;show(dj l n (bw kw g.bo) (out++[g])).2.length<=_;simp only[asi,asu]at this;omega
theorem y9{l:Li}(hl:ax l=0):(∀g∈cP l,GrOk l g)/\(cP l).length<=8:=by
 have h:=Ob hl l.bo.length (dA l.bo.length 0) [] (fun g hg=>by cases hg);have h8:=(f8 hl).2.2.2.1;exact⟨h.1,by have:=h.2;simp only[asu]at this;unfold cP;omega⟩
def mG(j:Jt)(b:Int):Int:=if b=j.a then j.b else if b=j.b then j.a else -1
def Eh(kind body:Int)(p:Int->Bool)(j:Jt):Bool:=decide (j.kind=kind)&&(decide (0<=mG j body)&&p (mG j body))
def gJ(l:Li)(kind body:Int)(p:Int->Bool):Int:=wV (ff l.jo.length (fun i=>!Eh kind body p (l.jo.getD i default)))
theorem Yh{b:Bool}{z:Int}(h:cond b (aa .geq z 0) false=true):0<=z:=by
 cases b
 ·cases h
 ·exact atg h
theorem af7{a k z:Int}{q:Bool}:cond (cond (aa .eql a k) (aa .geq z 0) false) q false=(decide (a=k)&&(decide (0<=z)&&q)):=by
 rw[wQ,show aa .geq z 0=decide (0<=z)from rfl,oP,oP,Bool.and_assoc]
theorem WE{l:Li}(ae:ax l=0){i:Nat}{j:Jt}(hj:l.jo[i]?=some j)(b:Int):mG j b<l.bo.length:=by
 obtain⟨i1,i2,_⟩:=cJ ae hj;have b1:=fd i1;have b2:=fd i2;unfold mG;split
 ·omega
 ·split <;> omega
theorem ag4{n:Nat}{ok ok':Nat->Bool}(h:∀i,i<n->ok i=ok' i):ff n ok=ff n ok':=by
 unfold ff
 have:∀l:List Nat,(∀i∈l,i<n)->l.find? (fun i=>!ok i)=l.find? (fun i=>!ok' i):=by
  intro l
  induction l with
  |nil=>intro _;rfl
  |cons a l ih =>
   intro hl;simp only[List.find?_cons,h a (hl a (by simp)),ih (fun i hi=>hl i (by simp[hi]))]
 exact this _ (fun i hi=>apt.1 hi)
theorem GW{l:Li}(ae:ax l=0){kind body:Int}{p:Int->Bool}{oth:List Bool}(h:∀o:Int,0<=o->o<l.bo.length->p o=kn oth o):gJ l kind body p=cc l kind body oth:=by
 unfold gJ cc;rw[ag4];intro i hi;obtain⟨j,hj⟩:=aJ hi;rw[aS hj];obtain⟨i1,i2,_⟩:=cJ ae hj;have b1:=fd i1;have b2:=fd i2;congr 1;unfold Eh oM;congr 1;unfold mG
 by_cases h1:body=j.a
 ·subst h1;rw[ate rfl,h _ b2.1 b2.2]
  by_cases h2:j.b=j.a
  ·simp[h2,b1.1]
  ·simp[h2,b2.1]
 ·rw[atd h1]
  by_cases h2:body=j.b
  ·subst h2;rw[ate rfl,h _ b1.1 b1.2];have h3:¬j.a=j.b:=fun e=>h1 e.symm
   simp[h3,b1.1]
  ·rw[atd h2];have h3:¬j.a=body:=fun e=>h1 e.symm
   have h4:¬j.b=body:=fun e=>h2 e.symm
   simp[h3,h4]
theorem RA{k:List Bool}{i:Nat}{b:Int}(h0:0<=b)(hi:i<k.length):kn (k.set i true) b=(decide (b=i)||kn k b):=by
 unfold kn;rw[ar2,List.getElem?_set,ar2]
 by_cases h:b=i
 ·rw[ati h,Bool.true_or,ate oz];rw[ate oz];rfl
 ·rw[atj h,Bool.false_or,atd oz]
theorem IT:∀{bs:List Int}{k:List Bool}{b:Int},0<=b->(∀x∈bs,0<=x/\x<k.length)->kn (bw k bs) b=(bs.any (fun x=>decide (x=b))||kn k b)
 |[],k,b,h0,h=>by simp[bw]
 |x::bs,k,b,h0,h=>by
  show kn (bw (k.set x.toNat true) bs) b=_;obtain⟨nc,uv⟩:=h x (by simp);rw[IT h0 (fun y hy=>by rw[as9];exact h y (by simp[hy])),RA h0 oz,List.any_cons];have e:decide (b=(x.toNat:Int))=decide (x=b):=decide_eq_decide.2 oz;rw[e];cases decide (x=b) <;> simp
theorem Mj(n:Nat)(b:Int):kn (apf n false) b=false:=by
 unfold kn;rw[ar2,ast];split <;> rfl
def ci(l:Li):List Bool:=bw (apf l.bo.length false) (l.drivers.map Dr.body)
theorem yH(l:Li):(ci l).length=l.bo.length:=by unfold ci;rw[nC,asr]
theorem Vo{l:Li}(ae:ax l=0){b:Int}(h0:0<=b):kn (ci l) b=wE l b:=by
 unfold ci wE;rw[IT h0,Mj,Bool.or_false,List.any_map]
 ·rfl
 ·intro x hx;obtain⟨d,hd,rfl⟩:=aqd.1 hx;obtain⟨i,hi⟩:=List.mem_iff_getElem?.1 hd;have:=fd (uk ae hi);rw[asr];omega
theorem vI{n:Nat}{b o:Int}(h0:0<=o)(iP:0<=b)(hb:b<n):kn (dA n b) o=decide (o=b):=by
 unfold dA;rw[RA h0 (by rw[asr];omega),Mj,Bool.or_false];exact decide_eq_decide.2 oz
def eM(k:List Bool):Nat:=k.countP (fun x=>!x)
theorem abo{k:List Bool}{i:Nat}(h:k[i]?=some false):eM (k.set i true)+1=eM k:=by
 unfold eM;have hi:=(ap9.1 h).1;have he:=(ap9.1 h).2;rw[List.countP_set hi,he];have:0<k.countP (fun x=>!x):=List.countP_pos_iff.2 ⟨false,ar1 h,rfl⟩;simp;omega
theorem VR(k:List Bool)(i:Nat):eM (k.set i true)<=eM k:=by
 by_cases hi:i<k.length
 ·unfold eM;rw[List.countP_set hi];simp
 ·rw[List.set_eq_of_length_le oz];exact ar8 _
theorem KV:∀(bs:List Int)(k:List Bool),eM (bw k bs)<=eM k
 |[],k=>ar8 _
 |x::bs,k=>asv (KV bs (k.set x.toNat true)) (VR k _)
theorem VK{x:Int}{bs:List Int}{k:List Bool}(h:k[x.toNat]?=some false):eM (bw k (x::bs))<eM k:=by
 have h1:=KV bs (k.set x.toNat true);have h2:=abo h;show eM (bw (k.set x.toNat true) bs)<_;omega
theorem Hh{k:List Bool}{b:Int}(h:kn k b=false)(h1:b.toNat<k.length):k[b.toNat]?=some false:=by
 unfold kn at h;rw[ar2,ar7 h1]at h;rw[ar7 h1];simpa using h
theorem alk{l:Li}(hl:ax l=0){kw:List Bool}(hk:kw.length=l.bo.length){g:Gr}(h:cM l kw=some g):∃x bs,g.bo=x::bs/\kw[x.toNat]?=some false:=by
 unfold cM at h;cases h1:eF l kw with
 |some g' =>
  rw[h1]at h;cases h
  unfold eF at h1;rw[ar6]at h1;obtain⟨i,hi,rfl⟩:=h1;obtain⟨h2,h3⟩:=gL hi;obtain⟨d,hd⟩:=aJ h2;have h4:=fd (uk hl hd);rw[aS hd]at *;unfold iD at h3;rw[aS hd]at h3;simp only[arb,ar5,arf,atf]at h3;exact⟨_,_,rfl,Hh h3.1 oz⟩
 |none =>
  rw[h1]at h;cases h2:dK l kw with
  |some g' =>
   rw[h2]at h;cases h
   unfold dK at h2;rw[ar6]at h2;obtain⟨i,hi,h2⟩:=h2;obtain⟨h3,h4⟩:=gL hi;split at h2
   ·rename_i k hk';subst h2;unfold jw at hk';rw[ar6]at hk';obtain⟨k',hk',rfl⟩:=hk';obtain⟨h5,h6⟩:=gL hk';unfold d9 gg at h6;simp only[arb,ar5,arf,atf]at h6;exact⟨_,_,rfl,Hh h6.1.1.1 oz⟩
   ·rename_i hk';rw[hk']at h4;cases h4
  |none =>
   rw[h2]at h;have h:fw l kw=some g:=h;unfold fw at h;rw[ar6]at h;obtain⟨i,hi,rfl⟩:=h;obtain⟨h3,h4⟩:=gL hi;unfold ip gg at h4;simp only[arb,ar5,arf,atf]at h4;exact⟨_,_,rfl,Hh h4.1.1 oz⟩
theorem zC{l:Li}(hl:ax l=0){kw:List Bool}(hk:kw.length=l.bo.length){g:Gr}(h:cM l kw=some g):eM (bw kw g.bo)<eM kw:=by
 obtain⟨x,bs,e,h1⟩:=alk hl hk h;rw[e];exact VK h1
theorem FM{l:Li}(hl:ax l=0):∀(n m:Nat)(kw:List Bool)(out:List Gr),kw.length=l.bo.length->eM kw<=n->eM kw<=m->dj l n kw out=dj l m kw out
 |0,0,kw,out,hk,h1,h2=>rfl
 |0,m+1,kw,out,hk,h1,h2=>by
  unfold dj;cases hg:cM l kw with
  |none=>rfl
  |some g=>have:=zC hl hk hg;omega
 |n+1,0,kw,out,hk,h1,h2=>by
  unfold dj;cases hg:cM l kw with
  |none=>rfl
  |some g=>have:=zC hl hk hg;omega
 |n+1,m+1,kw,out,hk,h1,h2=>by
  unfold dj;cases hg:cM l kw with
  |none=>rfl
  |some g =>
   have:=zC hl hk hg;exact FM hl n m _ _ (by rw[nC];exact hk) oz oz
theorem Gq{l:Li}:∀(n:Nat)(kw:List Bool)(out:List Gr),∃gs,dj l n kw out=(gs.foldl (fun k g=>bw k g.bo) kw,out++gs)
 |0,kw,out=>⟨[],by simp[dj]⟩
 |n+1,kw,out=>by
  unfold dj;cases hg:cM l kw with
  |none=>exact⟨[],by simp⟩
  |some g =>
   obtain⟨gs,e⟩:=Gq n (bw kw g.bo) (out++[g]);exact⟨g::gs,by show dj l n _ _=_;rw[e];simp⟩
theorem aes(l:Li):dj l l.bo.length (dA l.bo.length 0) []=(cH l,cP l):=by
 obtain⟨gs,e⟩:=Gq (l:=l) l.bo.length (dA l.bo.length 0) [];unfold cH cP;rw[e];simp
theorem RO{k:List Bool}:(f6 k).length=0↔k.contains false=false:=by
 unfold f6;rw[ar3,apv,List.filter_eq_nil_iff];constructor
 ·intro h;rw[<- Bool.not_eq_true,api];intro hm;obtain⟨i,hi⟩:=List.mem_iff_getElem?.1 hm;have hlt:=(ap9.1 hi).1;have:=h i (apt.2 hlt);rw[ar2,hi]at this;simp at this
 ·intro h i hi;rw[<- Bool.not_eq_true,api]at h;intro hc;have hlt:=apt.1 hi;rw[ar2,ar7 hlt]at hc;simp at hc;exact h (hc▸aqh hlt)
theorem w7:Sub (.agg [.v (.int .i64 0),.v (.slice none 0 0),.v (.slice none 0 0),.v (.int .i64 0)]) (Gr.av default):=.agg (.cons (.refl _) (.cons (.nil _ _ _) (.cons (.nil _ _ _) (.cons (.refl _) .nil)))) rfl
theorem OM{z:Int}(h:aa .geq z 0=true):0<=z:=atg h
theorem Sl{z:Int}(h:aa .geq z 0=false):¬0<=z:=ath h
theorem AM{a b c:Int}:cond (cond (aa .geq a 0) (aa .geq b 0) false) (aa .geq c 0) false=(decide (0<=a)&&decide (0<=b)&&decide (0<=c)):=by
 have e:∀z:Int,aa .geq z 0=decide (0<=z):=fun z=>rfl
 rw[e,e,e,oP,oP]
theorem M5{a b:Int}:cond (aa .lss a 0) true (aa .lss b 0)=!(decide (0<=a)&&decide (0<=b)):=by
 have e:∀z:Int,aa .lss z 0=!decide (0<=z):=fun z=>by rw[<- decide_not];exact decide_eq_decide.2 oz
 rw[e,e,Fp,Bool.not_and]
theorem Qe{a b:Int}(h:cond (aa .lss a 0) true (aa .lss b 0)=true):(decide (0<=a)&&decide (0<=b))=false:=by rw[M5]at h;exact el h
theorem Oc{a b:Int}(h:cond (aa .lss a 0) true (aa .lss b 0)=false):0<=a/\0<=b:=by
 rw[M5]at h;have:=fP h;simpa using this
structure TieO(l:Li)(kind:Int)(bs:List Int)(z b:Int)(j:Jt):Prop where
  hz:0<=z
  hj:l.jo[z.toNat]?=some j
  kd:j.kind=kind
  tie:(j.a=b/\j.b∉bs)\/(j.b=b/\j.a∉bs)
inductive DyK(l:Li):Gr->Prop where
  |drv {b z d:Int} {j:Jt} {x:Dr} (t:TieO l 0 [b] z b j) (d0:0<=d) (hd:l.drivers[d.toNat]?=some x) (hb:x.body=b):DyK l ⟨0,[b],[z],d⟩
  |rrr {i k z0 z1 z2:Int} {j0 j1 j2:Jt} (ne:i≠k) (t0:TieO l 0 [i,k] z0 i j0) (t1:TieO l 0 [i,k] z1 k j1) (h0:0<=z2) (h2:l.jo[z2.toNat]?=some j2) (kd:j2.kind=0)
      (tie:(j2.a=i/\j2.b=k)\/(j2.b=i/\j2.a=k)):DyK l ⟨1,[i,k],[z0,z1,z2],0⟩
  |pr {i z0 z1:Int} {j0 j1:Jt} (t0:TieO l 0 [i] z0 i j0) (t1:TieO l 1 [i] z1 i j1) (ha:j1.a=i):DyK l ⟨2,[i],[z0,z1],0⟩
  |rp {i z0 z1:Int} {j0 j1:Jt} (t0:TieO l 0 [i] z0 i j0) (t1:TieO l 1 [i] z1 i j1) (ha:j1.a≠i):DyK l ⟨3,[i],[z0,z1],0⟩
theorem DP{l:Li}{kind b:Int}{oth:List Bool}(h:0<=cc l kind b oth) :
  ∃(i:Nat)(j:Jt),cc l kind b oth=(i:Int)/\l.jo[i]?=some j/\j.kind=kind/\((j.a=b/\kn oth j.b=true)\/(j.b=b/\kn oth j.a=true)):=by
 unfold cc at h ⊢;cases hf:ff l.jo.length (fun i=>!oM kind b oth (l.jo.getD i default))with
 |none=>rw[hf]at h;exact atk h (by decide)
 |some i =>
  obtain⟨h1,h2⟩:=gL hf;obtain⟨j,hj⟩:=aJ h1;rw[aS hj]at h2;unfold oM at h2;simp only[arb,ar5,ata,atf]at h2;exact⟨i,j,rfl,hj,h2.1,h2.2⟩
theorem xZ{l:Li}{kind b:Int}{kw:List Bool}{bs:List Int}(hb:∀x∈bs,kn kw x=false)(h:0<=cc l kind b kw):∃j,TieO l kind bs (cc l kind b kw) b j:=by
 obtain⟨i,j,e,hj,hk,ht⟩:=DP h;have hn:∀x,kn kw x=true->x∉bs:=fun x hx hm=>by rw[hb x hm]at hx;cases hx
 refine⟨j,h,by rw[e,as4];exact hj,hk,?_⟩;rcases ht with⟨h1,h2⟩ |⟨h1,h2⟩
 ·exact .inl ⟨h1,hn _ h2⟩
 ·exact .inr ⟨h1,hn _ h2⟩
theorem vF{l:Li}{kw:List Bool}{b:Int}(h:gg l kw b=true):kn kw b=false:=by
 unfold gg at h;simp only[ar5,arf]at h;exact h.1
theorem DL{kw:List Bool}{b:Int}(h:kn kw b=false):∀x∈[b],kn kw x=false:=fun x hx=>by rw[aqf.1 hx];exact h
theorem ajj{l:Li}(hl:ax l=0){kw:List Bool}{g:Gr}(h:eF l kw=some g):DyK l g:=by
 unfold eF at h;rw[ar6]at h;obtain⟨i,hi,rfl⟩:=h;obtain⟨h1,h2⟩:=gL hi;obtain⟨d,hd⟩:=aJ h1;unfold iD at h2;simp only[arb,ar5,atf,arf]at h2;rw[aS hd]at h2 ⊢;obtain⟨j,hj⟩:=xZ (DL h2.1) h2.2;exact .drv hj oz (by rw[as4];exact hd) rfl
theorem acl{l:Li}(hl:ax l=0){kw:List Bool}{g:Gr}(h:dK l kw=some g):DyK l g:=by
 unfold dK at h;rw[ar6]at h;obtain⟨i,hi,h⟩:=h;obtain⟨h1,h2⟩:=gL hi;split at h
 ·rename_i k hk;subst h;unfold jw at hk;rw [ar6] at hk;obtain ⟨k',hk',rfl⟩:=hk;obtain ⟨h3,h4⟩:=gL hk';rw [show i + 1 + k' = k' + (i + 1) by omega] at h4;unfold d9 at h4;simp only [arb,ar5,atf] at h4;obtain ⟨⟨f1,f2⟩,⟨j1,j2⟩,j3⟩:=h4
  have hb:∀x∈[(i:Int),((k'+(i+1):Nat):Int)],kn kw x=false:=fun x hx=>by
   simp only[asj,asf,or_false]at hx;rcases hx with rfl |rfl
   ·exact vF f1
   ·exact vF f2
  obtain⟨a0,t0⟩:=xZ hb j1;obtain⟨a1,t1⟩:=xZ hb j2;obtain⟨n,a2,e,hj,jG,ht⟩:=DP j3;obtain⟨i1,i2,_⟩:=cJ hl hj;have i1:=(fd i1).1;have i2:=(fd i2).1;refine .rrr oz t0 t1 j3 (by rw[e,as4];exact hj) jG ?_;rcases ht with⟨e1,e2⟩ |⟨e1,e2⟩
  ·rw[vI i2 oz oz]at e2;exact .inl ⟨e1,atg e2⟩
  ·rw[vI i1 oz oz]at e2;exact .inr ⟨e1,atg e2⟩
 ·rename_i hk;rw[hk]at h2;cases h2
theorem aeh{l:Li}{kw:List Bool}{g:Gr}(h:fw l kw=some g):DyK l g:=by
 unfold fw at h;rw[ar6]at h;obtain⟨i,hi,rfl⟩:=h;obtain⟨h1,h2⟩:=gL hi;unfold ip at h2;simp only[arb,ar5,atf]at h2;obtain⟨f1,j1,j2⟩:=h2;obtain⟨a0,t0⟩:=xZ (DL (vF f1)) j1;obtain⟨a1,t1⟩:=xZ (DL (vF f1)) j2;unfold jR;rw[aS t1.hj]
 by_cases e:a1.a=i
 ·rw[ate e];exact .pr t0 t1 e
 ·rw[atd e];exact .rp t0 t1 e
theorem ahs{l:Li}(hl:ax l=0){kw:List Bool}{g:Gr}(h:cM l kw=some g):DyK l g:=by
 unfold cM at h;cases h1:eF l kw with
 |some g'=>rw[h1]at h;cases h;exact ajj hl h1
 |none =>
  rw[h1]at h;cases h2:dK l kw with
  |some g'=>rw[h2]at h;cases h;exact acl hl h2
  |none=>rw[h2]at h;exact aeh h
theorem S9{l:Li}(hl:ax l=0):∀(n:Nat)(kw:List Bool)(out:List Gr),(∀g∈out,DyK l g)->∀g∈(dj l n kw out).2,DyK l g
 |0,kw,out,h=>h
 |n+1,kw,out,h=>by
  unfold dj;cases hg:cM l kw with
  |none=>exact h
  |some g=>exact S9 hl n (bw kw g.bo) (out++[g]) (fun x hx=>by
    rcases ar9.1 hx with hx |hx
    ·exact h x hx
    ·rw[aqf.1 hx];exact ahs hl hg)
theorem kF{l:Li}(hl:ax l=0){g:Gr}(h:g∈ay l):DyK l g/\GrOk l g:=by
 unfold ay at h;split at h
 ·exact⟨S9 hl _ _ _ (fun g hg=>by cases hg) g h,(y9 hl).1 g h⟩
 ·cases h
open Lean.Grind
def E(r:(k:Nat)->T k)(n:Nat):Type:=T n
namespace T
theorem ofQ_zero:∀n,ofQ n 0=zero n
 |0=>rfl
 |n+1=>by simp only[ofQ,zero,ofQ_zero n]
theorem ofQ_add:∀n (p q:Rat),ofQ n (p+q)=add n (ofQ n p) (ofQ n q)
 |0,p,q=>rfl
 |n+1,p,q=>by simp only[ofQ,add,ofQ_add n,add_zero]
theorem ofQ_neg:∀n (p:Rat),ofQ n (-p)=neg n (ofQ n p)
 |0,p=>rfl
 |n+1,p=>by simp only[ofQ,neg,ofQ_neg n,RC]
end T
structure Laws(r:(k:Nat)->T k)(n:Nat):Prop where
  assoc:∀x y z,T.mul r n (T.mul r n x y) z=T.mul r n x (T.mul r n y z)
  dist:∀x y z,T.mul r n x (T.add n y z)=T.add n (T.mul r n x y) (T.mul r n x z)
  one:∀x,T.mul r n (T.ofQ n 1) x=x
theorem T.neg_mul'{r:(k:Nat)->T k}{n:Nat}(h:Laws r n)(x y:T n):T.mul r n (T.neg n x) y=T.neg n (T.mul r n x y):=by
 have h1:T.add n (T.mul r n x y) (T.mul r n (T.neg n x) y)=T.zero n:=by
  rw[T.mul_comm r n x,T.mul_comm r n (T.neg n x),<- h.dist,T.add_neg,T.mul_zero]
 have h2:=atl (fun z=>T.add n (T.neg n (T.mul r n x y)) z) h1;simp only[T.add_zero]at h2;rw[<- T.add_assoc,T.add_comm n (T.neg n _),T.add_neg,T.zero_add]at h2;exact h2
theorem T.mul_addr{r:(k:Nat)->T k}{n:Nat}(h:Laws r n)(a b c:T n):T.mul r n (T.add n a b) c=T.add n (T.mul r n a c) (T.mul r n b c):=by
 rw[T.mul_comm r n _ c,h.dist,T.mul_comm r n c,T.mul_comm r n c]
instance (r:(k:Nat)->T k)(n:Nat):Add (E r n):=⟨T.add n⟩
instance (r:(k:Nat)->T k)(n:Nat):Mul (E r n):=⟨T.mul r n⟩
instance (r:(k:Nat)->T k)(n:Nat):Neg (E r n):=⟨T.neg n⟩
instance (r:(k:Nat)->T k)(n:Nat):_root_.Sub (E r n):=⟨fun x y=>T.add n x (T.neg n y)⟩
instance (r:(k:Nat)->T k)(n c:Nat):OfNat (E r n) c:=⟨T.ofQ n (c:Rat)⟩
instance (r:(k:Nat)->T k)(n:Nat):NatCast (E r n):=⟨fun c=>T.ofQ n (c:Rat)⟩
instance (r:(k:Nat)->T k)(n:Nat):IntCast (E r n):=⟨fun c=>T.ofQ n (c:Rat)⟩
instance (r:(k:Nat)->T k)(n:Nat):SMul Nat (E r n):=⟨fun c x=>T.mul r n (T.ofQ n (c:Rat)) x⟩
instance (r:(k:Nat)->T k)(n:Nat):SMul Int (E r n):=⟨fun c x=>T.mul r n (T.ofQ n (c:Rat)) x⟩
def E.pow{r:(k:Nat)->T k}{n:Nat}(x:E r n):Nat->E r n
  |0=>T.ofQ n 1
  |c+1=>T.mul r n (E.pow x c) x
instance (r:(k:Nat)->T k)(n:Nat):HPow (E r n) Nat (E r n):=⟨E.pow⟩
@[reducible] def Laws.ring {r:(k:Nat)->T k} {n:Nat} (h:Laws r n):CommRing (E r n) where
  add_zero a:=by
    show T.add n a (T.ofQ n ((0:Nat):Rat))=a;rw[show(((0:Nat):Rat))=0 from rfl,T.ofQ_zero];exact T.add_zero n a
  add_comm a b:=T.add_comm n a b
  add_assoc a b c:=T.add_assoc n a b c
  mul_assoc a b c:=h.assoc a b c
  mul_one a:=(T.mul_comm r n a _).trans (h.one a)
  one_mul a:=h.one a
  left_distrib a b c:=h.dist a b c
  right_distrib a b c:=T.mul_addr h a b c
  zero_mul a:=by
    show T.mul r n (T.ofQ n ((0:Nat):Rat)) a=T.ofQ n ((0:Nat):Rat);rw[show(((0:Nat):Rat))=0 from rfl,T.ofQ_zero];exact T.zero_mul r n a
  mul_zero a:=by
    show T.mul r n a (T.ofQ n ((0:Nat):Rat))=T.ofQ n ((0:Nat):Rat);rw[show(((0:Nat):Rat))=0 from rfl,T.ofQ_zero];exact T.mul_zero r n a
  pow_zero a:=rfl
  pow_succ a c:=rfl
  ofNat_succ c:=by
    show T.ofQ n ((c+1:Nat):Rat)=T.add n (T.ofQ n (c:Rat)) (T.ofQ n ((1:Nat):Rat));rw[<- T.ofQ_add];congr 1;exact Rat.natCast_add c 1
  ofNat_eq_natCast c:=rfl
  nsmul_eq_natCast_mul c a:=rfl
  neg_add_cancel a:=(T.add_comm n (T.neg n a) a).trans ((T.add_neg n a).trans (T.ofQ_zero n).symm)
  sub a b:=T.add n a (T.neg n b)
  sub_eq_add_neg a b:=rfl
  neg_zsmul i a:=(atl (fun z=>T.mul r n z a) (show T.ofQ n ((-i:Int):Rat)=T.neg n (T.ofQ n (i:Rat)) by rw[Rat.intCast_neg,T.ofQ_neg])).trans (T.neg_mul' h _ a)
  zsmul_natCast_eq_nsmul c a:=rfl
  intCast_ofNat c:=rfl
  intCast_neg i:=by
    show T.ofQ n ((-i:Int):Rat)=T.neg n (T.ofQ n (i:Rat));rw[Rat.intCast_neg,T.ofQ_neg]
  mul_comm a b:=T.mul_comm r n a b
section
variable{R:Type}[CommRing R](x y u v p q d:R)
theorem adq:(x*u+y*v*d)*p+(x*v+y*u)*q*d=x*(u*p+v*q*d)+y*(u*q+v*p)*d:=by grind
theorem ajs:(x*u+y*v*d)*q+(x*v+y*u)*p=x*(u*q+v*p)+y*(u*p+v*q*d):=by grind
theorem Zi:x*(u+p)+y*(v+q)*d=(x*u+y*v*d)+(x*p+y*q*d):=by grind
theorem Ww:x*(v+q)+y*(u+p)=(x*v+y*u)+(x*q+y*p):=by grind
end
theorem tL(r:(k:Nat)->T k):∀n,Laws r n
 |0=>⟨fun x y z=>Rat.mul_assoc x y z,fun x y z=>Rat.mul_add x y z,fun x=>Rat.one_mul x⟩
 |n+1=>by
  have I:=(tL r n).ring;have h1:=(tL r n).one;refine⟨?_,?_,?_⟩
  ·rintro⟨x,y⟩ ⟨u,v⟩ ⟨p,q⟩;exact Prod.ext (@adq (E r n) (tL r n).ring x y u v p q (r n)) (@ajs (E r n) (tL r n).ring x y u v p q (r n))
  ·rintro⟨x,y⟩ ⟨u,v⟩ ⟨p,q⟩;exact Prod.ext (@Zi (E r n) (tL r n).ring x y u v p q (r n)) (@Ww (E r n) (tL r n).ring x y u v p q)
  ·rintro⟨u,v⟩;refine Prod.ext ?_ ?_
   ·show T.add n (T.mul r n (T.ofQ n 1) u) (T.mul r n (T.mul r n (T.zero n) v) (r n))=u;rw[h1,T.zero_mul,T.zero_mul,T.add_zero]
   ·show T.add n (T.mul r n (T.ofQ n 1) v) (T.mul r n (T.zero n) u)=v;rw[h1,T.zero_mul,T.add_zero]
instance eRing(r:(k:Nat)->T k)(n:Nat):CommRing (E r n):=(tL r n).ring
structure Sg(R:Type)[CommRing R](s:R->Int):Prop where
  cs:∀x,s x=-1\/s x=0\/s x=1
  one:s 1=1
  neg:∀x,s (-x)=-s x
  mul:∀x y,s (x*y)=s x*s y
  add:∀x y,0<=s x->0<=s y->0<=s (x+y)
namespace Sg
variable{R:Type}[CommRing R]{s:R->Int}
theorem zero(h:Sg R s):s 0=0:=by
 have h1:=h.neg 0;rw[show -(0:R)=0 by grind]at h1;omega
theorem zadd(h:Sg R s){x y:R}(hx:s x=0):s (x+y)=s y:=by
 have h1:=h.cs y;have h2:=h.cs (x+y);have n1:=h.neg x;have n2:=h.neg y;have n3:=h.neg (x+y);have a1:=h.add x y;have a2:=h.add (-x) (-y);have a3:=h.add (-x) (x+y);have a4:=h.add x (-(x+y));rw[show -x+-y=-(x+y) by grind]at a2;rw[show -x+(x+y)=y by grind]at a3;rw[show x+-(x+y)=-y by grind]at a4;omega
theorem padd(h:Sg R s){x y:R}(hx:s x=1)(hy:0<=s y):s (x+y)=1:=by
 have h2:=h.cs (x+y);have a1:=h.add x y;have n2:=h.neg y;have n3:=h.neg (x+y);have a4:=h.add (-(x+y)) y;have e:-(x+y)+y=-x:=by grind
 have n1:=h.neg x;rw[e]at a4;rcases h2 with h2 |h2 |h2
 ·omega
 ·have:=h.zadd (x:=-(x+y)) (y:=y) oz;rw[e]at this;omega
 ·exact h2
theorem sq(h:Sg R s)(x:R):0<=s (x*x):=by
 rw[h.mul];rcases h.cs x with e |e |e <;> rw[e] <;> decide
theorem sqle(h:Sg R s){a b:R}(ha:0<=s a)(hb:0<=s (a*a-b*b)):0<=s (a+b):=by
 have c1:=h.cs (a+b);rcases c1 with c1 |c1 |c1
 ·exfalso;have n1:=h.neg (a+b);have p1:s (-(a+b)+a)=1:=h.padd oz ha;rw[show -(a+b)+a=-b by grind]at p1;have p2:s (-b+a)=1:=h.padd p1 ha;have m:=h.mul (-b+a) (a+b);rw[show(-b+a)*(a+b)=a*a-b*b by grind,p2,c1]at m;omega
 ·omega
 ·omega
theorem cancel(h:Sg R s){p x:R}(hp:s p=1)(hx:0<=s (p*x)):0<=s x:=by
 rw[h.mul,hp]at hx;omega
end Sg
def eU{r:(k:Nat)->T k}{n:Nat}(x y:E r n):E r (n+1):=((x,y):T n×T n)
def sg(r:(k:Nat)->T k)(n:Nat)(x:E r n):Int:=T.sgn r n x
def bB(r:(k:Nat)->T k)(n:Nat):E r n:=r n
variable{r:(k:Nat)->T k}{n:Nat}
theorem nE(z:E r (n+1)):∃x y:E r n,z=eU x y:=⟨z.1,z.2,rfl⟩
theorem Hl(x y u v:E r n):eU x y+eU u v=eU (x+u) (y+v):=rfl
theorem aj7(x y:E r n):-eU x y=eU (-x) (-y):=rfl
theorem vP(x y u v:E r n):eU x y*eU u v=eU (x*u+y*v*bB r n) (x*v+y*u):=rfl
theorem E.zero_def:(0:E r n)=T.zero n:=T.ofQ_zero n
theorem aa9:(1:E r (n+1))=eU 1 0:=by
 show T.ofQ (n+1) ((1:Nat):Rat)=(T.ofQ n ((1:Nat):Rat),T.ofQ n ((0:Nat):Rat));rw[show(((0:Nat):Rat))=0 from rfl,T.ofQ_zero];rfl
def aU(x y:E r n):E r n:=x*x+-(y*y*bB r n)
theorem oR(x y:E r n):sg r (n+1) (eU x y)=T.sgn3 (sg r n x) (sg r n y) (sg r n (bB r n)) (sg r n (aU x y)):=rfl
def PE(x y:E r n):Prop:=(0<=sg r n x/\0<=sg r n (aU x y))\/(0<=sg r n y/\0 <= -sg r n (aU x y))
theorem vS(h:Sg (E r n) (sg r n))(hd:sg r n (bB r n)=1)(x y:E r n):0<=sg r (n+1) (eU x y)↔PE x y:=by
 rw[oR,hd];unfold PE
 have f1:sg r n y=0->sg r n (aU x y)=sg r n x*sg r n x:=by
  intro hy;have h1:sg r n (-(y*y*bB r n))=0:=by rw[h.neg,h.mul,h.mul,hy];simp
  have:=h.zadd (y:=x*x) h1;unfold aU;rw[show x*x+-(y*y*bB r n)=-(y*y*bB r n)+x*x by grind,this,h.mul]
 have f2:sg r n x=0->sg r n (aU x y)=-(sg r n y*sg r n y):=by
  intro hx;have h1:sg r n (x*x)=0:=by rw[h.mul,hx];simp
  have:=h.zadd (y:=-(y*y*bB r n)) h1;unfold aU;rw[this,h.neg,h.mul,h.mul,hd];simp
 have c1:=h.cs x;have c2:=h.cs y;have c3:=h.cs (aU x y)
 revert f1 f2 c1 c2 c3
 generalize sg r n x=a;generalize sg r n y=b;generalize sg r n (aU x y)=c;intro f1 f2 c1 c2 c3;rcases c1 with rfl |rfl |rfl <;> rcases c2 with rfl |rfl |rfl <;> rcases c3 with rfl |rfl |rfl <;> first |decide |(exfalso;revert f1 f2;decide)
theorem akt(h:Sg (E r n) (sg r n))(hd:sg r n (bB r n)=1){x y u v:E r n}(h1:PE x y)(h2:PE u v):PE (x*u+y*v*bB r n) (x*v+y*u):=by
 have nm:aU (x*u+y*v*bB r n) (x*v+y*u)=aU x y*aU u v:=by unfold aU;grind
 have hn:=h.mul (aU x y) (aU u v);have d0:0<=sg r n (bB r n):=by omega
 unfold PE;rw[nm,hn];rcases h1 with⟨a1,a2⟩ |⟨a1,a2⟩ <;> rcases h2 with⟨b1,b2⟩ |⟨b1,b2⟩
 ·refine .inl ⟨h.sqle ?_ ?_,aqq a2 b2⟩
  ·rw[h.mul];exact aqq a1 b1
  ·have e : x * u * (x * u) - y * v * bB r n * (y * v * bB r n) = aU x y * (u * u) + y * y * bB r n * aU u v := by unfold aU; grind
   rw[e];refine h.add _ _ ?_ ?_
   ·rw[h.mul];exact aqq a2 (h.sq u)
   ·rw[h.mul,h.mul];exact aqq (aqq (h.sq y) d0) b2
 ·refine .inr ⟨h.sqle ?_ ?_,?_⟩
  ·rw[h.mul];exact aqq a1 b1
  ·have e : x * v * (x * v) - y * u * (y * u) = aU x y * (v * v) + y * y * -aU u v := by unfold aU; grind
   rw[e];refine h.add _ _ ?_ ?_
   ·rw[h.mul];exact aqq a2 (h.sq v)
   ·rw[h.mul,h.neg];exact aqq (h.sq y) b2
  ·rw[<- Int.mul_neg];exact aqq a2 b2
 ·refine .inr ⟨?_,?_⟩
  ·rw [show x * v + y * u = y * u + x * v by grind];refine h.sqle ?_ ?_
   ·rw[h.mul];exact aqq a1 b1
   ·have e : y * u * (y * u) - x * v * (x * v) = aU u v * (y * y) + v * v * -aU x y := by unfold aU; grind
    rw[e];refine h.add _ _ ?_ ?_
    ·rw[h.mul];exact aqq b2 (h.sq y)
    ·rw[h.mul,h.neg];exact aqq (h.sq v) a2
  ·rw[<- Int.neg_mul];exact aqq a2 b2
 ·refine .inl ⟨?_,?_⟩
  ·rw [show x * u + y * v * bB r n = y * v * bB r n + x * u by grind];refine h.sqle ?_ ?_
   ·rw[h.mul,h.mul];exact aqq (aqq a1 b1) d0
   ·have e : y * v * bB r n * (y * v * bB r n) - x * u * (x * u) = -aU x y * (v * v * bB r n) + x * x * -aU u v := by unfold aU; grind
    rw[e];refine h.add _ _ ?_ ?_
    ·rw[h.mul,h.neg,h.mul];exact aqq a2 (aqq (h.sq v) d0)
    ·rw[h.mul,h.neg];exact aqq (h.sq x) b2
  ·rw[<- Int.neg_mul_neg];exact aqq a2 b2
theorem SQ(h:Sg (E r n) (sg r n))(hd:sg r n (bB r n)=1){x y u v:E r n}(a1:0<=sg r n x)(a2:0<=sg r n (aU x y))(b1:0<=sg r n v)(b2:0 <= -sg r n (aU u v)):PE (x+u) (y+v):=by
  have cX:=h.cs (x+u);have cY:=h.cs (y+v);have cN:=h.cs (aU (x+u) (y+v));unfold PE
  by_cases hX:0<=sg r n (x+u)
  · by_cases hN:0<=sg r n (aU (x+u) (y+v))
    · exact .inl ⟨hX,hN⟩
    · by_cases hY:0<=sg r n (y+v)
      · exact .inr ⟨hY,by omega⟩
      · -- Y < 0: then N is at least 0
        exfalso;have hY':sg r n (-(y+v))=1:=by rw[h.neg];omega
        have ny:sg r n (-y)=1:=by
          have:=h.padd hY' b1
          rwa [show -(y+v)+v=-y by grind]at this
        have k1:0<=sg r n (x*v+y*u):=by
          refine h.sqle (by rw[h.mul];exact aqq a1 b1) ?_;have e:x*v*(x*v)-y*u*(y*u)=aU x y*(v*v)+y*y*-aU u v:=by unfold aU;grind
          rw[e];refine h.add _ _ ?_ ?_
          · rw[h.mul];exact aqq a2 (h.sq v)
          · rw[h.mul,h.neg];exact aqq (h.sq y) b2
        have k2:0<=sg r n (x*v+-(y*u)):=by
          refine h.sqle (by rw[h.mul];exact aqq a1 b1) ?_;have e:x*v*(x*v) - -(y*u)*-(y*u)=aU x y*(v*v)+y*y*-aU u v:=by unfold aU;grind
          rw[e];refine h.add _ _ ?_ ?_
          · rw[h.mul];exact aqq a2 (h.sq v)
          · rw[h.mul,h.neg];exact aqq (h.sq y) b2
        have k3:0<=sg r n (-y*(x+u)-x*-(y+v)):=by
          rw[show -y*(x+u)-x*-(y+v)=x*v+-(y*u) by grind];exact k2
        have k4:0<=sg r n (-y*(x+u)+x*-(y+v)):=by
          rw[show -y*(x+u)+x*-(y+v)=(-y*(x+u)-x*-(y+v))+(x*-(y+v)+x*-(y+v)) by grind];refine h.add _ _ k3 (h.add _ _ ?_ ?_) <;> (rw[h.mul,hY'];omega)
        have k5:0<=sg r n ((y*y)*aU (x+u) (y+v)):=by
          have e:(y*y)*aU (x+u) (y+v)=(-y*(x+u)-x*-(y+v))*(-y*(x+u)+x*-(y+v))+aU x y*(-(y+v)*-(y+v)):=by unfold aU;grind
          rw[e];refine h.add _ _ (by rw[h.mul];exact aqq k3 k4) (by rw[h.mul];exact aqq a2 (h.sq _))
        have k6 := h.cancel (by rw [h.mul]; rw [h.neg] at ny; have : sg r n y = -1 := by omega
                                rw[this];rfl) k5
        exact hN k6
  · have hX' : sg r n (-(x + u)) = 1 := by rw [h.neg]; omega
    have nu:sg r n (-u)=1:=by
      have:=h.padd hX' a1
      rwa [show -(x+u)+x=-u by grind]at this
    have su:sg r n u=-1:=by rw[h.neg]at nu;omega
    have hv:sg r n v=1:=by
      rcases h.cs v with e |e |e
      · omega
      · exfalso
        have h1:sg r n (-(v*v*bB r n))=0:=by rw[h.neg,h.mul,h.mul,e];simp
        have:=h.zadd (y:=u*u) h1;rw[show -(v*v*bB r n)+u*u=aU u v by unfold aU;grind,h.mul,su]at this;omega
      · exact e
    have k1:0<=sg r n (x*v+y*-u):=by
      refine h.sqle (by rw[h.mul];exact aqq a1 b1) ?_;have e:x*v*(x*v)-y*-u*(y*-u)=aU x y*(v*v)+y*y*-aU u v:=by unfold aU;grind
      rw[e];refine h.add _ _ ?_ ?_
      · rw[h.mul];exact aqq a2 (h.sq v)
      · rw[h.mul,h.neg];exact aqq (h.sq y) b2
    have k3:0<=sg r n (-u*(y+v)-v*-(x+u)):=by
      rw[show -u*(y+v)-v*-(x+u)=x*v+y*-u by grind];exact k1
    have k4:0<=sg r n (v*-(x+u)):=by rw[h.mul,hv,hX'];decide
    have kY:0<=sg r n (y+v):=by
      refine h.cancel nu ?_;rw[show -u*(y+v)=(-u*(y+v)-v*-(x+u))+v*-(x+u) by grind];exact h.add _ _ k3 k4
    refine .inr ⟨kY,?_⟩
    have k5:0<=sg r n ((v*v)*-aU (x+u) (y+v)):=by
      have e:(v*v)*-aU (x+u) (y+v)=(-u*(y+v)-v*-(x+u))*(-u*(y+v)+v*-(x+u))+-aU u v*((y+v)*(y+v)):=by unfold aU;grind
      rw[e];have k6:0<=sg r n (-u*(y+v)+v*-(x+u)):=h.add _ _ (by rw[h.mul,nu];omega) k4;refine h.add _ _ (by rw[h.mul];exact aqq k3 k6) (by rw[h.mul,h.neg];exact aqq b2 (h.sq _))
    have k7:=h.cancel (by rw[h.mul,hv];rfl) k5
    rwa [h.neg]at k7
theorem Zj(h:Sg (E r n) (sg r n))(hd:sg r n (bB r n)=1){x y u v:E r n}(h1:PE x y)(h2:PE u v):PE (x+u) (y+v):=by
 have d0:0<=sg r n (bB r n):=by omega
 rcases h1 with⟨a1,a2⟩ |⟨a1,a2⟩ <;> rcases h2 with⟨b1,b2⟩ |⟨b1,b2⟩
 ·refine .inl ⟨h.add _ _ a1 b1,?_⟩
  have k:0<=sg r n (x*u+-(y*v*bB r n)):=by
   refine h.sqle (by rw[h.mul];exact aqq a1 b1) ?_;have e:x*u*(x*u) - -(y*v*bB r n)*-(y*v*bB r n)=aU x y*(u*u)+y*y*bB r n*aU u v:=by unfold aU;grind
   rw[e];refine h.add _ _ ?_ ?_
   ·rw[h.mul];exact aqq a2 (h.sq u)
   ·rw[h.mul,h.mul];exact aqq (aqq (h.sq y) d0) b2
  rw[show aU (x+u) (y+v)=(aU x y+aU u v)+((x*u+-(y*v*bB r n))+(x*u+-(y*v*bB r n))) by unfold aU;grind];exact h.add _ _ (h.add _ _ a2 b2) (h.add _ _ k k)
 ·exact SQ h hd a1 a2 b1 b2
 ·rw[show x+u=u+x by grind,show y+v=v+y by grind];exact SQ h hd b1 b2 a1 a2
 ·refine .inr ⟨h.add _ _ a1 b1,?_⟩
  have k:0<=sg r n (y*v*bB r n+-(x*u)):=by
   refine h.sqle (by rw[h.mul,h.mul];exact aqq (aqq a1 b1) d0) ?_;have e:y*v*bB r n*(y*v*bB r n) - -(x*u)*-(x*u)=-aU x y*(v*v*bB r n)+x*x*-aU u v:=by unfold aU;grind
   rw[e];refine h.add _ _ ?_ ?_
   ·rw[h.mul,h.neg,h.mul];exact aqq a2 (aqq (h.sq v) d0)
   ·rw[h.mul,h.neg];exact aqq (h.sq x) b2
  have k2:0<=sg r n (-aU (x+u) (y+v)):=by
   rw[show -aU (x+u) (y+v)=(-aU x y+-aU u v)+((y*v*bB r n+-(x*u))+(y*v*bB r n+-(x*u))) by unfold aU;grind];exact h.add _ _ (h.add _ _ (by rw[h.neg];exact a2) (by rw[h.neg];exact b2)) (h.add _ _ k k)
  rwa [h.neg]at k2
theorem abg(a b c d:Int):T.sgn3 (-a) (-b) c d=-T.sgn3 a b c d:=by
 unfold T.sgn3;have e:(-a=-b \/ -b=0)↔(a=b\/b=0):=by omega
 simp only[e];split
 ·rfl
 ·split
  ·rfl
  ·by_cases h:a=0
   ·rw[ate oz,ate h]
   ·rw[atd oz,atd h,Int.neg_mul]
theorem YY(h:Sg (E r n) (sg r n))(hd:0<=sg r n (bB r n)):Sg (E r (n+1)) (sg r (n+1)):=by
 have bU:∀z:E r (n+1),sg r (n+1) z=-1\/sg r (n+1) z=0\/sg r (n+1) z=1:=fun z=>T.sgn_cases r (n+1) z
 have qI:sg r (n+1) 1=1:=by
  rw[aa9,oR,h.one,h.zero];unfold T.sgn3;split
  ·rfl
  ·simp
 have jk:∀z:E r (n+1),sg r (n+1) (-z)=-sg r (n+1) z:=by
  intro z;obtain⟨x,y,rfl⟩:=nE z;rw[aj7,oR,oR,h.neg,h.neg,show aU (-x) (-y)=aU x y by unfold aU;grind,abg]
 by_cases qM:sg r n (bB r n)=0
 ·have e0:∀x y:E r n,sg r (n+1) (eU x y)=sg r n x:=by
   intro x y;rw[oR,qM];unfold T.sgn3;rw[ate rfl]
  refine⟨bU,qI,jk,?_,?_⟩
  ·intro z w;obtain ⟨x,y,rfl⟩:=nE z;obtain ⟨u,v,rfl⟩:=nE w;rw [vP,e0,e0,e0];have h1:sg r n (y * v * bB r n) = 0:=by rw [h.mul,qM]; simp
   have:=h.zadd (y:=x*u) h1;rw[show x*u+y*v*bB r n=y*v*bB r n+x*u by grind,this,h.mul]
  ·intro z w;obtain⟨x,y,rfl⟩:=nE z;obtain⟨u,v,rfl⟩:=nE w;rw[Hl,e0,e0,e0];exact h.add x u
 ·have hO : sg r n (bB r n) = 1 := by rcases h.cs (bB r n) with e | e | e <;> omega
  have jI:∀z w:E r (n+1),0<=sg r (n+1) z->0<=sg r (n+1) w->0<=sg r (n+1) (z+w):=by
   intro z w;obtain⟨x,y,rfl⟩:=nE z;obtain⟨u,v,rfl⟩:=nE w;rw[Hl,vS h hO,vS h hO,vS h hO];exact Zj h hO
  have mY:∀z w:E r (n+1),0<=sg r (n+1) z->0<=sg r (n+1) w->0<=sg r (n+1) (z*w):=by
   intro z w;obtain⟨x,y,rfl⟩:=nE z;obtain⟨u,v,rfl⟩:=nE w;rw[vP,vS h hO,vS h hO,vS h hO];exact akt h hO
  have EK:∀z w:E r (n+1),sg r (n+1) z=0->sg r (n+1) (w*z)=0:=by
   intro z w hz;have n1:=jk z;have n2:=jk w;have n3:=jk (w*z);have m1:=mY w z;have m2:=mY w (-z);have m3:=mY (-w) z;have m4:=mY (-w) (-z);rw[show w*-z=-(w*z) by grind]at m2;rw[show -w*z=-(w*z) by grind]at m3;rw[show -w*-z=w*z by grind]at m4;rcases bU w with e |e |e <;> omega
  have Up:∀(a u v:E r n),sg r (n+1) (eU (a*u) (a*v))=sg r n a*sg r (n+1) (eU u v):=by
   intro a u v;rw[oR,oR,show aU (a*u) (a*v)=a*a*aU u v by unfold aU;grind,h.mul,h.mul,h.mul,h.mul,hO]
   have f1:sg r n v=0->sg r n (aU u v)=sg r n u*sg r n u:=by
    intro hy;have h1:sg r n (-(v*v*bB r n))=0:=by rw[h.neg,h.mul,h.mul,hy];simp
    have:=h.zadd (y:=u*u) h1;unfold aU;rw[show u*u+-(v*v*bB r n)=-(v*v*bB r n)+u*u by grind,this,h.mul]
   have c1:=h.cs u;have c2:=h.cs v;have c3:=h.cs (aU u v);have c4:=h.cs a
   revert c1 c2 c3 c4
   generalize sg r n u=a1;generalize sg r n v=b1;generalize sg r n (aU u v)=c1;generalize sg r n a=e1;intro c1 c2 c3 c4;rcases c1 with rfl |rfl |rfl <;> rcases c2 with rfl |rfl |rfl <;> rcases c3 with rfl |rfl |rfl <;> rcases c4 with rfl |rfl |rfl <;> decide
  have ang:∀z w:E r (n+1),sg r (n+1) z=1->0<=sg r (n+1) w->sg r (n+1) (z+w)=1:=by
   intro z w hz hw;have a1:=jI z w oz hw;rcases bU (z+w)with e |e |e
   ·omega
   ·exfalso;have n1:=jk z;have n2:=jk (z+w);have a2:=jI (-(z+w)) w oz hw;rw[show -(z+w)+w=-z by grind]at a2;omega
   ·exact e
  have EL:∀z w:E r (n+1),sg r (n+1) z=1->sg r (n+1) w=1->sg r (n+1) (z*w)=1:=by
   intro z w hz hw;obtain⟨x,y,rfl⟩:=nE z;obtain⟨u,v,rfl⟩:=nE w;have p0:=mY _ _ (by omega:0<=sg r (n+1) (eU x y)) (by omega:0<=sg r (n+1) (eU u v));rcases bU (eU x y*eU u v)with e |e |e
   ·omega
   ·exfalso
    by_cases hN:sg r n (aU x y)=0
    ·have Aj:sg r n x=1/\sg r n y=1:=by
      rw[oR,hO,hN]at hz
      have f1:sg r n y=0->sg r n (aU x y)=sg r n x*sg r n x:=by
       intro hy;have h1:sg r n (-(y*y*bB r n))=0:=by rw[h.neg,h.mul,h.mul,hy];simp
       have:=h.zadd (y:=x*x) h1;unfold aU;rw[show x*x+-(y*y*bB r n)=-(y*y*bB r n)+x*x by grind,this,h.mul]
      have f2:sg r n x=0->sg r n (aU x y)=-(sg r n y*sg r n y):=by
       intro hx;have h1:sg r n (x*x)=0:=by rw[h.mul,hx];simp
       have:=h.zadd (y:=-(y*y*bB r n)) h1;unfold aU;rw[this,h.neg,h.mul,h.mul,hO];simp
      rw[hN]at f1 f2;have c1:=h.cs x;have c2:=h.cs y
      revert hz f1 f2 c1 c2
      generalize sg r n x=a;generalize sg r n y=b;intro hz f1 f2 c1 c2;rcases c1 with rfl |rfl |rfl <;> rcases c2 with rfl |rfl |rfl <;> revert hz f1 f2 <;> decide
     have k1:sg r (n+1) (eU (x*u) (x*v))=1:=by rw[Up,Aj.1,hw];rfl
     have k2:0<=sg r (n+1) (eU 0 y):=by
      rw[oR,h.zero,Aj.2,hO];unfold T.sgn3;simp
     have k3:=mY _ _ k2 (by omega:0<=sg r (n+1) (eU u v));have k4:=ang _ _ k1 k3;rw[vP,Hl]at k4;rw[vP]at e;rw[show x*u+(0*u+y*v*bB r n)=x*u+y*v*bB r n by grind,show x*v+(0*v+y*u)=x*v+y*u by grind]at k4;omega
    ·have k1:=EK _ (eU x (-y)) e;rw[show eU x (-y)*(eU x y*eU u v)=eU (aU x y*u) (aU x y*v) by rw[vP,vP];unfold aU;congr 1 <;> grind,Up,hw]at k1;omega
   ·exact e
  refine⟨bU,qI,jk,?_,jI⟩;intro z w;rcases bU w with e |e |e
  ·rcases bU z with e' |e' |e'
   ·have := EL (-z) (-w) (by rw[jk];omega) (by rw[jk];omega);rw[show -z*-w=z*w by grind]at this;rw[this,e,e'];rfl
   ·have:=EK z w e';rw[show w*z=z*w by grind]at this;rw[this,e'];simp
   ·have := EL z (-w) e' (by rw[jk];omega);rw[show z*-w=-(z*w) by grind,jk]at this;rw[e,e'];omega
  ·rw[EK w z e,e];simp
  ·rcases bU z with e' |e' |e'
   ·have := EL (-z) w (by rw[jk];omega) e;rw[show -z*w=-(z*w) by grind,jk]at this;rw[e,e'];omega
   ·have:=EK z w e';rw[show w*z=z*w by grind]at this;rw[this,e'];simp
   ·rw[EL z w e' e,e,e'];rfl
theorem oT(q:Rat):a9 q=-1/\q<0\/a9 q=0/\q=0\/a9 q=1/\0<q:=by
 unfold a9;split
 ·exact .inl ⟨rfl,by assumption⟩
 ·split
  ·exact .inr (.inr ⟨rfl,by assumption⟩)
  ·exact .inr (.inl ⟨rfl,by grind⟩)
theorem BY{q:Rat}(h:0<q):a9 q=1:=by
 rcases oT q with⟨_,h'⟩ |⟨_,h'⟩ |⟨e,_⟩
 ·grind
 ·grind
 ·exact e
theorem Hi{q:Rat}(h:q<0):a9 q=-1:=by
 rcases oT q with⟨e,_⟩ |⟨_,h'⟩ |⟨_,h'⟩
 ·exact e
 ·grind
 ·grind
theorem Z1(q:Rat):a9 (-q)=-a9 q:=by
 rcases oT q with⟨e,h⟩ |⟨e,h⟩ |⟨e,h⟩
 ·rw[e,BY (by grind)];rfl
 ·rw[h];rfl
 ·rw[e,Hi (by grind)]
theorem PN(p q:Rat):a9 (p*q)=a9 p*a9 q:=by
 have h0:a9 0=0:=rfl;rcases oT p with⟨e,h⟩ |⟨e,h⟩ |⟨e,h⟩ <;> rcases oT q with⟨e',h'⟩ |⟨e',h'⟩ |⟨e',h'⟩
 ·have := aq2 (a := -p) (b := -q) (by grind) (by grind);rw[e,e',BY (by grind)];rfl
 ·rw[h',Rat.mul_zero,h0];simp
 ·have := aq2 (a := -p) (b := q) (by grind) h';rw[e,e',Hi (by grind)];rfl
 ·rw[h,Rat.zero_mul,h0];simp
 ·rw[h,Rat.zero_mul,h0];simp
 ·rw[h,Rat.zero_mul,h0];simp
 ·have := aq2 (a := p) (b := -q) h (by grind);rw[e,e',Hi (by grind)];rfl
 ·rw[h',Rat.mul_zero,h0];simp
 ·rw[e,e',BY (aq2 h h')];rfl
theorem ae2(p q:Rat)(h1:0<=a9 p)(h2:0<=a9 q):0<=a9 (p+q):=by
 rcases oT (p+q)with⟨e,h⟩ |⟨e,h⟩ |⟨e,h⟩
 ·exfalso;rcases oT p with⟨e1,g1⟩ |⟨e1,g1⟩ |⟨e1,g1⟩ <;> rcases oT q with⟨e2,g2⟩ |⟨e2,g2⟩ |⟨e2,g2⟩ <;> first |omega |grind
 ·omega
 ·omega
theorem ahw(r:(k:Nat)->T k):Sg (E r 0) (sg r 0) :=
 ⟨fun q=>T.sgnQ_cases q,rfl,fun q=>Z1 q,fun p q=>PN p q,fun p q=>ae2 p q⟩
def il(r:(k:Nat)->T k)(n:Nat):Prop:=∀j,j<n->0<=T.sgn r j (r j)
theorem rc(r:(k:Nat)->T k):∀n,il r n->Sg (E r n) (sg r n)
 |0,_=>ahw r
 |n+1,h=>YY (rc r n (fun j hj=>h j oz)) (h n oz)
end Go.Lw
namespace Go.Lw
def xA{r:(k:Nat)->T k}{n:Nat}(x:E r n):AV:=nA (sh n x)
abbrev Pn(r:(k:Nat)->T k)(n:Nat):Type:=E r n×E r n
def p9(r:(k:Nat)->T k)(n:Nat):LL:=(List.range n).map fun k=>enc k (r k)
def qE{r:(k:Nat)->T k}{n:Nat}(q:Rat):E r n:=T.ofQ n q
theorem Ij:∀(n:Nat)(q:Rat),sh n (T.ofQ n q)=sh 0 (q:Rat)
 |0,q=>rfl
 |n+1,q=>by
  show(if T.isZ n (T.zero n)=true then sh n (T.ofQ n q)else _)=_;rw[ate ((T.isZ_iff n _).2 rfl),Ij n q]
theorem SS:∀n:Nat,sh n (T.zero n)=[]
 |0=>rfl
 |n+1=>by
  show(if T.isZ n (T.zero n)=true then sh n (T.zero n)else _)=_;rw[ate ((T.isZ_iff n _).2 rfl),SS n]
theorem xN(r:(k:Nat)->T k)(n:Nat):(p9 r n).length=n:=by simp[p9]
theorem MC{r:(k:Nat)->T k}{n j:Nat}(h:j<n):(p9 r n).getD j []=enc j (r j):=by
 unfold p9;rw[ar2,asa,List.getElem?_range h];rfl
theorem adg{r:(k:Nat)->T k}{n j:Nat}(h:j<n):aI (p9 r n) j=r j:=by
 unfold aI;rw[MC h,Cl]
theorem OF{ts:LL}{R:Nat}(tw:Tw ts R):ts=p9 (aI ts) ts.length:=by
 apply List.ext_getElem?;intro j
 by_cases hj:j<ts.length
 ·have h1:=MC (r:=aI ts) hj;have h2:=tw.len j hj;rw[ar2]at h1;rw[ar7 (show j<(p9 (aI ts) ts.length).length by rw[xN];exact hj)]at h1 ⊢;rw[ary]at h1;rw[h1,ar7 hj];unfold aI;rw[vA _ _ h2,ar2,ar7 hj];rfl
 ·rw[asg oz,asg (by rw[xN];omega)]
class Cx(r:(k:Nat)->T k)(n:Nat)(u k:outParam Nat):Prop where
  ex:∃R,Tw (p9 r n) R/\eB R n<=k
  k1:1<=k
  u3:3<=u
class Zu(u k:Nat){r:(k:Nat)->T k}{n:Nat}(x:E r n)(w v:outParam Nat):Prop where
  nm:Nm n (w*u+v*k) (sh n x)
class Zp(u k:Nat){r:(k:Nat)->T k}{n:Nat}(p:Pn r n)(w v:outParam Nat):Prop where
  x:Nm n (w*u+v*k) (sh n p.1)
  y:Nm n (w*u+v*k) (sh n p.2)
class Qz(u:Nat)(q:Rat)(w:outParam Nat):Prop where
  cb:Cb (w*u) [q]
section
variable{r:(k:Nat)->T k}{n u k:Nat}
theorem Cx.five(c:Cx r n u k):n<=5:=by obtain⟨R,tw,_⟩:=c.ex;have:=tw.five;rwa [xN]at this
theorem Cx.three(c:Cx r n u k):n<=3:=by obtain⟨R,tw,_⟩:=c.ex;have:=tw.three;rwa [xN]at this
theorem C5(w v w' v' u k:Nat):(w*u+v*k)+(w'*u+v'*k)=(w+w')*u+(v+v')*k:=by
 rw[an5,an5];omega
theorem Nm.eq{n e f:Nat}{l:List Rat}(h:Nm n e l)(hf:e=f):Nm n f l:=hf▸h
theorem Nm.addT{e f:Nat}{x y:T n}(hx:Nm n e (sh n x))(hy:Nm n f (sh n y)):Nm n (e+f+1) (sh n (T.add n x y)):=by
 have h:=hx.add hy
 rwa [di,di]at h
theorem Nm.subT{e f:Nat}{x y:T n}(hx:Nm n e (sh n x))(hy:Nm n f (sh n y)):Nm n (e+f+1) (sh n (T.add n x (T.neg n y))):=by
 have h:=hx.sub hy
 rwa [di,di]at h
theorem Nm.negT{e:Nat}{x:T n}(hx:Nm n e (sh n x)):Nm n e (sh n (T.neg n x)):=by
 have h:=hx.neg
 rwa [di]at h
theorem Nm.mulT{R e f:Nat}(tw:Tw (p9 r n) R){x y:T n}(hx:Nm n e (sh n x))(hy:Nm n f (sh n y)):Nm n (e+f+eB R n) (sh n (T.mul r n x y)):=by
 have h:=Nm.mul tw (xN r n).symm hx hy
 rwa [di,di,T.mul_congr n (fun j hj=>adg hj)]at h
instance Zu.add[c:Cx r n u k]{x y:E r n}{w v w' v':Nat}[hx:Zu u k x w v][hy:Zu u k y w' v']:Zu u k (x+y) (w+w') (v+v'+1) :=
  ⟨(Nm.addT hx.nm hy.nm).mono (by rw[C5,an5 _ 1];have:=c.k1;omega)⟩
instance Zu.sub[c:Cx r n u k]{x y:E r n}{w v w' v':Nat}[hx:Zu u k x w v][hy:Zu u k y w' v']:Zu u k (x-y) (w+w') (v+v'+1) :=
  ⟨(Nm.subT hx.nm hy.nm).mono (by rw[C5,an5 _ 1];have:=c.k1;omega)⟩
instance Zu.neg{x:E r n}{w v:Nat}[hx:Zu u k x w v]:Zu u k (-x) w v:=⟨Nm.negT hx.nm⟩
instance Zu.mul[c:Cx r n u k]{x y:E r n}{w v w' v':Nat}[hx:Zu u k x w v][hy:Zu u k y w' v']:Zu u k (x*y) (w+w') (v+v'+1):=by
  obtain⟨R,tw,hk⟩:=c.ex;exact⟨(Nm.mulT tw hx.nm hy.nm).mono (by rw[C5,an5 _ 1];omega)⟩
instance Zu.qE[c:Cx r n u k]{q:Rat}{w:Nat}[h:Qz u q w]:Zu u k (qE q:E r n) w 0:=⟨by
  show Nm n _ (sh n (T.ofQ n q));rw[Ij];exact(Nm.ofQ c.five h.cb).eq oz⟩
theorem Cb.int{e:Nat}{z:Int}(h:z.natAbs<=2^e):Cb e [(z:Rat)] :=
 ⟨1,z.natAbs,⟨by omega,fun q hq=>⟨z,by rw[aqf.1 hq];exact Rat.mul_one _,ar8 _⟩⟩,Nat.one_le_two_pow,h⟩
theorem Qz.int[c:Cx r n u k]{z:Int}(h:z.natAbs<=8):Qz u (z:Rat) 1:=⟨Cb.int (asv h (show 2^3<=_ from fj (by have:=c.u3;omega)))⟩
instance Zu.c0[c:Cx r n u k]:Zu u k (0:E r n) 0 0:=⟨by
  show Nm n _ (sh n (T.ofQ n ((0:Nat):Rat)));rw[show(((0:Nat):Rat))=0 from rfl,T.ofQ_zero,SS];exact⟨c.five,.inl rfl,Cb.nil.mono (ase _)⟩⟩
instance Zu.c1[c:Cx r n u k]:Zu u k (1:E r n) 1 0:=by
  haveI:Qz u ((1:Nat):Rat) 1:=Qz.int (c:=c) (z:=1) (by decide);exact(atm:Zu u k (Go.Lw.qE ((1:Nat):Rat):E r n) 1 0)
instance Zu.c2[c:Cx r n u k]:Zu u k (2:E r n) 1 0:=by
  haveI:Qz u ((2:Nat):Rat) 1:=Qz.int (c:=c) (z:=2) (by decide);exact(atm:Zu u k (Go.Lw.qE ((2:Nat):Rat):E r n) 1 0)
instance Zu.c4[c:Cx r n u k]:Zu u k (4:E r n) 1 0:=by
  haveI:Qz u ((4:Nat):Rat) 1:=Qz.int (c:=c) (z:=4) (by decide);exact(atm:Zu u k (Go.Lw.qE ((4:Nat):Rat):E r n) 1 0)
instance Zu.px{p:Pn r n}{w v:Nat}[h:Zp u k p w v]:Zu u k p.1 w v:=⟨h.x⟩
instance Zu.py{p:Pn r n}{w v:Nat}[h:Zp u k p w v]:Zu u k p.2 w v:=⟨h.y⟩
theorem LY{w v w' v' u k:Nat}(h:w<=w')(h':v<=v'):w*u+v*k<=w'*u+v'*k:=Nat.add_le_add (asl _ h) (asl _ h')
instance Zp.mk'{x y:E r n}{w v w' v':Nat}[hx:Zu u k x w v][hy:Zu u k y w' v']:Zp u k ((x,y):Pn r n) (max w w') (max v v') :=
  ⟨hx.nm.mono (LY (Nat.le_max_left ..) (Nat.le_max_left ..)),hy.nm.mono (LY (Nat.le_max_right ..) (Nat.le_max_right ..))⟩
def agi(p q:Pn r n):Pn r n:=(p.1+q.1,p.2+q.2)
def W3(p q:Pn r n):Pn r n:=(p.1-q.1,p.2-q.2)
def aio(c:E r n)(p:Pn r n):Pn r n:=(c*p.1,c*p.2)
def ab8(p q:Pn r n):E r n:=p.1*q.1+p.2*q.2
def aar(p q:Pn r n):E r n:=p.1*q.2-p.2*q.1
def alw(c s:E r n)(p:Pn r n):Pn r n:=(c*p.1-s*p.2,s*p.1+c*p.2)
def pQ(x y:Rat):Pn r n:=(qE x,qE y)
def Xs(p:Pn r n):Pn r n:=(-p.2,p.1)
instance Zp.add[c:Cx r n u k]{p q:Pn r n}{w v w' v':Nat}[hp:Zp u k p w v][hq:Zp u k q w' v']:Zp u k (agi p q) (w+w') (v+v'+1) :=
  ⟨(atm:Zu u k (p.1+q.1) (w+w') (v+v'+1)).nm,(atm:Zu u k (p.2+q.2) (w+w') (v+v'+1)).nm⟩
instance Zp.sub[c:Cx r n u k]{p q:Pn r n}{w v w' v':Nat}[hp:Zp u k p w v][hq:Zp u k q w' v']:Zp u k (W3 p q) (w+w') (v+v'+1) :=
  ⟨(atm:Zu u k (p.1-q.1) (w+w') (v+v'+1)).nm,(atm:Zu u k (p.2-q.2) (w+w') (v+v'+1)).nm⟩
instance Zp.scale[c:Cx r n u k]{a:E r n}{q:Pn r n}{w v w' v':Nat}[hp:Zu u k a w v][hq:Zp u k q w' v']:Zp u k (aio a q) (w+w') (v+v'+1) :=
  ⟨(atm:Zu u k (a*q.1) (w+w') (v+v'+1)).nm,(atm:Zu u k (a*q.2) (w+w') (v+v'+1)).nm⟩
instance Zu.dot[c:Cx r n u k]{p q:Pn r n}{w v w' v':Nat}[hp:Zp u k p w v][hq:Zp u k q w' v']:Zu u k (ab8 p q) (w+w'+(w+w')) (v+v'+1+(v+v'+1)+1) :=
  (atm:Zu u k (p.1*q.1+p.2*q.2) _ _)
instance Zu.cross[c:Cx r n u k]{p q:Pn r n}{w v w' v':Nat}[hp:Zp u k p w v][hq:Zp u k q w' v']:Zu u k (aar p q) (w+w'+(w+w')) (v+v'+1+(v+v'+1)+1) :=
  (atm:Zu u k (p.1*q.2-p.2*q.1) _ _)
instance Zp.turn[c:Cx r n u k]{a b:E r n}{p:Pn r n}{w v w' v' w2 v2:Nat}[ha:Zu u k a w v][hb:Zu u k b w' v'][hp:Zp u k p w2 v2] :
    Zp u k (alw a b p) (w+w2+(w'+w2)) (v+v2+1+(v'+v2+1)+1) :=
  ⟨(atm:Zu u k (a*p.1-b*p.2) _ _).nm,by
    have h:=(atm:Zu u k (b*p.1+a*p.2) _ _).nm;exact h.eq (by rw[ao7 (w'+w2),ao7 (v'+v2+1)])⟩
instance Zp.ofQ[c:Cx r n u k]{x y:Rat}{w w':Nat}[hx:Qz u x w][hy:Qz u y w']:Zp u k (pQ x y:Pn r n) (max w w') (max 0 0) :=
  (atm:Zp u k ((qE x,qE y):Pn r n) _ _)
instance Zp.quart{p:Pn r n}{w v:Nat}[hp:Zp u k p w v]:Zp u k (Xs p) w v:=⟨(atm:Zu u k (-p.2) w v).nm,hp.x⟩
end
theorem Mf(rs:List (List Rt)):(llq rs).length=rs.length:=by simp[llq]
abbrev Et(ts:LL):Type:=E (aI ts) ts.length
def dE(ts:LL)(a:List Rat):Et ts:=ai ts.length a
def sX{ts:LL}(x:Et ts):List Rat:=sh ts.length x
def be{ts:LL}(x:Et ts):Int:=T.sgn (aI ts) ts.length x
class Ct(ts:LL)(u k:outParam Nat):Prop where
  ex:∃R,Tw ts R/\eB R ts.length<=k
  k1:1<=k
  u3:3<=u
  ub:u<=1000000
  kb:k<=1000000
instance Ct.cx{ts:LL}{u k:Nat}[c:Ct ts u k]:Cx (aI ts) ts.length u k:=by
  obtain⟨R,tw,h⟩:=c.ex;exact⟨⟨R,OF tw▸tw,h⟩,c.k1,c.u3⟩
class Zl(ts:LL)(u k:Nat)(a:List Rat)(x:outParam (Et ts))(w v:outParam Nat):Prop where
  eq:ai ts.length a=x
  nm:Nm ts.length (w*u+v*k) a
section
variable{ts:LL}{u k:Nat}
instance Zl.sX{x:Et ts}{w v:Nat}[h:Zu u k x w v]:Zl ts u k (sX x) x w v:=⟨di _ _,h.nm⟩
instance Zl.q[c:Ct ts u k]{q:Rat}{w:Nat}[h:Qz u q w]:Zl ts u k (sh 0 (q:Rat)) (qE q:Et ts) w 0:=⟨nF _ q,by
  obtain⟨R,tw,_⟩:=c.ex;exact(Nm.ofQ tw.five h.cb).eq oz⟩
instance Zl.nil [c : Ct ts u k] : Zl ts u k [] (0 : Et ts) 0 0 := ⟨by rw [rz]; exact E.zero_def.symm, by
  obtain⟨R,tw,_⟩:=c.ex;exact⟨tw.five,.inl rfl,Cb.nil.mono (ase _)⟩⟩
theorem Zl.zu{a:List Rat}{x:Et ts}{w v:Nat}(h:Zl ts u k a x w v):Zu u k x w v:=⟨by
 have h1:=h.nm;have h2:=Cb.sh h1.cb h1.nl;rw[h.eq]at h2;exact⟨h1.five,iI _ _,h2⟩⟩
theorem Zl.at{a:List Rat}{e:Nat}(h:Nm ts.length e a)(he:e<=u):Zl ts u k a (dE ts a) 1 0:=⟨rfl,h.mono oz⟩
theorem Pf(c:Ct ts u k){w v m:Nat}(h:w+v<=m):w*u+v*k<=m*1000000:=by
 have h1:w*u<=w*1000000:=ash _ c.ub;have h2:v*k<=v*1000000:=ash _ c.kb;omega
theorem Zl.up(c:Ct ts u k){a:List Rat}{x:Et ts}{w v m:Nat}(h:Zl ts u k a x w v)(hm:w+v<=m):Nm ts.length (m*1000000) a:=h.nm.mono (Pf c hm)
theorem Ct.kk(c:Ct ts u k){R:Nat}(h:eB R ts.length<=k):kB R ts.length<=1000000:=asv h c.kb
def dotE(x y z t:Et ts):Et ts:=x*z+y*t
def crsE(x y z t:Et ts):Et ts:=x*t-y*z
instance Zu.dotE[c:Ct ts u k]{x y z t:Et ts}{w1 v1 w2 v2 w3 v3 w4 v4:Nat}[Zu u k x w1 v1][Zu u k y w2 v2][Zu u k z w3 v3][Zu u k t w4 v4]:Zu u k (dotE x y z t) (w1+w3+(w2+w4)) (v1+v3+1+(v2+v4+1)+1) :=
  (atm:Zu u k (x*z+y*t) _ _)
instance Zu.crsE[c:Ct ts u k]{x y z t:Et ts}{w1 v1 w2 v2 w3 v3 w4 v4:Nat}[Zu u k x w1 v1][Zu u k y w2 v2][Zu u k z w3 v3][Zu u k t w4 v4]:Zu u k (crsE x y z t) (w1+w4+(w2+w3)) (v1+v4+1+(v2+v3+1)+1) :=
  (atm:Zu u k (x*t-y*z) _ _)
end
def eK(xs:List Int):List Int:=xs.mergeSort (fun a b=>decide (a<=b))
theorem H2(xs:List Int):(eK xs).Perm xs:=List.mergeSort_perm _ _
theorem Yx(xs:List Int):(eK xs).Pairwise (· <= ·):=by
 have h:=List.pairwise_mergeSort (le:=fun a b:Int=>decide (a<=b)) (fun a b c h1 h2=>by simp only[atf]at *;omega) (fun a b=>by simp only[ata,atf];omega) xs;exact h.imp (fun h=>atg h)
theorem VZ{xs ys:List Int}(hp:ys.Perm xs)(hs:ys.Pairwise (· <= ·)):ys=eK xs :=
 List.Perm.eq_of_pairwise (le:=fun a b:Int=>a<=b) (fun a b _ _ h1 h2=>by omega) hs (Yx xs) (hp.trans (H2 xs).symm)
theorem CE(xs:List Int):(eK xs).length=xs.length:=(H2 xs).length_eq
theorem AG{xs:List Int}{b:Int}:b∈eK xs↔b∈xs:=(H2 xs).mem_iff
theorem QK(e:Nat)(l:List Nat):iH (e::l)=if e≠0 then e else iH l:=rfl
theorem DH{α:Type}{f:α->Nat}{L:List α}(h:∀x∈L,f x=0):iH (L.map f)=0:=by
 induction L with
 |nil=>rfl
 |cons x L ih =>
  rw[atb,QK,atd (by rw[h x (as2 ..)];simp)];exact ih (fun y hy=>h y (ass _ hy))
def fQ(g:Gr)(j:Jt):Int:=if g.bo.contains j.a=true then(if g.bo.contains j.b=true then -1 else j.b)else j.a
def b7(l:Li)(g:Gr):List Int:=g.jo.map (fun j=>fQ g (l.jo.getD j.toNat default))
theorem lV(l:Li)(g:Gr):(b7 l g).length=g.jo.length:=by unfold b7;rw[ar3]
theorem Wy{l:Li}(hl:ax l=0){g:Gr}(hg:GrOk l g):∀b∈b7 l g,b<l.bo.length:=by
 intro b hb;unfold b7 at hb;obtain⟨z,hz,rfl⟩:=aqd.1 hb;obtain⟨z0,z1⟩:=hg.j z hz;obtain⟨j,hj⟩:=aJ (l:=l.jo) (i:=z.toNat) oz;rw[aS hj];obtain⟨i1,i2,_⟩:=cJ hl hj;have i1:=fd i1;have i2:=fd i2;unfold fQ;split
 ·split
  ·omega
  ·omega
 ·omega
def dp(l:Li)(g:Gr)(own:Bool):List Int:=b7 l g++(if own=true then g.bo else[])
theorem AP{l:Li}(hl:ax l=0){g:Gr}(hg:GrOk l g){own:Bool}:∀b∈dp l g own,b<l.bo.length:=by
 intro b hb;rcases ar9.1 hb with hb |hb
 ·exact Wy hl hg b hb
 ·split at hb
  ·exact(hg.b b hb).2
  ·cases hb
theorem M6{l:Li}{g:Gr}(hg:GrOk l g){own:Bool}:(dp l g own).length<=5:=by
 unfold dp;have h1:=hg.lb;have h2:=hg.lj;rw[asx,lV];split
 ·omega
 ·simp only[asu];omega
def jA(a:As)(b:Int):Nat:=if b<0 then 0 else cr a.rs (a.bs.getD b.toNat default).l
def nD(l:Li)(k:Int):Gr:=(ay l).getD k.toNat default
def mo(l:Li)(k:Int)(a:As)(own:Bool):Nat :=
  if bS l≠0 then bS l else if k<0\/((ay l).length:Int)<=k then 9 else if a.bs.length≠l.bo.length then 10 else if bp a.rs≠0 then bp a.rs
  else iH ((eK (dp l (nD l k) own)).map (jA a))
def iT(l:Li)(k:Int)(a:As)(own:Bool):Nat:=if ax l≠0 then ax l else mo l k a own
section
variable{l:Li}{k:Int}{a:As}{own:Bool}
theorem uO(h:ax l=0):iT l k a own=mo l k a own:=by unfold iT;rw[atd oz]
theorem aj1{e:Nat}(he:(if ax l=0 then bS l else ax l)=e)(h:e≠0):iT l k a own=e:=by
 by_cases h1:ax l=0
 ·rw[ate h1]at he;rw[uO h1];unfold mo;rw[ate oz];exact he
 ·rw[atd h1]at he;unfold iT;rw[ate h1];exact he
theorem WG(h:(if ax l=0 then bS l else ax l)=0):ax l=0/\bS l=0:=by
 by_cases h1:ax l=0
 ·rw[ate h1]at h;exact⟨h1,h⟩
 ·rw[atd h1]at h;exact atk h h1
theorem aer(hs:bS l=0)(hk:k<0\/((ay l).length:Int)<=k):mo l k a own=9:=by unfold mo;rw[atd oz,ate hk]
theorem W4(hs:bS l=0)(hk:¬(k<0\/((ay l).length:Int)<=k))(hb:a.bs.length≠l.bo.length):mo l k a own=10:=by
 unfold mo;rw[atd oz,atd hk,ate hb]
theorem acz(hs:bS l=0)(hk:¬(k<0\/((ay l).length:Int)<=k))(hb:a.bs.length=l.bo.length)(hc:bp a.rs≠0):mo l k a own=bp a.rs:=by
 unfold mo;rw[atd oz,atd hk,atd oz,ate hc]
theorem M9(hs:bS l=0)(hk:¬(k<0\/((ay l).length:Int)<=k))(hb:a.bs.length=l.bo.length)(hc:bp a.rs=0):mo l k a own=iH ((eK (dp l (nD l k) own)).map (jA a)):=by
 unfold mo;rw[atd oz,atd hk,atd oz,atd oz]
end
structure DyOk(E:Nat)(l:Li)(k:Int)(a:As)(own:Bool)(i:Nat)(g:Gr):Prop where
  li:ax l=0
  sp:bS l=0
  hk:k=(i:Int)
  hg:(ay l)[i]?=some g
  ok:GrOk l g
  dy:DyK l g
  ln:a.bs.length=l.bo.length
  chk:bp a.rs=0
  nd:∀b∈dp l g own,jA a b=0
  sm:∀b∈dp l g own,0<=b->∀p,a.bs[b.toNat]?=some p->∀x∈p.l,NR x E
def FB(E:Nat)(l:Li)(k:Int)(a:As)(own:Bool):Prop:=∀b∈dp l (nD l k) own,0<=b->∀p,a.bs[b.toNat]?=some p->∀x∈p.l,NR x E
theorem NF{l:Li}{k:Int}{a:As}{own:Bool}{E:Nat}(hs:FB E l k a own)(h:iT l k a own=0):∃i g,DyOk E l k a own i g:=by
 unfold iT at h;split at h
 ·rename_i h1;exact atk h h1
 ·rename_i h1;have h1:=ar0.1 h1;unfold mo at h;split at h
  ·rename_i h2;exact atk h h2
  ·rename_i h2;split at h
   ·cases h
   ·rename_i h3;split at h
    ·cases h
    ·rename_i h4;split at h
     ·rename_i h5;exact atk h h5
     ·rename_i h5;obtain⟨g,hg⟩:=aJ (l:=ay l) (i:=k.toNat) oz;have e:nD l k=g:=aS hg;rw[e]at h;obtain⟨d1,d2⟩:=kF h1 (ar1 hg);refine⟨k.toNat,g,h1,by omega,by omega,hg,d2,d1,by omega,by omega,fun b hb=>?_,e▸hs⟩;exact wm h _ (aqd.2 ⟨b,AG.2 hb,rfl⟩)
theorem DyOk.body{E:Nat}{l:Li}{k:Int}{a:As}{own:Bool}{i:Nat}{g:Gr}(h:DyOk E l k a own i g){b:Int}(hb:b∈dp l g own)(h0:0<=b):∃p,a.bs[b.toNat]?=some p/\cr a.rs p.l=0/\∀x∈p.l,NR x E:=by
 have h1:=AP h.li h.ok b hb;obtain⟨p,hp⟩:=aJ (l:=a.bs) (i:=b.toNat) (by have:=h.ln;omega);have h2:=h.nd b hb;unfold jA at h2;rw[atd oz,aS hp]at h2;exact⟨p,hp,h2,h.sm b hb h0 p hp⟩
theorem agq(n:Nat):50000000000<=lm n:=pE n
theorem M4{k:Int}{n:Nat}(h:cond (aa .lss k 0) true (aa .geq k (n:Int))=true):k<0\/(n:Int)<=k:=by
 by_cases h1:k<0
 ·exact .inl h1
 ·refine .inr ?_;have h2:aa .lss k 0=false:=atj h1;rw[h2]at h;exact atg (p:=k>=n) h
theorem aaw{k:Int}{n:Nat}(h:cond (aa .lss k 0) true (aa .geq k (n:Int))=false):¬(k<0\/(n:Int)<=k):=by
 intro h1
 by_cases h2:k<0
 ·rw[show aa .lss k 0=true from ati h2]at h;cases h
 ·rw[show aa .lss k 0=false from atj h2]at h;have h3:¬(k>=n):=ath h;omega
theorem aff{k:Int}{n:Nat}(h:¬(k<0\/(n:Int)<=k)):∃i:Nat,k=i/\i<n:=⟨k.toNat,by omega,by omega⟩
theorem Wl{a b:Nat}(h:aa .neq (a:Int) (b:Int)=true):a≠b:=by
 have h1:((a:Int) != (b:Int))=true:=h;have h2:=bne_iff_ne.1 h1;omega
theorem YF{a b:Nat}(h:aa .neq (a:Int) (b:Int)=false):a=b:=by
 have h1:((a:Int) != (b:Int))=false:=h;have h2:(a:Int)=b:=by simpa only[bne_eq_false_iff_eq]using h1
 omega
theorem pa{r:(k:Nat)->T k}{n:Nat}(p q:Rat):(qE (p+q):E r n)=qE p+qE q:=T.ofQ_add n p q
theorem ada{r:(k:Nat)->T k}{n:Nat}(p:Rat):(qE (-p):E r n)=-qE p:=T.ofQ_neg n p
theorem mv{r:(k:Nat)->T k}{n:Nat}(p q:Rat):(qE (p-q):E r n)=qE p-qE q:=by
 rw[aq5,pa,ada];grind
theorem fJ{r:(k:Nat)->T k}{n:Nat}(p q:Rat):(qE (p*q):E r n)=qE p*qE q:=(T.mul_ofQ r n p q).symm
def az(l:Li)(body pt:Int):Rat×Rat:=(((bT l body).getD pt.toNat default).x.q,((bT l body).getD pt.toNat default).y.q)
abbrev qC(p:Rat×Rat):List AV:=[bl (rt p.1).neg,ws (rt p.1).num,ws (rt p.1).den,bl (rt p.2).neg,ws (rt p.2).num,ws (rt p.2).den]
abbrev qP(p:Rat×Rat):AV:=.agg (qC p)
structure Sm(e:Nat)(p:Rat×Rat):Prop where
  x:Qb e p.1
  y:Qb e p.2
structure MkP(l:Li)(body pt:Int)(n k:Nat)(bd:Bd)(m:Mk):Prop where
  hn:body=n
  hk:pt=k
  gbd:l.bo[n]?=some bd
  gm:bd.pts[k]?=some m
  ex:m.x=rt (az l body pt).1
  ey:m.y=rt (az l body pt).2
  sm:Sm 1000 (az l body pt)
theorem tN{l:Li}(hl:l.ok)(ae:ax l=0){body pt:Int}(h1:aZ body l.bo.length=true)(h2:aZ pt (bT l body).length=true):∃n k bd m,MkP l body pt n k bd m:=by
 obtain⟨bd,g1,g2,g3,g4⟩:=vi h1;rw[g2]at h2;obtain⟨m,g5,g6,g7,g8⟩:=zK h2;have hv:=ahk ae g1 g5;have ho:=(hl.bo bd g3).pts m g7;have e:az l body pt=(m.x.q,m.y.q):=by unfold az;rw[g2,g6]
 exact⟨body.toNat,pt.toNat,bd,m,by omega,by omega,g1,g5,by rw[e];exact Rt.eq_rt ho.x hv.1,by rw[e];exact Rt.eq_rt ho.y hv.2,by rw[e];exact⟨ho.qx.mono oz,ho.qy.mono oz⟩⟩
theorem bJ{l:Li}(hl:l.ok)(ae:ax l=0){body pt:Int}(h1:aZ body l.bo.length=true)(h2:aZ pt (bT l body).length=true):Sm 1000 (az l body pt):=by
 obtain⟨n,k,bd,m,h⟩:=tN hl ae h1 h2;exact h.sm
def aC(l:Li)(a:As)(body pt:Int):Et (llq a.rs)×Et (llq a.rs):=uq l a body pt
structure PlP(E:Nat)(l:Li)(a:As)(body pt:Int)(n k:Nat)(bd:Bd)(m:Mk)(b:Pl):Prop where
  mp:MkP l body pt n k bd m
  gb:a.bs[n]?=some b
  eq:uq l a body pt=oX (llq a.rs) b m
  av:b.av=Pq.av ⟨lq b.c,lq b.s,lq b.x,lq b.y⟩
  ok:Pq.ok (llq a.rs).length E ⟨lq b.c,lq b.s,lq b.x,lq b.y⟩
def Pd(E:Nat)(a:As)(body:Int):Prop:=∃p,a.bs[body.toNat]?=some p/\cr a.rs p.l=0/\∀x∈p.l,NR x E
theorem zi{E:Nat}{l:Li}(hl:l.ok)(ae:ax l=0){a:As}(al:AB a)(hc:bp a.rs=0){body pt:Int}(h1:aZ body l.bo.length=true)(h2:aZ pt (bT l body).length=true)(hb:Pd E a body):∃n k bd m b,PlP E l a body pt n k bd m b:=by
 obtain⟨n,k,bd,m,h⟩:=tN hl ae h1 h2;obtain⟨b,gb,hb,EB⟩:=hb;obtain⟨tw,_⟩:=jn al.tr hc;have h5:a.rs.length<=5:=by have:=tw.five;rwa [Mf]at this
 have h9:=Wu hb EB h5;have e:body.toNat=n:=by have:=h.hn;omega
 have e2:pt.toNat=k:=by have:=h.hk;omega
 rw[e]at gb;obtain⟨bd',g1,g2,_,_⟩:=vi h1;rw[e]at g1;have:bd'=bd:=Option.some.inj (g1.symm.trans h.gbd);subst this;refine⟨n,k,bd',m,b,h,gb,?_,h9.1,by rw[Mf];exact h9.2⟩;unfold uq;rw[e,e2,aS gb,g2,aS h.gm]
structure DyS(a:As):Prop where
  tr:TR a.rs 132000
  two:bp a.rs=0->(llq a.rs).length<=2
  ct:bp a.rs=0->Ct (llq a.rs) 310000 132100
structure DyT(a:As):Prop extends DyS a where
  one:bp a.rs=0->(llq a.rs).length<=1
theorem WH{a:As}(tr:TR a.rs 132000)(one:bp a.rs=0->(llq a.rs).length<=1):DyT a:=by
 refine⟨⟨tr,fun hc=>asv (one hc) oz,fun hc=>?_⟩,one⟩;obtain⟨tw,_⟩:=jn tr hc;refine⟨⟨132000,tw,?_⟩,by omega,by omega,by omega,by omega⟩;have h1:=o8 132000 (one hc);have h2:eB 132000 1=132002:=by simp only[eB]
 omega
theorem vK{l:Li}(hl:l.ok)(ae:ax l=0){a:As}(al:AB a)(S:DyS a)(hc:bp a.rs=0){body pt:Int}(h1:aZ body l.bo.length=true)(h2:aZ pt (bT l body).length=true)(hb:Pd 3900000 a body) :
  Zu 310000 132100 (aC l a body pt).1 40 40/\Zu 310000 132100 (aC l a body pt).2 40 40:=by
 obtain⟨n,k,bd,m,b,hp⟩:=zi hl ae al hc h1 h2 hb;obtain⟨R,tw,kb⟩:=(S.ct hc).ex;have kb:kB R (llq a.rs).length<=132100:=kb;have qx:Qb 1000 m.x.q:=by rw[hp.mp.ex,bE];exact hp.mp.sm.x
 have qy:Qb 1000 m.y.q:=by rw[hp.mp.ey,bE];exact hp.mp.sm.y
 have h:=IG tw hp.ok qx qy;unfold aC;rw[hp.eq];exact⟨⟨h.1.mono oz⟩,⟨h.2.mono oz⟩⟩
theorem tz{rs:List (List Rt)}{r:Nat}(h:TR rs r)(hc:bp rs=0):bA (llq rs)=.agg [.lst 1 (rs.map nR)]:=(jn h hc).2.symm
theorem ag7{x y:Option Blk}{k:Nat}{z:Blk}(h:lk [(1000,x),(1001,y)] k=some z):1000<=k:=by
 rw[aE]at h;split at h
 ·omega
 ·rw[aE]at h;split at h
  ·omega
  ·cases h
theorem tp{s:AS}{k k':Nat}{x y:Blk}(h:lk s.hp k=some x)(h':lk s.hp k'=some y):∀q z,lk [(k,some x),(k',some y)] q=some z->lk s.hp q=some z:=by
 intro q z hz;rw[aE]at hz;split at hz
 ·rename_i e;cases hz;rw[e];exact h
 ·rw[aE]at hz;split at hz
  ·rename_i e;cases hz;rw[e];exact h'
  ·cases hz
def a7(p q:Rat×Rat):Rat×Rat:=(p.1-q.1,p.2-q.2)
def dm(p q:Rat×Rat):Rat:=p.1*q.1+p.2*q.2
def od(p q:Rat×Rat):Rat:=p.1*q.2-p.2*q.1
theorem Sm.sub{e f:Nat}{p q:Rat×Rat}(hp:Sm e p)(hq:Sm f q):Sm (e+f+1) (a7 p q):=⟨hp.x.sub hq.x,hp.y.sub hq.y⟩
theorem Sm.dot{e f:Nat}{p q:Rat×Rat}(hp:Sm e p)(hq:Sm f q):Qb (e+f+(e+f)+1) (dm p q):=(hp.x.mul hq.x).add (hp.y.mul hq.y)
theorem Sm.cross{e f:Nat}{p q:Rat×Rat}(hp:Sm e p)(hq:Sm f q):Qb (e+f+(e+f)+1) (od p q):=(hp.x.mul hq.y).sub (hp.y.mul hq.x)
theorem Sm.mono{e f:Nat}{p:Rat×Rat}(hp:Sm e p)(h:e<=f):Sm f p:=⟨hp.x.mono h,hp.y.mono h⟩
theorem G0{q:Rat}{e w:Nat}(h:Qb e q)(he:e<=w*310000):Qz 310000 q w:=⟨(Cb.one h).mono he⟩
def aH(l:Li)(j:Jt)(b:Int):Rat×Rat:=if j.a=b then az l b j.point else az l b j.on
def aN(l:Li)(a:As)(j:Jt)(b:Int):Et (llq a.rs)×Et (llq a.rs):=if j.a=b then aC l a j.b j.on else aC l a j.a j.point
structure PinP(E:Nat)(l:Li)(a:As)(j:Jt)(b:Int):Prop where
  tie:(j.a=b/\Pd E a j.b)\/(j.a≠b/\j.b=b/\Pd E a j.a)
theorem PinP.or{E:Nat}{l:Li}{a:As}{j:Jt}{b:Int}(h:PinP E l a j b):j.a=b\/j.b=b:=by
 rcases h.tie with h9 |h9
 ·exact .inl h9.1
 ·exact .inr h9.2.1
theorem xB{l:Li}(hl:l.ok)(ae:ax l=0){a:As}(al:AB a)(S:DyS a)(hc:bp a.rs=0){i:Nat}{j:Jt}(hj:l.jo[i]?=some j){b:Int}(h:PinP 3900000 l a j b) :
  Zu 310000 132100 (aN l a j b).1 40 40/\Zu 310000 132100 (aN l a j b).2 40 40:=by
 obtain⟨i1,i2,i3,i4,_⟩:=cJ ae hj;unfold aN;rcases h.tie with⟨e,hb⟩ |⟨e,e2,hb⟩
 ·rw[ate e];exact vK hl ae al S hc i2 i4 hb
 ·rw[atd e];exact vK hl ae al S hc i1 i3 hb
theorem ki{l:Li}(hl:l.ok)(ae:ax l=0){i:Nat}{j:Jt}(hj:l.jo[i]?=some j){b:Int}(h:j.a=b\/j.b=b):Sm 1000 (aH l j b):=by
 obtain⟨i1,i2,i3,i4,_⟩:=cJ ae hj;unfold aH
 by_cases e:j.a=b
 ·rw[ate e];subst e;exact bJ hl ae i1 i3
 ·rw[atd e];rcases h with h |h
  ·exact atk h e
  ·subst h;exact bJ hl ae i2 i4
theorem Cq{bs:List Int}{b:Int}(h:b∈bs):bs.contains b=true:=api.2 h
theorem r7{bs:List Int}{b:Int}(h:b∉bs):bs.contains b=false:=by
 cases hc:bs.contains b with
 |false=>rfl
 |true=>exact atk (api.1 hc) h
theorem DyOk.ancs{E:Nat}{l:Li}{k:Int}{a:As}{own:Bool}{n:Nat}{g:Gr}(h:DyOk E l k a own n g){z b:Int}{j:Jt}(hz:z∈g.jo)(hj:l.jo[z.toNat]?=some j)(hb:fQ g j=b)(h0:0<=b):Pd E a b:=by
 refine h.body ?_ h0;unfold dp b7;refine List.mem_append_left _ (aqd.2 ⟨z,hz,?_⟩);rw[aS hj];exact hb
theorem DyOk.pin{E:Nat}{l:Li}{k:Int}{a:As}{own:Bool}{n:Nat}{g:Gr}(h:DyOk E l k a own n g){kd z b:Int}{j:Jt}{bs:List Int}(j4:g.bo=bs)(t:TieO l kd bs z b j)(hz:z∈g.jo)(hb:b∈bs):PinP E l a j b:=by
 subst j4;obtain⟨i1,i2,_⟩:=cJ h.li t.hj;have i1:=fd i1;have i2:=fd i2;rcases t.tie with⟨e,hn⟩ |⟨e,hn⟩
 ·refine⟨.inl ⟨e,h.ancs hz t.hj ?_ i2.1⟩⟩;unfold fQ;rw[ate (Cq (e▸hb)),atd (by rw[r7 hn];simp)]
 ·refine⟨.inr ⟨fun e2=>hn (e2▸hb),e,h.ancs hz t.hj ?_ i1.1⟩⟩;unfold fQ;rw[atd (by rw[r7 hn];simp)]
theorem DyOk.own{E:Nat}{l:Li}{k:Int}{a:As}{n:Nat}{g:Gr}(h:DyOk E l k a true n g){b:Int}(hb:b∈g.bo):Pd E a b:=by
 refine h.body ?_ (h.ok.b b hb).1;unfold dp;rw[ate rfl];exact List.mem_append_right _ hb
structure RrrP(E:Nat)(l:Li)(a:As)(g:Gr)(i k z0 z1 z2:Int)(j0 j1 j2:Jt):Prop where
  eq:g=⟨1,[i,k],[z0,z1,z2],0⟩
  h0:l.jo[z0.toNat]?=some j0
  h1:l.jo[z1.toNat]?=some j1
  h2:l.jo[z2.toNat]?=some j2
  p0:PinP E l a j0 i
  p1:PinP E l a j1 k
  t1:j2.a=i\/j2.b=i
  t2:j2.a=k\/j2.b=k
structure SlP(E:Nat)(l:Li)(a:As)(g:Gr)(kd i z0 z1:Int)(j0 j:Jt):Prop where
  eq:g=⟨kd,[i],[z0,z1],0⟩
  h0:l.jo[z0.toNat]?=some j0
  h1:l.jo[z1.toNat]?=some j
  p0:PinP E l a j0 i
  p1:PinP E l a j i
  hk:j.kind≠0
theorem DyOk.rrr{E:Nat}{l:Li}{k:Int}{a:As}{own:Bool}{n:Nat}{g:Gr}(h:DyOk E l k a own n g)(hk:g.kind=1):∃i k z0 z1 z2 j0 j1 j2,RrrP E l a g i k z0 z1 z2 j0 j1 j2:=by
 have hd:=h.dy;cases hd with
 |drv _ _ _ _=>exact atk hk (by simp)
 |pr _ _ _=>exact atk hk (by simp)
 |rp _ _ _=>exact atk hk (by simp)
 | @rrr i k z0 z1 z2 j0 j1 j2 ne t0 t1 h0 h2 kd tie =>
  refine⟨i,k,z0,z1,z2,j0,j1,j2,rfl,t0.hj,t1.hj,h2,h.pin rfl t0 (by simp) (by simp),h.pin rfl t1 (by simp) (by simp),?_,?_⟩
  ·rcases tie with h9 |h9
   ·exact .inl h9.1
   ·exact .inr h9.1
  ·rcases tie with h9 |h9
   ·exact .inr h9.2
   ·exact .inl h9.2
theorem DyOk.pr{E:Nat}{l:Li}{k:Int}{a:As}{own:Bool}{n:Nat}{g:Gr}(h:DyOk E l k a own n g)(hk:g.kind=2):∃i z0 z1 j0 j,SlP E l a g 2 i z0 z1 j0 j/\j.a=i/\Pd E a j.b:=by
 have hd:=h.dy;cases hd with
 |drv _ _ _ _=>exact atk hk (by simp)
 |rrr _ _ _ _ _ _ _=>exact atk hk (by simp)
 |rp _ _ _=>exact atk hk (by simp)
 | @pr i z0 z1 j0 j1 t0 t1 ha =>
  have p1:PinP E l a j1 i:=h.pin rfl t1 (by simp) (by simp);refine⟨i,z0,z1,j0,j1,⟨rfl,t0.hj,t1.hj,h.pin rfl t0 (by simp) (by simp),p1,by rw[t1.kd];decide⟩,ha,?_⟩;rcases p1.tie with h9 |h9
  ·exact h9.2
  ·exact atk ha h9.1
theorem DyOk.rp{E:Nat}{l:Li}{k:Int}{a:As}{own:Bool}{n:Nat}{g:Gr}(h:DyOk E l k a own n g)(h0:g.kind≠0)(h1:g.kind≠1)(h2:g.kind≠2):∃i z0 z1 j0 j,SlP E l a g 3 i z0 z1 j0 j/\j.a≠i/\j.b=i/\Pd E a j.a:=by
 have hd:=h.dy;cases hd with
 |drv _ _ _ _=>exact atk rfl h0
 |rrr _ _ _ _ _ _ _=>exact atk rfl h1
 |pr _ _ _=>exact atk rfl h2
 | @rp i z0 z1 j0 j1 t0 t1 ha =>
  have p1:PinP E l a j1 i:=h.pin rfl t1 (by simp) (by simp);refine⟨i,z0,z1,j0,j1,⟨rfl,t0.hj,t1.hj,h.pin rfl t0 (by simp) (by simp),p1,by rw[t1.kd];decide⟩,ha,?_⟩;rcases p1.tie with h9 |h9
  ·exact atk h9.1 ha
  ·exact⟨h9.2.1,h9.2.2⟩
def SY(a:As)(b:Int)(q:Rat×Rat):Et (llq a.rs)×Et (llq a.rs) :=
  (Dw (llq a.rs) (jC (llq a.rs) (a.bs.getD b.toNat default).c) (jC (llq a.rs) (a.bs.getD b.toNat default).s) (jC (llq a.rs) (a.bs.getD b.toNat default).x) q.1 q.2,
   AW (llq a.rs) (jC (llq a.rs) (a.bs.getD b.toNat default).c) (jC (llq a.rs) (a.bs.getD b.toNat default).s) (jC (llq a.rs) (a.bs.getD b.toNat default).y) q.1 q.2)
def da(c p:Rat×Rat):Rat:=dm (a7 c p) (a7 c p)
theorem aj4{e f:Nat}{c p:Rat×Rat}(hc:Sm e c)(hp:Sm f p):Qb (e+f+1+(e+f+1)+(e+f+1+(e+f+1))+1) (da c p):=(hc.sub hp).dot (hc.sub hp)
def ba(l:Li)(g:Gr)(n:Nat):Jt:=l.jo.getD (g.jo.getD n 0).toNat default
def cK(g:Gr)(n:Nat):Int:=g.bo.getD n 0
section
variable(l:Li)(a:As)
def pN(i:Int)(j:Jt):Rat×Rat:=a7 (az l i j.to) (az l i j.on)
def ep(i:Int)(j0 j:Jt):Rat:=od (pN l i j) (a7 (az l i j.on) (aH l j0 i))
def kL(i:Int)(j:Jt):Rat:=dm (pN l i j) (pN l i j)
def cZ{ts:LL}(p q:Et ts×Et ts):Et ts×Et ts:=(p.1-q.1,p.2-q.2)
def lG{ts:LL}(p q:Et ts×Et ts):Et ts:=dotE p.1 p.2 q.1 q.2
def rj{ts:LL}(p q:Et ts×Et ts):Et ts:=crsE p.1 p.2 q.1 q.2
def d6(i:Int)(j0 j:Jt):Et (llq a.rs)×Et (llq a.rs):=cZ (aC l a j.a j.point) (aN l a j0 i)
def fU(i:Int)(j0 j:Jt):Et (llq a.rs):=lG (d6 l a i j0 j) (d6 l a i j0 j)
def jS(g:Gr):Et (llq a.rs) :=
  if g.kind=0 then qE 1
  else if g.kind=1 then
    qE 4*(qE (da (aH l (ba l g 2) (cK g 0)) (aH l (ba l g 0) (cK g 0)))*lG (cZ (aN l a (ba l g 0) (cK g 0)) (aN l a (ba l g 1) (cK g 1))) (cZ (aN l a (ba l g 0) (cK g 0)) (aN l a (ba l g 1) (cK g 1))))
      - ((qE (da (aH l (ba l g 2) (cK g 0)) (aH l (ba l g 0) (cK g 0)))+lG (cZ (aN l a (ba l g 0) (cK g 0)) (aN l a (ba l g 1) (cK g 1))) (cZ (aN l a (ba l g 0) (cK g 0)) (aN l a (ba l g 1) (cK g 1))))-qE (da (aH l (ba l g 2) (cK g 1)) (aH l (ba l g 1) (cK g 1))))
        * ((qE (da (aH l (ba l g 2) (cK g 0)) (aH l (ba l g 0) (cK g 0)))+lG (cZ (aN l a (ba l g 0) (cK g 0)) (aN l a (ba l g 1) (cK g 1))) (cZ (aN l a (ba l g 0) (cK g 0)) (aN l a (ba l g 1) (cK g 1))))-qE (da (aH l (ba l g 2) (cK g 1)) (aH l (ba l g 1) (cK g 1))))
  else if g.kind=2 then
    lG (cZ (aC l a (ba l g 1).b (ba l g 1).to) (aC l a (ba l g 1).b (ba l g 1).on)) (cZ (aC l a (ba l g 1).b (ba l g 1).to) (aC l a (ba l g 1).b (ba l g 1).on))*qE (da (az l (cK g 0) (ba l g 1).point) (aH l (ba l g 0) (cK g 0)))
      - rj (cZ (aC l a (ba l g 1).b (ba l g 1).to) (aC l a (ba l g 1).b (ba l g 1).on)) (cZ (aN l a (ba l g 0) (cK g 0)) (aC l a (ba l g 1).b (ba l g 1).on))
        * rj (cZ (aC l a (ba l g 1).b (ba l g 1).to) (aC l a (ba l g 1).b (ba l g 1).on)) (cZ (aN l a (ba l g 0) (cK g 0)) (aC l a (ba l g 1).b (ba l g 1).on))
  else qE (kL l (cK g 0) (ba l g 1))*fU l a (cK g 0) (ba l g 0) (ba l g 1)-qE (ep l (cK g 0) (ba l g 0) (ba l g 1))*qE (ep l (cK g 0) (ba l g 0) (ba l g 1))
end
section
variable{E:Nat}{l:Li}{a:As}{g:Gr}
theorem RrrP.at{i k z0 z1 z2:Int}{j0 j1 j2:Jt}(h:RrrP E l a g i k z0 z1 z2 j0 j1 j2):ba l g 0=j0/\ba l g 1=j1/\ba l g 2=j2/\cK g 0=i/\cK g 1=k/\g.kind=1:=by
 rw[h.eq];exact⟨aS h.h0,aS h.h1,aS h.h2,rfl,rfl,rfl⟩
theorem SlP.at{kd i z0 z1:Int}{j0 j:Jt}(h:SlP E l a g kd i z0 z1 j0 j):ba l g 0=j0/\ba l g 1=j/\cK g 0=i/\g.kind=kd:=by
 rw[h.eq];exact⟨aS h.h0,aS h.h1,rfl,rfl⟩
end
section
variable{ts:LL}
def qv(p:Rat×Rat):Et ts×Et ts:=(qE p.1,qE p.2)
theorem yE(p q:Rat×Rat):cZ (qv p:Et ts×Et ts) (qv q)=qv (a7 p q):=by
 unfold cZ qv a7;rw[mv,mv]
theorem DX(p q:Rat×Rat):lG (qv p:Et ts×Et ts) (qv q)=qE (dm p q):=by
 unfold lG dotE qv dm;rw[pa,fJ,fJ]
def dL(p q:Et ts×Et ts):Et ts:=lG (cZ p q) (cZ p q)
theorem vX(p q:Rat×Rat):dL (qv p:Et ts×Et ts) (qv q)=qE (da p q):=by
 unfold dL da;rw[yE,DX]
theorem Ym(q:Rat):be (qE q:Et ts)=a9 q:=T.sgn_ofQ _ _ q
theorem yQ(x:Rat):0<=x*x:=by
 rcases(Rat.le_total:0<=x\/x<=0)with h |h
 ·exact aqz h h
 ·have h1 : 0 <= -x := by grind
  have h2:=aqz h1 h1;grind
theorem WJ(p q:Rat×Rat):0<=da p q:=by
 unfold da dm a7;have h1:=yQ (p.1-q.1);have h2:=yQ (p.2-q.2);dsimp only;grind
theorem SW(p q:Rat×Rat):0<=be (qE (da p q):Et ts):=by
 rw[Ym];have h:=WJ p q;unfold a9;split
 ·grind
 ·split <;> omega
def gT(p:Et ts×Et ts)(r:Et ts)(q:Et ts×Et ts)(s:Et ts):Et ts:=qE 4*(r*dL p q)-((r+dL p q)-s)*((r+dL p q)-s)
end
theorem ah3(l:Li)(a:As)(b pt:Int):aC l a b pt=SY a b (az l b pt):=rfl
section
variable{E:Nat}{l:Li}{a:As}{g:Gr}
theorem aa3{i k z0 z1 z2:Int}{j0 j1 j2:Jt}(h:RrrP E l a g i k z0 z1 z2 j0 j1 j2) :
  jS l a g=gT (aN l a j0 i) (dL (qv (aH l j2 i)) (qv (aH l j0 i))) (aN l a j1 k) (dL (qv (aH l j2 k)) (qv (aH l j1 k))):=by
 obtain⟨e0,e1,e2,b0,b1,hk⟩:=h.at;unfold jS gT;rw[atd oz,ate hk,e0,e1,e2,b0,b1,vX,vX];rfl
theorem Z5{i z0 z1:Int}{j0 j:Jt}(h:SlP E l a g 2 i z0 z1 j0 j) :
  jS l a g=lG (cZ (aC l a j.b j.to) (aC l a j.b j.on)) (cZ (aC l a j.b j.to) (aC l a j.b j.on))*dL (qv (az l i j.point)) (qv (aH l j0 i))
   - rj (cZ (aC l a j.b j.to) (aC l a j.b j.on)) (cZ (aN l a j0 i) (aC l a j.b j.on))*rj (cZ (aC l a j.b j.to) (aC l a j.b j.on)) (cZ (aN l a j0 i) (aC l a j.b j.on)):=by
 obtain⟨e0,e1,b0,hk⟩:=h.at;unfold jS;rw[atd oz,atd oz,ate hk,e0,e1,b0,vX]
end
def dc(j:Jt)(b:Int):Int:=if j.a=b then j.point else j.on
def br(j:Jt)(b:Int):Int:=if j.a=b then j.b else j.a
def aR(j:Jt)(b:Int):Int:=if j.a=b then j.on else j.point
theorem DyOk.ne{E:Nat}{l:Li}{k:Int}{a:As}{own:Bool}{n:Nat}{i k2 z0 z1 z2:Int}(h:DyOk E l k a own n ⟨1,[i,k2],[z0,z1,z2],0⟩):i≠k2:=by
 have hd:=h.dy;generalize hg:(⟨1,[i,k2],[z0,z1,z2],0⟩:Gr)=g at hd;cases hd with
 |drv _ _ _ _=>simp at hg
 |pr _ _ _=>simp at hg
 |rp _ _ _=>simp at hg
 |rrr ne _ _ _ _ _ _=>simp at hg;obtain⟨⟨rfl,rfl⟩,_⟩:=hg;exact ne
structure Bulk{H:Type}(bk:DataW H->Nat)(bka:List (DataW H)->Nat):Prop where
  one:∀d,1<=bk d
  nil:bka []=0
  cons:∀d l,bka (d::l)=bk d+bka l
  slice:∀e s,bka e+1<=bk (.slice e s)
  agg:∀l,bka l<=bk (.agg l)
section
variable{P:atq}{W:atr}{H:Type}{enc:atp×ato->H}{bk:DataW H->Nat}{bka:List (DataW H)->Nat}
theorem Bulk.pick(B:Bulk bk bka){α:Type}{m:α->Nat}:∀{l:List α}{xs:List (DataW H)},l.length<=xs.length->(∀(i:Nat)(a:α),l[i]?=some a->∃x,xs[i]?=some x/\m a<=bk x)->(l.map m).sum<=bka xs
 |[],xs,_,_=>by simp
 |a::l,[],hl,_=>by simp at hl
 |a::l,x::xs,hl,h=>by
  obtain⟨y,hy,h1⟩:=h 0 a rfl;cases hy;have h2:=B.pick (l:=l) (xs:=xs) (by simpa using hl) (fun i b hb=>h (i+1) b hb);rw[B.cons,atb,List.sum_cons];omega
def zB(P:atq)(W:atr)(enc:atp×ato->H)(bk:DataW H->Nat)(t:atp){α:Type}(f:α->AV)(p:α->Prop)(m:α->Nat):Prop :=
  ∀(sp:Nat->Bool)(fuel:Nat)(cs:List ato)(x:DataW H×List MemPlace),DataW.trod enc P W 0 sp true fuel t cs=some x->(∀n∈x.1.weights P t,n<=reachBytes)->∃a,p a/\rf W cs (f a).cells/\m a<=bk x.1
theorem eS.m{t:atp}{α:Type}{f:α->AV}{p:α->Prop}(h:eS P W enc t f p):zB P W enc bk t f p (fun _=>0):=by
 intro sp fuel cs x hx hw;obtain⟨a,h1,h2⟩:=h sp fuel cs x hx hw;exact⟨a,h1,h2,ase _⟩
theorem eS.m1(B:Bulk bk bka){t:atp}{α:Type}{f:α->AV}{p:α->Prop}(h:eS P W enc t f p):zB P W enc bk t f p (fun _=>1):=by
 intro sp fuel cs x hx hw;obtain⟨a,h1,h2⟩:=h sp fuel cs x hx hw;exact⟨a,h1,h2,B.one _⟩
theorem zB.map{α β:Type}{t:atp}{f:α->AV}{p:α->Prop}{m:α->Nat}(h:zB P W enc bk t f p m)(g:α->β)(f':β->AV)(p':β->Prop)(m':β->Nat)(hg:∀a,p a->p' (g a)/\f' (g a)=f a/\m' (g a)<=m a):zB P W enc bk t f' p' m':=by
 intro sp fuel cs x hx d5;obtain⟨a,ha,hc,hm⟩:=h sp fuel cs x hx d5;obtain⟨h1,h2,h3⟩:=hg a ha;exact⟨g a,h1,by rw[h2];exact hc,asv h3 hm⟩
end
open Go.Proofs
section
variable{W:atr}{H:Type}{enc:atp×ato->H}
theorem al8:eS prog W enc 87 (fun n:Nat=>u32 n) (fun n=>n<4294967296) :=
 (SF (k:=.u32) Tryz.underlying87).map Int.toNat _ _ (fun n h=>by
  have h1:0<=n/\n<=4294967295:=by simpa[Lit.wf,IntKind.min,IntKind.max,IntKind.signed,IntKind.bits]using h
  have h2:((n.toNat:Nat):Int)=n:=by omega
  exact⟨by omega,by unfold u32;rw[h2]⟩)
theorem RX:eS prog W enc 42 ws (fun l=>Ws l/\l.length<=281474976710656) :=
 (yg Tryz.underlying42 (n:=1) (by kernel_rfl) oz (by kernel_rfl) al8 (fun _=>rfl)).map id _ _ (fun l h=>⟨⟨fun x hx=>h.1 x hx,h.2⟩,rfl⟩)
theorem QV:eS prog W enc 4 bl (fun _=>True):=Z3 Tryz.underlying4
theorem tx:eS prog W enc 3 i64 (fun _=>True):=(SF (k:=.i64) Tryz.underlying3).map id _ _ (fun n h=>⟨trivial,rfl⟩)
theorem yN:eS prog W enc 9 (fun s:ByteArray=>AV.v (.string s)) (fun s=>s.size<=281474976710656):=W7 Tryz.underlying9
theorem Hr:eS prog W enc 44 Rt.av Rt.wok :=
 (tQ (n := 3) Tryz.underlying44 (by kernel_rfl)
  (.cons rfl (n:=1) (by kernel_rfl) QV (fun _=>rfl) (.cons rfl (n:=1) (by kernel_rfl) RX (fun _=>rfl) (.cons rfl (n:=1) (by kernel_rfl) RX (fun _=>rfl) (.nil _)))) (fun _=>rfl)).map
  (fun z=>⟨z.1,z.2.1,z.2.2.1⟩) _ _ (fun z h=>⟨⟨h.2.1.1,h.2.2.1.1⟩,rfl⟩)
theorem XJ:eS prog W enc 46 Tn.av (fun x=>x.t.wok) :=
 (tQ (n := 4) Tryz.underlying46 (by kernel_rfl) (.cons rfl (n := 3) (by kernel_rfl) Hr (fun _ => rfl) (.cons rfl (n := 1) (by kernel_rfl) QV (fun _ => rfl) (.nil _))) (fun _ => rfl)).map
  (fun z=>⟨z.1,z.2.1⟩) _ _ (fun z h=>⟨h.1,rfl⟩)
theorem alo:eS prog W enc 85 Mk.av (fun m=>m.name.size<=281474976710656/\m.x.wok/\m.y.wok) :=
 (tQ (n := 7) Tryz.underlying85 (by kernel_rfl)
  (.cons rfl (n:=1) (by kernel_rfl) yN (fun _=>rfl) (.cons rfl (n:=3) (by kernel_rfl) Hr (fun _=>rfl) (.cons rfl (n:=3) (by kernel_rfl) Hr (fun _=>rfl) (.nil _)))) (fun _=>rfl)).map
  (fun z=>⟨z.1,z.2.1,z.2.2.1⟩) _ _ (fun z h=>⟨⟨h.1,h.2.1,h.2.2.1⟩,rfl⟩)
theorem agh:eS prog W enc 83 Bd.av (fun b=>b.name.size<=281474976710656/\b.pts.length<=281474976710656/\∀m∈b.pts,m.name.size<=281474976710656/\m.x.wok/\m.y.wok) :=
 (tQ (n := 2) Tryz.underlying83 (by kernel_rfl)
  (.cons rfl (n:=1) (by kernel_rfl) yN (fun _=>rfl) (.cons rfl (n:=1) (by kernel_rfl) (yg Tryz.underlying81 (n:=7) (by kernel_rfl) oz (by kernel_rfl) alo (fun _=>rfl)) (fun _=>rfl) (.nil _))) (fun _=>rfl)).map
  (fun z=>⟨z.1,z.2.1⟩) _ _ (fun z h=>⟨⟨h.1,h.2.1.2,h.2.1.1⟩,rfl⟩)
theorem ak3:eS prog W enc 102 Jt.av (fun j=>j.name.size<=281474976710656) :=
 (tQ (n := 7) Tryz.underlying102 (by kernel_rfl)
  (.cons rfl (n := 1) (by kernel_rfl) yN (fun _ => rfl) (.cons rfl (n := 1) (by kernel_rfl) tx (fun _ => rfl) (.cons rfl (n := 1) (by kernel_rfl) tx (fun _ => rfl) (.cons rfl (n := 1) (by kernel_rfl) tx (fun _ => rfl)
   (.cons rfl (n:=1) (by kernel_rfl) tx (fun _=>rfl) (.cons rfl (n:=1) (by kernel_rfl) tx (fun _=>rfl) (.cons rfl (n:=1) (by kernel_rfl) tx (fun _=>rfl) (.nil _)))))))) (fun _=>rfl)).map
  (fun z=>⟨z.1,z.2.1,z.2.2.1,z.2.2.2.1,z.2.2.2.2.1,z.2.2.2.2.2.1,z.2.2.2.2.2.2.1⟩) _ _ (fun z h=>⟨h.1,rfl⟩)
theorem Zk:eS prog W enc 73 Dr.av (fun d=>d.name.size<=281474976710656) :=
 (tQ (n := 2) Tryz.underlying73 (by kernel_rfl) (.cons rfl (n := 1) (by kernel_rfl) yN (fun _ => rfl) (.cons rfl (n := 1) (by kernel_rfl) tx (fun _ => rfl) (.nil _))) (fun _ => rfl)).map
  (fun z=>⟨z.1,z.2.1⟩) _ _ (fun z h=>⟨h.1,rfl⟩)
abbrev liG(l:Li):List AV:=[.v (.string l.name),.lst 2 (l.bo.map Bd.av),.lst 7 (l.jo.map Jt.av),.lst 2 (l.drivers.map Dr.av)]
theorem aaa:eS prog W enc 26 (fun l:Li=>.agg (liG l)) Li.okw :=
 (tQ (n := 4) Tryz.underlying26 (by kernel_rfl)
  (.cons rfl (n := 1) (by kernel_rfl) yN (fun _ => rfl)
   (.cons rfl (n := 1) (by kernel_rfl) (yg Tryz.underlying22 (n := 2) (by kernel_rfl) oz (by kernel_rfl) agh (fun _ => rfl)) (fun _ => rfl)
    (.cons rfl (n := 1) (by kernel_rfl) (yg Tryz.underlying23 (n := 7) (by kernel_rfl) oz (by kernel_rfl) ak3 (fun _ => rfl)) (fun _ => rfl)
     (.cons rfl (n:=1) (by kernel_rfl) (yg Tryz.underlying24 (n:=2) (by kernel_rfl) oz (by kernel_rfl) Zk (fun _=>rfl)) (fun _=>rfl) (.nil _))))) (fun _=>rfl)).map
  (fun z=>⟨z.1,z.2.1,z.2.2.1,z.2.2.2.1⟩) _ _ (fun z h=>⟨⟨h.1,h.2.1.1,h.2.2.1.1,h.2.2.2.1.1,h.2.1.2,h.2.2.1.2,h.2.2.2.1.2⟩,rfl⟩)
end
open Go.Proofs Go.Proofs.YtmencaoblogmeaaGreat
open Go.ChangeShapes Go.WideShapes Go.ChangeAt Go.RowKit
theorem own:ownKnob prog.godebug=none:=by kernel_rfl
theorem Rv:laidOutB prog=true:=by kernel_rfl
theorem aca:prog.stopsHeard=true:=by kernel_rfl
theorem ahi:prog.plainKeys=true:=by kernel_rfl
theorem ak5:mapsRowed prog=true:=by kernel_rfl
theorem YS:prog.mayEnter=true:=by kernel_rfl
theorem XZ:prog.liftsFinal=false:=by kernel_rfl
theorem KX{H:Type}{enc:atp×ato->H}{W W':atr}{t:atp}{v:ato}{d:DataW H}{ps:List MemPlace}{sp':Nat->Bool}(hr:prog.readableRec t=true)(ht:t<prog.types.size)
  (h:DataW.Trod enc prog W 0 (fun _=>true) true t v d ps) (hb:Below W.heap.size W W') (hlt:∀x∈ps,x.block<W.heap.size) (hs:∀p∈ps,sp' p.block=true):DataW.Trod enc prog W' 0 sp' true t v d ps :=
 WideElems.Trod_stays Rv hr ht h (fun x hx=>hb.same (hlt x hx)) hs
end Go.Lw
namespace Go.Lw
def aq:List Rat->Rat->Rat
  |[],_=>0
  |c::p,t=>c+t*aq p t
def ptr:List Rat->List Rat
  |[]=>[]
  |c::p=>if ptr p=[]/\c=0 then[]else c::ptr p
def dV(p:List Rat):Prop:=ptr p=p
theorem jm:∀(p:List Rat)(t:Rat),aq (ptr p) t=aq p t
 |[],t=>rfl
 |c::p,t=>by
  have ih:=jm p t;unfold ptr;split
  ·rename_i h;rw[h.1]at ih;show 0=c+t*aq p t;rw[<- ih,h.2];show(0:Rat)=0+t*0;grind
  ·show c+t*aq (ptr p) t=c+t*aq p t;rw[ih]
theorem Rk:∀p:List Rat,ptr (ptr p)=ptr p
 |[]=>rfl
 |c::p=>by
  have ih:=Rk p
  by_cases h:ptr p=[]/\c=0
  ·rw[show ptr (c::p)=[]from ate h];rfl
  ·rw[show ptr (c::p)=c::ptr p from atd h];show(if ptr (ptr p)=[]/\c=0 then[]else c::ptr (ptr p))=c::ptr p;rw[ih,atd h]
theorem eH(p:List Rat):dV (ptr p):=Rk p
theorem dV.tail{c:Rat}{p:List Rat}(h:dV (c::p)):dV p:=by
 unfold dV ptr at h;split at h
 ·cases h
 ·exact(List.cons.inj h).2
theorem dV.ne{c:Rat}{p:List Rat}(h:dV (c::p))(hp:p=[]):c≠0:=by
 subst hp;intro hc;unfold dV ptr at h;rw[ate ⟨rfl,hc⟩]at h;cases h
theorem AZ:∀{p:List Rat},ptr p=[]↔∀c∈p,c=0
 |[]=>⟨fun _=>fun c h=>(by cases h),fun _=>rfl⟩
 |c::p=>by
  have ih:=AZ (p:=p);constructor
  ·intro h d hd;unfold ptr at h;split at h
   ·rename_i h1;rcases asj.1 hd with rfl |h2
    ·exact h1.2
    ·exact ih.1 h1.1 d h2
   ·cases h
  ·intro h;unfold ptr;rw[ate ⟨ih.2 (fun d hd=>h d (ass _ hd)),h c (as2 ..)⟩]
theorem ka:∀p:List Rat,(ptr p).length<=p.length
 |[]=>ar8 _
 |c::p=>by
  have ih:=ka p;unfold ptr;split
  ·exact ase _
  ·simp only[asi];omega
theorem R5:∀{p:List Rat}{c:Rat},c∈ptr p->c∈p
 |d::p,c,h=>by
  unfold ptr at h;split at h
  ·cases h
  ·rcases asj.1 h with rfl |h
   ·exact as2 ..
   ·exact ass _ (R5 h)
theorem FF{a b c:Rat}(h:a<=b)(hc:0<=c):c*a<=c*b:=Rat.mul_le_mul_of_nonneg_left h hc
theorem LG:∀(p:List Rat),ptr p≠[]->∃T δ:Rat,1<=T/\0<δ/\∀t,T<=t->δ<=aq p t\/aq p t <= -δ
 |[],h=>atk rfl h
 |c::p,h=>by
  by_cases hp:ptr p=[]
  ·have hc : c ≠ 0 := fun hc => h (by unfold ptr; rw [ate ⟨hp, hc⟩])
   have e:∀t,aq (c::p) t=c:=fun t=>by
    show c+t*aq p t=c;rw[<- jm p,hp];show c+t*0=c;grind
   rcases(Rat.le_total (a:=0) (b:=c))with h1 |h1
   ·exact⟨1,c,aq4,by grind,fun t _=>.inl (by rw[e];exact aq4)⟩
   ·exact⟨1,-c,aq4,by grind,fun t _=>.inr (by rw[e];grind)⟩
  ·obtain⟨T,δ,hT,hδ,hb⟩:=LG p hp
   obtain⟨M,h0,h1,h2⟩:∃M:Rat,0<=M/\c<=M /\ -c<=M:=by
    rcases(Rat.le_total (a:=0) (b:=c))with h1 |h1
    ·exact⟨c,h1,aq4,by grind⟩
    ·exact⟨-c,by grind,by grind,aq4⟩
   have hi:0<=M/δ:=by
    rw[Rat.div_def];exact aqz h0 (Rat.le_of_lt (Rat.inv_pos.2 hδ))
   have he:M/δ*δ=M:=Rat.div_mul_cancel (by grind);refine⟨T+1+M/δ,δ,by grind,hδ,fun t ht=>?_⟩;have htT:T<=t:=by grind
   have h3:δ+M<=t*δ:=by
    have h4:δ*(1+M/δ)<=δ*t:=FF (by grind) (Rat.le_of_lt hδ);grind
   have Ak:0<=t:=by grind
   show δ<=c+t*aq p t\/c+t*aq p t <= -δ;rcases hb t htT with h5 |h5
   ·left;have h6:=FF h5 Ak;grind
   ·right;have h6:=FF h5 Ak;grind
theorem Le{p:List Rat}(h:∀t,aq p t=0):ptr p=[]:=by
 refine Decidable.byContradiction fun hp=>?_
 obtain⟨T,δ,_,hδ,hb⟩:=LG p hp;have h1:=hb T aq4;rw[h T]at h1;rcases h1 with h1 |h1 <;> grind
def jD:List Rat->List Rat->Rat->List Rat
  |[],q,c=>q.map fun x=>c*x
  |a::p,[],_=>a::p
  |a::p,b::q,c=>(a+c*b)::jD p q c
theorem Lx(c t:Rat):∀q:List Rat,aq (q.map fun x=>c*x) t=c*aq q t
 |[]=>by show(0:Rat)=c*0;grind
 |b::q=>by
  have ih:=Lx c t q;show c*b+t*aq (q.map fun x=>c*x) t=c*(b+t*aq q t);rw[ih];grind
theorem xE(c t:Rat):∀p q:List Rat,aq (jD p q c) t=aq p t+c*aq q t
 |[],q=>by
  show aq (q.map fun x=>c*x) t=0+c*aq q t;rw[Lx];grind
 |a::p,[]=>by
  show a+t*aq p t=a+t*aq p t+c*0;grind
 |a::p,b::q=>by
  have ih:=xE c t p q;show(a+c*b)+t*aq (jD p q c) t=a+t*aq p t+c*(b+t*aq q t);rw[ih];grind
theorem qf(c:Rat):∀p q:List Rat,(jD p q c).length=max p.length q.length
 |[],q=>by show(q.map _).length=_;rw[ar3];simp
 |a::p,[]=>by show(a::p).length=max (a::p).length 0;omega
 |a::p,b::q=>by
  have ih:=qf c p q;show(jD p q c).length+1=max (p.length+1) (q.length+1);omega
theorem HP(c:Rat):∀(p q:List Rat)(i:Nat),(jD p q c).getD i 0=p.getD i 0+c*q.getD i 0
 |[],q,i=>by
  show(q.map fun x=>c*x).getD i 0=0+c*q.getD i 0;rw[ar2,ar2,asa];cases q[i]? with
  |none=>show(0:Rat)=0+c*0;grind
  |some x=>show c*x=0+c*x;grind
 |a::p,[],i=>by show(a::p).getD i 0=(a::p).getD i 0+c*0;grind
 |a::p,b::q,0=>rfl
 |a::p,b::q,i+1=>HP c p q i
theorem Te:∀{p q:List Rat},dV p->dV q->(∀c∈jD p q (-1),c=0)->p=q
 |[],q,hp,hq,h=>by
  have h1:∀c∈q,c=0:=fun c hc=>by
   have:=h (-1*c) (aqd.2 ⟨c,hc,rfl⟩);grind
  have h2:=AZ.2 h1;rw[hq]at h2;exact h2.symm
 |a::p,[],hp,hq,h=>by
  have h2:=AZ.2 h;rw[show jD (a::p) [] (-1)=a::p from rfl,hp]at h2;exact h2
 |a::p,b::q,hp,hq,h=>by
  have h1:=h (a+-1*b) (as2 ..);have h2:=Te hp.tail hq.tail (fun c hc=>h c (ass _ hc));rw[h2,show a=b by grind]
theorem pH{p q:List Rat}(hp:dV p)(hq:dV q)(h:∀t,aq p t=aq q t):p=q:=by
 refine Te hp hq (AZ.1 (Le fun t=>?_));rw[xE,h];grind
def padd(p q:List Rat)(c:Rat):List Rat:=ptr (jD p q c)
theorem eC(p q:List Rat)(c t:Rat):aq (padd p q c) t=aq p t+c*aq q t:=by unfold padd;rw[jm,xE]
def pc:List Rat->List Rat->List Rat
  |[],_=>[]
  |a::p,q=>jD (0::pc p q) q a
def gz(p q:List Rat):List Rat:=ptr (pc p q)
theorem HD(t:Rat):∀p q:List Rat,aq (pc p q) t=aq p t*aq q t
 |[],q=>by show(0:Rat)=0*aq q t;grind
 |a::p,q=>by
  have ih:=HD t p q;show aq (jD (0::pc p q) q a) t=(a+t*aq p t)*aq q t;rw[xE];show 0+t*aq (pc p q) t+a*aq q t=_;rw[ih];grind
theorem kM(p q:List Rat)(t:Rat):aq (gz p q) t=aq p t*aq q t:=by unfold gz;rw[jm,HD]
theorem Lr(p:List Rat):gz p []=[]:=Le fun t=>by rw[HD];show aq p t*0=0;grind
theorem Rh:∀p q:List Rat,q≠[]->p≠[]->(pc p q).length+1=p.length+q.length
 |[],q,hq,hp=>atk rfl hp
 |[a],q,hq,_=>by
  show(jD (0::[]) q a).length+1=1+q.length;rw[qf];have:=aqb.2 hq;simp only[asi,asu];omega
 |a::b::p,q,hq,_=>by
  have ih:=Rh (b::p) q hq (by simp);show(jD (0::pc (b::p) q) q a).length+1=_;rw[qf];simp only[asi]at ih ⊢;omega
def dvL:List Rat->List Rat×Rat×Rat
  |[]=>([],0,0)
  |c::p=>((dvL p).2.2::(dvL p).1,c-(dvL p).2.2,(dvL p).2.1)
theorem SK(t:Rat):∀p:List Rat,aq p t=aq (dvL p).1 t*(1+t*t)+(dvL p).2.1+(dvL p).2.2*t
 |[]=>by show(0:Rat)=0*(1+t*t)+0+0*t;grind
 |c::p=>by
  have ih:=SK t p;show c+t*aq p t=((dvL p).2.2+t*aq (dvL p).1 t)*(1+t*t)+(c-(dvL p).2.2)+(dvL p).2.1*t;rw[ih];grind
def dvQ(p:List Rat):List Rat:=ptr (dvL p).1
def gX(p:List Rat):List Rat:=ptr [(dvL p).2.1,(dvL p).2.2]
theorem I3(p:List Rat)(t:Rat):aq p t=aq (dvQ p) t*(1+t*t)+aq (gX p) t:=by
 unfold dvQ gX;rw[jm,jm,SK t p];show _=_+((dvL p).2.1+t*((dvL p).2.2+t*0));grind
theorem W5(p:List Rat):(gX p).length<=2:=ka _
def uL(p:List Rat):List Rat:=jD (0::0::p) p 1
theorem aii(p:List Rat)(t:Rat):aq (uL p) t=aq p t*(1+t*t):=by
 unfold uL;rw[xE];show 0+t*(0+t*aq p t)+1*aq p t=_;grind
theorem yU{c:Rat}{p:List Rat}(hp:dV p)(h:p=[]->c≠0):dV (c::p):=by
 unfold dV ptr;rw[hp];split
 ·rename_i h1;exact atk h1.2 (h h1.1)
 ·rfl
theorem MR(c:Rat):∀{p q:List Rat},dV p->q.length<p.length->dV (jD p q c)
 |[],q,_,h=>by simp at h
 |a::p,[],hp,_=>hp
 |a::p,b::q,hp,h=>by
  have h1:q.length<p.length:=by simp only[asi]at h;omega
  refine yU (MR c hp.tail h1) (fun h2=>?_);have h3:=qf c p q;rw[h2]at h3;simp only[asu]at h3;omega
theorem ab9{p:List Rat}(hp:dV p)(h:p≠[]):dV (uL p):=MR 1 (yU (yU hp (fun e=>atk e h)) (fun e=>by cases e)) (by simp only[asi];omega)
theorem XO(p:List Rat):(uL p).length=p.length+2:=by unfold uL;rw[qf];simp only[asi];omega
theorem HJ{p Q R:List Rat}(hQ:dV Q)(hR:dV R)(h2:R.length<=2)(h:∀t,aq p t=aq Q t*(1+t*t)+aq R t):Q=dvQ p/\R=gX p:=by
 have e:∀t,aq (padd Q (dvQ p) (-1)) t*(1+t*t)=aq (padd (gX p) R (-1)) t:=fun t=>by
  rw[eC,eC];have h1:=h t;have h3:=I3 p t;grind
 have hD:padd Q (dvQ p) (-1)=[]:=by
  refine Decidable.byContradiction fun aO=>?_
  have h4:uL (padd Q (dvQ p) (-1))=padd (gX p) R (-1):=pH (ab9 (eH _) aO) (eH _) (fun t=>by rw[aii];exact e t);have h5:=atl List.length h4;rw[XO]at h5
  have h6:(padd (gX p) R (-1)).length<=2:=by
   refine asv (ka _) ?_;rw[qf];have:=W5 p;omega
  have h7:=aqb.2 aO;omega
 have hq:Q=dvQ p:=pH hQ (eH _) (fun t=>by
  have h1:=eC Q (dvQ p) (-1) t;rw[hD]at h1;have h3:aq ([]:List Rat) t=0:=rfl;grind)
 refine⟨hq,pH hR (eH _) (fun t=>?_)⟩;have h1:=h t;have h3:=I3 p t;have h4:aq Q t=aq (dvQ p) t:=by rw[<- hq]
 rw[h4]at h1;have h5:aq R t=aq (gX p) t:=by grind
 exact h5
theorem LE{p K:List Rat}(h:∀t,aq p t=aq K t*(1+t*t)):dvQ p=ptr K/\gX p=[]:=by
 obtain⟨h1,h2⟩:=HJ (p:=p) (eH K) (rfl:dV []) (by simp) (fun t=>by rw[h,jm];show _=_+(0:Rat);grind);exact⟨h1.symm,h2.symm⟩
def Pb(e:Nat)(p:List Rat):Prop:=∀c∈p,Qb e c
theorem Pb.mono{e f:Nat}{p:List Rat}(h:Pb e p)(hf:e<=f):Pb f p:=fun c hc=>(h c hc).mono hf
theorem Pb.tr{e:Nat}{p:List Rat}(h:Pb e p):Pb e (ptr p):=fun c hc=>h c (R5 hc)
theorem Pb.map{e k:Nat}{c:Rat}{p:List Rat}(h:Pb e p)(hc:Qb k c):Pb (k+e) (p.map fun x=>c*x):=fun x hx=>by
 obtain⟨y,hy,rfl⟩:=aqd.1 hx;exact hc.mul (h y hy)
theorem Pb.lin{e f k:Nat}{c:Rat}(hc:Qb k c):∀{p q:List Rat},Pb e p->Pb f q->Pb (e+(k+f)+1) (jD p q c)
 |[],q,_,hq=>(hq.map hc).mono oz
 |a::p,[],hp,_=>hp.mono oz
 |a::p,b::q,hp,hq=>fun x hx=>by
  rcases asj.1 hx with rfl |h
  ·exact(hp a (as2 ..)).add (hc.mul (hq b (as2 ..)))
  ·exact Pb.lin hc (p:=p) (q:=q) (fun y hy=>hp y (ass _ hy)) (fun y hy=>hq y (ass _ hy)) x h
theorem Pb.add{e f k:Nat}{c:Rat}{p q:List Rat}(hc:Qb k c)(hp:Pb e p)(hq:Pb f q):Pb (e+(k+f)+1) (padd p q c):=(hp.lin hc hq).tr
theorem Pb.mulL{e f:Nat}:∀{p q:List Rat},Pb e p->Pb f q->Pb (p.length*(e+f+1)+1) (pc p q)
 |[],q,_,_=>fun x hx=>by cases hx
 |a::p,q,hp,hq=>by
  have ih:=Pb.mulL (p:=p) (fun y hy=>hp y (ass _ hy)) hq
  have h0:Pb (p.length*(e+f+1)+1) (0::pc p q):=fun x hx=>by
   rcases asj.1 hx with rfl |h
   ·exact Qb.zero.mono oz
   ·exact ih x h
  have h1:=h0.lin (hp a (as2 ..)) hq;refine h1.mono ?_;rw[asi,an5];omega
theorem Pb.mul{e f:Nat}{p q:List Rat}(hp:Pb e p)(hq:Pb f q):Pb (p.length*(e+f+1)+1) (gz p q):=(hp.mulL hq).tr
theorem Pb.dvL{e:Nat}:∀{p:List Rat},Pb e p->Pb (p.length*(e+1)+1) (Lw.dvL p).1/\Qb (p.length*(e+1)+1) (Lw.dvL p).2.1/\Qb (p.length*(e+1)+1) (Lw.dvL p).2.2
 |[],_=>⟨fun x hx=>(by cases hx),Qb.zero.mono oz,Qb.zero.mono oz⟩
 |c::p,hp=>by
  obtain⟨h1,h2,h3⟩:=Pb.dvL (p:=p) (fun y hy=>hp y (ass _ hy));have hl:(c::p).length*(e+1)+1=p.length*(e+1)+1+(e+1):=by rw[asi,an5];omega
  refine⟨fun x hx=>?_,?_,?_⟩
  ·rcases asj.1 hx with rfl |h
   ·exact h3.mono oz
   ·exact(h1 x h).mono oz
  ·exact((hp c (as2 ..)).sub h3).mono oz
  ·exact h2.mono oz
theorem Pb.dvQ{e:Nat}{p:List Rat}(h:Pb e p):Pb (p.length*(e+1)+1) (Lw.dvQ p):=h.dvL.1.tr
theorem GM(p q:List Rat)(c:Rat):(padd p q c).length<=max p.length q.length:=asv (ka _) (Nat.le_of_eq (qf c p q))
theorem Ro(p q:List Rat):(gz p q).length<=p.length+q.length-1:=by
 by_cases hp:p=[]
 ·subst hp;exact ase _
 by_cases hq:q=[]
 ·subst hq;rw[Lr];exact ase _
 have h:=Rh p q hq hp;have h2:=ka (pc p q);unfold gz;omega
theorem U7(p:List Rat):(dvQ p).length<=p.length:=by
 have h:∀p:List Rat,(dvL p).1.length=p.length:=fun p=>by
  induction p with
  |nil=>rfl
  |cons c p ih=>show(dvL p).1.length+1=p.length+1;rw[ih]
 exact asv (ka _) (Nat.le_of_eq (h p))
theorem Jc(n:Nat)(t:Rat):aq (apf n 0) t=0:=by
 induction n with
 |zero=>rfl
 |succ n ih =>
  rw[List.replicate_succ];show 0+t*aq (apf n 0) t=0;rw[ih];grind
theorem zI(v t:Rat):∀(l:List Rat)(j:Nat),j<l.length->aq (l.set j v) t=aq l t+(v-l.getD j 0)*t^j
 |[],j,h=>by simp at h
 |c::l,0,_=>by
  show v+t*aq l t=c+t*aq l t+(v-c)*t^0;rw[Rat.pow_zero];grind
 |c::l,j+1,h=>by
  have ih:=zI v t l j (by simpa using h);show c+t*aq (l.set j v) t=c+t*aq l t+(v-l.getD j 0)*t^(j+1);rw[ih,Rat.pow_succ];grind
theorem wA(t:Rat):∀{l:List Rat}{n:Nat}{c:Rat},l[n]?=some c->aq (l.take (n+1)) t=aq (l.take n) t+t^n*c
 |[],n,c,h=>by simp at h
 |d::l,0,c,h=>by
  simp at h;subst h;show d+t*0=0+t^0*d;rw[Rat.pow_zero];grind
 |d::l,n+1,c,h=>by
  have ih:=wA t (l:=l) (n:=n) (c:=c) (by simpa using h);show d+t*aq (l.take (n+1)) t=d+t*aq (l.take n) t+t^(n+1)*c;rw[ih,Rat.pow_succ];grind
theorem WV(t:Rat){l:List Rat}{n:Nat}{c:Rat}(h:l[n]?=some c):aq (l.drop n) t=c+t*aq (l.drop (n+1)) t:=by
 rw[ap7 (ap9.1 h).1,(ap9.1 h).2];rfl
theorem iU{l:List Rat}{i:Nat}(h:i<l.length):l[i]?=some (l.getD i 0):=by
 rw[ar2,ar7 h];rfl
theorem Xp{l:List Rat}{i:Nat}(h:l.length<=i):l.getD i 0=0:=by rw[ar2,asg h];rfl
theorem pI(l:List Rat)(i j:Nat)(v:Rat)(h:i<l.length):(l.set i v).getD j 0=if j=i then v else l.getD j 0:=by
 rw[ar2,ar2,List.getElem?_set]
 by_cases e:i=j
 ·rw[ate e,ate e.symm,ate h];rfl
 ·rw[atd e,atd (fun h=>e h.symm)]
theorem zM{e:Nat}{p:List Rat}(h:Pb e p)(i:Nat):Qb (e+1) (p.getD i 0):=by
 by_cases hi:i<p.length
 ·exact(h _ (ar1 (iU hi))).mono oz
 ·rw[Xp oz];exact Qb.zero.mono oz
theorem Bf{e:Nat}{p:List Rat}(h:∀i,Qb e (p.getD i 0)):Pb e p:=fun c hc=>by
 obtain⟨i,hi⟩:=List.getElem?_of_mem hc;have h1:=h i;rw[ar2,hi]at h1;exact h1
theorem Gb{e:Nat}{p:List Rat}(h:Pb e p)(he:e<=1000000000000)(i:Nat):Qs (p.getD i 0):=(zM h i).qs oz
open Go.Proofs
theorem N7(m:List Nat)(hm:Ws m)(hl:m.length<=iu):FP 205 [ws m] (bl (!decide (m=[])&&(⟨false,m⟩:Wh).valid)):=by
 refine am func205 ?_;refine gl ?_;refine cG ?_;refine kG (fun h=>(gG (by simp[aa]at h;omega) (by unfold iu at hl;unfold aF;exact asv hl oz))) ?_;refine nJ (fun h=>(cB (i:=m.length-1) (by simp[aa]at h;omega))) ?_;refine ah ?_
 by_cases h:m=[]
 ·subst h;rfl
 ·have h1:0 < m.length:=aqb.2 h;have h2:aa .gtr (m.length:Int) 0 = true:=by simp [aa,h1]
  simp only[bl,h,decide_false,Bool.not_false,are,Wh.valid,aqa,lI (show m.length-1<m.length by omega),aa];congr 2;generalize ak m _=x;rw[aq8];simp[h1]
theorem HM:FP 175 [] (zA 1):=by
 refine am func175 ?_;refine gc (N2 1 oz) ?_;refine ah ?_
 first |rfl |(simp;done)
theorem zn(r:Rt)(h:r.ok):FP 106 [r.av] (bl r.valid):=by
 have hr:=h;have hn:=h.n0;have hd:=h.d0;have sr:r.num.length<=137438953472:=h.2.2.1;have sE:r.den.length<=137438953472:=h.2.2.2;refine am func106 ?_;refine gl ?_;refine cG ?_;refine gC (fun t12=>?_) (fun t12=>?_)
 ·have h0 : r.num = [] /\ r.den = [] := by simpa [aa] using t12
  refine ah ?_;unfold Rt.valid;rw[ate h0];rfl
 have h0:¬(r.num=[]/\r.den=[]):=by
  have:=t12;simp[aa]at this;exact fun h=>this h.1 h.2
 refine gc (N7 r.num hr.1 hr.2.2.1) ?_;refine bV (fun _=>(N7 r.den hr.2.1 hr.2.2.2)) ?_;refine bV (fun _=>(RG r.n0 r.d0 hn hd (by show r.num.length+r.den.length<_;unfold aA;omega))) ?_;refine bV (fun _=>HM) ?_;refine bV (fun _=>(aks (Rt.gcd_zs hr) BW)) ?_;refine ah ?_;exact atl bl (YI h0).symm
theorem q9(r:Rt)(h:r.ok):FP 200 [r.av] (.tup [zA r.q.num,zA r.q.den]):=by
 have sr:r.num.length<=137438953472:=h.2.2.1;have sE:r.den.length<=137438953472:=h.2.2.2;refine am func200 ?_;refine gc (zn r h) ?_;refine cG ?_;refine gC (fun t12=>?_) (fun t12=>?_)
 ·have h0:¬(r.valid=true/\r.num≠[]):=by
   have:=t12;intro h';simp[aa,h'.1,h'.2]at this
  refine gc HM ?_;refine gR ?_;exact ft (by rw[Rt.zero h0];exact Sub.tup (.cons Kx (.cons (.refl _) .nil)))
 have h0:r.valid=true/\r.num≠[]:=by
  have:=t12;cases hv:r.valid
  ·rw[hv]at this;cases this
  ·rw[hv]at this;exact⟨rfl,by simpa[aa]using this⟩
 obtain⟨e1,e2,e3,e4,e5,e6⟩:=Rt.parts h h0.1 h0.2;refine gD ?_;refine bu ?_;rw[e1,e2];exact KH e3 e4 e5
theorem zG{n d:Int}(hn:Zs n)(hd:Zs d)(h0:d≠0):FP 173 [zA n,zA d] (qA (aq3 n d)):=by
 refine am func173 ?_;refine gc (BO hn) ?_;refine gC (fun z=>?_) (fun z=>?_)
 ·have e0 : n=0 := aql.1 (by simpa[aa]using z);refine gR ?_;exact nk (by rw[e0,Rat.zero_divInt];exact l6)
 have e0:n≠0:=fun h=>by rw[h]at z;cases z
 refine gc (BO hd) ?_;refine PF [2,3,4] [4] (fun(n1 d1:Int)=>[]) (fun n1 d1=>[pP 2 (.box (zA n1).cells),pP 3 (.box (zA d1).cells)]) (fun n1 d1=>0<d1/\n1≠0/\Zs n1/\Zs d1/\aq3 n1 d1=aq3 n d) ?_ ?_
 ·intro K1 J1;refine gC (fun t18=>?_) (fun t18=>?_)
  ·have e1 : d<0 := aqr.1 (by have := aqp d;have h9 : d.sign<0 := (by simpa[aa]using t18);omega);refine gc (Jh hn) ?_;refine gc (Jh hd) ?_;refine gD ?_;exact B4 J1 (-n) (-d) ⟨by omega,by omega,hn.neg,hd.neg,Oa n d⟩
  have e1:0<d:=by
   have h9:0<=d.sign:=by simpa[aa]using t18
   have:=aqj.1 h9;omega
  exact B4 J1 n d ⟨e1,e0,hn,hd,rfl⟩
 rintro n1 d1 ⟨f1,f2,f3,f4,f5⟩;have g2:Zs (aqn n1 d1:Int):=f3.of_le (by rw[as1];exact Nat.le_of_dvd oz (Int.gcd_dvd_natAbs_left _ _));have g3:(aqn n1 d1:Int)≠0:=by have:=Int.gcd_pos_of_ne_zero_left d1 f2;omega
 refine gc (Zd f3 f4) ?_;refine gc (MG f3 g2 g3) ?_;refine gc (MG f4 g2 g3) ?_;refine ah ?_;rw[<- f5,<- Zf f1 f2];rfl
theorem ahh{n d:Int}(hn:Zs n)(hd:Zs d):FP 404 [zA n,zA d] (.tup [qA (aq3 n d),i64 (if d=0 then 8 else 0)]):=by
 refine am func404 ?_;refine gc (BO hd) ?_;refine gC (fun z=>?_) (fun z=>?_)
 ·have h0 : d=0 := aql.1 (by simpa[aa]using z);refine gR ?_;exact ft (by rw[ate h0,h0,Rat.divInt_zero];exact Sub.tup (.cons l6 (.cons (.refl _) .nil)))
 have h0:d≠0:=fun h=>by rw[h]at z;cases z
 refine gc (zG hn hd h0) ?_;refine bu ?_;rw[atd h0];rfl
theorem ww(n:Int)(h:-9223372036854775808<=n/\n<=9223372036854775807):FP 82 [i64 n] (qA n):=by
 have hz:Zs n:=⟨2,by omega,by unfold Lz;simp only[Nat.reducePow];omega⟩
 refine am func82 ?_;refine gc (N2 n h) ?_;refine gc HM ?_;refine gc (zG hz BW oz) ?_;refine ah ?_;exact atl qA (aq1 (n:Rat))
theorem OW(a:Rt)(ha:a.ok):FP 197 [a.av] (qA (-a.q)):=by
 have za:=ha.qs;refine am func197 ?_;refine gc (q9 a ha) ?_;refine gc (Jh za.num) ?_;refine gc (zG za.num.neg za.den (by have:=a.q.den_nz;omega)) ?_;refine gD ?_;refine ah ?_;rw[Q7];rfl
theorem HU(a:Rt)(ha:a.ok):FP 107 [a.av] (i64 (a9 a.q)):=by
 refine am func107 ?_;refine gc (q9 a ha) ?_;refine gc (BO ha.qs.num) ?_;refine ah ?_;rw[Nv]
theorem GJ(a b:Rt)(ha:a.ok)(hb:b.ok):FP 193 [a.av,b.av] (qA (a.q+b.q)):=by
 have za:=ha.qs;have zb:=hb.qs;have m1:=za.mul zb;have m2:=zb.mul za;refine am func193 ?_;refine gc (q9 a ha) ?_;refine gc (q9 b hb) ?_;refine gc (tV za.num zb.den) ?_;refine gc (tV zb.num za.den) ?_;refine gc (agm m1.1 m2.1) ?_;refine gc (tV za.den zb.den) ?_;refine gc (zG (za.cross zb) m1.2.2.1 (aqm (by have:=a.q.den_nz;omega) (by have:=b.q.den_nz;omega))) ?_;refine gD ?_;refine ah ?_;rw[Jf];rfl
theorem QF(a b:Rt)(ha:a.ok)(hb:b.ok):FP 96 [a.av,b.av] (qA (a.q-b.q)):=by
 refine am func96 ?_;refine gc (OW b hb) ?_;refine gc (GJ a (rt (-b.q)) ha hb.qs.neg.ok) ?_;refine gD ?_;refine ah ?_;rw[bE,<- aq5];rfl
theorem Xw(a b:Rt)(ha:a.ok)(hb:b.ok):FP 99 [a.av,b.av] (qA (a.q*b.q)):=by
 have za:=ha.qs;have zb:=hb.qs;have m1:=za.mul zb;refine am func99 ?_;refine gc (q9 a ha) ?_;refine gc (q9 b hb) ?_;refine gc (tV za.num zb.num) ?_;refine gc (tV za.den zb.den) ?_;refine gc (zG m1.2.1 m1.2.2.1 (aqm (by have:=a.q.den_nz;omega) (by have:=b.q.den_nz;omega))) ?_;refine gD ?_;refine ah ?_;rw[Hy];rfl
theorem alc(a b:Rt)(ha:a.ok)(hb:b.ok):FP 371 [a.av,b.av] (.tup [qA (a.q/b.q),i64 (if b.q=0 then 8 else 0)]):=by
 have za:=ha.qs;have zb:=hb.qs;have m1:=za.mul zb;refine am func371 ?_;refine gc (q9 a ha) ?_;refine gc (q9 b hb) ?_;refine gc (tV za.num zb.den) ?_;refine gc (tV za.den zb.num) ?_;refine gc (ahh m1.1 m1.2.2.2) ?_;refine gD ?_;refine bu ?_
 have e1:((a.q.den:Int)*b.q.num=0)=(b.q=0):=by
  apply propext;rw[<- aq6,Int.mul_eq_zero];exact⟨fun h=>h.resolve_left (by have:=a.q.den_nz;omega),.inr⟩
 simp only[G9,e1];rfl
theorem Ll(a b:Rt)(ha:a.ok)(hb:b.ok)(hs:Qs (a.q-b.q)):FP 261 [a.av,b.av] (i64 (a9 (a.q-b.q))):=by
 refine am func261 ?_;refine gc (QF a b ha hb) ?_;refine gc (HU (rt (a.q-b.q)) hs.ok) ?_;refine ah ?_;rw[bE]
theorem zr{α:Type}(f:α->AV)(l:List α)(hl:l.length<=281474976710656):FP 113 [.lst 3 (l.map f)] (i64 (ik l.length)):=by
 refine am func113 ?_;refine aP [0] [] (fun(k:Nat)=>[pP 3 (i64 k)]) (fun _=>[]) (fun k=>k<=48/\∀j,j<k->2^j<l.length) (fun k=>48-k) 0 ⟨by omega,fun j h=>by omega⟩ ?_;rintro k ⟨hk,hj⟩ K1 J1;refine gs (nQ (.const _) (.tmp rfl) oz (Gp oz) rfl) ?_;refine gl ?_;refine gC (fun z=>?_) (fun z=>?_)
 ·have h1 : 2 ^ k < l.length := by have := z; simp only [aa, atf] at this; omega
  have h2:k<48:=by
   rcases asb k 48 with h |h
   ·exact h
   ·have:2 ^ 48 <= 2 ^ k:=fj h;have:(2:Nat) ^ 48 = 281474976710656:=by decide
    omega
  refine ga (dx oz) ?_;exact aM J1 (k+1) ⟨by omega,fun j h=>by rcases asb j k with h3 |h3;exact hj j h3;(have:j=k:=by omega);subst this;exact h1⟩
 have h1:l.length<=2^k:=by have:=z;simp only[aa,decide_eq_false_iff_not]at this;omega
 have h2:=Sa hj h1;refine gs (nQ (.const _) (.tmp rfl) oz (Gp oz) rfl) ?_;refine gl ?_;refine gC (fun z=>?_) (fun z=>?_)
 ·have h3 : 2 ^ k ≠ l.length := by have := z; simp only [aa, bne_iff_ne, ne_eq] at this; omega
  refine ah ?_;unfold ik;rw[h2,atd h3];rfl
 have h3:2^k=l.length:=by have:=z;simp only[aa,bne_eq_false_iff_eq]at this;omega
 refine ah ?_;unfold ik;rw[h2,ate h3]
theorem KL(ts:List (List Rt))(a:List Rt)(ha:∀r∈a,r.ok)(hl:a.length<=281474976710656)(ht:ts.length<=281474976710656):FP 158 [dN ts,nR a] (bQ (cW ts.length a)):=by
 refine am func158 ?_;refine gl ?_;refine v7 [1,4] [] [] [] (¬(a≠[]/\(ik a.length<0\/(ts.length:Int)<ik a.length))) ?_ ?_
 ·intro K1 J1;refine gC (fun t10=>?_) (fun t10=>?_)
  ·have h0 : a ≠ [] := fun h => by rw [h] at t10; simp [aa] at t10
   refine gc (zr Rt.av a hl) ?_;refine cG ?_;refine gC (fun t21=>?_) (fun t21=>?_)
   ·have h1:ik a.length<0\/(ts.length:Int)<ik a.length:=by
     have h9:=t21
     by_cases h:ik a.length<0
     ·exact .inl h
     ·simp only[aa,atj h,cond_false,atf]at h9;exact .inr h9
    refine ah ?_;unfold cW;rw[ate ⟨h0,h1⟩];rfl
   have h1:¬(ik a.length<0\/(ts.length:Int)<ik a.length):=by
    have h9:=t21
    by_cases h:ik a.length<0
    ·simp only[aa,ati h,cond_true]at h9;cases h9
    ·simp only[aa,atj h,cond_false,decide_eq_false_iff_not]at h9;exact fun h'=>h'.elim h h9
   exact k8 J1 (fun h=>h1 h.2)
  have h0:a=[]:=by
   cases a with
   |nil=>rfl
   |cons c l=>simp[aa]at t10
  exact k8 J1 (fun h=>h.1 h0)
 rintro hn;refine gl ?_;refine aP [23,24] [] (fun(i:Nat)=>[pP 25 (i64 i)]) (fun _=>[]) (fun i=>i<=a.length/\(a.take i).all Rt.valid=true) (fun i=>a.length-i) 0 ⟨ase _,by simp⟩ ?_;rintro i ⟨hi,hv⟩ K2 J2;refine gC (fun z=>?_) (fun z=>?_)
 ·have af : i < a.length := by simpa [aa] using z
  obtain⟨r,hr⟩:=aJ af;have anh:=ha r (ar1 hr);refine gi (aw hr) ?_;refine gc (sW r anh) ?_;refine gC (fun z=>?_) (fun z=>?_)
  ·have EM : r.valid = false := by simpa using z
   refine ah ?_;unfold cW;rw[atd hn,atd]
   ·rfl
   ·rw[asd];intro h;rw[h r (ar1 hr)]at EM;cases EM
  have EM:r.valid=true:=by simpa using z
  refine ga aL ?_;exact aM J2 (i+1) ⟨by omega,by rw[fO hr,all_append,hv];simp[EM]⟩
 have af:i=a.length:=by have:a.length<=i:=(by simpa[aa]using z);omega
 subst af;rw[asK]at hv;refine ah ?_;unfold cW;rw[atd hn,ate hv];rfl
theorem Ss(a:List Rat)(ha:∀q∈a,Qs q)(hl:a.length<=281474976710656):FP 341 [nA a] (bl (bF a)):=by
 refine am func341 ?_;refine gl ?_;refine aP [5,6] [] (fun(i:Nat)=>[pP 7 (i64 i)]) (fun _=>[]) (fun i=>i<=a.length/\bF (a.take i)=true) (fun i=>a.length-i) 0 ⟨ase _,by simp[bF]⟩ ?_;rintro i ⟨hi,hv⟩ K1 J1;refine gC (fun z=>?_) (fun z=>?_)
 ·have af : i < a.length := by simpa [aa] using z
  obtain⟨q,hq⟩:=aJ af;have sF:=ha q (ar1 hq);refine gi (aw hq) ?_;refine gc (C4 (rt q) sF.ok) ?_;refine gC (fun t13=>?_) (fun t13=>?_)
  ·have h0:q≠0:=by
    intro h;have h9:=t13;rw[bE,h]at h9;cases h9
   refine ah ?_
   have:bF a=false:=by
    rw[ara];intro h;exact h0 (by simpa using asd.1 h q (ar1 hq))
   rw[this];rfl
  have h0:q=0:=by
   have h9:a9 q=0:=by have:=t13;rw[bE]at this;simpa[aa]using this
   exact yu h9
  refine ga aL ?_;exact aM J1 (i+1) ⟨by omega,by rw[fO hq];simp only[bF,all_append,ar5];exact⟨hv,by simp[h0]⟩⟩
 have af:i=a.length:=by have:a.length<=i:=(by simpa[aa]using z);omega
 subst af;rw[asK]at hv;refine ah ?_;rw[hv];rfl
theorem S0(a:List Rat)(hl:a.length<=281474976710656):FP 115 [nA a] (bl (bF a)):=by
 refine am func115 ?_;refine gl ?_;refine aP [5,6] [] (fun(i:Nat)=>[pP 7 (i64 i)]) (fun _=>[]) (fun i=>i<=a.length/\bF (a.take i)=true) (fun i=>a.length-i) 0 ⟨ase _,by simp[bF]⟩ ?_;rintro i ⟨hi,hv⟩ K1 J1;refine gC (fun z=>?_) (fun z=>?_)
 ·have af : i < a.length := by simpa [aa] using z
  obtain⟨q,hq⟩:=aJ af;refine gi (aw hq) ?_;refine cG ?_;refine cG ?_;refine gC (fun z=>?_) (fun z=>?_)
  ·have h0:q≠0:=WZ z;refine ah ?_
   have:bF a=false:=by
    rw[ara];intro h;exact h0 (by simpa using asd.1 h q (ar1 hq))
   rw[this];rfl
  have h0:q=0:=YM z;refine ga aL ?_;exact aM J1 (i+1) ⟨by omega,by rw[fO hq];simp only[bF,all_append,ar5];exact⟨hv,by simp[h0]⟩⟩
 have af:i=a.length:=by have:a.length<=i:=(by simpa[aa]using z);omega
 subst af;rw[asK]at hv;refine ah ?_;rw[hv];rfl
theorem ajm(a:List Rat)(ha:∀q∈a,Qs q)(hl:a.length<=1099511627776):FP 114 [nA a] (nA a):=by
 refine am func114 ?_;refine gl ?_;refine gW (Wk.virt 900 3 rfl) ?_;refine aP [6,7] [] (fun(i:Nat)=>[pP 3 (.ms 900 3 0 i),pP 8 (i64 i)]) (fun i=>[pP 900 (.row 3 ((a.take i).map qA))]) (fun i=>i<=a.length) (fun i=>a.length-i) 0 (ase _) ?_;rintro i hi K1 J1;refine gC (fun z=>?_) (fun z=>?_) (st2:=(7,0))
 ·have af : i < a.length := by simpa [aa] using z
  obtain⟨q,hq⟩:=aJ af;have sF:=(ha q (ar1 hq)).ok;have sr:(rt q).num.length<=137438953472:=sF.2.2.1;have sE:(rt q).den.length<=137438953472:=sF.2.2.2;refine gi (aw hq) ?_;refine gs (tf T42 rfl T87 rfl rfl rfl) ?_;refine gs (Gi (.tmp rfl) rfl rfl (.tmp rfl) T42 rfl T87 rfl rfl (by simp only[ar3];omega) rfl rfl) ?_;refine gs (tf T42 rfl T87 rfl rfl rfl) ?_;refine gs (Gi (.tmp rfl) rfl rfl (.tmp rfl) T42 rfl T87 rfl rfl (by simp only[ar3];omega) rfl rfl) ?_;refine gs (eQ (.tmp rfl) rfl (by simp;omega) (.tmp rfl) T62 rfl T44 rfl rfl (by simp;omega) rfl rfl) ?_;refine gD ?_ (6,0);refine gW (Wk.of (sl:=[pP 3 (.ms 25 3 0 (i+1)),pP 6 (nA a),pP 7 (i64 a.length),pP 8 (i64 i)]) (hp:=[pP 25 (.row 3 ((a.take (i+1)).map qA))]) a6 (.cons rfl (.of (by rw[fO hq,asz];rfl)) .nil)) ?_ (6,0);refine gW (Wk.rk (k:=25) (d:=900) rfl rfl) ?_;refine ga aL ?_;exact aM J1 (i+1) af
 have af:i=a.length:=by have:a.length<=i:=(by simpa[aa]using z);omega
 subst af;refine gW ((Wk.freeze (k:=900) rfl).trans<|Wk.of (sl:=[pP 3 (nA a)]) (hp:=[]) (.cons rfl (.of (by rw[cq (by simp),asK];rfl)) .nil) .nil) ?_;refine ah ?_;rfl
end Go.Lw
