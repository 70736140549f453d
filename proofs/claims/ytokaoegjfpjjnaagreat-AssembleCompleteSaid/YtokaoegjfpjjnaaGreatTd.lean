/- AssembleComplete: for anything drawn the law returns true and leaves its arguments as they were. No other condition. Part 4 of 8: what the later parts need -/
import Derived.Test.YtokaoegjfpjjnaaGreatTc
import Derived.Test.YtokaoegjfpjjnaaGreatRows
set_option linter.unusedVariables false
open List (nil_append drop_drop map_take all_append)
open List renaming mem_of_getElem? → ank, mem_cons_of_mem → aom, mem_append → anz, map_cons → aow, mem_cons → an9, length_cons → an0, mem_cons_self → aok, length_append → aoe, length_nil → aoa, getD_eq_getElem?_getD → anm, getElem?_eq_none → an2, all_eq_true → anx, getElem?_take → aof, getElem?_map → anr, getElem?_eq_getElem → ano, drop_eq_nil_of_le → aoi, getElem?_replicate → aoh, map_append → aoc, length_take → an6, take_of_length_le → an1, drop_zero → aov, take_length → an3, not_mem_nil → aob, length_map → anl, length_replicate → aon, map_replicate → aoq, map_set → aou, length_set → aox, length_eq_zero_iff → ak0, take_append_of_le_length → ak9, length_pos_iff → ale, contains_iff_mem → alf, take_append_drop → alg, mem_range → alh, getElem_mem → ali, getElem?_eq_some_iff → alj, take_take → aln, find?_range_eq_some → alo, drop_eq_getElem_cons → alq, mem_singleton → alr, replicate → als, find?_range_eq_none → alv, getLast?_eq_getElem? → aly, mem_map → al0
open Nat (le_of_lt)
open Nat renaming le_refl → anp, lt_of_lt_of_le → an5, lt_or_ge → anu, le_trans → an4, mul_le_mul_right → aod, mul_le_mul_left → ant, zero_le → ans, pow_add → aoo, lt_of_le_of_lt → aog, pow_succ → ajq, one_le_two_pow → ajr, mul_comm → ajt, add_comm → ajw, div_lt_iff_lt_mul → ajz, min_eq_left → aj1, gcd → aj2, add_mul_mod_self_left → aj3, mod_eq_of_lt → aj4, div_div_eq_div_mul → aj7, succ_mul → aj9, pow_mul → akb, mul_add → akc, div_le_self → akd, pow_pos → aki, add_mul → akk, pow_le_pow_right → akl, add_zero → akn, add_mul_div_left → ako, div_add_mod → akq, mul_lt_mul'' → akr, blt → aks, mul_assoc → akt, zero_add → akv, eq_zero_or_pos → akx, gcd_comm → aky, mod_lt → akz
open Option renaming map_eq_some_iff → ann, getD_some → ani
open Bool renaming and_eq_true → anq, or_eq_true → aos, not_eq_true' → amo, false_and → amq, false_eq_true → ams, true_and → amt, eq_iff_iff → amu, not_eq_false' → amv, eq_false_iff → amx
open Int renaming toNat_natCast → aol, natAbs_natCast → aoj, ofNat_inj → al5, sign_eq_zero_iff_zero → al6, sign_nonneg_iff → al8, mul_ne_zero → al9, gcd → amb, mul_nonneg → amc, sign_trichotomy → amd, sign_eq_neg_one_iff_neg → ame
open Rat renaming num_eq_zero → amf, mul_pos → amh, divInt → amj, sub_eq_add_neg → aml, num_divInt_den → amm
open Decidable renaming not_not → anj
open Go renaming Value → ao9, TypeId → apa, Program → apb, World → apc
open Go.Proofs.Tryz
namespace Go.Lw
open Go.Proofs
theorem A6{b:Bool}{n:Nat}:(cond b (aa .gtr ((ofNat n).length:Int) 0) false)=true↔(b=true/\0<n):=by
 have h:aa .gtr ((ofNat n).length:Int) 0=true↔0<n:=by
  simp only[aa,ao0];constructor
  ·intro h;rcases akx n with h1 |h1;(subst h1;simp[Ym]at h);exact h1
  ·intro h;have:ofNat n≠[]:=by intro h1; have:=cT n; rw[h1] at this; simp[val] at this; omega
   have:=ale.2 this;omega
 cases b with
 |false=>simp
 |true=>exact⟨fun h1=>⟨rfl,h.1 h1⟩,fun h1=>h.2 h1.2⟩
theorem Fh(a:Wh)(ha:a.ok):FP 299 [a.av] (i64 a.z.sign):=by
 obtain⟨e1,e2,e3⟩:=Qm ha;refine am func299 ?_;refine gc (oc a ha) ?_;refine gl ?_;refine gC (fun z=>?_) (fun z=>?_)
 ·have h0:a.m.length=0:=by simpa[aa] using z
  refine ai ?_;rw[e1 h0];rfl
 have h0:a.m.length≠0:=by simpa[aa]using z
 refine gC (fun z=>?_) (fun z=>?_)
 ·refine ai ?_;rw[e2 h0 z];rfl
 refine ai ?_;rw[e3 h0 z];rfl
theorem Z2(a b:Wh)(ha:a.ok)(hb:b.ok):FP 308 [a.av,b.av] (i64 (jJ a.z b.z)):=by
 refine am func308 ?_;refine gc (Fh a ha) ?_;refine gc (Fh b hb) ?_;refine gD ?_;refine gC (fun z=>?_) (fun z=>?_)
 ·have h0:a.z.sign≠b.z.sign:=by simpa[aa] using z
  obtain⟨e1,e2⟩:=Ze h0;refine gC (fun z=>?_) (fun z=>?_)
  ·have h1:a.z.sign<b.z.sign:=by simpa[aa] using z
   refine ai ?_;rw[e1 h1];rfl
  have h1:¬a.z.sign<b.z.sign:=by simpa[aa]using z
  refine ai ?_;rw[e2 h1];rfl
 have h0:a.z.sign=b.z.sign:=by simpa[aa]using z
 have e1:=S0 h0;refine gc (oc a ha) ?_;refine gc (oc b hb) ?_;refine gc (GE a.m b.m (Wh.ws ha) (Wh.ws hb) a.nz b.nz) ?_;refine gD ?_;refine gc (lS a ha) ?_;refine gC (fun z=>?_) (fun z=>?_)
 ·rw[z,aoz rfl]at e1;refine gs (Hq (.tmp rfl) rfl) ?_;refine ai ?_;rw[e1];split
  ·rfl
  ·split <;> rfl
 rw[z,aoy Bool.false_ne_true]at e1;refine ai ?_
 first |(rw[e1];done) |(rw[e1];rfl)
theorem acw(a:Wh)(ha:a.ok)(la:a.mag.length<aJ):FP 175 [a.av] (zA (-a.z)):=by
 refine am func175 ?_;refine gc (lS a ha) ?_;refine gc (oc a ha) ?_;refine gc (nK _ a.m (Wh.ws ha) (le_of_lt (Wh.small ha la))) ?_;refine gD ?_;refine ai ?_;rw[Wh.z_eq,<- Lu];rfl
theorem VS(a b:Wh)(ha:a.ok)(hb:b.ok)(la:a.mag.length+b.mag.length<=aJ):FP 298 [a.av,b.av] (zA (a.z*b.z)):=by
 have h1:=Wh.m_le (w:=a);have h2:=Wh.m_le (w:=b);have h3:(ofNat (val a.m*val b.m)).length<=a.m.length+b.m.length:=ir (by rw[aoo];exact akr (cR _ (Wh.ws ha)) (cR _ (Wh.ws hb)));refine am func298 ?_;refine gc (lS a ha) ?_;refine gc (lS b hb) ?_;refine gc (oc a ha) ?_;refine gc (oc b hb) ?_;refine gc (XR a.m b.m (Wh.ws ha) (Wh.ws hb) oz) ?_;refine gc (nK _ _ (eI _) oz) ?_;refine gD ?_;refine ai ?_;rw[cT,Ju];rfl
theorem Vm(a b:Wh)(ha:a.ok)(hb:b.ok)(la:a.mag.length<aJ)(lb:b.mag.length<aJ):FP 297 [a.av,b.av] (zA (a.z+b.z)):=by
 have h1:=Wh.m_le (w:=a);have h2:=Wh.m_le (w:=b);have lH:val a.m<4294967296^(max a.m.length b.m.length):=an5 (cR _ (Wh.ws ha)) (akl oz oz);have dU:val b.m<4294967296^(max a.m.length b.m.length):=an5 (cR _ (Wh.ws hb)) (akl oz oz);have h3:(ofNat (val a.m+val b.m)).length<=max a.m.length b.m.length+1:=ir (by rw[ajq];omega);have h4:(ofNat (val a.m-val b.m)).length<=max a.m.length b.m.length:=ir oz;have h5:(ofNat (val b.m-val a.m)).length<=max a.m.length b.m.length:=ir oz;refine am func297 ?_;refine gc (oc a ha) ?_;refine gc (oc b hb) ?_;refine gD ?_;refine gc (lS a ha) ?_;refine gc (lS b hb) ?_;refine gD ?_;refine gC (fun z=>?_) (fun z=>?_)
 ·have h0:a.n=b.n:=by simpa using z
  refine gc (lS a ha) ?_;refine gc (L3 a.m b.m (Wh.ws ha) (Wh.ws hb) oz oz) ?_;refine gc (nK _ _ (eI _) oz) ?_;refine ai ?_;rw[cT,Me h0];rfl
 have h0:a.n≠b.n:=by simpa using z
 refine gc (GE a.m b.m (Wh.ws ha) (Wh.ws hb) a.nz b.nz) ?_;refine gC (fun t23=>?_) (fun t23=>?_)
 ·have h6:val b.m<=val a.m:=by
   rcases anu (val a.m) (val b.m)with h |h
   ·rw[aoz h]at t23;cases t23
   ·exact h
  refine gc (lS a ha) ?_;refine gc (FQ a.m b.m (Wh.ws ha) (Wh.ws hb) oz (by rcases anu a.m.length b.m.length with h |h;(have:=zO (Wh.ws ha) b.nz h;omega);exact h) h6) ?_;refine gc (nK _ _ (eI _) oz) ?_;refine ai ?_;rw[cT,GS h0 h6];rfl
 have h6:val a.m<val b.m:=by
  rcases anu (val a.m) (val b.m)with h |h
  ·exact h
  ·rw[aoy oz]at t23;split at t23 <;> cases t23
 refine gc (lS b hb) ?_;refine gc (FQ b.m a.m (Wh.ws hb) (Wh.ws ha) oz (by rcases anu b.m.length a.m.length with h |h;(have:=zO (Wh.ws hb) a.nz h;omega);exact h) oz) ?_;refine gc (nK _ _ (eI _) oz) ?_;refine ai ?_;rw[cT,M5 h0 oz];rfl
theorem Ma(a b:Wh)(ha:a.ok)(hb:b.ok)(la:a.mag.length<aJ)(lb:b.mag.length<aJ):FP 300 [a.av,b.av] (zA (amb a.z b.z)):=by
 refine am func300 ?_;refine gc (oc a ha) ?_;refine gc (oc b hb) ?_;refine gD ?_;refine jZ [4] [4] (fun(x y:List Nat)=>[pP 5 (ws x),pP 6 (ws y)]) (fun _ _=>[]) (fun x y=>Ws x/\Ws y/\Nz x/\Nz y/\x.length<aJ/\y.length<aJ/\aj2 (val x) (val y)=amb a.z b.z) (fun _ y=>val y) a.m b.m ⟨Wh.ws ha,Wh.ws hb,a.nz,b.nz,Wh.small ha la,Wh.small hb lb,by rw[amb,Wh.abs,Wh.abs]⟩ ?_;rintro x y ⟨wx,wy,nx,ny,lx,ly,hg⟩ K1 J1;refine gl ?_;refine gC (fun t15=>?_) (fun t15=>?_)
 ·have hy:y≠[]:=by intro h; subst h; simp[aa] at t15
  have H6:=tL ny hy;have hm:=akz (val x) H6;refine gc (MH x y wx wy nx ny hy lx ly) ?_;exact jq J1 y (ofNat (val x%val y)) ⟨wy,eI _,ny,wK _,ly,aog (ir (Nat.lt_trans hm (cR y wy))) ly,by rw[cT,<- hg,aky (val x) (val y),aky (val y) (val x%val y)];exact(Nat.gcd_rec _ _).symm⟩ (by show val (ofNat _)<val y;rw[cT];exact hm)
 have hy:y=[]:=by
  cases y with
  |nil=>rfl
  |cons c l=>simp[aa]at t15
 subst hy;have hg':val x=amb a.z b.z:=by rw[<- hg];simp[val]
 refine gc (nK false x wx (le_of_lt lx)) ?_;refine ai ?_;rw[hg'];rfl
theorem YR(a b:Wh)(ha:a.ok)(hb:b.ok)(la:a.mag.length+1<aJ)(lb:b.mag.length<aJ)(h0:b.z≠0):FP 301 [a.av,b.av] (.tup [zA (a.z/b.z),zA (a.z%b.z),.v .nilIface]):=by
 have iU:=Wh.m_le (w:=a);have mo:=Wh.m_le (w:=b);have cw:val b.m≠0:=by have:=Wh.abs (w:=b);omega
 have bJ:b.m≠[]:=fun h=>cw (by rw[h];rfl)
 have s6:(ofNat (val a.m/val b.m)).length<=a.m.length:=ir (aog (akd _ _) (cR _ (Wh.ws ha)));have z5:=akz (val a.m) (show 0<val b.m by omega);have uL:(ofNat (val a.m%val b.m)).length<=b.m.length:=ir (Nat.lt_trans z5 (cR _ (Wh.ws hb)));have hl3:(ofNat (val a.m/val b.m+1)).length<=a.m.length+1:=ir (by have h7:=aog (akd (val a.m) (val b.m)) (cR _ (Wh.ws ha));rw[ajq];generalize val a.m/val b.m=m at *;omega);have hl4:(ofNat (val b.m-val a.m%val b.m)).length<=b.m.length:=ir (by have:=cR _ (Wh.ws hb);omega);have xe:val [1]=1:=rfl;refine am func301 ?_;refine gc (oc b hb) ?_;refine gl ?_;refine gC (fun z=>?_) (fun z=>?_) (st1:=(3,0));exact ao5 (ak0.1 (by simpa[aa]using z)) bJ;refine gc (oc a ha) ?_;refine gc (MH a.m b.m (Wh.ws ha) (Wh.ws hb) a.nz b.nz bJ oz oz) ?_;refine gc (lS a ha) ?_;refine cV ?_;refine gC (fun z=>?_) (fun z=>?_)
 ·have h1:a.n=true/\0<val a.m % val b.m:=A6.1 z;obtain⟨e1,e2⟩:=OE cw h1.1 h1.2;refine gc (L3 (ofNat (val a.m / val b.m)) [1] (eI _) (yY oz) oz (by unfold aJ; simp)) ?_;refine gc (FQ b.m (ofNat (val a.m % val b.m)) (Wh.ws hb) (eI _) oz uL (by rw[cT]; omega)) ?_ (7,0);refine gW (Wk.of (sl:=[pP 2 (.ptr 2 0),pP 3 (.ptr 3 0),pP 4 (.ptr 4 0),pP 5 (.ptr 5 0),pP 8 (ws (ofNat (val a.m / val b.m+1))),pP 9 (ws (ofNat (val b.m - val a.m % val b.m)))]) (hp:=[pP 2 (.box [bl a.neg,ws a.mag]),pP 3 (.box [bl b.neg,ws b.mag]),pP 4 (.box [.v (.bool false),nS]),pP 5 (.box [.v (.bool false),nS])]) (.k (.k (.k (.k (.cons rfl (.of (by rw[cT,xe])) (.cons rfl (.of (by rw[cT])) .nil)))))) (.k (.k (.k (.k .nil))))) ?_
  refine gc (lS a ha) ?_;refine gc (lS b hb) ?_;refine gc (by apply nK _ _ (eI _) oz) ?_;refine gc (by apply nK _ _ (eI _) oz) ?_;refine gD ?_;refine gR ?_;exact x7 (by rw[cT,cT,e1,show sgn false _=_ from e2];rfl)
 have h1:¬(a.n=true/\0<val a.m%val b.m):=fun h=>amx.1 z (A6.2 h)
 obtain⟨e1,e2⟩:=Kj cw h1;refine gc (lS a ha) ?_;refine gc (lS b hb) ?_;refine gc (by apply nK _ _ (eI _) oz) ?_;refine gc (by apply nK _ _ (eI _) oz) ?_;refine gD ?_;refine gR ?_;exact x7 (by rw[cT,cT,e1,show sgn false _=_ from e2];rfl)
theorem BM{N:Nat}(h:N<18446744073709551616):val [N%4294967296,N/2^32]=N:=by
 simp only[val];omega
theorem CB{N:Nat}(h:N<18446744073709551616):Ws [N%4294967296,N/2^32]:=by
 intro x hx;simp only[an9,aob,or_false]at hx;rcases hx with rfl |rfl <;> omega
theorem PX(n:Int)(h:-9223372036854775808<=n/\n<=9223372036854775807):FP 227 [i64 n] (zA n):=by
 obtain⟨N,hN⟩:∃N,N=n.natAbs:=⟨_,rfl⟩
 have rq:N<18446744073709551616:=by omega
 refine am func227 ?_;refine gv (show IntKind.u64.wrap n=((n%18446744073709551616:Int)) by simp only[IntKind.wrap,IntKind.signed,IntKind.bits,amq,if_false,ams];omega) ?_;refine gC (fun z=>?_) (fun z=>?_) (st2:=(77777,0))
 ·have hn:n<0:=by simpa[aa] using z
  refine gs (Hq (.tmp rfl) rfl) ?_ (4,0);refine gW (Wk.of (sl:=[pP 0 (i64 n),pP 2 (.ptr 2 0),pP 3 (u64 N)]) (hp:=[pP 2 (.box [.v (.bool false),nS])]) (.k (.k (.cons rfl (Sub.int (by simp only[IntKind.wrap,IntKind.signed,IntKind.bits,amq,if_false,ams];omega)) .nil))) (.k .nil)) ?_;refine gv (ff _) ?_;refine gs (gP (.tmp rfl) (.const _) oz (jV _ 32 oz) rfl) ?_;refine gv ((ff _).trans (by rw[aj4 (show N/2^32<4294967296 by omega)])) ?_;refine gc (nK (aa .lss n 0) [N%4294967296,N/2^32] (CB rq) (by unfold aJ;simp)) ?_;refine ai ?_;rw[BM rq,show sgn (aa .lss n 0) N=n by simp only[sgn,aa,ao0];split <;> omega];rfl
 have hn:¬n<0:=by simpa[aa]using z
 refine gW (Wk.of (sl:=[pP 0 (i64 n),pP 2 (.ptr 2 0),pP 3 (u64 N)]) (hp:=[pP 2 (.box [.v (.bool false),nS])]) (.k (.k (.cons rfl (Sub.int oz) .nil))) (.k .nil)) ?_;refine gv (ff _) ?_;refine gs (gP (.tmp rfl) (.const _) oz (jV _ 32 oz) rfl) ?_;refine gv ((ff _).trans (by rw[aj4 (show N/2^32<4294967296 by omega)])) ?_;refine gc (nK (aa .lss n 0) [N%4294967296,N/2^32] (CB rq) (by unfold aJ;simp)) ?_;refine ai ?_;rw[BM rq,show sgn (aa .lss n 0) N=n by simp only[sgn,aa,ao0];split <;> omega];rfl
theorem F0:∀(j k v:Nat),j<=k->(bF k v).take j=bF j v
 |0,_,_,_=>by simp[bF]
 |j+1,0,_,h=>by omega
 |j+1,k+1,v,h=>by
  rw[bF,bF,List.take_succ_cons,F0 j k _ oz]
theorem Jz{m:List Nat}(h:Ws m):(ofNat (val m)).length<=m.length:=ir (cR m h)
theorem KD{m:List Nat}(h:Ws m):m.take (ofNat (val m)).length=ofNat (val m):=by
 have h1:=zg m h;have h2:=zg (ofNat (val m)) (eI _);rw[cT]at h2;have h3:=F0 _ _ (val m) (Jz h);rw[<- h1,<- h2]at h3;exact h3
theorem MY{m:List Nat}{n:Nat}(h:Ws m)(hn:n<=m.length)(hv:val (m.take n)=val m)(h0:n=0\/an m (n-1)≠0):n=(ofNat (val m)).length:=by
 have h1:m.take n=ofNat (val m):=by
  refine M3 (jz h n) ?_ hv;intro x hx;rcases h0 with h0 |h0
  ·subst h0;simp at hx
  ·have mv:n≠0:=by intro h3; subst h3; simp at hx
   rw[aly,an6,aj1 hn,aof,aoz oz,ni oz]at hx;cases hx;exact h0
 rw[<- h1,an6,aj1 hn]
theorem EV(l:List Nat)(i:Nat):val l=val (l.take i)+4294967296^i*val (l.drop i):=by
 rcases anu i l.length with h |h
 ·exact G1 oz
 ·rw[gX h,aoi h];simp[val]
theorem yA(l:List Nat)(i:Nat):val (l.drop i)=an l i+4294967296*val (l.drop (i+1)):=by
 rcases anu i l.length with h |h
 ·exact wt h
 ·rw[vM h,aoi h,aoi oz];rfl
theorem Ks{a b:List Nat}{i:Nat}(ha:Ws a)(he:val (a.drop (i+1))=val (b.drop (i+1)))(hx:an a i<an b i):val a<val b:=by
 rw[EV a (i+1),EV b (i+1),he];have:=Nu ha hx;omega
theorem ZU{xs ys:List AV}(hl:xs.length=ys.length)(h1:∀(j:Nat)(y:AV),ys[j]?=some y->y.one=true)(h:∀(j:Nat)(x y:AV),xs[j]?=some x->ys[j]?=some y->Sub x y):Sub (.agg xs) (.agg ys):=by
 intro g S m v hr;cases hr with
 |agg hn h2 hr =>
  refine .agg (hn.trans hl) h1 ?_;intro j u c hu hc
  have hj:j<xs.length:=by
   rw[hl];rcases anu j ys.length with h |h
   ·exact h
   ·rw[an2 h]at hc;cases hc
  exact h j _ c (ano hj) hc _ _ _ _ (hr j u _ hu (ano hj))
theorem Tm:Sub (.agg [.v (.bool false),.v (.slice none 0 0)]) (zA 0):=by
 show Sub (.agg [.v (.bool false),.v (.slice none 0 0)]) (.agg [bl false,ws []]);refine ZU rfl ?_ ?_
 ·intro j y hy
  match j,hy with
  |0,hy=>cases hy;rfl
  |1,hy=>cases hy;rfl
 ·intro j x y hx hy
  match j,hx,hy with
  |0,hx,hy=>cases hx;cases hy;exact Sub.refl _
  |1,hx,hy=>cases hx;cases hy;exact Sub.nil _ _ _
theorem Md{out:List Nat}{i x:Nat}(h:out.length=i):val (out++[x])=val out+4294967296^i*x:=by
 rw[vN,h];simp[val]
theorem Pc{o c P x y u w:Nat}(hu:u<4294967296)(hw:w<4294967296)(hc:c<=1)(h:o+y=x+c*P) :
  (o+P*((4294967296+u-w-c)%4294967296))+(y+P*w)=(x+P*u)+(1-(4294967296+u-w-c)/2^32)*(P*4294967296):=by
 have h0:(4294967296+u-w-c)%4294967296+w+c=u+(1-(4294967296+u-w-c)/2^32)*4294967296:=by omega
 generalize(1-(4294967296+u-w-c)/2^32)=q at *;generalize(4294967296+u-w-c)%4294967296=r at *;grind
theorem Jy{a b out:List Nat}{c:Nat}(ha:Ws a)(hw:Ws out)(ho:out.length=a.length)(cF:val b<=val a)
  (h:val out+val (b.take a.length)=val (a.take a.length)+c*4294967296^a.length):val out=val a-val b:=by
 have hb:=EV b a.length;have h2:=cR a ha
 have h3:val (b.drop a.length)=0:=by
  rcases akx (val (b.drop a.length))with h4 |h4
  ·exact h4
  ·have:=ant (4294967296^a.length) h4;omega
 rw[h3,Nat.mul_zero,akn]at hb;rw[<- hb,an3]at h;have h1:=cR out hw;rw[ho]at h1;cases c with
 |zero=>omega
 |succ c=>rw[aj9]at h;omega
theorem Jv{z:Int}{k:Nat}(h:Lz k z)(hk:k<=bb):(ofInt z).ok:=⟨eI _,an4 h.len hk⟩
theorem O9{z:Int}{k:Nat}(h:Lz k z):(ofInt z).mag.length<=k:=h.len
theorem abw(x y:Int):(x-y).sign=jJ x y:=by
 unfold jJ;have h:=Ht (x-y)
 (repeat' split) <;> omega
theorem pI(m:List Nat)(i:Nat)(hm:Ws m):FP 428 [ws m,i64 i] (u64 (an m i)):=by
 refine am func428 ?_;refine gl ?_;refine gC (fun z=>?_) (fun z=>?_)
 ·simp[aa]at z;have:=cC hm i;refine gi (cU (i:=i) z) ?_;refine gv (u64_in oz) ?_;refine ai ?_;rfl
 simp[aa]at z;refine ai ?_;simp[u64,vM z]
theorem PN(w:Wh)(h:w.ok):FP 423 [w.av] (bl w.valid):=by
 have hl:w.mag.length<=bb:=h.2;refine am func423 ?_;refine gl ?_;refine gC (fun z=>?_) (fun z=>?_)
 ·have h0:w.mag=[]:=by simpa[aa] using z
  refine ai ?_;simp[bl,Wh.valid,h0]
 have h0:w.mag.length≠0:=by simpa[aa]using z
 refine gl ?_;refine ga (mL oz oz) ?_;refine gi (cU (i:=w.mag.length-1) oz) ?_;refine ai ?_;have h1:w.mag≠[]:=fun h=>h0 (by rw[h];rfl)
 simp only[bl,Wh.valid,aoy h1,aly,ni (show w.mag.length-1<w.mag.length by omega),aa];congr 2;generalize an w.mag _=x;rw[amu];simp
theorem oG(w:Wh)(h:w.ok):FP 365 [w.av] (ws w.m):=by
 refine am func365 ?_;refine gc (PN w h) ?_;refine gC (fun z=>?_) (fun z=>?_)
 ·have h0:w.valid=false:=by simpa[aa] using z
  refine gR ?_;exact kX (by rw[show w.m=[] by simp[Wh.m,h0]];exact Sub.nil _ _ _)
 have h0:w.valid=true:=by simpa[aa]using z
 refine ai ?_;simp only[Wh.m,h0];rfl
theorem lK(w:Wh)(h:w.ok):FP 366 [w.av] (bl w.n):=by
 refine am func366 ?_;refine gc (PN w h) ?_;refine ai ?_;simp only[Wh.n,bl];cases w.valid <;> rfl
theorem GU(d:Nat)(hd:aks d 1000=true)(m:List Nat)(hm:Ws m)(hb:m.length<=aJ) :
  Con prog 371 [ws m] [] (.ms d 1 0 (ofNat (val m)).length) [(d,some (.row 1 (m.map u32)))]:=by
 have hb':=hb;unfold aJ at hb;refine gF func371 (fun k z h=>by cases h) ?_;refine gs (lX T104 rfl T354 rfl rfl rfl) ?_;refine gs (cZ (.tmp rfl) rfl rfl (.tmp rfl) T104 rfl T354 rfl rfl (by simp only[anl];omega) rfl rfl) ?_;refine aY [] [6] (fun(n:Nat)=>[pP 3 (.ms 6 1 0 n)]) (fun _=>[]) (fun n=>n<=m.length/\val (m.take n)=val m) (fun n=>n) m.length ⟨anp _,by rw[an3]⟩ ?_ (h1:=(.cons rfl (.of (by rw[anl,akv])) .nil));rintro n ⟨hn,hv⟩ K1 J1;refine uk (fun h=>(mL (by simp[aa]at h;omega) (by unfold bb;omega))) ?_;refine gs (gy rfl rfl rfl (fun h=>cG (n:=n-1) (.opt rfl (o1 h)) (.opt rfl (o1 h)) T104 rfl T354 rfl oz (by simp[aa]at h;omega) rfl)) ?_;refine gs (gy rfl rfl rfl (fun h=>fR (.opt rfl (o1 h)) rfl (cU (i:=n-1) (by simp[aa]at h;omega)) T354 rfl rfl rfl)) ?_;refine gC (fun t18=>?_) (fun t18=>?_)
 ·have t18:0<n/\an m (n - 1)=0:=by simpa[aa] using t18
  refine ga (mL oz (by unfold bb;omega)) ?_;refine gs (CJ (.tmp rfl) (.none _) (.some _ (.tmp rfl) oz) T104 rfl T354 rfl oz oz rfl) ?_;exact aS J1 (n-1) ⟨by omega,by have h:=@eD m (n-1);rw[show n-1+1=n by omega,t18.2]at h;simp at h;omega⟩ (hw:=Wk.of (.cons rfl (.of (by congr 1)) .nil) (.k .nil))
 have t18:0<n->an m (n-1)≠0:=by simpa[aa]using t18
 have ot:=MY hm hn hv (by rcases akx n with h |h;(exact .inl h);exact .inr (t18 h));subst ot;refine gR ?_;exact aD.own1 rfl hd rfl
theorem u5(m:List Nat)(hm:Ws m)(hb:m.length<=aJ):FP 371 [ws m] (ws (ofNat (val m))):=by
 have h:=Con.freeze (by rw[anl,akv];exact Jz hm) (GU 0 rfl m hm hb)
 rwa [aov,<- map_take,KD hm]at h
theorem nN(b:Bool)(m:List Nat)(hm:Ws m)(hb:m.length<=aJ):FP 271 [bl b,ws m] (zA (sgn b (val m))):=by
 refine am func271 ?_;refine gc (u5 m hm hb) ?_;refine gl ?_;refine gC (fun t9=>?_) (fun t9=>?_)
 ·have h0:val m=0:=by
   have:=cT (val m);have h9:ofNat (val m)=[]:=ak0.1 (by simpa[aa]using t9);rw[h9]at this;exact this.symm
  refine gR ?_;exact kX (by rw[h0,show sgn b 0=0 by cases b <;> rfl];exact Tm)
 have h0:val m≠0:=by
  intro h;rw[h]at t9;cases t9
 refine ai ?_
 rw[show zA (sgn b (val m))=.agg [bl b,ws (ofNat (val m))] by
  unfold zA ofInt Wh.av;rw[show(sgn b (val m)).natAbs=val m by unfold sgn;split <;> omega,show decide (sgn b (val m)<0)=b by cases b <;> simp[sgn] <;> omega]]
theorem Fi(a b:List Nat)(ha:Ws a)(hb:Ws b):FP 385 [ws a,ws b] (i64 (if val a<val b then -1 else if val b<val a then 1 else 0)):=by
 refine am func385 ?_ (0,0);refine yp (t:=0) rfl (fun lH=>?_);refine yp (t:=1) rfl (fun dU=>?_);unfold bb at lH dU;refine go ?_;refine gl ?_;refine gl ?_;refine gs (vC (.tmp rfl) (.tmp rfl) rfl) ?_;refine ga (fc oz) ?_;refine aY [0,1] [] (fun(n:Nat)=>[pP 5 (i64 ((n:Int)-1))]) (fun _=>[]) (fun n=>n<=281474976710656/\val (a.drop n)=val (b.drop n)) (fun n=>n) (max a.length b.length) ⟨by omega,by rw[aoi oz,aoi oz]⟩ ?_ (h1:=(.cons rfl (Sub.int oz) .nil));rintro n ⟨hn,hd⟩ K1 J1;refine gC (fun z=>?_) (fun z=>?_)
 ·have mv:1<=n:=by have:=z; simp[aa] at this; omega
  obtain⟨k,rfl⟩:∃k,n=k+1:=⟨n-1,by omega⟩
  have hk:((k+1:Nat):Int)-1=(k:Int):=by omega
  rw[hk];refine gc (pI a k ha) ?_;refine gc (pI b k hb) ?_;refine gC (fun z=>?_) (fun z=>?_)
  ·have h3:an a k≠an b k:=by simpa[aa,al5] using z
   refine gc (pI a k ha) ?_;refine gc (pI b k hb) ?_;refine gC (fun z=>?_) (fun z=>?_)
   ·have h4:an a k<an b k:=by simpa[aa] using z
    have h5:=Ks ha hd h4;refine ai ?_;simp[i64,h5]
   have h4:an b k<an a k:=by have:an b k<=an a k:=(by simpa[aa]using z);omega
   have h5:=Ks hb hd.symm h4;refine ai ?_;simp[i64,h5,Nat.lt_asymm h5]
  have h3:an a k=an b k:=by simpa[aa,al5]using z
  refine ga (fc oz) ?_;exact aS J1 k ⟨by omega,by rw[yA a,yA b,hd,h3]⟩
 have mv:n=0:=by have:=z;simp[aa]at this;omega
 subst mv;refine ai ?_;simp at hd;simp[i64,hd]
theorem Eh(a b:List Nat)(ha:Ws a)(hb:Ws b)(la:a.length<aJ)(lb:b.length<aJ):FP 369 [ws a,ws b] (ws (ofNat (val a+val b))):=by
 unfold aJ at la lb;obtain⟨n,hn⟩:∃n,n=max a.length b.length+1:=⟨_,rfl⟩
 refine am func369 ?_;refine gl ?_;refine gl ?_;refine gs (vC (.tmp rfl) (.tmp rfl) rfl) ?_;refine ga (show _=(n:Int) by rw[d5 oz];omega) ?_;refine gW (Wk.virt 900 1 rfl) ?_;refine mf [0,1,14] [] (fun(out:List Nat)(c i:Nat)=>[pP 5 (.ms 900 1 0 i),pP 6 (u64 c),pP 15 (i64 i)]) (fun out _ _=>[pP 900 (.row 1 (out.map u32))]) (fun out c i=>out.length=i/\i<=n/\Ws out/\c<=1/\val out+c*4294967296^i=val (a.take i)+val (b.take i)) (fun _ _ i=>n-i) ([]) 0 0 ⟨rfl,by omega,xR,by omega,by simp[val]⟩ ?_;rintro out c i ⟨ho,hi,hw,hc,hv⟩ K1 J1;refine gC (fun z=>?_) (fun z=>?_) (st2:=(9,0))
 ·have ah:i<n:=by simpa[aa] using z
  have h1:=cC ha i;have h2:=cC hb i;obtain⟨s,hs⟩:∃s,s=c+(an a i+an b i):=⟨_,rfl⟩
  have h3:=ET (u:=an a i) (w:=an b i) hv;rw[<- hs]at h3;refine gc (by apply pI <;> assumption) ?_;refine gc (by apply pI <;> assumption) ?_;refine ga (l8 oz) ?_;refine ga ((l8 oz).trans (show _=(s:Int) by congr 1;omega)) ?_;refine gv (ff _) ?_;refine gs (cZ (.tmp rfl) rfl (by rw[anl,ho]) (.tmp rfl) T104 rfl T354 rfl rfl (by simp;omega) rfl rfl) ?_;refine gs (gP (.tmp rfl) (.const _) oz (jV _ 32 oz) rfl) ?_ (8,0);refine gW (Wk.of (sl:=[pP 0 (ws a),pP 1 (ws b),pP 5 (.ms 31 1 0 (i+1)),pP 6 (u64 (s/2^32)),pP 14 (i64 n),pP 15 (i64 i)]) (hp:=[pP 31 (.row 1 ((out++[s%4294967296]).map u32))]) bg (.cons rfl (.of (by rw[aoc];rfl)) .nil)) ?_ (8,0);refine gW (Wk.rk (k:=31) (d:=900) rfl rfl) ?_;refine ga (d5 oz) ?_;exact kz J1 (out++[s%4294967296]) (s/2^32) (i+1) ⟨by simp[ho],by omega,CS hw (yY oz),by omega,by rw[Md ho,eD,eD,ajq];exact h3⟩
 have ah:i=n:=by have:n<=i:=(by simpa[aa]using z);omega
 refine gW ((Wk.freeze (k:=900) rfl).trans<|Wk.of (sl:=[pP 5 (ws out)]) (hp:=[]) (.cons rfl (.of (cz (by simp[ho]))) .nil) .nil) ?_;refine gc (u5 out hw (by unfold aJ;omega)) ?_;refine ai ?_;subst ah;rw[LM ha hb hn ho (by rw[gX (l:=out) oz];exact hv)]
theorem F4(a b:List Nat)(ha:Ws a)(hb:Ws b)(la:a.length<aJ)(cF:val b<=val a):FP 370 [ws a,ws b] (ws (ofNat (val a-val b))):=by
 unfold aJ at la;obtain⟨n,hn⟩:∃n,n=a.length:=⟨_,rfl⟩
 refine am func370 ?_;refine gl ?_;refine gW (Wk.virt 900 1 rfl) ?_;refine mf [0,1] [] (fun(out:List Nat)(c i:Nat)=>[pP 5 (.ms 900 1 0 i),pP 6 (u64 c),pP 10 (i64 n),pP 11 (i64 i)]) (fun out _ _=>[pP 900 (.row 1 (out.map u32))]) (fun out c i=>out.length=i/\i<=n/\Ws out/\c<=1/\val out+val (b.take i)=val (a.take i)+c*4294967296^i) (fun _ _ i=>n-i) ([]) 0 0 ⟨rfl,by omega,xR,by omega,by simp[val]⟩ ?_ (h1:=(.k (.k (.cons rfl (Sub.int (by rw[hn])) (.k .nil)))))
 rintro out c i ⟨ho,hi,hw,hc,hv⟩ K1 J1;refine gC (fun z=>?_) (fun z=>?_) (st2:=(9,0))
 ·have ah:i<n:=by simpa[aa] using z
  have h1:=cC ha i;have h2:=cC hb i;obtain⟨s,hs⟩:∃s,s=4294967296+an a i-an b i-c:=⟨_,rfl⟩
  have h3:=Pc h1 h2 hc hv;rw[<- hs]at h3;refine gc (by apply pI <;> assumption) ?_;refine ga ((l8 (x:=4294967296) oz)) ?_;refine gc (by apply pI <;> assumption) ?_;refine ga ((oA oz oz).trans (by rw[aoz oz])) ?_;refine ga ((oA oz oz).trans (show _=(s:Int) by rw[aoz oz];congr 1;omega)) ?_;refine gv (ff _) ?_;refine gs (cZ (.tmp rfl) rfl (by rw[anl,ho]) (.tmp rfl) T104 rfl T354 rfl rfl (by simp;omega) rfl rfl) ?_;refine gs (gP (.tmp rfl) (.const _) oz (jV _ 32 oz) rfl) ?_;refine ga ((oA (x:=1) oz oz).trans (by rw[aoz oz])) ?_ (8,0);refine gW (Wk.of (sl:=[pP 0 (ws a),pP 1 (ws b),pP 5 (.ms 28 1 0 (i+1)),pP 6 (u64 (1-s/2^32:Nat)),pP 10 (i64 n),pP 11 (i64 i)]) (hp:=[pP 28 (.row 1 ((out++[s%4294967296]).map u32))]) bg (.cons rfl (.of (by rw[aoc];rfl)) .nil)) ?_ (8,0);refine gW (Wk.rk (k:=28) (d:=900) rfl rfl) ?_;refine ga (d5 oz) ?_;exact kz J1 (out++[s%4294967296]) (1-s/2^32) (i+1) ⟨by simp[ho],by omega,CS hw (yY oz),by omega,by rw[Md ho,eD,eD,ajq];exact h3⟩
 have ah:i=n:=by have:n<=i:=(by simpa[aa]using z);omega
 refine gW ((Wk.freeze (k:=900) rfl).trans<|Wk.of (sl:=[pP 5 (ws out)]) (hp:=[]) (.cons rfl (.of (cz (by simp[ho]))) .nil) .nil) ?_;refine gc (u5 out hw (by unfold aJ;omega)) ?_;refine ai ?_;subst ah;subst hn;rw[Jy ha hw ho cF hv]
theorem Ux(a b:List Nat)(ha:Ws a)(hb:Ws b)(la:a.length+b.length<=aJ):FP 386 [ws a,ws b] (ws (ofNat (val a*val b))):=by
 have la':=la;unfold aJ at la;refine am func386 ?_;refine gl ?_;refine gl ?_;refine ga (mN (by unfold bb;omega) (by unfold bb;omega)) ?_;refine gs (kq (.tmp rfl) T104 rfl T354 rfl rfl oz (by dsimp only;omega) rfl) ?_;refine gl ?_;refine jZ [0,1,17] [] (fun(out:List Nat)(i:Nat)=>[pP 5 (.ms 15 1 0 (a.length+b.length)),pP 18 (i64 i)]) (fun out _=>[pP 15 (.row 1 (out.map u32))]) (fun out i=>out.length=a.length+b.length/\i<=a.length/\Ws out/\val (out.take (i+b.length))=val (a.take i)*val b) (fun _ i=>a.length-i) (als (a.length+b.length) 0) 0 ⟨by simp,by omega,qj _,by simp[val,Bm]⟩ ?_ (h2:=(.cons rfl (.of (by rw[aoq];rfl)) .nil))
 rintro out i ⟨ho,hi,hw,hv⟩ K1 J1;refine gC (fun z=>?_) (fun z=>?_) (st2:=(14,0))
 ·have ah:i<a.length:=by simpa[aa] using z
  have h1:=cC ha i;refine gl ?_;refine mf [0,1,17,18,6,22] [] (fun(o:List Nat)(c k:Nat)=>[pP 5 (.ms 15 1 0 (a.length+b.length)),pP 7 (u64 c),pP 23 (i64 k)]) (fun o _ _=>[pP 15 (.row 1 (o.map u32))]) (fun o c k=>o.length=a.length+b.length/\k<=b.length/\Ws o/\c<4294967296/\val (o.take (i+b.length))+c*4294967296^(i+k)=val (out.take (i+b.length))+4294967296^i*(an a i*val (b.take k))) (fun _ _ k=>b.length-k) out 0 0 ⟨ho,by omega,hw,by omega,by simp[val]⟩ ?_
  rintro o c k ⟨iz,hk,pg,hc,j7⟩ K2 J2;refine gC (fun z=>?_) (fun z=>?_)
  ·have bw:k<b.length:=by simpa[aa] using z
   have h2:=cC hb k;have h3:=cC pg (i+k);have h4:=AE h1 h2;obtain⟨s,hs⟩:∃s,s=c+(an a i*an b k+an o (i+k)):=⟨_,rfl⟩
   have h5:=K0 (x:=s%4294967296) (show i+k<o.length by omega) (show i+k<i+b.length by omega);have h6:=Nw h5 hs j7;refine gi (j4 (n:=i) oz (by first |omega |(simp;omega))) ?_;refine gv (u64_in oz) ?_;refine gi (j4 (n:=k) oz (by first |omega |(simp;omega))) ?_;refine gv (u64_in oz) ?_;refine ga (C0 oz) ?_;refine ga (mN (by unfold bb;omega) (by unfold bb;omega)) ?_;refine gs (cG (n:=i+k) (.tmp rfl) (.tmp rfl) T104 rfl T354 rfl oz (by first |omega |(simp;omega)) rfl) ?_;refine gs (fR (.tmp rfl) rfl (cU (i:=i+k) oz) T354 rfl rfl rfl) ?_;refine gv (u64_in oz) ?_;refine ga (l8 oz) ?_;refine ga ((l8 oz).trans (show _=(s:Int) by congr 1;omega)) ?_;refine gD ?_;refine ga (mN (by unfold bb;omega) (by unfold bb;omega)) ?_;refine gv (ff _) ?_;refine gs (gP (.tmp rfl) (.const _) oz (jV _ 32 oz) rfl) ?_;refine gs (cG (n:=i+k) (.tmp rfl) (.tmp rfl) T104 rfl T354 rfl oz (by first |omega |(simp;omega)) rfl) ?_;refine gs (eY (.tmp rfl) rfl (cU (i:=i+k) oz) rfl (.tmp rfl) rfl rfl T354 rfl rfl) ?_;refine ga (d5 oz) ?_;exact kz J2 (o.set (i+k) (s%4294967296)) (s/2^32) (k+1) ⟨by simp[iz],by omega,jm pg oz,by omega,by rw[show i+(k+1)=(i+k)+1 from rfl,show s/2^32=s/4294967296 from rfl,ajq,h6,eD];simp only[aoo];grind⟩ (hw:=Wk.of bg (.cons rfl (.of (by rw[aou];rfl)) .nil))
  have bw:k=b.length:=by have:b.length<=k:=(by simpa[aa]using z);omega
  subst bw;have h5:=pZ (x:=c) (show i+b.length<o.length by omega);rw[an3]at j7;refine gl ?_;refine ga (mN (by unfold bb;omega) (by unfold bb;omega)) ?_;refine gv ((ff c).trans (by rw[aj4 hc])) ?_;refine gs (cG (n:=i+b.length) (.tmp rfl) (.tmp rfl) T104 rfl T354 rfl oz (by first |omega |(simp;omega)) rfl) ?_;refine gs (eY (.tmp rfl) rfl (cU (i:=i+b.length) oz) rfl (.tmp rfl) rfl rfl T354 rfl rfl) ?_;refine ga (d5 oz) ?_;exact jq J1 (o.set (i+b.length) c) (i+1) ⟨by simp[iz],by omega,jm pg hc,by rw[show i+1+b.length=i+b.length+1 by omega,h5,eD];simp only[aoo]at *;grind⟩ (hw:=Wk.of bg (.cons rfl (.of (by rw[aou];rfl)) .nil))
 have ah:i=a.length:=by have:a.length<=i:=(by simpa[aa]using z);omega
 subst ah;rw[an3,gX oz]at hv;refine gW ((Wk.freeze (k:=15) rfl).trans<|Wk.of (sl:=[pP 5 (ws out)]) (hp:=[]) (.cons rfl (.of (cz (by simp[ho]))) .nil) .nil) ?_;refine gc (u5 out hw oz) ?_;refine ai ?_;rw[hv]
theorem GQ(a:Wh)(ha:a.ok):FP 267 [a.av] (i64 a.z.sign):=by
 obtain⟨e1,e2,e3⟩:=Qm ha;refine am func267 ?_;refine gc (oG a ha) ?_;refine gl ?_;refine gC (fun z=>?_) (fun z=>?_)
 ·have h0:a.m.length=0:=by simpa[aa] using z
  refine ai ?_;rw[e1 h0];rfl
 have h0:a.m.length≠0:=by simpa[aa]using z
 have mh:a.valid=true:=by
  unfold Wh.m at h0;split at h0
  ·assumption
  ·exact ao5 rfl h0
 refine gc (lK a ha) ?_;refine gC (fun z=>?_) (fun z=>?_)
 ·have h1:a.neg=true:=by unfold Wh.n at z; rw[mh] at z; simpa using z
  refine ai ?_;rw[e2 h0 h1];rfl
 have h1:a.neg=false:=by unfold Wh.n at z;rw[mh]at z;simpa using z
 refine ai ?_;rw[e3 h0 h1];rfl
theorem Kd(a:Wh)(ha:a.ok)(la:a.mag.length<aJ):FP 268 [a.av] (zA (-a.z)):=by
 refine am func268 ?_;refine gc (lK a ha) ?_;refine gc (oG a ha) ?_;refine gc (nN _ a.m (Wh.ws ha) (le_of_lt (Wh.small ha la))) ?_;refine gD ?_;refine ai ?_;rw[Wh.z_eq,<- Lu];rfl
theorem afd(a b:Wh)(ha:a.ok)(hb:b.ok)(la:a.mag.length+b.mag.length<=aJ):FP 286 [a.av,b.av] (zA (a.z*b.z)):=by
 have h1:=Wh.m_le (w:=a);have h2:=Wh.m_le (w:=b);have h3:(ofNat (val a.m*val b.m)).length<=a.m.length+b.m.length:=ir (by rw[aoo];exact akr (cR _ (Wh.ws ha)) (cR _ (Wh.ws hb)));refine am func286 ?_;refine gc (lK a ha) ?_;refine gc (lK b hb) ?_;refine gc (oG a ha) ?_;refine gc (oG b hb) ?_;refine gc (Ux a.m b.m (Wh.ws ha) (Wh.ws hb) oz) ?_;refine gc (nN _ _ (eI _) oz) ?_;refine gD ?_;refine ai ?_;rw[cT,Ju];rfl
theorem JQ(a b:Wh)(ha:a.ok)(hb:b.ok)(la:a.mag.length<aJ)(lb:b.mag.length<aJ):FP 285 [a.av,b.av] (zA (a.z+b.z)):=by
 have h1:=Wh.m_le (w:=a);have h2:=Wh.m_le (w:=b);have lH:val a.m<4294967296^(max a.m.length b.m.length):=an5 (cR _ (Wh.ws ha)) (akl oz oz);have dU:val b.m<4294967296^(max a.m.length b.m.length):=an5 (cR _ (Wh.ws hb)) (akl oz oz);have h3:(ofNat (val a.m+val b.m)).length<=max a.m.length b.m.length+1:=ir (by rw[ajq];omega);have h4:(ofNat (val a.m-val b.m)).length<=max a.m.length b.m.length:=ir oz;have h5:(ofNat (val b.m-val a.m)).length<=max a.m.length b.m.length:=ir oz;refine am func285 ?_;refine gc (oG a ha) ?_;refine gc (oG b hb) ?_;refine gD ?_;refine gc (lK a ha) ?_;refine gc (lK b hb) ?_;refine gD ?_;refine gC (fun z=>?_) (fun z=>?_)
 ·have h0:a.n=b.n:=by simpa using z
  refine gc (lK a ha) ?_;refine gc (Eh a.m b.m (Wh.ws ha) (Wh.ws hb) oz oz) ?_;refine gc (nN _ _ (eI _) oz) ?_;refine ai ?_;rw[cT,Me h0];rfl
 have h0:a.n≠b.n:=by simpa using z
 refine gc (Fi a.m b.m (Wh.ws ha) (Wh.ws hb)) ?_;refine gC (fun t25=>?_) (fun t25=>?_)
 ·have h6:val b.m<=val a.m:=by
   rcases anu (val a.m) (val b.m)with h |h
   ·rw[aoz h]at t25;cases t25
   ·exact h
  refine gc (lK a ha) ?_;refine gc (F4 a.m b.m (Wh.ws ha) (Wh.ws hb) oz oz) ?_;refine gc (nN _ _ (eI _) oz) ?_;refine ai ?_;rw[cT,GS h0 h6];rfl
 have h6:val a.m<val b.m:=by
  rcases anu (val a.m) (val b.m)with h |h
  ·exact h
  ·rw[aoy oz]at t25;split at t25 <;> cases t25
 refine gc (lK b hb) ?_;refine gc (F4 b.m a.m (Wh.ws hb) (Wh.ws ha) oz oz) ?_;refine gc (nN _ _ (eI _) oz) ?_;refine ai ?_;rw[cT,M5 h0 oz];rfl
theorem LU(n:Int)(h:-9223372036854775808<=n/\n<=9223372036854775807):FP 141 [i64 n] (zA n):=by
 obtain⟨N,hN⟩:∃N,N=n.natAbs:=⟨_,rfl⟩
 have rq:N<18446744073709551616:=by omega
 refine am func141 ?_;refine gv (show IntKind.u64.wrap n=((n%18446744073709551616:Int)) by simp only[IntKind.wrap,IntKind.signed,IntKind.bits,amq,if_false,ams];omega) ?_;refine gC (fun z=>?_) (fun z=>?_) (st2:=(77777,0))
 ·have hn:n<0:=by simpa[aa] using z
  refine gs (Hq (.tmp rfl) rfl) ?_ (4,0);refine gW (Wk.of (sl:=[pP 0 (i64 n),pP 2 (.ptr 2 0),pP 3 (u64 N)]) (hp:=[pP 2 (.box [.v (.bool false),nS])]) (.k (.k (.cons rfl (Sub.int (by simp only[IntKind.wrap,IntKind.signed,IntKind.bits,amq,if_false,ams];omega)) .nil))) (.k .nil)) ?_;refine gv (ff _) ?_;refine gs (gP (.tmp rfl) (.const _) oz (jV _ 32 oz) rfl) ?_;refine gv ((ff _).trans (by rw[aj4 (show N/2^32<4294967296 by omega)])) ?_;refine gc (nN (aa .lss n 0) [N%4294967296,N/2^32] (CB rq) (by unfold aJ;simp)) ?_;refine ai ?_;rw[BM rq,show sgn (aa .lss n 0) N=n by simp only[sgn,aa,ao0];split <;> omega];rfl
 have hn:¬n<0:=by simpa[aa]using z
 refine gW (Wk.of (sl:=[pP 0 (i64 n),pP 2 (.ptr 2 0),pP 3 (u64 N)]) (hp:=[pP 2 (.box [.v (.bool false),nS])]) (.k (.k (.cons rfl (Sub.int oz) .nil))) (.k .nil)) ?_;refine gv (ff _) ?_;refine gs (gP (.tmp rfl) (.const _) oz (jV _ 32 oz) rfl) ?_;refine gv ((ff _).trans (by rw[aj4 (show N/2^32<4294967296 by omega)])) ?_;refine gc (nN (aa .lss n 0) [N%4294967296,N/2^32] (CB rq) (by unfold aJ;simp)) ?_;refine ai ?_;rw[BM rq,show sgn (aa .lss n 0) N=n by simp only[sgn,aa,ao0];split <;> omega];rfl
theorem abn(a b:Wh)(ha:a.ok)(hb:b.ok)(la:a.mag.length<aJ)(lb:b.mag.length<aJ):FP 398 [a.av,b.av] (zA (a.z-b.z)):=by
 have h1:=(Wh.lz hb).neg;have h2:=O9 h1;refine am func398 ?_;refine gc (Kd b hb lb) ?_;refine gc (JQ a (ofInt (-b.z)) ha (Jv h1 hb.2) la oz) ?_;refine gD ?_;refine ai ?_;rw[ft,<- Int.sub_eq_add_neg];rfl
theorem aby(a b:Wh)(ha:a.ok)(hb:b.ok)(la:a.mag.length<aJ)(lb:b.mag.length<aJ):FP 306 [a.av,b.av] (i64 (jJ a.z b.z)):=by
 have h1:=(Wh.lz ha).sub (Wh.lz hb);have h2:=O9 h1;refine am func306 ?_;refine gc (abn a b ha hb la lb) ?_;refine gc (GQ (ofInt (a.z-b.z)) (Jv h1 (by unfold bb;unfold aJ at la lb;omega))) ?_;refine ai ?_;rw[ft,abw]
theorem uU{A:List Nat}{n:Nat}:AV.lst 1 (((A.map u32).drop 0).take n)=ws (A.take n):=by
 rw[aov,<- map_take];rfl
theorem OR(A:List Nat):(Blk.row 1 (A.map u32)).sc=true:=by
 simp only[Blk.sc,List.all_map];rw[anx];intro x _;rfl
theorem ud{A:List Nat}{n i:Nat}(h:i<n):an (A.take n) i=an A i:=by
 simp[an,h]
theorem MC{A:List Nat}{n i:Nat}(h:n<=i):an (A.take n) i=0:=vM (by simp;omega)
theorem RV{x:Nat}(h:0<x):bp x=bp (x/2)+1:=by
 rcases anu x 2 with h1 |h1
 ·have:x=1:=by omega
  subst this;decide
 ·have:=zH (x:=x) (k:=1) oz;rw[show x/2^1=x/2 from rfl]at this;omega
theorem Vt{a:List Nat}{n:Nat}(ha:Ws a)(na:Nz a)(hl:a.length=n+1):bp (val a)=32*n+bp (an a n):=by
 have ht:an a n≠0:=by
  refine na _ ?_;rw[aly,hl];exact ni oz
 have hv:val a=val (a.take n)+4294967296^n*an a n:=by rw[<- eD,gX oz]
 have hlt:=tV ha n;have hp:(4294967296:Nat)^n=2^(32*n):=by rw[akb]
 rw[hp]at hv hlt
 have h1:val a/2^(32*n)=an a n:=by
  rw[hv,ako _ _ (aki oz),Nat.div_eq_of_lt hlt,akv]
 have h2:2^(32*n)<=val a:=by
  have:=ant (2^(32*n)) (show 1<=an a n by omega);omega
 rw[zH h2,h1]
theorem II{o A:List Nat}{n v:Nat}(ho:Ws o)(hl:o.length=A.length)(hn:n<=A.length)(hd:o.drop n=A.drop n)(hv:val (o.take n)=v):o=wr A 0 (bF n v):=by
 have h1:bP o 0 n=bF n v:=Bb (rY ho _ _) (tB oz) (by rw[bP,aov,hv]);rw[<- h1];exact EH (by simp) (by rw[akv];exact hd) oz
theorem ES(k:Nat)(A:List Nat)(n i:Nat)(hA:Ws A)(hn:n<=A.length) :
  Con prog 428 [.ms k 1 0 n,i64 i] [(k,some (.row 1 (A.map u32)))] (u64 (an (A.take n) i)) [(k,some (.row 1 (A.map u32)))]:=by
 refine Con.borrow (args:=[ws (A.take n),i64 i]) k 1 (A.map u32) rfl rfl rfl ?_ rfl (fun k' x h=>by cases h) (pI (A.take n) i (jz hA n));intro j x' hj
 match j,hj with
 |0,hj=>cases hj;exact .inr ⟨0,n,rfl,by simpa using hn,by rw[uU];rfl⟩
 |1,hj=>cases hj;exact .inl rfl
theorem Xq(k1 k2:Nat)(hk:k1≠k2)(A D:List Nat)(n p:Nat)(hA:Ws A)(hD:Ws D)(hn:n<=A.length)(hp:p<=D.length) :
  Con prog 385 [.ms k1 1 0 n,.ms k2 1 0 p] [(k1,some (.row 1 (A.map u32))),(k2,some (.row 1 (D.map u32)))]
   (i64 (if val (A.take n)<val (D.take p)then -1 else if val (D.take p)<val (A.take n)then 1 else 0)) [(k1,some (.row 1 (A.map u32))),(k2,some (.row 1 (D.map u32)))]:=by
 have h1:Con prog 385 [ws (A.take n),.ms k2 1 0 p] [(k2,some (.row 1 (D.map u32)))]
   (i64 (if val (A.take n)<val (D.take p)then -1 else if val (D.take p)<val (A.take n)then 1 else 0)) [(k2,some (.row 1 (D.map u32)))]:=by
  refine Con.borrow (args:=[ws (A.take n),ws (D.take p)]) k2 1 (D.map u32) rfl rfl rfl ?_ rfl (fun k' x h=>by cases h) (Fi (A.take n) (D.take p) (jz hA n) (jz hD p));intro j x' hj
  match j,hj with
  |0,hj=>cases hj;exact .inl rfl
  |1,hj=>cases hj;exact .inr ⟨0,p,rfl,by simpa using hp,by rw[uU];rfl⟩
 refine Con.borrow (args:=[ws (A.take n),.ms k2 1 0 p]) k1 1 (A.map u32) ?_ ?_ rfl ?_ rfl ?_ h1
 ·rw[a5,aoy hk];rfl
 ·rw[a5,aoy hk];rfl
 ·intro j x' hj
  match j,hj with
  |0,hj=>cases hj;exact .inr ⟨0,n,rfl,by simpa using hn,by rw[uU];rfl⟩
  |1,hj=>cases hj;exact .inl rfl
 ·intro k' x h;obtain⟨_,h⟩:=iQ h;cases h;exact OR D
theorem agx(k:Nat)(A b:List Nat)(n:Nat)(hA:Ws A)(hb:Ws b)(hn:n<=A.length) :
  Con prog 385 [.ms k 1 0 n,ws b] [(k,some (.row 1 (A.map u32)))]
   (i64 (if val (A.take n)<val b then -1 else if val b<val (A.take n)then 1 else 0)) [(k,some (.row 1 (A.map u32)))]:=by
 refine Con.borrow (args:=[ws (A.take n),ws b]) k 1 (A.map u32) rfl rfl rfl ?_ rfl (fun k' x h=>by cases h) (Fi (A.take n) b (jz hA n) hb);intro j x' hj
 match j,hj with
 |0,hj=>cases hj;exact .inr ⟨0,n,rfl,by simpa using hn,by rw[uU];rfl⟩
 |1,hj=>cases hj;exact .inl rfl
theorem aa4(a:List Nat)(ha:Ws a)(na:Nz a)(la:a.length<=aJ):FP 427 [ws a] (i64 (bp (val a))):=by
 unfold aJ at la;refine am func427 ?_;refine gl ?_;refine gC (fun z=>?_) (fun z=>?_)
 ·have h0:a=[]:=ak0.1 (by simpa[aa]using z);refine ai ?_;subst h0;rfl
 have h0:a.length≠0:=by simpa[aa]using z
 obtain⟨n,hn⟩:∃n,a.length=n+1:=⟨a.length-1,by omega⟩
 have hB:=Vt ha na hn;have ht:=cC ha n;refine gl ?_;refine ga (show _=(n:Int) by rw[fc oz];omega) ?_;refine ga (show _=((32*n:Nat):Int) by rw[Fu oz];omega) ?_;refine gl ?_;refine ga (show _=(n:Int) by rw[fc oz];omega) ?_;refine gi (j4 (n:=n) oz (by first |omega |(simp;omega))) ?_;refine jZ [] [] (fun(x c:Nat)=>[pP 3 (i64 c),pP 4 (u32 x)]) (fun _ _=>[]) (fun x c=>x<4294967296/\c<=281474976710656/\c+bp x=bp (val a)) (fun x _=>x) (an a n) (32*n) ⟨ht,by omega,hB.symm⟩ ?_;rintro x c ⟨hx,hc,hv⟩ K1 J1;refine gC (fun z=>?_) (fun z=>?_)
 ·have iH:0<x:=by simpa[aa] using z
  have h2:=RV iH
  have h3:bp (val a)<=32*n+32:=by
   have:=(D9 (x:=an a n)  (by
    refine na _ ?_;rw[aly,hn];exact ni oz) ht).1
   omega
  refine ga (show _=((c+1:Nat):Int) by rw[d5 oz];omega) ?_;refine gs (gP (.tmp rfl) (.const _) oz (u4 x 1 oz) rfl) ?_;exact jq J1 (x/2^1) (c+1) ⟨by omega,by omega,by rw[show x/2^1=x/2 from rfl];omega⟩
 have iH:x=0:=by have:x<=0:=(by simpa[aa]using z);omega
 subst iH;refine ai ?_;rw[<- hv];rfl
theorem ER(A:List Nat)(n:Nat)(hA:Ws A)(hn:n<=A.length)(la:A.length<=aJ) :
  Con prog 426 [.ms 1000 1 0 n] [pP 1000 (.row 1 (A.map u32))] (.ms 1000 1 0 (ofNat (val (A.take n))).length) [pP 1000 (.row 1 (A.map u32))]:=by
 unfold aJ at la;refine gF func426 (fun k z h=>bW h) ?_;refine aY [] [1000] (fun(j:Nat)=>[pP 0 (.ms 1000 1 0 j)]) (fun _=>[]) (fun j=>j<=n/\val (A.take j)=val (A.take n)) (fun j=>j) n ⟨anp _,rfl⟩ ?_;rintro j ⟨hj,hv⟩ K1 J1;refine uk (fun h=>(mL (by simp[aa]at h;omega) (by unfold bb;omega))) ?_;refine gs (gy rfl rfl rfl (fun h=>cG (n:=j-1) (.opt rfl (o1 h)) (.opt rfl (o1 h)) T104 rfl T354 rfl oz (by simp[aa]at h;omega) rfl)) ?_;refine gs (gy rfl rfl rfl (fun h=>fR (.opt rfl (o1 h)) rfl (cU (i:=j-1) (by simp[aa]at h;omega)) T354 rfl rfl rfl)) ?_;refine gC (fun t14=>?_) (fun t14=>?_)
 ·have t14:0<j/\an A (j - 1)=0:=by simpa[aa] using t14
  refine ga (mL oz (by unfold bb;omega)) ?_;refine gs (CJ (.tmp rfl) (.none _) (.some _ (.tmp rfl) oz) T104 rfl T354 rfl oz oz rfl) ?_;exact aS J1 (j-1) ⟨by omega,by have h:=@eD A (j-1);rw[show j-1+1=j by omega,t14.2]at h;simp at h;omega⟩ (hw:=Wk.of (.cons rfl (.of (by congr 1)) .nil) (.k .nil))
 have t14:0<j->an A (j-1)≠0:=by simpa[aa]using t14
 have ot:=MY (m:=A.take n) (n:=j) (jz hA n) (by simp; omega) (by rw[aln,aj1 hj]; exact hv) (by
  rcases akx j with h |h
  ·exact .inl h
  ·exact .inr (by rw[ud oz];exact t14 h))
 subst ot;refine gR ?_;exact aD.own2 rfl rfl rfl
theorem Ay(A:List Nat)(n:Nat)(hA:Ws A)(hn:n<=A.length)(la:A.length<=aJ) :
  Con prog 424 [.ms 1000 1 0 n] [pP 1000 (.row 1 (A.map u32))] (.ms 1000 1 0 (ofNat (val (A.take n)/2)).length) [pP 1000 (.row 1 ((wr A 0 (bF n (val (A.take n)/2))).map u32))]:=by
 have la':=la;unfold aJ at la;refine gF func424 (fun k z h=>bW h) ?_;refine jZ [5] [] (fun(o:List Nat)(i:Nat)=>[pP 0 (.ms 1000 1 0 n),pP 6 (i64 i)]) (fun o _=>[pP 1000 (.row 1 (o.map u32))]) (fun o i=>o.length=A.length/\i<=n/\Ws o/\o.drop i=A.drop i/\val (o.take i)=val (A.take n)/2^1%4294967296^i) (fun _ i=>n-i) A 0 ⟨rfl,by omega,hA,rfl,by simp[val,Nat.mod_one]⟩ ?_;rintro o i ⟨ho,hi,hw,hd,hv⟩ K1 J1;refine gC (fun u=>?_) (fun u=>?_)
 ·have ah:i<n:=by simpa[aa] using u
  have e1:an (o.take n) i=an (A.take n) i:=by rw[ud ah,ud ah];exact wk hd
  have df:o.drop (i+1)=A.drop (i+1):=by
   have h1:(o.drop i).drop 1=(A.drop i).drop 1:=by rw[hd]
   rwa [drop_drop,drop_drop]at h1
  have e2:an (o.take n) (i+1)=an (A.take n) (i+1):=by
   rcases anu (i+1) n with h |h
   ·rw[ud h,ud h];exact wk df
   ·rw[MC h,MC h]
  have b1:=cC (jz hA n) i;have b2:=cC (jz hA n) (i+1);have h3:=Kz (n:=1) (jz hA n) (show i<(A.take n).length by simp;omega) (show i<o.length by omega) oz hv;refine gt (aR (ES 1000 o n i hw oz) (b8 rfl rfl) aT rfl rfl) ?_;refine gs (gP (.tmp rfl) (.const _) oz ((jV _ 1 oz).trans (by rw[e1])) rfl) ?_;refine ga (mN (y:=1) (by unfold bb;omega) (by unfold bb;omega)) ?_;refine gt (aR (ES 1000 o n (i+1) hw oz) (b8 rfl rfl) aT rfl rfl) ?_;refine gs (jD (.tmp rfl) (.const _) oz ((v7 (n:=31) oz oz).trans (by rw[e2])) rfl) ?_;refine gs (mZ (.tmp rfl) (.tmp rfl) rfl ((yf oz oz).trans (by rw[DT oz])) rfl) ?_;refine gv ((ff _).trans (show _=(((an (A.take n) i+an (A.take n) (i+1)*2^32)/2^1%4294967296:Nat):Int) by congr 1;omega)) ?_;refine gs (cG (n:=i) (.tmp rfl) (.tmp rfl) T104 rfl T354 rfl oz (by first |omega |(simp;omega)) rfl) ?_;refine gs (eY (.tmp rfl) rfl (cU (i:=i) oz) rfl (.tmp rfl) rfl rfl T354 rfl rfl) ?_;refine ga (d5 oz) ?_;exact jq J1 (o.set i ((an (A.take n) i+an (A.take n) (i+1)*2^32)/2^1%4294967296)) (i+1) ⟨by simp[ho],by omega,jm hw oz,zM hd,h3⟩ (hw:=Wk.of bg (.cons rfl (.of (by rw[aou];rfl)) .nil))
 have ah:i=n:=by have:n<=i:=(by simpa[aa]using u);omega
 subst ah;have hlt:=tV hA i;have hv':val (o.take i)=val (A.take i)/2:=by rw[hv,aj4 oz]
 have h9:=II hw ho hn hd hv';refine gt (aR (ER o i hw oz oz) (dJ rfl) aT rfl rfl) ?_;refine gR ?_;exact aD.own2 rfl (by rw[<- h9]) (by rw[hv'];rfl)
theorem PT(A b:List Nat)(n:Nat)(hA:Ws A)(hb:Ws b)(hn:n<=A.length)(la:A.length<=aJ)(cF:val b<=val (A.take n)) :
  Con prog 425 [.ms 1000 1 0 n,ws b] [pP 1000 (.row 1 (A.map u32))] (.tup []) [pP 1000 (.row 1 ((wr A 0 (bF n (val (A.take n)-val b))).map u32))]:=by
 unfold aJ at la;refine gF func425 (fun k z h=>bW h) ?_;refine mf [1,8] [] (fun(o:List Nat)(c i:Nat)=>[pP 0 (.ms 1000 1 0 n),pP 4 (u64 c),pP 9 (i64 i)]) (fun o _ _=>[pP 1000 (.row 1 (o.map u32))]) (fun o c i=>o.length=A.length/\i<=n/\Ws o/\c<=1/\o.drop i=A.drop i/\val (o.take i)+val (b.take i)=val (A.take i)+c*4294967296^i) (fun _ _ i=>n-i) A 0 0 ⟨rfl,by omega,hA,by omega,rfl,by simp[val]⟩ ?_;rintro o c i ⟨ho,hi,hw,hc,hd,hv⟩ K1 J1;refine gC (fun y=>?_) (fun y=>?_)
 ·have ah:i<n:=by simpa[aa] using y
  have e1:an (o.take n) i=an A i:=by rw[ud ah];exact wk hd
  have h1:=cC hA i;have h2:=cC hb i;obtain⟨s,hs⟩:∃s,s=4294967296+an A i-an b i-c:=⟨_,rfl⟩
  have h3:=Pc h1 h2 hc hv;rw[<- hs]at h3;refine gt (aR (ES 1000 o n i hw oz) (b8 rfl rfl) aT rfl rfl) ?_;refine ga ((l8 (x:=4294967296) oz).trans (by rw[e1])) ?_;refine gc (pI b i hb) ?_;refine ga ((oA oz oz).trans (by rw[aoz oz])) ?_;refine ga ((oA oz oz).trans (show _=(s:Int) by rw[aoz oz];congr 1;omega)) ?_;refine gv (ff _) ?_;refine gs (gP (.tmp rfl) (.const _) oz (jV _ 32 oz) rfl) ?_;refine ga ((oA (x:=1) oz oz).trans (by rw[aoz oz])) ?_;refine gs (cG (n:=i) (.tmp rfl) (.tmp rfl) T104 rfl T354 rfl oz (by first |omega |(simp;omega)) rfl) ?_;refine gs (eY (.tmp rfl) rfl (cU (i:=i) oz) rfl (.tmp rfl) rfl rfl T354 rfl rfl) ?_;refine ga (d5 oz) ?_;exact kz J1 (o.set i (s%4294967296)) (1-s/2^32) (i+1) ⟨by simp[ho],by omega,jm hw oz,by omega,zM hd,by rw[pZ oz,eD,eD,ajq];exact h3⟩ (hw:=Wk.of bg (.cons rfl (.of (by rw[aou];rfl)) .nil))
 have ah:i=n:=by have:n<=i:=(by simpa[aa]using y);omega
 subst ah;have hl:(A.take i).length=i:=by simp;omega
 have h4:=Jy (a:=A.take i) (b:=b) (out:=o.take i) (jz hA i) (jz hw i) (by simp;omega) cF (by rw[hl,an1 (show(A.take i).length<=i by omega)];exact hv);have h9:=II hw ho hn hd h4;refine gR ?_;exact aD.own2 rfl (by rw[<- h9]) rfl
theorem Np{x:Nat}(h:x<=9223372036854775807):IntKind.i64.wrap ((x:Int).tdiv 32)=((x/32:Nat):Int):=by
 rw[show(32:Int)=((32:Nat):Int)from rfl,<- Int.ofNat_tdiv];exact i64_in oz
theorem LP{x:Nat}:(x:Int).tmod 32=((x%32:Nat):Int):=(Int.ofNat_tmod _ _).symm
theorem yn(i:Nat):(4294967296:Nat)^i=2^(32*i):=by rw[akb]
theorem Ya{a:List Nat}(ha:Ws a){k:Nat}(hk:k/32<a.length):an a (k/32)/2^(k%32)%2=val a/2^k%2:=by
 have h1:val a/2^k=(val a/4294967296^(k/32))/2^(k%32):=by
  rw[yn,aj7,<- aoo];congr 2;omega
 rw[h1,A8 ha _ oz,yA];generalize val (a.drop (k/32+1))=R
 have h2:4294967296*R=2^(k%32)*(2*(2^(31-k%32)*R)):=by
  have:(4294967296:Nat)=2^(k%32)*(2*2^(31-k%32)):=by
   rw[<- Nat.pow_succ',<- aoo,show k%32+(31-k%32).succ=32 by omega]
  conv=>lhs;rw[this]
  grind
 rw[h2,ako _ _ (aki oz),aj3]
theorem aif{w c:Nat}(hc:c<=1):w*2^1%4294967296 ||| c=w*2^1%4294967296+c:=by
 have h:w*2^1%4294967296=(w%2147483648)*2^1:=by omega
 rw[h];exact xy oz
theorem agn{o c P rt w bit:Nat}(hw:w<4294967296)(h:o+c*P=2*rt+bit) :
  (o+P*(w*2^1%4294967296+c))+(w/2^31)*(P*4294967296)=2*(rt+P*w)+bit:=by
 have h0:w*2^1%4294967296+(w/2^31)*4294967296=2*w:=by omega
 generalize w*2^1%4294967296=r at *;generalize w/2^31=q at *;grind
theorem adi{q:List Nat}(hq:Ws q){k Y:Nat}(hk:k/32<q.length)(h:val q=2^(k+1)*Y) :
  an q (k/32) ||| 2^(k%32)=an q (k/32)+2^(k%32)/\an q (k/32)+2^(k%32)<4294967296:=by
 have h1:=A8 hq (k/32) oz;rw[yA,h,yn,show k+1=32*(k/32)+(k%32+1) by omega,aoo,akt,Nat.mul_div_cancel_left _ (aki oz)]at h1;have hw:=cC hq (k/32);generalize an q (k/32)=w at *;generalize val (q.drop (k/32+1))=R at *
 have hB:(4294967296:Nat)=2^(k%32+1)*2^(31-k%32):=by
  rw[<- aoo,show k%32+1+(31-k%32)=32 by omega]
 have h2:w%2^(k%32+1)=0:=by
  have h3:(w+4294967296*R)%2^(k%32+1)=0:=by rw[<- h1];exact Nat.mul_mod_right _ _
  rw[hB,akt,aj3]at h3;exact h3
 have h4:w=2^(k%32+1)*(w/2^(k%32+1)):=by
  have:=akq w (2^(k%32+1));omega
 have h5:2^(k%32)<2^(k%32+1):=by rw[ajq];have:=aki (n:=k%32) (show 0<2 by omega);omega
 constructor
 ·rw[h4];exact(Nat.two_pow_add_eq_or_of_lt h5 _).symm
 ·have h6:w/2^(k%32+1)<2^(31-k%32):=by
   rw[ajz (aki oz),ajt,<- hB];exact hw
  have h7:=ant (2^(k%32+1)) (show w/2^(k%32+1)+1<=2^(31-k%32)from h6);rw[<- hB,akc,<- h4]at h7;omega
theorem Yr{q:List Nat}(hq:Ws q){k Y:Nat}(hk:k/32<q.length)(h:val q=2^(k+1)*Y) :
  val (q.set (k/32) (an q (k/32)+2^(k%32)))=2^k*(2*Y+1):=by
 have h1:=Fn (x:=an q (k/32)+2^(k%32)) hk;rw[akc]at h1;have h2:4294967296^(k/32)*2^(k%32)=2^k:=by rw[yn,<- aoo];congr 1;omega
 rw[h2,h,ajq]at h1;grind
theorem af1{V Bv k:Nat}(hB:0<Bv) :
  (Bv<=2*(V/2^(k+1)%Bv)+V/2^k%2->V/2^k%Bv=2*(V/2^(k+1)%Bv)+V/2^k%2-Bv/\V/2^k/Bv=2*(V/2^(k+1)/Bv)+1) /\
  (2*(V/2^(k+1)%Bv)+V/2^k%2<Bv->V/2^k%Bv=2*(V/2^(k+1)%Bv)+V/2^k%2/\V/2^k/Bv=2*(V/2^(k+1)/Bv)):=by
 have h1:V/2^(k+1)=V/2^k/2:=by rw[ajq,aj7]
 rw[h1];generalize V/2^k=X;have h2:=akq X 2;have h3:=akq (X/2) Bv;have h4:=akz (X/2) hB;have h5:=akz X (show 0<2 by omega);generalize X/2%Bv=r at *;generalize X/2/Bv=q at *;generalize X%2=b at *;generalize X/2=Y at *;constructor
 ·intro h;have:=BJ (a:=X) (w:=Bv) (q:=2*q+1) (r:=2*r+b-Bv) (by rw[akc,Nat.mul_one,show Bv*(2*q)=2*(Bv*q) by grind];omega) oz;exact⟨this.2,this.1⟩
 ·intro h;have:=BJ (a:=X) (w:=Bv) (q:=2*q) (r:=2*r+b) (by rw[show Bv*(2*q)=2*(Bv*q) by grind];omega) oz;exact⟨this.2,this.1⟩
theorem VC{A l:List Nat}(h:l.length=A.length):wr A 0 l=l:=by
 unfold wr;rw[aoi oz];simp
theorem KA{V:Nat}:V/2^bp V=0:=Nat.div_eq_of_lt C4
theorem Ql{a:List Nat}(ha:Ws a){k:Nat}(h:k<bp (val a)):k/32<a.length:=by
 rcases anu (k/32) a.length with h1 |h1
 ·exact h1
 ·exfalso;have h2:=cR a ha;rw[yn] at h2;have h3:val a≠0:=by intro h0; rw[h0] at h; simp[bp] at h
  have h4:=Cv h3;have h5:2^(32*a.length)<=2^(bp (val a)-1):=tJ oz;omega
theorem RX(a b:List Nat)(ha:Ws a)(hb:Ws b)(na:Nz a)(ow:val b≠0)(la:a.length<aJ)(lb:b.length<aJ) :
  FP 368 [ws a,ws b] (.tup [ws (ofNat (val a/val b)),ws (ofNat (val a%val b))]):=by
 have la':=la;have lb':=lb;unfold aJ at la lb;obtain⟨V,hV⟩:∃V,V=val a:=⟨_,rfl⟩
 obtain⟨Bv,Do⟩:∃Bv,Bv=val b:=⟨_,rfl⟩
 have H7:0<Bv:=by omega
 have hBl:2*Bv<=4294967296^(b.length+1):=by have:=cR b hb;rw[ajq];omega
 have pb:bp V<=32*a.length:=by
  rcases akx (bp V)with h |h
  ·omega
  ·have:=Ql ha (k:=bp V-1) (by rw[<- hV];omega);omega
 rw[<- hV,<- Do];refine am func368 ?_;refine gl ?_;refine gs (kq (.tmp rfl) T104 rfl T354 rfl rfl oz (by dsimp only;omega) rfl) ?_;refine gl ?_;refine ga (mN (y:=1) (by unfold bb;omega) (by unfold bb;omega)) ?_;refine gs (kq (.tmp rfl) T104 rfl T354 rfl rfl oz (by dsimp only;omega) rfl) ?_;refine gc (hV▸aa4 a ha na oz) ?_;refine ga (fc oz) ?_;refine mf [0,1] [] (fun(q r:List Nat)(i:Nat)=>[pP 6 (.ms 13 1 0 a.length),pP 7 (.ms 17 1 0 (b.length+1)),pP 8 (i64 ((i:Int)-1))]) (fun q r _=>[pP 13 (.row 1 (q.map u32)),pP 17 (.row 1 (r.map u32))]) (fun q r i=>q.length=a.length/\r.length=b.length+1/\Ws q/\Ws r/\i<=bp V/\val r=V/2^i%Bv/\val q=2^i*(V/2^i/Bv)) (fun _ _ i=>i) (als a.length 0) (als (b.length+1) 0) (bp V) ⟨by simp,by simp,qj _,qj _,anp _,by rw[Bm,KA,Nat.zero_mod],by rw[Bm,KA,Nat.zero_div,Nat.mul_zero]⟩ ?_ (h2:=(.cons rfl (.of (by rw[aoq];rfl)) (.cons rfl (.of (by rw[aoq];rfl)) .nil)))
 rintro q r i ⟨tc,uK,wq,wr',hi,hr,hq⟩ K1 J1;refine gC (fun z=>?_) (fun z=>?_) (st2:=(15,0))
 ·have td:1<=i:=by have:=z; simp[aa] at this; omega
  obtain⟨k,rfl⟩:∃k,i=k+1:=⟨i-1,by omega⟩
  rw[show((k+1:Nat):Int)-1=(k:Int) by omega];have hka:=Ql ha (k:=k) (by rw[<- hV];omega);have Rj:=Ya ha hka;have hwB:=cC ha (k/32);rw[<- hV]at Rj;obtain⟨bit,Dm⟩:∃bit,bit=V/2^k%2:=⟨_,rfl⟩
  have cw:bit<=1:=by omega
  have ajh:=akz (V/2^(k+1)) H7;have hdw:an a (k/32)/2^(k%32)<=an a (k/32):=akd _ _;refine gs (gU (.tmp rfl) (.const _) oz (Np oz) rfl) ?_;refine gi (j4 (n:=k/32) oz (by first |omega |(simp;omega))) ?_;refine gs (Bh (.tmp rfl) (.const _) oz LP rfl) ?_;refine gs (gP (.tmp rfl) (.tmp rfl) oz (u4 _ (k%32) oz) rfl) ?_;refine gs (mZ (.tmp rfl) (.const _) rfl ((Pi (y:=1) oz oz).trans (show _=(bit:Int) by rw[Nat.and_one_is_mod,Rj,Dm])) rfl) ?_;refine mf [0,1,8,35] [13] (fun(o:List Nat)(c j:Nat)=>[pP 6 (.ms 13 1 0 a.length),pP 7 (.ms 17 1 0 (b.length+1)),pP 9 (u32 c),pP 36 (i64 j)]) (fun o _ _=>[pP 17 (.row 1 (o.map u32))]) (fun o c j=>o.length=b.length+1/\Ws o/\j<=b.length+1/\c<=1/\o.drop j=r.drop j/\val (o.take j)+c*4294967296^j=2*val (r.take j)+bit) (fun _ _ j=>b.length+1-j) r bit 0 ⟨uK,wr',by omega,cw,rfl,by simp[val]⟩ ?_
  rintro o c j ⟨ou,wo,hj,hc,hd,hv⟩ K2 J2;refine gC (fun z=>?_) (fun z=>?_)
  ·have fC:j<b.length+1:=by have:=z; simp[aa] at this; omega
   have e1:an o j=an r j:=wk hd;have h1:=cC wr' j;have h3:=agn (w:=an r j) h1 hv;refine gs (cG (n:=j) (.tmp rfl) (.tmp rfl) T104 rfl T354 rfl oz (by first |omega |(simp;omega)) rfl) ?_;refine gs (fR (.tmp rfl) rfl (by rw[cU (show j<o.length by omega),e1]) T354 rfl rfl rfl) ?_;refine gs (jD (.tmp rfl) (.const _) oz (QB (n:=1) oz) rfl) ?_;refine gs (mZ (.tmp rfl) (.tmp rfl) rfl ((Fy oz oz).trans (by rw[aif hc])) rfl) ?_;refine gs (cG (n:=j) (.tmp rfl) (.tmp rfl) T104 rfl T354 rfl oz (by first |omega |(simp;omega)) rfl) ?_;refine gs (fR (.tmp rfl) rfl (by rw[cU (show j<o.length by omega),e1]) T354 rfl rfl rfl) ?_;refine gs (gP (.tmp rfl) (.const _) oz (u4 _ 31 oz) rfl) ?_;refine gs (cG (n:=j) (.tmp rfl) (.tmp rfl) T104 rfl T354 rfl oz (by first |omega |(simp;omega)) rfl) ?_;refine gs (eY (.tmp rfl) rfl (cU (i:=j) oz) rfl (.tmp rfl) rfl rfl T354 rfl rfl) ?_;refine gD ?_;refine ga (d5 oz) ?_;exact kz J2 (o.set j (an r j*2^1%4294967296+c)) (an r j/2^31) (j+1) ⟨by simp[ou],jm wo oz,by omega,by omega,zM hd,by rw[pZ oz,eD];rw[show 4294967296^(j+1)=4294967296^j*4294967296 from ajq _ _];exact h3⟩ (hw:=Wk.of bg (.cons rfl (.of (by rw[aou];rfl)) (.k .nil)))
  have fC:j=b.length+1:=by have:b.length+1<=j:=(by have:=z;simp[aa]at this;omega);omega
  subst fC;rw[gX (l:=r) oz,gX (l:=o) oz,hr]at hv
  have rj:c=0:=by
   cases c with
   |zero=>rfl
   |succ c=>rw[aj9]at hv;omega
  subst rj;rw[Nat.zero_mul,akn]at hv;have H8:o.take (b.length+1)=o:=an1 oz;obtain⟨d1,d2⟩:=af1 (V:=V) (k:=k) H7;rw[<- Dm]at d1 d2;have Rk:=agx 17 o b (b.length+1) wo hb oz;rw[H8,<- Do,hv]at Rk;have Dp:k/32<q.length:=by omega
  obtain⟨w1,w2⟩:=adi wq Dp hq;have w3:=Yr wq Dp hq;refine gt (aR Rk (b8 rfl rfl) aT rfl rfl) ?_;refine gC (fun t58=>?_) (fun t58=>?_)
  ·have hge:Bv<=2*(V/2^(k+1)%Bv)+bit:=by
    rcases anu (2*(V/2^(k+1)%Bv)+bit) Bv with h |h
    ·rw[aoz h]at t58;cases t58
    ·exact h
   obtain⟨d3,d4⟩:=d1 hge;have Rl:=PT o b (b.length+1) wo hb oz (by unfold aJ;omega) (by rw[H8,<- Do,hv];exact hge);rw[H8,<- Do,hv,<- d3,VC (by rw[ic,ou])]at Rl;have o6:V/2^k%Bv<4294967296^(b.length+1):=by have:=akz (V/2^k) H7;omega
   refine gt (aR (Con.rk 17 rfl rfl Rl) (b8 rfl rfl) aT rfl rfl) ?_;refine gs (gU (.tmp rfl) (.const _) oz (Np oz) rfl) ?_;refine gs (cG (n:=k/32) (.tmp rfl) (.tmp rfl) T104 rfl T354 rfl oz oz rfl) ?_;refine gs (fR (.tmp rfl) rfl (cU (i:=k/32) Dp) T354 rfl rfl rfl) ?_;refine gs (Bh (.tmp rfl) (.const _) oz LP rfl) ?_;refine gs (jD (.const _) (.tmp rfl) oz ((QB (x:=1) (n:=k%32) oz).trans (show _=((2^(k%32):Nat):Int) by rw[Nat.one_mul,aj4 (aog (Nat.le_add_left _ _) w2)])) rfl) ?_;refine gs (mZ (.tmp rfl) (.tmp rfl) rfl ((Fy (cC wq _) (aog (Nat.le_add_left _ _) w2)).trans (by rw[w1])) rfl) ?_;refine gs (cG (n:=k/32) (.tmp rfl) (.tmp rfl) T104 rfl T354 rfl oz oz rfl) ?_;refine gs (eY (.tmp rfl) rfl (cU (i:=k/32) Dp) rfl (.tmp rfl) rfl rfl T354 rfl rfl) ?_;refine gD ?_;refine ga (fc oz) ?_;exact kz J1 (q.set (k/32) (an q (k/32)+2^(k%32))) (bF (b.length+1) (V/2^k%Bv)) k ⟨by simp[tc],ic _ _,jm wq w2,n8 _ _,by omega,pU _ _ o6,by rw[w3,d4]⟩ (hw:=Wk.of bg (.cons rfl (.of (by first |rfl |(rw[aou];rfl))) (.k .nil)))
  have hge:2*(V/2^(k+1)%Bv)+bit<Bv:=by
   rcases anu (2*(V/2^(k+1)%Bv)+bit) Bv with h |h
   ·exact h
   ·rw[aoy oz]at t58;split at t58 <;> cases t58
  obtain⟨d3,d4⟩:=d2 hge;refine ga (fc oz) ?_;exact kz J1 q o k ⟨tc,ou,wq,wo,by omega,by rw[hv,d3],by rw[hq,d4,ajq,akt]⟩ (hw:=Wk.of bg (.cons rfl (.of (by first |rfl |(rw[aou];rfl))) (.k .nil)))
 have td:i=0:=by have:=z;simp[aa]at this;omega
 subst td;refine gW ((Wk.freeze (k:=13) rfl).trans<|(Wk.freeze (k:=17) rfl).trans<|Wk.of (sl:=[pP 6 (ws q),pP 7 (ws r)]) (hp:=[]) (.cons rfl (.of (by rw[show AV.fz 13 1 (q.map u32) (.ms 13 1 0 a.length)=ws q from cz (by simp[tc])];rfl)) (.cons rfl (.of (cz (by simp[uK]))) .nil)) .nil) ?_;refine gc (u5 q wq oz) ?_;refine gc (u5 r wr' (by unfold aJ;omega)) ?_;refine bO ?_;rw[hr,hq];simp[]
def k8(L:Nat)(A:List Nat)(n:Nat):Prop:=Ws A/\n<=A.length/\A.length<=L/\n=(ofNat (val (A.take n))).length
theorem ZO(v:Nat):ofNat v=bF (ofNat v).length v:=by
 have h:=zg (ofNat v) (eI _)
 rwa [cT]at h
theorem mR{L:Nat}{A:List Nat}{n v:Nat}(h:k8 L A n)(hv:v<=val (A.take n)) :
  k8 L (wr A 0 (bF n v)) (ofNat v).length/\val ((wr A 0 (bF n v)).take (ofNat v).length)=v/\val ((wr A 0 (bF n v)).take n)=v:=by
 obtain⟨hw,hn,hl,hN⟩:=h;have hlt:=tV hw n;have pa:v<4294967296^n:=by omega
 have cF:(ofNat v).length<=n:=ir pa
 have ht:(wr A 0 (bF n v)).take n=bF n v:=by
  unfold wr;rw[List.take_zero,nil_append,ak9 (by rw[ic];omega),an1 (by rw[ic];omega)]
 have Rm:(wr A 0 (bF n v)).take (ofNat v).length=ofNat v:=by
  have h1:((wr A 0 (bF n v)).take n).take (ofNat v).length=(wr A 0 (bF n v)).take (ofNat v).length:=by rw[aln,aj1 cF]
  rw[<- h1,ht,F0 _ _ _ cF,<- ZO]
 have bK:(wr A 0 (bF n v)).length=A.length:=qG (by rw[ic];omega);refine⟨⟨vq hw (n8 _ _),by omega,by omega,by rw[Rm,cT]⟩,by rw[Rm,cT],by rw[ht,pU _ _ pa]⟩
theorem kf{L:Nat}{A:List Nat}{n:Nat}(h:k8 L A n)(hx:0<val (A.take n)):0<n/\val (A.take n)%2=an A 0%2:=by
 have hn:0<n:=by
  rcases akx n with h0 |h0
  ·subst h0;simp[val]at hx
  ·exact h0
 refine⟨hn,?_⟩;have:=yA (A.take n) 0;rw[aov,ud hn]at this;omega
theorem ae0{L:Nat}{A:List Nat}{n:Nat}(h:k8 L A n):A.take n=ofNat (val (A.take n)):=by
 obtain⟨hw,hn,hl,hN⟩:=h;have h1:=KD (jz hw n);rw[<- hN,aln,Nat.min_self]at h1;exact h1
theorem LJ{L:Nat}{A:List Nat}{n:Nat}(h:k8 L A n):n=0↔val (A.take n)=0:=by
 constructor
 ·intro h0;subst h0;rfl
 ·intro h0;have h1:=h.2.2.2;rw[h0]at h1;exact h1
theorem YT{x y:Nat}(hx:x%2=0)(hy:y%2=0):aj2 x y=2*aj2 (x/2) (y/2):=by
 rw[<- Nat.gcd_mul_left,Nat.mul_div_cancel' (Nat.dvd_of_mod_eq_zero hx),Nat.mul_div_cancel' (Nat.dvd_of_mod_eq_zero hy)]
theorem Kf{x y:Nat}(hx:x%2=0)(hy:y%2=1):aj2 (x/2) y=aj2 x y:=by
 have h1:x=2*(x/2):=by omega
 have h2:Nat.Coprime 2 y:=by
  rw[Nat.Coprime,Nat.gcd_rec,hy];rfl
 conv=>rhs;rw[h1]
 exact(Nat.Coprime.gcd_mul_left_cancel _ h2).symm
theorem IJ{x y:Nat}(h:y<=x):aj2 (x-y) y=aj2 x y:=Nat.gcd_sub_self_left h
theorem Qv{t L g V:Nat}(hg:0<g)(h:2^t*g<=V)(hV:V<4294967296^L):t<32*L:=by
 rw[yn]at hV;have h1:=ant (2^t) (show 1<=g from hg);rcases anu t (32*L)with h2 |h2
 ·exact h2
 ·have:=tJ h2;omega
theorem KT(A D:List Nat)(n p:Nat)(hA:Ws A)(hD:Ws D)(hn:n<=A.length)(hp:p<=D.length)(la:A.length<=aJ)(cF:val (D.take p)<=val (A.take n)) :
  Con prog 425 [.ms 901 1 0 n,.ms 902 1 0 p] [pP 902 (.row 1 (D.map u32)),pP 901 (.row 1 (A.map u32))] (.tup [])
   [pP 902 (.row 1 (D.map u32)),pP 901 (.row 1 ((wr A 0 (bF n (val (A.take n)-val (D.take p)))).map u32))]:=by
 have h1:=Con.rk 901 rfl rfl (PT A (D.take p) n hA (jz hD p) hn la cF);refine Con.borrow (args:=[.ms 901 1 0 n,ws (D.take p)]) 902 1 (D.map u32) rfl rfl rfl ?_ rfl ?_ h1
 ·intro j x' hj
  match j,hj with
  |0,hj=>cases hj;exact .inl rfl
  |1,hj=>cases hj;exact .inr ⟨0,p,rfl,by simpa using hp,by rw[uU];rfl⟩
 ·intro k' x h;obtain⟨_,h⟩:=iQ h;cases h;exact OR _
theorem AY{A:List Nat}(hA:Ws A){i:Nat}:tE .and .u32 (an A i:Int) 1=((an A i%2:Nat):Int) :=
 (Pi (y:=1) (cC hA i) oz).trans (by rw[Nat.and_one_is_mod])
theorem agd(a b:List Nat)(ha:Ws a)(hb:Ws b)(na:Nz a)(nb:Nz b)(la:a.length+b.length<aJ):FP 367 [ws a,ws b] (ws (ofNat (aj2 (val a) (val b)))):=by
 have la':=la;unfold aJ at la;have ea:=vW ha na;have eb:=vW hb nb;obtain⟨L,hL⟩:∃L,L=a.length+b.length:=⟨_,rfl⟩
 obtain⟨G,hG⟩:∃G,G=aj2 (val a) (val b):=⟨_,rfl⟩
 rw[<- hG];refine am func367 ?_;refine gt (aR (GU 901 rfl a ha (by unfold aJ;omega)) (dJ rfl) aT rfl rfl) ?_;refine gt (aR (GU 902 rfl b hb (by unfold aJ;omega)) (dJ rfl) aT rfl rfl) ?_ (2,0);refine gW (Wk.of (sl:=[pP 0 (.ms 901 1 0 a.length),pP 1 (.ms 902 1 0 b.length)]) (hp:=[pP 901 (.row 1 (a.map u32)),pP 902 (.row 1 (b.map u32))]) (.cons rfl (.of (by rw[ea])) (.cons rfl (.of (by rw[eb])) .nil)) (.k (.k .nil))) ?_;refine gC (fun z=>?_) (fun z=>?_) (st1:=(3,0))
 ·have h0:a=[]:=ak0.1 (by simpa[aa]using z);refine gW ((Wk.freeze (k:=902) rfl).trans<|Wk.of (sl:=[pP 1 (ws b)]) (hp:=[]) (.cons rfl (.of (cz (by simp))) .nil) .nil) ?_;refine ai ?_;rw[hG,h0];simp[val,eb]
 have h0:a≠[]:=fun h=>by rw[h]at z;simp[aa]at z
 refine gC (fun z=>?_) (fun z=>?_) (st1:=(5,0))
 ·have h1:b=[]:=ak0.1 (by simpa[aa]using z);refine gW ((Wk.freeze (k:=901) rfl).trans<|Wk.of (sl:=[pP 0 (ws a)]) (hp:=[]) (.cons rfl (.of (cz (by simp))) .nil) .nil) ?_;refine ai ?_;rw[hG,h1];simp[val,ea]
 have h1:b≠[]:=fun h=>by rw[h]at z;simp[aa]at z
 have va:=tL na h0;have vb:=tL nb h1;have hGp:0<G:=by rw[hG];exact Nat.gcd_pos_of_pos_left _ va
 have Rn:G<=val a:=by rw[hG];exact Nat.gcd_le_left _ va
 have vla:=cR a ha;refine JK [] [] (fun(A D:List Nat)(n p t:Nat)=>[pP 0 (.ms 901 1 0 n),pP 1 (.ms 902 1 0 p),pP 5 (i64 t)]) (fun A D _ _ _=>[pP 901 (.row 1 (A.map u32)),pP 902 (.row 1 (D.map u32))]) (fun A D n p t=>k8 L A n/\k8 L D p/\0<val (A.take n)/\0<val (D.take p)/\G=2^t*aj2 (val (A.take n)) (val (D.take p))) (fun A _ n _ _=>val (A.take n)) a b a.length b.length 0 ⟨⟨ha,anp _,by omega,by rw[an3,ea]⟩,⟨hb,anp _,by omega,by rw[an3,eb]⟩,by rw[an3];exact va,by rw[an3];exact vb,by rw[an3,an3,hG];simp⟩ ?_
 rintro A D n p t ⟨gA,gD,pA,pD,hg⟩ K1 J1;refine gs (cG (n:=0) (.tmp rfl) (.const _) T104 rfl T354 rfl oz (by have:=(kf gA pA).1;omega) rfl) ?_;refine gs (fR (.tmp rfl) rfl (cU (i:=0) (by have:=(kf gA pA).1;have:=gA.2.1;omega)) T354 rfl rfl rfl) ?_;refine gs (mZ (.tmp rfl) (.const _) rfl (AY gA.1) rfl) ?_;refine gs (gy rfl rfl rfl (fun h=>cG (n:=0) (.opt rfl (o1 h)) (.const _) T104 rfl T354 rfl oz (by have:=(kf gD pD).1;omega) rfl)) ?_;refine gs (gy rfl rfl rfl (fun h=>fR (.opt rfl (o1 h)) rfl (cU (i:=0) (by have:=(kf gD pD).1;have:=gD.2.1;omega)) T354 rfl rfl rfl)) ?_;refine gs (gy rfl rfl rfl (fun h=>mZ (.opt rfl (o1 h)) (.const _) rfl (AY gD.1) rfl)) ?_;refine gC (fun t29=>?_) (fun t29=>?_)
 ·have kG:an A 0%2=0/\an D 0%2=0:=by
   have:=t29;simp[aa]at this;omega
  have xA:val (A.take n)%2=0:=by rw[(kf gA pA).2];exact kG.1
  have xD:val (D.take p)%2=0:=by rw[(kf gD pD).2];exact kG.2
  obtain⟨k1,k2,k3⟩:=mR gA (v:=val (A.take n)/2) oz;obtain⟨m1,m2,m3⟩:=mR gD (v:=val (D.take p)/2) oz;have ht:t<32*a.length:=Qv (Nat.gcd_pos_of_pos_left _ pA) (by rw[<- hg];exact Rn) vla;refine gt (aR (Con.rekeyR 901 rfl (Ay A n gA.1 gA.2.1 (by have:=gA.2.2.1;unfold aJ;omega))) (dJ rfl) aT rfl rfl) ?_;refine gt (aR (Con.rekeyR 902 rfl (Ay D p gD.1 gD.2.1 (by have:=gD.2.2.1;unfold aJ;omega))) (dJ rfl) aT rfl rfl) ?_;refine ga (show _=((t+1:Nat):Int) by rw[d5 oz];omega) ?_;exact Mh J1 (wr A 0 (bF n (val (A.take n)/2))) (wr D 0 (bF p (val (D.take p)/2))) ((ofNat (val (A.take n)/2)).length) ((ofNat (val (D.take p)/2)).length) (t+1) ⟨k1,m1,by rw[k2];omega,by rw[m2];omega,by rw[k2,m2,hg,YT xA xD,ajq];grind⟩ (by rw[k2];omega)
 have hod:val (A.take n)%2=1\/val (D.take p)%2=1:=by
  rw[(kf gA pA).2,(kf gD pD).2];have:=t29;simp[aa]at this;omega
 refine TY [5] [] (fun(A1 D1:List Nat)(n1 p1:Nat)=>[pP 0 (.ms 901 1 0 n1),pP 1 (.ms 902 1 0 p1)]) (fun A1 D1 _ _=>[pP 901 (.row 1 (A1.map u32)),pP 902 (.row 1 (D1.map u32))]) (fun A1 D1 n1 p1=>k8 L A1 n1/\k8 L D1 p1/\0<val (D1.take p1)/\(val (A1.take n1)%2=1\/val (D1.take p1)%2=1)/\G=2^t*aj2 (val (A1.take n1)) (val (D1.take p1))) (fun A1 D1 n1 p1=>val (A1.take n1)+val (D1.take p1)) A D n p ⟨gA,gD,pD,hod,hg⟩ ?_
 rintro A1 D1 n1 p1 ⟨gA1,gD1,pD1,ai4,rm⟩ K2 J2;refine gC (fun t38=>?_) (fun t38=>?_) (st2:=(19,0))
 ·have pA1:0<val (A1.take n1):=by
   have h3:n1≠0:=by have:=t38;simp[aa]at this;omega
   exact Nat.pos_of_ne_zero (fun h=>h3 ((LJ gA1).2 h))
  refine jZ [5] [902] (fun(A2:List Nat)(n2:Nat)=>[pP 0 (.ms 901 1 0 n2),pP 1 (.ms 902 1 0 p1)]) (fun A2 _=>[pP 901 (.row 1 (A2.map u32))]) (fun A2 n2=>k8 L A2 n2/\0<val (A2.take n2)/\val (A2.take n2)<=val (A1.take n1)/\(val (A2.take n2)%2=1\/val (D1.take p1)%2=1)/\aj2 (val (A2.take n2)) (val (D1.take p1))=aj2 (val (A1.take n1)) (val (D1.take p1))) (fun A2 n2=>val (A2.take n2)) A1 n1 ⟨gA1,pA1,anp _,ai4,rfl⟩ ?_
  rintro A2 n2 ⟨gA2,pA2,lA2,aji,fD⟩ K3 J3;refine gs (cG (n:=0) (.tmp rfl) (.const _) T104 rfl T354 rfl oz (by have:=(kf gA2 pA2).1;omega) rfl) ?_;refine gs (fR (.tmp rfl) rfl (cU (i:=0) (by have:=(kf gA2 pA2).1;have:=gA2.2.1;omega)) T354 rfl rfl rfl) ?_;refine gs (mZ (.tmp rfl) (.const _) rfl (AY gA2.1) rfl) ?_;refine gC (fun t43=>?_) (fun t43=>?_)
  ·have xA2:val (A2.take n2)%2=0:=by
    rw[(kf gA2 pA2).2];have:=t43;simp[aa]at this;omega
   obtain⟨k1,k2,k3⟩:=mR gA2 (v:=val (A2.take n2)/2) oz;refine gt (aR (Con.rekeyR 901 rfl (Ay A2 n2 gA2.1 gA2.2.1 (by have:=gA2.2.2.1;unfold aJ;omega))) (dJ rfl) aT rfl rfl) ?_;exact jq J3 (wr A2 0 (bF n2 (val (A2.take n2)/2))) ((ofNat (val (A2.take n2)/2)).length) ⟨k1,by rw[k2];omega,by rw[k2];omega,.inr oz,by rw[k2,Kf xA2 oz,fD]⟩ (by rw[k2];omega)
  have xA2:val (A2.take n2)%2=1:=by
   rw[(kf gA2 pA2).2];have:=t43;simp[aa]at this;omega
  refine jZ [5] [901] (fun(D2:List Nat)(p2:Nat)=>[pP 0 (.ms 901 1 0 n2),pP 1 (.ms 902 1 0 p2)]) (fun D2 _=>[pP 902 (.row 1 (D2.map u32))]) (fun D2 p2=>k8 L D2 p2/\0<val (D2.take p2)/\val (D2.take p2)<=val (D1.take p1)/\aj2 (val (A2.take n2)) (val (D2.take p2))=aj2 (val (A2.take n2)) (val (D1.take p1))) (fun D2 p2=>val (D2.take p2)) D1 p1 ⟨gD1,pD1,anp _,rfl⟩ ?_;rintro D2 p2 ⟨gD2,pD2,lD2,H9⟩ K4 J4;refine gs (cG (n:=0) (.tmp rfl) (.const _) T104 rfl T354 rfl oz (by have:=(kf gD2 pD2).1;omega) rfl) ?_;refine gs (fR (.tmp rfl) rfl (cU (i:=0) (by have:=(kf gD2 pD2).1;have:=gD2.2.1;omega)) T354 rfl rfl rfl) ?_;refine gs (mZ (.tmp rfl) (.const _) rfl (AY gD2.1) rfl) ?_;refine gC (fun t50=>?_) (fun t50=>?_)
  ·have xD2:val (D2.take p2)%2=0:=by
    rw[(kf gD2 pD2).2];have:=t50;simp[aa]at this;omega
   obtain⟨k1,k2,k3⟩:=mR gD2 (v:=val (D2.take p2)/2) oz;refine gt (aR (Con.rekeyR 902 rfl (Ay D2 p2 gD2.1 gD2.2.1 (by have:=gD2.2.2.1;unfold aJ;omega))) (dJ rfl) aT rfl rfl) ?_;exact jq J4 (wr D2 0 (bF p2 (val (D2.take p2)/2))) ((ofNat (val (D2.take p2)/2)).length) ⟨k1,by rw[k2];omega,by rw[k2];omega,by rw[k2,aky,Kf xD2 xA2,aky,H9]⟩ (by rw[k2];omega)
  have xD2:val (D2.take p2)%2=1:=by
   rw[(kf gD2 pD2).2];have:=t50;simp[aa]at this;omega
  refine gt (aR (Xq 901 902 oz A2 D2 n2 p2 gA2.1 gD2.1 gA2.2.1 gD2.2.1) (b8 rfl rfl) aT rfl rfl) ?_;refine gC (fun t56=>?_) (fun t56=>?_) (st1:=(17,0)) (st2:=(77777,0))
  ·have hlt:val (A2.take n2)<val (D2.take p2):=by
    rcases anu (val (A2.take n2)) (val (D2.take p2))with h |h
    ·exact h
    ·rw[aoy oz]at t56;split at t56 <;> cases t56
   refine gW (Wk.o (sl:=[pP 0 (.ms 902 1 0 p2),pP 1 (.ms 901 1 0 n2),pP 5 (i64 t)]) (hp:=[pP 901 (.row 1 (A2.map u32)),pP 902 (.row 1 (D2.map u32))])) ?_ (17,0);refine gW (Wk.rk (k:=901) (d:=903) rfl rfl) ?_ (17,0);refine gW (Wk.rk (k:=902) (d:=901) rfl rfl) ?_ (17,0);refine gW (Wk.rk (k:=903) (d:=902) rfl rfl) ?_ (17,0);refine gW (Wk.of (sl:=[pP 0 (.ms 901 1 0 p2),pP 1 (.ms 902 1 0 n2),pP 5 (i64 t)]) (hp:=[pP 901 (.row 1 (D2.map u32)),pP 902 (.row 1 (A2.map u32))]) (.cons rfl (Sub.refl _) (.cons rfl (Sub.refl _) (.cons rfl (Sub.refl _) .nil))) (.k (.k .nil))) ?_ (17,0);obtain⟨A3,D3,n3,p3,gA3,gD3,xA3,xD3,Ad,Ia,hs3,e1,e2,e3,e4⟩:∃A3 D3 n3 p3,k8 L A3 n3/\k8 L D3 p3/\val (A3.take n3)%2=1/\val (D3.take p3)%2=1/\val (D3.take p3)<=val (A3.take n3)/\aj2 (val (A3.take n3)) (val (D3.take p3))=aj2 (val (A2.take n2)) (val (D2.take p2))/\val (A3.take n3)+val (D3.take p3)=val (A2.take n2)+val (D2.take p2)/\A3=D2/\n3=p2/\D3=A2/\p3=n2:=⟨D2,A2,p2,n2,gD2,gA2,xD2,xA2,by omega,aky _ _,ajw _ _,rfl,rfl,rfl,rfl⟩
   rw[<- e1,<- e2,<- e3,<- e4];refine go ?_;refine gt (aR (KT A3 D3 n3 p3 gA3.1 gD3.1 gA3.2.1 gD3.2.1 (by have:=gA3.2.2.1;unfold aJ;omega) Ad) (b8 rfl rfl) aT rfl rfl) ?_;refine gt (aR (Con.rekeyR 901 rfl (ER (wr A3 0 (bF n3 (val (A3.take n3)-val (D3.take p3)))) n3 (vq gA3.1 (n8 _ _)) (by rw[qG (by rw[ic];have:=gA3.2.1;omega)];exact gA3.2.1) (by rw[qG (by rw[ic];have:=gA3.2.1;omega)];have:=gA3.2.2.1;unfold aJ;omega))) (dJ rfl) aT rfl rfl) ?_;exact OJ J2 (wr A3 0 (bF n3 (val (A3.take n3)-val (D3.take p3)))) D3 ((ofNat (val (A3.take n3)-val (D3.take p3))).length) p3 ⟨(mR gA3 oz).1,gD3,by omega,.inr xD3,by rw[(mR gA3 (v:=val (A3.take n3)-val (D3.take p3)) oz).2.1,IJ Ad,Ia,H9,fD,rm]⟩ (by rw[(mR gA3 (v:=val (A3.take n3)-val (D3.take p3)) oz).2.1];omega) (hw:=Wk.of (.cons rfl (.of (by rw[(mR gA3 (v:=val (A3.take n3)-val (D3.take p3)) oz).2.2])) (.k (.k .nil))) (.k (.k .nil)))
  have hlt:val (D2.take p2)<=val (A2.take n2):=by
   rcases anu (val (A2.take n2)) (val (D2.take p2))with h |h
   ·rw[aoz h]at t56;cases t56
   ·exact h
  refine gW (Wk.o (sl:=[pP 0 (.ms 901 1 0 n2),pP 1 (.ms 902 1 0 p2),pP 5 (i64 t)]) (hp:=[pP 901 (.row 1 (A2.map u32)),pP 902 (.row 1 (D2.map u32))])) ?_ (77777,0);obtain⟨A3,D3,n3,p3,gA3,gD3,xA3,xD3,Ad,Ia,hs3,e1,e2,e3,e4⟩:∃A3 D3 n3 p3,k8 L A3 n3/\k8 L D3 p3/\val (A3.take n3)%2=1/\val (D3.take p3)%2=1/\val (D3.take p3)<=val (A3.take n3)/\aj2 (val (A3.take n3)) (val (D3.take p3))=aj2 (val (A2.take n2)) (val (D2.take p2))/\val (A3.take n3)+val (D3.take p3)=val (A2.take n2)+val (D2.take p2)/\A3=A2/\n3=n2/\D3=D2/\p3=p2:=⟨A2,D2,n2,p2,gA2,gD2,xA2,xD2,hlt,rfl,rfl,rfl,rfl,rfl,rfl⟩
  rw[<- e1,<- e2,<- e3,<- e4];obtain⟨k1,k2,k3⟩:=mR gA3 (v:=val (A3.take n3)-val (D3.take p3)) oz;refine go ?_;refine gt (aR (KT A3 D3 n3 p3 gA3.1 gD3.1 gA3.2.1 gD3.2.1 (by have:=gA3.2.2.1;unfold aJ;omega) Ad) (b8 rfl rfl) aT rfl rfl) ?_;refine gt (aR (Con.rekeyR 901 rfl (ER (wr A3 0 (bF n3 (val (A3.take n3)-val (D3.take p3)))) n3 (vq gA3.1 (n8 _ _)) (by rw[qG (by rw[ic];have:=gA3.2.1;omega)];exact gA3.2.1) (by rw[qG (by rw[ic];have:=gA3.2.1;omega)];have:=gA3.2.2.1;unfold aJ;omega))) (dJ rfl) aT rfl rfl) ?_;exact OJ J2 (wr A3 0 (bF n3 (val (A3.take n3)-val (D3.take p3)))) D3 ((ofNat (val (A3.take n3)-val (D3.take p3))).length) p3 ⟨(mR gA3 oz).1,gD3,by omega,.inr xD3,by rw[(mR gA3 (v:=val (A3.take n3)-val (D3.take p3)) oz).2.1,IJ Ad,Ia,H9,fD,rm]⟩ (by rw[(mR gA3 (v:=val (A3.take n3)-val (D3.take p3)) oz).2.1];omega) (hw:=Wk.of (.cons rfl (.of (by rw[(mR gA3 (v:=val (A3.take n3)-val (D3.take p3)) oz).2.2])) (.k (.k .nil))) (.k (.k .nil)))
 have zA1:val (A1.take n1)=0:=by
  have h3:n1=0:=by have:=t38;simp[aa]at this;omega
  exact(LJ gA1).1 h3
 rw[zA1,Nat.gcd_zero_left]at rm;refine gW ((Wk.freeze (k:=902) rfl).trans<|Wk.of (sl:=[pP 1 (ws (ofNat (val (D1.take p1)))),pP 5 (i64 t)]) (hp:=[]) (.cons rfl (.of (by rw[BZ (by rw[anl];have:=gD1.2.1;omega),uU,<- ae0 gD1])) (.k .nil)) .nil) ?_;refine aY [64] [] (fun(i:Nat)=>[pP 1 (ws (ofNat (2^i*val (D1.take p1)))),pP 65 (i64 i)]) (fun _=>[]) (fun i=>i<=t) (fun i=>t-i) 0 (ans _) ?_ (h1:=(.cons rfl (.of (by rw[Nat.pow_zero,Nat.one_mul])) (.k .nil)));rintro i hit K5 J5;refine gC (fun z=>?_) (fun z=>?_)
 ·have ah:i<t:=by simpa[aa] using z
  have h3:2^i*val (D1.take p1)<=G:=by rw[rm];exact aod _ (tJ oz)
  have h4:(ofNat (2^i*val (D1.take p1))).length<=a.length:=ir oz;have ht:t<32*a.length:=Qv pD1 (by rw[<- rm];exact Rn) vla;refine gc (Eh _ _ (eI _) (eI _) (by unfold aJ;omega) (by unfold aJ;omega)) ?_;refine ga (d5 oz) ?_;exact aS J5 (i+1) ah (hw:=Wk.of (.cons rfl (.of (by rw[cT,ajq];congr 2;grind)) (.k (.k .nil))) .nil)
 have ah:i=t:=by have:t<=i:=(by simpa[aa]using z);omega
 subst ah;refine ai ?_;rw[rm]
theorem Mn(a b:Wh)(ha:a.ok)(hb:b.ok)(la:a.mag.length+b.mag.length<aJ):FP 269 [a.av,b.av] (zA (amb a.z b.z)):=by
 have h1:=Wh.m_le (w:=a);have h2:=Wh.m_le (w:=b);have h3:amb a.z b.z=aj2 (val a.m) (val b.m):=by rw[amb,Wh.abs,Wh.abs]
 have h4:(ofNat (aj2 (val a.m) (val b.m))).length<=a.m.length+b.m.length:=by
  rcases akx (val a.m)with h |h
  ·rw[h,Nat.gcd_zero_left,Wh.ofNat_m hb];omega
  ·exact an4 (ir (aog (Nat.gcd_le_left _ h) (cR _ (Wh.ws ha)))) oz
 refine am func269 ?_;refine gc (oG a ha) ?_;refine gc (oG b hb) ?_;refine gc (agd a.m b.m (Wh.ws ha) (Wh.ws hb) a.nz b.nz oz) ?_;refine gc (nN false _ (eI _) oz) ?_;refine gD ?_;refine ai ?_;rw[cT,h3];rfl
theorem ah0(a b:Wh)(ha:a.ok)(hb:b.ok)(la:a.mag.length+1<aJ)(lb:b.mag.length<aJ)(h0:b.z≠0):FP 270 [a.av,b.av] (.tup [zA (a.z/b.z),zA (a.z%b.z),i64 0]):=by
 have iU:=Wh.m_le (w:=a);have mo:=Wh.m_le (w:=b);have cw:val b.m≠0:=by have:=Wh.abs (w:=b);omega
 have s6:(ofNat (val a.m/val b.m)).length<=a.m.length:=ir (aog (akd _ _) (cR _ (Wh.ws ha)));have z5:=akz (val a.m) (show 0<val b.m by omega);have uL:(ofNat (val a.m%val b.m)).length<=b.m.length:=ir (Nat.lt_trans z5 (cR _ (Wh.ws hb)));have hl3:(ofNat (val a.m/val b.m+1)).length<=a.m.length+1:=ir (by have h7:=aog (akd (val a.m) (val b.m)) (cR _ (Wh.ws ha));rw[ajq];generalize val a.m/val b.m=m at *;omega);have hl4:(ofNat (val b.m-val a.m%val b.m)).length<=b.m.length:=ir (by have:=cR _ (Wh.ws hb);omega);have xe:val [1]=1:=rfl;refine am func270 ?_;refine gc (GQ b hb) ?_;refine gC (fun z=>?_) (fun z=>?_) (st1:=(2,0));exact ao5 (al6.1 (by simpa[aa]using z)) h0;refine gc (oG a ha) ?_;refine gc (oG b hb) ?_;refine gc (RX a.m b.m (Wh.ws ha) (Wh.ws hb) a.nz cw oz oz) ?_;refine gD ?_;refine gc (lK a ha) ?_;refine cV ?_;refine gC (fun z=>?_) (fun z=>?_)
 ·have h1:a.n=true/\0<val a.m % val b.m:=A6.1 z;obtain⟨e1,e2⟩:=OE cw h1.1 h1.2;refine gc (Eh (ofNat (val a.m / val b.m)) [1] (eI _) (yY oz) oz (by unfold aJ; simp)) ?_;refine gc (oG b hb) ?_;refine gc (F4 b.m (ofNat (val a.m % val b.m)) (Wh.ws hb) (eI _) oz (by rw[cT]; omega)) ?_;refine gD ?_ (6,0);refine gW (Wk.of (sl:=[pP 2 (.ptr 2 0),pP 3 (.ptr 3 0),pP 4 (.ptr 4 0),pP 5 (.ptr 5 0),pP 7 (ws (ofNat (val a.m / val b.m+1))),pP 8 (ws (ofNat (val b.m - val a.m % val b.m)))]) (hp:=[pP 2 (.box [bl a.neg,ws a.mag]),pP 3 (.box [bl b.neg,ws b.mag]),pP 4 (.box [.v (.bool false),nS]),pP 5 (.box [.v (.bool false),nS])]) (.k (.k (.k (.k (.cons rfl (.of (by rw[cT,xe])) (.cons rfl (.of (by rw[cT])) .nil)))))) (.k (.k (.k (.k .nil))))) ?_
  refine gc (lK a ha) ?_;refine gc (lK b hb) ?_;refine gc (by apply nN _ _ (eI _) oz) ?_;refine gc (by apply nN _ _ (eI _) oz) ?_;refine gD ?_;refine gR ?_;exact x7 (by rw[cT,cT,e1,show sgn false _=_ from e2];rfl)
 have h1:¬(a.n=true/\0<val a.m%val b.m):=fun h=>amx.1 z (A6.2 h)
 obtain⟨e1,e2⟩:=Kj cw h1;refine gc (lK a ha) ?_;refine gc (lK b hb) ?_;refine gc (by apply nN _ _ (eI _) oz) ?_;refine gc (by apply nN _ _ (eI _) oz) ?_;refine gD ?_;refine gR ?_;exact x7 (by rw[cT,cT,e1,show sgn false _=_ from e2];rfl)
theorem yK{x:Int}(hx:Zs x):FP 299 [zA x] (i64 x.sign):=by
 have h:=Fh (ofInt x) hx.ok;rw[ft]at h;exact h
theorem B2{x:Int}(hx:Zs x):FP 175 [zA x] (zA (-x)):=by
 have h:=acw (ofInt x) hx.ok (by have:=hx.len;unfold aJ;omega);rw[ft]at h;exact h
theorem I0{x y:Int}(hx:Zs x)(hy:Zs y):FP 308 [zA x,zA y] (i64 (jJ x y)):=by
 have h:=Z2 (ofInt x) (ofInt y) hx.ok hy.ok;rw[ft,ft]at h;exact h
theorem ahk{x y:Int}(hx:Zs x)(hy:Zs y):FP 297 [zA x,zA y] (zA (x+y)):=by
 have h:=Vm (ofInt x) (ofInt y) hx.ok hy.ok (by have:=hx.len;unfold aJ;omega) (by have:=hy.len;unfold aJ;omega);rw[ft,ft]at h;exact h
theorem qQ{x y:Int}(hx:Zs x)(hy:Zs y):FP 298 [zA x,zA y] (zA (x*y)):=by
 have h:=VS (ofInt x) (ofInt y) hx.ok hy.ok (by have:=hx.len;have:=hy.len;unfold aJ;omega);rw[ft,ft]at h;exact h
theorem aeq{x y:Int}(hx:Zs x)(hy:Zs y):FP 300 [zA x,zA y] (zA (amb x y)):=by
 have h:=Ma (ofInt x) (ofInt y) hx.ok hy.ok (by have:=hx.len;unfold aJ;omega) (by have:=hy.len;unfold aJ;omega);rw[ft,ft]at h;exact h
theorem Oa{x y:Int}(hx:Zs x)(hy:Zs y)(h0:y≠0):FP 301 [zA x,zA y] (.tup [zA (x/y),zA (x%y),.v .nilIface]):=by
 have h:=YR (ofInt x) (ofInt y) hx.ok hy.ok (by have:=hx.len;unfold aJ;omega) (by have:=hy.len;unfold aJ;omega) (by rw[ft];exact h0);rw[ft,ft]at h;exact h
theorem AT{x:Int}(hx:Zs x):FP 267 [zA x] (i64 x.sign):=by
 have h:=GQ (ofInt x) hx.ok;rw[ft]at h;exact h
theorem FT{x:Int}(hx:Zs x):FP 268 [zA x] (zA (-x)):=by
 have h:=Kd (ofInt x) hx.ok (by have:=hx.len;unfold aJ;omega);rw[ft]at h;exact h
theorem aak{x y:Int}(hx:Zs x)(hy:Zs y):FP 306 [zA x,zA y] (i64 (jJ x y)):=by
 have h:=aby (ofInt x) (ofInt y) hx.ok hy.ok (by have:=hx.len;unfold aJ;omega) (by have:=hy.len;unfold aJ;omega);rw[ft,ft]at h;exact h
theorem ahd{x y:Int}(hx:Zs x)(hy:Zs y):FP 285 [zA x,zA y] (zA (x+y)):=by
 have h:=JQ (ofInt x) (ofInt y) hx.ok hy.ok (by have:=hx.len;unfold aJ;omega) (by have:=hy.len;unfold aJ;omega);rw[ft,ft]at h;exact h
theorem uf{x y:Int}(hx:Zs x)(hy:Zs y):FP 286 [zA x,zA y] (zA (x*y)):=by
 have h:=afd (ofInt x) (ofInt y) hx.ok hy.ok (by have:=hx.len;have:=hy.len;unfold aJ;omega);rw[ft,ft]at h;exact h
theorem Uj{x y:Int}(hx:Zs x)(hy:Zs y):FP 269 [zA x,zA y] (zA (amb x y)):=by
 have h:=Mn (ofInt x) (ofInt y) hx.ok hy.ok (by have:=hx.len;have:=hy.len;unfold aJ;omega);rw[ft,ft]at h;exact h
theorem OY{x y:Int}(hx:Zs x)(hy:Zs y)(h0:y≠0):FP 270 [zA x,zA y] (.tup [zA (x/y),zA (x%y),i64 0]):=by
 have h:=ah0 (ofInt x) (ofInt y) hx.ok hy.ok (by have:=hx.len;unfold aJ;omega) (by have:=hy.len;unfold aJ;omega) (by rw[ft];exact h0);rw[ft,ft]at h;exact h
def oE(e:Nat):ao9:=match e with |0=>.nilIface |e+1=>.iface 41 (.int .i64 ((e+1:Nat):Int))
def bU(e:Nat):AV:=.v (oE e)
theorem ZQ(e:Nat):oE e=.nilIface\/∃T u,oE e=.iface T u:=by cases e;exact .inl rfl;exact .inr ⟨_,_,rfl⟩
theorem N8(e:Nat):iJ (oE e)=decide (e=0):=by cases e <;> simp[oE,iJ]
theorem Uw{e:Nat}(h:iJ (oE e)=true):e=0:=by rw[N8]at h;exact ao1 h
theorem aa9{e:Nat}(h:iJ (oE e)=false):e≠0:=by rw[N8]at h;exact ao2 h
theorem et{e:Nat}(h:(!iJ (oE e))=true):e≠0:=aa9 (by cases h':iJ (oE e) <;> simp_all)
theorem d7{e:Nat}(h:(!iJ (oE e))=false):e=0:=Uw (by cases h':iJ (oE e) <;> simp_all)
theorem Er:FP 228 [] (zA 1):=by
 refine am func228 ?_;refine gc (PX 1 oz) ?_;refine ai ?_
 first |rfl |(simp;done)
theorem xw(r:Rt)(h:r.ok):FP 178 [r.av] (bl r.valid):=by
 have hn:=h.n0;have hd:=h.d0;refine am func178 ?_;refine gl ?_;refine cV ?_;refine gC (fun t14=>?_) (fun t14=>?_)
 ·have h0:r.num=[]/\r.den=[]:=by simpa[aa] using t14
  refine ai ?_;unfold Rt.valid;rw[aoz h0];rfl
 have h0:¬(r.num=[]/\r.den=[]):=by
  have:=t14;simp[aa]at this;exact fun h=>this h.1 h.2
 refine gD ?_;refine gl ?_;refine cV ?_;refine cm (fun _=>(Bg r.n0 hn)) ?_;refine cm (fun _=>(Bg r.d0 hd)) ?_;refine gC (fun z=>?_) (fun z=>?_)
 ·have h1:r.valid=false:=FE h0 z;refine ai ?_;rw[h1];rfl
 have h1:=LH h0 z;refine gc (Ma r.n0 r.d0 hn hd h.n0l h.d0l) ?_;refine gc (by apply Er) ?_;refine gc (I0 (Rt.gcd_zs h) Cz) ?_;refine ai ?_;rw[h1];rfl
theorem ql(r:Rt)(h:r.ok):FP 173 [r.av] (.tup [zA r.q.num,zA r.q.den]):=by
 have s6:r.num.length<=137438953472:=h.2.2.1;have uL:r.den.length<=137438953472:=h.2.2.2;refine am func173 ?_;refine gc (xw r h) ?_;refine cV ?_;refine gC (fun t12=>?_) (fun t12=>?_)
 ·have h0:¬(r.valid=true/\r.num≠[]):=by
   have:=t12;intro h';simp[aa,h'.1,h'.2]at this
  refine gc Er ?_;refine gR ?_;exact fa (by rw[Rt.zero h0];exact Sub.tup (.cons JM (.cons (.refl _) .nil)))
 have h0:r.valid=true/\r.num≠[]:=by
  have:=t12;cases hv:r.valid
  ·rw[hv]at this;cases this
  ·rw[hv]at this;exact⟨rfl,by simpa[aa]using this⟩
 obtain⟨e1,e2,e3,e4,e5,e6⟩:=Rt.parts h h0.1 h0.2;refine gs (lX T104 rfl T354 rfl rfl rfl) ?_;refine gs (cZ (.tmp rfl) rfl rfl (.tmp rfl) T104 rfl T354 rfl rfl (by simp only[anl];omega) rfl rfl) ?_;refine gD ?_ (4,0);refine gW ((Wk.freeze (k:=20) rfl).trans<|Wk.of (sl:=[pP 1 (.ptr 1 0),pP 2 (.ptr 2 0),pP 3 (.ptr 3 0)]) (hp:=[pP 1 (.box [bl r.neg,ws r.num,ws r.den]),pP 2 (.box [bl r.neg,ws r.num]),pP 3 (.box [bl false,nS])]) bg (.k (.cons rfl (BlkSub.bL (.cons (.refl _) (.cons (.of (cz (by simp))) .nil)) rfl) (.k .nil)))) ?_;refine gs (lX T104 rfl T354 rfl rfl rfl) ?_;refine gs (cZ (.tmp rfl) rfl rfl (.tmp rfl) T104 rfl T354 rfl rfl (by simp only[anl];omega) rfl rfl) ?_;refine gD ?_ (77777,0);refine gW ((Wk.freeze (k:=26) rfl).trans<|Wk.of (sl:=[pP 2 (.ptr 2 0),pP 3 (.ptr 3 0)]) (hp:=[pP 2 (.box [bl r.neg,ws r.num]),pP 3 (.box [bl false,ws r.den])]) bg (.k (.cons rfl (BlkSub.bL (.cons (.refl _) (.cons (.of (cz (by simp))) .nil)) rfl) .nil))) ?_;refine bO ?_;rw[e1,e2];exact KP e3 e4 e5
theorem yR{n d:Int}(hn:Zs n)(hd:Zs d)(h0:d≠0):FP 174 [zA n,zA d] (qA (amj n d)):=by
 refine am func174 ?_;refine gc (yK hn) ?_;refine gC (fun z=>?_) (fun z=>?_)
 ·have e0:n=0:=al6.1 (by simpa[aa]using z);refine gR ?_;exact kX (by rw[e0,Rat.zero_divInt];exact kA)
 have e0:n≠0:=fun h=>by rw[h]at z;cases z
 refine gc (yK hd) ?_;refine Fx [2,3,4] [4] (fun(n1 d1:Int)=>[]) (fun n1 d1=>[pP 2 (.box (zA n1).cells),pP 3 (.box (zA d1).cells)]) (fun n1 d1=>0<d1/\n1≠0/\Zs n1/\Zs d1/\amj n1 d1=amj n d) ?_ ?_
 ·intro K1 J1;refine gC (fun t13=>?_) (fun t13=>?_)
  ·have e1:d<0:=ame.1 (by have:=amd d;have h9:d.sign<0:=(by simpa[aa]using t13);omega);refine gc (B2 hn) ?_;refine gc (B2 hd) ?_;refine gD ?_;exact wB J1 (-n) (-d) ⟨by omega,by omega,hn.neg,hd.neg,Nj n d⟩
  have e1:0<d:=by
   have h9:0<=d.sign:=by simpa[aa]using t13
   have:=al8.1 h9;omega
  exact wB J1 n d ⟨e1,e0,hn,hd,rfl⟩
 rintro n1 d1 ⟨f1,f2,f3,f4,f5⟩;refine gc (aeq f3 f4) ?_;refine gc (yK f3) ?_;refine Fo [2,3,4,5] [3,4,5] (fun(n2:Int)=>[pP 6 (bl (decide (n1<0)))]) (fun n2=>[pP 2 (.box (zA n2).cells)]) (fun n2=>n2=(n1.natAbs:Int)) ?_ ?_
 ·intro K2 J2;refine gC (fun t24=>?_) (fun t24=>?_)
  ·have e2:n1<0:=ame.1 (by have:=amd n1;have h9:n1.sign<0:=(by simpa[aa]using t24);omega);refine gc (B2 f3) ?_;exact vI J2 (-n1) oz (hw:=Wk.of (.cons rfl (.of (by rw[show aa .lss n1.sign 0=true from t24,ao3 e2];rfl)) (.k (.k (.k (.k .nil))))) (.k (.k (.k (.k .nil)))))
  have e2:0<n1:=by
   have h9:0<=n1.sign:=by simpa[aa]using t24
   have:=al8.1 h9;omega
  exact vI J2 n1 oz (hw:=Wk.of (.cons rfl (.of (by rw[show aa .lss n1.sign 0=false from t24,ao4 oz];rfl)) (.k (.k (.k (.k .nil))))) (.k (.k (.k (.k .nil)))))
 rintro n2 g1;have g2:Zs (amb n1 d1:Int):=f3.of_le (by rw[aoj];exact Nat.le_of_dvd oz (Int.gcd_dvd_natAbs_left _ _));have g3:(amb n1 d1:Int)≠0:=by have:=Int.gcd_pos_of_ne_zero_left d1 f2;omega
 have g4:Zs n2:=f3.of_le oz;refine gc (Oa g4 g2 g3) ?_;refine gc (Oa f4 g2 g3) ?_;refine ai ?_;rw[<- f5,<- ae8 f1 f2,<- g1];rfl
theorem X6{n d:Int}(hn:Zs n)(hd:Zs d):FP 421 [zA n,zA d] (.tup [qA (amj n d),bU (if d=0 then 8 else 0)]):=by
 refine am func421 ?_;refine gc (yK hd) ?_;refine gC (fun z=>?_) (fun z=>?_)
 ·have h0:d=0:=al6.1 (by simpa[aa]using z);refine gR ?_;exact fa (by rw[aoz h0,h0,Rat.divInt_zero];exact Sub.tup (.cons kA (.cons (.refl _) .nil)))
 have h0:d≠0:=fun h=>by rw[h]at z;cases z
 refine gc (yR hn hd h0) ?_;refine bO ?_;rw[aoy h0];rfl
theorem sR(n:Int)(h:-9223372036854775808<=n/\n<=9223372036854775807):FP 116 [i64 n] (qA n):=by
 have hz:Zs n:=⟨2,by omega,by unfold Lz;simp only[Nat.reducePow];omega⟩
 refine am func116 ?_;refine gc (PX n h) ?_;refine gc Er ?_;refine gc (yR hz Cz oz) ?_;refine ai ?_;exact ao6 qA (amm (n:Rat))
theorem Mf(a:Rt)(ha:a.ok):FP 79 [a.av] (qA (-a.q)):=by
 have za:=ha.qs;refine am func79 ?_;refine gc (ql a ha) ?_;refine gc (B2 za.num) ?_;refine gc (yR za.num.neg za.den (by have:=a.q.den_nz;omega)) ?_;refine gD ?_;refine ai ?_;rw[Qi];rfl
theorem AX(a:Rt)(ha:a.ok):FP 179 [a.av] (i64 (b9 a.q)):=by
 refine am func179 ?_;refine gc (ql a ha) ?_;refine gc (yK ha.qs.num) ?_;refine ai ?_;rw[OG]
theorem I1(a b:Rt)(ha:a.ok)(hb:b.ok):FP 391 [a.av,b.av] (i64 (b9 (a.q-b.q))):=by
 have za:=ha.qs;have zb:=hb.qs;have m1:=za.mul zb;have m2:=zb.mul za;refine am func391 ?_;refine gc (ql a ha) ?_;refine gc (ql b hb) ?_;refine gc (qQ za.num zb.den) ?_;refine gc (qQ zb.num za.den) ?_;refine gc (I0 m1.1 m2.1) ?_;refine gD ?_;refine ai ?_;rw[aai]
theorem tW(a b:Rt)(ha:a.ok)(hb:b.ok):FP 172 [a.av,b.av] (qA (a.q+b.q)):=by
 have za:=ha.qs;have zb:=hb.qs;have m1:=za.mul zb;have m2:=zb.mul za;refine am func172 ?_;refine gc (ql a ha) ?_;refine gc (ql b hb) ?_;refine gc (qQ za.num zb.den) ?_;refine gc (qQ zb.num za.den) ?_;refine gc (ahk m1.1 m2.1) ?_;refine gc (qQ za.den zb.den) ?_;refine gc (yR (za.cross zb) m1.2.2.1 (al9 (by have:=a.q.den_nz;omega) (by have:=b.q.den_nz;omega))) ?_;refine gD ?_;refine ai ?_;rw[EN];rfl
theorem Ud(a b:Rt)(ha:a.ok)(hb:b.ok):FP 330 [a.av,b.av] (qA (a.q-b.q)):=by
 refine am func330 ?_;refine gc (Mf b hb) ?_;refine gc (tW a (rt (-b.q)) ha hb.qs.neg.ok) ?_;refine gD ?_;refine ai ?_;rw[b7,<- aml];rfl
theorem Qa(a b:Rt)(ha:a.ok)(hb:b.ok):FP 337 [a.av,b.av] (qA (a.q*b.q)):=by
 have za:=ha.qs;have zb:=hb.qs;have m1:=za.mul zb;refine am func337 ?_;refine gc (ql a ha) ?_;refine gc (ql b hb) ?_;refine gc (qQ za.num zb.num) ?_;refine gc (qQ za.den zb.den) ?_;refine gc (yR m1.2.1 m1.2.2.1 (al9 (by have:=a.q.den_nz;omega) (by have:=b.q.den_nz;omega))) ?_;refine gD ?_;refine ai ?_;rw[F1];rfl
theorem KF(a b:Rt)(ha:a.ok)(hb:b.ok):FP 361 [a.av,b.av] (.tup [qA (a.q/b.q),bU (if b.q=0 then 8 else 0)]):=by
 have za:=ha.qs;have zb:=hb.qs;have m1:=za.mul zb;refine am func361 ?_;refine gc (ql a ha) ?_;refine gc (ql b hb) ?_;refine gc (qQ za.num zb.den) ?_;refine gc (qQ za.den zb.num) ?_;refine gc (X6 m1.1 m1.2.2.2) ?_;refine gD ?_;refine bO ?_
 have e1:((a.q.den:Int)*b.q.num=0)=(b.q=0):=by
  apply propext;rw[<- amf,Int.mul_eq_zero];exact⟨fun h=>h.resolve_left (by have:=a.q.den_nz;omega),.inr⟩
 simp only[Ep,e1];rfl
theorem Fj{p:Pse}(h:p.ok=true):p.turn.err=0/\p.at_.x.valid=true/\p.at_.y.valid=true:=by
 unfold Pse.ok at h;simp only[anq,ao0]at h;exact⟨h.1.1,h.1.2,h.2⟩
structure Pq where
  c:List Rat
  s:List Rat
  x:List Rat
  y:List Rat
def Pq.av(p:Pq):AV:=.agg [nA p.c,nA p.s,nA p.x,nA p.y]
structure Pq.ok(n e:Nat)(p:Pq):Prop where
  c:Nm n e p.c
  s:Nm n e p.s
  x:Nm n e p.x
  y:Nm n e p.y
def bZ(p:Pse):Pq:=⟨sh 0 (d8 p.turn.half p.turn.t.q:Rat),sh 0 (d6 p.turn.half p.turn.t.q:Rat),sh 0 (p.at_.x.q:Rat),sh 0 (p.at_.y.q:Rat)⟩
def MU(ps:List Pse):Nat:=if ps.all Pse.ok=true then 0 else 2
def ofL(ps:List Pse):List Pq:=if ps.all Pse.ok=true then ps.map bZ else[]
def JB(bs:List Pq):AV:=.agg [.lst 1 [],.lst 4 (bs.map Pq.av),.lst 1 []]
theorem Zz{bs:List Pq}:Sub (.agg [.v (.slice none 0 0),.lst 4 (bs.map Pq.av),.v (.slice none 0 0)]) (JB bs):=.agg (.cons (.nil _ _ _) (.cons (.refl _) (.cons (.nil _ _ _) .nil))) rfl
theorem qS{half:Bool}{t:Rat}{e:Nat}(h:Qb e t):Qb (4*e+6) (d8 half t):=by
 unfold d8;split
 ·exact Qb.one.neg.mono oz
 ·exact((Qb.one.sub (h.mul h)).div (Qb.one.add (h.mul h))).mono oz
theorem qM{half:Bool}{t:Rat}{e:Nat}(h:Qb e t):Qb (4*e+6) (d6 half t):=by
 unfold d6;split
 ·exact Qb.zero.mono oz
 ·exact((h.add h).div (Qb.one.add (h.mul h))).mono oz
theorem wz{n e:Nat}{q:Rat}(hn:n<=5)(h:Qb e q):Nm n (e+e) (sh 0 (q:Rat)):=by
 have h1:Nl n (sh 0 (q:Rat)):=by
  have:Nl 0 (sh 0 (q:Rat)):=ek 0 _;rcases this with h |⟨j,hj,h⟩
  ·exact .inl h
  ·exact .inr ⟨j,by omega,h⟩
 refine⟨hn,h1,?_⟩
 have hm:∀p∈sh 0 (q:Rat),Qb e p:=by
  intro p hp
  have:p=q:=by
   unfold sh at hp;split at hp
   ·cases hp
   ·exact alr.1 hp
  rw[this];exact h
 obtain⟨D,N,h3,h4,h5⟩:=Pp hm
 have h6:(sh 0 (q:Rat)).length<=1:=by
  rcases(ek 0 (q:Rat))with h |⟨j,hj,h⟩
  ·rw[h];simp
  ·have:j=0:=by omega
   subst this;rw[h];simp
 have h7:e*(sh 0 (q:Rat)).length<=e*1:=ant _ h6;exact⟨D,N,h3,an4 h4 (cK oz),an4 h5 (cK oz)⟩
theorem DZ{n:Nat}{p:Pse}(hn:n<=5)(h:p.lok):(bZ p).ok n 1000 :=
 ⟨(wz hn (qS h.t)).mono oz,(wz hn (qM h.t)).mono oz,(wz hn h.x).mono oz,(wz hn h.y).mono oz⟩
def Un(ts:LL)(b:Pl)(w:Pq):Bool :=
  fJ ts (af ts.length (lq b.c)) (af ts.length w.c)&&fJ ts (af ts.length (lq b.s)) (af ts.length w.s)&&fJ ts (af ts.length (lq b.x)) (af ts.length w.x)&&fJ ts (af ts.length (lq b.y)) (af ts.length w.y)
def mE(a:As)(ps:List Pse):Nat :=
  if bB a.rs≠0 then bB a.rs else if MU ps≠0 then MU ps else if a.bs.length≠ps.length then 10 else gO (a.bs.map (fun b=>bc a.rs b.l))
def mB(a:As)(ps:List Pse):Bool:=decide (mE a ps=0)&&(a.bs.zip ps).all (fun z=>Un (llq a.rs) z.1 (bZ z.2))
theorem WN{α:Type}{l:List α}{f:α->Nat}{i:Nat}{x:α}(hx:l[i]?=some x)(hb:∀y∈l.take i,f y=0)(hn:f x≠0):gO (l.map f)=f x:=by
 have e:l=l.take i++l.drop i:=(alg i l).symm;have hi:=(alj.1 hx).1
 have e2:l.drop i=x::l.drop (i+1):=by
  rw[alq hi,(alj.1 hx).2]
 rw[e,aoc,zJ _ _ (tm (fun v hv=>by
  obtain⟨y,hy,rfl⟩:=al0.1 hv;exact hb y hy)),e2]
 show(if f x≠0 then f x else _)=_;rw[aoz hn]
theorem IT{rs:List (List Rt)}{b:Pl}{E:Nat}(h:bc rs b.l=0)(hb:∀x∈b.l,NR x E)(h5:rs.length<=5) :
  b.av=Pq.av ⟨lq b.c,lq b.s,lq b.x,lq b.y⟩/\Pq.ok rs.length E ⟨lq b.c,lq b.s,lq b.x,lq b.y⟩:=by
 have h1:=(l9 h).2
 have g:∀x∈b.l,nR x=nA (lq x)/\Nm rs.length E (lq x):=fun x hx=>by
  obtain⟨e1,e2⟩:=(hb x hx).num (h1 x hx);exact⟨e1,h5,e2,(hb x hx).cb⟩
 have c:=g b.c (by simp[Pl.l]);have s:=g b.s (by simp[Pl.l]);have x:=g b.x (by simp[Pl.l]);have y:=g b.y (by simp[Pl.l]);exact⟨by unfold Pl.av Pq.av;rw[c.1,s.1,x.1,y.1],c.2,s.2,x.2,y.2⟩
instance:Inhabited Tn:=⟨⟨⟨false,[],[]⟩,false⟩⟩
def fe(n:Nat)(ok:Nat->Bool):Option Nat:=(List.range n).find? (fun i=>!ok i)
theorem lL{n i:Nat}{ok:Nat->Bool}(hi:i<n)(h:∀j,j<i->ok j=true)(he:ok i=false):fe n ok=some i:=by
 unfold fe;rw[alo];exact⟨by rw[he];rfl,by simpa using hi,fun j hj=>by rw[h j hj];rfl⟩
theorem mI{n:Nat}{ok:Nat->Bool}(h:∀j,j<n->ok j=true):fe n ok=none:=by
 unfold fe;rw[alv];exact fun j hj=>by rw[h j hj];rfl
theorem adn{n:Nat}{ok:Nat->Bool}(h:fe n ok=none):∀j,j<n->ok j=true:=by
 unfold fe at h;rw[alv]at h;intro j hj;have:=h j hj;simpa using this
def sT:Option Nat->Int
  |none=>-1
  |some i=>i
def yj:Pq:=⟨[1],[],[],[]⟩
abbrev kZ(ts:LL)(x:List Rt):T ts.length:=af ts.length (lq x)
def rU(ts:LL)(b:Pl)(m:Mk):T ts.length×T ts.length:=(vo ts (kZ ts b.c) (kZ ts b.s) (kZ ts b.x) m.x.q m.y.q,wW ts (kZ ts b.c) (kZ ts b.s) (kZ ts b.y) m.x.q m.y.q)
def i9(l:Li)(a:As)(body pt:Int):T (llq a.rs).length×T (llq a.rs).length:=rU (llq a.rs) (a.bs.getD body.toNat default) ((dw l body).getD pt.toNat default)
def sI(l:Li)(a:As)(j:Jt):Bool :=
  if j.kind=0 then fJ (llq a.rs) (i9 l a j.a j.point).1 (i9 l a j.b j.on).1&&fJ (llq a.rs) (i9 l a j.a j.point).2 (i9 l a j.b j.on).2
  else decide (T.sgn (az (llq a.rs)) (llq a.rs).length (vz (llq a.rs) (i9 l a j.b j.on).1 (i9 l a j.b j.on).2 (i9 l a j.b j.to).1 (i9 l a j.b j.to).2 (i9 l a j.a j.point).1 (i9 l a j.a j.point).2)=0)
def NF(ts:LL)(b:Pl)(x:Tn):Bool :=
  fJ ts (kZ ts b.c) (af ts.length (sh 0 (d8 x.half x.t.q:Rat)))&&fJ ts (kZ ts b.s) (af ts.length (sh 0 (d6 x.half x.t.q:Rat)))
def O4(l:Li)(xs:List Tn)(a:As)(i:Nat):Bool:=NF (llq a.rs) (a.bs.getD (l.dv.getD i default).body.toNat default) (xs.getD i default)
theorem dC{l:Li}(h:aM l=0):kS l=0/\gN l=0/\jM l=0/\l.bo.length<=8/\l.bo.length≠0:=by
 unfold aM at h;split at h
 ·cases h
 ·split at h
  ·cases h
  ·split at h
   ·cases h
   ·split at h
    ·rename_i h1;exact ao5 h h1
    ·rename_i g1 _ h1;split at h
     ·rename_i h2;exact ao5 h h2
     ·rename_i h2;exact⟨anj.1 h1,anj.1 h2,h,by omega,by omega⟩
theorem MJ{l:Li}(h:aM l=0){i:Nat}{j:Jt}(hj:l.jo[i]?=some j):f8 l j=0:=by
 have h1:=(dC h).2.1;unfold gN at h1;split at h1
 ·cases h1
 ·have h2:=xM h1 i (alj.1 hj).1;unfold jr at h2;rw[aw hj]at h2;split at h2
  ·cases h2
  ·split at h2
   ·cases h2
   ·exact h2
theorem dZ{l:Li}(h:aM l=0){i:Nat}{j:Jt}(hj:l.jo[i]?=some j) :
  bT j.a l.bo.length=true/\bT j.b l.bo.length=true/\bT j.point (dw l j.a).length=true/\bT j.on (dw l j.b).length=true/\(j.kind≠0->bT j.to (dw l j.b).length=true):=by
 have h1:=MJ h hj;unfold f8 at h1;split at h1
 ·cases h1
 ·split at h1
  ·cases h1
  ·rename_i h2;split at h1
   ·cases h1
   ·split at h1
    ·cases h1
    ·rename_i h3;have a1:bT j.a l.bo.length=true:=by cases h:bT j.a l.bo.length <;> simp_all
     have a2:bT j.b l.bo.length=true:=by cases h:bT j.b l.bo.length <;> simp_all
     have a3:bT j.point (dw l j.a).length=true:=by cases h:bT j.point (dw l j.a).length <;> simp_all
     have a4:bT j.on (dw l j.b).length=true:=by cases h:bT j.on (dw l j.b).length <;> simp_all
     refine⟨a1,a2,a3,a4,fun hk=>?_⟩;rw[aoy hk]at h1;split at h1
     ·cases h1
     ·rename_i h4;cases h:bT j.to (dw l j.b).length <;> simp_all
theorem lZ{l:Li}(h:aM l=0){i:Nat}{d:Dr}(hd:l.dv[i]?=some d):bT d.body l.bo.length=true:=by
 have h1:=(dC h).2.2.1;unfold jM at h1;split at h1
 ·cases h1
 ·have h2:=xM h1 i (alj.1 hd).1;unfold fN at h2;rw[aw hd]at h2;split at h2
  ·cases h2
  ·split at h2
   ·cases h2
   ·split at h2
    ·cases h2
    ·rename_i h3;cases h:bT d.body l.bo.length <;> simp_all
theorem OM{l:Li}(h:aM l=0){n k:Nat}{b:Bd}{m:Mk}(hb:l.bo[n]?=some b)(hm:b.pts[k]?=some m):m.x.valid=true/\m.y.valid=true:=by
 have h2:=xM (dC h).1 n (alj.1 hb).1;unfold fZ at h2;rw[aw hb]at h2;split at h2
 ·cases h2
 ·split at h2
  ·cases h2
  ·split at h2
   ·cases h2
   ·have h3:=xM h2 k (alj.1 hm).1;unfold fW at h3;rw[aw hm]at h3;split at h3
    ·cases h3
    ·split at h3
     ·cases h3
     ·split at h3
      ·assumption
      ·cases h3
structure Good(l:Li)(a:As):Prop where
  lo:l.ok
  li:aM l=0
  al:AL a
  ck:bB a.rs=0
  cb:∀b∈a.bs,bc a.rs b.l=0
  ln:a.bs.length=l.bo.length
theorem Good.tw{l:Li}{a:As}(h:Good l a):Tw (llq a.rs) 40000/\cJ a.rs=aZ (llq a.rs)/\a.rs.length<=5/\(llq a.rs).length=a.rs.length:=by
 obtain⟨tw,Ib⟩:=dg h.al.tr h.ck;have h5:a.rs.length<=5:=by have:=tw.five;rwa [anl]at this
 exact⟨tw,Ib,h5,anl _⟩
theorem Good.pl{l:Li}{a:As}(h:Good l a){n:Nat}{b:Pl}(hb:a.bs[n]?=some b) :
  b.av=Pq.av ⟨lq b.c,lq b.s,lq b.x,lq b.y⟩/\Pq.ok (llq a.rs).length 4000 ⟨lq b.c,lq b.s,lq b.x,lq b.y⟩:=by
 have h1:=IT (h.cb b (ank hb)) (h.al.nr b (ank hb)) h.tw.2.2.1;rw[h.tw.2.2.2];exact h1
structure AtP(l:Li)(a:As)(body pt:Int)(n k:Nat)(bd:Bd)(m:Mk)(b:Pl):Prop where
  hn:body=n
  hk:pt=k
  gbd:l.bo[n]?=some bd
  gm:bd.pts[k]?=some m
  gb:a.bs[n]?=some b
  eq:i9 l a body pt=rU (llq a.rs) b m
  mx:m.x.av=qA m.x.q
  my:m.y.av=qA m.y.q
  qx:Qb 4000 m.x.q
  qy:Qb 4000 m.y.q
theorem Good.at{l:Li}{a:As}(h:Good l a){body pt:Int}(h1:bT body l.bo.length=true)(h2:bT pt (dw l body).length=true):∃n k bd m b,AtP l a body pt n k bd m b:=by
 obtain⟨bd,g1,g2,g3,g4⟩:=tH h1;rw[g2]at h2;obtain⟨m,g5,g6,g7,g8⟩:=vn h2;obtain⟨b,hb⟩:=aB (l:=a.bs) (i:=body.toNat) (by rw[h.ln];exact(alj.1 g1).1);have hv:=OM h.li g1 g5;have ho:=(h.lo.bo bd g3).pts m g7
 exact ⟨body.toNat,pt.toNat,bd,m,b,by omega,by omega,g1,g5,hb,by unfold i9; rw[aw hb,g2,g6],
  by rw[show qA m.x.q=(rt m.x.q).av from rfl,<- Rt.eq_rt ho.x hv.1],by rw[show qA m.y.q=(rt m.y.q).av from rfl,<- Rt.eq_rt ho.y hv.2],ho.qx.mono oz,ho.qy.mono oz⟩
theorem Hj{ts:LL}{r e f:Nat}(tw:Tw ts r){b:Pl}{m:Mk}(hb:Pq.ok ts.length e ⟨lq b.c,lq b.s,lq b.x,lq b.y⟩)(hx:Qb f m.x.q)(hy:Qb f m.y.q) :
  Nm ts.length (3*e+2*f+2*kB r ts.length+10) (sh ts.length (rU ts b m).1)/\Nm ts.length (3*e+2*f+2*kB r ts.length+10) (sh ts.length (rU ts b m).2):=by
 have nx:=Nm.ofQ tw.five (Cb.one hx);have ny:=Nm.ofQ tw.five (Cb.one hy);have h1:=(wR tw hb.c hb.s nx ny).add hb.x;rw[xI]at h1;have h2:=(vR tw hb.c hb.s nx ny).add hb.y;rw[yw]at h2;exact⟨h1.mono oz,h2.mono oz⟩
theorem VR{n:Nat}(hn:n<=5):yj.ok n 4000:=by
 have h1:Nm n 4000 ([1]:List Rat):=by
  have:=wz (q:=1) hn Qb.one;have e:sh 0 (1:Rat)=([1]:List Rat):=rfl;rw[e]at this;exact this.mono oz
 have h0:Nm n 4000 ([]:List Rat):=⟨hn,.inl rfl,Cb.nil.mono oz⟩
 exact⟨h1,h0,h0,h0⟩
structure DrP(l:Li)(xs:List Tn)(a:As)(i:Nat)(d:Dr)(n:Nat)(b:Pl)(x:Tn):Prop where
  hn:d.body=n
  gb:a.bs[n]?=some b
  gx:xs[i]?=some x
  ec:nR b.c=nA (lq b.c)
  es:nR b.s=nA (lq b.s)
  av:b.av=Pq.av ⟨lq b.c,lq b.s,lq b.x,lq b.y⟩
  po:Pq.ok (llq a.rs).length 4000 ⟨lq b.c,lq b.s,lq b.x,lq b.y⟩
  eq:O4 l xs a i=NF (llq a.rs) b x
theorem Good.dr{l:Li}{a:As}(h:Good l a){xs:List Tn}(hx:∀x∈xs,x.t.ok/\x.err=0/\Qb 1000 x.t.q)(gI:xs.length=l.dv.length){i:Nat}{d:Dr}(hd:l.dv[i]?=some d):∃n b x,DrP l xs a i d n b x:=by
 have h1:=cS (lZ h.li hd);obtain⟨b,hb⟩:=aB (l:=a.bs) (i:=d.body.toNat) (by rw[h.ln];omega);obtain⟨x,Ae⟩:=aB (l:=xs) (i:=i) (by rw[gI];exact(alj.1 hd).1);obtain⟨g1,g2⟩:=h.pl hb;have g3:=(l9 (h.cb b (ank hb))).2;have g4:=h.al.nr b (ank hb)
 exact ⟨d.body.toNat,b,x,by omega,hb,Ae,((g4 b.c (by simp[Pl.l])).num (g3 b.c (by simp[Pl.l]))).1,((g4 b.s (by simp[Pl.l])).num (g3 b.s (by simp[Pl.l]))).1,g1,g2,
  by unfold O4;rw[aw hd,aw hb,aw Ae]⟩
structure Gr where
  kind:Int
  bo:List Int
  jo:List Int
  driver:Int
instance:Inhabited Gr:=⟨⟨0,[],[],0⟩⟩
def Gr.av(g:Gr):AV:=.agg [i64 g.kind,.lst 1 (g.bo.map i64),.lst 1 (g.jo.map i64),i64 g.driver]
def kn(k:List Bool)(i:Int):Bool:=k.getD i.toNat false
def dh(n:Nat)(b:Int):List Bool:=(als n false).set b.toNat true
def qV(l:Li)(b:Int):Bool:=l.dv.any (fun d=>decide (d.body=b))
def freeB(l:Li)(kw:List Bool)(b:Int):Bool:=!kn kw b&&!qV l b
def pL(kind body:Int)(oth:List Bool)(j:Jt):Bool:=decide (j.kind=kind)&&(decide (j.a=body)&&kn oth j.b||decide (j.b=body)&&kn oth j.a)
def jointI(l:Li)(kind body:Int)(oth:List Bool):Int:=sT (fe l.jo.length (fun i=>!pL kind body oth (l.jo.getD i default)))
def drHit(l:Li)(kw:List Bool)(i:Nat):Bool:=!kn kw (l.dv.getD i default).body&&decide (0<=jointI l 0 (l.dv.getD i default).body kw)
def driverG(l:Li)(kw:List Bool):Option Gr :=
  (fe l.dv.length (fun i=>!drHit l kw i)).map fun i=>⟨0,[(l.dv.getD i default).body],[jointI l 0 (l.dv.getD i default).body kw],i⟩
def prHit(l:Li)(kw:List Bool)(i k:Nat):Bool :=
  (freeB l kw i&&freeB l kw k)&&(decide (0<=jointI l 0 i kw)&&decide (0<=jointI l 0 k kw)&&decide (0<=jointI l 0 i (dh l.bo.length k)))
def prAt(l:Li)(kw:List Bool)(i:Nat):Option Nat:=(fe (l.bo.length-(i+1)) (fun k=>!prHit l kw i (i+1+k))).map (·+(i+1))
def prG(l:Li)(kw:List Bool)(i k:Nat):Gr:=⟨1,[i,k],[jointI l 0 i kw,jointI l 0 k kw,jointI l 0 i (dh l.bo.length k)],0⟩
def pairG(l:Li)(kw:List Bool):Option Gr :=
  (fe l.bo.length (fun i=>(prAt l kw i).isNone)).map fun i=>match prAt l kw i with
    |some k=>prG l kw i k
    |none=>default
def sgHit(l:Li)(kw:List Bool)(i:Nat):Bool:=freeB l kw i&&(decide (0<=jointI l 0 i kw)&&decide (0<=jointI l 1 i kw))
def sgG(l:Li)(kw:List Bool)(i:Nat):Gr :=
  ⟨if(l.jo.getD (jointI l 1 i kw).toNat default).a=i then 2 else 3,[i],[jointI l 0 i kw,jointI l 1 i kw],0⟩
def singleG(l:Li)(kw:List Bool):Option Gr:=(fe l.bo.length (fun i=>!sgHit l kw i)).map (sgG l kw)
def nextG(l:Li)(kw:List Bool):Option Gr:=(driverG l kw).or ((pairG l kw).or (singleG l kw))
def bR(kw:List Bool)(bs:List Int):List Bool:=bs.foldl (fun k b=>k.set b.toNat true) kw
def findFrom(l:Li):Nat->List Bool->List Gr->List Bool×List Gr
  |0,kw,out=>(kw,out)
  |n+1,kw,out=>match nextG l kw with
    |none=>(kw,out)
    |some g=>findFrom l n (bR kw g.bo) (out++[g])
def findG(l:Li):List Gr:=(findFrom l l.bo.length (dh l.bo.length 0) []).2
def cq(l:Li):List Bool:=(findG l).foldl (fun k g=>bR k g.bo) (dh l.bo.length 0)
def gE(l:Li):List Bool:=(findG l).foldl (fun k g=>bR k g.jo) (als l.jo.length false)
def gz(k:List Bool):List Int:=((List.range k.length).filter (fun i=>!k.getD i false)).map (fun i:Nat=>((i:Nat):Int))
def splitE(l:Li):Nat:=if(gz (cq l)).length+(gz (gE l)).length=0 then 0 else 7
def splitG(l:Li):List Gr:=if splitE l=0 then findG l else[]
theorem OU{kind body:Int}{oth:List Bool}{j:Jt}{va vb:Bool}(ea:kn oth j.a=va)(eb:kn oth j.b=vb) :
  cond (aa .eql j.kind kind) (cond (cond (aa .eql j.a body) vb false) true (cond (aa .eql j.b body) va false)) false=pL kind body oth j:=by
 unfold pL;rw[vV,vV,vV,ea,eb,jw,jw,jw,km]
theorem kC(n:Nat)(b:Int):(dh n b).length=n:=by unfold dh;simp
theorem mV:∀(bs:List Int)(k:List Bool),(bR k bs).length=k.length
 |[],k=>rfl
 |b::bs,k=>by
  show(bR (k.set b.toNat true) bs).length=_;rw[mV bs];simp
theorem ii{n i:Nat}{ok:Nat->Bool}(h:fe n ok=some i):i<n/\ok i=false:=by
 unfold fe at h;rw[alo]at h;exact⟨by simpa using h.2.1,by simpa using h.1⟩
theorem sH{l:Li}{kind body:Int}{oth:List Bool}:-1<=jointI l kind body oth/\jointI l kind body oth<l.jo.length:=by
 unfold jointI;cases h:fe l.jo.length (fun i=>!pL kind body oth (l.jo.getD i default))with
 |none=>exact⟨by decide,by show(-1:Int)<_;omega⟩
 |some i=>have:=(ii h).1;exact⟨by show(-1:Int)<=(i:Int);omega,by show(i:Int)<_;omega⟩
structure GrOk(l:Li)(g:Gr):Prop where
  b:∀x∈g.bo,0<=x/\x<l.bo.length
  j:∀x∈g.jo,0<=x/\x<l.jo.length
  lb:g.bo.length<=2
  lj:g.jo.length<=3
theorem Va{l:Li}(hl:aM l=0){kw:List Bool}{g:Gr}(h:driverG l kw=some g):GrOk l g:=by
 unfold driverG at h;rw[ann]at h;obtain⟨i,hi,rfl⟩:=h;obtain⟨h1,h2⟩:=ii hi;obtain⟨d,hd⟩:=aB h1;have h3:=cS (lZ hl hd);unfold drHit at h2;simp only[amv,anq,ao0]at h2;rw[aw hd]at h2 ⊢;have h4:=sH (l:=l) (kind:=0) (body:=d.body) (oth:=kw);refine⟨fun x hx=>?_,fun x hx=>?_,by simp,by simp⟩
 ·rw[alr.1 hx];exact h3
 ·rw[alr.1 hx];exact⟨h2.2,h4.2⟩
theorem VO{l:Li}{kw:List Bool}{g:Gr}(h:pairG l kw=some g):GrOk l g:=by
 unfold pairG at h;rw[ann]at h;obtain⟨i,hi,h⟩:=h;obtain⟨h1,h2⟩:=ii hi;split at h
 ·rename_i k hk;subst h;unfold prAt at hk;rw[ann] at hk;obtain⟨k',hk',rfl⟩:=hk;obtain⟨h3,h4⟩:=ii hk';rw[show i+1+k'=k'+(i+1) by omega] at h4;unfold prHit at h4;simp only [amv,anq,ao0] at h4;obtain⟨_,⟨j1,j2⟩,j3⟩:=h4;refine ⟨fun x hx=>?_,fun x hx=>?_,by simp[prG],by simp[prG]⟩
  ·simp only[prG,an9,aob,or_false]at hx;rcases hx with rfl |rfl <;> constructor <;> omega
  ·simp only[prG,an9,aob,or_false]at hx;rcases hx with rfl |rfl |rfl
   ·exact⟨j1,sH.2⟩
   ·exact⟨j2,sH.2⟩
   ·exact⟨j3,sH.2⟩
 ·rename_i hk;rw[hk]at h2;cases h2
theorem Yl{l:Li}{kw:List Bool}{g:Gr}(h:singleG l kw=some g):GrOk l g:=by
 unfold singleG at h;rw[ann]at h;obtain⟨i,hi,rfl⟩:=h;obtain⟨h1,h2⟩:=ii hi;unfold sgHit at h2;simp only[amv,anq,ao0]at h2;obtain⟨_,j1,j2⟩:=h2;refine⟨fun x hx=>?_,fun x hx=>?_,by simp[sgG],by simp[sgG]⟩
 ·simp only[sgG,an9,aob,or_false]at hx;subst hx;constructor <;> omega
 ·simp only[sgG,an9,aob,or_false]at hx;rcases hx with rfl |rfl
  ·exact⟨j1,sH.2⟩
  ·exact⟨j2,sH.2⟩
theorem CQ{l:Li}(hl:aM l=0){kw:List Bool}{g:Gr}(h:nextG l kw=some g):GrOk l g:=by
 unfold nextG at h;cases h1:driverG l kw with
 |some g'=>rw[h1]at h;cases h;exact Va hl h1
 |none =>
  rw[h1]at h;cases h2:pairG l kw with
  |some g'=>rw[h2]at h;cases h;exact VO h2
  |none=>rw[h2]at h;exact Yl h
theorem NJ{l:Li}(hl:aM l=0):∀(n:Nat)(kw:List Bool)(out:List Gr),(∀g∈out,GrOk l g)->(∀g∈(findFrom l n kw out).2,GrOk l g)/\(findFrom l n kw out).2.length<=out.length+n
 |0,kw,out,h=>⟨h,by simp[findFrom]⟩
 |n+1,kw,out,h=>by
  unfold findFrom;cases hg:nextG l kw with
  |none=>exact⟨h,by simp⟩
  |some g =>
   have h1:=NJ hl n (bR kw g.bo) (out++[g]) (fun x hx=>by
    rcases anz.1 hx with hx |hx
    ·exact h x hx
    ·rw[alr.1 hx];exact CQ hl hg)
   refine⟨h1.1,?_⟩;have:=h1.2;rw[aoe]at this;show(findFrom l n (bR kw g.bo) (out++[g])).2.length<=_;simp only[an0,aoa]at this;omega
theorem xJ{l:Li}(hl:aM l=0):(∀g∈findG l,GrOk l g)/\(findG l).length<=8:=by
 have h:=NJ hl l.bo.length (dh l.bo.length 0) [] (fun g hg=>by cases hg);have h8:=(dC hl).2.2.2.1;exact⟨h.1,by have:=h.2;simp only[aoa]at this;unfold findG;omega⟩
def nZ(j:Jt)(b:Int):Int:=if b=j.a then j.b else if b=j.b then j.a else -1
def Bw(kind body:Int)(p:Int->Bool)(j:Jt):Bool:=decide (j.kind=kind)&&(decide (0<=nZ j body)&&p (nZ j body))
def gJ(l:Li)(kind body:Int)(p:Int->Bool):Int:=sT (fe l.jo.length (fun i=>!Bw kind body p (l.jo.getD i default)))
theorem ahx{b:Bool}{z:Int}(h:cond b (aa .geq z 0) false=true):0<=z:=by
 cases b
 ·cases h
 ·exact ao1 h
theorem af3{a k z:Int}{q:Bool}:cond (cond (aa .eql a k) (aa .geq z 0) false) q false=(decide (a=k)&&(decide (0<=z)&&q)):=by
 rw[vV,show aa .geq z 0=decide (0<=z)from rfl,jw,jw,Bool.and_assoc]
theorem Ti{l:Li}(au:aM l=0){i:Nat}{j:Jt}(hj:l.jo[i]?=some j)(b:Int):nZ j b<l.bo.length:=by
 obtain⟨i1,i2,_⟩:=dZ au hj;have b1:=cS i1;have b2:=cS i2;unfold nZ;split
 ·omega
 ·split <;> omega
theorem Zi{n:Nat}{ok ok':Nat->Bool}(h:∀i,i<n->ok i=ok' i):fe n ok=fe n ok':=by
 unfold fe
 have:∀l:List Nat,(∀i∈l,i<n)->l.find? (fun i=>!ok i)=l.find? (fun i=>!ok' i):=by
  intro l
  induction l with
  |nil=>intro _;rfl
  |cons a l ih =>
   intro hl;simp only[List.find?_cons,h a (hl a (by simp)),ih (fun i hi=>hl i (by simp[hi]))]
 exact this _ (fun i hi=>alh.1 hi)
theorem DR{l:Li}(au:aM l=0){kind body:Int}{p:Int->Bool}{oth:List Bool}(h:∀o:Int,0<=o->o<l.bo.length->p o=kn oth o):gJ l kind body p=jointI l kind body oth:=by
 unfold gJ jointI;rw[Zi];intro i hi;obtain⟨j,hj⟩:=aB hi;rw[aw hj];obtain⟨i1,i2,_⟩:=dZ au hj;have b1:=cS i1;have b2:=cS i2;congr 1;unfold Bw pL;congr 1;unfold nZ
 by_cases h1:body=j.a
 ·subst h1;rw[aoz rfl,h _ b2.1 b2.2]
  by_cases h2:j.b=j.a
  ·simp[h2,b1.1]
  ·simp[h2,b2.1]
 ·rw[aoy h1]
  by_cases h2:body=j.b
  ·subst h2;rw[aoz rfl,h _ b1.1 b1.2];have h3:¬j.a=j.b:=fun e=>h1 e.symm
   simp[h3,b1.1]
  ·rw[aoy h2];have h3:¬j.a=body:=fun e=>h1 e.symm
   have h4:¬j.b=body:=fun e=>h2 e.symm
   simp[h3,h4]
theorem Py{k:List Bool}{i:Nat}{b:Int}(h0:0<=b)(hi:i<k.length):kn (k.set i true) b=(decide (b=i)||kn k b):=by
 unfold kn;rw[anm,List.getElem?_set,anm]
 by_cases h:b=i
 ·rw[ao3 h,Bool.true_or,aoz oz];rw[aoz oz];rfl
 ·rw[ao4 h,Bool.false_or,aoy oz]
theorem F8:∀{bs:List Int}{k:List Bool}{b:Int},0<=b->(∀x∈bs,0<=x/\x<k.length)->kn (bR k bs) b=(bs.any (fun x=>decide (x=b))||kn k b)
 |[],k,b,h0,h=>by simp[bR]
 |x::bs,k,b,h0,h=>by
  show kn (bR (k.set x.toNat true) bs) b=_;obtain⟨iH,mj⟩:=h x (by simp);rw[F8 h0 (fun y hy=>by rw[aox];exact h y (by simp[hy])),Py h0 oz,List.any_cons];have e:decide (b=(x.toNat:Int))=decide (x=b):=decide_eq_decide.2 oz;rw[e];cases decide (x=b) <;> simp
theorem Gj(n:Nat)(b:Int):kn (als n false) b=false:=by
 unfold kn;rw[anm,aoh];split <;> rfl
def cM(l:Li):List Bool:=bR (als l.bo.length false) (l.dv.map Dr.body)
theorem yk(l:Li):(cM l).length=l.bo.length:=by unfold cM;rw[mV,aon]
theorem ah2{l:Li}(au:aM l=0){b:Int}(h0:0<=b):kn (cM l) b=qV l b:=by
 unfold cM qV;rw[F8 h0,Gj,Bool.or_false,List.any_map]
 ·rfl
 ·intro x hx;obtain⟨d,hd,rfl⟩:=al0.1 hx;obtain⟨i,hi⟩:=List.mem_iff_getElem?.1 hd;have:=cS (lZ au hi);rw[aon];omega
theorem uB{n:Nat}{b o:Int}(h0:0<=o)(ow:0<=b)(hb:b<n):kn (dh n b) o=decide (o=b):=by
 unfold dh;rw[Py h0 (by rw[aon];omega),Gj,Bool.or_false];exact decide_eq_decide.2 oz
def fi(k:List Bool):Nat:=k.countP (fun x=>!x)
theorem Sx{k:List Bool}{i:Nat}(h:k[i]?=some false):fi (k.set i true)+1=fi k:=by
 unfold fi;have hi:=(alj.1 h).1;have he:=(alj.1 h).2;rw[List.countP_set hi,he];have:0<k.countP (fun x=>!x):=List.countP_pos_iff.2 ⟨false,ank h,rfl⟩;simp;omega
theorem WO(k:List Bool)(i:Nat):fi (k.set i true)<=fi k:=by
 by_cases hi:i<k.length
 ·unfold fi;rw[List.countP_set hi];simp
 ·rw[List.set_eq_of_length_le oz];exact anp _
theorem JZ:∀(bs:List Int)(k:List Bool),fi (bR k bs)<=fi k
 |[],k=>anp _
 |x::bs,k=>an4 (JZ bs (k.set x.toNat true)) (WO k _)
theorem act{x:Int}{bs:List Int}{k:List Bool}(h:k[x.toNat]?=some false):fi (bR k (x::bs))<fi k:=by
 have h1:=JZ bs (k.set x.toNat true);have h2:=Sx h;show fi (bR (k.set x.toNat true) bs)<_;omega
theorem DP{k:List Bool}{b:Int}(h:kn k b=false)(h1:b.toNat<k.length):k[b.toNat]?=some false:=by
 unfold kn at h;rw[anm,ano h1]at h;rw[ano h1];simpa using h
theorem aad{l:Li}(hl:aM l=0){kw:List Bool}(hk:kw.length=l.bo.length){g:Gr}(h:nextG l kw=some g):∃x bs,g.bo=x::bs/\kw[x.toNat]?=some false:=by
 unfold nextG at h;cases h1:driverG l kw with
 |some g' =>
  rw[h1]at h;cases h
  unfold driverG at h1;rw[ann]at h1;obtain⟨i,hi,rfl⟩:=h1;obtain⟨h2,h3⟩:=ii hi;obtain⟨d,hd⟩:=aB h2;have h4:=cS (lZ hl hd);rw[aw hd]at *;unfold drHit at h3;rw[aw hd]at h3;simp only[amv,anq,amo,ao0]at h3;exact⟨_,_,rfl,DP h3.1 oz⟩
 |none =>
  rw[h1]at h;cases h2:pairG l kw with
  |some g' =>
   rw[h2]at h;cases h
   unfold pairG at h2;rw[ann]at h2;obtain⟨i,hi,h2⟩:=h2;obtain⟨h3,h4⟩:=ii hi;split at h2
   ·rename_i k hk';subst h2;unfold prAt at hk';rw[ann]at hk';obtain⟨k',hk',rfl⟩:=hk';obtain⟨h5,h6⟩:=ii hk';unfold prHit freeB at h6;simp only[amv,anq,amo,ao0]at h6;exact⟨_,_,rfl,DP h6.1.1.1 oz⟩
   ·rename_i hk';rw[hk']at h4;cases h4
  |none =>
   rw[h2]at h;have h:singleG l kw=some g:=h;unfold singleG at h;rw[ann]at h;obtain⟨i,hi,rfl⟩:=h;obtain⟨h3,h4⟩:=ii hi;unfold sgHit freeB at h4;simp only[amv,anq,amo,ao0]at h4;exact⟨_,_,rfl,DP h4.1.1 oz⟩
theorem xV{l:Li}(hl:aM l=0){kw:List Bool}(hk:kw.length=l.bo.length){g:Gr}(h:nextG l kw=some g):fi (bR kw g.bo)<fi kw:=by
 obtain⟨x,bs,e,h1⟩:=aad hl hk h;rw[e];exact act h1
theorem EA{l:Li}(hl:aM l=0):∀(n m:Nat)(kw:List Bool)(out:List Gr),kw.length=l.bo.length->fi kw<=n->fi kw<=m->findFrom l n kw out=findFrom l m kw out
 |0,0,kw,out,hk,h1,h2=>rfl
 |0,m+1,kw,out,hk,h1,h2=>by
  unfold findFrom;cases hg:nextG l kw with
  |none=>rfl
  |some g=>have:=xV hl hk hg;omega
 |n+1,0,kw,out,hk,h1,h2=>by
  unfold findFrom;cases hg:nextG l kw with
  |none=>rfl
  |some g=>have:=xV hl hk hg;omega
 |n+1,m+1,kw,out,hk,h1,h2=>by
  unfold findFrom;cases hg:nextG l kw with
  |none=>rfl
  |some g =>
   have:=xV hl hk hg;exact EA hl n m _ _ (by rw[mV];exact hk) oz oz
theorem E4{l:Li}:∀(n:Nat)(kw:List Bool)(out:List Gr),∃gs,findFrom l n kw out=(gs.foldl (fun k g=>bR k g.bo) kw,out++gs)
 |0,kw,out=>⟨[],by simp[findFrom]⟩
 |n+1,kw,out=>by
  unfold findFrom;cases hg:nextG l kw with
  |none=>exact⟨[],by simp⟩
  |some g =>
   obtain⟨gs,e⟩:=E4 n (bR kw g.bo) (out++[g]);exact⟨g::gs,by show findFrom l n _ _=_;rw[e];simp⟩
theorem Lc(l:Li):findFrom l l.bo.length (dh l.bo.length 0) []=(cq l,findG l):=by
 obtain⟨gs,e⟩:=E4 (l:=l) l.bo.length (dh l.bo.length 0) [];unfold cq findG;rw[e];simp
theorem AH{k:List Bool}:(gz k).length=0↔k.contains false=false:=by
 unfold gz;rw[anl,ak0,List.filter_eq_nil_iff];constructor
 ·intro h;rw[<- Bool.not_eq_true,alf];intro hm;obtain⟨i,hi⟩:=List.mem_iff_getElem?.1 hm;have hlt:=(alj.1 hi).1;have:=h i (alh.2 hlt);rw[anm,hi]at this;simp at this
 ·intro h i hi;rw[<- Bool.not_eq_true,alf]at h;intro hc;have hlt:=alh.1 hi;rw[anm,ano hlt]at hc;simp at hc;exact h (hc▸ali hlt)
theorem vf:Sub (.agg [.v (.int .i64 0),.v (.slice none 0 0),.v (.slice none 0 0),.v (.int .i64 0)]) (Gr.av default):=.agg (.cons (.refl _) (.cons (.nil _ _ _) (.cons (.nil _ _ _) (.cons (.refl _) .nil)))) rfl
theorem Ja{z:Int}(h:aa .geq z 0=true):0<=z:=ao1 h
theorem Mo{z:Int}(h:aa .geq z 0=false):¬0<=z:=ao2 h
theorem Bi{a b c:Int}:cond (cond (aa .geq a 0) (aa .geq b 0) false) (aa .geq c 0) false=(decide (0<=a)&&decide (0<=b)&&decide (0<=c)):=by
 have e:∀z:Int,aa .geq z 0=decide (0<=z):=fun z=>rfl
 rw[e,e,e,jw,jw]
theorem Ou{a b:Int}:cond (aa .lss a 0) true (aa .lss b 0)=!(decide (0<=a)&&decide (0<=b)):=by
 have e:∀z:Int,aa .lss z 0=!decide (0<=z):=fun z=>by rw[<- decide_not];exact decide_eq_decide.2 oz
 rw[e,e,km,Bool.not_and]
theorem Qc{a b:Int}(h:cond (aa .lss a 0) true (aa .lss b 0)=true):(decide (0<=a)&&decide (0<=b))=false:=by rw[Ou]at h;exact dP h
theorem LW{a b:Int}(h:cond (aa .lss a 0) true (aa .lss b 0)=false):0<=a/\0<=b:=by
 rw[Ou]at h;have:=dN h;simpa using this
structure TieO(l:Li)(kind:Int)(bs:List Int)(z b:Int)(j:Jt):Prop where
  hz:0<=z
  hj:l.jo[z.toNat]?=some j
  kd:j.kind=kind
  tie:(j.a=b/\j.b∉bs)\/(j.b=b/\j.a∉bs)
inductive DyK(l:Li):Gr->Prop where
  |drv {b z d:Int} {j:Jt} {x:Dr} (t:TieO l 0 [b] z b j) (d0:0<=d) (hd:l.dv[d.toNat]?=some x) (hb:x.body=b):DyK l ⟨0,[b],[z],d⟩
  |rrr {i k z0 z1 z2:Int} {j0 j1 j2:Jt} (ne:i≠k) (t0:TieO l 0 [i,k] z0 i j0) (t1:TieO l 0 [i,k] z1 k j1) (h0:0<=z2) (h2:l.jo[z2.toNat]?=some j2) (kd:j2.kind=0)
      (tie:(j2.a=i/\j2.b=k)\/(j2.b=i/\j2.a=k)):DyK l ⟨1,[i,k],[z0,z1,z2],0⟩
  |pr {i z0 z1:Int} {j0 j1:Jt} (t0:TieO l 0 [i] z0 i j0) (t1:TieO l 1 [i] z1 i j1) (ha:j1.a=i):DyK l ⟨2,[i],[z0,z1],0⟩
  |rp {i z0 z1:Int} {j0 j1:Jt} (t0:TieO l 0 [i] z0 i j0) (t1:TieO l 1 [i] z1 i j1) (ha:j1.a≠i):DyK l ⟨3,[i],[z0,z1],0⟩
theorem BL{l:Li}{kind b:Int}{oth:List Bool}(h:0<=jointI l kind b oth) :
  ∃(i:Nat)(j:Jt),jointI l kind b oth=(i:Int)/\l.jo[i]?=some j/\j.kind=kind/\((j.a=b/\kn oth j.b=true)\/(j.b=b/\kn oth j.a=true)):=by
 unfold jointI at h ⊢;cases hf:fe l.jo.length (fun i=>!pL kind b oth (l.jo.getD i default))with
 |none=>rw[hf]at h;exact ao5 h (by decide)
 |some i =>
  obtain⟨h1,h2⟩:=ii hf;obtain⟨j,hj⟩:=aB h1;rw[aw hj]at h2;unfold pL at h2;simp only[amv,anq,aos,ao0]at h2;exact⟨i,j,rfl,hj,h2.1,h2.2⟩
theorem zK{l:Li}{kind b:Int}{kw:List Bool}{bs:List Int}(hb:∀x∈bs,kn kw x=false)(h:0<=jointI l kind b kw):∃j,TieO l kind bs (jointI l kind b kw) b j:=by
 obtain⟨i,j,e,hj,hk,ht⟩:=BL h;have hn:∀x,kn kw x=true->x∉bs:=fun x hx hm=>by rw[hb x hm]at hx;cases hx
 refine⟨j,h,by rw[e,aol];exact hj,hk,?_⟩;rcases ht with⟨h1,h2⟩ |⟨h1,h2⟩
 ·exact .inl ⟨h1,hn _ h2⟩
 ·exact .inr ⟨h1,hn _ h2⟩
theorem vD{l:Li}{kw:List Bool}{b:Int}(h:freeB l kw b=true):kn kw b=false:=by
 unfold freeB at h;simp only[anq,amo]at h;exact h.1
theorem CK{kw:List Bool}{b:Int}(h:kn kw b=false):∀x∈[b],kn kw x=false:=fun x hx=>by rw[alr.1 hx];exact h
theorem Th{l:Li}(hl:aM l=0){kw:List Bool}{g:Gr}(h:driverG l kw=some g):DyK l g:=by
 unfold driverG at h;rw[ann]at h;obtain⟨i,hi,rfl⟩:=h;obtain⟨h1,h2⟩:=ii hi;obtain⟨d,hd⟩:=aB h1;unfold drHit at h2;simp only[amv,anq,ao0,amo]at h2;rw[aw hd]at h2 ⊢;obtain⟨j,hj⟩:=zK (CK h2.1) h2.2;exact .drv hj oz (by rw[aol];exact hd) rfl
theorem U3{l:Li}(hl:aM l=0){kw:List Bool}{g:Gr}(h:pairG l kw=some g):DyK l g:=by
 unfold pairG at h;rw[ann]at h;obtain⟨i,hi,h⟩:=h;obtain⟨h1,h2⟩:=ii hi;split at h
 ·rename_i k hk;subst h;unfold prAt at hk;rw[ann] at hk;obtain⟨k',hk',rfl⟩:=hk;obtain⟨h3,h4⟩:=ii hk';rw[show i+1+k'=k'+(i+1) by omega] at h4;unfold prHit at h4;simp only [amv,anq,ao0] at h4;obtain⟨⟨f1,f2⟩,⟨j1,j2⟩,j3⟩:=h4
  have hb:∀x∈[(i:Int),((k'+(i+1):Nat):Int)],kn kw x=false:=fun x hx=>by
   simp only[an9,aob,or_false]at hx;rcases hx with rfl |rfl
   ·exact vD f1
   ·exact vD f2
  obtain⟨a0,t0⟩:=zK hb j1;obtain⟨a1,t1⟩:=zK hb j2;obtain⟨n,a2,e,hj,nC,ht⟩:=BL j3;obtain⟨i1,i2,_⟩:=dZ hl hj;have i1:=(cS i1).1;have i2:=(cS i2).1;refine .rrr oz t0 t1 j3 (by rw[e,aol];exact hj) nC ?_;rcases ht with⟨e1,e2⟩ |⟨e1,e2⟩
  ·rw[uB i2 oz oz]at e2;exact .inl ⟨e1,ao1 e2⟩
  ·rw[uB i1 oz oz]at e2;exact .inr ⟨e1,ao1 e2⟩
 ·rename_i hk;rw[hk]at h2;cases h2
theorem Zf{l:Li}{kw:List Bool}{g:Gr}(h:singleG l kw=some g):DyK l g:=by
 unfold singleG at h;rw[ann]at h;obtain⟨i,hi,rfl⟩:=h;obtain⟨h1,h2⟩:=ii hi;unfold sgHit at h2;simp only[amv,anq,ao0]at h2;obtain⟨f1,j1,j2⟩:=h2;obtain⟨a0,t0⟩:=zK (CK (vD f1)) j1;obtain⟨a1,t1⟩:=zK (CK (vD f1)) j2;unfold sgG;rw[aw t1.hj]
 by_cases e:a1.a=i
 ·rw[aoz e];exact .pr t0 t1 e
 ·rw[aoy e];exact .rp t0 t1 e
theorem acf{l:Li}(hl:aM l=0){kw:List Bool}{g:Gr}(h:nextG l kw=some g):DyK l g:=by
 unfold nextG at h;cases h1:driverG l kw with
 |some g'=>rw[h1]at h;cases h;exact Th hl h1
 |none =>
  rw[h1]at h;cases h2:pairG l kw with
  |some g'=>rw[h2]at h;cases h;exact U3 hl h2
  |none=>rw[h2]at h;exact Zf h
theorem Qy{l:Li}(hl:aM l=0):∀(n:Nat)(kw:List Bool)(out:List Gr),(∀g∈out,DyK l g)->∀g∈(findFrom l n kw out).2,DyK l g
 |0,kw,out,h=>h
 |n+1,kw,out,h=>by
  unfold findFrom;cases hg:nextG l kw with
  |none=>exact h
  |some g=>exact Qy hl n (bR kw g.bo) (out++[g]) (fun x hx=>by
    rcases anz.1 hx with hx |hx
    ·exact h x hx
    ·rw[alr.1 hx];exact acf hl hg)
theorem xq{l:Li}(hl:aM l=0){g:Gr}(h:g∈splitG l):DyK l g/\GrOk l g:=by
 unfold splitG at h;split at h
 ·exact⟨Qy hl _ _ _ (fun g hg=>by cases hg) g h,(xJ hl).1 g h⟩
 ·cases h
open Lean.Grind
def E(r:(k:Nat)->T k)(n:Nat):Type:=T n
namespace T
theorem ofQ_zero:∀n,ofQ n 0=zero n
 |0=>rfl
 |n+1=>by simp only[ofQ,zero,ofQ_zero n]
theorem ofQ_add:∀n (p q:Rat),ofQ n (p+q)=add n (ofQ n p) (ofQ n q)
 |0,p,q=>rfl
 |n+1,p,q=>by simp only[ofQ,add,ofQ_add n,add_zero]
theorem ofQ_neg:∀n (p:Rat),ofQ n (-p)=neg n (ofQ n p)
 |0,p=>rfl
 |n+1,p=>by simp only[ofQ,neg,ofQ_neg n,neg_zero]
end T
structure Laws(r:(k:Nat)->T k)(n:Nat):Prop where
  assoc:∀x y z,T.mul r n (T.mul r n x y) z=T.mul r n x (T.mul r n y z)
  dist:∀x y z,T.mul r n x (T.add n y z)=T.add n (T.mul r n x y) (T.mul r n x z)
  one:∀x,T.mul r n (T.ofQ n 1) x=x
theorem T.neg_mul'{r:(k:Nat)->T k}{n:Nat}(h:Laws r n)(x y:T n):T.mul r n (T.neg n x) y=T.neg n (T.mul r n x y):=by
 have h1:T.add n (T.mul r n x y) (T.mul r n (T.neg n x) y)=T.zero n:=by
  rw[T.mul_comm r n x,T.mul_comm r n (T.neg n x),<- h.dist,T.add_neg,T.mul_zero]
 have h2:=ao6 (fun z=>T.add n (T.neg n (T.mul r n x y)) z) h1;simp only[T.add_zero]at h2;rw[<- T.add_assoc,T.add_comm n (T.neg n _),T.add_neg,T.zero_add]at h2;exact h2
theorem T.mul_addr{r:(k:Nat)->T k}{n:Nat}(h:Laws r n)(a b c:T n):T.mul r n (T.add n a b) c=T.add n (T.mul r n a c) (T.mul r n b c):=by
 rw[T.mul_comm r n _ c,h.dist,T.mul_comm r n c,T.mul_comm r n c]
instance (r:(k:Nat)->T k)(n:Nat):Add (E r n):=⟨T.add n⟩
instance (r:(k:Nat)->T k)(n:Nat):Mul (E r n):=⟨T.mul r n⟩
instance (r:(k:Nat)->T k)(n:Nat):Neg (E r n):=⟨T.neg n⟩
instance (r:(k:Nat)->T k)(n:Nat):_root_.Sub (E r n):=⟨fun x y=>T.add n x (T.neg n y)⟩
instance (r:(k:Nat)->T k)(n c:Nat):OfNat (E r n) c:=⟨T.ofQ n (c:Rat)⟩
instance (r:(k:Nat)->T k)(n:Nat):NatCast (E r n):=⟨fun c=>T.ofQ n (c:Rat)⟩
instance (r:(k:Nat)->T k)(n:Nat):IntCast (E r n):=⟨fun c=>T.ofQ n (c:Rat)⟩
instance (r:(k:Nat)->T k)(n:Nat):SMul Nat (E r n):=⟨fun c x=>T.mul r n (T.ofQ n (c:Rat)) x⟩
instance (r:(k:Nat)->T k)(n:Nat):SMul Int (E r n):=⟨fun c x=>T.mul r n (T.ofQ n (c:Rat)) x⟩
def E.pow{r:(k:Nat)->T k}{n:Nat}(x:E r n):Nat->E r n
  |0=>T.ofQ n 1
  |c+1=>T.mul r n (E.pow x c) x
instance (r:(k:Nat)->T k)(n:Nat):HPow (E r n) Nat (E r n):=⟨E.pow⟩
@[reducible] def Laws.ring {r:(k:Nat)->T k} {n:Nat} (h:Laws r n):CommRing (E r n) where
  add_zero a:=by
    show T.add n a (T.ofQ n ((0:Nat):Rat))=a;rw[show(((0:Nat):Rat))=0 from rfl,T.ofQ_zero];exact T.add_zero n a
  add_comm a b:=T.add_comm n a b
  add_assoc a b c:=T.add_assoc n a b c
  mul_assoc a b c:=h.assoc a b c
  mul_one a:=(T.mul_comm r n a _).trans (h.one a)
  one_mul a:=h.one a
  left_distrib a b c:=h.dist a b c
  right_distrib a b c:=T.mul_addr h a b c
  zero_mul a:=by
    show T.mul r n (T.ofQ n ((0:Nat):Rat)) a=T.ofQ n ((0:Nat):Rat);rw[show(((0:Nat):Rat))=0 from rfl,T.ofQ_zero];exact T.zero_mul r n a
  mul_zero a:=by
    show T.mul r n a (T.ofQ n ((0:Nat):Rat))=T.ofQ n ((0:Nat):Rat);rw[show(((0:Nat):Rat))=0 from rfl,T.ofQ_zero];exact T.mul_zero r n a
  pow_zero a:=rfl
  pow_succ a c:=rfl
  ofNat_succ c:=by
    show T.ofQ n ((c+1:Nat):Rat)=T.add n (T.ofQ n (c:Rat)) (T.ofQ n ((1:Nat):Rat));rw[<- T.ofQ_add];congr 1;exact Rat.natCast_add c 1
  ofNat_eq_natCast c:=rfl
  nsmul_eq_natCast_mul c a:=rfl
  neg_add_cancel a:=(T.add_comm n (T.neg n a) a).trans ((T.add_neg n a).trans (T.ofQ_zero n).symm)
  sub a b:=T.add n a (T.neg n b)
  sub_eq_add_neg a b:=rfl
  neg_zsmul i a:=(ao6 (fun z=>T.mul r n z a) (show T.ofQ n ((-i:Int):Rat)=T.neg n (T.ofQ n (i:Rat)) by rw[Rat.intCast_neg,T.ofQ_neg])).trans (T.neg_mul' h _ a)
  zsmul_natCast_eq_nsmul c a:=rfl
  intCast_ofNat c:=rfl
  intCast_neg i:=by
    show T.ofQ n ((-i:Int):Rat)=T.neg n (T.ofQ n (i:Rat));rw[Rat.intCast_neg,T.ofQ_neg]
  mul_comm a b:=T.mul_comm r n a b
section
variable{R:Type}[CommRing R](x y u v p q d:R)
theorem S4:(x*u+y*v*d)*p+(x*v+y*u)*q*d=x*(u*p+v*q*d)+y*(u*q+v*p)*d:=by grind
theorem Vi:(x*u+y*v*d)*q+(x*v+y*u)*p=x*(u*q+v*p)+y*(u*p+v*q*d):=by grind
theorem adh:x*(u+p)+y*(v+q)*d=(x*u+y*v*d)+(x*p+y*q*d):=by grind
theorem ah6:x*(v+q)+y*(u+p)=(x*v+y*u)+(x*q+y*p):=by grind
end
theorem sS(r:(k:Nat)->T k):∀n,Laws r n
 |0=>⟨fun x y z=>Rat.mul_assoc x y z,fun x y z=>Rat.mul_add x y z,fun x=>Rat.one_mul x⟩
 |n+1=>by
  have I:=(sS r n).ring;have h1:=(sS r n).one;refine⟨?_,?_,?_⟩
  ·rintro⟨x,y⟩ ⟨u,v⟩ ⟨p,q⟩;exact Prod.ext (@S4 (E r n) (sS r n).ring x y u v p q (r n)) (@Vi (E r n) (sS r n).ring x y u v p q (r n))
  ·rintro⟨x,y⟩ ⟨u,v⟩ ⟨p,q⟩;exact Prod.ext (@adh (E r n) (sS r n).ring x y u v p q (r n)) (@ah6 (E r n) (sS r n).ring x y u v p q)
  ·rintro⟨u,v⟩;refine Prod.ext ?_ ?_
   ·show T.add n (T.mul r n (T.ofQ n 1) u) (T.mul r n (T.mul r n (T.zero n) v) (r n))=u;rw[h1,T.zero_mul,T.zero_mul,T.add_zero]
   ·show T.add n (T.mul r n (T.ofQ n 1) v) (T.mul r n (T.zero n) u)=v;rw[h1,T.zero_mul,T.add_zero]
instance eRing(r:(k:Nat)->T k)(n:Nat):CommRing (E r n):=(sS r n).ring
structure Sg(R:Type)[CommRing R](s:R->Int):Prop where
  cs:∀x,s x=-1\/s x=0\/s x=1
  one:s 1=1
  neg:∀x,s (-x)=-s x
  mul:∀x y,s (x*y)=s x*s y
  add:∀x y,0<=s x->0<=s y->0<=s (x+y)
namespace Sg
variable{R:Type}[CommRing R]{s:R->Int}
theorem zero(h:Sg R s):s 0=0:=by
 have h1:=h.neg 0;rw[show -(0:R)=0 by grind]at h1;omega
theorem zadd(h:Sg R s){x y:R}(hx:s x=0):s (x+y)=s y:=by
 have h1:=h.cs y;have h2:=h.cs (x+y);have n1:=h.neg x;have n2:=h.neg y;have n3:=h.neg (x+y);have a1:=h.add x y;have a2:=h.add (-x) (-y);have a3:=h.add (-x) (x+y);have a4:=h.add x (-(x+y));rw[show -x+-y=-(x+y) by grind]at a2;rw[show -x+(x+y)=y by grind]at a3;rw[show x+-(x+y)=-y by grind]at a4;omega
theorem padd(h:Sg R s){x y:R}(hx:s x=1)(hy:0<=s y):s (x+y)=1:=by
 have h2:=h.cs (x+y);have a1:=h.add x y;have n2:=h.neg y;have n3:=h.neg (x+y);have a4:=h.add (-(x+y)) y;have e:-(x+y)+y=-x:=by grind
 have n1:=h.neg x;rw[e]at a4;rcases h2 with h2 |h2 |h2
 ·omega
 ·have:=h.zadd (x:=-(x+y)) (y:=y) oz;rw[e]at this;omega
 ·exact h2
theorem sq(h:Sg R s)(x:R):0<=s (x*x):=by
 rw[h.mul];rcases h.cs x with e |e |e <;> rw[e] <;> decide
theorem sub0(h:Sg R s){x y:R}(hx:s (x-y)=0):s x=s y:=by
 have:=h.zadd (y:=y) hx
 rwa [show x-y+y=x by grind]at this
theorem sqle(h:Sg R s){a b:R}(ha:0<=s a)(hb:0<=s (a*a-b*b)):0<=s (a+b):=by
 have c1:=h.cs (a+b);rcases c1 with c1 |c1 |c1
 ·exfalso;have n1:=h.neg (a+b);have p1:s (-(a+b)+a)=1:=h.padd oz ha;rw[show -(a+b)+a=-b by grind]at p1;have p2:s (-b+a)=1:=h.padd p1 ha;have m:=h.mul (-b+a) (a+b);rw[show(-b+a)*(a+b)=a*a-b*b by grind,p2,c1]at m;omega
 ·omega
 ·omega
theorem cancel(h:Sg R s){p x:R}(hp:s p=1)(hx:0<=s (p*x)):0<=s x:=by
 rw[h.mul,hp]at hx;omega
end Sg
def cc{r:(k:Nat)->T k}{n:Nat}(x y:E r n):E r (n+1):=((x,y):T n×T n)
def sg(r:(k:Nat)->T k)(n:Nat)(x:E r n):Int:=T.sgn r n x
def bY(r:(k:Nat)->T k)(n:Nat):E r n:=r n
variable{r:(k:Nat)->T k}{n:Nat}
theorem nV(z:E r (n+1)):∃x y:E r n,z=cc x y:=⟨z.1,z.2,rfl⟩
theorem tX(x y u v:E r n):cc x y+cc u v=cc (x+u) (y+v):=rfl
theorem xL(x y:E r n):-cc x y=cc (-x) (-y):=rfl
theorem oL(x y u v:E r n):cc x y*cc u v=cc (x*u+y*v*bY r n) (x*v+y*u):=rfl
theorem E.zero_def:(0:E r n)=T.zero n:=T.ofQ_zero n
theorem AC:(1:E r (n+1))=cc 1 0:=by
 show T.ofQ (n+1) ((1:Nat):Rat)=(T.ofQ n ((1:Nat):Rat),T.ofQ n ((0:Nat):Rat));rw[show(((0:Nat):Rat))=0 from rfl,T.ofQ_zero];rfl
def a6(x y:E r n):E r n:=x*x+-(y*y*bY r n)
theorem oD(x y:E r n):sg r (n+1) (cc x y)=T.sgn3 (sg r n x) (sg r n y) (sg r n (bY r n)) (sg r n (a6 x y)):=rfl
def PE(x y:E r n):Prop:=(0<=sg r n x/\0<=sg r n (a6 x y))\/(0<=sg r n y/\0<=-sg r n (a6 x y))
theorem vj(h:Sg (E r n) (sg r n))(hd:sg r n (bY r n)=1)(x y:E r n):0<=sg r (n+1) (cc x y)↔PE x y:=by
 rw[oD,hd];unfold PE
 have f1:sg r n y=0->sg r n (a6 x y)=sg r n x*sg r n x:=by
  intro hy;have h1:sg r n (-(y*y*bY r n))=0:=by rw[h.neg,h.mul,h.mul,hy];simp
  have:=h.zadd (y:=x*x) h1;unfold a6;rw[show x*x+-(y*y*bY r n)=-(y*y*bY r n)+x*x by grind,this,h.mul]
 have f2:sg r n x=0->sg r n (a6 x y)=-(sg r n y*sg r n y):=by
  intro hx;have h1:sg r n (x*x)=0:=by rw[h.mul,hx];simp
  have:=h.zadd (y:=-(y*y*bY r n)) h1;unfold a6;rw[this,h.neg,h.mul,h.mul,hd];simp
 have c1:=h.cs x;have c2:=h.cs y;have c3:=h.cs (a6 x y)
 revert f1 f2 c1 c2 c3
 generalize sg r n x=a;generalize sg r n y=b;generalize sg r n (a6 x y)=c;intro f1 f2 c1 c2 c3;rcases c1 with rfl |rfl |rfl <;> rcases c2 with rfl |rfl |rfl <;> rcases c3 with rfl |rfl |rfl <;> first |decide |(exfalso;revert f1 f2;decide)
theorem aa3(h:Sg (E r n) (sg r n))(hd:sg r n (bY r n)=1){x y u v:E r n}(h1:PE x y)(h2:PE u v):PE (x*u+y*v*bY r n) (x*v+y*u):=by
 have nm:a6 (x*u+y*v*bY r n) (x*v+y*u)=a6 x y*a6 u v:=by unfold a6;grind
 have hn:=h.mul (a6 x y) (a6 u v);have d0:0<=sg r n (bY r n):=by omega
 unfold PE;rw[nm,hn];rcases h1 with⟨a1,a2⟩ |⟨a1,a2⟩ <;> rcases h2 with⟨b1,b2⟩ |⟨b1,b2⟩
 ·refine .inl ⟨h.sqle ?_ ?_,amc a2 b2⟩
  ·rw[h.mul];exact amc a1 b1
  ·have e:x*u*(x*u) - y*v*bY r n*(y*v*bY r n)=a6 x y*(u*u)+y*y*bY r n*a6 u v:=by unfold a6; grind
   rw[e];refine h.add _ _ ?_ ?_
   ·rw[h.mul];exact amc a2 (h.sq u)
   ·rw[h.mul,h.mul];exact amc (amc (h.sq y) d0) b2
 ·refine .inr ⟨h.sqle ?_ ?_,?_⟩
  ·rw[h.mul];exact amc a1 b1
  ·have e:x*v*(x*v) - y*u*(y*u)=a6 x y*(v*v)+y*y*-a6 u v:=by unfold a6; grind
   rw[e];refine h.add _ _ ?_ ?_
   ·rw[h.mul];exact amc a2 (h.sq v)
   ·rw[h.mul,h.neg];exact amc (h.sq y) b2
  ·rw[<- Int.mul_neg];exact amc a2 b2
 ·refine .inr ⟨?_,?_⟩
  ·rw[show x*v+y*u=y*u+x*v by grind];refine h.sqle ?_ ?_
   ·rw[h.mul];exact amc a1 b1
   ·have e:y*u*(y*u) - x*v*(x*v)=a6 u v*(y*y)+v*v*-a6 x y:=by unfold a6; grind
    rw[e];refine h.add _ _ ?_ ?_
    ·rw[h.mul];exact amc b2 (h.sq y)
    ·rw[h.mul,h.neg];exact amc (h.sq v) a2
  ·rw[<- Int.neg_mul];exact amc a2 b2
 ·refine .inl ⟨?_,?_⟩
  ·rw[show x*u+y*v*bY r n=y*v*bY r n+x*u by grind];refine h.sqle ?_ ?_
   ·rw[h.mul,h.mul];exact amc (amc a1 b1) d0
   ·have e:y*v*bY r n*(y*v*bY r n) - x*u*(x*u)=-a6 x y*(v*v*bY r n)+x*x*-a6 u v:=by unfold a6; grind
    rw[e];refine h.add _ _ ?_ ?_
    ·rw[h.mul,h.neg,h.mul];exact amc a2 (amc (h.sq v) d0)
    ·rw[h.mul,h.neg];exact amc (h.sq x) b2
  ·rw[<- Int.neg_mul_neg];exact amc a2 b2
theorem Qh(h:Sg (E r n) (sg r n))(hd:sg r n (bY r n)=1){x y u v:E r n}(a1:0<=sg r n x)(a2:0<=sg r n (a6 x y))(b1:0<=sg r n v)(b2:0<=-sg r n (a6 u v)):PE (x+u) (y+v):=by
  have cX:=h.cs (x+u);have cY:=h.cs (y+v);have cN:=h.cs (a6 (x+u) (y+v));unfold PE
  by_cases hX:0<=sg r n (x+u)
  · by_cases hN:0<=sg r n (a6 (x+u) (y+v))
    · exact .inl ⟨hX,hN⟩
    · by_cases hY:0<=sg r n (y+v)
      · exact .inr ⟨hY,by omega⟩
      · -- Y<0: then N is at least 0
        exfalso;have hY':sg r n (-(y+v))=1:=by rw[h.neg];omega
        have ny:sg r n (-y)=1:=by
          have:=h.padd hY' b1
          rwa [show -(y+v)+v=-y by grind]at this
        have k1:0<=sg r n (x*v+y*u):=by
          refine h.sqle (by rw[h.mul];exact amc a1 b1) ?_;have e:x*v*(x*v)-y*u*(y*u)=a6 x y*(v*v)+y*y*-a6 u v:=by unfold a6;grind
          rw[e];refine h.add _ _ ?_ ?_
          · rw[h.mul];exact amc a2 (h.sq v)
          · rw[h.mul,h.neg];exact amc (h.sq y) b2
        have k2:0<=sg r n (x*v+-(y*u)):=by
          refine h.sqle (by rw[h.mul];exact amc a1 b1) ?_;have e:x*v*(x*v) - -(y*u)*-(y*u)=a6 x y*(v*v)+y*y*-a6 u v:=by unfold a6;grind
          rw[e];refine h.add _ _ ?_ ?_
          · rw[h.mul];exact amc a2 (h.sq v)
          · rw[h.mul,h.neg];exact amc (h.sq y) b2
        have k3:0<=sg r n (-y*(x+u)-x*-(y+v)):=by
          rw[show -y*(x+u)-x*-(y+v)=x*v+-(y*u) by grind];exact k2
        have k4:0<=sg r n (-y*(x+u)+x*-(y+v)):=by
          rw[show -y*(x+u)+x*-(y+v)=(-y*(x+u)-x*-(y+v))+(x*-(y+v)+x*-(y+v)) by grind];refine h.add _ _ k3 (h.add _ _ ?_ ?_) <;> (rw[h.mul,hY'];omega)
        have k5:0<=sg r n ((y*y)*a6 (x+u) (y+v)):=by
          have e:(y*y)*a6 (x+u) (y+v)=(-y*(x+u)-x*-(y+v))*(-y*(x+u)+x*-(y+v))+a6 x y*(-(y+v)*-(y+v)):=by unfold a6;grind
          rw[e];refine h.add _ _ (by rw[h.mul];exact amc k3 k4) (by rw[h.mul];exact amc a2 (h.sq _))
        have k6 := h.cancel (by rw [h.mul]; rw [h.neg] at ny; have : sg r n y = -1 := by omega
                                rw[this];rfl) k5
        exact hN k6
  · have hX':sg r n (-(x+u))=1:=by rw[h.neg]; omega
    have nu:sg r n (-u)=1:=by
      have:=h.padd hX' a1
      rwa [show -(x+u)+x=-u by grind]at this
    have su:sg r n u=-1:=by rw[h.neg]at nu;omega
    have hv:sg r n v=1:=by
      rcases h.cs v with e |e |e
      · omega
      · exfalso
        have h1:sg r n (-(v*v*bY r n))=0:=by rw[h.neg,h.mul,h.mul,e];simp
        have:=h.zadd (y:=u*u) h1;rw[show -(v*v*bY r n)+u*u=a6 u v by unfold a6;grind,h.mul,su]at this;omega
      · exact e
    have k1:0<=sg r n (x*v+y*-u):=by
      refine h.sqle (by rw[h.mul];exact amc a1 b1) ?_;have e:x*v*(x*v)-y*-u*(y*-u)=a6 x y*(v*v)+y*y*-a6 u v:=by unfold a6;grind
      rw[e];refine h.add _ _ ?_ ?_
      · rw[h.mul];exact amc a2 (h.sq v)
      · rw[h.mul,h.neg];exact amc (h.sq y) b2
    have k3:0<=sg r n (-u*(y+v)-v*-(x+u)):=by
      rw[show -u*(y+v)-v*-(x+u)=x*v+y*-u by grind];exact k1
    have k4:0<=sg r n (v*-(x+u)):=by rw[h.mul,hv,hX'];decide
    have kY:0<=sg r n (y+v):=by
      refine h.cancel nu ?_;rw[show -u*(y+v)=(-u*(y+v)-v*-(x+u))+v*-(x+u) by grind];exact h.add _ _ k3 k4
    refine .inr ⟨kY,?_⟩
    have k5:0<=sg r n ((v*v)*-a6 (x+u) (y+v)):=by
      have e:(v*v)*-a6 (x+u) (y+v)=(-u*(y+v)-v*-(x+u))*(-u*(y+v)+v*-(x+u))+-a6 u v*((y+v)*(y+v)):=by unfold a6;grind
      rw[e];have k6:0<=sg r n (-u*(y+v)+v*-(x+u)):=h.add _ _ (by rw[h.mul,nu];omega) k4;refine h.add _ _ (by rw[h.mul];exact amc k3 k6) (by rw[h.mul,h.neg];exact amc b2 (h.sq _))
    have k7:=h.cancel (by rw[h.mul,hv];rfl) k5
    rwa [h.neg]at k7
theorem VK(h:Sg (E r n) (sg r n))(hd:sg r n (bY r n)=1){x y u v:E r n}(h1:PE x y)(h2:PE u v):PE (x+u) (y+v):=by
 have d0:0<=sg r n (bY r n):=by omega
 rcases h1 with⟨a1,a2⟩ |⟨a1,a2⟩ <;> rcases h2 with⟨b1,b2⟩ |⟨b1,b2⟩
 ·refine .inl ⟨h.add _ _ a1 b1,?_⟩
  have k:0<=sg r n (x*u+-(y*v*bY r n)):=by
   refine h.sqle (by rw[h.mul];exact amc a1 b1) ?_;have e:x*u*(x*u) - -(y*v*bY r n)*-(y*v*bY r n)=a6 x y*(u*u)+y*y*bY r n*a6 u v:=by unfold a6;grind
   rw[e];refine h.add _ _ ?_ ?_
   ·rw[h.mul];exact amc a2 (h.sq u)
   ·rw[h.mul,h.mul];exact amc (amc (h.sq y) d0) b2
  rw[show a6 (x+u) (y+v)=(a6 x y+a6 u v)+((x*u+-(y*v*bY r n))+(x*u+-(y*v*bY r n))) by unfold a6;grind];exact h.add _ _ (h.add _ _ a2 b2) (h.add _ _ k k)
 ·exact Qh h hd a1 a2 b1 b2
 ·rw[show x+u=u+x by grind,show y+v=v+y by grind];exact Qh h hd b1 b2 a1 a2
 ·refine .inr ⟨h.add _ _ a1 b1,?_⟩
  have k:0<=sg r n (y*v*bY r n+-(x*u)):=by
   refine h.sqle (by rw[h.mul,h.mul];exact amc (amc a1 b1) d0) ?_;have e:y*v*bY r n*(y*v*bY r n) - -(x*u)*-(x*u)=-a6 x y*(v*v*bY r n)+x*x*-a6 u v:=by unfold a6;grind
   rw[e];refine h.add _ _ ?_ ?_
   ·rw[h.mul,h.neg,h.mul];exact amc a2 (amc (h.sq v) d0)
   ·rw[h.mul,h.neg];exact amc (h.sq x) b2
  have k2:0<=sg r n (-a6 (x+u) (y+v)):=by
   rw[show -a6 (x+u) (y+v)=(-a6 x y+-a6 u v)+((y*v*bY r n+-(x*u))+(y*v*bY r n+-(x*u))) by unfold a6;grind];exact h.add _ _ (h.add _ _ (by rw[h.neg];exact a2) (by rw[h.neg];exact b2)) (h.add _ _ k k)
  rwa [h.neg]at k2
theorem WG(a b c d:Int):T.sgn3 (-a) (-b) c d=-T.sgn3 a b c d:=by
 unfold T.sgn3;have e:(-a=-b \/ -b=0)↔(a=b\/b=0):=by omega
 simp only[e];split
 ·rfl
 ·split
  ·rfl
  ·by_cases h:a=0
   ·rw[aoz oz,aoz h]
   ·rw[aoy oz,aoy h,Int.neg_mul]
theorem TV(h:Sg (E r n) (sg r n))(hd:0<=sg r n (bY r n)):Sg (E r (n+1)) (sg r (n+1)):=by
 have co:∀z:E r (n+1),sg r (n+1) z=-1\/sg r (n+1) z=0\/sg r (n+1) z=1:=fun z=>T.sgn_cases r (n+1) z
 have lG:sg r (n+1) 1=1:=by
  rw[AC,oD,h.one,h.zero];unfold T.sgn3;split
  ·rfl
  ·simp
 have je:∀z:E r (n+1),sg r (n+1) (-z)=-sg r (n+1) z:=by
  intro z;obtain⟨x,y,rfl⟩:=nV z;rw[xL,oD,oD,h.neg,h.neg,show a6 (-x) (-y)=a6 x y by unfold a6;grind,WG]
 by_cases fh:sg r n (bY r n)=0
 ·have e0:∀x y:E r n,sg r (n+1) (cc x y)=sg r n x:=by
   intro x y;rw[oD,fh];unfold T.sgn3;rw[aoz rfl]
  refine⟨co,lG,je,?_,?_⟩
  ·intro z w;obtain⟨x,y,rfl⟩:=nV z;obtain⟨u,v,rfl⟩:=nV w;rw[oL,e0,e0,e0];have h1:sg r n (y*v*bY r n)=0:=by rw[h.mul,fh]; simp
   have:=h.zadd (y:=x*u) h1;rw[show x*u+y*v*bY r n=y*v*bY r n+x*u by grind,this,h.mul]
  ·intro z w;obtain⟨x,y,rfl⟩:=nV z;obtain⟨u,v,rfl⟩:=nV w;rw[tX,e0,e0,e0];exact h.add x u
 ·have iI:sg r n (bY r n)=1:=by rcases h.cs (bY r n) with e | e | e <;> omega
  have gL:∀z w:E r (n+1),0<=sg r (n+1) z->0<=sg r (n+1) w->0<=sg r (n+1) (z+w):=by
   intro z w;obtain⟨x,y,rfl⟩:=nV z;obtain⟨u,v,rfl⟩:=nV w;rw[tX,vj h iI,vj h iI,vj h iI];exact VK h iI
  have nB:∀z w:E r (n+1),0<=sg r (n+1) z->0<=sg r (n+1) w->0<=sg r (n+1) (z*w):=by
   intro z w;obtain⟨x,y,rfl⟩:=nV z;obtain⟨u,v,rfl⟩:=nV w;rw[oL,vj h iI,vj h iI,vj h iI];exact aa3 h iI
  have Dq:∀z w:E r (n+1),sg r (n+1) z=0->sg r (n+1) (w*z)=0:=by
   intro z w hz;have n1:=je z;have n2:=je w;have n3:=je (w*z);have m1:=nB w z;have m2:=nB w (-z);have m3:=nB (-w) z;have m4:=nB (-w) (-z);rw[show w*-z=-(w*z) by grind]at m2;rw[show -w*z=-(w*z) by grind]at m3;rw[show -w*-z=w*z by grind]at m4;rcases co w with e |e |e <;> omega
  have Ro:∀(a u v:E r n),sg r (n+1) (cc (a*u) (a*v))=sg r n a*sg r (n+1) (cc u v):=by
   intro a u v;rw[oD,oD,show a6 (a*u) (a*v)=a*a*a6 u v by unfold a6;grind,h.mul,h.mul,h.mul,h.mul,iI]
   have f1:sg r n v=0->sg r n (a6 u v)=sg r n u*sg r n u:=by
    intro hy;have h1:sg r n (-(v*v*bY r n))=0:=by rw[h.neg,h.mul,h.mul,hy];simp
    have:=h.zadd (y:=u*u) h1;unfold a6;rw[show u*u+-(v*v*bY r n)=-(v*v*bY r n)+u*u by grind,this,h.mul]
   have c1:=h.cs u;have c2:=h.cs v;have c3:=h.cs (a6 u v);have c4:=h.cs a
   revert c1 c2 c3 c4
   generalize sg r n u=a1;generalize sg r n v=b1;generalize sg r n (a6 u v)=c1;generalize sg r n a=e1;intro c1 c2 c3 c4;rcases c1 with rfl |rfl |rfl <;> rcases c2 with rfl |rfl |rfl <;> rcases c3 with rfl |rfl |rfl <;> rcases c4 with rfl |rfl |rfl <;> decide
  have ai5:∀z w:E r (n+1),sg r (n+1) z=1->0<=sg r (n+1) w->sg r (n+1) (z+w)=1:=by
   intro z w hz hw;have a1:=gL z w oz hw;rcases co (z+w)with e |e |e
   ·omega
   ·exfalso;have n1:=je z;have n2:=je (z+w);have a2:=gL (-(z+w)) w oz hw;rw[show -(z+w)+w=-z by grind]at a2;omega
   ·exact e
  have Du:∀z w:E r (n+1),sg r (n+1) z=1->sg r (n+1) w=1->sg r (n+1) (z*w)=1:=by
   intro z w hz hw;obtain⟨x,y,rfl⟩:=nV z;obtain⟨u,v,rfl⟩:=nV w;have p0:=nB _ _ (by omega:0<=sg r (n+1) (cc x y)) (by omega:0<=sg r (n+1) (cc u v));rcases co (cc x y*cc u v)with e |e |e
   ·omega
   ·exfalso
    by_cases hN:sg r n (a6 x y)=0
    ·have Rq:sg r n x=1/\sg r n y=1:=by
      rw[oD,iI,hN]at hz
      have f1:sg r n y=0->sg r n (a6 x y)=sg r n x*sg r n x:=by
       intro hy;have h1:sg r n (-(y*y*bY r n))=0:=by rw[h.neg,h.mul,h.mul,hy];simp
       have:=h.zadd (y:=x*x) h1;unfold a6;rw[show x*x+-(y*y*bY r n)=-(y*y*bY r n)+x*x by grind,this,h.mul]
      have f2:sg r n x=0->sg r n (a6 x y)=-(sg r n y*sg r n y):=by
       intro hx;have h1:sg r n (x*x)=0:=by rw[h.mul,hx];simp
       have:=h.zadd (y:=-(y*y*bY r n)) h1;unfold a6;rw[this,h.neg,h.mul,h.mul,iI];simp
      rw[hN]at f1 f2;have c1:=h.cs x;have c2:=h.cs y
      revert hz f1 f2 c1 c2
      generalize sg r n x=a;generalize sg r n y=b;intro hz f1 f2 c1 c2;rcases c1 with rfl |rfl |rfl <;> rcases c2 with rfl |rfl |rfl <;> revert hz f1 f2 <;> decide
     have k1:sg r (n+1) (cc (x*u) (x*v))=1:=by rw[Ro,Rq.1,hw];rfl
     have k2:0<=sg r (n+1) (cc 0 y):=by
      rw[oD,h.zero,Rq.2,iI];unfold T.sgn3;simp
     have k3:=nB _ _ k2 (by omega:0<=sg r (n+1) (cc u v));have k4:=ai5 _ _ k1 k3;rw[oL,tX]at k4;rw[oL]at e;rw[show x*u+(0*u+y*v*bY r n)=x*u+y*v*bY r n by grind,show x*v+(0*v+y*u)=x*v+y*u by grind]at k4;omega
    ·have k1:=Dq _ (cc x (-y)) e;rw[show cc x (-y)*(cc x y*cc u v)=cc (a6 x y*u) (a6 x y*v) by rw[oL,oL];unfold a6;congr 1 <;> grind,Ro,hw]at k1;omega
   ·exact e
  refine⟨co,lG,je,?_,gL⟩;intro z w;rcases co w with e |e |e
  ·rcases co z with e' |e' |e'
   ·have:=Du (-z) (-w) (by rw[je];omega) (by rw[je];omega);rw[show -z*-w=z*w by grind]at this;rw[this,e,e'];rfl
   ·have:=Dq z w e';rw[show w*z=z*w by grind]at this;rw[this,e'];simp
   ·have:=Du z (-w) e' (by rw[je];omega);rw[show z*-w=-(z*w) by grind,je]at this;rw[e,e'];omega
  ·rw[Dq w z e,e];simp
  ·rcases co z with e' |e' |e'
   ·have:=Du (-z) w (by rw[je];omega) e;rw[show -z*w=-(z*w) by grind,je]at this;rw[e,e'];omega
   ·have:=Dq z w e';rw[show w*z=z*w by grind]at this;rw[this,e'];simp
   ·rw[Du z w e' e,e,e'];rfl
theorem sE(q:Rat):b9 q=-1/\q<0\/b9 q=0/\q=0\/b9 q=1/\0<q:=by
 unfold b9;split
 ·exact .inl ⟨rfl,by assumption⟩
 ·split
  ·exact .inr (.inr ⟨rfl,by assumption⟩)
  ·exact .inr (.inl ⟨rfl,by grind⟩)
theorem yZ{q:Rat}(h:0<q):b9 q=1:=by
 rcases sE q with⟨_,h'⟩ |⟨_,h'⟩ |⟨e,_⟩
 ·grind
 ·grind
 ·exact e
theorem GV{q:Rat}(h:q<0):b9 q=-1:=by
 rcases sE q with⟨e,_⟩ |⟨_,h'⟩ |⟨_,h'⟩
 ·exact e
 ·grind
 ·grind
theorem acr(q:Rat):b9 (-q)=-b9 q:=by
 rcases sE q with⟨e,h⟩ |⟨e,h⟩ |⟨e,h⟩
 ·rw[e,yZ (by grind)];rfl
 ·rw[h];rfl
 ·rw[e,GV (by grind)]
theorem WB(p q:Rat):b9 (p*q)=b9 p*b9 q:=by
 have h0:b9 0=0:=rfl;rcases sE p with⟨e,h⟩ |⟨e,h⟩ |⟨e,h⟩ <;> rcases sE q with⟨e',h'⟩ |⟨e',h'⟩ |⟨e',h'⟩
 ·have:=amh (a:=-p) (b:=-q) (by grind) (by grind);rw[e,e',yZ (by grind)];rfl
 ·rw[h',Rat.mul_zero,h0];simp
 ·have:=amh (a:=-p) (b:=q) (by grind) h';rw[e,e',GV (by grind)];rfl
 ·rw[h,Rat.zero_mul,h0];simp
 ·rw[h,Rat.zero_mul,h0];simp
 ·rw[h,Rat.zero_mul,h0];simp
 ·have:=amh (a:=p) (b:=-q) h (by grind);rw[e,e',GV (by grind)];rfl
 ·rw[h',Rat.mul_zero,h0];simp
 ·rw[e,e',yZ (amh h h')];rfl
theorem ab8(p q:Rat)(h1:0<=b9 p)(h2:0<=b9 q):0<=b9 (p+q):=by
 rcases sE (p+q)with⟨e,h⟩ |⟨e,h⟩ |⟨e,h⟩
 ·exfalso;rcases sE p with⟨e1,g1⟩ |⟨e1,g1⟩ |⟨e1,g1⟩ <;> rcases sE q with⟨e2,g2⟩ |⟨e2,g2⟩ |⟨e2,g2⟩ <;> first |omega |grind
 ·omega
 ·omega
theorem WK(r:(k:Nat)->T k):Sg (E r 0) (sg r 0) :=
 ⟨fun q=>T.sgnQ_cases q,rfl,fun q=>acr q,fun p q=>WB p q,fun p q=>ab8 p q⟩
def ik(r:(k:Nat)->T k)(n:Nat):Prop:=∀j,j<n->0<=T.sgn r j (r j)
theorem eG(r:(k:Nat)->T k):∀n,ik r n->Sg (E r n) (sg r n)
 |0,_=>WK r
 |n+1,h=>TV (eG r n (fun j hj=>h j oz)) (h n oz)
end Go.Lw
namespace Go.Lw
def xA{r:(k:Nat)->T k}{n:Nat}(x:E r n):AV:=nA (sh n x)
abbrev Pn(r:(k:Nat)->T k)(n:Nat):Type:=E r n×E r n
def qF(r:(k:Nat)->T k)(n:Nat):LL:=(List.range n).map fun k=>enc k (r k)
def qE{r:(k:Nat)->T k}{n:Nat}(q:Rat):E r n:=T.ofQ n q
theorem ED:∀(n:Nat)(q:Rat),sh n (T.ofQ n q)=sh 0 (q:Rat)
 |0,q=>rfl
 |n+1,q=>by
  show(if T.isZ n (T.zero n)=true then sh n (T.ofQ n q)else _)=_;rw[aoz ((T.isZ_iff n _).2 rfl),ED n q]
theorem Oo:∀n:Nat,sh n (T.zero n)=[]
 |0=>rfl
 |n+1=>by
  show(if T.isZ n (T.zero n)=true then sh n (T.zero n)else _)=_;rw[aoz ((T.isZ_iff n _).2 rfl),Oo n]
theorem xU(r:(k:Nat)->T k)(n:Nat):(qF r n).length=n:=by simp[qF]
theorem Kp{r:(k:Nat)->T k}{n j:Nat}(h:j<n):(qF r n).getD j []=enc j (r j):=by
 unfold qF;rw[anm,anr,List.getElem?_range h];rfl
theorem Ua{r:(k:Nat)->T k}{n j:Nat}(h:j<n):az (qF r n) j=r j:=by
 unfold az;rw[Kp h,Bo]
theorem Pu{ts:LL}{R:Nat}(tw:Tw ts R):ts=qF (az ts) ts.length:=by
 apply List.ext_getElem?;intro j
 by_cases hj:j<ts.length
 ·have h1:=Kp (r:=az ts) hj;have h2:=tw.len j hj;rw[anm]at h1;rw[ano (show j<(qF (az ts) ts.length).length by rw[xU];exact hj)]at h1 ⊢;rw[ani]at h1;rw[h1,ano hj];unfold az;rw[wJ _ _ h2,anm,ano hj];rfl
 ·rw[an2 oz,an2 (by rw[xU];omega)]
class Cx(r:(k:Nat)->T k)(n:Nat)(u k:outParam Nat):Prop where
  ex:∃R,Tw (qF r n) R/\eB R n<=k
  k1:1<=k
  u3:3<=u
class Zu(u k:Nat){r:(k:Nat)->T k}{n:Nat}(x:E r n)(w v:outParam Nat):Prop where
  nm:Nm n (w*u+v*k) (sh n x)
class Zp(u k:Nat){r:(k:Nat)->T k}{n:Nat}(p:Pn r n)(w v:outParam Nat):Prop where
  x:Nm n (w*u+v*k) (sh n p.1)
  y:Nm n (w*u+v*k) (sh n p.2)
class Qz(u:Nat)(q:Rat)(w:outParam Nat):Prop where
  cb:Cb (w*u) [q]
section
variable{r:(k:Nat)->T k}{n u k:Nat}
theorem Cx.five(c:Cx r n u k):n<=5:=by obtain⟨R,tw,_⟩:=c.ex;have:=tw.five;rwa [xU]at this
theorem Cx.three(c:Cx r n u k):n<=3:=by obtain⟨R,tw,_⟩:=c.ex;have:=tw.three;rwa [xU]at this
theorem C8(w v w' v' u k:Nat):(w*u+v*k)+(w'*u+v'*k)=(w+w')*u+(v+v')*k:=by
 rw[akk,akk];omega
theorem Nm.eq{n e f:Nat}{l:List Rat}(h:Nm n e l)(hf:e=f):Nm n f l:=hf▸h
theorem Nm.addT{e f:Nat}{x y:T n}(hx:Nm n e (sh n x))(hy:Nm n f (sh n y)):Nm n (e+f+1) (sh n (T.add n x y)):=by
 have h:=hx.add hy
 rwa [bn,bn]at h
theorem Nm.subT{e f:Nat}{x y:T n}(hx:Nm n e (sh n x))(hy:Nm n f (sh n y)):Nm n (e+f+1) (sh n (T.add n x (T.neg n y))):=by
 have h:=hx.sub hy
 rwa [bn,bn]at h
theorem Nm.negT{e:Nat}{x:T n}(hx:Nm n e (sh n x)):Nm n e (sh n (T.neg n x)):=by
 have h:=hx.neg
 rwa [bn]at h
theorem Nm.mulT{R e f:Nat}(tw:Tw (qF r n) R){x y:T n}(hx:Nm n e (sh n x))(hy:Nm n f (sh n y)):Nm n (e+f+eB R n) (sh n (T.mul r n x y)):=by
 have h:=Nm.mul tw (xU r n).symm hx hy
 rwa [bn,bn,T.mul_congr n (fun j hj=>Ua hj)]at h
instance Zu.add[c:Cx r n u k]{x y:E r n}{w v w' v':Nat}[hx:Zu u k x w v][hy:Zu u k y w' v']:Zu u k (x+y) (w+w') (v+v'+1) :=
  ⟨(Nm.addT hx.nm hy.nm).mono (by rw[C8,akk _ 1];have:=c.k1;omega)⟩
instance Zu.sub[c:Cx r n u k]{x y:E r n}{w v w' v':Nat}[hx:Zu u k x w v][hy:Zu u k y w' v']:Zu u k (x-y) (w+w') (v+v'+1) :=
  ⟨(Nm.subT hx.nm hy.nm).mono (by rw[C8,akk _ 1];have:=c.k1;omega)⟩
instance Zu.neg{x:E r n}{w v:Nat}[hx:Zu u k x w v]:Zu u k (-x) w v:=⟨Nm.negT hx.nm⟩
instance Zu.mul[c:Cx r n u k]{x y:E r n}{w v w' v':Nat}[hx:Zu u k x w v][hy:Zu u k y w' v']:Zu u k (x*y) (w+w') (v+v'+1):=by
  obtain⟨R,tw,hk⟩:=c.ex;exact⟨(Nm.mulT tw hx.nm hy.nm).mono (by rw[C8,akk _ 1];omega)⟩
instance Zu.qE[c:Cx r n u k]{q:Rat}{w:Nat}[h:Qz u q w]:Zu u k (qE q:E r n) w 0:=⟨by
  show Nm n _ (sh n (T.ofQ n q));rw[ED];exact(Nm.ofQ c.five h.cb).eq oz⟩
theorem Cb.int{e:Nat}{z:Int}(h:z.natAbs<=2^e):Cb e [(z:Rat)] :=
 ⟨1,z.natAbs,⟨by omega,fun q hq=>⟨z,by rw[alr.1 hq];exact Rat.mul_one _,anp _⟩⟩,ajr,h⟩
theorem Qz.int[c:Cx r n u k]{z:Int}(h:z.natAbs<=8):Qz u (z:Rat) 1:=⟨Cb.int (an4 h (show 2^3<=_ from cK (by have:=c.u3;omega)))⟩
instance Zu.c0[c:Cx r n u k]:Zu u k (0:E r n) 0 0:=⟨by
  show Nm n _ (sh n (T.ofQ n ((0:Nat):Rat)));rw[show(((0:Nat):Rat))=0 from rfl,T.ofQ_zero,Oo];exact⟨c.five,.inl rfl,Cb.nil.mono (ans _)⟩⟩
instance Zu.c1[c:Cx r n u k]:Zu u k (1:E r n) 1 0:=by
  haveI:Qz u ((1:Nat):Rat) 1:=Qz.int (c:=c) (z:=1) (by decide);exact(ao7:Zu u k (Go.Lw.qE ((1:Nat):Rat):E r n) 1 0)
instance Zu.c2[c:Cx r n u k]:Zu u k (2:E r n) 1 0:=by
  haveI:Qz u ((2:Nat):Rat) 1:=Qz.int (c:=c) (z:=2) (by decide);exact(ao7:Zu u k (Go.Lw.qE ((2:Nat):Rat):E r n) 1 0)
instance Zu.c4[c:Cx r n u k]:Zu u k (4:E r n) 1 0:=by
  haveI:Qz u ((4:Nat):Rat) 1:=Qz.int (c:=c) (z:=4) (by decide);exact(ao7:Zu u k (Go.Lw.qE ((4:Nat):Rat):E r n) 1 0)
instance Zu.px{p:Pn r n}{w v:Nat}[h:Zp u k p w v]:Zu u k p.1 w v:=⟨h.x⟩
instance Zu.py{p:Pn r n}{w v:Nat}[h:Zp u k p w v]:Zu u k p.2 w v:=⟨h.y⟩
theorem DI{w v w' v' u k:Nat}(h:w<=w')(h':v<=v'):w*u+v*k<=w'*u+v'*k:=Nat.add_le_add (aod _ h) (aod _ h')
instance Zp.mk'{x y:E r n}{w v w' v':Nat}[hx:Zu u k x w v][hy:Zu u k y w' v']:Zp u k ((x,y):Pn r n) (max w w') (max v v') :=
  ⟨hx.nm.mono (DI (Nat.le_max_left ..) (Nat.le_max_left ..)),hy.nm.mono (DI (Nat.le_max_right ..) (Nat.le_max_right ..))⟩
def ZJ(p q:Pn r n):Pn r n:=(p.1+q.1,p.2+q.2)
def aea(p q:Pn r n):Pn r n:=(p.1-q.1,p.2-q.2)
def Uu(c:E r n)(p:Pn r n):Pn r n:=(c*p.1,c*p.2)
def Ys(p q:Pn r n):E r n:=p.1*q.1+p.2*q.2
def XX(p q:Pn r n):E r n:=p.1*q.2-p.2*q.1
def ad3(c s:E r n)(p:Pn r n):Pn r n:=(c*p.1-s*p.2,s*p.1+c*p.2)
def pQ(x y:Rat):Pn r n:=(qE x,qE y)
def aff(p:Pn r n):Pn r n:=(-p.2,p.1)
instance Zp.add[c:Cx r n u k]{p q:Pn r n}{w v w' v':Nat}[hp:Zp u k p w v][hq:Zp u k q w' v']:Zp u k (ZJ p q) (w+w') (v+v'+1) :=
  ⟨(ao7:Zu u k (p.1+q.1) (w+w') (v+v'+1)).nm,(ao7:Zu u k (p.2+q.2) (w+w') (v+v'+1)).nm⟩
instance Zp.sub[c:Cx r n u k]{p q:Pn r n}{w v w' v':Nat}[hp:Zp u k p w v][hq:Zp u k q w' v']:Zp u k (aea p q) (w+w') (v+v'+1) :=
  ⟨(ao7:Zu u k (p.1-q.1) (w+w') (v+v'+1)).nm,(ao7:Zu u k (p.2-q.2) (w+w') (v+v'+1)).nm⟩
instance Zp.scale[c:Cx r n u k]{a:E r n}{q:Pn r n}{w v w' v':Nat}[hp:Zu u k a w v][hq:Zp u k q w' v']:Zp u k (Uu a q) (w+w') (v+v'+1) :=
  ⟨(ao7:Zu u k (a*q.1) (w+w') (v+v'+1)).nm,(ao7:Zu u k (a*q.2) (w+w') (v+v'+1)).nm⟩
instance Zu.dot[c:Cx r n u k]{p q:Pn r n}{w v w' v':Nat}[hp:Zp u k p w v][hq:Zp u k q w' v']:Zu u k (Ys p q) (w+w'+(w+w')) (v+v'+1+(v+v'+1)+1) :=
  (ao7:Zu u k (p.1*q.1+p.2*q.2) _ _)
instance Zu.cross[c:Cx r n u k]{p q:Pn r n}{w v w' v':Nat}[hp:Zp u k p w v][hq:Zp u k q w' v']:Zu u k (XX p q) (w+w'+(w+w')) (v+v'+1+(v+v'+1)+1) :=
  (ao7:Zu u k (p.1*q.2-p.2*q.1) _ _)
instance Zp.turn[c:Cx r n u k]{a b:E r n}{p:Pn r n}{w v w' v' w2 v2:Nat}[ha:Zu u k a w v][hb:Zu u k b w' v'][hp:Zp u k p w2 v2] :
    Zp u k (ad3 a b p) (w+w2+(w'+w2)) (v+v2+1+(v'+v2+1)+1) :=
  ⟨(ao7:Zu u k (a*p.1-b*p.2) _ _).nm,by
    have h:=(ao7:Zu u k (b*p.1+a*p.2) _ _).nm;exact h.eq (by rw[ajw (w'+w2),ajw (v'+v2+1)])⟩
instance Zp.ofQ[c:Cx r n u k]{x y:Rat}{w w':Nat}[hx:Qz u x w][hy:Qz u y w']:Zp u k (pQ x y:Pn r n) (max w w') (max 0 0) :=
  (ao7:Zp u k ((qE x,qE y):Pn r n) _ _)
instance Zp.quart{p:Pn r n}{w v:Nat}[hp:Zp u k p w v]:Zp u k (aff p) w v:=⟨(ao7:Zu u k (-p.2) w v).nm,hp.x⟩
end
theorem D6(rs:List (List Rt)):(llq rs).length=rs.length:=by simp[llq]
abbrev Et(ts:LL):Type:=E (az ts) ts.length
def dE(ts:LL)(a:List Rat):Et ts:=af ts.length a
def sX{ts:LL}(x:Et ts):List Rat:=sh ts.length x
def ao{ts:LL}(x:Et ts):Int:=T.sgn (az ts) ts.length x
class Ct(ts:LL)(u k:outParam Nat):Prop where
  ex:∃R,Tw ts R/\eB R ts.length<=k
  k1:1<=k
  u3:3<=u
  ub:u<=1000000
  kb:k<=1000000
instance Ct.cx{ts:LL}{u k:Nat}[c:Ct ts u k]:Cx (az ts) ts.length u k:=by
  obtain⟨R,tw,h⟩:=c.ex;exact⟨⟨R,Pu tw▸tw,h⟩,c.k1,c.u3⟩
class Zl(ts:LL)(u k:Nat)(a:List Rat)(x:outParam (Et ts))(w v:outParam Nat):Prop where
  eq:af ts.length a=x
  nm:Nm ts.length (w*u+v*k) a
section
variable{ts:LL}{u k:Nat}
instance Zl.sX{x:Et ts}{w v:Nat}[h:Zu u k x w v]:Zl ts u k (sX x) x w v:=⟨bn _ _,h.nm⟩
instance Zl.q[c:Ct ts u k]{q:Rat}{w:Nat}[h:Qz u q w]:Zl ts u k (sh 0 (q:Rat)) (qE q:Et ts) w 0:=⟨kM _ q,by
  obtain⟨R,tw,_⟩:=c.ex;exact(Nm.ofQ tw.five h.cb).eq oz⟩
instance Zl.nil [c:Ct ts u k]:Zl ts u k [] (0:Et ts) 0 0:=⟨by rw[jX]; exact E.zero_def.symm,by
  obtain⟨R,tw,_⟩:=c.ex;exact⟨tw.five,.inl rfl,Cb.nil.mono (ans _)⟩⟩
theorem Zl.zu{a:List Rat}{x:Et ts}{w v:Nat}(h:Zl ts u k a x w v):Zu u k x w v:=⟨by
 have h1:=h.nm;have h2:=Cb.sh h1.cb h1.nl;rw[h.eq]at h2;exact⟨h1.five,ek _ _,h2⟩⟩
theorem Zl.at{a:List Rat}{e:Nat}(h:Nm ts.length e a)(he:e<=u):Zl ts u k a (dE ts a) 1 0:=⟨rfl,h.mono oz⟩
theorem Om(c:Ct ts u k){w v m:Nat}(h:w+v<=m):w*u+v*k<=m*1000000:=by
 have h1:w*u<=w*1000000:=ant _ c.ub;have h2:v*k<=v*1000000:=ant _ c.kb;omega
theorem Zl.up(c:Ct ts u k){a:List Rat}{x:Et ts}{w v m:Nat}(h:Zl ts u k a x w v)(hm:w+v<=m):Nm ts.length (m*1000000) a:=h.nm.mono (Om c hm)
theorem Ct.kk(c:Ct ts u k){R:Nat}(h:eB R ts.length<=k):kB R ts.length<=1000000:=an4 h c.kb
def dotE(x y z t:Et ts):Et ts:=x*z+y*t
def crsE(x y z t:Et ts):Et ts:=x*t-y*z
instance Zu.dotE[c:Ct ts u k]{x y z t:Et ts}{w1 v1 w2 v2 w3 v3 w4 v4:Nat}[Zu u k x w1 v1][Zu u k y w2 v2][Zu u k z w3 v3][Zu u k t w4 v4]:Zu u k (dotE x y z t) (w1+w3+(w2+w4)) (v1+v3+1+(v2+v4+1)+1) :=
  (ao7:Zu u k (x*z+y*t) _ _)
instance Zu.crsE[c:Ct ts u k]{x y z t:Et ts}{w1 v1 w2 v2 w3 v3 w4 v4:Nat}[Zu u k x w1 v1][Zu u k y w2 v2][Zu u k z w3 v3][Zu u k t w4 v4]:Zu u k (crsE x y z t) (w1+w4+(w2+w3)) (v1+v4+1+(v2+v3+1)+1) :=
  (ao7:Zu u k (x*t-y*z) _ _)
end
def gw(xs:List Int):List Int:=xs.mergeSort (fun a b=>decide (a<=b))
theorem Gb(xs:List Int):(gw xs).Perm xs:=List.mergeSort_perm _ _
theorem adt(xs:List Int):(gw xs).Pairwise (·<=·):=by
 have h:=List.pairwise_mergeSort (le:=fun a b:Int=>decide (a<=b)) (fun a b c h1 h2=>by simp only[ao0]at *;omega) (fun a b=>by simp only[aos,ao0];omega) xs;exact h.imp (fun h=>ao1 h)
theorem abb{xs ys:List Int}(hp:ys.Perm xs)(hs:ys.Pairwise (·<=·)):ys=gw xs :=
 List.Perm.eq_of_pairwise (le:=fun a b:Int=>a<=b) (fun a b _ _ h1 h2=>by omega) hs (adt xs) (hp.trans (Gb xs).symm)
theorem Qq(xs:List Int):(gw xs).length=xs.length:=(Gb xs).length_eq
theorem EE{xs:List Int}{b:Int}:b∈gw xs↔b∈xs:=(Gb xs).mem_iff
theorem QD(e:Nat)(l:List Nat):gO (e::l)=if e≠0 then e else gO l:=rfl
theorem tQ{α:Type}{f:α->Nat}{L:List α}(h:∀x∈L,f x=0):gO (L.map f)=0:=by
 induction L with
 |nil=>rfl
 |cons x L ih =>
  rw[aow,QD,aoy (by rw[h x (aok ..)];simp)];exact ih (fun y hy=>h y (aom _ hy))
def mT(g:Gr)(j:Jt):Int:=if g.bo.contains j.a=true then(if g.bo.contains j.b=true then -1 else j.b)else j.a
def ja(l:Li)(g:Gr):List Int:=g.jo.map (fun j=>mT g (l.jo.getD j.toNat default))
theorem wQ(l:Li)(g:Gr):(ja l g).length=g.jo.length:=by unfold ja;rw[anl]
theorem Yz{l:Li}(hl:aM l=0){g:Gr}(hg:GrOk l g):∀b∈ja l g,b<l.bo.length:=by
 intro b hb;unfold ja at hb;obtain⟨z,hz,rfl⟩:=al0.1 hb;obtain⟨z0,z1⟩:=hg.j z hz;obtain⟨j,hj⟩:=aB (l:=l.jo) (i:=z.toNat) oz;rw[aw hj];obtain⟨i1,i2,_⟩:=dZ hl hj;have i1:=cS i1;have i2:=cS i2;unfold mT;split
 ·split
  ·omega
  ·omega
 ·omega
def dK(l:Li)(g:Gr)(own:Bool):List Int:=ja l g++(if own=true then g.bo else[])
theorem FO{l:Li}(hl:aM l=0){g:Gr}(hg:GrOk l g){own:Bool}:∀b∈dK l g own,b<l.bo.length:=by
 intro b hb;rcases anz.1 hb with hb |hb
 ·exact Yz hl hg b hb
 ·split at hb
  ·exact(hg.b b hb).2
  ·cases hb
theorem ah9{l:Li}{g:Gr}(hg:GrOk l g){own:Bool}:(dK l g own).length<=5:=by
 unfold dK;have h1:=hg.lb;have h2:=hg.lj;rw[aoe,wQ];split
 ·omega
 ·simp only[aoa];omega
def jP(a:As)(b:Int):Nat:=if b<0 then 0 else bc a.rs (a.bs.getD b.toNat default).l
def mY(l:Li)(k:Int):Gr:=(splitG l).getD k.toNat default
def n6(l:Li)(k:Int)(a:As)(own:Bool):Nat :=
  if splitE l≠0 then splitE l else if k<0\/((splitG l).length:Int)<=k then 9 else if a.bs.length≠l.bo.length then 10 else if bB a.rs≠0 then bB a.rs
  else gO ((gw (dK l (mY l k) own)).map (jP a))
def iZ(l:Li)(k:Int)(a:As)(own:Bool):Nat:=if aM l≠0 then aM l else n6 l k a own
section
variable{l:Li}{k:Int}{a:As}{own:Bool}
theorem wg(h:aM l=0):iZ l k a own=n6 l k a own:=by unfold iZ;rw[aoy oz]
theorem ae7{e:Nat}(he:(if aM l=0 then splitE l else aM l)=e)(h:e≠0):iZ l k a own=e:=by
 by_cases h1:aM l=0
 ·rw[aoz h1]at he;rw[wg h1];unfold n6;rw[aoz oz];exact he
 ·rw[aoy h1]at he;unfold iZ;rw[aoz h1];exact he
theorem L8(h:(if aM l=0 then splitE l else aM l)=0):aM l=0/\splitE l=0:=by
 by_cases h1:aM l=0
 ·rw[aoz h1]at h;exact⟨h1,h⟩
 ·rw[aoy h1]at h;exact ao5 h h1
theorem afn(hs:splitE l=0)(hk:k<0\/((splitG l).length:Int)<=k):n6 l k a own=9:=by unfold n6;rw[aoy oz,aoz hk]
theorem Yb(hs:splitE l=0)(hk:¬(k<0\/((splitG l).length:Int)<=k))(hb:a.bs.length≠l.bo.length):n6 l k a own=10:=by
 unfold n6;rw[aoy oz,aoy hk,aoz hb]
theorem adv(hs:splitE l=0)(hk:¬(k<0\/((splitG l).length:Int)<=k))(hb:a.bs.length=l.bo.length)(hc:bB a.rs≠0):n6 l k a own=bB a.rs:=by
 unfold n6;rw[aoy oz,aoy hk,aoy oz,aoz hc]
theorem Qj(hs:splitE l=0)(hk:¬(k<0\/((splitG l).length:Int)<=k))(hb:a.bs.length=l.bo.length)(hc:bB a.rs=0):n6 l k a own=gO ((gw (dK l (mY l k) own)).map (jP a)):=by
 unfold n6;rw[aoy oz,aoy hk,aoy oz,aoy oz]
end
structure DyOk(E:Nat)(l:Li)(k:Int)(a:As)(own:Bool)(i:Nat)(g:Gr):Prop where
  li:aM l=0
  sp:splitE l=0
  hk:k=(i:Int)
  hg:(splitG l)[i]?=some g
  ok:GrOk l g
  dy:DyK l g
  ln:a.bs.length=l.bo.length
  chk:bB a.rs=0
  nd:∀b∈dK l g own,jP a b=0
  sm:∀b∈dK l g own,0<=b->∀p,a.bs[b.toNat]?=some p->∀x∈p.l,NR x E
def xO(E:Nat)(l:Li)(k:Int)(a:As)(own:Bool):Prop:=∀b∈dK l (mY l k) own,0<=b->∀p,a.bs[b.toNat]?=some p->∀x∈p.l,NR x E
theorem Qr{l:Li}{k:Int}{a:As}{own:Bool}{E:Nat}(hs:xO E l k a own)(h:iZ l k a own=0):∃i g,DyOk E l k a own i g:=by
 unfold iZ at h;split at h
 ·rename_i h1;exact ao5 h h1
 ·rename_i h1;have h1:=anj.1 h1;unfold n6 at h;split at h
  ·rename_i h2;exact ao5 h h2
  ·rename_i h2;split at h
   ·cases h
   ·rename_i h3;split at h
    ·cases h
    ·rename_i h4;split at h
     ·rename_i h5;exact ao5 h h5
     ·rename_i h5;obtain⟨g,hg⟩:=aB (l:=splitG l) (i:=k.toNat) oz;have e:mY l k=g:=aw hg;rw[e]at h;obtain⟨d1,d2⟩:=xq h1 (ank hg);refine⟨k.toNat,g,h1,by omega,by omega,hg,d2,d1,by omega,by omega,fun b hb=>?_,e▸hs⟩;exact tU h _ (al0.2 ⟨b,EE.2 hb,rfl⟩)
theorem DyOk.body{E:Nat}{l:Li}{k:Int}{a:As}{own:Bool}{i:Nat}{g:Gr}(h:DyOk E l k a own i g){b:Int}(hb:b∈dK l g own)(h0:0<=b):∃p,a.bs[b.toNat]?=some p/\bc a.rs p.l=0/\∀x∈p.l,NR x E:=by
 have h1:=FO h.li h.ok b hb;obtain⟨p,hp⟩:=aB (l:=a.bs) (i:=b.toNat) (by have:=h.ln;omega);have h2:=h.nd b hb;unfold jP at h2;rw[aoy oz,aw hp]at h2;exact⟨p,hp,h2,h.sm b hb h0 p hp⟩
theorem TG(n:Nat):50000000000<=lm n:=oT n
theorem I4{k:Int}{n:Nat}(h:cond (aa .lss k 0) true (aa .geq k (n:Int))=true):k<0\/(n:Int)<=k:=by
 by_cases h1:k<0
 ·exact .inl h1
 ·refine .inr ?_;have h2:aa .lss k 0=false:=ao4 h1;rw[h2]at h;exact ao1 (p:=k>=n) h
theorem NB{k:Int}{n:Nat}(h:cond (aa .lss k 0) true (aa .geq k (n:Int))=false):¬(k<0\/(n:Int)<=k):=by
 intro h1
 by_cases h2:k<0
 ·rw[show aa .lss k 0=true from ao3 h2]at h;cases h
 ·rw[show aa .lss k 0=false from ao4 h2]at h;have h3:¬(k>=n):=ao2 h;omega
theorem Lo{k:Int}{n:Nat}(h:¬(k<0\/(n:Int)<=k)):∃i:Nat,k=i/\i<n:=⟨k.toNat,by omega,by omega⟩
theorem E3{a b:Nat}(h:aa .neq (a:Int) (b:Int)=true):a≠b:=by
 have h1:((a:Int) != (b:Int))=true:=h;have h2:=bne_iff_ne.1 h1;omega
theorem FC{a b:Nat}(h:aa .neq (a:Int) (b:Int)=false):a=b:=by
 have h1:((a:Int) != (b:Int))=false:=h;have h2:(a:Int)=b:=by simpa only[bne_eq_false_iff_eq]using h1
 omega
theorem rc{r:(k:Nat)->T k}{n:Nat}(p q:Rat):(qE (p+q):E r n)=qE p+qE q:=T.ofQ_add n p q
theorem ag7{r:(k:Nat)->T k}{n:Nat}(p:Rat):(qE (-p):E r n)=-qE p:=T.ofQ_neg n p
theorem pJ{r:(k:Nat)->T k}{n:Nat}(p q:Rat):(qE (p-q):E r n)=qE p-qE q:=by
 rw[aml,rc,ag7];grind
theorem jS{r:(k:Nat)->T k}{n:Nat}(p q:Rat):(qE (p*q):E r n)=qE p*qE q:=(T.mul_ofQ r n p q).symm
def aE(l:Li)(body pt:Int):Rat×Rat:=(((dw l body).getD pt.toNat default).x.q,((dw l body).getD pt.toNat default).y.q)
abbrev qC(p:Rat×Rat):List AV:=[bl (rt p.1).neg,ws (rt p.1).num,ws (rt p.1).den,bl (rt p.2).neg,ws (rt p.2).num,ws (rt p.2).den]
abbrev qP(p:Rat×Rat):AV:=.agg (qC p)
structure Sm(e:Nat)(p:Rat×Rat):Prop where
  x:Qb e p.1
  y:Qb e p.2
structure MkP(l:Li)(body pt:Int)(n k:Nat)(bd:Bd)(m:Mk):Prop where
  hn:body=n
  hk:pt=k
  gbd:l.bo[n]?=some bd
  gm:bd.pts[k]?=some m
  ex:m.x=rt (aE l body pt).1
  ey:m.y=rt (aE l body pt).2
  sm:Sm 1000 (aE l body pt)
theorem v6{l:Li}(hl:l.ok)(au:aM l=0){body pt:Int}(h1:bT body l.bo.length=true)(h2:bT pt (dw l body).length=true):∃n k bd m,MkP l body pt n k bd m:=by
 obtain⟨bd,g1,g2,g3,g4⟩:=tH h1;rw[g2]at h2;obtain⟨m,g5,g6,g7,g8⟩:=vn h2;have hv:=OM au g1 g5;have ho:=(hl.bo bd g3).pts m g7;have e:aE l body pt=(m.x.q,m.y.q):=by unfold aE;rw[g2,g6]
 exact⟨body.toNat,pt.toNat,bd,m,by omega,by omega,g1,g5,by rw[e];exact Rt.eq_rt ho.x hv.1,by rw[e];exact Rt.eq_rt ho.y hv.2,by rw[e];exact⟨ho.qx.mono oz,ho.qy.mono oz⟩⟩
theorem p6{l:Li}(hl:l.ok)(au:aM l=0){body pt:Int}(h1:bT body l.bo.length=true)(h2:bT pt (dw l body).length=true):Sm 1000 (aE l body pt):=by
 obtain⟨n,k,bd,m,h⟩:=v6 hl au h1 h2;exact h.sm
def bh(l:Li)(a:As)(body pt:Int):Et (llq a.rs)×Et (llq a.rs):=i9 l a body pt
structure PlP(E:Nat)(l:Li)(a:As)(body pt:Int)(n k:Nat)(bd:Bd)(m:Mk)(b:Pl):Prop where
  mp:MkP l body pt n k bd m
  gb:a.bs[n]?=some b
  eq:i9 l a body pt=rU (llq a.rs) b m
  av:b.av=Pq.av ⟨lq b.c,lq b.s,lq b.x,lq b.y⟩
  ok:Pq.ok (llq a.rs).length E ⟨lq b.c,lq b.s,lq b.x,lq b.y⟩
def Pd(E:Nat)(a:As)(body:Int):Prop:=∃p,a.bs[body.toNat]?=some p/\bc a.rs p.l=0/\∀x∈p.l,NR x E
theorem B9{E:Nat}{l:Li}(hl:l.ok)(au:aM l=0){a:As}(al:AB a)(hc:bB a.rs=0){body pt:Int}(h1:bT body l.bo.length=true)(h2:bT pt (dw l body).length=true)(hb:Pd E a body):∃n k bd m b,PlP E l a body pt n k bd m b:=by
 obtain⟨n,k,bd,m,h⟩:=v6 hl au h1 h2;obtain⟨b,gb,hb,Dj⟩:=hb;obtain⟨tw,_⟩:=dg al.tr hc;have h5:a.rs.length<=5:=by have:=tw.five;rwa [D6]at this
 have h9:=IT hb Dj h5;have e:body.toNat=n:=by have:=h.hn;omega
 have e2:pt.toNat=k:=by have:=h.hk;omega
 rw[e]at gb;obtain⟨bd',g1,g2,_,_⟩:=tH h1;rw[e]at g1;have:bd'=bd:=Option.some.inj (g1.symm.trans h.gbd);subst this;refine⟨n,k,bd',m,b,h,gb,?_,h9.1,by rw[D6];exact h9.2⟩;unfold i9;rw[e,e2,aw gb,g2,aw h.gm]
structure DyS(a:As):Prop where
  tr:TR a.rs 132000
  one:bB a.rs=0->(llq a.rs).length<=1
theorem DyS.ct{a:As}(h:DyS a)(hc:bB a.rs=0):Ct (llq a.rs) 310000 132100:=by
 obtain⟨tw,_⟩:=dg h.tr hc;refine⟨⟨132000,tw,?_⟩,by omega,by omega,by omega,by omega⟩;have h1:=kl 132000 (h.one hc);have h2:eB 132000 1=132002:=by simp only[eB]
 omega
theorem rD{l:Li}(hl:l.ok)(au:aM l=0){a:As}(al:AB a)(S:DyS a)(hc:bB a.rs=0){body pt:Int}(h1:bT body l.bo.length=true)(h2:bT pt (dw l body).length=true)(hb:Pd 3900000 a body) :
  Zu 310000 132100 (bh l a body pt).1 40 40/\Zu 310000 132100 (bh l a body pt).2 40 40:=by
 obtain⟨n,k,bd,m,b,hp⟩:=B9 hl au al hc h1 h2 hb;obtain⟨tw,_⟩:=dg S.tr hc
 have kb:kB 132000 (llq a.rs).length<=132100:=by
  have h1:=kl 132000 (S.one hc);have h2:eB 132000 1=132002:=by simp only[eB]
  show eB 132000 _<=_;omega
 have qx:Qb 1000 m.x.q:=by rw[hp.mp.ex,b7];exact hp.mp.sm.x
 have qy:Qb 1000 m.y.q:=by rw[hp.mp.ey,b7];exact hp.mp.sm.y
 have h:=Hj tw hp.ok qx qy;unfold bh;rw[hp.eq];exact⟨⟨h.1.mono oz⟩,⟨h.2.mono oz⟩⟩
theorem vr{rs:List (List Rt)}{r:Nat}(h:TR rs r)(hc:bB rs=0):aZ (llq rs)=.agg [.lst 1 (rs.map nR)]:=(dg h hc).2.symm
theorem ahj{x y:Option Blk}{k:Nat}{z:Blk}(h:lk [(1000,x),(1001,y)] k=some z):1000<=k:=by
 rw[a5]at h;split at h
 ·omega
 ·rw[a5]at h;split at h
  ·omega
  ·cases h
theorem qH{s:AS}{k k':Nat}{x y:Blk}(h:lk s.hp k=some x)(h':lk s.hp k'=some y):∀q z,lk [(k,some x),(k',some y)] q=some z->lk s.hp q=some z:=by
 intro q z hz;rw[a5]at hz;split at hz
 ·rename_i e;cases hz;rw[e];exact h
 ·rw[a5]at hz;split at hz
  ·rename_i e;cases hz;rw[e];exact h'
  ·cases hz
def bS(p q:Rat×Rat):Rat×Rat:=(p.1-q.1,p.2-q.2)
def cf(p q:Rat×Rat):Rat:=p.1*q.1+p.2*q.2
def vc(p q:Rat×Rat):Rat:=p.1*q.2-p.2*q.1
theorem Sm.sub{e f:Nat}{p q:Rat×Rat}(hp:Sm e p)(hq:Sm f q):Sm (e+f+1) (bS p q):=⟨hp.x.sub hq.x,hp.y.sub hq.y⟩
theorem Sm.dot{e f:Nat}{p q:Rat×Rat}(hp:Sm e p)(hq:Sm f q):Qb (e+f+(e+f)+1) (cf p q):=(hp.x.mul hq.x).add (hp.y.mul hq.y)
theorem Sm.cross{e f:Nat}{p q:Rat×Rat}(hp:Sm e p)(hq:Sm f q):Qb (e+f+(e+f)+1) (vc p q):=(hp.x.mul hq.y).sub (hp.y.mul hq.x)
theorem Sm.mono{e f:Nat}{p:Rat×Rat}(hp:Sm e p)(h:e<=f):Sm f p:=⟨hp.x.mono h,hp.y.mono h⟩
theorem y9{q:Rat}{e w:Nat}(h:Qb e q)(he:e<=w*310000):Qz 310000 q w:=⟨(Cb.one h).mono he⟩
def ak(l:Li)(j:Jt)(b:Int):Rat×Rat:=if j.a=b then aE l b j.point else aE l b j.on
def aH(l:Li)(a:As)(j:Jt)(b:Int):Et (llq a.rs)×Et (llq a.rs):=if j.a=b then bh l a j.b j.on else bh l a j.a j.point
structure PinP(E:Nat)(l:Li)(a:As)(j:Jt)(b:Int):Prop where
  tie:(j.a=b/\Pd E a j.b)\/(j.a≠b/\j.b=b/\Pd E a j.a)
theorem PinP.or{E:Nat}{l:Li}{a:As}{j:Jt}{b:Int}(h:PinP E l a j b):j.a=b\/j.b=b:=by
 rcases h.tie with h9 |h9
 ·exact .inl h9.1
 ·exact .inr h9.2.1
theorem re{l:Li}(hl:l.ok)(au:aM l=0){a:As}(al:AB a)(S:DyS a)(hc:bB a.rs=0){i:Nat}{j:Jt}(hj:l.jo[i]?=some j){b:Int}(h:PinP 3900000 l a j b) :
  Zu 310000 132100 (aH l a j b).1 40 40/\Zu 310000 132100 (aH l a j b).2 40 40:=by
 obtain⟨i1,i2,i3,i4,_⟩:=dZ au hj;unfold aH;rcases h.tie with⟨e,hb⟩ |⟨e,e2,hb⟩
 ·rw[aoz e];exact rD hl au al S hc i2 i4 hb
 ·rw[aoy e];exact rD hl au al S hc i1 i3 hb
theorem kO{l:Li}(hl:l.ok)(au:aM l=0){i:Nat}{j:Jt}(hj:l.jo[i]?=some j){b:Int}(h:j.a=b\/j.b=b):Sm 1000 (ak l j b):=by
 obtain⟨i1,i2,i3,i4,_⟩:=dZ au hj;unfold ak
 by_cases e:j.a=b
 ·rw[aoz e];subst e;exact p6 hl au i1 i3
 ·rw[aoy e];rcases h with h |h
  ·exact ao5 h e
  ·subst h;exact p6 hl au i2 i4
theorem UT{bs:List Int}{b:Int}(h:b∈bs):bs.contains b=true:=alf.2 h
theorem LX{bs:List Int}{b:Int}(h:b∉bs):bs.contains b=false:=by
 cases hc:bs.contains b with
 |false=>rfl
 |true=>exact ao5 (alf.1 hc) h
theorem DyOk.ancs{E:Nat}{l:Li}{k:Int}{a:As}{own:Bool}{n:Nat}{g:Gr}(h:DyOk E l k a own n g){z b:Int}{j:Jt}(hz:z∈g.jo)(hj:l.jo[z.toNat]?=some j)(hb:mT g j=b)(h0:0<=b):Pd E a b:=by
 refine h.body ?_ h0;unfold dK ja;refine List.mem_append_left _ (al0.2 ⟨z,hz,?_⟩);rw[aw hj];exact hb
theorem DyOk.pin{E:Nat}{l:Li}{k:Int}{a:As}{own:Bool}{n:Nat}{g:Gr}(h:DyOk E l k a own n g){kd z b:Int}{j:Jt}{bs:List Int}(dV:g.bo=bs)(t:TieO l kd bs z b j)(hz:z∈g.jo)(hb:b∈bs):PinP E l a j b:=by
 subst dV;obtain⟨i1,i2,_⟩:=dZ h.li t.hj;have i1:=cS i1;have i2:=cS i2;rcases t.tie with⟨e,hn⟩ |⟨e,hn⟩
 ·refine⟨.inl ⟨e,h.ancs hz t.hj ?_ i2.1⟩⟩;unfold mT;rw[aoz (UT (e▸hb)),aoy (by rw[LX hn];simp)]
 ·refine⟨.inr ⟨fun e2=>hn (e2▸hb),e,h.ancs hz t.hj ?_ i1.1⟩⟩;unfold mT;rw[aoy (by rw[LX hn];simp)]
theorem DyOk.own{E:Nat}{l:Li}{k:Int}{a:As}{n:Nat}{g:Gr}(h:DyOk E l k a true n g){b:Int}(hb:b∈g.bo):Pd E a b:=by
 refine h.body ?_ (h.ok.b b hb).1;unfold dK;rw[aoz rfl];exact List.mem_append_right _ hb
structure RrrP(E:Nat)(l:Li)(a:As)(g:Gr)(i k z0 z1 z2:Int)(j0 j1 j2:Jt):Prop where
  eq:g=⟨1,[i,k],[z0,z1,z2],0⟩
  h0:l.jo[z0.toNat]?=some j0
  h1:l.jo[z1.toNat]?=some j1
  h2:l.jo[z2.toNat]?=some j2
  p0:PinP E l a j0 i
  p1:PinP E l a j1 k
  t1:j2.a=i\/j2.b=i
  t2:j2.a=k\/j2.b=k
structure SlP(E:Nat)(l:Li)(a:As)(g:Gr)(kd i z0 z1:Int)(j0 j:Jt):Prop where
  eq:g=⟨kd,[i],[z0,z1],0⟩
  h0:l.jo[z0.toNat]?=some j0
  h1:l.jo[z1.toNat]?=some j
  p0:PinP E l a j0 i
  p1:PinP E l a j i
  hk:j.kind≠0
theorem DyOk.rrr{E:Nat}{l:Li}{k:Int}{a:As}{own:Bool}{n:Nat}{g:Gr}(h:DyOk E l k a own n g)(hk:g.kind=1):∃i k z0 z1 z2 j0 j1 j2,RrrP E l a g i k z0 z1 z2 j0 j1 j2:=by
 have hd:=h.dy;cases hd with
 |drv _ _ _ _=>exact ao5 hk (by simp)
 |pr _ _ _=>exact ao5 hk (by simp)
 |rp _ _ _=>exact ao5 hk (by simp)
 | @rrr i k z0 z1 z2 j0 j1 j2 ne t0 t1 h0 h2 kd tie =>
  refine⟨i,k,z0,z1,z2,j0,j1,j2,rfl,t0.hj,t1.hj,h2,h.pin rfl t0 (by simp) (by simp),h.pin rfl t1 (by simp) (by simp),?_,?_⟩
  ·rcases tie with h9 |h9
   ·exact .inl h9.1
   ·exact .inr h9.1
  ·rcases tie with h9 |h9
   ·exact .inr h9.2
   ·exact .inl h9.2
theorem DyOk.pr{E:Nat}{l:Li}{k:Int}{a:As}{own:Bool}{n:Nat}{g:Gr}(h:DyOk E l k a own n g)(hk:g.kind=2):∃i z0 z1 j0 j,SlP E l a g 2 i z0 z1 j0 j/\j.a=i/\Pd E a j.b:=by
 have hd:=h.dy;cases hd with
 |drv _ _ _ _=>exact ao5 hk (by simp)
 |rrr _ _ _ _ _ _ _=>exact ao5 hk (by simp)
 |rp _ _ _=>exact ao5 hk (by simp)
 | @pr i z0 z1 j0 j1 t0 t1 ha =>
  have p1:PinP E l a j1 i:=h.pin rfl t1 (by simp) (by simp);refine⟨i,z0,z1,j0,j1,⟨rfl,t0.hj,t1.hj,h.pin rfl t0 (by simp) (by simp),p1,by rw[t1.kd];decide⟩,ha,?_⟩;rcases p1.tie with h9 |h9
  ·exact h9.2
  ·exact ao5 ha h9.1
theorem DyOk.rp{E:Nat}{l:Li}{k:Int}{a:As}{own:Bool}{n:Nat}{g:Gr}(h:DyOk E l k a own n g)(h0:g.kind≠0)(h1:g.kind≠1)(h2:g.kind≠2):∃i z0 z1 j0 j,SlP E l a g 3 i z0 z1 j0 j/\j.a≠i/\j.b=i/\Pd E a j.a:=by
 have hd:=h.dy;cases hd with
 |drv _ _ _ _=>exact ao5 rfl h0
 |rrr _ _ _ _ _ _ _=>exact ao5 rfl h1
 |pr _ _ _=>exact ao5 rfl h2
 | @rp i z0 z1 j0 j1 t0 t1 ha =>
  have p1:PinP E l a j1 i:=h.pin rfl t1 (by simp) (by simp);refine⟨i,z0,z1,j0,j1,⟨rfl,t0.hj,t1.hj,h.pin rfl t0 (by simp) (by simp),p1,by rw[t1.kd];decide⟩,ha,?_⟩;rcases p1.tie with h9 |h9
  ·exact ao5 h9.1 ha
  ·exact⟨h9.2.1,h9.2.2⟩
theorem ah4{ts:LL}{r e f:Nat}(tw:Tw ts r){b:Pl}{q:Rat×Rat}(hb:Pq.ok ts.length e ⟨lq b.c,lq b.s,lq b.x,lq b.y⟩)(hq:Sm f q) :
  Nm ts.length (3*e+2*f+2*kB r ts.length+10) (sh ts.length (vo ts (kZ ts b.c) (kZ ts b.s) (kZ ts b.x) q.1 q.2))/\Nm ts.length (3*e+2*f+2*kB r ts.length+10) (sh ts.length (wW ts (kZ ts b.c) (kZ ts b.s) (kZ ts b.y) q.1 q.2)):=by
 have nx:=Nm.ofQ tw.five (Cb.one hq.x);have ny:=Nm.ofQ tw.five (Cb.one hq.y);have h1:=(wR tw hb.c hb.s nx ny).add hb.x;rw[xI]at h1;have h2:=(vR tw hb.c hb.s nx ny).add hb.y;rw[yw]at h2;exact⟨h1.mono oz,h2.mono oz⟩
def bq(c p:Rat×Rat):Rat:=cf (bS c p) (bS c p)
theorem Xb{e f:Nat}{c p:Rat×Rat}(hc:Sm e c)(hp:Sm f p):Qb (e+f+1+(e+f+1)+(e+f+1+(e+f+1))+1) (bq c p):=(hc.sub hp).dot (hc.sub hp)
def aj(l:Li)(g:Gr)(n:Nat):Jt:=l.jo.getD (g.jo.getD n 0).toNat default
def ay(g:Gr)(n:Nat):Int:=g.bo.getD n 0
section
variable(l:Li)(a:As)
def cP(i:Int)(j:Jt):Rat×Rat:=bS (aE l i j.to) (aE l i j.on)
def cB(i:Int)(j0 j:Jt):Rat:=vc (cP l i j) (bS (aE l i j.on) (ak l j0 i))
def jY(i:Int)(j:Jt):Rat:=cf (cP l i j) (cP l i j)
def aO{ts:LL}(p q:Et ts×Et ts):Et ts×Et ts:=(p.1-q.1,p.2-q.2)
def db{ts:LL}(p q:Et ts×Et ts):Et ts:=dotE p.1 p.2 q.1 q.2
def k9{ts:LL}(p q:Et ts×Et ts):Et ts:=crsE p.1 p.2 q.1 q.2
def cE(i:Int)(j0 j:Jt):Et (llq a.rs)×Et (llq a.rs):=aO (bh l a j.a j.point) (aH l a j0 i)
def cH(i:Int)(j0 j:Jt):Et (llq a.rs):=db (cE l a i j0 j) (cE l a i j0 j)
def se(g:Gr):Et (llq a.rs) :=
  if g.kind=0 then qE 1
  else if g.kind=1 then
    qE 4*(qE (bq (ak l (aj l g 2) (ay g 0)) (ak l (aj l g 0) (ay g 0)))*db (aO (aH l a (aj l g 0) (ay g 0)) (aH l a (aj l g 1) (ay g 1))) (aO (aH l a (aj l g 0) (ay g 0)) (aH l a (aj l g 1) (ay g 1))))
      - ((qE (bq (ak l (aj l g 2) (ay g 0)) (ak l (aj l g 0) (ay g 0)))+db (aO (aH l a (aj l g 0) (ay g 0)) (aH l a (aj l g 1) (ay g 1))) (aO (aH l a (aj l g 0) (ay g 0)) (aH l a (aj l g 1) (ay g 1))))-qE (bq (ak l (aj l g 2) (ay g 1)) (ak l (aj l g 1) (ay g 1))))
        * ((qE (bq (ak l (aj l g 2) (ay g 0)) (ak l (aj l g 0) (ay g 0)))+db (aO (aH l a (aj l g 0) (ay g 0)) (aH l a (aj l g 1) (ay g 1))) (aO (aH l a (aj l g 0) (ay g 0)) (aH l a (aj l g 1) (ay g 1))))-qE (bq (ak l (aj l g 2) (ay g 1)) (ak l (aj l g 1) (ay g 1))))
  else if g.kind=2 then
    db (aO (bh l a (aj l g 1).b (aj l g 1).to) (bh l a (aj l g 1).b (aj l g 1).on)) (aO (bh l a (aj l g 1).b (aj l g 1).to) (bh l a (aj l g 1).b (aj l g 1).on))*qE (bq (aE l (ay g 0) (aj l g 1).point) (ak l (aj l g 0) (ay g 0)))
      - k9 (aO (bh l a (aj l g 1).b (aj l g 1).to) (bh l a (aj l g 1).b (aj l g 1).on)) (aO (aH l a (aj l g 0) (ay g 0)) (bh l a (aj l g 1).b (aj l g 1).on))
        * k9 (aO (bh l a (aj l g 1).b (aj l g 1).to) (bh l a (aj l g 1).b (aj l g 1).on)) (aO (aH l a (aj l g 0) (ay g 0)) (bh l a (aj l g 1).b (aj l g 1).on))
  else qE (jY l (ay g 0) (aj l g 1))*cH l a (ay g 0) (aj l g 0) (aj l g 1)-qE (cB l (ay g 0) (aj l g 0) (aj l g 1))*qE (cB l (ay g 0) (aj l g 0) (aj l g 1))
end
section
variable{E:Nat}{l:Li}{a:As}{g:Gr}
theorem RrrP.at{i k z0 z1 z2:Int}{j0 j1 j2:Jt}(h:RrrP E l a g i k z0 z1 z2 j0 j1 j2):aj l g 0=j0/\aj l g 1=j1/\aj l g 2=j2/\ay g 0=i/\ay g 1=k/\g.kind=1:=by
 rw[h.eq];exact⟨aw h.h0,aw h.h1,aw h.h2,rfl,rfl,rfl⟩
theorem SlP.at{kd i z0 z1:Int}{j0 j:Jt}(h:SlP E l a g kd i z0 z1 j0 j):aj l g 0=j0/\aj l g 1=j/\ay g 0=i/\g.kind=kd:=by
 rw[h.eq];exact⟨aw h.h0,aw h.h1,rfl,rfl⟩
end
section
variable{ts:LL}
def aC(p q:Et ts×Et ts):Et ts:=db (aO p q) (aO p q)
theorem yB(q:Rat):ao (qE q:Et ts)=b9 q:=T.sgn_ofQ _ _ q
theorem pN(x:Rat):0<=x*x:=by
 rcases(Rat.le_total:0<=x\/x<=0)with h |h
 ·exact Rat.mul_nonneg h h
 ·have h1:0<=-x:=by grind
  have h2:=Rat.mul_nonneg h1 h1;grind
theorem X5(p q:Rat×Rat):0<=bq p q:=by
 unfold bq cf bS;have h1:=pN (p.1-q.1);have h2:=pN (p.2-q.2);dsimp only;grind
theorem Ex(p q:Rat×Rat):0<=ao (qE (bq p q):Et ts):=by
 rw[yB];have h:=X5 p q;unfold b9;split
 ·grind
 ·split <;> omega
def bC(p:Et ts×Et ts)(r:Et ts)(q:Et ts×Et ts)(s:Et ts):Et ts:=qE 4*(r*aC p q)-((r+aC p q)-s)*((r+aC p q)-s)
end
section
variable{E:Nat}{l:Li}{a:As}{g:Gr}
end
theorem DyOk.ne{E:Nat}{l:Li}{k:Int}{a:As}{own:Bool}{n:Nat}{i k2 z0 z1 z2:Int}(h:DyOk E l k a own n ⟨1,[i,k2],[z0,z1,z2],0⟩):i≠k2:=by
 have hd:=h.dy;generalize hg:(⟨1,[i,k2],[z0,z1,z2],0⟩:Gr)=g at hd;cases hd with
 |drv _ _ _ _=>simp at hg
 |pr _ _ _=>simp at hg
 |rp _ _ _=>simp at hg
 |rrr ne _ _ _ _ _ _=>simp at hg;obtain⟨⟨rfl,rfl⟩,_⟩:=hg;exact ne
structure Bulk{H:Type}(bk:DataW H->Nat)(bka:List (DataW H)->Nat):Prop where
  one:∀d,1<=bk d
  nil:bka []=0
  cons:∀d l,bka (d::l)=bk d+bka l
  slice:∀e s,bka e+1<=bk (.slice e s)
  agg:∀l,bka l<=bk (.agg l)
section
variable{P:apb}{W:apc}{H:Type}{enc:apa×ao9->H}{bk:DataW H->Nat}{bka:List (DataW H)->Nat}
theorem Bulk.pick(B:Bulk bk bka){α:Type}{m:α->Nat}:∀{l:List α}{xs:List (DataW H)},l.length<=xs.length->(∀(i:Nat)(a:α),l[i]?=some a->∃x,xs[i]?=some x/\m a<=bk x)->(l.map m).sum<=bka xs
 |[],xs,_,_=>by simp
 |a::l,[],hl,_=>by simp at hl
 |a::l,x::xs,hl,h=>by
  obtain⟨y,hy,h1⟩:=h 0 a rfl;cases hy;have h2:=B.pick (l:=l) (xs:=xs) (by simpa using hl) (fun i b hb=>h (i+1) b hb);rw[B.cons,aow,List.sum_cons];omega
def xz(P:apb)(W:apc)(enc:apa×ao9->H)(bk:DataW H->Nat)(t:apa){α:Type}(f:α->AV)(p:α->Prop)(m:α->Nat):Prop :=
  ∀(sp:Nat->Bool)(fuel:Nat)(cs:List ao9)(x:DataW H×List MemPlace),DataW.trod enc P W 0 sp true fuel t cs=some x->(∀n∈x.1.weights P t,n<=reachBytes)->∃a,p a/\sk W cs (f a).cells/\m a<=bk x.1
theorem d9.m{t:apa}{α:Type}{f:α->AV}{p:α->Prop}(h:d9 P W enc t f p):xz P W enc bk t f p (fun _=>0):=by
 intro sp fuel cs x hx hw;obtain⟨a,h1,h2⟩:=h sp fuel cs x hx hw;exact⟨a,h1,h2,ans _⟩
theorem d9.m1(B:Bulk bk bka){t:apa}{α:Type}{f:α->AV}{p:α->Prop}(h:d9 P W enc t f p):xz P W enc bk t f p (fun _=>1):=by
 intro sp fuel cs x hx hw;obtain⟨a,h1,h2⟩:=h sp fuel cs x hx hw;exact⟨a,h1,h2,B.one _⟩
theorem xz.map{α β:Type}{t:apa}{f:α->AV}{p:α->Prop}{m:α->Nat}(h:xz P W enc bk t f p m)(g:α->β)(f':β->AV)(p':β->Prop)(m':β->Nat)(hg:∀a,p a->p' (g a)/\f' (g a)=f a/\m' (g a)<=m a):xz P W enc bk t f' p' m':=by
 intro sp fuel cs x hx eU;obtain⟨a,ha,hc,hm⟩:=h sp fuel cs x hx eU;obtain⟨h1,h2,h3⟩:=hg a ha;exact⟨g a,h1,by rw[h2];exact hc,an4 h3 hm⟩
end
open Go.Proofs
section
variable{W:apc}{H:Type}{enc:apa×ao9->H}
theorem Z1:d9 prog W enc 354 (fun n:Nat=>u32 n) (fun n=>n<4294967296) :=
 (MD (k:=.u32) Tryz.underlying354).map Int.toNat _ _ (fun n h=>by
  have h1:0<=n/\n<=4294967295:=by simpa[Lit.wf,IntKind.min,IntKind.max,IntKind.signed,IntKind.bits]using h
  have h2:((n.toNat:Nat):Int)=n:=by omega
  exact⟨by omega,by unfold u32;rw[h2]⟩)
theorem NT:d9 prog W enc 104 ws (fun l=>Ws l/\l.length<=281474976710656) :=
 (wm Tryz.underlying104 (n:=1) (by kernel_rfl) oz (by kernel_rfl) Z1 (fun _=>rfl)).map id _ _ (fun l h=>⟨⟨fun x hx=>h.1 x hx,h.2⟩,rfl⟩)
theorem N1:d9 prog W enc 4 bl (fun _=>True):=ahu Tryz.underlying4
theorem uh:d9 prog W enc 3 i64 (fun _=>True):=(MD (k:=.i64) Tryz.underlying3).map id _ _ (fun n h=>⟨trivial,rfl⟩)
theorem xS:d9 prog W enc 9 (fun s:ByteArray=>AV.v (.string s)) (fun s=>s.size<=281474976710656):=Wi Tryz.underlying9
theorem yc:d9 prog W enc 106 Rt.av Rt.wok :=
 (pK (n:=3) Tryz.underlying106 (by kernel_rfl)
  (.cons rfl (n:=1) (by kernel_rfl) N1 (fun _=>rfl) (.cons rfl (n:=1) (by kernel_rfl) NT (fun _=>rfl) (.cons rfl (n:=1) (by kernel_rfl) NT (fun _=>rfl) (.nil _)))) (fun _=>rfl)).map
  (fun z=>⟨z.1,z.2.1,z.2.2.1⟩) _ _ (fun z h=>⟨⟨h.2.1.1,h.2.2.1.1⟩,rfl⟩)
theorem U8:d9 prog W enc 115 Tn.av (fun x=>x.t.wok) :=
 (pK (n:=4) Tryz.underlying115 (by kernel_rfl) (.cons rfl (n:=3) (by kernel_rfl) yc (fun _=>rfl) (.cons rfl (n:=1) (by kernel_rfl) N1 (fun _=>rfl) (.nil _))) (fun _=>rfl)).map
  (fun z=>⟨z.1,z.2.1⟩) _ _ (fun z h=>⟨h.1,rfl⟩)
theorem aa6:d9 prog W enc 141 Mk.av (fun m=>m.name.size<=281474976710656/\m.x.wok/\m.y.wok) :=
 (pK (n:=7) Tryz.underlying141 (by kernel_rfl)
  (.cons rfl (n:=1) (by kernel_rfl) xS (fun _=>rfl) (.cons rfl (n:=3) (by kernel_rfl) yc (fun _=>rfl) (.cons rfl (n:=3) (by kernel_rfl) yc (fun _=>rfl) (.nil _)))) (fun _=>rfl)).map
  (fun z=>⟨z.1,z.2.1,z.2.2.1⟩) _ _ (fun z h=>⟨⟨h.1,h.2.1,h.2.2.1⟩,rfl⟩)
theorem aie:d9 prog W enc 139 Bd.av (fun b=>b.name.size<=281474976710656/\b.pts.length<=281474976710656/\∀m∈b.pts,m.name.size<=281474976710656/\m.x.wok/\m.y.wok) :=
 (pK (n:=2) Tryz.underlying139 (by kernel_rfl)
  (.cons rfl (n:=1) (by kernel_rfl) xS (fun _=>rfl) (.cons rfl (n:=1) (by kernel_rfl) (wm Tryz.underlying137 (n:=7) (by kernel_rfl) oz (by kernel_rfl) aa6 (fun _=>rfl)) (fun _=>rfl) (.nil _))) (fun _=>rfl)).map
  (fun z=>⟨z.1,z.2.1⟩) _ _ (fun z h=>⟨⟨h.1,h.2.1.2,h.2.1.1⟩,rfl⟩)
theorem ag1:d9 prog W enc 135 Jt.av (fun j=>j.name.size<=281474976710656) :=
 (pK (n:=7) Tryz.underlying135 (by kernel_rfl)
  (.cons rfl (n:=1) (by kernel_rfl) xS (fun _=>rfl) (.cons rfl (n:=1) (by kernel_rfl) uh (fun _=>rfl) (.cons rfl (n:=1) (by kernel_rfl) uh (fun _=>rfl) (.cons rfl (n:=1) (by kernel_rfl) uh (fun _=>rfl)
   (.cons rfl (n:=1) (by kernel_rfl) uh (fun _=>rfl) (.cons rfl (n:=1) (by kernel_rfl) uh (fun _=>rfl) (.cons rfl (n:=1) (by kernel_rfl) uh (fun _=>rfl) (.nil _)))))))) (fun _=>rfl)).map
  (fun z=>⟨z.1,z.2.1,z.2.2.1,z.2.2.2.1,z.2.2.2.2.1,z.2.2.2.2.2.1,z.2.2.2.2.2.2.1⟩) _ _ (fun z h=>⟨h.1,rfl⟩)
theorem XB:d9 prog W enc 151 Dr.av (fun d=>d.name.size<=281474976710656) :=
 (pK (n:=2) Tryz.underlying151 (by kernel_rfl) (.cons rfl (n:=1) (by kernel_rfl) xS (fun _=>rfl) (.cons rfl (n:=1) (by kernel_rfl) uh (fun _=>rfl) (.nil _))) (fun _=>rfl)).map
  (fun z=>⟨z.1,z.2.1⟩) _ _ (fun z h=>⟨h.1,rfl⟩)
abbrev liG(l:Li):List AV:=[.v (.string l.name),.lst 2 (l.bo.map Bd.av),.lst 7 (l.jo.map Jt.av),.lst 2 (l.dv.map Dr.av)]
theorem afe:d9 prog W enc 26 (fun l:Li=>.agg (liG l)) Li.okw :=
 (pK (n:=4) Tryz.underlying26 (by kernel_rfl)
  (.cons rfl (n:=1) (by kernel_rfl) xS (fun _=>rfl)
   (.cons rfl (n:=1) (by kernel_rfl) (wm Tryz.underlying22 (n:=2) (by kernel_rfl) oz (by kernel_rfl) aie (fun _=>rfl)) (fun _=>rfl)
    (.cons rfl (n:=1) (by kernel_rfl) (wm Tryz.underlying23 (n:=7) (by kernel_rfl) oz (by kernel_rfl) ag1 (fun _=>rfl)) (fun _=>rfl)
     (.cons rfl (n:=1) (by kernel_rfl) (wm Tryz.underlying24 (n:=2) (by kernel_rfl) oz (by kernel_rfl) XB (fun _=>rfl)) (fun _=>rfl) (.nil _))))) (fun _=>rfl)).map
  (fun z=>⟨z.1,z.2.1,z.2.2.1,z.2.2.2.1⟩) _ _ (fun z h=>⟨⟨h.1,h.2.1.1,h.2.2.1.1,h.2.2.2.1.1,h.2.1.2,h.2.2.1.2,h.2.2.2.1.2⟩,rfl⟩)
theorem ZF:d9 prog W enc 124 Plc.av (fun x=>x.x.wok/\x.y.wok) :=
 (pK (n:=6) Tryz.underlying124 (by kernel_rfl) (.cons rfl (n:=3) (by kernel_rfl) yc (fun _=>rfl) (.cons rfl (n:=3) (by kernel_rfl) yc (fun _=>rfl) (.nil _))) (fun _=>rfl)).map
  (fun z=>⟨z.1,z.2.1⟩) _ _ (fun z h=>⟨⟨h.1,h.2.1⟩,rfl⟩)
theorem acb:d9 prog W enc 126 Pse.av Pse.wok :=
 (pK (n:=10) Tryz.underlying126 (by kernel_rfl) (.cons rfl (n:=4) (by kernel_rfl) U8 (fun _=>rfl) (.cons rfl (n:=6) (by kernel_rfl) ZF (fun _=>rfl) (.nil _))) (fun _=>rfl)).map
  (fun z=>⟨z.1,z.2.1⟩) _ _ (fun z h=>⟨⟨h.1,h.2.1.1,h.2.1.2⟩,rfl⟩)
theorem Zt:d9 prog W enc 27 (fun l:List Pse=>.lst 10 (l.map Pse.av)) (fun l=>(∀x∈l,x.wok)/\l.length<=281474976710656) :=
 wm Tryz.underlying27 (n:=10) (by kernel_rfl) oz (by kernel_rfl) acb (fun _=>rfl)
abbrev TM(z:Li×List Pse):List AV:=[.v (.string z.1.name),.lst 2 (z.1.bo.map Bd.av),.lst 7 (z.1.jo.map Jt.av),.lst 2 (z.1.dv.map Dr.av),.lst 10 (z.2.map Pse.av)]
theorem TN:d9 prog W enc 29 (fun z:Li×List Pse=>.agg (TM z)) (fun z=>z.1.okw/\(∀p∈z.2,p.wok)/\z.2.length<=281474976710656) :=
 (pK (n:=5) Tryz.underlying29 (by kernel_rfl) (.cons rfl (n:=4) (by kernel_rfl) afe (fun _=>rfl) (.cons rfl (n:=1) (by kernel_rfl) Zt (fun _=>rfl) (.nil _))) (fun _=>rfl)).map
  (fun z=>⟨z.1,z.2.1⟩) _ _ (fun z h=>⟨⟨h.1,h.2.1.1,h.2.1.2⟩,rfl⟩)
end
open Go.Proofs Go.Proofs.YtokaoegjfpjjnaaGreat
open Go.ChangeShapes Go.WideShapes Go.ChangeAt Go.RowKit
theorem own:ownKnob prog.godebug=none:=by kernel_rfl
theorem Lg:laidOutB prog=true:=by kernel_rfl
theorem YA:prog.stopsHeard=true:=by kernel_rfl
theorem abz:prog.plainKeys=true:=by kernel_rfl
theorem SB:mapsRowed prog=true:=by kernel_rfl
theorem Wm:prog.mayEnter=true:=by kernel_rfl
theorem UP:prog.liftsFinal=false:=by kernel_rfl
theorem Xc{H:Type}{enc:apa×ao9->H}{W W':apc}{t:apa}{v:ao9}{d:DataW H}{ps:List MemPlace}{sp':Nat->Bool}(hr:prog.readableRec t=true)(ht:t<prog.types.size)
  (h:DataW.Trod enc prog W 0 (fun _=>true) true t v d ps) (hb:Below W.heap.size W W') (hlt:∀x∈ps,x.block<W.heap.size) (hs:∀p∈ps,sp' p.block=true):DataW.Trod enc prog W' 0 sp' true t v d ps :=
 WideElems.Trod_stays Lg hr ht h (fun x hx=>hb.same (hlt x hx)) hs
theorem NC(m:List Nat)(hm:Ws m)(hl:m.length<=iK):FP 305 [ws m] (bl (!decide (m=[])&&(⟨false,m⟩:Wh).valid)):=by
 refine am func305 ?_;refine gl ?_;refine cV ?_;refine uk (fun h=>(mL (by simp[aa]at h;omega) (by unfold iK at hl;unfold bb;exact an4 hl oz))) ?_;refine oM (fun h=>(cU (i:=m.length-1) (by simp[aa]at h;omega))) ?_;refine ai ?_
 by_cases h:m=[]
 ·subst h;rfl
 ·have h1:0<m.length:=ale.2 h;have h2:aa .gtr (m.length:Int) 0=true:=by simp[aa,h1]
  simp only[bl,h,decide_false,Bool.not_false,amt,Wh.valid,aly,ni (show m.length-1<m.length by omega),aa];congr 2;generalize an m _=x;rw[amu];simp[h1]
theorem Fq:FP 142 [] (zA 1):=by
 refine am func142 ?_;refine gc (LU 1 oz) ?_;refine ai ?_
 first |rfl |(simp;done)
theorem tP(r:Rt)(h:r.ok):FP 177 [r.av] (bl r.valid):=by
 have hr:=h;have hn:=h.n0;have hd:=h.d0;have s6:r.num.length<=137438953472:=h.2.2.1;have uL:r.den.length<=137438953472:=h.2.2.2;refine am func177 ?_;refine gl ?_;refine cV ?_;refine gC (fun t12=>?_) (fun t12=>?_)
 ·have h0:r.num=[]/\r.den=[]:=by simpa[aa] using t12
  refine ai ?_;unfold Rt.valid;rw[aoz h0];rfl
 have h0:¬(r.num=[]/\r.den=[]):=by
  have:=t12;simp[aa]at this;exact fun h=>this h.1 h.2
 refine gc (NC r.num hr.1 hr.2.2.1) ?_;refine cm (fun _=>(NC r.den hr.2.1 hr.2.2.2)) ?_;refine cm (fun _=>(Mn r.n0 r.d0 hn hd (by show r.num.length+r.den.length<_;unfold aJ;omega))) ?_;refine cm (fun _=>Fq) ?_;refine cm (fun _=>(aak (Rt.gcd_zs hr) Cz)) ?_;refine ai ?_;exact ao6 bl (Tx h0).symm
theorem sC(r:Rt)(h:r.ok):FP 284 [r.av] (.tup [zA r.q.num,zA r.q.den]):=by
 have s6:r.num.length<=137438953472:=h.2.2.1;have uL:r.den.length<=137438953472:=h.2.2.2;refine am func284 ?_;refine gc (tP r h) ?_;refine cV ?_;refine gC (fun t12=>?_) (fun t12=>?_)
 ·have h0:¬(r.valid=true/\r.num≠[]):=by
   have:=t12;intro h';simp[aa,h'.1,h'.2]at this
  refine gc Fq ?_;refine gR ?_;exact fa (by rw[Rt.zero h0];exact Sub.tup (.cons JM (.cons (.refl _) .nil)))
 have h0:r.valid=true/\r.num≠[]:=by
  have:=t12;cases hv:r.valid
  ·rw[hv]at this;cases this
  ·rw[hv]at this;exact⟨rfl,by simpa[aa]using this⟩
 obtain⟨e1,e2,e3,e4,e5,e6⟩:=Rt.parts h h0.1 h0.2;refine gD ?_;refine bO ?_;rw[e1,e2];exact KP e3 e4 e5
theorem xY{n d:Int}(hn:Zs n)(hd:Zs d)(h0:d≠0):FP 140 [zA n,zA d] (qA (amj n d)):=by
 refine am func140 ?_;refine gc (AT hn) ?_;refine gC (fun z=>?_) (fun z=>?_)
 ·have e0:n=0:=al6.1 (by simpa[aa]using z);refine gR ?_;exact kX (by rw[e0,Rat.zero_divInt];exact kA)
 have e0:n≠0:=fun h=>by rw[h]at z;cases z
 refine gc (AT hd) ?_;refine Fx [2,3,4] [4] (fun(n1 d1:Int)=>[]) (fun n1 d1=>[pP 2 (.box (zA n1).cells),pP 3 (.box (zA d1).cells)]) (fun n1 d1=>0<d1/\n1≠0/\Zs n1/\Zs d1/\amj n1 d1=amj n d) ?_ ?_
 ·intro K1 J1;refine gC (fun t18=>?_) (fun t18=>?_)
  ·have e1:d<0:=ame.1 (by have:=amd d;have h9:d.sign<0:=(by simpa[aa]using t18);omega);refine gc (FT hn) ?_;refine gc (FT hd) ?_;refine gD ?_;exact wB J1 (-n) (-d) ⟨by omega,by omega,hn.neg,hd.neg,Nj n d⟩
  have e1:0<d:=by
   have h9:0<=d.sign:=by simpa[aa]using t18
   have:=al8.1 h9;omega
  exact wB J1 n d ⟨e1,e0,hn,hd,rfl⟩
 rintro n1 d1 ⟨f1,f2,f3,f4,f5⟩;have g2:Zs (amb n1 d1:Int):=f3.of_le (by rw[aoj];exact Nat.le_of_dvd oz (Int.gcd_dvd_natAbs_left _ _));have g3:(amb n1 d1:Int)≠0:=by have:=Int.gcd_pos_of_ne_zero_left d1 f2;omega
 refine gc (Uj f3 f4) ?_;refine gc (OY f3 g2 g3) ?_;refine gc (OY f4 g2 g3) ?_;refine ai ?_;rw[<- f5,<- aed f1 f2];rfl
theorem UZ{n d:Int}(hn:Zs n)(hd:Zs d):FP 387 [zA n,zA d] (.tup [qA (amj n d),i64 (if d=0 then 8 else 0)]):=by
 refine am func387 ?_;refine gc (AT hd) ?_;refine gC (fun z=>?_) (fun z=>?_)
 ·have h0:d=0:=al6.1 (by simpa[aa]using z);refine gR ?_;exact fa (by rw[aoz h0,h0,Rat.divInt_zero];exact Sub.tup (.cons kA (.cons (.refl _) .nil)))
 have h0:d≠0:=fun h=>by rw[h]at z;cases z
 refine gc (xY hn hd h0) ?_;refine bO ?_;rw[aoy h0];rfl
theorem ut(n:Int)(h:-9223372036854775808<=n/\n<=9223372036854775807):FP 53 [i64 n] (qA n):=by
 have hz:Zs n:=⟨2,by omega,by unfold Lz;simp only[Nat.reducePow];omega⟩
 refine am func53 ?_;refine gc (LU n h) ?_;refine gc Fq ?_;refine gc (xY hz Cz oz) ?_;refine ai ?_;exact ao6 qA (amm (n:Rat))
theorem JX(a:Rt)(ha:a.ok):FP 288 [a.av] (qA (-a.q)):=by
 have za:=ha.qs;refine am func288 ?_;refine gc (sC a ha) ?_;refine gc (FT za.num) ?_;refine gc (xY za.num.neg za.den (by have:=a.q.den_nz;omega)) ?_;refine gD ?_;refine ai ?_;rw[Qi];rfl
theorem AR(a:Rt)(ha:a.ok):FP 156 [a.av] (i64 (b9 a.q)):=by
 refine am func156 ?_;refine gc (sC a ha) ?_;refine gc (AT ha.qs.num) ?_;refine ai ?_;rw[OG]
theorem Bs(a b:Rt)(ha:a.ok)(hb:b.ok):FP 157 [a.av,b.av] (qA (a.q+b.q)):=by
 have za:=ha.qs;have zb:=hb.qs;have m1:=za.mul zb;have m2:=zb.mul za;refine am func157 ?_;refine gc (sC a ha) ?_;refine gc (sC b hb) ?_;refine gc (uf za.num zb.den) ?_;refine gc (uf zb.num za.den) ?_;refine gc (ahd m1.1 m2.1) ?_;refine gc (uf za.den zb.den) ?_;refine gc (xY (za.cross zb) m1.2.2.1 (al9 (by have:=a.q.den_nz;omega) (by have:=b.q.den_nz;omega))) ?_;refine gD ?_;refine ai ?_;rw[EN];rfl
theorem JI(a b:Rt)(ha:a.ok)(hb:b.ok):FP 160 [a.av,b.av] (qA (a.q-b.q)):=by
 refine am func160 ?_;refine gc (JX b hb) ?_;refine gc (Bs a (rt (-b.q)) ha hb.qs.neg.ok) ?_;refine gD ?_;refine ai ?_;rw[b7,<- aml];rfl
theorem JC(a b:Rt)(ha:a.ok)(hb:b.ok):FP 158 [a.av,b.av] (qA (a.q*b.q)):=by
 have za:=ha.qs;have zb:=hb.qs;have m1:=za.mul zb;refine am func158 ?_;refine gc (sC a ha) ?_;refine gc (sC b hb) ?_;refine gc (uf za.num zb.num) ?_;refine gc (uf za.den zb.den) ?_;refine gc (xY m1.2.1 m1.2.2.1 (al9 (by have:=a.q.den_nz;omega) (by have:=b.q.den_nz;omega))) ?_;refine gD ?_;refine ai ?_;rw[F1];rfl
theorem Si(a b:Rt)(ha:a.ok)(hb:b.ok):FP 287 [a.av,b.av] (.tup [qA (a.q/b.q),i64 (if b.q=0 then 8 else 0)]):=by
 have za:=ha.qs;have zb:=hb.qs;have m1:=za.mul zb;refine am func287 ?_;refine gc (sC a ha) ?_;refine gc (sC b hb) ?_;refine gc (uf za.num zb.den) ?_;refine gc (uf za.den zb.num) ?_;refine gc (UZ m1.1 m1.2.2.2) ?_;refine gD ?_;refine bO ?_
 have e1:((a.q.den:Int)*b.q.num=0)=(b.q=0):=by
  apply propext;rw[<- amf,Int.mul_eq_zero];exact⟨fun h=>h.resolve_left (by have:=a.q.den_nz;omega),.inr⟩
 simp only[Ep,e1];rfl
theorem OX(a b:Rt)(ha:a.ok)(hb:b.ok)(hs:Qs (a.q-b.q)):FP 293 [a.av,b.av] (i64 (b9 (a.q-b.q))):=by
 refine am func293 ?_;refine gc (JI a b ha hb) ?_;refine gc (AR (rt (a.q-b.q)) hs.ok) ?_;refine ai ?_;rw[b7]
theorem xE{α:Type}(f:α->AV)(l:List α)(hl:l.length<=281474976710656):FP 316 [.lst 3 (l.map f)] (i64 (du l.length)):=by
 refine am func316 ?_;refine aY [0] [] (fun(k:Nat)=>[pP 3 (i64 k)]) (fun _=>[]) (fun k=>k<=48/\∀j,j<k->2^j<l.length) (fun k=>48-k) 0 ⟨by omega,fun j h=>by omega⟩ ?_;rintro k ⟨hk,hj⟩ K1 J1;refine gs (jD (.const _) (.tmp rfl) oz (r8 oz) rfl) ?_;refine gl ?_;refine gC (fun z=>?_) (fun z=>?_)
 ·have h1:2 ^ k<l.length:=by have:=z; simp only [aa,ao0] at this; omega
  have h2:k<48:=by
   rcases anu k 48 with h |h
   ·exact h
   ·have:2 ^ 48<=2 ^ k:=cK h;have:(2:Nat) ^ 48=281474976710656:=by decide
    omega
  refine ga (d5 oz) ?_;exact aS J1 (k+1) ⟨by omega,fun j h=>by rcases anu j k with h3 |h3;exact hj j h3;(have:j=k:=by omega);subst this;exact h1⟩
 have h1:l.length<=2^k:=by have:=z;simp only[aa,decide_eq_false_iff_not]at this;omega
 have h2:=PS hj h1;refine gs (jD (.const _) (.tmp rfl) oz (r8 oz) rfl) ?_;refine gl ?_;refine gC (fun z=>?_) (fun z=>?_)
 ·have h3:2 ^ k≠l.length:=by have:=z; simp only [aa,bne_iff_ne,ne_eq] at this; omega
  refine ai ?_;unfold du;rw[h2,aoy h3];rfl
 have h3:2^k=l.length:=by have:=z;simp only[aa,bne_eq_false_iff_eq]at this;omega
 refine ai ?_;unfold du;rw[h2,aoz h3]
theorem NW(ts:List (List Rt))(a:List Rt)(ha:∀r∈a,r.ok)(hl:a.length<=281474976710656)(ht:ts.length<=281474976710656):FP 263 [cJ ts,nR a] (bU (cA ts.length a)):=by
 refine am func263 ?_;refine gl ?_;refine Ke [1,4] [] [] [] (¬(a≠[]/\(du a.length<0\/(ts.length:Int)<du a.length))) ?_ ?_
 ·intro K1 J1;refine gC (fun t10=>?_) (fun t10=>?_)
  ·have h0:a≠[]:=fun h=>by rw[h] at t10; simp[aa] at t10
   refine gc (xE Rt.av a hl) ?_;refine cV ?_;refine gC (fun t21=>?_) (fun t21=>?_)
   ·have h1:du a.length<0\/(ts.length:Int)<du a.length:=by
     have h9:=t21
     by_cases h:du a.length<0
     ·exact .inl h
     ·simp only[aa,ao4 h,cond_false,ao0]at h9;exact .inr h9
    refine ai ?_;unfold cA;rw[aoz ⟨h0,h1⟩];rfl
   have h1:¬(du a.length<0\/(ts.length:Int)<du a.length):=by
    have h9:=t21
    by_cases h:du a.length<0
    ·simp only[aa,ao3 h,cond_true]at h9;cases h9
    ·simp only[aa,ao4 h,cond_false,decide_eq_false_iff_not]at h9;exact fun h'=>h'.elim h h9
   exact Cg J1 (fun h=>h1 h.2)
  have h0:a=[]:=by
   cases a with
   |nil=>rfl
   |cons c l=>simp[aa]at t10
  exact Cg J1 (fun h=>h.1 h0)
 rintro hn;refine gl ?_;refine aY [23,24] [] (fun(i:Nat)=>[pP 25 (i64 i)]) (fun _=>[]) (fun i=>i<=a.length/\(a.take i).all Rt.valid=true) (fun i=>a.length-i) 0 ⟨ans _,by simp⟩ ?_;rintro i ⟨hi,hv⟩ K2 J2;refine gC (fun z=>?_) (fun z=>?_)
 ·have ah:i<a.length:=by simpa[aa] using z
  obtain⟨r,hr⟩:=aB ah;have Ic:=ha r (ank hr);refine gi (aL hr) ?_;refine gc (xw r Ic) ?_;refine gC (fun z=>?_) (fun z=>?_)
  ·have ru:r.valid=false:=by simpa using z
   refine ai ?_;unfold cA;rw[aoy hn,aoy]
   ·rfl
   ·rw[anx];intro h;rw[h r (ank hr)]at ru;cases ru
  have ru:r.valid=true:=by simpa using z
  refine ga aU ?_;exact aS J2 (i+1) ⟨by omega,by rw[dR hr,all_append,hv];simp[ru]⟩
 have ah:i=a.length:=by have:a.length<=i:=(by simpa[aa]using z);omega
 subst ah;rw[an3]at hv;refine ai ?_;unfold cA;rw[aoy hn,aoz hv];rfl
theorem Qo(a:List Rat)(ha:∀q∈a,Qs q)(hl:a.length<=281474976710656):FP 415 [nA a] (bl (bN a)):=by
 refine am func415 ?_;refine gl ?_;refine aY [5,6] [] (fun(i:Nat)=>[pP 7 (i64 i)]) (fun _=>[]) (fun i=>i<=a.length/\bN (a.take i)=true) (fun i=>a.length-i) 0 ⟨ans _,by simp[bN]⟩ ?_;rintro i ⟨hi,hv⟩ K1 J1;refine gC (fun z=>?_) (fun z=>?_)
 ·have ah:i<a.length:=by simpa[aa] using z
  obtain⟨q,hq⟩:=aB ah;have mw:=ha q (ank hq);refine gi (aL hq) ?_;refine gc (AX (rt q) mw.ok) ?_;refine gC (fun t13=>?_) (fun t13=>?_)
  ·have h0:q≠0:=by
    intro h;have h9:=t13;rw[b7,h]at h9;cases h9
   refine ai ?_
   have:bN a=false:=by
    rw[amx];intro h;exact h0 (by simpa using anx.1 h q (ank hq))
   rw[this];rfl
  have h0:q=0:=by
   have h9:b9 q=0:=by have:=t13;rw[b7]at this;simpa[aa]using this
   exact pR h9
  refine ga aU ?_;exact aS J1 (i+1) ⟨by omega,by rw[dR hq];simp only[bN,all_append,anq];exact⟨hv,by simp[h0]⟩⟩
 have ah:i=a.length:=by have:a.length<=i:=(by simpa[aa]using z);omega
 subst ah;rw[an3]at hv;refine ai ?_;rw[hv];rfl
theorem O3(a:List Rat)(hl:a.length<=281474976710656):FP 348 [nA a] (bl (bN a)):=by
 refine am func348 ?_;refine gl ?_;refine aY [5,6] [] (fun(i:Nat)=>[pP 7 (i64 i)]) (fun _=>[]) (fun i=>i<=a.length/\bN (a.take i)=true) (fun i=>a.length-i) 0 ⟨ans _,by simp[bN]⟩ ?_;rintro i ⟨hi,hv⟩ K1 J1;refine gC (fun z=>?_) (fun z=>?_)
 ·have ah:i<a.length:=by simpa[aa] using z
  obtain⟨q,hq⟩:=aB ah;refine gi (aL hq) ?_;refine cV ?_;refine cV ?_;refine gC (fun z=>?_) (fun z=>?_)
  ·have h0:q≠0:=Jo z;refine ai ?_
   have:bN a=false:=by
    rw[amx];intro h;exact h0 (by simpa using anx.1 h q (ank hq))
   rw[this];rfl
  have h0:q=0:=IF z;refine ga aU ?_;exact aS J1 (i+1) ⟨by omega,by rw[dR hq];simp only[bN,all_append,anq];exact⟨hv,by simp[h0]⟩⟩
 have ah:i=a.length:=by have:a.length<=i:=(by simpa[aa]using z);omega
 subst ah;rw[an3]at hv;refine ai ?_;rw[hv];rfl
theorem Eg(a:List Rat)(ha:∀q∈a,Qs q)(hl:a.length<=1099511627776):FP 347 [nA a] (nA a):=by
 refine am func347 ?_;refine gl ?_;refine gW (Wk.virt 900 3 rfl) ?_;refine aY [6,7] [] (fun(i:Nat)=>[pP 3 (.ms 900 3 0 i),pP 8 (i64 i)]) (fun i=>[pP 900 (.row 3 ((a.take i).map qA))]) (fun i=>i<=a.length) (fun i=>a.length-i) 0 (ans _) ?_;rintro i hi K1 J1;refine gC (fun z=>?_) (fun z=>?_) (st2:=(7,0))
 ·have ah:i<a.length:=by simpa[aa] using z
  obtain⟨q,hq⟩:=aB ah;have mw:=(ha q (ank hq)).ok;have s6:(rt q).num.length<=137438953472:=mw.2.2.1;have uL:(rt q).den.length<=137438953472:=mw.2.2.2;refine gi (aL hq) ?_;refine gs (lX T104 rfl T354 rfl rfl rfl) ?_;refine gs (tR (.tmp rfl) rfl rfl (.tmp rfl) T104 rfl T354 rfl rfl (by simp only[anl];omega) rfl rfl) ?_;refine gs (lX T104 rfl T354 rfl rfl rfl) ?_;refine gs (tR (.tmp rfl) rfl rfl (.tmp rfl) T104 rfl T354 rfl rfl (by simp only[anl];omega) rfl rfl) ?_;refine gs (cZ (.tmp rfl) rfl (by simp;omega) (.tmp rfl) T53 rfl T106 rfl rfl (by simp;omega) rfl rfl) ?_;refine gD ?_ (6,0);refine gW (Wk.of (sl:=[pP 3 (.ms 25 3 0 (i+1)),pP 6 (nA a),pP 7 (i64 a.length),pP 8 (i64 i)]) (hp:=[pP 25 (.row 3 ((a.take (i+1)).map qA))]) bg (.cons rfl (.of (by rw[dR hq,aoc];rfl)) .nil)) ?_ (6,0);refine gW (Wk.rk (k:=25) (d:=900) rfl rfl) ?_;refine ga aU ?_;exact aS J1 (i+1) ah
 have ah:i=a.length:=by have:a.length<=i:=(by simpa[aa]using z);omega
 subst ah;refine gW ((Wk.freeze (k:=900) rfl).trans<|Wk.of (sl:=[pP 3 (nA a)]) (hp:=[]) (.cons rfl (.of (by rw[cz (by simp),an3];rfl)) .nil) .nil) ?_;refine ai ?_;rfl
end Go.Lw
