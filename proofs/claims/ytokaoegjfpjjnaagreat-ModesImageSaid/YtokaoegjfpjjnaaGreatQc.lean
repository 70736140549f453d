/- ModesImage: for any linkage and any turns the law returns true and leaves its arguments as they were. No other condition. Part 3 of 8: what the later parts need -/
import Derived.Test.YtokaoegjfpjjnaaGreatQb
import Derived.Laws.Strings
set_option linter.unusedVariables false
open List (nil_append drop_drop map_take all_append map_map map_id)
open List renaming mem_of_getElem? → apo, mem_cons_of_mem → aqq, mem_append → ap2, mem_cons → aqf, length_cons → ap4, mem_cons_self → aqr, length_append → aqk, length_nil → ap9, getD_eq_getElem?_getD → apq, getElem?_append_left → aqc, getElem?_eq_none → ap6, all_eq_true → ap3, getElem?_take → aqh, getElem?_drop → aqv, getElem?_map → apv, append_assoc → aqt, getElem?_append_right → aqb, getElem?_eq_getElem → aps, drop_eq_nil_of_le → aqm, getElem?_replicate → aql, map_append → ap8, length_take → ap7, take_of_length_le → aqa, drop_zero → aq1, take_length → ap5, not_mem_nil → aqg, length_map → apr, mem_of_mem_take → aqw, map_congr_left → aqz, length_replicate → aqp, map_replicate → aqu, map_set → aq0, any_eq_true → am7, mem_singleton → am8, take_succ_eq_append_getElem → am9, replicate → ana, take_append_of_le_length → anb, mem_of_mem_drop → anf, drop_append_of_le_length → ang, drop_length → anh, drop_eq_getElem_cons → ani, length_pos_iff → anj, getElem_mem → anm, take_append_drop → ann, take_take → anp, eq_nil_of_length_eq_zero → anr, cons_append → ans, mem_map → anx, getElem?_eq_some_iff → anz, length_eq_zero_iff → an1, mem_range → an2, getLast?_eq_getElem? → an3, mem_iff_getElem → an4, mem_replicate → an5, length_eq_one_iff → an7
open Nat renaming eq_of_beq_eq_true → apy, le_refl → apu, lt_of_lt_of_le → aqd, lt_or_ge → apz, le_trans → aqe, mul_le_mul_right → aqi, mul_le_mul_left → ap0, zero_le → apx, pow_add → aqs, lt_of_le_of_lt → aqj, mul_assoc → alu, mod_lt → alw, mul_comm → alx, blt → aly, mul_le_mul → alz, eq_zero_or_pos → al2, pow_pos → al7, mod_eq_of_lt → al8, div_lt_iff_lt_mul → al9, min_eq_left → amb, div_le_self → amc, pow_mul → amd, mul_add → ame, two_pow_pos → amf, mul_lt_mul'' → amh, add_zero → amj, pow_le_pow_right → amk, mul_pos → aml, max_eq_left → amm, le_of_lt → amn, gcd → amo, pow_succ → amp, beq → amq, sub_add_cancel → amr, zero_add → ams, add_mul → amt, lt_of_mul_lt_mul_left → amu, div_eq_of_lt → amv, le_div_iff_mul_le → amw, le_add_right → amx, div_add_mod → amy, add_mul_div_left → amz, pow_lt_pow_right → am0, add_sub_cancel → am1, max_eq_right → am2, mul_lt_mul_left → am3, div_div_eq_div_mul → am4, succ_mul → am5
open Option renaming map_eq_some_iff → apt, getD_some → apl, map_some → apm
open Bool renaming and_eq_true → apw, or_eq_true → aqy, eq_false_iff → aou, eq_iff_iff → aov, false_and → aox, false_eq_true → aoz, decide_or → ao3
open Array renaming getD_eq_getD_getElem? → ap1, length_toList → apc, getElem?_toList → apd, getElem?_eq_none → apj
open Int renaming toNat_natCast → aqo, natAbs_natCast → aqn, natAbs_mul → an9, gcd → aoa, lt_trichotomy → aob, mul_nonneg → aod, ofNat_inj → aoe, mul_ne_zero → aof, sign_trichotomy → aog, natCast_ediv → aoi, sign_eq_neg_one_iff_neg → aok, sign_eq_one_iff_pos → aol
open Rat renaming num_divInt_den → aom, div_def → aon, sub_eq_add_neg → aoo, divInt → aop, divInt_eq_div → aoq, intCast_mul → aor, intCast_eq_zero_iff → aos
open Decidable renaming not_not → apn
open Go renaming Operand → arg, TypeId → ari, Program → arj, World → ark
open Go.Proofs.Tryz
namespace Go.Lw
def bC:Nat->Nat->List Nat
  |0,_=>[]
  |k+1,v=>v%4294967296::bC k (v/4294967296)
theorem it:∀k v,(bC k v).length=k
 |0,_=>rfl
 |k+1,v=>by simp[bC,it k]
theorem nU:∀k v,Ws (bC k v)
 |0,_=>Aa
 |k+1,v=>by
  intro x hx;rcases aqf.1 hx with h |h
  ·omega
  ·exact nU k _ x h
theorem pL:∀k v,v<4294967296^k->val (bC k v)=v
 |0,v,h=>by simp at h;subst h;rfl
 |k+1,v,h=>by
  rw[amp]at h;simp only[bC,val];rw[pL k _ oz];omega
theorem yk:∀(l:List Nat),Ws l->l=bC l.length (val l)
 |[],_=>rfl
 |x::l,h=>by
  have hx:=h x (by simp);have ih:=yk l (fun y hy=>h y (by simp[hy]));simp only[ap4,bC,val];rw[show(x+4294967296*val l)%4294967296=x by omega,show(x+4294967296*val l)/4294967296=val l by omega,<- ih]
theorem AM{l:List Nat}{k v:Nat}(h:Ws l)(hk:l.length=k)(hv:val l=v):l=bC k v:=by
 subst hk;subst hv;exact yk l h
theorem Cu{l:List Nat}(h:Ws l)(i:Nat)(hi:i<=l.length):val l/4294967296^i=val (l.drop i):=by
 rw[Ad l i,amb hi];have h1:=cU (l.take i) (jN h i);rw[ap7,amb hi]at h1;rw[amz _ _ oz,amv h1,ams]
theorem Dz{n k:Nat}(h:n<=k):2^k=2^(k-n)*2^n:=by rw[<- aqs];congr 1;omega
theorem Zo{x w n:Nat}(hn:n<32)(hw:w<2^n):w ||| x*2^n%4294967296=w+x*2^n%4294967296:=by
 have h1:x*2^n%4294967296=(x%2^(32-n))*2^n:=by
  rw[show 4294967296=2^32 from rfl,Dz (show n<=32 by omega),Nat.mul_mod_mul_right]
 rw[h1];exact Ho hw
theorem Tc{x n:Nat}(hx:x<4294967296):x*2^n/4294967296<2^n:=by
 rw[al9 oz,alx];exact Nat.mul_lt_mul_of_pos_left hx (al7 oz)
theorem uz{n k:Nat}(h:n<=k):2^n<=2^k:=amk oz h
theorem akl{x w n:Nat}(hn:n<32)(hw:w<2^n):w+x*2^n%4294967296<4294967296:=by
 have h1:x*2^n%4294967296=(x%2^(32-n))*2^n:=by
  rw[show 4294967296=2^32 from rfl,Dz (show n<=32 by omega),Nat.mul_mod_mul_right]
 have h2:x%2^(32-n)+1<=2^(32-n):=alw _ (al7 oz);have h3:=aqi (2^n) h2;rw[<- Dz (show n<=32 by omega),amt]at h3;omega
theorem af3{a out:List Nat}{i n:Nat}(hi:i+1<out.length)(h:val (out.take (i+1))=2^n*val (a.take i)) :
  val (((out.set i (ak out i+ak a i*2^n%4294967296)).set (i+1) (ak a i*2^n/4294967296)).take (i+1+1))=2^n*val (a.take (i+1)):=by
 rw[pR (by simpa using hi),pR oz,eV (l:=a)];rw[eV]at h;have:=amy (ak a i*2^n) 4294967296;generalize ak a i*2^n%4294967296=r at *;generalize ak a i*2^n/4294967296=q at *;rw[amp];grind
theorem UP{a:List Nat}{i n:Nat}(h:Ws a)(hi:i<a.length)(hn:n<=32) :
  (ak a i+ak a (i+1)*2^32)/2^n%4294967296=(val a/2^n/4294967296^i)%4294967296:=by
 rw[am4,alx (2^n),<- am4,Cu h i oz,vQ hi]
 have h1:val (a.drop (i+1))=ak a (i+1)+4294967296*val (a.drop (i+2)):=by
  rcases apz (i+1) a.length with h |h
  ·exact vQ h
  ·rw[wk h,aqm oz,aqm oz];rfl
 rw[h1];generalize val (a.drop (i+2))=R
 have h2:ak a i+4294967296*(ak a (i+1)+4294967296*R)=(ak a i+ak a (i+1)*2^32)+2^n*(2^(32-n)*R*4294967296):=by
  have h3:=Dz hn;rw[show(2:Nat)^n*(2^(32-n)*R*4294967296)=(2^(32-n)*2^n)*R*4294967296 by grind,<- h3];omega
 rw[h2,amz _ _ (al7 oz),Nat.add_mul_mod_self_right]
theorem QN{a out:List Nat}{i n:Nat}(h:Ws a)(hi:i<a.length)(ho:i<out.length)(hn:n<=32)(hv:val (out.take i)=val a/2^n%4294967296^i) :
  val ((out.set i ((ak a i+ak a (i+1)*2^32)/2^n%4294967296)).take (i+1))=val a/2^n%4294967296^(i+1):=by
 rw[pR ho,UP h hi hn,amp,Nat.mod_mul,hv]
theorem aiz{a out:List Nat}{n:Nat}(h:Ws a)(ho:out.length=a.length)(hv:val (out.take a.length)=val a/2^n%4294967296^a.length):val out=val a/2^n:=by
 rw[gS oz]at hv;rw[hv,al8];exact aqj (amc _ _) (cU a h)
theorem Yj{a o:List Nat}{i r w:Nat}(hi:i<a.length)(ho:i<o.length)(h:val (a.drop (i+1))=w*val (o.drop (i+1))+r) :
  val (a.drop i)=w*val ((o.set i ((r*2^32+ak a i)/w)).drop i)+(r*2^32+ak a i)%w:=by
 rw[Ra ho,vQ hi,h];have:=amy (r*2^32+ak a i) w;generalize(r*2^32+ak a i)%w=r' at *;generalize(r*2^32+ak a i)/w=q at *;grind
theorem ad2{r w x:Nat}(hr:r<w)(hx:x<4294967296):(r*2^32+x)/w<4294967296:=by
 rw[al9 oz];have:=ap0 4294967296 (show r+1<=w from hr);omega
theorem CQ{a q w r:Nat}(h:a=w*q+r)(hr:r<w):a/w=q/\a%w=r:=by
 subst h;rw[Nat.mul_add_div oz,Nat.mul_add_mod,amv hr,al8 hr];simp
theorem acr{l:List Nat}{i x:Nat}(h:i<l.length):ak (l.set i x) i=x:=by simp[ak,h]
theorem aD.own2{s:AS}{k:Nat}{y z:Blk}{x r:AV}(h:lk s.hp k=some y)(hz:y=z)(hx:x=r):aD s x r [(k,some z)]:=by
 subst hz;subst hx
 refine aD.keep ?_;intro k' z' h';rw[a5]at h';split at h'
 ·rename_i e;cases h';rw[e];exact h
 ·cases h'
def bP(u:List Nat)(j n:Nat):List Nat:=(u.drop j).take n
def wr(u:List Nat)(j:Nat)(l:List Nat):List Nat:=u.take j++l++u.drop (j+l.length)
theorem G6{u o:List Nat}{j n:Nat}(h1:o.take j=u.take j)(h2:o.drop (j+n)=u.drop (j+n))(hn:j+n<=o.length):o=wr u j (bP o j n):=by
 have hl:(bP o j n).length=n:=by simp[bP];omega
 unfold wr;rw[hl,<- h1,<- h2]
 conv=>lhs;rw[<- ann j o]
 rw[aqt];congr 1;unfold bP
 conv=>lhs;rw[<- ann n (o.drop j)]
 rw[drop_drop]
theorem qR{u l:List Nat}{j:Nat}(h:j+l.length<=u.length):(wr u j l).length=u.length:=by simp[wr];omega
theorem DA{a b:List Nat}(ha:Ws a)(hb:Ws b):Ws (a++b):=fun x hx=>(ap2.1 hx).elim (ha x) (hb x)
theorem Ot{l:List Nat}(h:Ws l)(n:Nat):Ws (l.drop n):=fun x hx=>h x (anf hx)
theorem sr{l:List Nat}(h:Ws l)(i n:Nat):Ws (bP l i n):=jN (Ot h i) n
theorem vL{u l:List Nat}{j:Nat}(hu:Ws u)(hl:Ws l):Ws (wr u j l):=DA (DA (jN hu _) hl) (Ot hu _)
theorem tI{u:List Nat}{j n:Nat}(h:j+n<=u.length):(bP u j n).length=n:=by simp[bP];omega
theorem ads{u l:List Nat}{j:Nat}(h:j+l.length<=u.length):val ((wr u j l).drop j)=val l+4294967296^l.length*val (u.drop (j+l.length)):=by
 unfold wr;rw[aqt,ang (by simp;omega),aqm (by simp;omega),nil_append,vO]
theorem O1{u:List Nat}{j n:Nat}(h:j+n<=u.length):val (u.drop j)=val (bP u j n)+4294967296^n*val (u.drop (j+n)):=by
 rw[Ad (u.drop j) n,drop_drop,amb (by simp;omega)];rfl
theorem ES{u:List Nat}{j:Nat}(h:j<=u.length):val u=val (u.take j)+4294967296^j*val (u.drop j):=by
 rw[Ad u j,amb h]
theorem Pc{u l:List Nat}{j:Nat}(h:j<=u.length):(wr u j l).take j=u.take j:=by
 unfold wr;rw[aqt,anb (by simp;omega),aqa (by simp;omega)]
theorem ZB{u l:List Nat}{j:Nat}(h:j<=u.length):(wr u j l).drop (j+l.length)=u.drop (j+l.length):=by
 unfold wr;rw[List.drop_append,aqm (by simp;omega)];simp[amb h]
theorem Bi{l:List Nat}{j i:Nat}:ak (l.drop j) i=ak l (j+i):=by simp[ak]
theorem vJ{u o:List Nat}{k:Nat}(h:o.drop k=u.drop k):ak o k=ak u k:=by
 have h1:=Bi (l:=o) (j:=k) (i:=0);have h2:=Bi (l:=u) (j:=k) (i:=0);rw[h]at h1;simpa using h1.symm.trans h2
theorem yX{u o:List Nat}{k x:Nat}(h:o.drop k=u.drop k):(o.set k x).drop (k+1)=u.drop (k+1):=by
 rw[List.drop_set_of_lt oz];have h1:(o.drop k).drop 1=(u.drop k).drop 1:=by rw[h]
 rwa [drop_drop,drop_drop]at h1
theorem Qr{o:List Nat}{j i x:Nat}(h:j+i<o.length):val (bP (o.set (j+i) x) j (i+1))=val (bP o j i)+4294967296^i*x:=by
 unfold bP;rw[List.drop_set,aq6 oz,Nat.add_sub_cancel_left,pR (by simp;omega)]
theorem Ki{u:List Nat}{j i:Nat}:val (bP u j (i+1))=val (bP u j i)+4294967296^i*ak u (j+i):=by
 unfold bP;rw[eV,Bi]
theorem aew{lo c P n V w:Nat}(h:lo+c*P=n*V):(lo+P*((c+n*w)%4294967296))+((c+n*w)/4294967296)*(P*4294967296)=n*(V+P*w):=by
 have:=amy (c+n*w) 4294967296;generalize(c+n*w)%4294967296=r at *;generalize(c+n*w)/4294967296=q at *;grind
def nN(n V W len:Nat):Nat:=if n*V<=W then W-n*V else W+4294967296^len-n*V
theorem ah4{u o v:List Nat}{off len n c b lo:Nat}(hu:Ws u)(ho:Ws o)(hl:o.length=u.length)(hj:off+len<=u.length)(hv:Ws v)(pf:v.length+1<=len)(hn:n<4294967296)
  (h1:o.take off=u.take off) (h2:o.drop (off+len)=u.drop (off+len)) (hb:b<=1) (h3:lo+c*4294967296^len=n*val (v.take len))
  (h4:val (bP o off len)+lo=val (bP u off len)+b*4294967296^len) :
  o=wr u off (bC len (nN n (val v) (val (bP u off len)) len))/\(b=1↔val (bP u off len)<n*val v):=by
 rw[gS oz]at h3
 have hV:n*val v<4294967296^len:=by
  have h5:=cU v hv;have h6:4294967296^(v.length+1)<=4294967296^len:=amk oz pf;rw[amp,alx]at h6;exact aqd (amh hn h5) h6
 have hc:c=0:=by
  cases c with
  |zero=>rfl
  |succ c=>rw[am5]at h3;omega
 subst hc;rw[Nat.zero_mul,amj]at h3;subst h3;have ho':=cU (bP o off len) (sr ho _ _);have hu':=cU (bP u off len) (sr hu _ _);rw[tI oz]at ho' hu';have hb':b=0\/b=1:=by omega
 refine⟨?_,?_⟩
 ·have h7:bP o off len=bC len (nN n (val v) (val (bP u off len)) len):=by
   refine AM (sr ho _ _) (tI oz) ?_;unfold nN;rcases hb' with rfl |rfl
   ·rw[aq7 oz];omega
   ·rw[aq6 oz];omega
  rw[<- h7];exact G6 h1 h2 oz
 ·rcases hb' with rfl |rfl <;> omega
theorem Xc{u o v:List Nat}{off len c:Nat}(ho:Ws o)(hl:o.length=u.length)(hj:off+len<=u.length)(pf:v.length<=len)
  (h1:o.take off=u.take off) (h2:o.drop (off+len)=u.drop (off+len)) 
  (h4:val (bP o off len)+c*4294967296^len=val (bP u off len)+val (v.take len)) :
  o=wr u off (bC len ((val (bP u off len)+val v)%4294967296^len)):=by
 rw[gS oz]at h4;have ho':=cU (bP o off len) (sr ho _ _);rw[tI oz]at ho'
 have h7:bP o off len=bC len ((val (bP u off len)+val v)%4294967296^len):=by
  refine AM (sr ho _ _) (tI oz) ?_;rw[<- h4,Nat.add_mul_mod_self_right,al8 ho']
 rw[<- h7];exact G6 h1 h2 oz
def bm(x:Nat):Nat:=if x=0 then 0 else x.log2+1
theorem mP{x:Nat}(h:x<256):IntKind.u8.wrap (x:Int)=(x:Int):=by
 simp only[IntKind.wrap,IntKind.signed,IntKind.bits,aox,if_false,aoz];omega
theorem CT{x:Nat}:x<2^bm x:=by
 unfold bm;split
 ·next h=>subst h;decide
 ·exact Nat.lt_log2_self
theorem DB{x:Nat}(h:x≠0):2^(bm x-1)<=x:=by
 unfold bm;rw[aq6 h,am1];exact Nat.log2_self_le h
theorem ai0{x k:Nat}(h1:2^k<=x)(h2:x<2^(k+1)):bm x=k+1:=by
 have hx:x≠0:=by intro h;subst h;have:=al7 (n:=k) (show 0<2 by omega);omega
 unfold bm;rw[aq6 hx,(Nat.log2_eq_iff hx).2 ⟨h1,h2⟩]
theorem zW{x k:Nat}(h:2^k<=x):bm x=k+bm (x/2^k):=by
 have h0:x/2^k≠0:=by
  have:=Nat.div_pos h (al7 oz);omega
 have h1:=DB h0;have h2:=CT (x:=x/2^k);have h3:1<=bm (x/2^k):=by unfold bm;rw[aq6 h0];omega
 generalize bm (x/2^k)=m at *;obtain⟨n,rfl⟩:∃n,m=n+1:=⟨m-1,by omega⟩
 rw[am1]at h1;rw[amw (al7 oz),<- aqs]at h1;rw[al9 (al7 oz),<- aqs]at h2;rw[show k+(n+1)=(n+k)+1 by omega];exact ai0 h1 (by rw[show n+k+1=n+1+k by omega];exact h2)
theorem F2{x:Nat}(h:x≠0)(hx:x<4294967296):bm x<=32/\1<=bm x/\2147483648<=2^(32-bm x)*x/\2^(32-bm x)*x<4294967296:=by
 have h1:=DB h;have h2:=CT (x:=x);have h3:1<=bm x:=by unfold bm;rw[aq6 h];omega
 have h4:bm x<=32:=by
  rcases apz 32 (bm x)with h5 |h5
  ·have:2^32<=2^(bm x-1):=uz oz;omega
  ·exact h5
 refine⟨h4,h3,?_,?_⟩
 ·have:=ap0 (2^(32-bm x)) h1;rw[<- aqs,show 32-bm x+(bm x-1)=31 by omega]at this;omega
 ·have:=(am3 (a:=2^(32-bm x)) (al7 oz)).2 h2;rw[<- aqs,show 32-bm x+bm x=32 by omega]at this;omega
def Q9(b:ByteArray):Bool:=amq b.data.toList.length 256&&(List.range 256).all fun y=>amq (b.data.toList.getD y 0).toNat (bm y)
theorem yT{P:arj}{N:Nat}{R:Array Oper}{s:AS}{d:Nat}{x ix:arg}{kk:IntKind}{i:Int}{y:Nat}{b:ByteArray}{T t:ari}{ti:TI}{pos:String}{after:Array Edge}
  (hx:Ev s x (.v (.string b))) (hi:Ev s ix (.v (.int kk i))) (hT:aJ P T=some ti) (hk:ti.k=.string)
  (hb:Q9 b=true) (h0:i=(y:Int)) (hy:y<256) (hN:aly d N=true) :
  Step P N R s ⟨some d,.index T x ix,t,pos,after,none⟩ ⟨some (.v (.int .u8 (bm y))),[],az x++az ix,[]⟩:=by
 subst h0;simp only[Q9,apw,ap3,an2]at hb;have hs:b.size=256:=by have:=apy hb.1;rw[apc]at this;exact this
 have h1:=apy (hb.2 y hy);have:=BF (R:=R) (N:=N) (t:=t) (pos:=pos) (after:=after) hx hi hT hk oz oz hN;rw[aqo]at this;rw[apq,apd,<- ap1]at h1
 rwa [h1]at this
theorem mc{x:Nat}(h:x<256):bm x<=8:=by
 rcases apz 8 (bm x)with h5 |h5
 ·have h0 : x ≠ 0 := by intro h0; subst h0; simp [bm] at h5
  have h1:=DB h0;have:2^8<=2^(bm x-1):=uz oz;omega
 ·exact h5
structure Dig(V W P V' W' top next third head:Nat):Prop where
  hV:V=V'+P*(next+4294967296*top)
  hW:W=W'+P*(third+4294967296*head)
  hV':V'<P
  hW':W'<P
  hnext:next<4294967296
  hthird:third<4294967296
  htop:2147483648<=top
  htopB:top<4294967296
  hlt:W<V*4294967296
namespace Dig
variable{V W P V' W' top next third head:Nat}
theorem vpos(h:Dig V W P V' W' top next third head):0<V:=by
 have:=h.hlt;omega
theorem q_lt(h:Dig V W P V' W' top next third head):W/V<4294967296:=by
 rw[al9 h.vpos,alx];exact h.hlt
theorem mul_le(h:Dig V W P V' W' top next third head){q:Nat}(hq:q*V<=W):q*(next+4294967296*top)<=third+4294967296*head:=by
 have h1:q*(P*(next+4294967296*top))<=q*V:=ap0 _ (by have:=h.hV;omega);have h2:=h.hW;have h3:=h.hW'
 have h4:P*(q*(next+4294967296*top))<P*(third+4294967296*head+1):=by
  rw[ame P _ 1,Nat.mul_one];have:P*(q*(next+4294967296*top))=q*(P*(next+4294967296*top)):=by grind
  omega
 have:=amu h4;omega
theorem up(h:Dig V W P V' W' top next third head){q:Nat}(hq:q*V<=W):q*top<=head:=by
 have h1:=h.mul_le hq;have h2:=h.hthird;rw[ame,show q*(4294967296*top)=4294967296*(q*top) by grind]at h1;omega
theorem first(h:Dig V W P V' W' top next third head):W/V<=head/top:=by
 have:=h.htop;rw[amw oz];exact h.up (Nat.div_mul_le_self W V)
theorem head_le(h:Dig V W P V' W' top next third head):head<=4294967296*top+next:=by
 have h1:=h.hlt;have h2:=h.hV;have h3:=h.hW;have h4:=h.hV'
 have h5:P*(third+4294967296*head)<P*(4294967296*(next+4294967296*top+1)):=by
  have:V*4294967296<P*(4294967296*(next+4294967296*top+1)):=by
   rw[h2,amt,show P*(next+4294967296*top)*4294967296=P*(4294967296*(next+4294967296*top)) by grind,ame 4294967296 _ 1,ame P];omega
  omega
 have:=amu h5;omega
theorem step(h:Dig V W P V' W' top next third head){g r:Nat}(hg:W/V<=g)(he:g*top+r=head)(hc:4294967296<=g\/r*4294967296+third<g*next):W/V<g:=by
 rcases hc with hc |hc
 ·have:=h.q_lt;omega
 ·refine Nat.lt_of_le_of_ne hg ?_;intro hq;have h1:=h.mul_le (Nat.div_mul_le_self W V);rw[hq,<- he,ame,ame,show g*(4294967296*top)=4294967296*(g*top) by grind]at h1;omega
theorem last(h:Dig V W P V' W' top next third head){g r:Nat}(he:g*top+r=head)(hc:¬(r<4294967296/\(4294967296<=g\/r*4294967296+third<g*next))) :
  g<4294967296/\g<=W/V+1:=by
 have hh:=h.head_le;have hn:=h.hnext;have htop:=h.htop
 have hg:g<4294967296/\g*next<=r*4294967296+third:=by
  rcases apz r 4294967296 with hr |hr
  ·have h1:¬(4294967296<=g\/r*4294967296+third<g*next):=fun h'=>hc ⟨hr,h'⟩
   omega
  ·have h1:g<4294967296:=by
    rcases apz g 4294967296 with h2 |h2
    ·exact h2
    ·have:=aqi top h2;omega
   refine⟨h1,?_⟩;have h2:g*next<=4294967296*4294967296:=alz oz oz;have h3:4294967296*4294967296<=r*4294967296:=aqi _ hr;omega
 refine⟨hg.1,?_⟩
 have h1:g*(next+4294967296*top)<=third+4294967296*head:=by
  rw[<- he,ame,ame,show g*(4294967296*top)=4294967296*(g*top) by grind];omega
 have h2:g*V<=W+V:=by
  have h3:g*V'<=4294967296*P:=alz oz (by have:=h.hV';omega);have h4:P*(g*(next+4294967296*top))<=P*(third+4294967296*head):=ap0 _ h1;have h5:P*4294967296<=P*(next+4294967296*top):=ap0 _ oz;have h6:=h.hV;have h7:=h.hW;have h8:g*V=g*V'+P*(g*(next+4294967296*top)):=by rw[h6];grind
  omega
 have h9:(g-1)*V<=W:=by rw[Nat.sub_mul];omega
 have:=(amw h.vpos).2 h9;omega
end Dig
theorem Nt{l:List Nat}{n:Nat}:val (l.take (n+2))=val (l.take n)+4294967296^n*(ak l n+4294967296*ak l (n+1)):=by
 rw[eV,eV,amp];grind
theorem ab6{l:List Nat}{n:Nat}:val (l.take (n+3))=val (l.take n)+4294967296^n*(ak l n+4294967296*(ak l (n+2)*4294967296+ak l (n+1))):=by
 rw[eV,Nt,aqs];grind
theorem uE{l:List Nat}(h:Ws l)(n:Nat):val (l.take n)<4294967296^n:=by
 have h1:=cU (l.take n) (jN h n);exact aqd h1 (amk oz (by simp;omega))
theorem ac9{v p:List Nat}{n:Nat}(hv:Ws v)(hp:Ws p)(hl:v.length=n+2)(qz:p.length=n+3)(ht:2147483648<=ak v (n+1))(h:val p<val v*4294967296) :
  Dig (val v) (val p) (4294967296^n) (val (v.take n)) (val (p.take n)) (ak v (n+1)) (ak v n) (ak p n) (ak p (n+2)*4294967296+ak p (n+1)) where
 hV:=by rw[<- Nt,gS oz]
 hW:=by rw[<- ab6,gS oz]
 hV':=uE hv n
 hW':=uE hp n
 hnext:=cI hv n
 hthird:=cI hp n
 htop:=ht
 htopB:=cI hv (n+1)
 hlt:=h
theorem aia{u l:List Nat}{j:Nat}(h:j<=u.length):bP (wr u j l) j l.length=l:=by
 unfold bP wr;rw[aqt,List.drop_append,aqm (by simp;omega)];simp[amb h]
theorem YO{u l l':List Nat}{j:Nat}(h:j<=u.length)(hl:l.length=l'.length):wr (wr u j l) j l'=wr u j l':=by
 have h1:=Pc (l:=l) h;have h2:=ZB (l:=l) h;rw[hl]at h2;rw[wr,h1,h2,<- wr]
theorem adg{W V g len:Nat}(hV:0<V)(Sc:V<=4294967296^len)(hW:W<4294967296^len)(h1:W/V<=g)(h2:g<=W/V+1) :
  (W<g*V->(nN g V W len+V)%4294967296^len=W%V/\g-1=W/V/\1<=g)/\(¬W<g*V->nN g V W len=W%V/\g=W/V):=by
 have h3:=amy W V;have h4:=alw W hV;generalize W/V=q at *;generalize W%V=r at *;have h5:V*q=q*V:=alx _ _;refine⟨fun h=>?_,fun h=>?_⟩
 ·have hg:g=q+1:=by
   rcases apz q g with h6 |h6
   ·omega
   ·have : g = q := by omega
    subst this;omega
  subst hg;rw[am5]at h;refine⟨?_,by omega,by omega⟩;unfold nN;rw[am5,aq6 oz,show W+4294967296^len-(q*V+V)+V=r+4294967296^len by omega,Nat.add_mod_right,al8 oz]
 ·have hg:g=q:=by
   rcases apz q g with h6 |h6
   ·have : g = q + 1 := by omega
    subst this;rw[am5]at h;omega
   ·omega
  subst hg;refine⟨?_,rfl⟩;unfold nN;rw[aq7 oz];omega
theorem UB{u q:List Nat}{k lv V U:Nat}(hu:Ws u)(hk:k+lv+1<=u.length)(hq:k<q.length)(hV:V<4294967296^lv)(h1:val (u.drop (k+1))<V)(h2:U=V*(4294967296^(k+1)*val (q.drop (k+1)))+val u) :
  val (bP u k (lv+1))<V*4294967296/\val ((wr u k (bC (lv+1) (val (bP u k (lv+1))%V))).drop k)<V /\
  U=V*(4294967296^k*val ((q.set k (val (bP u k (lv+1))/V)).drop k))+val (wr u k (bC (lv+1) (val (bP u k (lv+1))%V))):=by
 have h0:val (u.drop (k+(lv+1)))=0:=by
  have h3:=O1 (u:=u) (j:=k+1) (n:=lv) oz;rw[show k+1+lv=k+(lv+1) by omega]at h3;rcases al2 (val (u.drop (k+(lv+1))))with h4 |h4
  ·exact h4
  ·have:=ap0 (4294967296^lv) h4;omega
 have hd:=O1 (u:=u) (j:=k) (n:=lv+1) oz;rw[h0,Nat.mul_zero,amj]at hd;have hw:=cI hu k;have dP:=vQ (l:=u) (i:=k) oz;have hW:val (bP u k (lv+1))<V*4294967296:=by rw[<- hd,dP];omega
 have IQ:0<V:=by omega
 have hr:=alw (val (bP u k (lv+1))) IQ;have hm:=amy (val (bP u k (lv+1))) V;have bV:(bC (lv+1) (val (bP u k (lv+1))%V)).length=lv+1:=it _ _;have hx:val (bP u k (lv+1))%V<4294967296^(lv+1):=by rw[amp];omega
 have hwd:val ((wr u k (bC (lv+1) (val (bP u k (lv+1))%V))).drop k)=val (bP u k (lv+1))%V:=by
  rw[ads oz,bV,h0,pL _ _ hx];omega
 refine⟨hW,by omega,?_⟩;rw[ES (u:=wr u k _) (j:=k) (by rw[qR oz];omega),Pc oz,hwd,Ra hq,h2,ES (u:=u) (j:=k) oz,hd];generalize val (bP u k (lv+1))%V=r at *;generalize val (bP u k (lv+1))/V=d at *;rw[<- hm,amp];grind
theorem Tk{A Bv n Q R:Nat}(h:2^n*A=2^n*Bv*Q+R)(hR:R<2^n*Bv):Q=A/Bv/\R/2^n=A%Bv:=by
 obtain⟨h1,h2⟩:=CQ h hR;rw[Nat.mul_div_mul_left _ _ (al7 oz)]at h1;rw[Nat.mul_mod_mul_left]at h2;rw[<- h1,<- h2,Nat.mul_div_cancel_left _ (al7 oz)];exact⟨rfl,rfl⟩
end Go.Lw
namespace Go.Lw
theorem LA:∀k v,(bC (k+1) v).take k=bC k v
 |0,_=>by simp[bC]
 |k+1,v=>by
  rw[bC,List.take_succ_cons,LA k];rfl
theorem Vg{u:List Nat}{j n i:Nat}(h:i<n):ak (bP u j n) i=ak u (j+i):=by
 rw[<- Bi];simp[bP,ak,h]
theorem E9{u:List Nat}{j n i:Nat}(h:i<n)(h2:j+n<=u.length):(u.map u32)[j+i]?=some (u32 (ak (bP u j n) i)):=by
 rw[Vg h];exact dc oz
theorem aj8{b:List Nat}{n:Nat}(hb:Ws b)(nb:Nz b)(hl:b.length=n+2) :
  ∃sh v,sh=32-bm (ak b (n+1))/\sh<32/\v=bC (n+2) (2^sh*val b)/\Ws v/\v.length=n+2/\val v=2^sh*val b/\2147483648<=ak v (n+1)/\ak b (n+1)≠0 /\
   4294967296^(n+1)<=val b:=by
 have ht:ak b (n+1)≠0:=by
  refine nb _ ?_;rw[an3,hl];exact mC oz
 have htB:=cI hb (n+1);obtain⟨h1,h2,h3,h4⟩:=F2 ht htB;have h5:=CT (x:=ak b (n+1))
 have hv:val b=val (b.take (n+1))+4294967296^(n+1)*ak b (n+1):=by
  rw[<- eV,gS oz]
 have hlt:=uE hb (n+1)
 have Sd:2^(32-bm (ak b (n+1)))*(ak b (n+1)+1)<=4294967296:=by
  have:=ap0 (2^(32-bm (ak b (n+1)))) (show ak b (n+1)+1<=2^bm (ak b (n+1))from h5);rw[<- aqs,show 32-bm (ak b (n+1))+bm (ak b (n+1))=32 by omega]at this;exact this
 have DQ:4294967296^(n+1)<=val b:=by
  have:=ap0 (4294967296^(n+1)) (show 1<=ak b (n+1) by omega);omega
 generalize lJ:32-bm (ak b (n+1))=sh at *
 have hX:2^sh*val b<4294967296^(n+2):=by
  have e1:val b<4294967296^(n+1)*(ak b (n+1)+1):=by rw[ame];omega
  have e2:2^sh*val b<2^sh*(4294967296^(n+1)*(ak b (n+1)+1)):=(am3 (al7 oz)).2 e1;have e3:2^sh*(4294967296^(n+1)*(ak b (n+1)+1))=4294967296^(n+1)*(2^sh*(ak b (n+1)+1)):=by grind
  have e4:=ap0 (4294967296^(n+1)) Sd;rw[<- amp]at e4;rw[e3]at e2;exact aqd e2 e4
 refine⟨sh,_,rfl,by omega,rfl,nU _ _,it _ _,pL _ _ hX,?_,ht,DQ⟩
 have jA:val (bC (n+2) (2^sh*val b))=val ((bC (n+2) (2^sh*val b)).take (n+1))+4294967296^(n+1)*ak (bC (n+2) (2^sh*val b)) (n+1):=by
  rw[<- eV,gS (by rw[it];omega)]
 rw[pL _ _ hX]at jA;have DR:=uE (nU (n+2) (2^sh*val b)) (n+1)
 have e5:4294967296^(n+1)*(2^sh*ak b (n+1))<=2^sh*val b:=by
  have:=ap0 (2^sh) (show 4294967296^(n+1)*ak b (n+1)<=val b by omega);have e6:2^sh*(4294967296^(n+1)*ak b (n+1))=4294967296^(n+1)*(2^sh*ak b (n+1)):=by grind
  omega
 have e7:4294967296^(n+1)*(2^sh*ak b (n+1))<4294967296^(n+1)*(ak (bC (n+2) (2^sh*val b)) (n+1)+1):=by rw[ame (4294967296^(n+1)) _ 1];omega
 have:=amu e7;omega
theorem Pe{a:List Nat}{sh lq n Bv:Nat}(ha:Ws a)(lJ:sh<32)(hl:a.length+1=lq+(n+2))(hB:4294967296^(n+1)<=Bv) :
  val (bC (a.length+1) (2^sh*val a))=2^sh*val a/\val ((bC (a.length+1) (2^sh*val a)).drop lq)<2^sh*Bv:=by
 have h1:=cU a ha;have h2:2^sh<=2^31:=uz oz;have hp:0<2^sh:=al7 oz;have h3:2^sh*val a<2^sh*4294967296^a.length:=(am3 hp).2 h1
 have hX:2^sh*val a<4294967296^(a.length+1):=by
  have:=aqi (4294967296^a.length) (show 2^sh<=4294967296 by omega);rw[amp];omega
 refine⟨pL _ _ hX,?_⟩;have h4:=Cu (nU (a.length+1) (2^sh*val a)) lq (by rw[it];omega);rw[pL _ _ hX]at h4;rw[<- h4,al9 (al7 oz)];have h5:a.length=(n+1)+lq:=by omega
 rw[h5,aqs]at h3;have h6:=ap0 (2^sh) (aqi (4294967296^lq) hB);rw[alu];omega
theorem hH0{s:AS}:∀(k:Nat)(z:Blk),lk ([]:Hp) k=some z->s.blk k=some z:=fun _ _ h=>by cases h
theorem hH1{s:AS}{k0:Nat}{x:Blk}(h:s.blk k0=some x):∀(k:Nat)(z:Blk),lk [(k0,some x)] k=some z->s.blk k=some z:=by
 intro k z hz;rw[a5]at hz;split at hz
 ·rename_i e;cases hz;rw[e];exact h
 ·cases hz
theorem A6{s:AS}{x y x' y':AV}(h:Sub x x')(h':Sub y y'):aD s (fD [x,y]) (.tup [x',y']) []:=by
 refine aD.pure.sub ?_;intro g S m v hr;cases hr with
 |tup hn hr =>
  refine .tup (by simpa using hn) ?_;intro j u c hu hc
  match j,hc with
  |0,hc=>cases hc;exact h _ _ _ _ (hr 0 u x hu rfl)
  |1,hc=>cases hc;exact h' _ _ _ _ (hr 1 u y hu rfl)
theorem Vs{b v:List Nat}{n X:Nat}(hn:b.length=n+2)(h:v=bC (n+2) X) :
  AV.fz 900 1 ((bC (b.length+1) X).map u32) (.ms 900 1 0 b.length)=ws v:=by
 rw[Cq (by simp[it]),h,<- hn,aq1,<- map_take,LA,ws]
theorem QK{x:Nat}(h:1<=x)(hx:x<18446744073709551616):IntKind.u64.wrap (jv .sub (x:Int) 1)=((x-1:Nat):Int):=by
 have h1:=oK (x:=x) (y:=1) hx oz;rw[aq7 h]at h1;exact h1
theorem Oe{r g G R:Nat}:(cond (aa .lss (r:Int) 4294967296) (cond (aa .geq (g:Int) 4294967296) true (aa .gtr (G:Int) (R:Int))) false)=true ↔
  (r<4294967296/\(4294967296<=g\/R<G)):=by
 have e1:aa .lss (r:Int) 4294967296=decide (r<4294967296):=by rw[aov];simp only[aa,aq8];omega
 have e2:aa .geq (g:Int) 4294967296=decide (4294967296<=g):=by rw[aov];simp only[aa,aq8];omega
 have e3:aa .gtr (G:Int) (R:Int)=decide (R<G):=by rw[aov];simp only[aa,aq8];omega
 rw[e1,e2,e3]
 by_cases h1:r<4294967296
 ·by_cases h2:4294967296<=g
  ·rw[arb h1,arb h2];exact⟨fun _=>⟨h1,.inl h2⟩,fun _=>rfl⟩
  ·rw[arb h1,arc h2];show decide (R<G)=true↔_;rw[aq8];exact⟨fun h=>⟨h1,.inr h⟩,fun h=>h.2.resolve_left h2⟩
 ·rw[arc h1];constructor
  ·intro h;exact Bool.noConfusion h
  ·intro h;exact ard h.1 h1
theorem NN{u:List Nat}{k n V r:Nat}{l:List Nat}(hk:k+n<=u.length)(hl:l.length=n)(h:(val l+V)%4294967296^n=r) :
  wr (wr u k l) k (bC n ((val (bP (wr u k l) k n)+V)%4294967296^n))=wr u k (bC n r):=by
 subst hl;rw[YO oz (by rw[it]),aia oz,h]
theorem VB{s:AS}{k1 k2:Nat}{x1 x2:Blk}(h1:s.blk k1=some x1)(h2:s.blk k2=some x2):∀(k:Nat)(z:Blk),lk [(k1,some x1),(k2,some x2)] k=some z->s.blk k=some z:=by
 intro k z hz;rw[a5]at hz;split at hz
 ·rename_i e;cases hz;rw[e];exact h1
 ·rw[a5]at hz;split at hz
  ·rename_i e;cases hz;rw[e];exact h2
  ·cases hz
theorem aL{p:Prop}(h:p:=by first |exact hH0 |exact hH1 rfl |exact VB rfl rfl):p:=h
def ke(x y:Int):Int:=if x<y then -1 else if y<x then 1 else 0
theorem OU(b:Bool)(n:Nat):sgn (!b) n=-(sgn b n):=by cases b <;> simp[sgn]
theorem Wh.small{w:Wh}(h:w.ok)(hl:w.mag.length<aI):w.m.length<aI:=aqj Wh.m_le hl
theorem Lx{w:Wh}(h:w.ok):(w.m.length=0->w.z.sign=0)/\(w.m.length≠0->w.neg=true->w.z.sign=-1)/\(w.m.length≠0->w.neg=false->w.z.sign=1):=by
 have h1:w.m.length≠0->w.valid=true:=by
  intro h0;unfold Wh.m at h0;split at h0
  ·assumption
  ·exact ard rfl h0
 refine⟨?_,?_,?_⟩
 ·intro h0;have h2:w.m = []:=an1.1 h0;have h3:val w.m = 0:=by rw [h2]; rfl
  have:w.z=0:=by unfold Wh.z;rw[h3];split <;> rfl
  rw[this];rfl
 ·intro h0 hn;have h2:w.n = true:=by unfold Wh.n; rw [h1 h0,hn]; rfl
  have h3:=Wh.n_val h2;rw[aok];unfold Wh.z;rw[aq7 h2];omega
 ·intro h0 hn;have h2:w.n = false:=by unfold Wh.n; rw [h1 h0,hn]; rfl
  have h3:=tD w.nz (fun h=>h0 (by rw[h];rfl));rw[aol];unfold Wh.z;rw[h2];simp;omega
theorem P4{a b:Wh}(h:a.n=b.n):sgn a.n (val a.m+val b.m)=a.z+b.z:=by
 rw[Wh.z_eq,Wh.z_eq,<- h];unfold sgn;split <;> omega
theorem Hk{a b:Wh}(h:a.n≠b.n)(hl:val b.m<=val a.m):sgn a.n (val a.m-val b.m)=a.z+b.z:=by
 rw[Wh.z_eq,Wh.z_eq];cases ha:a.n <;> cases hb:b.n <;> simp_all [sgn] <;> omega
theorem LS{a b:Wh}(h:a.n≠b.n)(hl:val a.m<=val b.m):sgn b.n (val b.m-val a.m)=a.z+b.z:=by
 rw[Int.add_comm];exact Hk (fun h'=>h h'.symm) hl
theorem NG{a b:Wh}:sgn (a.n != b.n) (val a.m*val b.m)=a.z*b.z:=by
 rw[Wh.z_eq,Wh.z_eq];cases a.n <;> cases b.n <;> simp[sgn,Int.neg_mul,Int.mul_neg]
theorem Eu(z:Int):(z.sign=1/\0<z)\/(z.sign=0/\z=0)\/(z.sign=-1/\z<0):=by
 rcases aob z 0 with h |h |h
 ·exact .inr (.inr ⟨aok.2 h,h⟩)
 ·subst h;exact .inr (.inl ⟨rfl,rfl⟩)
 ·exact .inl ⟨aol.2 h,h⟩
theorem ag4{a b:Wh}(h:a.z.sign≠b.z.sign):(a.z.sign<b.z.sign->ke a.z b.z=-1)/\(¬a.z.sign<b.z.sign->ke a.z b.z=1):=by
 have h1:=Eu a.z;have h2:=Eu b.z;unfold ke;generalize a.z.sign=s at *;generalize b.z.sign=t at *;generalize a.z=x at *;generalize b.z=y at *;constructor <;> intro h3 <;> (repeat' split) <;> omega
theorem aau{a b:Wh}(h:a.z.sign=b.z.sign):ke a.z b.z=(if a.n then -(if val a.m<val b.m then -1 else if val b.m<val a.m then 1 else 0:Int)else if val a.m<val b.m then -1 else if val b.m<val a.m then 1 else 0):=by
 have ha:=Wh.n_eq (w:=a);have hb:=Wh.n_eq (w:=b);have h1:=aog a.z;have iT:=Wh.z_eq (w:=a);have jy:=Wh.z_eq (w:=b)
 have hn:a.n=b.n:=by
  rw[ha,hb,decide_eq_decide,<- aok,<- aok,h]
 rw[<- hn]at jy;unfold ke;rw[iT,jy];cases a.n <;> simp only[sgn,if_true,if_false,aoz] <;> (repeat' split) <;> omega
theorem PU{a b q r:Int}(hb:b≠0)(h:a=b*q+r)(h0:0<=r)(h1:r<b.natAbs):a/b=q/\a%b=r:=by
 have h2:=Int.mul_ediv_add_emod a b;have h3:=Int.emod_nonneg a hb;have h4:=Int.emod_lt a hb;have h5:b*(a/b-q)=r-a%b:=by rw[Int.mul_sub];omega
 have h6:a/b-q=0:=by
  rcases aob (a/b-q) 0 with h |h |h
  ·exfalso;have:b.natAbs <= (r - a % b).natAbs:=by rw [<- h5,an9]; exact Nat.le_mul_of_pos_right _ oz
   omega
  ·exact h
  ·exfalso;have:b.natAbs <= (r - a % b).natAbs:=by rw [<- h5,an9]; exact Nat.le_mul_of_pos_right _ oz
   omega
 rw[h6,Int.mul_zero]at h5;omega
theorem Nu{a b:Wh}(hb:val b.m≠0)(h:¬(a.n=true/\0<val a.m%val b.m)) :
  sgn (a.n != b.n) (val a.m/val b.m)=a.z/b.z/\(val a.m%val b.m:Nat)=a.z%b.z:=by
 have h1:=amy (val a.m) (val b.m);have h2:=alw (val a.m) (show 0<val b.m by omega);have hz:=Wh.abs (w:=b);have mr:b.z≠0:=by omega
 obtain⟨e1,e2⟩:=PU (a:=a.z) (b:=b.z) (q:=sgn (a.n != b.n) (val a.m/val b.m)) (r:=(val a.m%val b.m:Nat)) mr (by
  rw[Wh.z_eq,Wh.z_eq];generalize val a.m/val b.m=q at *;generalize val a.m%val b.m=r at *;rw[<- h1]
  have h9:a.n=true->r=0:=fun h3=>by
   rcases al2 r with h4 |h4
   ·exact h4
   ·exact ard ⟨h3,h4⟩ h
  cases ha:a.n with
  |false=>cases oC:b.n <;> simp[sgn] <;> grind
  |true=>have:=h9 ha;subst this;cases oC:b.n <;> simp[sgn] <;> grind) oz oz
 exact⟨e1.symm,e2.symm⟩
theorem KO{a b:Wh}(hb:val b.m≠0)(ha:a.n=true)(hr:0<val a.m%val b.m) :
  sgn (a.n != b.n) (val a.m/val b.m+1)=a.z/b.z/\((val b.m-val a.m%val b.m:Nat):Int)=a.z%b.z:=by
 have h1:=amy (val a.m) (val b.m);have h2:=alw (val a.m) (show 0<val b.m by omega);have hz:=Wh.abs (w:=b);have mr:b.z≠0:=by omega
 obtain⟨e1,e2⟩:=PU (a:=a.z) (b:=b.z) (q:=sgn (a.n != b.n) (val a.m/val b.m+1)) (r:=(val b.m-val a.m%val b.m:Nat)) mr (by
  rw[Wh.z_eq,Wh.z_eq];generalize val a.m/val b.m=q at *;generalize val a.m%val b.m=r at *;rw[<- h1,ha];cases oC:b.n <;> simp[sgn] <;> rw[Int.ofNat_sub oz] <;> grind) oz oz
 exact⟨e1.symm,e2.symm⟩
abbrev ir:Nat:=137438953472
def Zs(z:Int):Prop:=∃k,k<=274877906945/\Lz k z
theorem Zs.ok{z:Int}(h:Zs z):(ofInt z).ok:=by
 obtain⟨k,hk,hz⟩:=h;refine⟨eQ _,?_⟩;have:=hz.len;unfold bf;show(ofNat z.natAbs).length<=_;omega
theorem Zs.len{z:Int}(h:Zs z):(ofInt z).mag.length<=274877906945:=by
 obtain⟨k,hk,hz⟩:=h;have:=hz.len;show(ofNat z.natAbs).length<=_;omega
theorem Zs.neg{z:Int}(h:Zs z):Zs (-z):=by
 obtain⟨k,hk,hz⟩:=h;exact⟨k,hk,hz.neg⟩
theorem Zs.of_le{x y:Int}(h:Zs x)(h':y.natAbs<=x.natAbs):Zs y:=by
 obtain⟨k,hk,hz⟩:=h;exact⟨k,hk,hz.of_le h'⟩
structure Rt where
  neg:Bool
  num:List Nat
  den:List Nat
namespace Rt
def av(r:Rt):AV:=.agg [bl r.neg,ws r.num,ws r.den]
def n0(r:Rt):Wh:=⟨false,r.num⟩
def d0(r:Rt):Wh:=⟨false,r.den⟩
def valid(r:Rt):Bool :=
  if r.num=[]/\r.den=[]then !r.neg
  else if r.num=[]\/r.den=[]then false
  else r.n0.valid&&r.d0.valid&&decide (amo (val r.num) (val r.den)=1)
def q(r:Rt):Rat:=if r.valid=true/\r.num≠[]then mkRat (sgn r.neg (val r.num)) (val r.den)else 0
def ok(r:Rt):Prop:=Ws r.num/\Ws r.den/\r.num.length<=ir/\r.den.length<=ir
end Rt
def rt(q:Rat):Rt:=⟨decide (q.num<0),ofNat q.num.natAbs,if q.num=0 then[]else ofNat q.den⟩
def qA(q:Rat):AV:=(rt q).av
def Qs(q:Rat):Prop:=∃k,k<=ir/\Lz k q.num/\Lz k (q.den:Int)
theorem Qs.ok{q:Rat}(h:Qs q):(rt q).ok:=by
 obtain⟨k,hk,h1,h2⟩:=h;have h3:=h1.len;have h4:=h2.len;simp only[aqn]at h4;refine⟨eQ _,?_,by show(ofNat q.num.natAbs).length<=_;omega,?_⟩
 ·show Ws (if q.num=0 then[]else ofNat q.den);split
  ·exact Aa
  ·exact eQ _
 ·show(if q.num=0 then[]else ofNat q.den).length<=_;split
  ·simp
  ·omega
theorem Ir{n:Nat}:ofNat n=[]↔n=0:=by
 constructor
 ·intro h;have:=db n;rw[h]at this;exact this.symm
 ·intro h;rw[h];rfl
theorem NF{l:List Nat}(h:l≠[])(hz:Nz l):(⟨false,l⟩:Wh).valid=true:=by
 unfold Wh.valid;dsimp only;rw[aq6 h];cases hl:l.getLast? with
 |none=>rfl
 |some x=>have:=hz x hl;simp[this]
theorem O8{l:List Nat}{b:Bool}(h:l≠[])(hv:(⟨b,l⟩:Wh).valid=true):Nz l:=by
 unfold Wh.valid at hv;dsimp only at hv;rw[aq6 h]at hv;intro x hx ik;rw[hx,ik]at hv;simp at hv
theorem yb(q:Rat):(rt q).valid=true:=by
 unfold rt Rt.valid Rt.n0 Rt.d0;dsimp only
 by_cases h:q.num=0
 ·rw[aq7 h,h];rfl
 ·rw [aq6 h];have h1:ofNat q.num.natAbs ≠ []:=fun h'=>h (by have:=Ir.1 h'; omega)
  have h2:ofNat q.den≠[]:=fun h'=>q.den_nz (Ir.1 h')
  rw[aq6 (fun h'=>h1 h'.1),aq6 (by simp[h1,h2]),NF h1 (wz _),NF h2 (wz _),db,db];have:=q.reduced;unfold Nat.Coprime at this;simp[this]
theorem bN(q:Rat):(rt q).q=q:=by
 unfold Rt.q
 by_cases h:q.num=0
 ·rw[aq6]
  ·exact(Rat.num_eq_zero.1 h).symm
  ·intro h';exact h'.2 (by show ofNat _=[];rw[h];rfl)
 ·have h1 : ofNat q.num.natAbs ≠ [] := fun h' => h (by have := Ir.1 h'; omega)
  rw[aq7 ⟨yb q,h1⟩];show mkRat (sgn (decide (q.num<0)) (val (ofNat q.num.natAbs))) (val (if q.num=0 then[]else ofNat q.den))=q;rw[aq6 h,db,db]
  have:sgn (decide (q.num<0)) q.num.natAbs=q.num:=by
   unfold sgn;generalize q.num=z
   by_cases h2:z<0
   ·rw[aq7 (arb h2)];omega
   ·rw[aq6 (by rw[aq8];exact h2)];omega
  rw[this,Rat.mkRat_self]
theorem Rt.parts{r:Rt}(h:r.ok)(hv:r.valid=true)(h0:r.num≠[]) :
  r.q.num=sgn r.neg (val r.num)/\r.q.den=val r.den/\ofNat (val r.num)=r.num/\ofNat (val r.den)=r.den/\val r.num≠0/\val r.den≠0:=by
 have hv':=hv;unfold Rt.valid at hv;rw[aq6 (fun h'=>h0 h'.1)]at hv;split at hv
 ·cases hv
 ·rename_i h1;simp only[apw,aq8]at hv;obtain⟨⟨hn,hd⟩,hg⟩:=hv;have h2:r.den≠[]:=fun h'=>h1 (.inr h')
  have nn:=O8 h0 hn;have nd:=O8 h2 hd;have pn:=tD nn h0;have pd:=tD nd h2;have hq:r.q=mkRat (sgn r.neg (val r.num)) (val r.den):=by unfold Rt.q;rw[aq7 ⟨hv',h0⟩]
  have hs:(sgn r.neg (val r.num)).natAbs=val r.num:=by unfold sgn;split <;> omega
  have fK : r.q = ⟨sgn r.neg (val r.num), val r.den, by omega, by unfold Nat.Coprime; rw [hs]; exact hg⟩ := by
   rw[hq];exact(Rat.mk_eq_mkRat _ _ _ _).symm
  refine⟨by rw[fK],by rw[fK],vG h.1 nn,vG h.2.1 nd,by omega,by omega⟩
theorem Rt.zero{r:Rt}(h:¬(r.valid=true/\r.num≠[])):r.q=0:=by unfold Rt.q;rw[aq6 h]
theorem Rt.eq_rt{r:Rt}(h:r.ok)(hv:r.valid=true):r=rt r.q:=by
 by_cases h0:r.num=[]
 ·have hq:=Rt.zero (r:=r) (fun h'=>h'.2 h0);rw[hq];unfold Rt.valid at hv
  by_cases h1:r.den=[]
  ·rw[aq7 ⟨h0,h1⟩]at hv;obtain⟨n,a,b⟩:=r;dsimp only at *;subst h0;subst h1
   cases n
   ·rfl
   ·cases hv
  ·rw[aq6 (fun h'=>h1 h'.2),aq7 (.inl h0)]at hv;cases hv
 ·obtain ⟨h1, h2, h3, h4, h5, h6⟩:=Rt.parts h hv h0;unfold rt;have hn:r.q.num ≠ 0:=by rw [h1]; unfold sgn; split <;> omega
  rw[aq6 hn,h2,h4];have h7:r.q.num.natAbs=val r.num:=by rw[h1];unfold sgn;split <;> omega
  have h8:decide (r.q.num<0)=r.neg:=by rw[h1];unfold sgn;cases r.neg <;> simp <;> omega
  rw[h7,h3,h8]
theorem Rt.ok.qs{r:Rt}(h:r.ok):Qs r.q:=by
 by_cases h0:r.valid=true/\r.num≠[]
 ·obtain ⟨h1, h2, h3, h4, h5, h6⟩:=Rt.parts h h0.1 h0.2;refine ⟨max r.num.length r.den.length,by have:=h.2.2; omega,?_,?_⟩
  ·unfold Lz;have:r.q.num.natAbs = val r.num:=by rw [h1]; unfold sgn; split <;> omega
   rw[this];exact aqd (cU _ h.1) (amk oz oz)
  ·unfold Lz;rw[h2];exact aqd (cU _ h.2.1) (amk oz oz)
 ·rw[Rt.zero h0];exact⟨1,by unfold ir;omega,by unfold Lz;decide,by unfold Lz;decide⟩
theorem Qs.num{q:Rat}(h:Qs q):Zs q.num:=by
 obtain⟨k,hk,h1,h2⟩:=h;exact⟨k,by unfold ir at hk;omega,h1⟩
theorem Qs.den{q:Rat}(h:Qs q):Zs q.den:=by
 obtain⟨k,hk,h1,h2⟩:=h;exact⟨k,by unfold ir at hk;omega,h2⟩
theorem Qs.mul{p q:Rat}(h:Qs p)(h':Qs q):Zs (p.num*q.den)/\Zs (p.num*q.num)/\Zs ((p.den:Int)*q.den)/\Zs ((p.den:Int)*q.num):=by
 obtain⟨k,hk,h1,h2⟩:=h;obtain⟨l,hl,h3,h4⟩:=h';unfold ir at *;exact⟨⟨k+l,by omega,h1.mul h4⟩,⟨k+l,by omega,h1.mul h3⟩,⟨k+l,by omega,h2.mul h4⟩,⟨k+l,by omega,h2.mul h3⟩⟩
theorem Qs.cross{p q:Rat}(h:Qs p)(h':Qs q):Zs (p.num*q.den+q.num*p.den):=by
 obtain⟨k,hk,h1,h2⟩:=h;obtain⟨l,hl,h3,h4⟩:=h';unfold ir at *;have:=(h1.mul h4).add (h3.mul h2);exact⟨_,by omega,this⟩
theorem Qs.neg{p:Rat}(h:Qs p):Qs (-p):=by
 obtain⟨k,hk,h1,h2⟩:=h;refine⟨k,hk,?_,?_⟩
 ·rw[Rat.neg_num];exact h1.neg
 ·rw[Rat.neg_den];exact h2
theorem Qs.zero:Qs 0:=⟨1,by unfold ir;omega,by unfold Lz;decide,by unfold Lz;decide⟩
theorem Rt.ok.n0{r:Rt}(h:r.ok):r.n0.ok:=⟨h.1,by have:=h.2.2.1;unfold ir at this;unfold bf;exact aqe this oz⟩
theorem Rt.ok.d0{r:Rt}(h:r.ok):r.d0.ok:=⟨h.2.1,by have:=h.2.2.2;unfold ir at this;unfold bf;exact aqe this oz⟩
theorem Rt.ok.n0l{r:Rt}(h:r.ok):r.n0.mag.length<aI:=by have:=h.2.2.1;unfold ir at this;unfold aI;exact aqj this oz
theorem Rt.ok.d0l{r:Rt}(h:r.ok):r.d0.mag.length<aI:=by have:=h.2.2.2;unfold ir at this;unfold aI;exact aqj this oz
theorem Do:Zs 1:=⟨1,by omega,by unfold Lz;decide⟩
theorem Rt.gcd_zs{r:Rt}(h:r.ok):Zs (aoa r.n0.z r.d0.z):=by
 have h1:=Wh.lz h.n0;have h2:=Wh.lz h.d0;have h3:r.n0.mag.length<=137438953472:=h.2.2.1;have h4:r.d0.mag.length<=137438953472:=h.2.2.2
 by_cases h0:r.n0.z=0
 ·rw[h0,Int.gcd_zero_left];exact⟨r.d0.mag.length,by omega,by unfold Lz at *;simpa using h2⟩
 ·refine⟨r.n0.mag.length,by omega,h1.of_le ?_⟩;simp only[aqn];exact Nat.le_of_dvd oz (Int.gcd_dvd_natAbs_left _ _)
theorem afk{n:Nat}:ke (n:Int) 1=0↔n=1:=by
 unfold ke;split
 ·constructor <;> intro h <;> omega
 ·split <;> constructor <;> intro h <;> omega
theorem PN{l:List Nat}(h:(⟨false,l⟩:Wh).valid=true):(⟨false,l⟩:Wh).z=val l:=by
 unfold Wh.z Wh.n Wh.m;simp[h]
theorem FW{r:Rt}(h0:¬(r.num=[]/\r.den=[]))
  (h:cond (cond (cond (aa .eql (r.num.length:Int) 0) true (aa .eql (r.den.length:Int) 0)) true (!r.n0.valid)) true (!r.d0.valid)=true):r.valid=false:=by
 unfold Rt.valid;rw[aq6 h0];split
 ·rfl
 ·next h1 =>
  have hn:r.num≠[]:=fun h=>h1 (.inl h)
  have hd:r.den≠[]:=fun h=>h1 (.inr h)
  have e1:aa .eql (r.num.length:Int) 0=false:=by simp[aa,hn]
  have e2:aa .eql (r.den.length:Int) 0=false:=by simp[aa,hd]
  rw[e1,e2]at h;cases hv:r.n0.valid <;> cases hw:r.d0.valid <;> simp_all
theorem KZ{r:Rt}(h0:¬(r.num=[]/\r.den=[]))
  (h:cond (cond (cond (aa .eql (r.num.length:Int) 0) true (aa .eql (r.den.length:Int) 0)) true (!r.n0.valid)) true (!r.d0.valid)=false) :
  r.valid=aa .eql (ke (aoa r.n0.z r.d0.z) 1) 0:=by
 unfold Rt.valid;rw[aq6 h0];cases e1:aa .eql (r.num.length:Int) 0
 ·cases e2:aa .eql (r.den.length:Int) 0
  ·have hn : r.num ≠ [] := by simpa [aa] using e1
   have hd:r.den≠[]:=by simpa[aa]using e2
   rw[e1,e2]at h;cases hv:r.n0.valid <;> cases hw:r.d0.valid <;> simp[hv,hw]at h
   rw[aq6 (by simp[hn,hd])];have z1:r.n0.z=val r.num:=PN hv;have z2:r.d0.z=val r.den:=PN hw;rw[z1,z2];show(true&&true&&decide _)=decide _;simp only[Bool.and_self,Bool.true_and];rw[aov];simp only[aq8];exact afk.symm
  ·rw[e1,e2]at h;simp at h
 ·rw[e1]at h;simp at h
theorem QF{b:Bool}{num den:List Nat}(e3:ofNat (val num)=num)(e4:ofNat (val den)=den)(e5:val num≠0) :
  AV.tup [.agg [bl b,ws num],.agg [bl false,ws den]]=.tup [zA (sgn b (val num)),zA ((val den:Nat):Int)]:=by
 unfold zA ofInt Wh.av;have h1:(sgn b (val num)).natAbs=val num:=by unfold sgn;split <;> omega
 have h2:decide (sgn b (val num)<0)=b:=by unfold sgn;cases b <;> simp <;> omega
 have h3:decide (((val den:Nat):Int)<0)=false:=by simp
 dsimp only;rw[h1,h2,h3,e3,aqn,e4]
inductive SubL:List AV->List AV->Prop
  |nil:SubL [] []
  |cons {x y:AV} {l l':List AV} (h:Sub x y) (hl:SubL l l'):SubL (x::l) (y::l')
theorem SubL.len{l l':List AV}(h:SubL l l'):l.length=l'.length:=by induction h with |nil=>rfl |cons _ _ ih=>simp[ih]
theorem SubL.get{l l':List AV}(h:SubL l l'):∀(j:Nat)(x y:AV),l[j]?=some x->l'[j]?=some y->Sub x y:=by
 induction h with
 |nil=>intro j x y h;simp at h
 |cons h _ ih =>
  intro j x y hx hy;cases j with
  |zero=>simp at hx hy;subst hx;subst hy;exact h
  |succ j=>simp at hx hy;exact ih j x y hx hy
theorem Sub.tup{l l':List AV}(h:SubL l l'):Sub (.tup l) (.tup l'):=by
 intro g S m v hv;cases hv with
 |tup hn hr =>
  refine .tup (by rw[hn,h.len]) (fun j u y hu hy=>?_);obtain⟨x,hx⟩:=l0 h.len.symm hy;exact h.get j x y hx hy _ _ _ _ (hr j u x hu hx)
theorem Sub.agg{l l':List AV}(h:SubL l l')(ho:l'.all AV.one=true):Sub (.agg l) (.agg l'):=by
 intro g S m v hv;cases hv with
 |agg hn h1 hr =>
  refine .agg (by rw[hn,h.len]) (fun j c hc=>ap3.1 ho c (apo hc)) (fun j u y hu hy=>?_);obtain⟨x,hx⟩:=l0 h.len.symm hy;exact h.get j x y hx hy _ _ _ _ (hr j u x hu hx)
theorem BlkSub.bL{l l':List AV}(h:SubL l l')(ho:l'.all AV.one=true):BlkSub (.box l) (.box l') :=
 .box h.len (fun j c hc=>ap3.1 ho c (apo hc)) (fun j x y hx hy=>h.get j x y hx hy)
theorem Ku:Sub (.agg [.v (.bool false),.v (.slice none 0 0)]) (zA 0):=.agg (.cons (.refl _) (.cons (.nil _ _ _) .nil)) rfl
theorem mV:Sub (.agg [.v (.bool false),.v (.slice none 0 0),.v (.slice none 0 0)]) (qA 0):=.agg (.cons (.refl _) (.cons (.nil _ _ _) (.cons (.nil _ _ _) .nil))) rfl
theorem Jy{n d:Int}(hd:0<d)(hn:n≠0) :
  (aop n d).num=n/(aoa n d:Int)/\(aop n d).den=d.natAbs/aoa n d:=by
 constructor
 ·rw[Rat.num_divInt,Int.sign_eq_one_of_pos hd,Int.one_mul,Int.gcd_comm]
 ·rw[Rat.den_divInt,aq6 oz,Int.gcd_comm]
theorem Xh{n d:Int}(hd:0<d)(hn:n≠0) :
  AV.agg [bl (decide (n<0)),ws (ofNat (((n.natAbs:Int)/(aoa n d:Int)).natAbs)),ws (ofNat ((d/(aoa n d:Int)).natAbs))]=qA (aop n d):=by
 obtain⟨h1,h2⟩:=Jy hd hn;obtain⟨g,hg⟩:∃g,g=aoa n d:=⟨_,rfl⟩
 have Se:0<g:=by rw[hg];exact Int.gcd_pos_of_ne_zero_left _ hn
 have hgn:(g:Int)∣n:=by rw[hg];exact Int.gcd_dvd_left ..
 rw[<- hg]at h1 h2 ⊢;clear hg;obtain⟨k,hk⟩:=hgn;have f8:n/(g:Int)=k:=by rw[hk];exact Int.mul_ediv_cancel_left _ oz
 have gz:k≠0:=by intro h;rw[h]at hk;simp at hk;exact hn hk
 have hs:decide (n<0)=decide (k<0):=by
  rw[decide_eq_decide,hk];constructor
  ·intro h;rcases aob k 0 with h' |h' |h'
   ·exact h'
   ·exact ard h' gz
   ·exact ard (aod (Int.natCast_nonneg g) (Int.le_of_lt h')) oz
  ·intro h;exact Int.mul_neg_of_pos_of_neg oz h
 have DN:((n.natAbs:Int)/(g:Int)).natAbs=k.natAbs:=by
  rw[hk,an9,aqn];rw[show((g*k.natAbs:Nat):Int)/(g:Int)=((g*k.natAbs/g:Nat):Int) by exact(aoi _ _).symm];rw[Nat.mul_div_cancel_left _ Se];omega
 have hda:(d/(g:Int)).natAbs=d.natAbs/g:=by
  have:d=(d.natAbs:Int):=by omega
  rw[this,<- aoi,aqn,aqn]
 unfold qA rt Rt.av;rw[h1,h2,f8,DN,hda,hs];dsimp only;rw[aq6 gz]
theorem Kd(n d:Int):aop (-n) (-d)=aop n d:=Rat.neg_divInt_neg n d
theorem FN(p q:Rat):aop (p.num*q.den+q.num*p.den) ((p.den:Int)*q.den)=p+q:=by
 rw[<- Rat.divInt_add_divInt _ _ (by have:=p.den_nz;omega) (by have:=q.den_nz;omega),aom,aom]
theorem HN(p q:Rat):aop (p.num*q.num) ((p.den:Int)*q.den)=p*q:=by
 rw[<- Rat.divInt_mul_divInt,aom,aom]
theorem Lq(p:Rat):aop (-p.num) p.den=-p:=by
 rw[<- Rat.neg_num,<- Rat.neg_den,aom]
theorem Px(p q:Rat):aop (p.num*q.den) ((p.den:Int)*q.num)=p/q:=by
 rw[aon,<- Rat.divInt_mul_divInt,aom];congr 1;rw[<- Rat.inv_divInt,aom]
theorem Zx(p:Rat):p.num<0↔p<0:=by
 rw[Rat.lt_iff];simp
theorem To(p:Rat):0<p.num↔0<p:=by
 rw[Rat.lt_iff];simp
def ci(p:Rat):Int:=if p<0 then -1 else if 0<p then 1 else 0
theorem KP(p:Rat):p.num.sign=ci p:=by
 unfold ci
 by_cases h:p<0
 ·rw[aq7 h];exact aok.2 ((Zx p).2 h)
 ·rw[aq6 h]
  by_cases h':0<p
  ·rw[aq7 h'];exact aol.2 ((To p).2 h')
  ·rw [aq6 h'];have:p = 0:=by grind
   rw[this];rfl
theorem Zz(p q:Rat):ci (p-q)=if p<q then -1 else if q<p then 1 else 0:=by
 unfold ci
 by_cases h:p<q
 ·rw[aq7 h,aq7 (by grind)]
 ·rw [aq6 h, aq6 (by grind)]
  by_cases h':q<p
  ·rw[aq7 h',aq7 (by grind)]
  ·rw[aq6 h',aq6 (by grind)]
theorem Tp(p q:Rat):ke (p.num*q.den) (q.num*p.den)=ci (p-q):=by
 rw[Zz];unfold ke;simp only[Rat.lt_iff]
theorem W6{n d:Int}(hd:0<d)(hn:n≠0) :
  AV.agg [bl (decide (n/(aoa n d:Int)<0)),ws (ofNat ((n/(aoa n d:Int)).natAbs)),ws (ofNat ((d/(aoa n d:Int)).natAbs))]=qA (aop n d):=by
 obtain⟨h1,h2⟩:=Jy hd hn
 have h3:(d/(aoa n d:Int)).natAbs=d.natAbs/aoa n d:=by
  have:d=(d.natAbs:Int):=by omega
  generalize aoa n d=g;rw[this,<- aoi,aqn,aqn]
 have h4:n/(aoa n d:Int)≠0:=by
  rw[<- h1];intro h
  have h5:=Rat.num_eq_zero.1 h;have h6:=(Rat.divInt_eq_divInt_iff (show d≠0 by omega) (show(1:Int)≠0 by decide)).1 (h5.trans (Rat.zero_divInt 1).symm);omega
 unfold qA rt Rt.av;rw[h1,h2,h3];dsimp only;rw[aq6 h4]
def Qb(e:Nat)(q:Rat):Prop:=q.num.natAbs<2^e/\q.den<2^e
theorem Qb.mono{e f:Nat}{q:Rat}(h:Qb e q)(hf:e<=f):Qb f q :=
 ⟨aqd h.1 (amk oz hf),aqd h.2 (amk oz hf)⟩
theorem Qb.qs{e:Nat}{q:Rat}(h:Qb e q)(he:e<=4398046511104):Qs q:=by
 have h2:(4294967296:Nat)=2^32:=by decide
 have h3:∀x,x<2^e->x<4294967296^(e/32+1):=by
  intro x hx;rw[h2,<- amd];exact aqd hx (amk oz oz)
 by_cases h4:e=4398046511104
 ·obtain⟨k,hk⟩:∃k,k=137438953472:=⟨_,rfl⟩
  refine⟨k,by unfold ir;omega,?_,?_⟩
  ·unfold Lz;have:=h.1;rw[h2,<- amd];exact aqd this (amk oz oz)
  ·unfold Lz;have:=h.2;rw[h2,<- amd];exact aqd this (amk oz oz)
 ·exact⟨e/32+1,by unfold ir;omega,h3 _ h.1,h3 _ h.2⟩
theorem Qb.neg{e:Nat}{q:Rat}(h:Qb e q):Qb e (-q):=by
 refine⟨?_,?_⟩
 ·rw[Rat.neg_num,Int.natAbs_neg];exact h.1
 ·rw[Rat.neg_den];exact h.2
theorem BA{n d:Int}(h0:d≠0):(aop n d).num.natAbs<=n.natAbs/\(aop n d).den<=d.natAbs:=by
 constructor
 ·rw[Rat.num_divInt]
  have h1:(d.sign*n).natAbs=n.natAbs:=by
   rw[an9,Int.natAbs_sign_of_ne_zero h0,Nat.one_mul]
  rw[<- h1];exact Int.natAbs_ediv_le_natAbs _ _
 ·rw[Rat.den_divInt,aq6 h0];exact amc _ _
theorem Qb.mul{e f:Nat}{p q:Rat}(h:Qb e p)(h':Qb f q):Qb (e+f) (p*q):=by
 rw[<- HN];have h0:((p.den:Int)*q.den)≠0:=aof (by have:=p.den_nz;omega) (by have:=q.den_nz;omega);obtain⟨h1,h2⟩:=BA (n:=p.num*q.num) h0;refine⟨aqj h1 ?_,aqj h2 ?_⟩
 ·rw[an9,aqs];exact amh h.1 h'.1
 ·rw[an9,aqs,aqn,aqn];exact amh h.2 h'.2
theorem Qb.add{e f:Nat}{p q:Rat}(h:Qb e p)(h':Qb f q):Qb (e+f+1) (p+q):=by
 rw[<- FN];have h0:((p.den:Int)*q.den)≠0:=aof (by have:=p.den_nz;omega) (by have:=q.den_nz;omega);obtain⟨h1,h2⟩:=BA (n:=p.num*q.den+q.num*p.den) h0;refine⟨aqj h1 ?_,aqj h2 ?_⟩
 ·have h3:=Int.natAbs_add_le (p.num*q.den) (q.num*p.den);rw[an9,an9,aqn,aqn]at h3;have h4:=amh h.1 h'.2;have h5:=amh h'.1 h.2;rw[amp,aqs];rw[alx (2^f)]at h5;omega
 ·rw[an9,aqn,aqn,amp,aqs];have:=amh h.2 h'.2;omega
theorem Qb.sub{e f:Nat}{p q:Rat}(h:Qb e p)(h':Qb f q):Qb (e+f+1) (p-q):=by
 rw[aoo];exact h.add h'.neg
theorem Qb.div{e f:Nat}{p q:Rat}(h:Qb e p)(h':Qb f q):Qb (e+f) (p/q):=by
 by_cases h0:q=0
 ·subst h0;rw[aon,Rat.inv_zero,Rat.mul_zero];have h1:0<2^e:=amf e;have h2:=h.2;have h3:=p.den_nz;refine⟨?_,?_⟩
  ·exact amf _
  ·show 1<2^(e+f);have:2^e<=2^(e+f):=amk oz oz;omega
 ·rw [<- Px];have h0':((p.den:Int) * q.num) ≠ 0:=aof (by have:=p.den_nz; omega) (fun h=>h0 (Rat.num_eq_zero.1 h));obtain ⟨h1,h2⟩:=BA (n:=p.num * q.den) h0';refine ⟨aqj h1 ?_,aqj h2 ?_⟩
  ·rw[an9,aqs,aqn];exact amh h.1 h'.2
  ·rw[an9,aqs,aqn];exact amh h.2 h'.1
theorem Qb.zero:Qb 1 0:=⟨by decide,by decide⟩
theorem Qb.one:Qb 1 1:=⟨by decide,by decide⟩
theorem Rt.qb{r:Rt}{k:Nat}(h:r.ok)(hk:1<=k)(hn:r.num.length<=k)(hd:r.den.length<=k):Qb (32*k) r.q:=by
 have hB:∀{l:List Nat},Ws l->l.length<=k->val l<2^(32*k):=by
  intro l hw hl;have h1:=cU l hw;have h2:(4294967296:Nat)=2^32:=by decide
  rw[h2,<- amd]at h1;exact aqd h1 (amk oz oz)
 by_cases h0:r.valid=true/\r.num≠[]
 ·obtain⟨h1,h2,h3,h4,h5,h6⟩:=Rt.parts h h0.1 h0.2;refine⟨?_,?_⟩
  ·have : r.q.num.natAbs = val r.num := by rw [h1]; unfold sgn; split <;> omega
   rw[this];exact hB h.1 hn
  ·rw[h2];exact hB h.2.1 hd
 ·rw[Rt.zero h0];exact Qb.zero.mono oz
theorem agu{r:Rt}(h0:¬(r.num=[]/\r.den=[])) :
  r.valid=cond (cond (!decide (r.num=[])&&(⟨false,r.num⟩:Wh).valid) (!decide (r.den=[])&&(⟨false,r.den⟩:Wh).valid) false) (aa .eql (ke (aoa r.n0.z r.d0.z) 1) 0) false:=by
 by_cases h1:r.num=[]
 ·unfold Rt.valid;rw[aq6 h0,aq7 (.inl h1)];simp[h1]
 ·by_cases h2:r.den=[]
  ·unfold Rt.valid;rw[aq6 h0,aq7 (.inr h2)];simp[h2]
  ·have e1 : aa .eql (r.num.length : Int) 0 = false := by simp [aa, h1]
   have e2:aa .eql (r.den.length:Int) 0=false:=by simp[aa,h2]
   have n0:(⟨false,r.num⟩:Wh)=r.n0:=rfl;have d0:(⟨false,r.den⟩:Wh)=r.d0:=rfl;rw[n0,d0];cases hv:r.n0.valid
   ·rw[FW h0 (by simp[hv,e1,e2])];simp
   ·cases hw:r.d0.valid
    ·rw[FW h0 (by simp[hv,hw,e1,e2])];simp
    ·rw[KZ h0 (by simp[hv,hw,e1,e2])];simp[h1,h2]
theorem Con.sA{P:arj}{f:FuncId}{args args':List AV}{H H':Hp}{r:AV}(h:SubL args' args)(hc:Con P f args H r H'):Con P f args' H r H':=by
 refine⟨hc.ok,?_⟩;intro ext m w vs hext cQ dW dC;refine hc.ret ext m w vs hext cQ (by rw[dW,h.len]) (fun j v x hv hx=>?_);obtain⟨y,hy⟩:=l0 h.len.symm hx;exact h.get j y x hy hx _ _ _ _ (dC j v y hv hy)
@[reducible] def T:Nat->Type
  |0=>Rat
  |k+1=>T k×T k
namespace T
def zero:(k:Nat)->T k
  |0=>(0:Rat)
  |k+1=>(zero k,zero k)
def ofQ:(k:Nat)->Rat->T k
  |0,q=>q
  |k+1,q=>(ofQ k q,zero k)
def add:(k:Nat)->T k->T k->T k
  |0,x,y=>Rat.add x y
  |k+1,x,y=>(add k x.1 y.1,add k x.2 y.2)
def neg:(k:Nat)->T k->T k
  |0,x=>Rat.neg x
  |k+1,x=>(neg k x.1,neg k x.2)
def mul(r:(k:Nat)->T k):(k:Nat)->T k->T k->T k
  |0,x,y=>Rat.mul x y
  |k+1,x,y=>(add k (mul r k x.1 y.1) (mul r k (mul r k x.2 y.2) (r k)),add k (mul r k x.1 y.2) (mul r k x.2 y.1))
def norm(r:(k:Nat)->T k)(k:Nat)(x:T (k+1)):T k:=add k (mul r k x.1 x.1) (neg k (mul r k (mul r k x.2 x.2) (r k)))
def sgn3(sx sy sd sn:Int):Int:=if sd=0 then sx else if sx=sy\/sy=0 then sx else if sx=0 then sy else sx*sn
def sgn(r:(k:Nat)->T k):(k:Nat)->T k->Int
  |0,x=>ci x
  |k+1,x=>sgn3 (sgn r k x.1) (sgn r k x.2) (sgn r k (r k)) (sgn r k (norm r k x))
theorem add_zero:∀(k:Nat)(x:T k),add k x (zero k)=x
 |0,x=>Rat.add_zero x
 |k+1,x=>by simp only[add,zero,add_zero k]
theorem zero_add:∀(k:Nat)(x:T k),add k (zero k) x=x
 |0,x=>Rat.zero_add x
 |k+1,x=>by simp only[add,zero,zero_add k]
theorem add_comm:∀(k:Nat)(x y:T k),add k x y=add k y x
 |0,x,y=>Rat.add_comm x y
 |k+1,x,y=>by simp only[add,add_comm k x.1,add_comm k x.2]
theorem add_assoc:∀(k:Nat)(x y z:T k),add k (add k x y) z=add k x (add k y z)
 |0,x,y,z=>Rat.add_assoc x y z
 |k+1,x,y,z=>by simp only[add,add_assoc k]
theorem neg_zero:∀(k:Nat),neg k (zero k)=zero k
 |0=>by show -(0:Rat)=0;grind
 |k+1=>by simp only[neg,zero,neg_zero k]
theorem add_neg:∀(k:Nat)(x:T k),add k x (neg k x)=zero k
 |0,x=>by show(x:Rat)+-x=0;grind
 |k+1,x=>by simp only[add,neg,zero,add_neg k]
theorem zero_mul(r:(k:Nat)->T k):∀(k:Nat)(x:T k),mul r k (zero k) x=zero k
 |0,x=>Rat.zero_mul x
 |k+1,x=>by simp only[mul,zero,zero_mul r k,add_zero]
theorem mul_zero(r:(k:Nat)->T k):∀(k:Nat)(x:T k),mul r k x (zero k)=zero k
 |0,x=>Rat.mul_zero x
 |k+1,x=>by
  simp only[mul,zero,mul_zero r k,add_zero]
  have h:mul r k (zero k) (r k)=zero k:=by
   have:=zero_mul r k (r k);exact this
  rw[h];simp only[add_zero]
theorem mul_comm(r:(k:Nat)->T k):∀(k:Nat)(x y:T k),mul r k x y=mul r k y x
 |0,x,y=>Rat.mul_comm x y
 |k+1,x,y=>by
  simp only[mul];rw[mul_comm r k x.1 y.1,mul_comm r k x.2 y.2,mul_comm r k x.1 y.2,mul_comm r k x.2 y.1,add_comm k (mul r k y.2 x.1)]
theorem sgn_zero(r:(k:Nat)->T k):∀k,sgn r k (zero k)=0
 |0=>rfl
 |k+1=>by
  simp only[sgn,zero,sgn_zero r k,sgn3];split
  ·rfl
  ·simp
theorem sgn_low(r:(k:Nat)->T k)(k:Nat)(x:T k):sgn r (k+1) (x,zero k)=sgn r k x:=by
 simp only[sgn,sgn_zero,sgn3];split
 ·rfl
 ·simp
theorem sgnQ_cases(q:Rat):ci q=-1\/ci q=0\/ci q=1:=by
 unfold ci;split
 ·exact .inl rfl
 ·split
  ·exact .inr (.inr rfl)
  ·exact .inr (.inl rfl)
theorem sgn_cases(r:(k:Nat)->T k):∀(k:Nat)(x:T k),sgn r k x=-1\/sgn r k x=0\/sgn r k x=1
 |0,x=>sgnQ_cases x
 |k+1,x=>by
  simp only[sgn,sgn3];have h1:=sgn_cases r k x.1;have h2:=sgn_cases r k x.2;have h4:=sgn_cases r k (norm r k x);split
  ·exact h1
  ·split
   ·exact h1
   ·split
    ·exact h2
    ·rcases h1 with h |h |h <;> rcases h4 with h' |h' |h' <;> rw[h,h'] <;> simp
end T
def af:(k:Nat)->List Rat->T k
  |0,l=>l.getD 0 0
  |k+1,l=>(af k (l.take (2^k)),af k (l.drop (2^k)))
theorem oN{l:List Rat}{n i:Nat}:(l.take n).getD i 0=if i<n then l.getD i 0 else 0:=by
 simp only[apq,aqh];split <;> simp
theorem o5{l:List Rat}{n i:Nat}:(l.drop n).getD i 0=l.getD (n+i) 0:=by
 simp only[apq,aqv]
theorem tQ:∀(k:Nat){a b:List Rat},(∀i,i<2^k->a.getD i 0=b.getD i 0)->af k a=af k b
 |0,a,b,h=>h 0 (by decide)
 |k+1,a,b,h=>by
  have h1:=tQ k (a:=a.take (2^k)) (b:=b.take (2^k)) (fun i hi=>by rw[oN,oN,aq7 hi,aq7 hi];exact h i (by rw[amp];omega));have h2:=tQ k (a:=a.drop (2^k)) (b:=b.drop (2^k)) (fun i hi=>by rw[o5,o5];exact h _ (by rw[amp];omega));simp only[af,h1,h2]
theorem F9:∀(k:Nat){a b c:List Rat},(∀i,i<2^k->c.getD i 0=a.getD i 0+b.getD i 0)->af k c=T.add k (af k a) (af k b)
 |0,a,b,c,h=>h 0 (by decide)
 |k+1,a,b,c,h=>by
  have h1:=F9 k (a:=a.take (2^k)) (b:=b.take (2^k)) (c:=c.take (2^k)) (fun i hi=>by rw[oN,oN,oN,aq7 hi,aq7 hi,aq7 hi];exact h i (by rw[amp];omega));have h2:=F9 k (a:=a.drop (2^k)) (b:=b.drop (2^k)) (c:=c.drop (2^k)) (fun i hi=>by rw[o5,o5,o5];exact h _ (by rw[amp];omega));simp only[af,T.add,h1,h2]
theorem FX:∀(k:Nat){a c:List Rat},(∀i,i<2^k->c.getD i 0=-a.getD i 0)->af k c=T.neg k (af k a)
 |0,a,c,h=>h 0 (by decide)
 |k+1,a,c,h=>by
  have h1:=FX k (a:=a.take (2^k)) (c:=c.take (2^k)) (fun i hi=>by rw[oN,oN,aq7 hi,aq7 hi];exact h i (by rw[amp];omega));have h2:=FX k (a:=a.drop (2^k)) (c:=c.drop (2^k)) (fun i hi=>by rw[o5,o5];exact h _ (by rw[amp];omega));simp only[af,T.neg,h1,h2]
theorem CM:∀(k:Nat){a:List Rat},(∀i,i<2^k->a.getD i 0=0)->af k a=T.zero k
 |0,a,h=>h 0 (by decide)
 |k+1,a,h=>by
  have h1:=CM k (a:=a.take (2^k)) (fun i hi=>by rw[oN,aq7 hi];exact h i (by rw[amp];omega));have h2:=CM k (a:=a.drop (2^k)) (fun i hi=>by rw[o5];exact h _ (by rw[amp];omega));simp only[af,T.zero,h1,h2]
theorem Fk{l:List Rat}{i:Nat}(h:l.length<=i):l.getD i 0=0:=by
 simp[apq,ap6 h]
theorem jM(k:Nat):af k []=T.zero k:=CM k (fun i _=>by simp)
theorem jL{k:Nat}{a:List Rat}(h:a.length<=2^k):af (k+1) a=(af k a,T.zero k):=by
 have h1:a.take (2^k)=a:=aqa h;have h2:a.drop (2^k)=[]:=aqm h;simp only[af,h1,h2,jM]
theorem oF(k:Nat)(q:Rat):af k [q]=T.ofQ k q:=by
 induction k with
 |zero=>rfl
 |succ k ih=>rw[jL (by simp;exact Nat.one_le_two_pow),ih];rfl
def bc(a:List Rat)(n:Nat):List Rat:=a++ana (n-a.length) 0
def dh(a b:List Rat):List Rat:=List.zipWith (·+·) (bc a (max a.length b.length)) (bc b (max a.length b.length))
def dQ(a:List Rat):List Rat:=a.map (- ·)
def gU(a b:List Rat)(n:Nat):List Rat:=bc a n++bc b n
def bM(a:List Rat):Bool:=a.all (fun q=>decide (q=0))
theorem ft{a:List Rat}{n:Nat}(h:a.length<=n):(bc a n).length=n:=by simp[bc];omega
theorem fW{a b:List Rat}:(dh a b).length=max a.length b.length:=by
 simp only[dh,List.length_zipWith];rw[ft oz,ft oz];omega
theorem lc{a:List Rat}:(dQ a).length=a.length:=by simp[dQ]
theorem uD{a b:List Rat}{n:Nat}(h:a.length<=n)(h':b.length<=n):(gU a b n).length=n+n:=by simp[gU,ft h,ft h']
theorem ur{a:List Rat}{n i:Nat}:(bc a n).getD i 0=a.getD i 0:=by
 simp only[bc,apq]
 by_cases h:i<a.length
 ·rw[aqc h]
 ·rw[aqb oz,ap6 (l:=a) oz,aql];split <;> rfl
theorem NU{a b:List Rat}{i:Nat}:(dh a b).getD i 0=a.getD i 0+b.getD i 0:=by
 by_cases h:i<max a.length b.length
 ·have e:(dh a b).getD i 0=(bc a (max a.length b.length)).getD i 0+(bc b (max a.length b.length)).getD i 0:=by
   have ha:i<(bc a (max a.length b.length)).length:=by rw[ft oz];exact h
   have hb:i<(bc b (max a.length b.length)).length:=by rw[ft oz];exact h
   simp only[dh,apq,List.getElem?_zipWith,aps ha,aps hb,apl]
  rw[e,ur,ur]
 ·rw[Fk (by rw[fW];omega),Fk oz,Fk oz,Rat.add_zero]
theorem QX{a:List Rat}{i:Nat}:(dQ a).getD i 0=-a.getD i 0:=by
 simp only[dQ,apq,apv];cases a[i]? with
 |none=>show(0:Rat)=-0;grind
 |some x=>rfl
theorem Ky{a b:List Rat}{n i:Nat}(h:a.length<=n):(gU a b n).getD i 0=if i<n then a.getD i 0 else b.getD (i-n) 0:=by
 have hl:=ft h;simp only[gU];split
 ·rw[<- ur (a:=a) (n:=n),apq,apq,aqc oz]
 ·rw[<- ur (a:=b) (n:=n),apq,apq,aqb oz,hl]
theorem rS(k:Nat){a:List Rat}{n:Nat}:af k (bc a n)=af k a:=tQ k (fun i _=>ur)
theorem l6(k:Nat){a b:List Rat}:af k (dh a b)=T.add k (af k a) (af k b):=F9 k (fun i _=>NU)
theorem qf(k:Nat){a:List Rat}:af k (dQ a)=T.neg k (af k a):=FX k (fun i _=>QX)
theorem BC{k:Nat}{a b:List Rat}(h:a.length<=2^k):af (k+1) (gU a b (2^k))=(af k a,af k b):=by
 have h1:af k ((gU a b (2^k)).take (2^k))=af k a:=tQ k (fun i hi=>by rw[oN,aq7 hi,Ky h,aq7 hi]);have h2:af k ((gU a b (2^k)).drop (2^k))=af k b:=tQ k (fun i hi=>by rw[o5,Ky h,aq6 oz];congr 1;omega);simp only[af,h1,h2]
theorem FD{k:Nat}{a:List Rat}(h:bM a=true):af k a=T.zero k:=by
 refine CM k (fun i _=>?_);rw[apq];cases hx:a[i]? with
 |none=>rfl
 |some x =>
  have:=ap3.1 h x (apo hx);simpa using this
def Nl(k:Nat)(a:List Rat):Prop:=a=[]\/∃j,j<=k/\a.length=2^j
theorem Nl.le{k:Nat}{a:List Rat}(h:Nl k a):a.length<=2^k:=by
 rcases h with rfl |⟨j,hj,h⟩
 ·simp
 ·rw[h];exact amk oz hj
theorem Nl.mono{k l:Nat}{a:List Rat}(h:Nl k a)(hl:k<=l):Nl l a:=by
 rcases h with h |⟨j,hj,h⟩
 ·exact .inl h
 ·exact .inr ⟨j,by omega,h⟩
def aw(ts:LL)(k:Nat):T k:=af k (ts.getD k [])
def pT(ts:LL):Nat->List Rat->List Rat->List Rat
  |k,a,b =>
    let x:=if a.length<b.length then b else a
    let y:=if a.length<b.length then a else b
    if bM x||bM y then[]else if x.length=1 then[x.getD 0 0*y.getD 0 0]
    else match k with
      |0=>[]
      |k+1 =>
        if y.length<=x.length/2 then gU (pT ts k (x.take (x.length/2)) y) (pT ts k (x.drop (x.length/2)) y) (x.length/2)
        else gU (dh (pT ts k (x.take (x.length/2)) (y.take (x.length/2))) (pT ts k (pT ts k (x.drop (x.length/2)) (y.drop (x.length/2))) (ts.getD (x.length.log2-1) [])))
          (dh (pT ts k (x.take (x.length/2)) (y.drop (x.length/2))) (pT ts k (x.drop (x.length/2)) (y.take (x.length/2)))) (x.length/2)
theorem T.mul_low(r:(k:Nat)->T k)(k:Nat)(x u:T k):T.mul r (k+1) (x,T.zero k) (u,T.zero k)=(T.mul r k x u,T.zero k):=by
 simp only[T.mul,T.mul_zero,T.zero_mul,T.add_zero]
theorem T.mul_half(r:(k:Nat)->T k)(k:Nat)(x y u:T k):T.mul r (k+1) (x,y) (u,T.zero k)=(T.mul r k x u,T.mul r k y u):=by
 simp only[T.mul,T.mul_zero,T.zero_mul,T.add_zero,T.zero_add]
theorem T.mul_ofQ(r:(k:Nat)->T k):∀(k:Nat)(p q:Rat),T.mul r k (T.ofQ k p) (T.ofQ k q)=T.ofQ k (p*q)
 |0,p,q=>rfl
 |k+1,p,q=>by simp only[T.ofQ];rw[T.mul_low,T.mul_ofQ r k]
theorem Xq:bM []=true:=rfl
theorem GZ(j:Nat):(2^(j+1)).log2-1=j:=by rw[Nat.log2_two_pow];omega
theorem jx{j:Nat}{a:List Rat}(h:a.length=2^(j+1)):(a.take (2^j)).length=2^j:=by
 simp[h,amp];omega
theorem jJ{j:Nat}{a:List Rat}(h:a.length=2^(j+1)):(a.drop (2^j)).length=2^j:=by
 simp[h,amp];omega
theorem iN(j:Nat):2^(j+1)/2=2^j:=by rw[amp];omega
theorem Fc(ts:LL)(k:Nat)(a b:List Rat)(h:a.length<b.length):pT ts k a b=pT ts k b a:=by
 unfold pT;simp only[aq7 h,aq6 (show ¬b.length<a.length by omega)]
theorem Kb(ts:LL)(Q:Nat->List Rat->List Rat->List Rat->Prop)
  (Sf:∀j a b c,Q j a b c->Q j b a c)
  (iH:∀j a b,Nl j a->Nl j b->(bM a=true\/bM b=true)->Q j a b [])
  (rF:∀j p q,Q j [p] [q] [p*q])
  (DS:∀j a b c,Nl j a->Nl j b->Q j a b c->Q (j+1) a b c)
  (ak9:∀j a b c d,a.length=2^(j+1)->Nl j b->Q j (a.take (2^j)) b c->Q j (a.drop (2^j)) b d->Q (j+1) a b (gU c d (2^j)))
  (IR:∀j a b c1 c2 c3 c4 c5,a.length=2^(j+1)->b.length=2^(j+1)->Q j (a.take (2^j)) (b.take (2^j)) c1->Q j (a.drop (2^j)) (b.drop (2^j)) c2 ->
   Q j c2 (ts.getD j []) c3->Q j (a.take (2^j)) (b.drop (2^j)) c4->Q j (a.drop (2^j)) (b.take (2^j)) c5->Q (j+1) a b (gU (dh c1 c3) (dh c4 c5) (2^j)))
  (fI:∀j a b c,Q j a b c->Nl j c) (m:Nat) (hr:∀j,j<m->Nl j (ts.getD j [])) :
  ∀(j k:Nat)(a b:List Rat),j<=m->j<=k->Nl j a->Nl j b->Q j a b (pT ts k a b):=by
 intro j
 induction j with
 |zero =>
  intro k a b _ _ ha hb;have ns:=ha.le;have eY:=hb.le
  have key:∀a b:List Rat,Nl 0 a->Nl 0 b->¬a.length<b.length->Q 0 a b (pT ts k a b):=by
   intro a b ha hb hlt;have ns:=ha.le;have eY:=hb.le;unfold pT;simp only[aq6 hlt];split
   ·rename_i h;rw[aqy]at h;exact iH 0 a b ha hb h
   ·rename_i h;simp only [aqy,not_or,Bool.not_eq_true] at h;have h1:a ≠ []:=fun h'=>by rw [h'] at h; cases h.1
    have h2:b≠[]:=fun h'=>by rw[h']at h;cases h.2
    obtain⟨p,rfl⟩:∃p,a=[p]:=an7.1 (by have:=anj.2 h1;omega);obtain⟨q,rfl⟩:∃q,b=[q]:=an7.1 (by have:=anj.2 h2;omega);simp only[ap4,ap9,if_true];exact rF 0 p q
  by_cases hlt:a.length<b.length
  ·rw[Fc ts k a b hlt];exact Sf _ _ _ _ (key b a hb ha oz)
  ·exact key a b ha hb hlt
 |succ j ih =>
  intro k a b Sh il ha hb
  have key:∀a b:List Rat,Nl (j+1) a->Nl (j+1) b->¬a.length<b.length->Q (j+1) a b (pT ts k a b):=by
   intro a b ha hb hlt
   by_cases hs:Nl j a
   ·have ez:Nl j b:=by
     rcases hb with rfl |⟨i,hi,h⟩
     ·exact .inl rfl
     ·by_cases ek:i<=j
      ·exact .inr ⟨i,ek,h⟩
      ·have h1:=hs.le;have h2:2^(j+1)<=2^i:=amk oz oz;rw[amp]at h2;have:=amf j;omega
    exact DS j a b _ hs ez (ih k a b oz oz hs ez)
   ·have bU:a.length=2^(j+1):=by
     rcases ha with rfl |⟨i,hi,h⟩
     ·exact ard (.inl rfl) hs
     ·by_cases ek:i<=j
      ·exact ard (.inr ⟨i,ek,h⟩) hs
      ·rw[h,show i=j+1 by omega]
    obtain⟨k,rfl⟩:∃k',k=k'+1:=⟨k-1,by omega⟩
    have h2j:=amf j;have hx:Nl j (a.take (2^j)):=.inr ⟨j,apu _,jx bU⟩;have hy:Nl j (a.drop (2^j)):=.inr ⟨j,apu _,jJ bU⟩;unfold pT;simp only[aq6 hlt];split
    ·rename_i h;rw[aqy]at h;exact iH _ a b ha hb h
    ·rename_i h;simp only [aqy,not_or,Bool.not_eq_true] at h;rw [aq6 (by rw [bU,amp]; omega)];simp only [bU,iN,GZ];split
     ·rename_i nv
      have ez:Nl j b:=by
       rcases hb with rfl |⟨i,hi,h'⟩
       ·exact .inl rfl
       ·by_cases ek:i<=j
        ·exact .inr ⟨i,ek,h'⟩
        ·have h2:2^(j+1)<=2^i:=amk oz oz;rw[amp]at h2;omega
      exact ak9 j a b _ _ bU ez (ih k _ _ oz oz hx ez) (ih k _ _ oz oz hy ez)
     ·rename_i nv
      have IS:b.length=2^(j+1):=by
       rcases hb with rfl |⟨i,hi,h'⟩
       ·simp at nv
       ·by_cases ek:i<=j
        ·have:2^i<=2^j:=amk oz ek;omega
        ·rw[h',show i=j+1 by omega]
      have hu:Nl j (b.take (2^j)):=.inr ⟨j,apu _,jx IS⟩;have hv:Nl j (b.drop (2^j)):=.inr ⟨j,apu _,jJ IS⟩;have h2:=ih k _ _ oz oz hy hv;exact IR j a b _ _ _ _ _ bU IS (ih k _ _ oz oz hx hu) h2 (ih k _ _ oz oz (fI _ _ _ _ h2) (hr j oz)) (ih k _ _ oz oz hx hv) (ih k _ _ oz oz hy hu)
  by_cases hlt:a.length<b.length
  ·rw[Fc ts k a b hlt];exact Sf _ _ _ _ (key b a hb ha oz)
  ·exact key a b ha hb hlt
theorem jO(ts:LL)(m:Nat)(hr:∀j,j<m->Nl j (ts.getD j []))(j k:Nat)(a b:List Rat)(hj:j<=m)(hk:j<=k)(ha:Nl j a)(hb:Nl j b) :
  Nl j (pT ts k a b)/\af j (pT ts k a b)=T.mul (aw ts) j (af j a) (af j b):=by
 refine Kb ts (fun j a b c=>Nl j c/\af j c=T.mul (aw ts) j (af j a) (af j b)) ?_ ?_ ?_ ?_ ?_ ?_ (fun _ _ _ _ h=>h.1) m hr j k a b hj hk ha hb
 ·intro j a b c h;exact⟨h.1,by rw[h.2,T.mul_comm]⟩
 ·intro j a b ha hb h;refine⟨.inl rfl,?_⟩;rw[jM];rcases h with h |h
  ·rw[FD h,T.zero_mul]
  ·rw[FD h,T.mul_zero]
 ·intro j p q;exact⟨.inr ⟨0,apx _,rfl⟩,by rw[oF,oF,oF,T.mul_ofQ]⟩
 ·intro j a b c ha hb h;refine⟨h.1.mono oz,?_⟩;rw[jL ha.le,jL hb.le,jL h.1.le,T.mul_low,h.2]
 ·intro j a b c d ha hb hc hd;refine⟨.inr ⟨j+1,apu _,?_⟩,?_⟩
  ·rw[uD hc.1.le hd.1.le,amp];omega
  ·rw[BC hc.1.le,jL hb.le,hc.2,hd.2];simp only[af];rw[T.mul_half]
 ·intro j a b c1 c2 c3 c4 c5 ha hb h1 h2 h3 h4 h5;refine⟨.inr ⟨j+1,apu _,?_⟩,?_⟩
  ·have l1:=h1.1.le;have l3:=h3.1.le;have l4:=h4.1.le;have l5:=h5.1.le;rw[uD (by rw[fW];omega) (by rw[fW];omega),amp];omega
  ·have l1:=h1.1.le;have l3:=h3.1.le;rw[BC (by rw[fW];omega),l6,l6,h1.2,h3.2,h4.2,h5.2,h2.2];rfl
def bD:Nat->List Rat->List Rat
  |0,a=>if bM a then[]else a
  |j+1,a=>if bM (a.drop (2^j))then bD j (a.take (2^j))else a
def T.isZ:(k:Nat)->T k->Bool
  |0,q=>decide ((q:Rat)=0)
  |k+1,x=>isZ k x.1&&isZ k x.2
theorem T.isZ_iff:∀(k:Nat)(x:T k),T.isZ k x=true↔x=T.zero k
 |0,x=>by simp only[T.isZ,aq8];rfl
 |k+1,x=>by
  simp only[T.isZ,apw,T.isZ_iff k,T.zero];constructor
  ·intro h;exact Prod.ext h.1 h.2
  ·intro h;rw[h];exact⟨rfl,rfl⟩
def enc:(k:Nat)->T k->List Rat
  |0,q=>[q]
  |k+1,x=>enc k x.1++enc k x.2
def sh:(k:Nat)->T k->List Rat
  |0,q=>if(q:Rat)=0 then[]else[q]
  |k+1,x=>if T.isZ k x.2 then sh k x.1 else enc k x.1++enc k x.2
theorem r4:∀(k:Nat)(x:T k),(enc k x).length=2^k
 |0,x=>rfl
 |k+1,x=>by simp only[enc,aqk,r4 k];rw[amp];omega
theorem CO:∀(k:Nat)(x:T k),af k (enc k x)=x
 |0,x=>rfl
 |k+1,x=>by
  simp only[enc,af]
  rw [anb (by rw [r4]; exact apu _), aqa (by rw [r4]; exact apu _), ang (by rw [r4]; exact apu _),
   aqm (by rw[r4];exact apu _),nil_append,CO k,CO k]
theorem wa:∀(k:Nat)(a:List Rat),a.length=2^k->enc k (af k a)=a
 |0,a,h=>by
  obtain⟨p,rfl⟩:=an7.1 h;rfl
 |k+1,a,h=>by
  simp only[enc,af];rw[wa k _ (jx h),wa k _ (jJ h),ann]
theorem abr{k:Nat}{a:List Rat}(h:a.length<=2^k):bM a=T.isZ k (af k a):=by
 rw[aov,T.isZ_iff];constructor
 ·exact FD
 ·intro h0;have h1:enc k (af k (bc a (2^k)))=bc a (2^k):=wa k _ (ft h);rw[rS,h0]at h1
  have h2:∀k,bM (enc k (T.zero k))=true:=by
   intro k
   induction k with
   |zero=>rfl
   |succ k ih=>simp only[enc,T.zero,bM,all_append,apw]at ih ⊢;exact⟨ih,ih⟩
  have h3:=h2 k;rw[h1]at h3;simp only[bM,bc,all_append,apw]at h3;exact h3.1
theorem HI:∀(k:Nat){a:List Rat},Nl k a->bD k a=sh k (af k a)
 |0,a,h=>by
  have hl:=h.le;simp only[bD,sh]
  match a,hl with
  |[],_=>rfl
  |[p],_=>simp[bM,af]
 |k+1,a,h=>by
  have hl:=h.le;have h1:(a.drop (2^k)).length<=2^k:=by simp;rw[amp]at hl;omega
  have e1:bD (k+1) a=if bM (a.drop (2^k))=true then bD k (a.take (2^k))else a:=rfl;have e2:∀x y:T k,sh (k+1) (x,y)=if T.isZ k y=true then sh k x else enc k x++enc k y:=fun _ _=>rfl
  rw[e1,show af (k+1) a=(af k (a.take (2^k)),af k (a.drop (2^k)))from rfl,e2,abr h1]
  by_cases hz:T.isZ k (af k (a.drop (2^k)))=true
  ·rw[aq7 hz,aq7 hz];refine HI k ?_;rcases h with rfl |⟨j,hj,h⟩
   ·exact .inl (by simp)
   ·by_cases il:j<=k
    ·rw[aqa (by rw[h];exact amk oz il)];exact .inr ⟨j,il,h⟩
    ·exact .inr ⟨k,apu _,jx (by rw[h,show j=k+1 by omega])⟩
  ·rw[aq6 hz,aq6 hz]
   have bV:a.length=2^(k+1):=by
    rcases h with rfl |⟨j,hj,h⟩
    ·exfalso;apply hz
     rw[List.drop_nil,T.isZ_iff,jM]
    ·by_cases il:j<=k
     ·exfalso;apply hz
      rw[aqm (by rw[h];exact amk oz il),T.isZ_iff,jM]
     ·rw[h,show j=k+1 by omega]
   rw[wa k _ (jx bV),wa k _ (jJ bV),ann]
theorem gk:∀(k:Nat)(x:T k),Nl k (sh k x)
 |0,q=>by
  simp only[sh];split
  ·exact .inl rfl
  ·exact .inr ⟨0,apu _,rfl⟩
 |k+1,x=>by
  simp only[sh];split
  ·exact(gk k x.1).mono oz
  ·exact .inr ⟨k+1,apu _,by rw[aqk,r4,r4,amp];omega⟩
theorem bu:∀(k:Nat)(x:T k),af k (sh k x)=x
 |0,q=>by
  simp only[sh];split
  ·rename_i h;exact h.symm
  ·rfl
 |k+1,x=>by
  simp only[sh];split
  ·rename_i h;rw[T.isZ_iff]at h;rw[jL (gk k x.1).le,bu k,<- h]
  ·exact CO (k+1) x
theorem acd{k:Nat}{x:T (k+1)}(h:T.isZ k x.2=false):(sh (k+1) x).length=2^(k+1):=by
 simp only[sh,h,aoz,if_false,aqk,r4];rw[amp];omega
def Cd(D N:Nat)(l:List Rat):Prop:=0<D/\∀q∈l,∃n:Int,q*((D:Int):Rat)=(n:Rat)/\n.natAbs<=N
theorem Cd.mono{D N N':Nat}{l:List Rat}(h:Cd D N l)(hn:N<=N'):Cd D N' l :=
 ⟨h.1,fun q hq=>by obtain⟨n,h1,h2⟩:=h.2 q hq;exact⟨n,h1,by omega⟩⟩
theorem Cd.sub{D N:Nat}{l l':List Rat}(h:Cd D N l)(hs:∀q∈l',q∈l):Cd D N l':=⟨h.1,fun q hq=>h.2 q (hs q hq)⟩
theorem Cd.scale{D N c:Nat}{l:List Rat}(h:Cd D N l)(hc:0<c):Cd (D*c) (N*c) l:=by
 refine⟨aml h.1 hc,fun q hq=>?_⟩;obtain⟨n,h1,h2⟩:=h.2 q hq;refine⟨n*c,?_,?_⟩
 ·rw[Int.natCast_mul,aor,<- Rat.mul_assoc,h1,aor]
 ·rw[an9,aqn];exact aqi _ h2
theorem Cd.nil{D N:Nat}(h:0<D):Cd D N []:=⟨h,fun q hq=>by cases hq⟩
theorem Cd.app{D N:Nat}{a b:List Rat}(h:Cd D N a)(h':Cd D N b):Cd D N (a++b) :=
 ⟨h.1,fun q hq=>by rcases ap2.1 hq with hq |hq;exact h.2 q hq;exact h'.2 q hq⟩
theorem Cd.zeros{D N n:Nat}(h:0<D):Cd D N (ana n 0) :=
 ⟨h,fun q hq=>⟨0,by rw[(an5.1 hq).2,Rat.zero_mul];rfl,by simp⟩⟩
theorem Cd.wide{D N n:Nat}{a:List Rat}(h:Cd D N a):Cd D N (bc a n):=h.app (Cd.zeros h.1)
theorem Cd.join{D N n:Nat}{a b:List Rat}(h:Cd D N a)(h':Cd D N b):Cd D N (gU a b n):=h.wide.app h'.wide
theorem Cd.minus{D N:Nat}{a:List Rat}(h:Cd D N a):Cd D N (dQ a):=by
 refine⟨h.1,fun q hq=>?_⟩;obtain⟨p,hp,rfl⟩:=anx.1 hq;obtain⟨n,h1,h2⟩:=h.2 p hp;refine⟨-n,?_,by omega⟩;rw[Rat.intCast_neg,<- h1,Rat.neg_mul]
theorem Cd.plus{D N N':Nat}{a b:List Rat}(h:Cd D N a)(h':Cd D N' b):Cd D (N+N') (dh a b):=by
 refine⟨h.1,fun q hq=>?_⟩;have h1:Cd D N (bc a (max a.length b.length)):=h.wide;have h2:Cd D N' (bc b (max a.length b.length)):=h'.wide;unfold dh at hq;obtain⟨i,hi,rfl⟩:=an4.1 hq;rw[List.getElem_zipWith];obtain⟨n,e1,e2⟩:=h1.2 _ (anm (by simp at hi;omega:i<(bc a (max a.length b.length)).length));obtain⟨m,e3,e4⟩:=h2.2 _ (anm (by simp at hi;omega:i<(bc b (max a.length b.length)).length));refine⟨n+m,?_,by have:=Int.natAbs_add_le n m;omega⟩;rw[Rat.add_mul,e1,e3,Rat.intCast_add]
theorem Cd.mul1{D N D' N':Nat}{p q:Rat}(h:Cd D N [p])(h':Cd D' N' [q]):Cd (D*D') (N*N') [p*q]:=by
 refine⟨aml h.1 h'.1,fun x hx=>?_⟩;rw[am8.1 hx];obtain⟨n,e1,e2⟩:=h.2 p (by simp);obtain⟨m,e3,e4⟩:=h'.2 q (by simp);refine⟨n*m,?_,by rw[an9];exact alz e2 e4⟩;rw[aor,<- e1,<- e3,Int.natCast_mul,aor];grind
theorem Cd.qb{D N e:Nat}{l:List Rat}(h:Cd D N l)(hD:D<2^e)(hN:N<2^e){q:Rat}(hq:q∈l):Qb e q:=by
 obtain⟨n,h1,h2⟩:=h.2 q hq
 have hD0:((D:Int):Rat)≠0:=by
  intro h0;have:(D:Int)=0:=aos.1 h0;have:=h.1;omega
 have fK:q=aop n D:=by
  rw[aoq,<- h1,Rat.mul_div_cancel hD0]
 have h0:=h.1;obtain⟨e1,e2⟩:=BA (n:=n) (d:=(D:Int)) oz;rw[fK];refine⟨by omega,by rw[aqn]at e2;omega⟩
def rR(D:Nat):Nat->Nat
  |0=>1
  |j+1=>rR D j*rR D j*D
def rM(D N:Nat):Nat->Nat
  |0=>1
  |j+1=>2*(rM D N j*rM D N j*(D+N))
theorem k8{D:Nat}(h:0<D):∀j,0<rR D j
 |0=>by simp[rR]
 |j+1=>aml (aml (k8 h j) (k8 h j)) h
theorem oM(D N:Nat):∀j,rR D j<=rM D N j
 |0=>apu _
 |j+1=>by
  have h1:=alz (alz (oM D N j) (oM D N j)) (amx D N);simp only[rR,rM];omega
theorem YU(ts:LL)(m D N:Nat)(nB:∀j,j<m->Nl j (ts.getD j [])/\Cd D N (ts.getD j []))(hD:0<D)(j k:Nat)(a b:List Rat)(hj:j<=m)(hk:j<=k)(ha:Nl j a)(hb:Nl j b)
  {Da Na Db Nb:Nat} (ca:Cd Da Na a) (cb:Cd Db Nb b):Cd (Da*Db*rR D j) (Na*Nb*rM D N j) (pT ts k a b):=by
 have key:=Kb ts (fun j a b c=>Nl j c/\(j<=m->∀Da Na Db Nb:Nat,Cd Da Na a->Cd Db Nb b->Cd (Da*Db*rR D j) (Na*Nb*rM D N j) c)) ?_ ?_ ?_ ?_ ?_ ?_ (fun _ _ _ _ h=>h.1) m (fun j hj=>(nB j hj).1) j k a b hj hk ha hb
 ·exact key.2 hj _ _ _ _ ca cb
 ·intro j a b c h;refine⟨h.1,fun hj Da Na Db Nb ca cb=>?_⟩;rw[alx Da,alx Na];exact h.2 hj _ _ _ _ cb ca
 ·intro j a b ha hb h;exact⟨.inl rfl,fun hj Da Na Db Nb ca cb=>Cd.nil (aml (aml ca.1 cb.1) (k8 hD j))⟩
 ·intro j p q;refine⟨.inr ⟨0,apx _,rfl⟩,fun hj Da Na Db Nb ca cb=>?_⟩;have h1:=(ca.mul1 cb).scale (k8 hD j);exact h1.mono (ap0 _ (oM D N j))
 ·intro j a b c ha hb h;refine ⟨h.1.mono oz,fun hj Da Na Db Nb ca cb=>?_⟩;have h1:=(h.2 oz _ _ _ _ ca cb).scale (aml (k8 hD j) hD);have e1:Da * Db * rR D j * (rR D j * D) = Da * Db * rR D (j + 1):=by simp only [rR]; grind
  rw[e1]at h1;refine h1.mono ?_;have h2:=ap0 (rM D N j) (alz (oM D N j) (amx D N));have h3:rM D N j*(rR D j*D)<=rM D N (j+1):=by simp only[rM,alu]at *;omega
  rw[alu (Na*Nb)];exact ap0 _ h3
 ·intro j a b c d ha hb hc hd;refine ⟨.inr ⟨j + 1,apu _,by rw [uD hc.1.le hd.1.le,amp]; omega⟩,fun hj Da Na Db Nb ca cb=>?_⟩;have ca1:Cd Da Na (a.take (2 ^ j)):=ca.sub (fun q hq=>aqw hq);have ca2:Cd Da Na (a.drop (2 ^ j)):=ca.sub (fun q hq=>anf hq);have h1:=((hc.2 oz _ _ _ _ ca1 cb).join (hd.2 oz _ _ _ _ ca2 cb) (n:=2 ^ j)).scale (aml (k8 hD j) hD);have e1:Da * Db * rR D j * (rR D j * D) = Da * Db * rR D (j + 1):=by simp only [rR]; grind
  rw[e1]at h1;refine h1.mono ?_;have h2:=ap0 (rM D N j) (alz (oM D N j) (amx D N));have h3:rM D N j*(rR D j*D)<=rM D N (j+1):=by simp only[rM,alu]at *;omega
  rw[alu (Na*Nb)];exact ap0 _ h3
 ·intro j a b c1 c2 c3 c4 c5 ha hb h1 h2 h3 h4 h5;refine⟨.inr ⟨j+1,apu _,?_⟩,fun hj Da Na Db Nb ca cb=>?_⟩
  ·have l1:=h1.1.le;have l3:=h3.1.le;have l4:=h4.1.le;have l5:=h5.1.le;rw[uD (by rw[fW];omega) (by rw[fW];omega),amp];omega
  have ca1:Cd Da Na (a.take (2^j)):=ca.sub (fun q hq=>aqw hq);have ca2:Cd Da Na (a.drop (2^j)):=ca.sub (fun q hq=>anf hq);have cb1:Cd Db Nb (b.take (2^j)):=cb.sub (fun q hq=>aqw hq);have cb2:Cd Db Nb (b.drop (2^j)):=cb.sub (fun q hq=>anf hq);have k2:=h2.2 oz _ _ _ _ ca2 cb2;have k3:=h3.2 oz _ _ _ _ k2 (nB j oz).2;have k1:=(h1.2 oz _ _ _ _ ca1 cb1).scale (aml (k8 hD j) hD);have k4:=(h4.2 oz _ _ _ _ ca1 cb2).scale (aml (k8 hD j) hD);have k5:=(h5.2 oz _ _ _ _ ca2 cb1).scale (aml (k8 hD j) hD);have e1:Da*Db*rR D j*(rR D j*D)=Da*Db*rR D (j+1):=by simp only[rR];grind
  have e3:Da*Db*rR D j*D*rR D j=Da*Db*rR D (j+1):=by simp only[rR];grind
  rw[e1]at k1 k4 k5;rw[e3]at k3;have b1:rM D N j*(rR D j*D)<=rM D N j*rM D N j*D:=by rw[alu];exact ap0 _ (aqi _ (oM D N j))
  have b2:∀x,Na*Nb*rM D N j*(rR D j*D)+Na*Nb*x<=Na*Nb*(rM D N j*rM D N j*D+x):=by
   intro x;rw[ame,alu (Na*Nb)];exact Nat.add_le_add_right (ap0 _ b1) _
  refine Cd.join (Cd.mono (k1.plus k3) ?_) (Cd.mono (k4.plus k5) ?_)
  ·have e4 : Na * Nb * rM D N j * N * rM D N j = Na * Nb * (rM D N j * rM D N j * N) := by grind
   rw[e4];refine aqe (b2 _) (ap0 _ ?_);simp only[rM];rw[<- ame];omega
  ·have e4 : Na * Nb * rM D N j * (rR D j * D) <= Na * Nb * (rM D N j * rM D N j * D) := by rw [alu (Na * Nb)]; exact ap0 _ b1
   refine aqe (Nat.add_le_add e4 e4) ?_;rw[<- ame];refine ap0 _ ?_;simp only[rM];have:=ap0 (rM D N j*rM D N j) (amx D N);omega
def eB(r:Nat):Nat->Nat
  |0=>0
  |j+1=>2*eB r j+r+2
theorem xP{D N r:Nat}(hD:D<=2^r)(hN:N<=2^r):∀j,rM D N j<=2^eB r j
 |0=>apu _
 |j+1=>by
  have h1:=xP hD hN j;have h2:=alz (alz h1 h1) (Nat.add_le_add hD hN);simp only[rM,eB]
  have e:2^(2*eB r j+r+2)=2*(2^eB r j*2^eB r j*(2^r+2^r)):=by
   rw[aqs,aqs,Nat.two_mul,aqs];grind
  rw[e];exact ap0 _ h2
def Cb(e:Nat)(l:List Rat):Prop:=∃D N,Cd D N l/\D<=2^e/\N<=2^e
def RB(r:Nat)(ts:LL):Prop:=∃D N,0<D/\(∀d∈ts,Cd D N d)/\D<=2^r/\N<=2^r
theorem cV{a b:Nat}(h:a<=b):2^a<=2^b:=amk oz h
theorem Cb.mono{e f:Nat}{l:List Rat}(h:Cb e l)(hf:e<=f):Cb f l:=by
 obtain⟨D,N,h1,h2,h3⟩:=h;exact⟨D,N,h1,aqe h2 (cV hf),aqe h3 (cV hf)⟩
theorem Cb.sub{e:Nat}{l l':List Rat}(h:Cb e l)(hs:∀q∈l',q∈l):Cb e l':=by
 obtain⟨D,N,h1,h2,h3⟩:=h;exact⟨D,N,h1.sub hs,h2,h3⟩
theorem Cb.take{e n:Nat}{l:List Rat}(h:Cb e l):Cb e (l.take n):=h.sub (fun q hq=>aqw hq)
theorem Cb.drop{e n:Nat}{l:List Rat}(h:Cb e l):Cb e (l.drop n):=h.sub (fun q hq=>anf hq)
theorem Cb.nil:Cb 0 []:=⟨1,1,Cd.nil oz,by simp,by simp⟩
theorem Cb.wide{e n:Nat}{a:List Rat}(h:Cb e a):Cb e (bc a n):=by
 obtain⟨D,N,h1,h2,h3⟩:=h;exact⟨D,N,h1.wide,h2,h3⟩
theorem Cb.minus{e:Nat}{a:List Rat}(h:Cb e a):Cb e (dQ a):=by
 obtain⟨D,N,h1,h2,h3⟩:=h;exact⟨D,N,h1.minus,h2,h3⟩
theorem Cb.plus{e f:Nat}{a b:List Rat}(h:Cb e a)(h':Cb f b):Cb (e+f+1) (dh a b):=by
 obtain⟨D,N,h1,h2,h3⟩:=h;obtain⟨D',N',h4,h5,h6⟩:=h';have k1:=h1.scale h4.1;have k2:=h4.scale h1.1;rw[alx D']at k2;refine⟨_,_,k1.plus k2,?_,?_⟩
 ·rw[amp,aqs];have:=alz h2 h5;omega
 ·rw[amp,aqs];have e1:=alz h3 h5;have e2:=alz h6 h2;rw[alx (2^f)]at e2;omega
theorem Cb.qb{e:Nat}{l:List Rat}(h:Cb e l){q:Rat}(hq:q∈l):Qb (e+1) q:=by
 obtain⟨D,N,h1,h2,h3⟩:=h;have:=amf e;exact h1.qb (by rw[amp];omega) (by rw[amp];omega) hq
theorem Cb.qs{e:Nat}{l:List Rat}(h:Cb e l)(he:e<4398046511104){q:Rat}(hq:q∈l):Qs q:=(h.qb hq).qs he
def lg(ts:LL)(m r:Nat):Prop:=(∀j,j<m->Nl j (ts.getD j []))/\RB r ts
theorem RB.get{r:Nat}{ts:LL}(h:RB r ts):∃D N,0<D/\(∀j,Cd D N (ts.getD j []))/\D<=2^r/\N<=2^r:=by
 obtain⟨D,N,h0,h1,h2,h3⟩:=h;refine⟨D,N,h0,fun j=>?_,h2,h3⟩;rw[apq];cases hx:ts[j]? with
 |none=>exact Cd.nil h0
 |some d=>exact h1 d (apo hx)
theorem RB.cb{r:Nat}{ts:LL}(h:RB r ts)(j:Nat):Cb r (ts.getD j []):=by
 obtain⟨D,N,h0,h1,h2,h3⟩:=h.get;exact⟨D,N,h1 j,h2,h3⟩
theorem Cb.mul{ts:LL}{m r:Nat}(ht:lg ts m r){j k e f:Nat}{a b:List Rat}(hj:j<=m)(hk:j<=k)(ha:Nl j a)(hb:Nl j b)(ca:Cb e a)(cb:Cb f b) :
  Cb (e+f+eB r j) (pT ts k a b):=by
 obtain⟨D,N,h0,h1,h2,h3⟩:=ht.2.get;obtain⟨Da,Na,a1,a2,a3⟩:=ca;obtain⟨Db,Nb,b1,b2,b3⟩:=cb;refine⟨_,_,YU ts m D N (fun j hj=>⟨ht.1 j hj,h1 j⟩) h0 j k a b hj hk ha hb a1 b1,?_,?_⟩
 ·rw[aqs,aqs];exact alz (alz a2 b2) (aqe (oM D N j) (xP h2 h3 j))
 ·rw[aqs,aqs];exact alz (alz a3 b3) (xP h2 h3 j)
theorem OA(r:Nat):∀j,eB r j<=eB r (j+1):=fun j=>by simp only[eB];omega
def sB(r:Nat):Nat->Nat->Nat
  |0,e=>e
  |j+1,e=>sB r j (4*e+3*eB r j+r+1)
theorem uh(r:Nat):∀j e,e<=sB r j e
 |0,e=>apu _
 |j+1,e=>by have:=uh r j (4*e+3*eB r j+r+1);simp only[sB];omega
theorem tz(r:Nat):∀j {e f:Nat},e<=f->sB r j e<=sB r j f
 |0,e,f,h=>h
 |j+1,e,f,h=>by simp only[sB];exact tz r j oz
theorem Td(r j e:Nat):sB r j e<=sB r (j+1) e:=by simp only[sB];exact tz r j oz
theorem xO(r e:Nat){i j:Nat}(h:i<=j):sB r i e<=sB r j e:=by
  induction j with
  | zero => have : i = 0 := by omega
            subst this;exact apu _
  |succ j ih =>
    by_cases ek:i=j+1
    · rw[ek];exact apu _
    · exact aqe (ih oz) (Td r j e)
theorem WM(r e:Nat){j:Nat}(h:j<=2):sB r j e<=16*e+17*r+29:=by
 refine aqe (xO r e h) ?_;simp only[sB,eB];omega
theorem Uc(r e:Nat){j:Nat}(h:j<=3):sB r j e<=64*e+177*r+333:=by
 refine aqe (xO r e h) ?_;simp only[sB,eB];omega
def lm(n:Nat):Nat:=if n<=2 then 200000000000 else 50000000000
theorem oO(n:Nat):lm n<=200000000000:=by unfold lm;split <;> omega
theorem mD(n:Nat):50000000000<=lm n:=by unfold lm;split <;> omega
theorem aan(r:Nat){j:Nat}(h:j<=5):eB r j<=31*(r+2):=by
 have:∀i,eB r i<=eB r (i+1):=OA r
 have h5:eB r j<=eB r 5:=by
  match j,h with
  |0,_=>simp only[eB];omega
  |1,_=>simp only[eB];omega
  |2,_=>simp only[eB];omega
  |3,_=>simp only[eB];omega
  |4,_=>simp only[eB];omega
  |5,_=>exact apu _
 refine aqe h5 ?_;simp only[eB];omega
def nA(l:List Rat):AV:=.lst 3 (l.map qA)
def nR(l:List Rt):AV:=.lst 3 (l.map Rt.av)
def aZ(ts:LL):AV:=.agg [.lst 1 (ts.map nA)]
def dU(ts:List (List Rt)):AV:=.agg [.lst 1 (ts.map nR)]
def v9(n:Nat):Nat:=if n<=1 then 0 else(n-1).log2+1
theorem Mv{n k:Nat}(h1:∀j,j<k->2^j<n)(h2:n<=2^k):v9 n=k:=by
 unfold v9;split
 ·rename_i h;cases k with
  |zero=>rfl
  |succ k=>have:=h1 0 oz;omega
 ·rename_i h;cases k with
  |zero=>simp at h2;omega
  |succ k =>
   have h3:=h1 k oz;congr 1;rw[Nat.log2_eq_iff oz];omega
def dG(n:Nat):Int:=if 2^v9 n=n then(v9 n:Int)else -1
theorem agx(j:Nat):v9 (2^j)=j:=Mv (fun i hi=>am0 oz hi) (apu _)
theorem wl(j:Nat):dG (2^j)=j:=by unfold dG;rw[agx,aq7 rfl]
theorem OF{n:Nat}(h:0<=dG n):∃j:Nat,n=2^j/\dG n=(j:Int):=by
 unfold dG at h ⊢;split at h
 ·rename_i h1;exact⟨v9 n,h1.symm,by rw[aq7 h1]⟩
 ·omega
theorem uf{k:Nat}(hk:k<=62):IntKind.i64.wrap ((1:Int)*2^(min (k:Int).toNat IntKind.i64.bits))=((2^k:Nat):Int):=by
 have h1:min (k:Int).toNat IntKind.i64.bits=k:=by simp[IntKind.bits];omega
 have h2:2^k<=2^62:=cV hk;have h3:(2:Nat)^62=4611686018427387904:=by decide
 have h4:((2:Int)^k)=((2^k:Nat):Int):=by simp
 rw[h1,Int.one_mul,h4];generalize 2^k=x at *;exact i64_in oz
def de(m:Nat)(a:List Rt):Nat:=if a≠[]/\(dG a.length<0\/(m:Int)<dG a.length)then 10 else if a.all Rt.valid then 0 else 2
theorem BE{m:Nat}{a:List Rt}(h:de m a=0)(cT:∀r∈a,r.ok):a=(a.map Rt.q).map rt/\Nl m (a.map Rt.q):=by
 unfold de at h;split at h
 ·cases h
 ·rename_i h1;split at h
  ·rename_i h2;rw[ap3]at h2;refine⟨?_,?_⟩
   ·rw[map_map];refine(map_id _).symm.trans ?_;exact aqz (fun r hr=>Rt.eq_rt (cT r hr) (h2 r hr))
   ·by_cases h0:a=[]
    ·subst h0;exact .inl rfl
    ·have h3:0<=dG a.length/\dG a.length<=m:=by
      constructor
      ·exact Int.not_lt.1 (fun h=>h1 ⟨h0,.inl h⟩)
      ·exact Int.not_lt.1 (fun h=>h1 ⟨h0,.inr h⟩)
     obtain⟨j,e1,e2⟩:=OF h3.1;exact .inr ⟨j,by omega,by rw[apr,e1]⟩
  ·cases h
theorem gh(l:List Rat):nR (l.map rt)=nA l:=by
 unfold nR nA;rw[map_map];rfl
theorem Nl.len5{k:Nat}{a:List Rat}(h:Nl k a)(hk:k<=5):a.length<=32:=aqe h.le (cV (b:=5) hk)
theorem qZ:oo (.agg [.v (.bool false),.v (.slice none 0 0),.v (.slice none 0 0)]) (qA 0):=by
 refine⟨rfl,?_⟩;intro j x y hx hy
 match j,hx,hy with
 |0,hx,hy=>cases hx;cases hy;exact⟨rfl,.refl _⟩
 |1,hx,hy=>cases hx;cases hy;exact⟨rfl,.nil _ _ _⟩
 |2,hx,hy=>cases hx;cases hy;exact⟨rfl,.nil _ _ _⟩
theorem oo.refl{e:AV}(h:∀c∈e.cells,c.one=true):oo e e :=
 ⟨rfl,fun j x y hx hy=>by rw[hx]at hy;cases hy;exact⟨h x (apo hx),.refl _⟩⟩
theorem HA(q:Rat):∀c∈(qA q).cells,c.one=true:=by
 intro c hc;have:c=bl (rt q).neg\/c=ws (rt q).num\/c=ws (rt q).den:=by simpa[qA,Rt.av,AV.cells]using hc
 rcases this with rfl |rfl |rfl <;> rfl
theorem Rb(a:List Rat)(n:Nat)(h:a.length<=n) :
  BlkSub (.row 3 (a.map qA++(ana n (.agg [.v (.bool false),.v (.slice none 0 0),.v (.slice none 0 0)])).drop (a.map qA).length)) (.row 3 ((bc a n).map qA)):=by
 refine .row ?_ ?_
 ·simp only[bc,aqk,apr,List.length_drop,aqp]
 ·intro i e e' he he'
  by_cases hi:i<a.length
  ·rw[aqc (by simpa using hi)]at he;simp only[bc,ap8]at he';rw[aqc (by simpa using hi),he]at he';cases he';simp only[apv,apt]at he;obtain⟨q,_,rfl⟩:=he;exact oo.refl (HA q)
  ·rw [aqb (by simpa using hi), List.drop_replicate, aql] at he;simp only [bc,ap8] at he';rw [aqb (by simpa using hi),aqu,aql] at he';split at he
   ·cases he;split at he'
    ·cases he';exact qZ
    ·cases he'
   ·cases he
theorem HU{p w:List Rat}{i:Nat}{s:Rat}(hl:p.length=w.length)(hi:i<p.length)(hs:p[i]=s) :
  ((p.take i++w.drop i).map qA).set i (qA s)=(p.take (i+1)++w.drop (i+1)).map qA:=by
 rw[<- aq0];congr 1;subst hs;rw[List.set_append_right i _ (by simp;omega)];have h1:i-(p.take i).length=0:=by simp;omega
 rw[h1,ani oz,List.set_cons_zero,am9 hi,aqt];rfl
theorem Kf{a b:List Rat}{i:Nat}(hi:i<(dh a b).length) :
  (dh a b)[i]=(bc a (max a.length b.length)).getD i 0+(bc b (max a.length b.length)).getD i 0:=by
 have h:=NU (a:=a) (b:=b) (i:=i);rw[apq,aps hi,apl]at h;rw[h,ur,ur]
theorem getD_some{l:List Rat}{i:Nat}(h:i<l.length):l[i]?=some (l.getD i 0):=by
 rw[apq,aps h];rfl
theorem x7{l:List Rat}{i:Nat}(h:i<l.length):l.getD i 0∈l:=by
 rw[apq,aps h];exact anm h
theorem FH{p w:List Rat}{i:Nat}(hl:p.length=w.length)(hi:i<p.length):(p.take i++w.drop i)[i]?=some (w.getD i 0):=by
 rw[aqb (by simp;omega),aqv];have:i+(i-(p.take i).length)=i:=by simp;omega
 rw[this];exact getD_some oz
theorem dJ{α:Type}{l:List α}{i:Nat}{x:α}(h:l[i]?=some x):l.take (i+1)=l.take i++[x]:=by
 obtain⟨hi,rfl⟩:=anz.1 h;exact am9 hi
theorem wU{q:Rat}(h:ci q=0):q=0:=by
 unfold ci at h;split at h
 ·cases h
 ·split at h
  ·cases h
  ·grind
theorem ahn:rt 0=⟨false,[],[]⟩:=rfl
theorem Rc{q:Rat}(h:cond (cond (rt q).neg true (aa .gtr ((rt q).num.length:Int) 0)) true (aa .gtr ((rt q).den.length:Int) 0)=true):q≠0:=by
 intro h0;rw[h0,ahn]at h;cases h
theorem Mf{q:Rat}(h:cond (cond (rt q).neg true (aa .gtr ((rt q).num.length:Int) 0)) true (aa .gtr ((rt q).den.length:Int) 0)=false):q=0:=by
 cases hn:(rt q).neg
 ·rw[hn]at h;cases hm:aa .gtr ((rt q).num.length:Int) 0
  ·have h1:(rt q).num=[]:=by
    cases hl:(rt q).num with
    |nil=>rfl
    |cons x l=>rw[hl]at hm;simp[aa]at hm
   rw[<- bN q];exact Rt.zero (fun h=>h.2 h1)
  ·rw[hm]at h;cases h
 ·rw[hn]at h;cases h
theorem jk{n:Nat}(h:n<=281474976710656):IntKind.i64.wrap ((n:Int).tdiv 2)=((n/2:Nat):Int):=by
 rw[show((n:Int).tdiv 2)=((n/2:Nat):Int)from(Int.ofNat_tdiv n 2).symm];exact i64_in oz
theorem Ml{m j:Nat}{a:List Rat}(h:a.length<=2^j)(hj:j<=m):bD m a=bD j a:=by
  induction m with
  | zero => have : j = 0 := by omega
            subst this;rfl
  |succ m ih =>
    by_cases Sh:j=m+1
    · rw[Sh]
    · have h1:a.length<=2^m:=aqe h (cV oz)
      have h2:bD (m+1) a=if bM (a.drop (2^m))=true then bD m (a.take (2^m))else a:=rfl;rw[h2,aqm h1,aq7 Xq,aqa h1];exact ih oz
def rh(a:List Rat)(n:Nat):Prop:=(n=0/\a=[])\/∃i,n=2^i/\i<=5/\n<=a.length/\bD 5 a=bD i (a.take n)
theorem PQ{a:List Rat}(h:Nl 5 a):rh a a.length:=by
 rcases h with rfl |⟨j,hj,h⟩
 ·exact .inl ⟨rfl,rfl⟩
 ·exact .inr ⟨j,h,hj,apu _,by rw[ap5];exact Ml oz hj⟩
theorem KG{a:List Rat}{i:Nat}:(a.drop (2^i)).take (2^(i+1)-2^i)=(a.take (2^(i+1))).drop (2^i):=by
 rw[List.drop_take]
theorem Mw{a:List Rat}{n:Nat}(h:rh a n)(h1:1<n)(hz:bM ((a.drop (n/2)).take (n-n/2))=true):rh a (n/2):=by
 rcases h with⟨h,_⟩ |⟨i,rfl,hi,hl,hs⟩
 ·omega
 ·cases i with
  |zero=>simp at h1
  |succ i =>
   rw[iN]at hz ⊢;rw[KG]at hz;have h2:bD (i+1) (a.take (2^(i+1)))=if bM ((a.take (2^(i+1))).drop (2^i))=true then bD i ((a.take (2^(i+1))).take (2^i))else a.take (2^(i+1)):=rfl;rw[h2,aq7 hz,anp,amb (cV oz)]at hs;exact .inr ⟨i,rfl,by omega,aqe (cV oz) hl,hs⟩
theorem NV{a:List Rat}(h:rh a 1)(hz:bM (a.take 1)=true):bD 5 a=[]:=by
 rcases h with⟨h,_⟩ |⟨i,h0,hi,hl,hs⟩
 ·omega
 ·have:i=0:=by
   cases i with
   |zero=>rfl
   |succ i=>rw[amp]at h0;omega
  subst this;rw[hs];show(if bM (a.take 1)=true then[]else _)=_;rw[aq7 hz]
theorem Pk{a:List Rat}{n:Nat}(h:rh a n)(h1:1<n->bM ((a.drop (n/2)).take (n-n/2))=false)(h2:n=1->bM (a.take 1)=false):bD 5 a=a.take n:=by
 rcases h with⟨rfl,rfl⟩ |⟨i,rfl,hi,hl,hs⟩
 ·rfl
 ·cases i with
  |zero =>
   rw[hs];show(if bM (a.take 1)=true then[]else _)=_;rw[h2 rfl];rfl
  |succ i =>
   have h3:=h1 (by have:=amf i;rw[amp];omega);rw[iN,KG]at h3;rw[hs];have h4:bD (i+1) (a.take (2^(i+1)))=if bM ((a.take (2^(i+1))).drop (2^i))=true then bD i ((a.take (2^(i+1))).take (2^i))else a.take (2^(i+1)):=rfl;rw[h4,h3];rfl
theorem rh.le{a:List Rat}{n:Nat}(h:rh a n):n<=a.length:=by
 rcases h with⟨rfl,rfl⟩ |⟨i,rfl,hi,hl,hs⟩
 ·exact apu _
 ·exact hl
theorem ye(a:List Rat)(l m:Nat):AV.lst 3 (((a.map qA).drop l).take m)=nA ((a.drop l).take m):=by
 unfold nA;rw[map_take,List.map_drop]
theorem yF{n:Nat}{a:List Rat}(h:Nl n a)(hn:n<=5):bD 5 a=sh n (af n a):=by
 rw[Ml h.le hn,HI n h]
theorem BlkSub.of_{x y z:Blk}(h:BlkSub x y)(e:z=x):BlkSub z y:=e▸h
theorem Xb{a:List Rat}{i:Nat}(hi:i<(dQ a).length):(dQ a)[i]=-(a.getD i 0):=by
 have h:=QX (a:=a) (i:=i);rw[apq,aps hi,apl]at h;exact h
theorem Wq{ts:LL}{k:Nat}{x y:List Rat}(hl:y.length<=x.length)(h:bM x=true\/bM y=true):pT ts k x y=[]:=by
 unfold pT;simp only[aq6 (show ¬x.length<y.length by omega)];rw[aq7 (by rw[aqy];exact h)]
theorem VQ{ts:LL}{k:Nat}{p q:Rat}(h:¬(bM [p]=true\/bM [q]=true)):pT ts k [p] [q]=[p*q]:=by
 unfold pT;simp only[ap4,ap9,Nat.lt_irrefl,if_false];rw[aq6 (by rw[aqy];exact h)];simp
theorem Uy{ts:LL}{k i:Nat}{x y:List Rat}(hx:x.length=2^(i+1))(hl:y.length<=2^i)(h:¬(bM x=true\/bM y=true)) :
  pT ts (k+1) x y=gU (pT ts k (x.take (2^i)) y) (pT ts k (x.drop (2^i)) y) (2^i):=by
 have h2:=amf i;have hlt:¬x.length<y.length:=by rw[hx,amp];omega
 conv=>lhs;unfold pT
 simp only[aq6 hlt];rw[aq6 (by rw[aqy];exact h),aq6 (by rw[hx,amp];omega)];simp only[hx,iN];rw[aq7 hl]
theorem Wg{ts:LL}{k i:Nat}{x y:List Rat}(hx:x.length=2^(i+1))(hl:¬y.length<=2^i)(DT:y.length<=x.length)(h:¬(bM x=true\/bM y=true)) :
  pT ts (k+1) x y=gU (dh (pT ts k (x.take (2^i)) (y.take (2^i))) (pT ts k (pT ts k (x.drop (2^i)) (y.drop (2^i))) (ts.getD i [])))
   (dh (pT ts k (x.take (2^i)) (y.drop (2^i))) (pT ts k (x.drop (2^i)) (y.take (2^i)))) (2^i):=by
 conv=>lhs;unfold pT
 simp only[aq6 (show ¬x.length<y.length by omega)];have h2:=amf i;rw[aq6 (by rw[aqy];exact h),aq6 (by rw[hx,amp];omega)];simp only[hx,iN,GZ];rw[aq6 hl]
theorem kR(r:Nat){i j:Nat}(h:i<=j):eB r i<=eB r j:=by
  induction j with
  | zero => have : i = 0 := by omega
            subst this;exact apu _
  |succ j ih =>
    by_cases ek:i=j+1
    · rw[ek];exact apu _
    · exact aqe (ih oz) (OA r j)
theorem tA{j:Nat}{x:List Rat}(h:Nl j x):x.length=0\/x.length=1\/∃i,i+1<=j/\x.length=2^(i+1):=by
 rcases h with rfl |⟨i,hi,h⟩
 ·exact .inl rfl
 ·cases i with
  |zero=>exact .inr (.inl h)
  |succ i=>exact .inr (.inr ⟨i,hi,h⟩)
theorem W0{j i:Nat}{x:List Rat}(h:Nl j x)(hl:x.length<=2^i):Nl i x:=by
 rcases h with rfl |⟨l,hl',h⟩
 ·exact .inl rfl
 ·refine .inr ⟨l,?_,h⟩;rcases apz i l with h1 |h1
  ·have:=am0 (a:=2) oz h1;omega
  ·exact h1
theorem S8{j i:Nat}{x:List Rat}(h:Nl j x)(hl:¬x.length<=2^i)(hu:x.length<=2^(i+1)):x.length=2^(i+1):=by
 rcases h with rfl |⟨l,hl',h⟩
 ·simp at hl
 ·rcases apz i l with h1 |h1
  ·rcases apz (i+1) l with h2 |h2
   ·have:=am0 (a:=2) oz h2;omega
   ·rw[h,show l=i+1 by omega]
  ·have:=cV h1;omega
theorem B7{ts:LL}{j:Nat}(h:j<ts.length):(ts.map nA)[j]?=some (nA (ts.getD j [])):=by
 rw[apv,apq,aps h];rfl
theorem p5(x:List Rat)(n:Nat):AV.lst 3 (((x.map qA).drop 0).take (n-0))=nA (x.take n):=by
 rw[Nat.sub_zero,aq1,<- map_take];rfl
theorem rc(x:List Rat)(n:Nat):AV.lst 3 (((x.map qA).drop n).take ((x.map qA).length-n))=nA (x.drop n):=by
 rw[<- List.map_drop,aqa (by simp)];rfl
def lA(ts:LL)(i:Nat)(a:List Rat):List Rat :=
  dh (pT ts i (a.take (2^i)) (a.take (2^i))) (dQ (pT ts i (pT ts i (a.drop (2^i)) (a.drop (2^i))) (ts.getD i [])))
theorem B8{ts:LL}{m r:Nat}(ht:lg ts m r){i e:Nat}{a:List Rat}(hi:i+1<=m)(ha:a.length=2^(i+1))(ca:Cb e a) :
  Nl i (lA ts i a)/\af i (lA ts i a)=T.norm (aw ts) i (af (i+1) a)/\Cb (4*e+3*eB r i+r+1) (lA ts i a):=by
 have n1:Nl i (a.take (2^i)):=.inr ⟨i,apu _,jx ha⟩;have n2:Nl i (a.drop (2^i)):=.inr ⟨i,apu _,jJ ha⟩;have s1:=jO ts m ht.1 i i _ _ oz oz n1 n1;have s2:=jO ts m ht.1 i i _ _ oz oz n2 n2;have s3:=jO ts m ht.1 i i _ _ oz oz s2.1 (ht.1 i oz);have c1:=Cb.mul ht (k:=i) (show i<=m by omega) oz n1 n1 ca.take ca.take;have c2:=Cb.mul ht (k:=i) (show i<=m by omega) oz n2 n2 ca.drop ca.drop;have c3:=Cb.mul ht (k:=i) (show i<=m by omega) oz s2.1 (ht.1 i oz) c2 (ht.2.cb i);refine⟨?_,?_,?_⟩
 ·have l1:=s1.1.le;have l3:=s3.1.le;rcases s1.1 with h1 |⟨j1,xg,h1⟩ <;> rcases s3.1 with h3 |⟨j3,hj3,h3⟩
  ·refine .inl ?_;apply anr;unfold lA;rw[fW,lc,h1,h3];rfl
  ·refine .inr ⟨j3,hj3,?_⟩;unfold lA;rw[fW,lc,h1,h3];simp
  ·refine .inr ⟨j1,xg,?_⟩;unfold lA;rw[fW,lc,h1,h3];simp
  ·refine .inr ⟨max j1 j3, by omega, ?_⟩;unfold lA;rw [fW,lc,h1,h3];rcases Nat.le_total j1 j3 with h | h
   ·rw[am2 h,am2 (cV h)]
   ·rw[amm h,amm (cV h)]
 ·unfold lA T.norm;rw[l6,qf,s1.2,s3.2,s2.2];rfl
 ·exact(c1.plus c3.minus).mono oz
theorem T.sgn_ofQ(r:(k:Nat)->T k):∀(k:Nat)(q:Rat),T.sgn r k (T.ofQ k q)=ci q
 |0,q=>rfl
 |k+1,q=>by simp only[T.ofQ];rw[T.sgn_low,T.sgn_ofQ r k]
theorem yN(r:(k:Nat)->T k){i j:Nat}{a:List Rat}(h:a.length<=2^i)(ek:i<=j):T.sgn r j (af j a)=T.sgn r i (af i a):=by
  induction j with
  | zero => have : i = 0 := by omega
            subst this;rfl
  |succ j ih =>
    by_cases h':i=j+1
    · rw[h']
    · rw[jL (aqe h (cV oz)),T.sgn_low]
      exact ih oz
theorem xx:∀(k:Nat){a:List Rat}{q:Rat},q∈bD k a->q∈a
 |0,a,q,h=>by
  have e:bD 0 a=if bM a=true then[]else a:=rfl;rw[e]at h;split at h
  ·cases h
  ·exact h
 |k+1,a,q,h=>by
  have e:bD (k+1) a=if bM (a.drop (2^k))=true then bD k (a.take (2^k))else a:=rfl;rw[e]at h;split at h
  ·exact aqw (xx k h)
  ·exact h
theorem Cb.sh{e k:Nat}{a:List Rat}(h:Cb e a)(hn:Nl k a):Cb e (sh k (af k a)):=by
 rw[<- HI k hn];exact Cb.sub h (fun q hq=>xx k hq)
theorem Ef{x y:Int}(hx:x=-1\/x=0\/x=1)(hy:y=-1\/y=0\/y=1):IntKind.i64.wrap (jv .mul x y)=x*y:=by
 apply GS;rcases hx with rfl |rfl |rfl <;> rcases hy with rfl |rfl |rfl <;> simp
theorem EE{x y z w:Int}(h:cond (aa .eql x y) true (aa .eql z w)=true):x=y\/z=w:=by
 cases hx:aa .eql x y
 ·rw[hx]at h;exact .inr (by simpa[aa]using h)
 ·exact .inl (by simpa[aa]using hx)
theorem Il{x y z w:Int}(h:cond (aa .eql x y) true (aa .eql z w)=false):¬(x=y\/z=w):=by
 cases hx:aa .eql x y
 ·rw [hx] at h;have h1:x ≠ y:=by simpa [aa] using hx
  have h2:z≠w:=by simpa[aa]using h
  exact fun h=>h.elim h1 h2
 ·rw[hx]at h;cases h
abbrev lq(a:List Rt):List Rat:=a.map Rt.q
abbrev llq(rs:List (List Rt)):LL:=rs.map lq
def sK(rs:List (List Rt)):Nat->Nat->Nat
  |0,_=>0
  |f+1,k=>if(rs.getD k []).length≠2^k then 10 else if de k (rs.getD k [])≠0 then de k (rs.getD k [])
    else if T.sgn (aw (llq rs)) k (aw (llq rs) k)<0 then 3 else sK rs f (k+1)
def bS(rs:List (List Rt)):Nat:=if 5<rs.length then 4 else sK rs rs.length 0
def fV:List Nat->Nat
  |[]=>0
  |e::l=>if e≠0 then e else fV l
def bY(rs:List (List Rt))(xs:List (List Rt)):Nat:=if bS rs≠0 then bS rs else fV (xs.map (de rs.length))
theorem T.mul_congr{r r':(k:Nat)->T k}:∀(k:Nat),(∀j,j<k->r j=r' j)->∀x y,T.mul r k x y=T.mul r' k x y
 |0,_,x,y=>rfl
 |k+1,h,x,y=>by
  have ih:=T.mul_congr k (fun j hj=>h j oz);simp only[T.mul,ih,h k oz]
theorem T.sgn_congr{r r':(k:Nat)->T k}:∀(k:Nat),(∀j,j<k->r j=r' j)->∀x,T.sgn r k x=T.sgn r' k x
 |0,_,x=>rfl
 |k+1,h,x=>by
  have ih:=T.sgn_congr k (fun j hj=>h j oz);have im:=T.mul_congr k (fun j hj=>h j oz);simp only[T.sgn,T.norm,ih,im,h k oz]
theorem vo{ts:LL}{k j:Nat}(h:j<k):aw (ts.take k) j=aw ts j:=by
 unfold aw;simp only[apq,aqh,aq7 h]
theorem yg(rs:List (List Rt))(k:Nat):(llq rs).getD k []=lq (rs.getD k []):=by
 simp only[apq,apv];cases rs[k]? <;> rfl
def kZ(rs:List (List Rt))(k:Nat):Prop:=(rs.getD k []).length=2^k/\de k (rs.getD k [])=0/\0<=T.sgn (aw (llq rs)) k (aw (llq rs) k)
theorem O2{rs:List (List Rt)}{f k:Nat}(h:kZ rs k):sK rs (f+1) k=sK rs f (k+1):=by
 obtain⟨h1,h2,h3⟩:=h;show(if _ then _ else _)=_;rw[aq6 (by rw[h1];simp),aq6 (by rw[h2];simp),aq6 oz]
theorem Pw:∀{f k:Nat}{rs:List (List Rt)},sK rs f k=0->∀j,k<=j->j<k+f->kZ rs j
 |0,k,rs,_,j,h1,h2=>by omega
 |f+1,k,rs,h,j,h1,h2=>by
  have h':(if(rs.getD k []).length≠2^k then 10 else if de k (rs.getD k [])≠0 then de k (rs.getD k [])
   else if T.sgn (aw (llq rs)) k (aw (llq rs) k)<0 then 3 else sK rs f (k+1))=0:=h
  split at h'
  ·cases h'
  ·rename_i e1;split at h'
   ·rename_i e2;exact ard h' e2
   ·rename_i e2;split at h'
    ·cases h'
    ·rename_i e3
     by_cases hj:j=k
     ·subst hj;exact⟨apn.1 e1,apn.1 e2,by omega⟩
     ·exact Pw h' j oz oz
theorem Q4:∀{f k:Nat}{rs:List (List Rt)},(∀j,k<=j->j<k+f->kZ rs j)->sK rs f k=0
 |0,k,rs,_=>rfl
 |f+1,k,rs,h=>by
  rw[O2 (h k oz oz)];exact Q4 (fun j h1 h2=>h j oz oz)
theorem Ht{rs:List (List Rt)}(cT:∀d∈rs,∀x∈d,x.ok){k:Nat}(hk:k<=rs.length)(h:∀j,j<k->de j (rs.getD j [])=0):(rs.take k).map nR=((llq rs).take k).map nA:=by
 apply List.ext_getElem?;intro j;simp only[apv,aqh]
 by_cases hj:j<k
 ·rw [aq7 hj, aq7 hj];have IT:j < rs.length:=by omega
  have h1:=h j hj;rw[apq,aps IT,apl]at h1;rw[aps IT];simp only[apm];congr 1;have:=(BE h1 (fun x hx=>cT _ (anm IT) x hx)).1;rw[<- gh,<- this]
 ·rw[aq6 hj,aq6 hj];rfl
theorem kZ.nl{rs:List (List Rt)}{k:Nat}(h:kZ rs k):Nl k ((llq rs).getD k []):=by
 rw[yg];exact .inr ⟨k,apu _,by rw[apr,h.1]⟩
theorem KV{ts:LL}{k r:Nat}(h:∀j,j<k->Nl j (ts.getD j []))(hr:RB r ts):lg (ts.take k) k r:=by
 refine⟨fun j hj=>?_,?_⟩
 ·have:=h j hj;simp only[apq,aqh,aq7 hj]at this ⊢;exact this
 ·obtain⟨D,N,h0,h1,h2,h3⟩:=hr;exact⟨D,N,h0,fun d hd=>h1 d (aqw hd),h2,h3⟩
structure Tw(ts:LL)(r:Nat):Prop where
  three:ts.length<=3
  len:∀j,j<ts.length->(ts.getD j []).length=2^j
  pos:∀j,j<ts.length->0<=T.sgn (aw ts) j (aw ts j)
  rb:RB r ts
  le:r<=5000000000
theorem Tw.five{ts:LL}{r:Nat}(h:Tw ts r):ts.length<=5:=aqe h.three oz
theorem Tw.ok{ts:LL}{r:Nat}(h:Tw ts r):lg ts ts.length r :=
 ⟨fun j hj=>.inr ⟨j,apu _,h.len j hj⟩,h.rb⟩
structure TR(rs:List (List Rt))(r:Nat):Prop where
  ok:∀d∈rs,∀x∈d,x.ok
  len:∀d∈rs,d.length<=281474976710656
  ll:rs.length<=281474976710656
  rb:RB r (llq rs)
  le:r<=5000000000
  three:rs.length<=3\/5<rs.length
theorem d9{rs:List (List Rt)}{r:Nat}(h:TR rs r)(hc:bS rs=0):Tw (llq rs) r/\dU rs=aZ (llq rs):=by
 unfold bS at hc;split at hc
 ·cases hc
 ·rename_i h5;have hk:=Pw hc;have hl:(llq rs).length = rs.length:=apr _;refine ⟨⟨by have:=h.three; rw [hl]; omega,fun j hj=>?_,fun j hj=>?_,h.rb,h.le⟩,?_⟩
  ·rw[yg,apr];exact(hk j oz oz).1
  ·exact(hk j oz oz).2.2
  ·unfold dU aZ;have:=Ht h.ok (apu rs.length) (fun j hj=>(hk j oz oz).2.1);rw[ap5,aqa oz]at this;rw[this]
theorem ue{m:Nat}{a:List Rat}(h:Nl m a):de m (a.map rt)=0:=by
 unfold de;rw[aq6,aq7]
 ·rw[ap3];intro x hx;obtain⟨q,_,rfl⟩:=anx.1 hx;exact yb q
 ·rintro⟨h0,h1⟩;rw[apr]at h1;rcases h with rfl |⟨j,hj,h⟩
  ·exact h0 rfl
  ·rw[h,wl]at h1;omega
theorem fQ(a:List Rat):lq (a.map rt)=a:=by
 unfold lq;rw[map_map];refine(aqz (fun q _=>bN q)).trans (map_id _)
theorem tt(ts:LL):llq (ts.map (List.map rt))=ts:=by
 unfold llq;rw[map_map];refine(aqz (fun a _=>fQ a)).trans (map_id _)
theorem lM(ts:LL):dU (ts.map (List.map rt))=aZ ts:=by
 unfold dU aZ;rw[map_map];congr 3;exact aqz (fun a _=>gh a)
theorem Tw.chk{ts:LL}{r:Nat}(h:Tw ts r):bS (ts.map (List.map rt))=0:=by
 unfold bS;rw[apr,aq6 (by have:=h.five;omega)];refine Q4 (fun j _ hj=>?_)
 have e1:(ts.map (List.map rt)).getD j []=(ts.getD j []).map rt:=by
  simp only[apq,apv];cases ts[j]? <;> rfl
 refine⟨?_,?_,?_⟩
 ·rw[e1,apr];exact h.len j oz
 ·rw[e1];exact ue (.inr ⟨j,apu _,h.len j oz⟩)
 ·rw[tt];exact h.pos j oz
theorem RB.qs{r:Nat}{ts:LL}(h:RB r ts)(hr:r<=5000000000):∀d∈ts,∀q∈d,Qs q:=by
 obtain⟨D,N,h0,h1,h2,h3⟩:=h;intro d hd q hq;exact Cb.qs ⟨D,N,h1 d hd,h2,h3⟩ oz hq
theorem Tw.tr{ts:LL}{r:Nat}(h:Tw ts r):TR (ts.map (List.map rt)) r:=by
 refine⟨?_,?_,by rw[apr];have:=h.five;omega,by rw[tt];exact h.rb,h.le,by rw[apr];exact .inl h.three⟩
 ·intro d hd x hx;obtain⟨a,ha,rfl⟩:=anx.1 hd;obtain⟨q,hq,rfl⟩:=anx.1 hx;exact(h.rb.qs h.le a ha q hq).ok
 ·intro d hd;obtain⟨a,ha,rfl⟩:=anx.1 hd;obtain⟨j,hj,rfl⟩:=an4.1 ha;have:=h.len j hj;rw[apq,aps hj,apl]at this;rw[apr,this];have:=h.five;have:2^j<=2^5:=cV oz;omega
theorem uJ:∀{l:List Nat},fV l=0->∀e∈l,e=0
 |[],_,e,he=>by cases he
 |x::l,h,e,he=>by
  have h':(if x≠0 then x else fV l)=0:=h;split at h'
  ·rename_i hx;exact ard h' hx
  ·rename_i hx;rcases aqf.1 he with rfl |he
   ·exact apn.1 hx
   ·exact uJ h' e he
theorem rV:∀{l:List Nat},(∀e∈l,e=0)->fV l=0
 |[],_=>rfl
 |x::l,h=>by
  show(if x≠0 then x else fV l)=0;rw[aq6 (by rw[h x (by simp)];simp)];exact rV (fun e he=>h e (by simp[he]))
theorem yc:∀(l l':List Nat),fV l=0->fV (l++l')=fV l'
 |[],l',_=>rfl
 |x::l,l',h=>by
  have h0:=uJ h x (by simp);show(if x≠0 then x else fV (l++l'))=_;rw[aq6 (by rw[h0];simp)];exact yc l l' (rV (fun e he=>uJ h e (by simp[he])))
theorem sV{rs xs:List (List Rt)}(h:bY rs xs=0):bS rs=0/\∀a∈xs,de rs.length a=0:=by
 unfold bY at h;split at h
 ·rename_i h1;exact ard h h1
 ·rename_i h1;exact⟨apn.1 h1,fun a ha=>uJ h _ (anx.2 ⟨a,ha,rfl⟩)⟩
theorem z8{rs xs:List (List Rt)}(h1:bS rs=0)(h2:∀a∈xs,de rs.length a=0):bY rs xs=0:=by
 unfold bY;rw[aq6 (by rw[h1];simp)];refine rV (fun e he=>?_);obtain⟨a,ha,rfl⟩:=anx.1 he;exact h2 a ha
structure NR(a:List Rt)(e:Nat):Prop where
  ok:∀x∈a,x.ok
  len:a.length<=281474976710656
  cb:Cb e (lq a)
theorem NR.num{a:List Rt}{e m:Nat}(h:NR a e)(hn:de m a=0):nR a=nA (lq a)/\Nl m (lq a):=by
 obtain⟨h1,h2⟩:=BE hn h.ok;refine⟨?_,h2⟩;rw[<- gh,<- h1]
theorem sE{r j n e:Nat}(hj:j<=n)(h3:n<=3)(hr:r<=5000000000)(he:e<=lm n):sB r j e<4398046511104:=by
 unfold lm at he;split at he
 ·have:=WM r e (j:=j) oz;omega
 ·have:=Uc r e (j:=j) oz;omega
theorem yo{rs:List (List Rt)}(h5:rs.length<=5):∀{k:Nat},k<=rs.length->(∀j,j<k->kZ rs j)->bS rs=sK rs (rs.length-k) k
 |0,_,_=>by unfold bS;rw[aq6 oz];rfl
 |k+1,hk,h=>by
  rw[yo h5 (k:=k) oz (fun j hj=>h j oz),show rs.length-k=(rs.length-(k+1))+1 by omega,O2 (h k oz)]
theorem MJ{rs:List (List Rt)}(h5:rs.length<=5)(h:∀j,j<rs.length->kZ rs j):bS rs=0:=by
 rw[yo h5 (apu _) h,Nat.sub_self];rfl
theorem Kn{rs:List (List Rt)}(h5:rs.length<=5){k:Nat}{d:List Rt}(hd:rs[k]?=some d)(h:∀j,j<k->kZ rs j)(hl:d.length≠2^k):bS rs=10:=by
 have hk:=(anz.1 hd).1;have e:rs.getD k []=d:=by rw[apq,hd];rfl
 rw[yo h5 (k:=k) oz h,show rs.length-k=(rs.length-(k+1))+1 by omega];show(if _ then _ else _)=_;rw[e,aq7 hl]
theorem NE{rs:List (List Rt)}(h5:rs.length<=5){k:Nat}{d:List Rt}(hd:rs[k]?=some d)(h:∀j,j<k->kZ rs j)(hl:d.length=2^k)(hn:de k d≠0):bS rs=de k d:=by
 have hk:=(anz.1 hd).1;have e:rs.getD k []=d:=by rw[apq,hd];rfl
 rw[yo h5 (k:=k) oz h,show rs.length-k=(rs.length-(k+1))+1 by omega];show(if _ then _ else _)=_;rw[e,aq6 (by rw[hl];simp),aq7 hn]
theorem Mh{rs:List (List Rt)}{k:Nat}{d:List Rt}(hd:rs[k]?=some d):aw (llq rs) k=af k (lq d):=by
 unfold aw;rw[yg,apq,hd];rfl
theorem L1{rs:List (List Rt)}(h5:rs.length<=5){k:Nat}{d:List Rt}(hd:rs[k]?=some d)(h:∀j,j<k->kZ rs j)(hl:d.length=2^k)(hn:de k d=0)
  (hs:T.sgn (aw (llq rs)) k (af k (lq d))<0):bS rs=3:=by
 have hk:=(anz.1 hd).1;have e:rs.getD k []=d:=by rw[apq,hd];rfl
 rw[yo h5 (k:=k) oz h,show rs.length-k=(rs.length-(k+1))+1 by omega];show(if _ then _ else _)=_;rw[e,aq6 (by rw[hl];simp),aq6 (by rw[hn];simp),Mh hd,aq7 hs]
theorem KQ{rs:List (List Rt)}{k:Nat}{d:List Rt}(hd:rs[k]?=some d)(hl:d.length=2^k)(hn:de k d=0)
  (hs:¬T.sgn (aw (llq rs)) k (af k (lq d))<0):kZ rs k:=by
 have e:rs.getD k []=d:=by rw[apq,hd];rfl
 exact⟨by rw[e];exact hl,by rw[e];exact hn,by rw[Mh hd];omega⟩
theorem Vn{rs:List (List Rt)}(cT:∀d∈rs,∀x∈d,x.ok){k:Nat}(hk:k<=rs.length)(h:∀j,j<k->kZ rs j):dU (rs.take k)=aZ ((llq rs).take k):=by
 unfold dU aZ;rw[Ht cT hk (fun j hj=>(h j hj).2.1)]
theorem VY{α:Type}(f:α->AV)(l:List α)(n:Nat):AV.lst 1 (((l.map f).drop 0).take (n-0))=.lst 1 ((l.take n).map f):=by
 rw[Nat.sub_zero,aq1,map_take]
theorem OE{rs:List (List Rt)}(h:5<rs.length):bS rs=4:=by unfold bS;rw[aq7 h]
theorem Ma{rs xs:List (List Rt)}(h:bS rs≠0):bY rs xs=bS rs:=by unfold bY;rw[aq7 h]
theorem Ia{rs xs:List (List Rt)}{i:Nat}{a:List Rt}(h:bS rs=0)(ha:xs[i]?=some a)(hb:∀x∈xs.take i,de rs.length x=0)(hn:de rs.length a≠0):bY rs xs=de rs.length a:=by
 unfold bY;rw[aq6 (by rw[h];simp)];have e:xs=xs.take i++xs.drop i:=(ann i xs).symm;have hi:=(anz.1 ha).1;rw[e,ap8,yc _ _ (rV (fun e he=>by obtain⟨x,hx,rfl⟩:=anx.1 he;exact hb x hx)),ani hi];have ha':xs[i]=a:=by rw[aps hi]at ha;exact Option.some.inj ha
 rw[ha'];show(if _ then _ else _)=_;rw[aq7 hn]
theorem sM{n:Nat}{a:List Rat}(h:Nl n a):Nl n (dQ a):=by
 rcases h with rfl |⟨j,hj,h⟩
 ·exact .inl rfl
 ·exact .inr ⟨j,hj,by rw[lc,h]⟩
theorem tv{n:Nat}{a b:List Rat}(h:Nl n a)(h':Nl n b):Nl n (dh a b):=by
 rcases h with rfl |⟨j,hj,h⟩ <;> rcases h' with rfl |⟨i,hi,h'⟩
 ·exact .inl (anr (by rw[fW];rfl))
 ·exact .inr ⟨i,hi,by rw[fW,h'];simp⟩
 ·exact .inr ⟨j,hj,by rw[fW,h];simp⟩
 ·refine .inr ⟨max j i, by omega, ?_⟩;rw [fW,h,h'];rcases Nat.le_total j i with g | g
  ·rw[am2 g,am2 (cV g)]
  ·rw[amm g,amm (cV g)]
theorem wE{a b:List Rt}{e f:Nat}(ha:NR a e)(hb:NR b f):∀x∈[a,b],(∀y∈x,y.ok)/\x.length<=281474976710656:=by
 intro x hx;simp only[aqf,aqg,or_false]at hx;rcases hx with rfl |rfl
 ·exact⟨ha.ok,ha.len⟩
 ·exact⟨hb.ok,hb.len⟩
theorem rg{rs:List (List Rt)}(h:dU rs=aZ (llq rs)):AV.lst 1 (rs.map nR)=.lst 1 ((llq rs).map nA):=by
 unfold dU aZ at h
 injection h with h
 injection h
theorem zD{x:Rt}:x.q+(rt 0).q=x.q:=by rw[bN,Rat.add_zero]
def rT(ts:LL):Nat->List Rat->List Rat->List Rat
  |k,a,b =>
    if(bD 5 a).length=0\/(bD 5 b).length=0 then[]
    else if max (bD 5 a).length (bD 5 b).length=1 then[(bD 5 a).getD 0 0*(bD 5 b).getD 0 0]
    else match k with
      |0=>[]
      |k+1 =>
        let n:=max (bD 5 a).length (bD 5 b).length
        let X:=bc (bD 5 a) n
        let Y:=bc (bD 5 b) n
        gU (dh (rT ts k (X.take (n/2)) (Y.take (n/2))) (rT ts k (rT ts k (X.drop (n/2)) (Y.drop (n/2))) (ts.getD (n.log2-1) [])))
          (dh (rT ts k (X.take (n/2)) (Y.drop (n/2))) (rT ts k (X.drop (n/2)) (Y.take (n/2)))) (n/2)
theorem Oy{ts:LL}{k:Nat}{a b:List Rat}(h:(bD 5 a).length=0\/(bD 5 b).length=0):rT ts k a b=[]:=by
 unfold rT;rw[aq7 h]
theorem Kv{ts:LL}{k:Nat}{a b:List Rat}(h:¬((bD 5 a).length=0\/(bD 5 b).length=0))(h1:max (bD 5 a).length (bD 5 b).length=1) :
  rT ts k a b=[(bD 5 a).getD 0 0*(bD 5 b).getD 0 0]:=by
 unfold rT;rw[aq6 h,aq7 h1]
theorem PJ{ts:LL}{k n i:Nat}{a b:List Rat}(hn:n=2^i)(h:¬((bD 5 a).length=0\/(bD 5 b).length=0))(h1:max (bD 5 a).length (bD 5 b).length=2^(i+1)) :
  rT ts (k+1) a b=gU (dh (rT ts k ((bc (bD 5 a) (2^(i+1))).take n) ((bc (bD 5 b) (2^(i+1))).take n))
    (rT ts k (rT ts k ((bc (bD 5 a) (2^(i+1))).drop n) ((bc (bD 5 b) (2^(i+1))).drop n)) (ts.getD i [])))
   (dh (rT ts k ((bc (bD 5 a) (2^(i+1))).take n) ((bc (bD 5 b) (2^(i+1))).drop n)) (rT ts k ((bc (bD 5 a) (2^(i+1))).drop n) ((bc (bD 5 b) (2^(i+1))).take n))) n:=by
 have h2:=amf i
 conv=>lhs;unfold rT
 rw[aq6 h,aq6 (by rw[h1,amp];omega)];simp only[h1,iN,GZ];rw[<- hn]
structure PrOk(ts:LL)(D N j:Nat)(a b c:List Rat):Prop where
  nl:Nl j c
  eq:af j c=T.mul (aw ts) j (af j a) (af j b)
  cd:∀Da Na Db Nb:Nat,Cd Da Na a->Cd Db Nb b->Cd (Da*Db*rR D j) (Na*Nb*rM D N j) c
theorem PrOk.up{ts:LL}{D N j:Nat}{a b c:List Rat}(hD:0<D)(ha:a.length<=2^j)(hb:b.length<=2^j)(h:PrOk ts D N j a b c):PrOk ts D N (j+1) a b c:=by
 refine⟨h.nl.mono oz,?_,fun Da Na Db Nb ca cb=>?_⟩
 ·rw[jL ha,jL hb,jL h.nl.le,T.mul_low,h.eq]
 ·have h1:=(h.cd _ _ _ _ ca cb).scale (aml (k8 hD j) hD);have e1:Da * Db * rR D j * (rR D j * D) = Da * Db * rR D (j + 1):=by simp only [rR]; grind
  rw[e1]at h1;refine h1.mono ?_;have h2:=ap0 (rM D N j) (alz (oM D N j) (amx D N));have h3:rM D N j*(rR D j*D)<=rM D N (j+1):=by simp only[rM,alu]at *;omega
  rw[alu (Na*Nb)];exact ap0 _ h3
theorem PrOk.ups{ts:LL}{D N i j:Nat}{a b c:List Rat}(hD:0<D)(ha:a.length<=2^i)(hb:b.length<=2^i)(h:PrOk ts D N i a b c)(ek:i<=j):PrOk ts D N j a b c:=by
  induction j with
  | zero => have : i = 0 := by omega
            subst this;exact h
  |succ j ih =>
    by_cases h':i=j+1
    · subst h';exact h
    · exact(ih oz).up hD (aqe ha (cV oz)) (aqe hb (cV oz))
theorem PrOk.of{ts:LL}{D N j:Nat}{a b a' b' c:List Rat}(h:PrOk ts D N j a b c)(ea:af j a=af j a')(eb:af j b=af j b')
  (ca:∀D N,Cd D N a'->Cd D N a) (cb:∀D N,Cd D N b'->Cd D N b):PrOk ts D N j a' b' c :=
 ⟨h.nl,by rw[h.eq,ea,eb],fun Da Na Db Nb h1 h2=>h.cd _ _ _ _ (ca _ _ h1) (cb _ _ h2)⟩
theorem PrOk.full{ts:LL}{D N j:Nat}{a b c1 c2 c3 c4 c5:List Rat}(hD:0<D)(hr:Cd D N (ts.getD j []))(ha:a.length=2^(j+1))(hb:b.length=2^(j+1))
  (h1:PrOk ts D N j (a.take (2^j)) (b.take (2^j)) c1) (h2:PrOk ts D N j (a.drop (2^j)) (b.drop (2^j)) c2) (h3:PrOk ts D N j c2 (ts.getD j []) c3)
  (h4:PrOk ts D N j (a.take (2^j)) (b.drop (2^j)) c4) (h5:PrOk ts D N j (a.drop (2^j)) (b.take (2^j)) c5):PrOk ts D N (j+1) a b (gU (dh c1 c3) (dh c4 c5) (2^j)):=by
 have l1:=h1.nl.le;have l3:=h3.nl.le;have l4:=h4.nl.le;have l5:=h5.nl.le;refine⟨.inr ⟨j+1,apu _,by rw[uD (by rw[fW];omega) (by rw[fW];omega),amp];omega⟩,?_,fun Da Na Db Nb ca cb=>?_⟩
 ·rw[BC (by rw[fW];omega),l6,l6,h1.eq,h3.eq,h4.eq,h5.eq,h2.eq];rfl
 ·have ca1:Cd Da Na (a.take (2 ^ j)):=ca.sub (fun q hq=>aqw hq);have ca2:Cd Da Na (a.drop (2 ^ j)):=ca.sub (fun q hq=>anf hq);have cb1:Cd Db Nb (b.take (2 ^ j)):=cb.sub (fun q hq=>aqw hq);have cb2:Cd Db Nb (b.drop (2 ^ j)):=cb.sub (fun q hq=>anf hq);have k2:=h2.cd _ _ _ _ ca2 cb2;have k3:=h3.cd _ _ _ _ k2 hr;have k1:=(h1.cd _ _ _ _ ca1 cb1).scale (aml (k8 hD j) hD);have k4:=(h4.cd _ _ _ _ ca1 cb2).scale (aml (k8 hD j) hD);have k5:=(h5.cd _ _ _ _ ca2 cb1).scale (aml (k8 hD j) hD);have e1:Da * Db * rR D j * (rR D j * D) = Da * Db * rR D (j + 1):=by simp only [rR]; grind
  have e3:Da*Db*rR D j*D*rR D j=Da*Db*rR D (j+1):=by simp only[rR];grind
  rw[e1]at k1 k4 k5;rw[e3]at k3;have b1:rM D N j*(rR D j*D)<=rM D N j*rM D N j*D:=by rw[alu];exact ap0 _ (aqi _ (oM D N j))
  have b2:∀x,Na*Nb*rM D N j*(rR D j*D)+Na*Nb*x<=Na*Nb*(rM D N j*rM D N j*D+x):=by
   intro x;rw[ame,alu (Na*Nb)];exact Nat.add_le_add_right (ap0 _ b1) _
  refine Cd.join (Cd.mono (k1.plus k3) ?_) (Cd.mono (k4.plus k5) ?_)
  ·have e4 : Na * Nb * rM D N j * N * rM D N j = Na * Nb * (rM D N j * rM D N j * N) := by grind
   rw[e4];refine aqe (b2 _) (ap0 _ ?_);simp only[rM];rw[<- ame];omega
  ·have e4 : Na * Nb * rM D N j * (rR D j * D) <= Na * Nb * (rM D N j * rM D N j * D) := by rw [alu (Na * Nb)]; exact ap0 _ b1
   refine aqe (Nat.add_le_add e4 e4) ?_;rw[<- ame];refine ap0 _ ?_;simp only[rM];have:=ap0 (rM D N j*rM D N j) (amx D N);omega
theorem Cd.short{D N k:Nat}{a:List Rat}(h:Cd D N a):Cd D N (bD k a):=h.sub (fun q hq=>xx k hq)
theorem AN{j:Nat}{a:List Rat}(h:Nl j a)(hj:j<=5):Nl j (bD 5 a)/\af j (bD 5 a)=af j a:=by
 rw[yF h hj];exact⟨gk j _,bu j _⟩
theorem O6{j:Nat}{x y:List Rat}(hx:Nl j x)(hy:Nl j y)(h:¬(x.length=0\/y.length=0)):max x.length y.length=1\/∃i,i+1<=j/\max x.length y.length=2^(i+1):=by
 rcases tA hx with h1 |h1 |⟨i1,IU,h1⟩
 ·exact ard (.inl h1) h
 ·rcases tA hy with h2 |h2 |⟨i2,nC,h2⟩
  ·exact ard (.inr h2) h
  ·exact .inl oz
  ·exact .inr ⟨i2,nC,by have:=amf (i2+1);omega⟩
 ·rcases tA hy with h2 |h2 |⟨i2,nC,h2⟩
  ·exact ard (.inr h2) h
  ·exact .inr ⟨i1,IU,by have:=amf (i1+1);omega⟩
  ·rcases Nat.le_total i1 i2 with g |g
   ·exact .inr ⟨i2,nC,by have:=cV (show i1+1<=i2+1 by omega);omega⟩
   ·exact .inr ⟨i1,IU,by have:=cV (show i2+1<=i1+1 by omega);omega⟩
theorem UW(ts:LL)(m D N:Nat)(hm:m<=5)(nB:∀j,j<m->Nl j (ts.getD j [])/\Cd D N (ts.getD j []))(hD:0<D) :
  ∀(k j:Nat)(a b:List Rat),j<=m->j<=k->Nl j a->Nl j b->PrOk ts D N j a b (rT ts k a b):=by
 intro k
 induction k using Nat.strongRecOn with
 |_ k ih =>
  intro j a b hj il ha hb;obtain⟨nx,dx⟩:=AN ha oz;obtain⟨ny,dy⟩:=AN hb oz
  by_cases h0:(bD 5 a).length=0\/(bD 5 b).length=0
  ·rw[Oy h0];refine⟨.inl rfl,?_,fun Da Na Db Nb ca cb=>Cd.nil (aml (aml ca.1 cb.1) (k8 hD j))⟩;rw[jM];rcases h0 with h |h
   ·rw[<- dx,an1.1 h,jM,T.zero_mul]
   ·rw[<- dy,an1.1 h,jM,T.mul_zero]
  rcases O6 nx ny h0 with h1 |⟨i,hi,h1⟩
  ·rw[Kv h0 h1];obtain⟨p,hp⟩:∃p,bD 5 a=[p]:=an7.1 oz;obtain⟨q,hq⟩:∃q,bD 5 b=[q]:=an7.1 oz
   have base:PrOk ts D N 0 [p] [q] [p*q]:=by
    refine⟨.inr ⟨0,apx _,rfl⟩,rfl,fun Da Na Db Nb ca cb=>?_⟩;have h1:=(ca.mul1 cb).scale (k8 hD 0);exact h1.mono (ap0 _ (oM D N 0))
   have h2:=base.ups hD (by simp) (by simp) (apx j);rw[hp,hq];refine h2.of (by rw[<- hp];exact dx) (by rw[<- hq];exact dy) (fun D N h=>?_) (fun D N h=>?_)
   ·rw[<- hp];exact h.short
   ·rw[<- hq];exact h.short
  ·obtain ⟨k', rfl⟩ : ∃ k', k = k' + 1 := ⟨k - 1, by omega⟩
   rw[PJ rfl h0 h1];have lx:(bc (bD 5 a) (2^(i+1))).length=2^(i+1):=ft oz;have ly:(bc (bD 5 b) (2^(i+1))).length=2^(i+1):=ft oz;have n1:Nl i ((bc (bD 5 a) (2^(i+1))).take (2^i)):=.inr ⟨i,apu _,jx lx⟩;have n2:Nl i ((bc (bD 5 a) (2^(i+1))).drop (2^i)):=.inr ⟨i,apu _,jJ lx⟩;have n3:Nl i ((bc (bD 5 b) (2^(i+1))).take (2^i)):=.inr ⟨i,apu _,jx ly⟩;have n4:Nl i ((bc (bD 5 b) (2^(i+1))).drop (2^i)):=.inr ⟨i,apu _,jJ ly⟩;have g2:=ih k' oz i _ _ oz oz n2 n4
   have IR:=PrOk.full hD (nB i oz).2 lx ly (ih k' oz i _ _ oz oz n1 n3) g2 (ih k' oz i _ _ oz oz g2.nl (nB i oz).1)
    (ih k' oz i _ _ oz oz n1 n4) (ih k' oz i _ _ oz oz n2 n3)
   have h2:=IR.ups hD oz oz hi;exact h2.of (by rw[rS];exact dx) (by rw[rS];exact dy) (fun D N h=>h.short.wide) (fun D N h=>h.short.wide)
theorem oS{ts:LL}{m r:Nat}(hm:m<=5)(ht:lg ts m r){k j e f:Nat}{a b:List Rat}(hj:j<=m)(hk:j<=k)(ha:Nl j a)(hb:Nl j b)(ca:Cb e a)(cb:Cb f b) :
  Nl j (rT ts k a b)/\af j (rT ts k a b)=T.mul (aw ts) j (af j a) (af j b)/\Cb (e+f+eB r j) (rT ts k a b):=by
 obtain⟨D,N,h0,h1,h2,h3⟩:=ht.2.get;obtain⟨Da,Na,a1,a2,a3⟩:=ca;obtain⟨Db,Nb,b1,b2,b3⟩:=cb;have h:=UW ts m D N hm (fun j hj=>⟨ht.1 j hj,h1 j⟩) h0 k j a b hj hk ha hb;refine⟨h.nl,h.eq,_,_,h.cd _ _ _ _ a1 b1,?_,?_⟩
 ·rw[aqs,aqs];exact alz (alz a2 b2) (aqe (oM D N j) (xP h2 h3 j))
 ·rw[aqs,aqs];exact alz (alz a3 b3) (xP h2 h3 j)
def tJ(ts:LL)(i:Nat)(a:List Rat):List Rat :=
  dh (rT ts i (a.take (2^i)) (a.take (2^i))) (dQ (rT ts i (rT ts i (a.drop (2^i)) (a.drop (2^i))) (ts.getD i [])))
theorem ahb{ts:LL}{m r:Nat}(hm:m<=5)(ht:lg ts m r){i e:Nat}{a:List Rat}(hi:i+1<=m)(ha:a.length=2^(i+1))(ca:Cb e a) :
  Nl i (tJ ts i a)/\af i (tJ ts i a)=T.norm (aw ts) i (af (i+1) a)/\Cb (4*e+3*eB r i+r+1) (tJ ts i a):=by
 have n1:Nl i (a.take (2^i)):=.inr ⟨i,apu _,jx ha⟩;have n2:Nl i (a.drop (2^i)):=.inr ⟨i,apu _,jJ ha⟩;have s1:=oS hm ht (k:=i) (show i<=m by omega) oz n1 n1 ca.take ca.take;have s2:=oS hm ht (k:=i) (show i<=m by omega) oz n2 n2 ca.drop ca.drop;have s3:=oS hm ht (k:=i) (show i<=m by omega) oz s2.1 (ht.1 i oz) s2.2.2 (ht.2.cb i);refine⟨tv s1.1 (sM s3.1),?_,?_⟩
 ·unfold tJ T.norm;rw[l6,qf,s1.2.1,s3.2.1,s2.2.1];rfl
 ·exact(s1.2.2.plus s3.2.2.minus).mono oz
theorem XC{sx sy sd sn:Int}(hd:sd=0\/sd=1):T.sgn3 sx sy sd sn=if sx=sy*sd\/sy*sd=0 then sx else if sx=0 then sy*sd else sx*sn:=by
 unfold T.sgn3;rcases hd with rfl |rfl
 ·rw[aq7 rfl,aq7 (by simp)]
 ·rw[aq6 (by decide),Int.mul_one]
def oP(n:Nat):Nat:=if 0<=dG n/\dG n<=5 then(dG n).toNat else 0
def oW(n:Nat):Bool:=decide (0<=dG n/\dG n<=5)
theorem qJ{k:Nat}(h:k<=5):oP (2^k)=k/\oW (2^k)=true:=by
 unfold oP oW;rw[wl,aq7 oz];exact⟨by omega,by rw[aq8];omega⟩
theorem Ns{n:Nat}(h:∀k,k<6->n≠2^k):oP n=0/\oW n=false:=by
 have h1:¬(0<=dG n/\dG n<=5):=by
  intro h1;obtain⟨j,e1,e2⟩:=OF h1.1;exact h j oz e1
 unfold oP oW;rw[aq6 h1];exact⟨rfl,arc h1⟩
theorem Pr{m:Nat}(hm:m<=5)(a:List Rt):(a≠[]/\(dG a.length<0\/(m:Int)<dG a.length))↔(a.length≠0/\(oW a.length=false\/m<oP a.length)):=by
 have h0:a≠[]↔a.length≠0:=by
  rw[ne_eq,ne_eq,an1]
 rw[h0]
 have h1:(dG a.length<0\/(m:Int)<dG a.length)↔(oW a.length=false\/m<oP a.length):=by
  unfold oW oP;rw[decide_eq_false_iff_not];generalize dG a.length=z
  by_cases h:0<=z/\z<=5
  ·rw[aq7 h];constructor
   ·rintro(h' |h')
    ·omega
    ·exact .inr oz
   ·rintro(h' |h')
    ·exact ard h h'
    ·exact .inr oz
  ·rw[aq6 h];constructor
   ·intro _;exact .inl h
   ·intro _;omega
 rw[h1]
theorem Wo{l m k:Nat}{b:Bool}(h:cond (aa .neq (l:Int) 0) (cond (!b) true (aa .gtr (k:Int) (m:Int))) false=true):l≠0/\(b=false\/m<k):=by
 cases h1:aa .neq (l:Int) 0
 ·rw[h1]at h;cases h
 ·rw [h1] at h;refine ⟨by simpa [aa] using h1,?_⟩;cases b
  ·exact .inl rfl
  ·exact .inr (by simpa[aa]using h)
theorem ait{l m k:Nat}{b:Bool}(h:cond (aa .neq (l:Int) 0) (cond (!b) true (aa .gtr (k:Int) (m:Int))) false=false):¬(l≠0/\(b=false\/m<k)):=by
 rintro⟨h1,h2⟩;have e1:aa .neq (l:Int) 0=true:=by simpa[aa]using h1
 rw[e1]at h;rcases h2 with rfl |h2
 ·cases h
 ·have e2 : aa .gtr (k : Int) (m : Int) = true := by simpa [aa] using h2
  rw[e2]at h;cases b <;> cases h
theorem Xl(a:List Rat)(i:Nat)(h:a.length<=i) :
  BlkSub (.row 3 ((bc a i).map qA++[.agg [.v (.bool false),.v (.slice none 0 0),.v (.slice none 0 0)]])) (.row 3 ((bc a (i+1)).map qA)):=by
 have e:bc a (i+1)=bc a i++[0]:=by
  unfold bc;rw[show i+1-a.length=(i-a.length)+1 by omega,List.replicate_succ',aqt]
 rw[e,ap8];refine .row (by simp) ?_;intro j x y hx hy
 by_cases hj:j<((bc a i).map qA).length
 ·rw[aqc hj]at hx hy;rw[hx]at hy;cases hy
  simp only[apv,apt]at hx;obtain⟨q,_,rfl⟩:=hx;exact oo.refl (HA q)
 ·rw[aqb oz]at hx hy;cases hk:j-((bc a i).map qA).length with
  |zero=>rw[hk]at hx hy;cases hx;cases hy;exact qZ
  |succ n=>rw[hk]at hx;simp at hx
theorem Dx(n:Nat):aa .neq (n:Int) 0=aa .gtr (n:Int) 0:=by
 show(((n:Int) != 0):Bool)=decide ((n:Int)>0);cases n with
 |zero=>rfl
 |succ n =>
  have h1:((((n+1:Nat):Int) != 0):Bool)=true:=by rw[bne_iff_ne];omega
  rw[h1];exact(arb oz).symm
theorem Vo{q:Rat}(h:cond (cond (rt q).neg true (aa .neq ((rt q).num.length:Int) 0)) true (aa .neq ((rt q).den.length:Int) 0)=true):q≠0:=by
 rw[Dx,Dx]at h;exact Rc h
theorem Zg{q:Rat}(h:cond (cond (rt q).neg true (aa .neq ((rt q).num.length:Int) 0)) true (aa .neq ((rt q).den.length:Int) 0)=false):q=0:=by
 rw[Dx,Dx]at h;exact Mf h
theorem oR{e:Nat}(h:aa .neq (e:Int) 0=true):e≠0:=by
 have:(e:Int)≠0:=by simpa[aa]using h
 omega
theorem oh{e:Nat}(h:aa .neq (e:Int) 0=false):e=0:=by
 have:(e:Int)=0:=by simpa[aa]using h
 omega
theorem TJ{rs:List (List Rt)}(cT:∀d∈rs,∀x∈d,x.ok){k j:Nat}(hk:k<=rs.length)(h:∀j,j<k->kZ rs j)(hj:j<k):(rs.map nR)[j]?=some (nA (((llq rs).take k).getD j [])):=by
 have h1:=Ht cT hk (fun j hj=>(h j hj).2.1);have h2:((rs.take k).map nR)[j]?=(((llq rs).take k).map nA)[j]?:=by rw[h1]
 simp only[apv,aqh,aq7 hj]at h2 ⊢;rw[h2];have hl:j<(llq rs).length:=by rw[apr];omega
 simp only[apq,aqh,aq7 hj];rw[<- apv,aps hl];rfl
structure Tn where
  t:Rt
  half:Bool
namespace Tn
def av(x:Tn):AV:=.agg [bl x.t.neg,ws x.t.num,ws x.t.den,bl x.half]
def err(x:Tn):Nat:=if x.t.valid=true/\(x.half=true->x.t.q=0)then 0 else 2
end Tn
def dT(half:Bool)(t:Rat):Rat:=if half then -1 else(1-t*t)/(1+t*t)
def dV(half:Bool)(t:Rat):Rat:=if half then 0 else(t+t)/(1+t*t)
theorem Tn.err_yes{x:Tn}(h:cond (!x.t.valid) true (cond x.half (aa .neq (ci x.t.q) 0) false)=true):x.err=2:=by
 unfold Tn.err;rw[aq6];rintro⟨h1,h2⟩;rw[h1]at h;cases hh:x.half
 ·rw[hh]at h;cases h
 ·rw[hh,h2 hh]at h;cases h
theorem Tn.err_no{x:Tn}(h:cond (!x.t.valid) true (cond x.half (aa .neq (ci x.t.q) 0) false)=false):x.err=0:=by
 unfold Tn.err;rw[aq7];cases hv:x.t.valid
 ·rw[hv]at h;cases h
 ·rw [hv] at h;refine ⟨rfl,fun hh=>?_⟩;rw [hh] at h;have:ci x.t.q = 0:=by simpa [aa] using h
  exact wU this
theorem Tn.ok_valid{x:Tn}(h:x.err=0):x.t.valid=true:=by
 unfold Tn.err at h;split at h
 ·rename_i h1;exact h1.1
 ·cases h
theorem ajr(p:Rat):p/0=0:=by rw[aon,Rat.inv_zero,Rat.mul_zero]
theorem Tm{e:Nat}{t:Rat}(half:Bool)(h:Qb e t):Qb (4*e+6) (dT half t):=by
 unfold dT;split
 ·exact(Qb.one.neg).mono oz
 ·exact((Qb.one.sub (h.mul h)).div (Qb.one.add (h.mul h))).mono oz
theorem TA{e:Nat}{t:Rat}(half:Bool)(h:Qb e t):Qb (4*e+6) (dV half t):=by
 unfold dV;split
 ·exact Qb.zero.mono oz
 ·exact((h.add h).div (Qb.one.add (h.mul h))).mono oz
structure Plc where
  x:Rt
  y:Rt
def Plc.av(p:Plc):AV:=.agg [bl p.x.neg,ws p.x.num,ws p.x.den,bl p.y.neg,ws p.y.num,ws p.y.den]
structure Pse where
  turn:Tn
  at_:Plc
def Pse.av(p:Pse):AV:=.agg [bl p.turn.t.neg,ws p.turn.t.num,ws p.turn.t.den,bl p.turn.half,bl p.at_.x.neg,ws p.at_.x.num,ws p.at_.x.den,bl p.at_.y.neg,ws p.at_.y.num,ws p.at_.y.den]
def Pse.ok(p:Pse):Bool:=decide (p.turn.err=0)&&p.at_.x.valid&&p.at_.y.valid
theorem Xe(q:Rat):aa .eql (ci q) 0=decide (q=0):=by
 by_cases h:q=0
 ·subst h;rfl
 ·rw[arc h];have:ci q≠0:=fun h'=>h (wU h')
  simpa[aa]using this
theorem lN(a b:Bool):cond a b false=(a&&b):=by cases a <;> rfl
theorem EX{x:Blk}(hx:x.nm=[]){k:Nat}(h:x.Names k):False:=by
 have:=h.mem;rw[hx]at this;cases this
theorem A9{ext:Nat->Prop}{k d:Nat}{x:Blk}{m m2:Nat->Option Nat}{w:ark}(hx:x.nm=[])(h:m2 d=m k)(hr:HeapRel ext [(k,some x)] m w):HeapRel ext [(d,some x)] m2 w:=by
 refine⟨?_,?_,?_⟩
 ·intro k' z hz;obtain⟨rfl,h9⟩:=i9 hz;cases h9;have h1:=hr.blk k _ (by rw[a5,aq7 rfl]);rw[nQ h (y:=x) (x:=x)];exact BlkRep.mono (w:=w) (fun _ _ h=>h) (fun _ _ h=>h) (fun _ _ hn=>(EX hx hn).elim) h (fun _ _=>rfl) h1
 ·intro k1 k2 z z' b h1 h2 _ _;rw[(i9 h1).1,(i9 h2).1]
 ·intro k' z b hz hb;obtain⟨rfl,h9⟩:=i9 hz;cases h9;exact hr.sep k _ b (by rw[a5,aq7 rfl]) (h▸hb)
theorem Con.rB{P:arj}{f:FuncId}{k off:Nat}{x x':Blk}{xs:List AV}{r:AV}(d:Nat)(hx:x.nm=[])(hx':x'.nm=[])(pb:(xs.all fun x=>x.nm.isEmpty)=true)(hr:r.nm=[])
  (h:Con P f (.ptr k off::xs) [(k,some x)] r [(k,some x')]):Con P f (.ptr d off::xs) [(d,some x)] r [(d,some x')]:=by
 refine⟨h.ok,?_⟩;intro ext m w vs hext cQ dW dC
 have h1 := h.ret ext (fun _ => m d) w vs hext (A9 (k := d) hx rfl cQ) (by simpa using dW) (by
  intro j v y hv hy;rw[nQ (d:=k) (k:=d) (y:=x) (x:=x) (m2:=fun _=>m d) (m:=m) rfl]
  match j,hy with
  |0,hy =>
   cases hy;have h2:=dC 0 v _ hv rfl;cases h2 with
   |ptr hm=>exact .ptr hm
  |j+1,hy =>
   have h2:=dC (j+1) v y hv hy;refine ma ?_ h2;have:=ap3.1 pb y (apo hy);simpa using this)
 refine Calls.mono h1 ?_;rintro e w' ⟨v,m',rfl,hf,hh,hn,hk,bn⟩
 have ho:bh [(k,some x)] (fun _=>m d)=bh [(d,some x)] m:=by
  funext b;apply propext;rw[nT,nT]
 refine⟨v,fun _=>m' k,rfl,ho▸hf,A9 (k:=k) hx' rfl hh,?_,?_,?_⟩
 ·intro k' x b hx hb;rw[<- ho];exact hn k _ b (by rw[a5,aq7 rfl]) hb
 ·intro k' x y hx hy;obtain⟨rfl,_⟩:=i9 hx;exact hk k _ _ (by rw[a5,aq7 rfl]) (by rw[a5,aq7 rfl])
 ·rw[nQ (d:=d) (k:=k) (y:=x') (x:=x') (m2:=fun _=>m' k) (m:=m') rfl];exact ma hr bn
structure Nm(n e:Nat)(l:List Rat):Prop where
  five:n<=5
  nl:Nl n l
  cb:Cb e l
theorem Nm.mono{n e f:Nat}{l:List Rat}(h:Nm n e l)(hf:e<=f):Nm n f l:=⟨h.five,h.nl,h.cb.mono hf⟩
theorem Nm.rt{n e:Nat}{l:List Rat}(h:Nm n e l)(he:e<=lm n):NR (l.map Go.Lw.rt) e:=by
 have dp:=oO n;refine⟨?_,by have:=h.nl.len5 h.five;rw[apr];omega,by rw[fQ];exact h.cb⟩;intro x hx;obtain⟨q,hq,rfl⟩:=anx.1 hx;exact(h.cb.qs oz hq).ok
theorem Nm.chk{n e:Nat}{l:List Rat}(h:Nm n e l):de n (l.map Go.Lw.rt)=0:=ue h.nl
theorem Nm.add{n e f:Nat}{a b:List Rat}(ha:Nm n e a)(hb:Nm n f b):Nm n (e+f+1) (sh n (T.add n (af n a) (af n b))):=by
 refine⟨ha.five,gk _ _,?_⟩;rw[<- l6];exact(ha.cb.plus hb.cb).sh (tv ha.nl hb.nl)
theorem Nm.neg{n e:Nat}{a:List Rat}(ha:Nm n e a):Nm n e (sh n (T.neg n (af n a))):=by
 refine⟨ha.five,gk _ _,?_⟩;rw[<- qf];exact ha.cb.minus.sh (sM ha.nl)
theorem Nm.sub{n e f:Nat}{a b:List Rat}(ha:Nm n e a)(hb:Nm n f b):Nm n (e+f+1) (sh n (T.add n (af n a) (T.neg n (af n b)))):=by
 refine⟨ha.five,gk _ _,?_⟩;rw[<- qf,<- l6];exact(ha.cb.plus hb.cb.minus).sh (tv ha.nl (sM hb.nl))
abbrev kB(r n:Nat):Nat:=eB r n
theorem Nm.mul{ts:LL}{r n e f:Nat}(tw:Tw ts r)(hn:n=ts.length){a b:List Rat}(ha:Nm n e a)(hb:Nm n f b):Nm n (e+f+kB r n) (sh n (T.mul (aw ts) n (af n a) (af n b))):=by
 subst hn;refine⟨ha.five,gk _ _,?_⟩;have h1:=jO ts ts.length tw.ok.1 ts.length ts.length a b (apu _) (apu _) ha.nl hb.nl;have h2:=Cb.mul tw.ok (k:=ts.length) (apu ts.length) (apu _) ha.nl hb.nl ha.cb hb.cb;rw[<- h1.2];exact h2.sh h1.1
theorem Nm.ofQ{n e:Nat}(hn:n<=5){q:Rat}(h:Cb e [q]):Nm n e (sh 0 (q:Rat)):=by
 refine⟨hn,(gk 0 q).mono (apx _),?_⟩;have:=h.sh (k:=0) (.inr ⟨0,apu _,rfl⟩);exact this
theorem Cb.one{e:Nat}{q:Rat}(h:Qb e q):Cb e [q]:=by
 refine⟨q.den,q.num.natAbs,⟨by have:=q.den_nz;omega,?_⟩,amn h.2,amn h.1⟩;intro x hx;rw[am8.1 hx];refine⟨q.num,?_,apu _⟩
 have hd:((q.den:Int):Rat)≠0:=by
  intro h0;have:(q.den:Int)=0:=aos.1 h0;have:=q.den_nz;omega
 have hq:q=(q.num:Rat)/((q.den:Int):Rat):=by
  rw[<- aoq,aom]
 have h1:(q.num:Rat)/((q.den:Int):Rat)*((q.den:Int):Rat)=(q.num:Rat):=Rat.div_mul_cancel hd;rw[<- hq]at h1;exact h1
theorem kl(n:Nat)(q:Rat):af n (sh 0 (q:Rat))=T.ofQ n q:=by
 show af n (if q=0 then[]else[q])=_;split
 ·rename_i h;subst h;rw[jM]
  induction n with
  |zero=>rfl
  |succ n ih=>simp only[T.zero,T.ofQ,ih]
 ·exact oF n q
def aR(x y:List Rat):AV:=.agg [nA x,nA y]
def jD(ts:LL):Blk:=.box [.lst 1 (ts.map nA),.v .nilIface]
theorem FE{ts:LL}{r e:Nat}(tw:Tw ts r){a:List Rat}(ha:Nm ts.length e a):bY (ts.map (List.map rt)) [a.map rt]=0:=by
 refine z8 tw.chk (fun x hx=>?_);rw[am8.1 hx,apr];exact ha.chk
theorem vt{ts:LL}{r e f:Nat}(tw:Tw ts r){a b:List Rat}(ha:Nm ts.length e a)(hb:Nm ts.length f b):bY (ts.map (List.map rt)) [a.map rt,b.map rt]=0:=by
 refine z8 tw.chk (fun x hx=>?_);rw[apr];simp only[aqf,aqg,or_false]at hx;rcases hx with rfl |rfl
 ·exact ha.chk
 ·exact hb.chk
def lX:List (List Rat×List Rat)->LL
  |[]=>[]
  |p::l=>p.1::p.2::lX l
theorem Od:∀(a b:List (List Rat×List Rat)),lX (a++b)=lX a++lX b
 |[],b=>rfl
 |p::a,b=>by simp only[ans,lX,Od a b]
theorem BB:∀(a:List (List Rat×List Rat)),(lX a).length=2*a.length
 |[]=>rfl
 |p::a=>by simp only[lX,ap4,BB a];omega
theorem LG{P:List Rat->Prop}:∀{ps:List (List Rat×List Rat)},(∀p∈ps,P p.1/\P p.2)->∀l∈lX ps,P l
 |[],_,l,h=>by cases h
 |p::ps,hp,l,h=>by
  simp only[lX,aqf]at h;rcases h with rfl |rfl |h
  ·exact(hp p (by simp)).1
  ·exact(hp p (by simp)).2
  ·exact LG (fun q hq=>hp q (by simp[hq])) l h
theorem bB{s:AS}{k:Nat}{x:Blk}(h:lk s.hp k=some x):∀k' z,lk [(k,some x)] k'=some z->lk s.hp k'=some z:=by
 intro k' z hz;obtain⟨rfl,h9⟩:=i9 hz;cases h9;exact h
def ua(ts:LL)(a b c d:T ts.length):T ts.length:=T.add ts.length (T.mul (aw ts) ts.length a c) (T.mul (aw ts) ts.length b d)
def sw(ts:LL)(a b c d:T ts.length):T ts.length:=T.add ts.length (T.mul (aw ts) ts.length a d) (T.neg ts.length (T.mul (aw ts) ts.length b c))
theorem EJ{ts:LL}{a b c d:T ts.length}:T.add ts.length (af ts.length (sh ts.length (T.mul (aw ts) ts.length a c))) (af ts.length (sh ts.length (T.mul (aw ts) ts.length b d)))=ua ts a b c d:=by
 rw[bu,bu];rfl
theorem EW{ts:LL}{a b c d:T ts.length}:T.add ts.length (af ts.length (sh ts.length (T.mul (aw ts) ts.length a d))) (T.neg ts.length (af ts.length (sh ts.length (T.mul (aw ts) ts.length b c))))=sw ts a b c d:=by
 rw[bu,bu];rfl
abbrev subT(ts:LL)(x y:T ts.length):T ts.length:=T.add ts.length x (T.neg ts.length y)
def zG(ts:LL)(a b c d p q:T ts.length):T ts.length:=sw ts (subT ts c a) (subT ts d b) (subT ts p a) (subT ts q b)
theorem Q0{ts:LL}{a b c d p q:T ts.length} :
  sw ts (af ts.length (sh ts.length (subT ts c a))) (af ts.length (sh ts.length (subT ts d b))) (af ts.length (sh ts.length (subT ts p a))) (af ts.length (sh ts.length (subT ts q b)))=zG ts a b c d p q:=by
 rw[bu,bu,bu,bu];rfl
theorem EH{ts:LL}{r e f:Nat}(tw:Tw ts r){a b c d:List Rat}(ha:Nm ts.length e a)(hb:Nm ts.length e b)(hc:Nm ts.length f c)(hd:Nm ts.length f d) :
  Nm ts.length (2*(e+f+kB r ts.length)+1) (sh ts.length (ua ts (af ts.length a) (af ts.length b) (af ts.length c) (af ts.length d))):=by
 have h:=(ha.mul tw rfl hc).add (hb.mul tw rfl hd);rw[EJ]at h;exact h.mono oz
theorem HJ{ts:LL}{r e f:Nat}(tw:Tw ts r){a b c d:List Rat}(ha:Nm ts.length e a)(hb:Nm ts.length e b)(hc:Nm ts.length f c)(hd:Nm ts.length f d) :
  Nm ts.length (2*(e+f+kB r ts.length)+1) (sh ts.length (sw ts (af ts.length a) (af ts.length b) (af ts.length c) (af ts.length d))):=by
 have h:=(ha.mul tw rfl hd).sub (hb.mul tw rfl hc);rw[EW]at h;exact h.mono oz
theorem ahd{ts:LL}{r e:Nat}(tw:Tw ts r){a b c d p q:List Rat}(ha:Nm ts.length e a)(hb:Nm ts.length e b)(hc:Nm ts.length e c)(hd:Nm ts.length e d)(hp:Nm ts.length e p)(hq:Nm ts.length e q) :
  Nm ts.length (8*e+5+2*kB r ts.length) (sh ts.length (zG ts (af ts.length a) (af ts.length b) (af ts.length c) (af ts.length d) (af ts.length p) (af ts.length q))):=by
 have h:=HJ tw (hc.sub ha) (hd.sub hb) (hp.sub ha) (hq.sub hb);rw[Q0]at h;exact h.mono oz
theorem Tx{x y:Int}:cond (cond (aa .eql x 0) (aa .eql y 0) false) true false=decide (x=0/\y=0):=by
 by_cases hx:x=0
 ·subst hx
  by_cases hy:y=0
  ·subst hy;rfl
  ·have : aa .eql y 0 = false := by simpa [aa] using hy
   rw[this];simp[hy]
 ·have : aa .eql x 0 = false := by simpa [aa] using hx
  rw[this];simp[hx]
def yV(ts:LL)(cos sin x y:T ts.length):T ts.length:=sw ts cos sin y x
def zL(ts:LL)(cos sin x y:T ts.length):T ts.length:=ua ts sin cos x y
theorem Bc{ts:LL}{r e f:Nat}(tw:Tw ts r){a b c d:List Rat}(ha:Nm ts.length e a)(hb:Nm ts.length e b)(hc:Nm ts.length f c)(hd:Nm ts.length f d) :
  Nm ts.length (2*(e+f+kB r ts.length)+1) (sh ts.length (yV ts (af ts.length a) (af ts.length b) (af ts.length c) (af ts.length d))):=HJ tw ha hb hd hc
theorem AU{ts:LL}{r e f:Nat}(tw:Tw ts r){a b c d:List Rat}(ha:Nm ts.length e a)(hb:Nm ts.length e b)(hc:Nm ts.length f c)(hd:Nm ts.length f d) :
  Nm ts.length (2*(e+f+kB r ts.length)+1) (sh ts.length (zL ts (af ts.length a) (af ts.length b) (af ts.length c) (af ts.length d))):=EH tw hb ha hc hd
def zw(ts:LL)(cos sin X:T ts.length)(x y:Rat):T ts.length:=T.add ts.length (yV ts cos sin (T.ofQ ts.length x) (T.ofQ ts.length y)) X
def yt(ts:LL)(cos sin Y:T ts.length)(x y:Rat):T ts.length:=T.add ts.length (zL ts cos sin (T.ofQ ts.length x) (T.ofQ ts.length y)) Y
theorem Ei{ts:LL}{cos sin X:T ts.length}{x y:Rat}:T.add ts.length (af ts.length (sh ts.length (yV ts cos sin (af ts.length (sh 0 (x:Rat))) (af ts.length (sh 0 (y:Rat)))))) X=zw ts cos sin X x y:=by
 rw[bu,kl,kl];rfl
theorem HM{ts:LL}{cos sin Y:T ts.length}{x y:Rat}:T.add ts.length (af ts.length (sh ts.length (zL ts cos sin (af ts.length (sh 0 (x:Rat))) (af ts.length (sh 0 (y:Rat)))))) Y=yt ts cos sin Y x y:=by
 rw[bu,kl,kl];rfl
theorem Sub.fn0(f:FuncId):Sub (.v (.func (.func f) #[] #[])) (.fn f []):=fun g S m v h=>by
 cases h;exact .fn rfl (fun j u c hu hc=>by simp at hc)
theorem aio{e k m:Nat}(h:8*e+4*k+4<=m):2*(2*(e+e+k)+1)<=m:=by omega
theorem adj{rs:List (List Rt)}{a:List Rt}(h:bS rs=0):bY rs [a]=de rs.length a:=by
 unfold bY;rw[aq6 (by rw[h];simp)];show(if _ then _ else 0)=_;split
 ·rfl
 ·rename_i h1;exact(apn.1 h1).symm
def iS(ts:LL)(x y:T ts.length):Bool:=decide (T.sgn (aw ts) ts.length (subT ts x y)=0)
theorem ET(z:Int):cond true (aa .eql z 0) false=decide (z=0):=by
 by_cases h:z=0
 ·subst h;rfl
 ·rw[arc h];simpa[aa]using h
theorem yj{n:Int}(h:-9223372036854775808<=n/\n<=9223372036854775807):Qs ((n:Rat)):=by
 refine⟨2,by unfold ir;omega,?_,?_⟩
 ·unfold Lz;simp only[Rat.num_intCast,Nat.reducePow];omega
 ·unfold Lz;simp only[Rat.den_intCast];decide
theorem MC(a b c d:Bool):cond (cond (cond a b false) c false) d false=(a&&b&&c&&d):=by cases a <;> cases b <;> cases c <;> rfl
def fO(s:ByteArray)(i:Nat):Nat:=(s.data.getD i 0).toNat
def g9(c:Nat):Bool:=decide (97<=c/\c<=122)||decide (65<=c/\c<=90)
def vI(c:Nat):Bool:=decide (48<=c/\c<=57)
def oL(c:Nat):Bool:=g9 c||vI c||decide (c=95)
def si(s:ByteArray):Nat->Nat->Bool
  |_,0=>true
  |i,n+1=>oL (fO s i)&&si s (i+1) n
def jZ(s:ByteArray):Bool:=decide (0<s.size/\s.size<=24)&&g9 (fO s 0)&&si s 0 s.size
def iQ(s:ByteArray):Nat->Nat->Nat
  |i,0=>i
  |i,n+1=>if oL (fO s i)then iQ s (i+1) n else i
theorem Oc(s:ByteArray):∀(n i:Nat),i<=iQ s i n/\iQ s i n<=i+n
 |0,i=>⟨apu _,apu _⟩
 |n+1,i=>by
  simp only[iQ];split
  ·have:=Oc s n (i+1);omega
  ·omega
theorem Hv(s:ByteArray):∀(n i:Nat),iQ s i n=i+n↔si s i n=true
 |0,i=>by simp[iQ,si]
 |n+1,i=>by
  simp only[iQ,si,apw];split
  ·rename_i h;rw[<- Hv s n (i+1),show i+(n+1)=i+1+n by omega];simp[h]
  ·rename_i h;constructor
   ·intro h';omega
   ·intro h';exact ard h'.1 h
theorem aj4{c:Nat}(h:g9 c=true):oL c=true:=by unfold oL;rw[h];rfl
def iC(s:ByteArray):Nat:=if 0<s.size/\g9 (fO s 0)=true then iQ s 1 (s.size-1)else 0
theorem Ve(s:ByteArray):jZ s=decide (0<iC s/\iC s=s.size/\iC s<=24):=by
 unfold jZ iC;rw[aov];simp only[apw,aq8]
 by_cases h:0<s.size/\g9 (fO s 0)=true
 ·rw[aq7 h];obtain⟨h1,h2⟩:=h;have h3:=Hv s (s.size-1) 1
  have h4:si s 0 s.size=si s 1 (s.size-1):=by
   obtain⟨n,hn⟩:∃n,s.size=n+1:=⟨s.size-1,by omega⟩
   rw[hn];simp only[si,aj4 h2,Bool.true_and,am1]
  have h5:=Oc s (s.size-1) 1;rw[h4,<- h3];constructor
  ·rintro⟨⟨h6,h7⟩,h8⟩;omega
  ·rintro⟨h6,h7,h8⟩;exact⟨⟨by omega,h2⟩,by omega⟩
 ·rw[aq6 h];constructor
  ·rintro⟨⟨h1,h2⟩,h3⟩;exact ard ⟨h1.1,h2⟩ h
  ·rintro⟨h1,_⟩;omega
theorem Z3(s:ByteArray)(h0:0<s.size)(h24:s.size<=24):jZ s=decide ((if g9 (fO s 0)then iQ s 0 s.size else 0)=s.size):=by
 unfold jZ;rw[aov];simp only[apw,aq8];have h3:=Hv s s.size 0;rw[ams]at h3
 by_cases h:g9 (fO s 0)=true
 ·rw[aq7 h,h3];exact⟨fun h=>h.2,fun h'=>⟨⟨⟨h0,h24⟩,h⟩,h'⟩⟩
 ·rw[aq6 h];exact⟨fun h'=>ard h'.1.2 h,fun h'=>by omega⟩
def fB(a b:ByteArray):Bool:=a.toList==b.toList
def iA(n:Nat)(err:Nat->Nat):Nat:=fV ((List.range n).map err)
theorem fX{n i:Nat}{err:Nat->Nat}(hi:i<n)(h:∀j,j<i->err j=0)(he:err i≠0):iA n err=err i:=by
 unfold iA
 have e:List.range n=List.range i++(i::(List.range' (i+1) (n-(i+1)))):=by
  obtain⟨d,rfl⟩:∃d,n=i+(d+1):=⟨n-i-1,by omega⟩
  rw[List.range_eq_range',List.range_eq_range',<- List.range'_append_1,ams,List.range'_succ,show i+(d+1)-(i+1)=d by omega]
 rw[e,ap8,yc _ _ (rV (fun x hx=>by
  obtain⟨j,hj,rfl⟩:=anx.1 hx;exact h j (an2.1 hj)))]
 show(if err i≠0 then err i else _)=_;rw[aq7 he]
theorem pX{n:Nat}{err:Nat->Nat}(h:∀j,j<n->err j=0):iA n err=0 :=
 rV (fun x hx=>by obtain⟨j,hj,rfl⟩:=anx.1 hx;exact h j (an2.1 hj))
theorem r6{n:Nat}{err:Nat->Nat}(h:iA n err=0):∀j,j<n->err j=0:=fun j hj =>
 uJ h _ (anx.2 ⟨j,an2.2 hj,rfl⟩)
structure Mk where
  name:ByteArray
  x:Rt
  y:Rt
instance:Inhabited Mk:=⟨⟨default,⟨false,[],[]⟩,⟨false,[],[]⟩⟩⟩
def Mk.av(m:Mk):AV:=.agg [.v (.string m.name),bl m.x.neg,ws m.x.num,ws m.x.den,bl m.y.neg,ws m.y.num,ws m.y.den]
structure Bd where
  name:ByteArray
  pts:List Mk
instance:Inhabited Bd:=⟨⟨default,[]⟩⟩
def Bd.av(b:Bd):AV:=.agg [.v (.string b.name),.lst 7 (b.pts.map Mk.av)]
structure Jt where
  name:ByteArray
  kind:Int
  a:Int
  point:Int
  b:Int
  on:Int
  to:Int
instance:Inhabited Jt:=⟨⟨default,0,0,0,0,0,0⟩⟩
def Jt.av(j:Jt):AV:=.agg [.v (.string j.name),i64 j.kind,i64 j.a,i64 j.point,i64 j.b,i64 j.on,i64 j.to]
structure Dr where
  name:ByteArray
  body:Int
instance:Inhabited Dr:=⟨⟨default,0⟩⟩
def Dr.av(d:Dr):AV:=.agg [.v (.string d.name),i64 d.body]
structure Li where
  name:ByteArray
  bo:List Bd
  jo:List Jt
  dv:List Dr
def Li.av(l:Li):AV:=.agg [.v (.string l.name),.lst 2 (l.bo.map Bd.av),.lst 7 (l.jo.map Jt.av),.lst 2 (l.dv.map Dr.av)]
structure Mk.ok(m:Mk):Prop where
  x:m.x.ok
  y:m.y.ok
  qx:Qb 1000 m.x.q
  qy:Qb 1000 m.y.q
structure Bd.ok(b:Bd):Prop where
  pts:∀m∈b.pts,m.ok
  names:∀m∈b.pts,m.name.size<=281474976710656
  ll:b.pts.length<=281474976710656
  name:b.name.size<=281474976710656
structure Li.ok(l:Li):Prop where
  name:l.name.size<=281474976710656
  bo:∀b∈l.bo,b.ok
  jnames:∀j∈l.jo,j.name.size<=281474976710656
  dnames:∀d∈l.dv,d.name.size<=281474976710656
  lb:l.bo.length<=281474976710656
  lj:l.jo.length<=281474976710656
  ld:l.dv.length<=281474976710656
def km(l:List ByteArray)(i:Nat):Bool:=(l.take i).any (fun n=>fB n (l.getD i default))
def fh(ps:List Mk)(i:Nat):Nat :=
  if jZ (ps.getD i default).name=false then 5 else if km (ps.map Mk.name) i=true then 6
  else if(ps.getD i default).x.valid=true/\(ps.getD i default).y.valid=true then 0 else 3
def fi(bs:List Bd)(i:Nat):Nat :=
  if jZ (bs.getD i default).name=false then 5 else if km (bs.map Bd.name) i=true then 6
  else if 8<(bs.getD i default).pts.length then 4 else iA (bs.getD i default).pts.length (fh (bs.getD i default).pts)
def bR(i:Int)(n:Nat):Bool:=decide (0<=i/\i<n)
def dm(l:Li)(i:Int):List Mk:=(l.bo.getD i.toNat default).pts
def fy(l:Li)(j:Jt):Nat :=
  if j.kind≠0/\j.kind≠1 then 7
  else if bR j.a l.bo.length=false\/bR j.b l.bo.length=false then 9
  else if j.a=j.b then 13
  else if bR j.point (dm l j.a).length=false\/bR j.on (dm l j.b).length=false then 9
  else if j.kind=0 then(if j.to≠0 then 2 else 0)
  else if bR j.to (dm l j.b).length=false then 9
  else if((dm l j.b).getD j.on.toNat default).x.q=((dm l j.b).getD j.to.toNat default).x.q/\((dm l j.b).getD j.on.toNat default).y.q=((dm l j.b).getD j.to.toNat default).y.q then 8
  else 0
def ji(l:Li)(i:Nat):Nat :=
  if jZ (l.jo.getD i default).name=false then 5 else if km (l.jo.map Jt.name) i=true then 6 else fy l (l.jo.getD i default)
def fw(l:Li)(i:Nat):Nat :=
  if jZ (l.dv.getD i default).name=false then 5 else if km (l.dv.map Dr.name) i=true then 6
  else if bR (l.dv.getD i default).body l.bo.length=false then 9
  else if(l.dv.getD i default).body=0 then 7
  else if(l.dv.take i).any (fun d=>decide (d.body=(l.dv.getD i default).body))=true then 6 else 0
def jw(l:Li):Nat:=iA l.bo.length (fi l.bo)
def fR(l:Li):Nat:=if 16<l.jo.length then 4 else iA l.jo.length (ji l)
def iP(l:Li):Nat:=if 2<l.dv.length then 4 else iA l.dv.length (fw l)
def aG(l:Li):Nat :=
  if jZ l.name=false then 5 else if l.bo.length=0 then 10 else if 8<l.bo.length then 4
  else if jw l≠0 then jw l else if fR l≠0 then fR l else iP l
theorem ax{α:Type}{l:List α}{i:Nat}{x d:α}(h:l[i]?=some x):l.getD i d=x:=by rw[apq,h];rfl
theorem rU{α:Type}(f:α->ByteArray){l:List α}{i:Nat}{x:α}(h:l[i]?=some x):km (l.map f) i=(l.take i).any (fun y=>fB (f y) (f x)):=by
 unfold km;have h1:(l.map f).getD i default=f x:=ax (by rw[apv,h];rfl);rw[h1,<- map_take,List.any_map];rfl
theorem oT{α:Type}{p:α->Bool}{l:List α}{k:Nat}{x:α}(h:l[k]?=some x)(hn:(l.take k).any p=false)(hp:p x=false):(l.take (k+1)).any p=false:=by
 rw[dJ h,List.any_append,hn];simp[hp]
theorem p8{α:Type}{p:α->Bool}{l:List α}{k i:Nat}{x:α}(h:l[k]?=some x)(hk:k<i)(hp:p x=true):(l.take i).any p=true:=by
 rw[am7];exact⟨x,apo (by rw[aqh,aq7 hk];exact h),hp⟩
theorem K6(s:ByteArray):(s.toList==ByteArray.toList ⟨#[]⟩)=decide (s.size=0):=by
 have e:ByteArray.toList ⟨#[]⟩=[]:=Go.ByteArray.toList_eq _;have h:s.toList.length=s.size:=by rw[Go.ByteArray.toList_eq];cases s;rfl
 rw[e,aov,beq_iff_eq,aq8];constructor
 ·intro h';rw[h']at h;simpa using h.symm
 ·intro h';exact anr oz
theorem Rk{s:ByteArray}(h:(s.toList==ByteArray.toList ⟨#[]⟩)=false):0<s.size:=by
 rw[K6,decide_eq_false_iff_not]at h;omega
theorem a7{a b:Nat}(h:aa .lss (a:Int) (b:Int)=true):a<b:=by
 have:(a:Int)<b:=aq9 h;omega
theorem yf{a b:Nat}(h:aa .lss (a:Int) (b:Int)=false):b<=a:=by
 have:¬(a:Int)<b:=ara h;omega
theorem ajx{a b:Nat}{p:Bool}(h:cond (aa .lss (a:Int) (b:Int)) p false=true):a<b/\p=true:=by
 cases h1:aa .lss (a:Int) (b:Int)
 ·rw[h1]at h;cases h
 ·rw[h1]at h;exact⟨a7 h1,h⟩
theorem ac8{a b:Nat}{p:Bool}(h:cond (aa .lss (a:Int) (b:Int)) p false=false):a<b->p=false:=by
 intro h0;have h1:aa .lss (a:Int) (b:Int)=true:=arb (by omega:(a:Int)<b);rw[h1]at h;exact h
theorem Vd{s:ByteArray}(h:cond (s.toList==ByteArray.toList ⟨#[]⟩) true (!g9 (fO s 0))=true):iC s=0:=by
 unfold iC;rw[aq6];rintro⟨h1,h2⟩;rw[K6,arc oz,h2]at h;cases h
theorem Wn{s:ByteArray}(h:cond (s.toList==ByteArray.toList ⟨#[]⟩) true (!g9 (fO s 0))=false):0<s.size/\g9 (fO s 0)=true:=by
 cases h1:(s.toList==ByteArray.toList ⟨#[]⟩)
 ·rw[h1]at h;exact⟨Rk h1,by simpa using h⟩
 ·rw[h1]at h;cases h
theorem OS{s:ByteArray}{i:Nat}(h:s.size<=i):fO s i=0:=by
 unfold fO;have:s.data.size<=i:=h;simp[ap1,apj this]
theorem aa9(s:ByteArray):cond (cond (aa .gtr (iC s:Int) 0) (aa .eql (iC s:Int) (s.size:Int)) false) (aa .leq (iC s:Int) 24) false=jZ s:=by
 rw[Ve,aov,aq8];cases h1:aa .gtr (iC s:Int) 0
 ·have:¬(iC s:Int)>0:=ara h1;simp;omega
 ·have h1:(iC s:Int)>0:=aq9 h1;cases h2:aa .eql (iC s:Int) (s.size:Int)
  ·have : (iC s : Int) ≠ s.size := by simpa [aa] using h2
   simp;omega
  ·have h2:(iC s:Int)=s.size:=eq_of_beq h2
   have h3:aa .leq (iC s:Int) 24=true↔iC s<=24:=by
    show decide ((iC s:Int)<=24)=true↔_;rw[aq8];omega
   simp only[cond_true,h3];omega
theorem ag1(s:ByteArray):cond (cond (aa .gtr (s.size:Int) 0) (aa .leq (s.size:Int) 24) false) (aa .eql (((if g9 (fO s 0)then iQ s 0 s.size else 0:Nat)):Int) (s.size:Int)) false=jZ s:=by
 cases h1:aa .gtr (s.size:Int) 0
 ·have h1:¬(s.size:Int)>0:=ara h1;unfold jZ;rw[arc (show ¬(0<s.size/\s.size<=24) by omega)];rfl
 ·have h1:(s.size:Int)>0:=aq9 h1;cases h2:aa .leq (s.size:Int) 24
  ·have h2:¬(s.size:Int)<=24:=ara h2;unfold jZ;rw[arc (show ¬(0<s.size/\s.size<=24) by omega)];rfl
  ·have h2:(s.size:Int)<=24:=aq9 h2;rw[Z3 s oz oz];simp only[cond_true];rw[aov,aq8];generalize(if g9 (fO s 0)=true then iQ s 0 s.size else 0)=m;show(((m:Int)==(s.size:Int))=true)↔_;rw[beq_iff_eq];omega
theorem yv{α:Type}(sz:Nat)(f:α->AV)(l:List α)(n:Nat):AV.lst sz (((l.map f).drop 0).take (n-0))=.lst sz ((l.take n).map f):=by
 rw[Nat.sub_zero,aq1,map_take]
theorem zo{α:Type}{l:List α}{i k:Nat}{x:α}(h:(l.take i)[k]?=some x):l[k]?=some x/\k<i:=by
 rw[aqh]at h;split at h
 ·rename_i hk;exact⟨h,hk⟩
 ·cases h
theorem KN(i:Int)(n:Nat):cond (aa .geq i 0) (aa .lss i (n:Int)) false=bR i n:=by
 unfold bR;rw[aov,aq8];cases h:aa .geq i 0
 ·have:¬i>=0:=ara h;simp;omega
 ·have h:i>=0:=aq9 h;show decide (i<(n:Int))=true↔_;rw[aq8];omega
theorem d5{i:Int}{n:Nat}(h:bR i n=true):0<=i/\i<n:=aq9 h
theorem uK{p q:Bool}(h:cond (!p) true (!q)=true):p=false\/q=false:=by cases p <;> cases q <;> simp_all
theorem ui{p q:Bool}(h:cond (!p) true (!q)=false):p=true/\q=true:=by cases p <;> cases q <;> simp_all
theorem eI{p:Bool}(h:(!p)=true):p=false:=by cases p <;> simp_all
theorem eH{p:Bool}(h:(!p)=false):p=true:=by cases p <;> simp_all
theorem my{a b:Nat}(h:aa .gtr (a:Int) (b:Int)=true):b<a:=by
 have:(a:Int)>b:=aq9 h;omega
theorem kD{a b:Nat}(h:aa .gtr (a:Int) (b:Int)=false):a<=b:=by
 have:¬(a:Int)>b:=ara h;omega
theorem bj{a b:Nat}(cG:a<=b)(h:aa .lss (a:Int) (b:Int)=false):a=b:=by have:=yf h;omega
theorem dL{x y:Int}(h:aa .eql x y=true):x=y:=by simpa[aa]using h
theorem eZ{x y:Int}(h:aa .eql x y=false):x≠y:=by simpa[aa]using h
theorem ut{x y:Int}(h:aa .neq x y=true):x≠y:=by simpa[aa]using h
theorem Cz{x y:Int}(h:aa .neq x y=false):x=y:=by simpa[aa]using h
theorem JB{k:Int}(h:cond (aa .neq k 0) (aa .neq k 1) false=true):k≠0/\k≠1:=by
 cases h1:aa .neq k 0
 ·rw[h1]at h;cases h
 ·rw[h1]at h;exact⟨ut h1,ut h⟩
theorem N7{k:Int}(h:cond (aa .neq k 0) (aa .neq k 1) false=false):¬(k≠0/\k≠1):=by
 rintro⟨h1,h2⟩;have e1:aa .neq k 0=true:=by simpa[aa]using h1
 have e2:aa .neq k 1=true:=by simpa[aa]using h2
 rw[e1,e2]at h;cases h
theorem L6{p q r s:Rat}(h:cond (aa .eql (ci (p-q)) 0) (aa .eql (ci (r-s)) 0) false=true):p=q/\r=s:=by
 cases h1:aa .eql (ci (p-q)) 0
 ·rw[h1]at h;cases h
 ·rw[h1]at h;have e1:=wU (dL h1);have e2:=wU (dL h);exact⟨by grind,by grind⟩
theorem PD{p q r s:Rat}(h:cond (aa .eql (ci (p-q)) 0) (aa .eql (ci (r-s)) 0) false=false):¬(p=q/\r=s):=by
 rintro⟨rfl,rfl⟩;rw[Rat.sub_self,Rat.sub_self]at h;cases h
theorem vN{l:Li}{i:Int}(h:bR i l.bo.length=true):∃b,l.bo[i.toNat]?=some b/\dm l i=b.pts/\b∈l.bo/\0<=i:=by
 have h1:=d5 h;obtain⟨b,hb⟩:=ay (l:=l.bo) (i:=i.toNat) oz;exact⟨b,hb,by unfold dm;rw[ax hb],apo hb,h1.1⟩
theorem yW{ps:List Mk}{i:Int}(h:bR i ps.length=true):∃m,ps[i.toNat]?=some m/\ps.getD i.toNat default=m/\m∈ps/\0<=i:=by
 have h1:=d5 h;obtain⟨m,hm⟩:=ay (l:=ps) (i:=i.toNat) oz;exact⟨m,hm,ax hm,apo hm,h1.1⟩
theorem ux{x y:Int}:aa .eql x y=decide (x=y):=by
 show(x==y)=decide (x=y);rw[aov,beq_iff_eq,aq8]
theorem LE{n:Nat}(h:aa .eql (n:Int) 0=true):n=0:=by have:=dL h;omega
theorem O5{n:Nat}(h:aa .eql (n:Int) 0=false):n≠0:=by have:=eZ h;omega
theorem ae4{p q r s:Rat}:cond (aa .eql (ci (p-q)) 0) (aa .eql (ci (r-s)) 0) false=decide (p=q/\r=s):=by
 cases h:cond (aa .eql (ci (p-q)) 0) (aa .eql (ci (r-s)) 0) false
 ·exact(arc (PD h)).symm
 ·exact(arb (L6 h)).symm
theorem ag0{e:Nat}{q:Rat}(h:Qb e q):Cd q.den (2^e) [q]:=by
 refine⟨Nat.pos_of_ne_zero q.den_nz,fun p hp=>?_⟩;rw[am8.1 hp];refine⟨q.num,?_,amn h.1⟩
 have h0:((q.den:Int):Rat)≠0:=by
  intro h0;have:(q.den:Int)=0:=aos.1 h0;have:=q.den_nz;omega
 have h1:q=(q.num:Rat)/((q.den:Int):Rat):=by
  rw[<- aoq];exact(aom q).symm
 have h2:=Rat.div_mul_cancel (a:=(q.num:Rat)) h0;rw[<- h1]at h2;exact h2
theorem NS{e:Nat}:∀{l:List Rat},(∀q∈l,Qb e q)->∃D N,Cd D N l/\D<=2^(e*l.length)/\N<=2^(e*l.length+e)
 |[],_=>⟨1,1,Cd.nil oz,by simp,Nat.one_le_two_pow⟩
 |q::l,h=>by
  obtain⟨D,N,h1,h2,h3⟩:=NS (l:=l) (fun p hp=>h p (aqq _ hp));have hq:=h q (aqr ..);have e1:e*(q::l).length=e*l.length+e:=by rw[ap4,ame,Nat.mul_one]
  have k1:=(h1.scale (Nat.pos_of_ne_zero q.den_nz))
  have k2:=((ag0 hq).scale h1.1)
  rw[alx]at k2;refine⟨D*q.den,2^(e*l.length+e+e),?_,?_,?_⟩
  ·refine(Cd.app (a:=[q]) (k2.mono ?_) (k1.mono ?_))
   ·refine aqe (ap0 _ h2) ?_;rw[<- aqs];exact cV oz
   ·refine aqe (alz h3 (amn hq.2)) ?_;rw[<- aqs];exact apu _
  ·rw[e1,aqs];exact alz h2 (amn hq.2)
  ·rw[e1];exact apu _
def Rt.wok(r:Rt):Prop:=Ws r.num/\Ws r.den
theorem Rt.wok.ok{r:Rt}{k:Nat}(h:r.wok)(hn:r.num.length<=k)(hd:r.den.length<=k)(hk:k<=100):r.ok:=⟨h.1,h.2,by unfold ir;omega,by unfold ir;omega⟩
theorem Rt.ok.wok{r:Rt}(h:r.ok):r.wok:=⟨h.1,h.2.1⟩
def tK(l:List (List Rt)):Prop:=∀x∈l,(∀r∈x,r.wok)/\x.length<=281474976710656
theorem tK.app{a b:List (List Rt)}(ha:tK a)(hb:tK b):tK (a++b):=fun x hx=>by
 rcases ap2.1 hx with h |h
 ·exact ha x h
 ·exact hb x h
structure Pl where
  c:List Rt
  s:List Rt
  x:List Rt
  y:List Rt
instance:Inhabited Pl:=⟨⟨[],[],[],[]⟩⟩
def Pl.av(p:Pl):AV:=.agg [nR p.c,nR p.s,nR p.x,nR p.y]
def Pl.l(p:Pl):List (List Rt):=[p.c,p.s,p.x,p.y]
structure As where
  rs:List (List Rt)
  bs:List Pl
  ms:List Int
def As.av(a:As):AV:=.agg [.lst 1 (a.rs.map nR),.lst 4 (a.bs.map Pl.av),.lst 1 (a.ms.map i64)]
structure As.ok(a:As):Prop where
  rs:tK a.rs
  rl:a.rs.length<=281474976710656
  bs:∀b∈a.bs,tK b.l
  bl:a.bs.length<=281474976710656
structure AB(a:As):Prop where
  tr:TR a.rs 400000000
  nr:∀b∈a.bs,∀x∈b.l,NR x 50000000000
  ll:a.rs.length<=8
  bl:a.bs.length<=30
theorem RB.mono{r r':Nat}{ts:LL}(h:RB r ts)(hr:r<=r'):RB r' ts:=by
 obtain⟨D,N,h0,h1,h2,h3⟩:=h;exact⟨D,N,h0,h1,aqe h2 (cV hr),aqe h3 (cV hr)⟩
theorem TR.mono{rs:List (List Rt)}{r r':Nat}(h:TR rs r)(hr:r<=r')(hl:r'<=5000000000):TR rs r':=⟨h.ok,h.len,h.ll,h.rb.mono hr,hl,h.three⟩
theorem NR.mono{x:List Rt}{e f:Nat}(h:NR x e)(hf:e<=f):NR x f:=⟨h.ok,h.len,h.cb.mono hf⟩
theorem rA{α:Type}{l:List α}{p:α->Bool}{i:Nat}{x:α}(h:(l.take i).all p=true)(hx:l[i]?=some x)(hp:p x=true):(l.take (i+1)).all p=true:=by
 rw[dJ hx,all_append,h];simp[hp]
theorem pN{α:Type}{l:List α}{p:α->Bool}{i:Nat}{x:α}(hx:l[i]?=some x)(hp:p x=false):l.all p=false:=by
 refine aou.2 (fun h=>?_);rw[ap3]at h;rw[h x (apo hx)]at hp;cases hp
theorem ry{α:Type}{l:List α}{p:α->Bool}{i:Nat}(hi:i=l.length)(h:(l.take i).all p=true):l.all p=true:=by
 rw[hi,ap5]at h;exact h
structure Li.okw(l:Li):Prop where
  name:l.name.size<=281474976710656
  pts:∀b∈l.bo,b.name.size<=281474976710656/\b.pts.length<=281474976710656/\∀m∈b.pts,m.name.size<=281474976710656/\m.x.wok/\m.y.wok
  jnames:∀j∈l.jo,j.name.size<=281474976710656
  dnames:∀d∈l.dv,d.name.size<=281474976710656
  lb:l.bo.length<=281474976710656
  lj:l.jo.length<=281474976710656
  ld:l.dv.length<=281474976710656
def p9(m:Mk):Bool:=decide (m.x.num.length<=4/\m.x.den.length<=4/\m.y.num.length<=4/\m.y.den.length<=4)
def uq(b:Bd):Bool:=decide (b.pts.length<=30)&&b.pts.all p9
def lB(l:Li):Bool:=l.bo.all uq&&decide (l.bo.length<=30/\l.jo.length<=60/\l.dv.length<=30)
theorem VM{m:Mk}(h:p9 m=true)(hx':m.x.wok)(hy':m.y.wok):m.ok:=by
 unfold p9 at h;rw[aq8]at h;have hx:=hx'.ok h.1 h.2.1 oz;have hy:=hy'.ok h.2.2.1 h.2.2.2 oz;exact⟨hx,hy,(Rt.qb hx (k:=4) oz h.1 h.2.1).mono oz,(Rt.qb hy (k:=4) oz h.2.2.1 h.2.2.2).mono oz⟩
theorem Cv{l:Li}(h:lB l=true)(ho:l.okw):l.ok:=by
 unfold lB at h;rw[apw,ap3]at h;refine⟨ho.name,fun b hb=>?_,ho.jnames,ho.dnames,ho.lb,ho.lj,ho.ld⟩;have h1:=h.1 b hb;unfold uq at h1;rw[apw,ap3]at h1;obtain⟨o1,o2,o3⟩:=ho.pts b hb;exact⟨fun m hm=>VM (h1.2 m hm) (o3 m hm).2.1 (o3 m hm).2.2,fun m hm=>(o3 m hm).1,o2,o1⟩
structure Pse.wok(p:Pse):Prop where
  t:p.turn.t.wok
  x:p.at_.x.wok
  y:p.at_.y.wok
theorem Pse.wok.rs{p:Pse}(h:p.wok):tK [[p.turn.t,p.at_.x],[p.at_.y]]:=by
 intro x hx;simp only[aqf,aqg,or_false]at hx;rcases hx with rfl |rfl
 ·refine ⟨fun r hr => ?_, by show 2 <= _; omega⟩;simp only [aqf,aqg,or_false] at hr;rcases hr with rfl | rfl
  ·exact h.t
  ·exact h.x
 ·refine⟨fun r hr => ?_,by show 1<=_;omega⟩;simp only[aqf,aqg,or_false]at hr;subst hr;exact h.y
theorem E8{n k:Nat}:aa .leq (n:Int) (k:Int)=decide (n<=k):=by simp only[aa];exact decide_eq_decide.2 oz
theorem p6{n k:Nat}:aa .gtr (n:Int) (k:Int)=decide (k<n):=by simp only[aa];exact decide_eq_decide.2 oz
theorem l7(a b:Bool):cond a true b=(a||b):=by cases a <;> rfl
theorem ajd{l:Li}(h:l.bo.all uq=true) :
  cond (cond (aa .leq (l.bo.length:Int) 30) (aa .leq (l.jo.length:Int) 60) false) (aa .leq (l.dv.length:Int) 30) false=lB l:=by
 unfold lB;have e1:=E8 (n:=l.bo.length) (k:=30);have e2:=E8 (n:=l.jo.length) (k:=60);have e3:=E8 (n:=l.dv.length) (k:=30);rw[h,Bool.true_and,lN,lN];refine(congr (are _ (congr (are _ e1) e2)) e3).trans ?_;rw[<- Bool.decide_and,<- Bool.decide_and];exact decide_eq_decide.2 ⟨fun h=>⟨h.1.1,h.1.2,h.2⟩,fun h=>⟨⟨h.1,h.2.1⟩,h.2.2⟩⟩
theorem KX{m:Mk}:cond (cond (cond (aa .gtr (m.x.num.length:Int) 4) true (aa .gtr (m.x.den.length:Int) 4)) true (aa .gtr (m.y.num.length:Int) 4)) true (aa .gtr (m.y.den.length:Int) 4)=!p9 m:=by
 unfold p9;have e1:=p6 (n:=m.x.num.length) (k:=4);have e2:=p6 (n:=m.x.den.length) (k:=4);have e3:=p6 (n:=m.y.num.length) (k:=4);have e4:=p6 (n:=m.y.den.length) (k:=4);rw[l7,l7,l7];refine(congr (are _ (congr (are _ (congr (are _ e1) e2)) e3)) e4).trans ?_;rw[<- ao3,<- ao3,<- ao3,<- decide_not];exact decide_eq_decide.2 oz
theorem afp{m:Mk}(h:cond (cond (cond (aa .gtr (m.x.num.length:Int) 4) true (aa .gtr (m.x.den.length:Int) 4)) true (aa .gtr (m.y.num.length:Int) 4)) true (aa .gtr (m.y.den.length:Int) 4)=true):p9 m=false:=by
 rw[KX]at h;exact eI h
theorem UV{m:Mk}(h:cond (cond (cond (aa .gtr (m.x.num.length:Int) 4) true (aa .gtr (m.x.den.length:Int) 4)) true (aa .gtr (m.y.num.length:Int) 4)) true (aa .gtr (m.y.den.length:Int) 4)=false):p9 m=true:=by
 rw[KX]at h;exact eH h
open Go.Proofs
theorem UE{m:List Nat}{n:Nat}(hm:Ws m)(hn:n<=m.length)(hv:val (m.take n)=val m)(h0:n≠0)(hw:ak m (n-1)≠0) :
  AV.fz 24 1 ([]++((m.map u32).drop 0).take (n-0)) (.ms 24 1 0 (0+(((m.map u32).drop 0).take (n-0)).length))=ws (ofNat (val m)):=by
 have h1:m.take n=ofNat (val m):=by
  refine PO (fun x hx=>hm x (aqw hx)) ?_ hv;intro x hx;rw[an3,ap7,amb hn,aqh,aq7 oz,mC oz]at hx;cases hx;exact hw
 rw[Cq (by simp),<- h1,ws];simp[map_take,amb hn,anp]
theorem aka(b:Bool)(n:Nat):AV.agg [bl (bif b then aa BinOp.gtr (↑(ofNat n).length) 0 else false),ws (ofNat n)]=zA (sgn b n):=by
 have h1:(sgn b n).natAbs=n:=by unfold sgn;split <;> omega
 unfold zA ofInt Wh.av;dsimp only;rw[h1];congr 3
 have h2:(ofNat n).length=0↔n=0:=by
  rw[an1];constructor
  ·intro h;have:=db n;rw[h]at this;exact this.symm
  ·intro h;rw[h];rfl
 cases b with
 |false=>simp[sgn]
 |true=>simp[sgn,aa];omega
theorem wn(m:List Nat)(i:Nat)(hm:Ws m):FP 441 [ws m,i64 i] (u64 (ak m i)):=by
 refine ai func441 ?_;refine gl ?_;refine gC (fun z=>?_) (fun z=>?_)
 ·simp[aa]at z;have:=cI hm i;refine gi (dc (i:=i) z) ?_;refine gv (u64_in oz) ?_;refine ah ?_;rfl
 simp[aa]at z;refine ah ?_;simp[u64,wk z]
theorem qU(m:List Nat)(hm:Ws m)(hb:m.length<=aI):FP 397 [ws m] (ws (ofNat (val m))):=by
 refine ai func397 ?_ (0,0);refine yz (t:=0) rfl (fun hl=>?_);refine go ?_;refine gl ?_;refine aS [0] [] (fun(n:Nat)=>[pP 3 (i64 n)]) (fun _=>[]) (fun n=>n<=m.length/\val (m.take n)=val m) (fun n=>n) m.length ⟨apu _,by rw[ap5]⟩ ?_;rintro n ⟨hn,hv⟩ K1 J1;refine uv (fun h=>(mU (by simp[aa]at h;omega) oz)) ?_;refine tY (fun h=>(dc (i:=n-1) (by simp[aa]at h;omega))) ?_;refine gC (fun t15=>?_) (fun t15=>?_)
 ·have t15 : 0 < n /\ ak m (n - 1) = 0 := by simpa [aa] using t15
  refine ga (mU oz oz) ?_;exact aM J1 (n-1) ⟨by omega,by have h:=@eV m (n-1);rw[show n-1+1=n by omega,t15.2]at h;simp at h;omega⟩
 have t15:0<n->ak m (n-1)≠0:=by simpa[aa]using t15
 refine gC (fun z=>?_) (fun z=>?_)
 ·have h0 : n = 0 := by simpa [aa] using z
  subst h0;refine gR ?_;exact o7 (by rw[show val m=0 from hv.symm.trans rfl];exact Sub.nil _ _ _)
 have h0:n≠0:=by simpa[aa]using z
 refine gs (j6 T104 rfl T354 rfl rfl rfl) ?_;refine gs (dZ (.tmp rfl) (.none _) (.some _ (.tmp rfl) oz) T104 rfl T354 rfl oz (by simp;omega) rfl) ?_;refine gs (cF (.tmp rfl) rfl rfl (.tmp rfl) T104 rfl T354 rfl rfl (by unfold aI at hb;simp only[ap7,List.length_drop,apr];omega) rfl rfl) ?_ (77777,0);refine gW (Wk.freeze (k:=24) rfl) ?_;refine go ?_;refine gR ?_;exact KF (UE hm hn hv h0 (t15 oz))
theorem BH(w:Wh)(h:w.ok):FP 307 [w.av] (bl w.valid):=by
 have hl:w.mag.length<=bf:=h.2;refine ai func307 ?_;refine gl ?_;refine gC (fun z=>?_) (fun z=>?_)
 ·have h0 : w.mag = [] := by simpa [aa] using z
  refine ah ?_;simp[bl,Wh.valid,h0]
 have h0:w.mag.length≠0:=by simpa[aa]using z
 refine gl ?_;refine ga (mU oz oz) ?_;refine gi (dc (i:=w.mag.length-1) oz) ?_;refine ah ?_;have h1:w.mag≠[]:=fun h=>h0 (by rw[h];rfl)
 simp only[bl,Wh.valid,aq6 h1,an3,mC (show w.mag.length-1<w.mag.length by omega),aa];congr 2;generalize ak w.mag _=x;rw[aov];simp
theorem n7(w:Wh)(h:w.ok):FP 304 [w.av] (ws w.m):=by
 refine ai func304 ?_;refine gc (BH w h) ?_;refine gC (fun z=>?_) (fun z=>?_)
 ·have h0 : w.valid = false := by simpa [aa] using z
  refine gR ?_;exact o7 (by rw[show w.m=[] by simp[Wh.m,h0]];exact Sub.nil _ _ _)
 have h0:w.valid=true:=by simpa[aa]using z
 refine ah ?_;simp only[Wh.m,h0];rfl
theorem l8(w:Wh)(h:w.ok):FP 303 [w.av] (bl w.n):=by
 refine ai func303 ?_;refine gc (BH w h) ?_;refine ah ?_;simp only[Wh.n,bl];cases w.valid <;> rfl
theorem nI(b:Bool)(m:List Nat)(hm:Ws m)(hb:m.length<=aI):FP 302 [bl b,ws m] (zA (sgn b (val m))):=by
 refine ai func302 ?_;refine gc (qU m hm hb) ?_;refine cA ?_;refine ah ?_;exact aka b (val m)
theorem GG(a b:List Nat)(ha:Ws a)(hb:Ws b)(na:Nz a)(nb:Nz b):FP 393 [ws a,ws b] (i64 (if val a<val b then -1 else if val b<val a then 1 else 0)):=by
 refine ai func393 ?_ (0,0);refine yz (t:=0) rfl (fun ns=>?_);refine yz (t:=1) rfl (fun eY=>?_);unfold bf at ns eY;refine go ?_;refine gl ?_;refine gl ?_;refine gC (fun z=>?_) (fun z=>?_)
 ·have h0 : a.length ≠ b.length := by simpa [aa, aoe] using z
  refine gl ?_;refine gl ?_;refine gC (fun z=>?_) (fun z=>?_)
  ·have h1 : a.length < b.length := by simpa [aa] using z
   have h2:=zB ha nb h1;refine ah ?_;simp[i64,h2]
  have h1:b.length<=a.length:=by simpa[aa]using z
  have h2:=zB hb na (show b.length<a.length by omega);refine ah ?_;simp[i64,h2,Nat.lt_asymm h2]
 have h0:a.length=b.length:=by simpa[aa,aoe]using z
 refine gl ?_;refine ga (fu oz) ?_;refine aS [0,1] [] (fun(n:Nat)=>[pP 5 (i64 ((n:Int)-1))]) (fun _=>[]) (fun n=>n<=a.length/\a.drop n=b.drop n) (fun n=>n) a.length ⟨apu _,by rw[anh,h0,anh]⟩ ?_ (h1:=(.cons rfl (Sub.int rfl) .nil));rintro n ⟨hn,hd⟩ K1 J1;refine gC (fun z=>?_) (fun z=>?_)
 ·have oD : 1 <= n := by have := z; simp [aa] at this; omega
  refine gi (kp (n:=n-1) oz (by first |omega |(simp;omega))) ?_;refine gi (kp (n:=n-1) oz (by first |omega |(simp;omega))) ?_;refine gD ?_;refine gC (fun z=>?_) (fun z=>?_)
  ·have h3 : ak a (n - 1) ≠ ak b (n - 1) := by simpa [aa, aoe] using z
   refine gi (kp (n:=n-1) oz (by first |omega |(simp;omega))) ?_;refine gi (kp (n:=n-1) oz (by first |omega |(simp;omega))) ?_;refine gD ?_;refine gC (fun z=>?_) (fun z=>?_)
   ·have h4 : ak a (n - 1) < ak b (n - 1) := by simpa [aa] using z
    have h5:=NZ ha h0 oz (by rw[amr oD];exact hd) h4;refine ah ?_;simp[i64,h5]
   have h4:ak b (n-1)<ak a (n-1):=by have:ak b (n-1)<=ak a (n-1):=(by simpa[aa]using z);omega
   have h5:=NZ hb h0.symm oz (by rw[amr oD];exact hd.symm) h4;refine ah ?_;simp[i64,h5,Nat.lt_asymm h5]
  have h3:ak a (n-1)=ak b (n-1):=by simpa[aa,aoe]using z
  refine ga (fu oz) ?_;exact aM J1 (n-1) ⟨by omega,by rw[ani (show n-1<a.length by omega),ani (show n-1<b.length by omega),amr oD,hd];congr 1;exact S7 oz oz h3⟩
 have oD:n=0:=by have:=z;simp[aa]at this;omega
 subst oD;refine ah ?_;simp at hd;simp[i64,hd]
theorem Km(a b:List Nat)(ha:Ws a)(hb:Ws b)(la:a.length<aI)(lb:b.length<aI):FP 392 [ws a,ws b] (ws (ofNat (val a+val b))):=by
 unfold aI at la lb;obtain⟨n,hn⟩:∃n,n=max a.length b.length+1:=⟨_,rfl⟩
 refine ai func392 ?_;refine gl ?_;refine gl ?_;refine gs (w6 (.tmp rfl) (.tmp rfl) rfl) ?_;refine ga (show _=(n:Int) by rw[eF oz];omega) ?_;refine gs (kJ (.tmp rfl) T104 rfl T354 rfl rfl oz (by dsimp only;omega) rfl) ?_;refine lS [0,1,16] [] (fun(out:List Nat)(c i:Nat)=>[pP 5 (.ms 14 1 0 n),pP 6 (u64 c),pP 17 (i64 i)]) (fun out _ _=>[pP 14 (.row 1 (out.map u32))]) (fun out c i=>out.length=n/\i<=n/\Ws out/\c<=1/\val (out.take i)+c*4294967296^i=val (a.take i)+val (b.take i)) (fun _ _ i=>n-i) (ana n 0) 0 0 ⟨by simp,by omega,p7 n,by omega,by simp[val]⟩ ?_ (h2:=(.cons rfl (.of (by rw[aqu];rfl)) .nil))
 rintro out c i ⟨ho,hi,hw,hc,hv⟩ K1 J1;refine gC (fun z=>?_) (fun z=>?_) (st2:=(10,0))
 ·have ae : i < n := by simpa [aa] using z
  have h1:=cI ha i;have h2:=cI hb i;refine gc (by apply wn <;> assumption) ?_;refine gc (by apply wn <;> assumption) ?_;refine ga (lW oz) ?_;refine ga (lW oz) ?_;refine gv (fm _) ?_;refine gs (cM (n:=i) (.tmp rfl) (.tmp rfl) T104 rfl T354 rfl oz (by first |omega |(simp;omega)) rfl) ?_;refine gs (fg (.tmp rfl) rfl (dc (i:=i) oz) rfl (.tmp rfl) rfl rfl T354 rfl rfl) ?_;refine gs (gX (.tmp rfl) (.const _) oz (jV _ 32 oz) rfl) ?_;refine ga (eF oz) ?_;exact kL J1 (out.set i ((c+(ak a i+ak b i))%4294967296)) ((c+(ak a i+ak b i))/4294967296) (i+1) ⟨by simp[ho],by omega,jH hw oz,by omega,by rw[pR oz,eV,eV,amp];exact GN hv⟩ (hw:=Wk.of a6 (.cons rfl (.of (by rw[aq0];rfl)) .nil))
 have ae:i=n:=by have:n<=i:=(by simpa[aa]using z);omega
 refine gW ((Wk.freeze (k:=14) rfl).trans<|Wk.of (sl:=[pP 5 (ws out)]) (hp:=[]) (.cons rfl (.of (b8 (by simp[ho]))) .nil) .nil) ?_;refine gc (qU out hw (by unfold aI;omega)) ?_;refine ah ?_;rw[LU ha hb hn ho (ae▸hv)]
theorem Gn(a b:List Nat)(ha:Ws a)(hb:Ws b)(la:a.length<=aI)(lb:b.length<=a.length)(cG:val b<=val a):FP 394 [ws a,ws b] (ws (ofNat (val a-val b))):=by
 have la':=la;unfold aI at la;obtain⟨n,hn⟩:∃n,n=a.length:=⟨_,rfl⟩
 refine ai func394 ?_;refine gl ?_;refine gs (kJ (.tmp rfl) T104 rfl T354 rfl rfl oz (by dsimp only;omega) rfl) ?_;refine lS [0,1,13] [] (fun(out:List Nat)(c i:Nat)=>[pP 5 (.ms 11 1 0 a.length),pP 6 (u64 c),pP 14 (i64 i)]) (fun out _ _=>[pP 11 (.row 1 (out.map u32))]) (fun out c i=>out.length=a.length/\i<=a.length/\Ws out/\c<=1/\val (out.take i)+val (b.take i)=val (a.take i)+c*4294967296^i) (fun _ _ i=>a.length-i) (ana a.length 0) 0 0 ⟨by simp,by omega,p7 _,by omega,by simp[val]⟩ ?_ (h2:=(.cons rfl (.of (by rw[aqu];rfl)) .nil))
 rintro out c i ⟨ho,hi,hw,hc,hv⟩ K1 J1;refine gC (fun z=>?_) (fun z=>?_) (st2:=(10,0))
 ·have ae : i < a.length := by simpa [aa] using z
  have h1:=cI ha i;have h2:=cI hb i;have h3:=Mj h1 h2 hc hv;obtain⟨d,hd⟩:∃d,d=if ak b i+c<=ak a i then ak a i-ak b i-c else ak a i+18446744073709551616-ak b i-c:=⟨_,rfl⟩
  rw[<- hd]at h3;have iW:d<18446744073709551616:=by rw[hd];split <;> omega
  refine gi (kp (n:=i) oz (by first |omega |(simp;omega))) ?_;refine gv (u64_in oz) ?_;refine gc (by apply wn <;> assumption) ?_;refine ga (oK oz oz) ?_;refine ga (show _=(d:Int) by rw[oK (by split <;> omega) oz,hd];congr 1;(repeat' split) <;> omega) ?_;refine gD ?_;refine gv (fm _) ?_;refine gs (cM (n:=i) (.tmp rfl) (.tmp rfl) T104 rfl T354 rfl oz (by first |omega |(simp;omega)) rfl) ?_;refine gs (fg (.tmp rfl) rfl (dc (i:=i) oz) rfl (.tmp rfl) rfl rfl T354 rfl rfl) ?_;refine gs (gX (.tmp rfl) (.const _) oz (jV _ 63 oz) rfl) ?_;refine ga (eF oz) ?_;exact kL J1 (out.set i (d%4294967296)) (d/2^63) (i+1) ⟨by simp[ho],by omega,jH hw oz,by omega,by rw[pR oz,eV,eV,amp];exact h3⟩ (hw:=Wk.of a6 (.cons rfl (.of (by rw[aq0];rfl)) .nil))
 have ae:i=a.length:=by have:a.length<=i:=(by simpa[aa]using z);omega
 refine gW ((Wk.freeze (k:=11) rfl).trans<|Wk.of (sl:=[pP 5 (ws out)]) (hp:=[]) (.cons rfl (.of (b8 (by simp[ho]))) .nil) .nil) ?_;refine gc (qU out hw (by rw[ho];exact la')) ?_;refine ah ?_;rw[ais hw ho cG lb (ae▸hv)]
theorem aa2(a b:List Nat)(ha:Ws a)(hb:Ws b)(la:a.length+b.length<=aI):FP 395 [ws a,ws b] (ws (ofNat (val a*val b))):=by
 have la':=la;unfold aI at la;refine ai func395 ?_;refine gl ?_;refine gl ?_;refine ga (m9 (by unfold bf;omega) (by unfold bf;omega)) ?_;refine gs (kJ (.tmp rfl) T104 rfl T354 rfl rfl oz (by dsimp only;omega) rfl) ?_;refine gl ?_;refine kg [0,1,17,18] [] (fun(out:List Nat)(i:Nat)=>[pP 5 (.ms 16 1 0 (a.length+b.length)),pP 19 (i64 i)]) (fun out _=>[pP 16 (.row 1 (out.map u32))]) (fun out i=>out.length=a.length+b.length/\i<=a.length/\Ws out/\val (out.take (i+b.length))=val (a.take i)*val b) (fun _ i=>a.length-i) (ana (a.length+b.length) 0) 0 ⟨by simp,by omega,p7 _,by simp[val,AP]⟩ ?_ (h2:=(.cons rfl (.of (by rw[aqu];rfl)) .nil))
 rintro out i ⟨ho,hi,hw,hv⟩ K1 J1;refine gC (fun z=>?_) (fun z=>?_) (st2:=(15,0))
 ·have ae : i < a.length := by simpa [aa] using z
  have h1:=cI ha i;refine gi (kp (n:=i) oz (by first |omega |(simp;omega))) ?_;refine gl ?_;refine lS [0,1,17,18,19,6,7,24,25] [] (fun(o:List Nat)(c k:Nat)=>[pP 5 (.ms 16 1 0 (a.length+b.length)),pP 8 (u64 c),pP 26 (i64 k)]) (fun o _ _=>[pP 16 (.row 1 (o.map u32))]) (fun o c k=>o.length=a.length+b.length/\k<=b.length/\Ws o/\c<4294967296/\val (o.take (i+b.length))+c*4294967296^(i+k)=val (out.take (i+b.length))+4294967296^i*(ak a i*val (b.take k))) (fun _ _ k=>b.length-k) out 0 0 ⟨ho,by omega,hw,by omega,by simp[val]⟩ ?_
  rintro o c k ⟨iJ,hk,mt,hc,jA⟩ K2 J2;refine gC (fun z=>?_) (fun z=>?_)
  ·have bp : k < b.length := by simpa [aa] using z
   have h2:=cI hb k;have h3:=cI mt (i+k);have h4:=Bk h1 h2;have h5:=N8 (x:=(c+(ak a i*ak b k+ak o (i+k)))%4294967296) (show i+k<o.length by omega) (show i+k<i+b.length by omega);have h6:=Lo h5 rfl jA;refine gi (kp (n:=k) oz (by first |omega |(simp;omega))) ?_;refine gv (u64_in oz) ?_;refine gv (u64_in oz) ?_;refine ga (B3 oz) ?_;refine ga (m9 (by unfold bf;omega) (by unfold bf;omega)) ?_;refine gs (cM (n:=i+k) (.tmp rfl) (.tmp rfl) T104 rfl T354 rfl oz (by first |omega |(simp;omega)) rfl) ?_;refine gs (f0 (.tmp rfl) rfl (dc (i:=i+k) oz) T354 rfl rfl rfl) ?_;refine gv (u64_in oz) ?_;refine ga (lW oz) ?_;refine ga (lW oz) ?_;refine ga (m9 (by unfold bf;omega) (by unfold bf;omega)) ?_;refine gv (fm _) ?_;refine gs (cM (n:=i+k) (.tmp rfl) (.tmp rfl) T104 rfl T354 rfl oz (by first |omega |(simp;omega)) rfl) ?_;refine gs (fg (.tmp rfl) rfl (dc (i:=i+k) oz) rfl (.tmp rfl) rfl rfl T354 rfl rfl) ?_;refine gs (gX (.tmp rfl) (.const _) oz (jV _ 32 oz) rfl) ?_;refine ga (eF oz) ?_;exact kL J2 (o.set (i+k) ((c+(ak a i*ak b k+ak o (i+k)))%4294967296)) ((c+(ak a i*ak b k+ak o (i+k)))/4294967296) (k+1) ⟨by simp[iJ],by omega,jH mt oz,by omega,by rw[show i+(k+1)=(i+k)+1 from rfl,amp,h6,eV];simp only[aqs];grind⟩ (hw:=Wk.of a6 (.cons rfl (.of (by rw[aq0];rfl)) .nil))
  have bp:k=b.length:=by have:b.length<=k:=(by simpa[aa]using z);omega
  subst bp;have h5:=pR (x:=c) (show i+b.length<o.length by omega);rw[ap5]at jA;refine gl ?_;refine ga (m9 (by unfold bf;omega) (by unfold bf;omega)) ?_;refine gv ((fm c).trans (by rw[al8 hc])) ?_;refine gs (cM (n:=i+b.length) (.tmp rfl) (.tmp rfl) T104 rfl T354 rfl oz (by first |omega |(simp;omega)) rfl) ?_;refine gs (fg (.tmp rfl) rfl (dc (i:=i+b.length) oz) rfl (.tmp rfl) rfl rfl T354 rfl rfl) ?_;refine ga (eF oz) ?_;exact jI J1 (o.set (i+b.length) c) (i+1) ⟨by simp[iJ],by omega,jH mt hc,by rw[show i+1+b.length=i+b.length+1 by omega,h5,eV];simp only[aqs]at *;grind⟩ (hw:=Wk.of a6 (.cons rfl (.of (by rw[aq0];rfl)) .nil))
 have ae:i=a.length:=by have:a.length<=i:=(by simpa[aa]using z);omega
 subst ae;rw[ap5,gS oz]at hv;refine gW ((Wk.freeze (k:=16) rfl).trans<|Wk.of (sl:=[pP 5 (ws out)]) (hp:=[]) (.cons rfl (.of (b8 (by simp[ho]))) .nil) .nil) ?_;refine gc (qU out hw oz) ?_;refine ah ?_;rw[hv]
theorem ada(a:List Nat)(w:Nat)(ha:Ws a)(la:a.length<=aI)(IV:0<w)(hwB:w<4294967296):FP 442 [ws a,u32 w] (.tup [ws (ofNat (val a/w)),u32 (val a%w)]):=by
 have la':=la;unfold aI at la;refine ai func442 ?_;refine gl ?_;refine gs (kJ (.tmp rfl) T104 rfl T354 rfl rfl oz (by dsimp only;omega) rfl) ?_;refine gl ?_;refine ga (fu oz) ?_;refine lS [0,1] [] (fun(out:List Nat)(r i:Nat)=>[pP 6 (.ms 11 1 0 a.length),pP 7 (u64 r),pP 8 (i64 ((i:Int)-1))]) (fun out _ _=>[pP 11 (.row 1 (out.map u32))]) (fun out r i=>out.length=a.length/\i<=a.length/\Ws out/\r<w/\val (a.drop i)=w*val (out.drop i)+r) (fun _ _ i=>i) (ana a.length 0) 0 a.length ⟨by simp,by omega,p7 _,by omega,by simp[val]⟩ ?_ (h2:=(.cons rfl (.of (by rw[aqu];rfl)) .nil))
 rintro out r i ⟨ho,hi,hw,hr,hv⟩ K1 J1;refine gC (fun z=>?_) (fun z=>?_) (st2:=(9,0))
 ·have oD : 1 <= i := by have := z; simp [aa] at this; omega
  obtain⟨k,rfl⟩:∃k,i=k+1:=⟨i-1,by omega⟩
  have h1:=cI ha k;have h2:=ad2 hr h1;refine gs (kH (.tmp rfl) (.const _) oz (v7 (n:=32) oz oz) rfl) ?_;refine gi (kp (n:=k) oz (by first |omega |(simp;omega))) ?_;refine gv (u64_in oz) ?_;refine gs (mN (.tmp rfl) (.tmp rfl) rfl ((zJ oz oz).trans (by rw[zK oz])) rfl) ?_;refine gv (u64_in oz) ?_;refine gs (ib (.tmp rfl) (.tmp rfl) oz (Pm oz) rfl) ?_;refine gv ((fm _).trans (by rw[al8 h2])) ?_;refine gs (cM (n:=k) (.tmp rfl) (.tmp rfl) T104 rfl T354 rfl oz (by first |omega |(simp;omega)) rfl) ?_;refine gs (fg (.tmp rfl) rfl (dc (i:=k) oz) rfl (.tmp rfl) rfl rfl T354 rfl rfl) ?_;refine gv (u64_in oz) ?_;refine gs (Dc (.tmp rfl) (.tmp rfl) oz Q2 rfl) ?_;refine ga (fu oz) ?_;exact kL J1 (out.set k ((r*2^32+ak a k)/w)) ((r*2^32+ak a k)%w) k ⟨by simp[ho],by omega,jH hw h2,alw _ IV,Yj oz oz hv⟩ (hw:=Wk.of a6 (.cons rfl (.of (by rw[aq0];rfl)) .nil))
 have ae:i=0:=by have:=z;simp[aa]at this;omega
 subst ae;obtain⟨h3,h4⟩:=CQ hv hr;simp only[aq1]at h3 h4;refine gW ((Wk.freeze (k:=11) rfl).trans<|Wk.of (sl:=[pP 6 (ws out),pP 7 (u64 r)]) (hp:=[]) (.cons rfl (.of (b8 (by simp[ho]))) (.k .nil)) .nil) ?_;refine gc (qU out hw oz) ?_;refine gv ((fm _).trans (by rw[al8 oz])) ?_;refine bK ?_;rw[h3,h4];rfl
theorem LB(d:Nat)(hd:aly d 1000=true)(a:List Nat)(n:Nat)(ha:Ws a)(la:a.length<aI)(hn:n<32):Con prog 444 [ws a,i64 n] [] (.ms d 1 0 (a.length+1)) [(d,some (.row 1 ((bC (a.length+1) (2^n*val a)).map u32)))]:=by
 have la':=la;unfold aI at la;refine gF func444 (fun k z h=>by cases h) ?_;refine gl ?_;refine ga (m9 (y:=1) (by unfold bf;omega) (by unfold bf;omega)) ?_;refine gs (kJ (.tmp rfl) T104 rfl T354 rfl rfl oz (by dsimp only;omega) rfl) ?_;refine gl ?_;refine kg [0,1,13,14] [] (fun(out:List Nat)(i:Nat)=>[pP 5 (.ms 12 1 0 (a.length+1)),pP 15 (i64 i)]) (fun out _=>[pP 12 (.row 1 (out.map u32))]) (fun out i=>out.length=a.length+1/\i<=a.length/\Ws out/\ak out i<2^n/\val (out.take (i+1))=2^n*val (a.take i)) (fun _ i=>a.length-i) (ana (a.length+1) 0) 0 ⟨by simp,by omega,p7 _,by simp[ak,al7],by simp[val,List.replicate_succ]⟩ ?_ (h2:=(.cons rfl (.of (by rw[aqu];rfl)) .nil))
 rintro out i ⟨ho,hi,hw,hr,hv⟩ K1 J1;refine gC (fun u=>?_) (fun u=>?_)
 ·have ae : i < a.length := by simpa [aa] using u
  have h1:=cI ha i;have h2:=af3 (a:=a) (i:=i) (n:=n) (show i+1<out.length by omega) hv;have h3:=akl (x:=ak a i) hn hr;have h4:=Tc (n:=n) h1;have h5:2^n<=2^31:=uz oz;have h6:ak a i*2^n<=ak a i*2^31:=ap0 _ h5;have h7:=cI hw i;refine gi (kp (n:=i) oz (by first |omega |(simp;omega))) ?_;refine gv (u64_in oz) ?_;refine gs (kH (.tmp rfl) (.tmp rfl) oz (v7 oz oz) rfl) ?_;refine gs (cM (n:=i) (.tmp rfl) (.tmp rfl) T104 rfl T354 rfl oz (by first |omega |(simp;omega)) rfl) ?_;refine gs (f0 (.tmp rfl) rfl (dc (i:=i) oz) T354 rfl rfl rfl) ?_;refine gv (fm _) ?_;refine gs (mN (.tmp rfl) (.tmp rfl) rfl ((F0 oz oz).trans (by rw[Zo hn hr])) rfl) ?_;refine gs (cM (n:=i) (.tmp rfl) (.tmp rfl) T104 rfl T354 rfl oz (by first |omega |(simp;omega)) rfl) ?_;refine gs (fg (.tmp rfl) rfl (dc (i:=i) oz) rfl (.tmp rfl) rfl rfl T354 rfl rfl) ?_;refine ga (m9 (y:=1) (by unfold bf;omega) (by unfold bf;omega)) ?_;refine gs (gX (.tmp rfl) (.const _) oz (jV _ 32 oz) rfl) ?_;refine gv ((fm _).trans (by rw[al8 (show ak a i*2^n/2^32<4294967296 by omega)])) ?_;refine gs (cM (n:=i+1) (.tmp rfl) (.tmp rfl) T104 rfl T354 rfl oz (by first |omega |(simp;omega)) rfl) ?_;refine gs (fg (.tmp rfl) rfl (by rw[List.getElem?_set_ne oz];exact dc (i:=i+1) oz) rfl (.tmp rfl) rfl rfl T354 rfl rfl) ?_;refine ga (eF oz) ?_;exact jI J1 ((out.set i (ak out i+ak a i*2^n%4294967296)).set (i+1) (ak a i*2^n/4294967296)) (i+1) ⟨by simp[ho],by omega,jH (jH hw oz) oz,by rw[acr (by simp;omega)];exact h4,h2⟩ (hw:=Wk.of a6 (.cons rfl (.of (by rw[aq0,aq0];rfl)) .nil))
 have ae:i=a.length:=by have:a.length<=i:=(by simpa[aa]using u);omega
 subst ae;rw[ap5,gS oz]at hv;refine gR ?_;exact aD.own1 rfl hd (by rw[AM hw ho hv])
theorem aeu(a:List Nat)(n:Nat)(ha:Ws a)(la:a.length<=aI)(hn:n<32):FP 447 [ws a,i64 n] (ws (ofNat (val a/2^n))):=by
 have la':=la;unfold aI at la;refine ai func447 ?_;refine gl ?_;refine gs (kJ (.tmp rfl) T104 rfl T354 rfl rfl oz (by dsimp only;omega) rfl) ?_;refine gl ?_;refine kg [0,1,11] [] (fun(out:List Nat)(i:Nat)=>[pP 5 (.ms 9 1 0 a.length),pP 12 (i64 i)]) (fun out _=>[pP 9 (.row 1 (out.map u32))]) (fun out i=>out.length=a.length/\i<=a.length/\Ws out/\val (out.take i)=val a/2^n%4294967296^i) (fun _ i=>a.length-i) (ana a.length 0) 0 ⟨by simp,by omega,p7 _,by simp[val,Nat.mod_one]⟩ ?_ (h2:=(.cons rfl (.of (by rw[aqu];rfl)) .nil))
 rintro out i ⟨ho,hi,hw,hv⟩ K1 J1;refine gC (fun z=>?_) (fun z=>?_) (st2:=(7,0))
 ·have ae : i < a.length := by simpa [aa] using z
  have h1:=cI ha i;have h2:=cI ha (i+1);have h3:=QN ha ae (show i<out.length by omega) (show n<=32 by omega) hv;refine gi (kp (n:=i) oz (by first |omega |(simp;omega))) ?_;refine gv (u64_in oz) ?_;refine ga (m9 (y:=1) (by unfold bf;omega) (by unfold bf;omega)) ?_;refine gc (wn a (i+1) ha) ?_;refine gs (kH (.tmp rfl) (.const _) oz (v7 (n:=32) oz oz) rfl) ?_;refine gs (mN (.tmp rfl) (.tmp rfl) rfl ((zJ oz oz).trans (by rw[Ho oz])) rfl) ?_;refine gs (gX (.tmp rfl) (.tmp rfl) oz (jV _ _ oz) rfl) ?_;refine gv (fm _) ?_;refine gs (cM (n:=i) (.tmp rfl) (.tmp rfl) T104 rfl T354 rfl oz (by first |omega |(simp;omega)) rfl) ?_;refine gs (fg (.tmp rfl) rfl (dc (i:=i) oz) rfl (.tmp rfl) rfl rfl T354 rfl rfl) ?_;refine gD ?_;refine ga (eF oz) ?_;exact jI J1 (out.set i ((ak a i+ak a (i+1)*2^32)/2^n%4294967296)) (i+1) ⟨by simp[ho],by omega,jH hw oz,h3⟩ (hw:=Wk.of a6 (.cons rfl (.of (by rw[aq0];rfl)) .nil))
 have ae:i=a.length:=by have:a.length<=i:=(by simpa[aa]using z);omega
 refine gW ((Wk.freeze (k:=9) rfl).trans<|Wk.of (sl:=[pP 5 (ws out)]) (hp:=[]) (.cons rfl (.of (b8 (by simp[ho]))) .nil) .nil) ?_;refine gc (qU out hw oz) ?_;refine ah ?_;rw[aiz ha ho (ae▸hv)]
theorem U4{b:Nat}{p:Prop}[Decidable p](h:b=1↔p):fD [AV.v (Value.bool (aa BinOp.eql (b:Int) 1))]=bl (decide p):=by
 have:((b:Int)==1)=decide (b=1):=by rw[aov];simp;omega
 simp only[fD,aa,this,bl];rw[decide_eq_decide.2 h]
theorem U8(u v:List Nat)(off len n:Nat)(hu:Ws u)(hv:Ws v)(pf:v.length+1<=len)(hj:off+len<=u.length)(hn:n<4294967296)(lu:u.length<=bf) :
  Con prog 445 [.ms 1000 1 off len,ws v,u64 n] [pP 1000 (.row 1 (u.map u32))] (bl (decide (val (bP u off len)<n*val v)))
   [pP 1000 (.row 1 ((wr u off (bC len (nN n (val v) (val (bP u off len)) len))).map u32))]:=by
 unfold bf at lu;refine gF func445 (fun k z h=>bX h) ?_;refine NC [1,2,12] [] (fun(o:List Nat)(c b lo i:Nat)=>[pP 0 (.ms 1000 1 off len),pP 7 (u64 c),pP 8 (u64 b),pP 13 (i64 i)]) (fun o _ _ _ _=>[pP 1000 (.row 1 (o.map u32))]) (fun o c b lo i=>o.length=u.length/\i<=len/\Ws o/\c<4294967296/\b<=1/\o.take off=u.take off/\o.drop (off+i)=u.drop (off+i)/\lo+c*4294967296^i=n*val (v.take i)/\val (bP o off i)+lo=val (bP u off i)+b*4294967296^i) (fun _ _ _ _ i=>len-i) u 0 0 0 0 ⟨rfl,by omega,hu,by omega,by omega,rfl,rfl,by simp[val],by simp[]⟩ ?_
 rintro o c b lo i ⟨ho,hi,hw,hc,hb,iW,dP,xh,jA⟩ K1 J1;refine gC (fun y=>?_) (fun y=>?_)
 ·have ae : i < len := by simpa [aa] using y
  have h1:=cI hu (off+i);have h2:=cI hv i;have h0:=vJ dP;have h4:=Bk hn h2;obtain⟨c1,jz⟩:∃c1,c1=c+n*ak v i:=⟨_,rfl⟩
  have h3:=Mj h1 (show c1%4294967296<4294967296 by omega) hb jA;obtain⟨d,hd⟩:∃d,d=if c1%4294967296+b<=ak u (off+i)then ak u (off+i)-c1%4294967296-b else ak u (off+i)+18446744073709551616-c1%4294967296-b:=⟨_,rfl⟩
  rw[<- hd]at h3;have hd3:d<18446744073709551616:=by rw[hd];split <;> omega
  have h5:=aew (w:=ak v i) xh;refine gc (by apply wn <;> assumption) ?_;refine ga (B3 oz) ?_;refine ga ((lW oz).trans (by rw[<- jz])) ?_;refine gs (sL (n:=i) (.tmp rfl) (.tmp rfl) T104 rfl T354 rfl oz (by first |omega |(simp;omega)) rfl) ?_;refine gs (f0 (.tmp rfl) rfl (by rw[dc (show off+i<o.length by omega),h0]) T354 rfl rfl rfl) ?_;refine gv (u64_in oz) ?_;refine gv (fm _) ?_;refine gv (u64_in oz) ?_;refine ga (oK oz oz) ?_;refine ga (show _=(d:Int) by rw[oK (by split <;> omega) oz,hd];congr 1;(repeat' split) <;> omega) ?_;refine gv (fm _) ?_;refine gs (sL (n:=i) (.tmp rfl) (.tmp rfl) T104 rfl T354 rfl oz (by first |omega |(simp;omega)) rfl) ?_;refine gs (fg (.tmp rfl) rfl (dc (i:=off+i) oz) rfl (.tmp rfl) rfl rfl T354 rfl rfl) ?_;refine gs (gX (.tmp rfl) (.const _) oz (jV _ 63 oz) rfl) ?_;refine gs (gX (.tmp rfl) (.const _) oz (jV _ 32 oz) rfl) ?_;refine ga (eF oz) ?_;exact LW J1 (o.set (off+i) (d%4294967296)) (c1/4294967296) (d/2^63) (lo+4294967296^i*(c1%4294967296)) (i+1) ⟨by simp[ho],by omega,jH hw oz,by omega,by omega,by rw[List.take_set_of_le oz];exact iW,yX dP,by rw[eV,amp,jz];exact h5,by rw[Qr oz,Ki,amp];exact h3⟩ (hw:=Wk.of a6 (.cons rfl (.of (by rw[aq0];rfl)) .nil))
 have ae:i=len:=by have:len<=i:=(by simpa[aa]using y);omega
 subst ae;obtain⟨h6,h7⟩:=ah4 hu hw ho hj hv pf hn iW dP hb xh jA;refine gR ?_;exact aD.own2 rfl (by rw[<- h6]) (U4 h7)
theorem TW(u v:List Nat)(off len:Nat)(hu:Ws u)(hv:Ws v)(pf:v.length<=len)(hj:off+len<=u.length)(lu:u.length<=bf) :
  Con prog 446 [.ms 1000 1 off len,ws v] [pP 1000 (.row 1 (u.map u32))] (.tup [])
   [pP 1000 (.row 1 ((wr u off (bC len ((val (bP u off len)+val v)%4294967296^len))).map u32))]:=by
 unfold bf at lu;refine gF func446 (fun k z h=>bX h) ?_;refine lS [1,7] [] (fun(o:List Nat)(c i:Nat)=>[pP 0 (.ms 1000 1 off len),pP 4 (u64 c),pP 8 (i64 i)]) (fun o _ _=>[pP 1000 (.row 1 (o.map u32))]) (fun o c i=>o.length=u.length/\i<=len/\Ws o/\c<=1/\o.take off=u.take off/\o.drop (off+i)=u.drop (off+i)/\val (bP o off i)+c*4294967296^i=val (bP u off i)+val (v.take i)) (fun _ _ i=>len-i) u 0 0 ⟨rfl,by omega,hu,by omega,rfl,rfl,by simp[val]⟩ ?_
 rintro o c i ⟨ho,hi,hw,hc,iW,dP,jA⟩ K1 J1;refine gC (fun y=>?_) (fun y=>?_)
 ·have ae : i < len := by simpa [aa] using y
  have h1:=cI hu (off+i);have h2:=cI hv i;have h0:=vJ dP;have h3:=GN (u:=ak u (off+i)) (w:=ak v i) jA;refine gs (sL (n:=i) (.tmp rfl) (.tmp rfl) T104 rfl T354 rfl oz (by first |omega |(simp;omega)) rfl) ?_;refine gs (f0 (.tmp rfl) rfl (by rw[dc (show off+i<o.length by omega),h0]) T354 rfl rfl rfl) ?_;refine gv (u64_in oz) ?_;refine gc (by apply wn <;> assumption) ?_;refine ga (lW oz) ?_;refine ga (lW oz) ?_;refine gD ?_;refine gv (fm _) ?_;refine gs (sL (n:=i) (.tmp rfl) (.tmp rfl) T104 rfl T354 rfl oz (by first |omega |(simp;omega)) rfl) ?_;refine gs (fg (.tmp rfl) rfl (dc (i:=off+i) oz) rfl (.tmp rfl) rfl rfl T354 rfl rfl) ?_;refine gs (gX (.tmp rfl) (.const _) oz (jV _ 32 oz) rfl) ?_;refine ga (eF oz) ?_;exact kL J1 (o.set (off+i) ((c+(ak u (off+i)+ak v i))%4294967296)) ((c+(ak u (off+i)+ak v i))/4294967296) (i+1) ⟨by simp[ho],by omega,jH hw oz,by omega,by rw[List.take_set_of_le oz];exact iW,yX dP,by rw[Qr oz,Ki,eV,amp];exact h3⟩ (hw:=Wk.of a6 (.cons rfl (.of (by rw[aq0];rfl)) .nil))
 have ae:i=len:=by have:len<=i:=(by simpa[aa]using y);omega
 subst ae;have h6:=Xc hw ho hj pf iW dP jA;refine gR ?_;exact aD.own2 rfl (by rw[<- h6]) rfl
theorem YV(x:Nat)(hx:x<4294967296):FP 411 [u32 x] (i64 (bm x)):=by
 refine ai func411 ?_;refine gC (fun u=>?_) (fun u=>?_)
 ·obtain ⟨y, hy, h2, h3⟩ : ∃ y, y = x / 2 ^ 16 /\ y < 65536 /\ bm x = 16 + bm y := ⟨_, rfl, by omega, zW (by have := u; simp [aa] at this; omega)⟩
  refine gs (gX (.tmp rfl) (.const _) oz ((u9 x 16 oz).trans (by rw[<- hy])) rfl) ?_;refine gC (fun t8=>?_) (fun t8=>?_)
  ·have h5 : 2 ^ 8 <= y := by simp [aa] at t8; omega
   obtain⟨z,hz,h6,h7⟩:∃z,z=y/2^8/\z<256/\bm x=(bm x-bm y)+8+bm z:=⟨_,rfl,by omega,by have:=zW h5;omega⟩
   refine gs (gX (.tmp rfl) (.const _) oz ((u9 _ 8 oz).trans (show _=(z:Int) by first |(rw[hz];done) |(rw[hz,hy];done))) rfl) ?_;refine ga (eF oz) ?_;refine gv (show IntKind.u8.wrap _=(z:Int) by first |exact mP h6 |(rw[hz];exact mP oz) |(rw[hz,hy];exact mP oz)) ?_;refine gs (yT (y:=z) (.const _) (.tmp rfl) T9 rfl (by kernel_rfl) (by first |rfl |omega) oz rfl) ?_;refine gv (i64_in (by have:=mc h6;omega)) ?_;refine ga (eF (by have:=mc h6;omega)) ?_;refine ah ?_;simp only[i64];congr 2;have:=mc h6;omega
  have h5:y<2^8:=by simp[aa]at t8;omega
  obtain⟨z,hz,h6,h7⟩:∃z,z=y/\z<256/\bm x=(bm x-bm y)+bm z:=⟨_,rfl,by omega,by omega⟩
  refine gv (show IntKind.u8.wrap _=(z:Int) by first |exact mP h6 |(rw[hz];exact mP oz) |(rw[hz,hy];exact mP oz)) ?_;refine gs (yT (y:=z) (.const _) (.tmp rfl) T9 rfl (by kernel_rfl) (by first |rfl |omega) oz rfl) ?_;refine gv (i64_in (by have:=mc h6;omega)) ?_;refine ga (eF (by have:=mc h6;omega)) ?_;refine ah ?_;simp only[i64];congr 2;have:=mc h6;omega
 obtain⟨y,hy,h2,h3⟩:∃y,y=x/\y<65536/\bm x=0+bm y:=⟨_,rfl,by have:=u;simp[aa]at this;omega,by omega⟩
 refine gC (fun t8=>?_) (fun t8=>?_)
 ·have h5 : 2 ^ 8 <= y := by simp [aa] at t8; omega
  obtain⟨z,hz,h6,h7⟩:∃z,z=y/2^8/\z<256/\bm x=(bm x-bm y)+8+bm z:=⟨_,rfl,by omega,by have:=zW h5;omega⟩
  refine gs (gX (.tmp rfl) (.const _) oz ((u9 _ 8 oz).trans (show _=(z:Int) by first |(rw[hz];done) |(rw[hz,hy];done))) rfl) ?_;refine ga (eF oz) ?_;refine gv (show IntKind.u8.wrap _=(z:Int) by first |exact mP h6 |(rw[hz];exact mP oz) |(rw[hz,hy];exact mP oz)) ?_;refine gs (yT (y:=z) (.const _) (.tmp rfl) T9 rfl (by kernel_rfl) (by first |rfl |omega) oz rfl) ?_;refine gv (i64_in (by have:=mc h6;omega)) ?_;refine ga (eF (by have:=mc h6;omega)) ?_;refine ah ?_;simp only[i64];congr 2;have:=mc h6;omega
 have h5:y<2^8:=by simp[aa]at t8;omega
 obtain⟨z,hz,h6,h7⟩:∃z,z=y/\z<256/\bm x=(bm x-bm y)+bm z:=⟨_,rfl,by omega,by omega⟩
 refine gv (show IntKind.u8.wrap _=(z:Int) by first |exact mP h6 |(rw[hz];exact mP oz) |(rw[hz,hy];exact mP oz)) ?_;refine gs (yT (y:=z) (.const _) (.tmp rfl) T9 rfl (by kernel_rfl) (by first |rfl |omega) oz rfl) ?_;refine gv (i64_in (by have:=mc h6;omega)) ?_;refine ga (eF (by have:=mc h6;omega)) ?_;refine ah ?_;simp only[i64];congr 2;have:=mc h6;omega
theorem aff(x:Nat)(hx:x<4294967296):FP 443 [u32 x] (i64 (32-bm x:Nat)):=by
 have h1:bm x<=32:=by
  by_cases h:x=0
  ·subst h;decide
  ·exact(F2 h hx).1
 refine ai func443 ?_;refine gc (YV x hx) ?_;refine ga (i64_in (by simp only[jv];omega)) ?_;refine ah ?_;simp only[i64,jv];congr 2;omega
end Go.Lw
