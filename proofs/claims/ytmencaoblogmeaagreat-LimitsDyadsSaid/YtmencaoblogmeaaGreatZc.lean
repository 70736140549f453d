/- LimitsDyads: for any linkage and any turn the law returns true and leaves its arguments as they were. No other condition. Part 3 of 9: what the later parts need -/
import Derived.Test.YtmencaoblogmeaaGreatZb
import Derived.Laws.Strings
set_option linter.unusedVariables false
open List (cons_append nil_append drop_drop map_take all_append map_map)
open List renaming mem_of_getElem? → ar1, mem_append → ar9, mem_cons → asj, length_cons → asi, length_append → asx, length_nil → asu, getD_eq_getElem?_getD → ar2, getElem?_append_left → asq, getElem?_eq_none → asg, all_eq_true → asd, getElem?_take → asy, getElem?_drop → as3, getElem?_map → asa, append_assoc → atc, getElem?_append_right → asm, getElem?_eq_getElem → ar7, drop_eq_nil_of_le → as0, getElem?_replicate → ast, map_append → asz, length_take → aso, take_of_length_le → asn, drop_zero → as8, take_length → asK, not_mem_nil → asf, length_map → ar3, length_replicate → asr, map_replicate → as5, map_set → as7, replicate → apf, mem_of_mem_take → apg, map_drop → aph, map_congr_left → apk, drop_length → apn, take_append_of_le_length → apq, mem_range → apt, take_succ_eq_append_getElem → apu, length_eq_zero_iff → apv, length_drop → apx, drop_append_of_le_length → ap0, length_eq_one_iff → ap1, take_take → ap3, mem_iff_getElem → ap5, drop_eq_getElem_cons → ap7, mem_of_mem_drop → ap8, getElem?_eq_some_iff → ap9, getLast?_eq_getElem? → aqa, length_pos_iff → aqb, eq_nil_of_length_eq_zero → aqc, mem_map → aqd, take_append_drop → aqe, mem_singleton → aqf, getElem_mem → aqh
open Nat renaming eq_of_beq_eq_true → ar4, le_refl → ar8, lt_of_lt_of_le → asp, lt_or_ge → asb, le_trans → asv, mul_le_mul_right → asl, mul_le_mul_left → ash, zero_le → ase, pow_add → as6, lt_of_le_of_lt → asw, le_of_lt → an4, add_mul → an5, mul_assoc → an8, max_eq_right → an9, div_add_mod → aoa, blt → aob, lt_of_mul_lt_mul_left → aoc, add_sub_cancel → aod, two_pow_pos → aoe, mul_comm → aog, pow_pos → aoi, zero_add → aoj, pow_le_pow_right → aok, mod_eq_of_lt → aol, mul_add → aom, min_eq_left → aon, max_eq_left → aoo, div_le_self → aop, pow_lt_pow_right → aoq, div_lt_iff_lt_mul → aos, le_div_iff_mul_le → aot, mod_lt → aou, eq_zero_or_pos → aov, div_eq_of_lt → aow, sub_add_cancel → aox, add_zero → aoy, mul_le_mul → aoz, pow_succ → ao1, gcd_comm → ao2, pow_mul → ao3, mul_lt_mul_left → ao4, gcd → ao5, beq → ao6, le_add_right → ao8, add_mul_div_left → ao9, mul_pos → apa, mul_lt_mul'' → apb, div_div_eq_div_mul → apd, succ_mul → ape
open Option renaming map_eq_some_iff → ar6, getD_some → ary, map_some → arz
open Bool renaming and_eq_true → ar5, or_eq_true → ata, eq_iff_iff → aq8, false_eq_true → aq9, eq_false_iff → ara, false_and → ard, true_and → are
open Array renaming getD_eq_getD_getElem? → asc, length_toList → arm, getElem?_toList → arn, getElem?_eq_none → arv
open Int renaming toNat_natCast → as4, natAbs_natCast → as1, mul_ne_zero → aqm, gcd → aqn, sign_trichotomy → aqp, mul_nonneg → aqq, sign_eq_neg_one_iff_neg → aqr, natCast_nonneg → aqs, sign_eq_one_iff_pos → aqt, lt_trichotomy → aqu, natAbs_mul → aqv, natCast_ediv → aqw, ofNat_inj → aqx
open Rat renaming intCast_eq_zero_iff → aqy, intCast_mul → aq0, num_divInt_den → aq1, divInt → aq3, sub_eq_add_neg → aq5, num_eq_zero → aq6
open Decidable renaming not_not → ar0
open Go renaming Operand → atn, TypeId → atp, Program → atq, World → atr
open Go.Proofs.Tryz
namespace Go.Lw
def bf:Nat->Nat->List Nat
  |0,_=>[]
  |k+1,v=>v%4294967296::bf k (v/4294967296)
theorem gK:∀k v,(bf k v).length=k
 |0,_=>rfl
 |k+1,v=>by simp[bf,gK k]
theorem mh:∀k v,Ws (bf k v)
 |0,_=>zy
 |k+1,v=>by
  intro x hx;rcases asj.1 hx with h |h
  ·omega
  ·exact mh k _ x h
theorem oV:∀k v,v<4294967296^k->val (bf k v)=v
 |0,v,h=>by simp at h;subst h;rfl
 |k+1,v,h=>by
  rw[ao1]at h;simp only[bf,val];rw[oV k _ oz];omega
theorem xY:∀(l:List Nat),Ws l->l=bf l.length (val l)
 |[],_=>rfl
 |x::l,h=>by
  have hx:=h x (by simp);have ih:=xY l (fun y hy=>h y (by simp[hy]));simp only[asi,bf,val];rw[show(x+4294967296*val l)%4294967296=x by omega,show(x+4294967296*val l)/4294967296=val l by omega,<- ih]
theorem Ce{l:List Nat}{k v:Nat}(h:Ws l)(hk:l.length=k)(hv:val l=v):l=bf k v:=by
 subst hk;subst hv;exact xY l h
theorem Ei{l:List Nat}(h:Ws l)(i:Nat)(hi:i<=l.length):val l/4294967296^i=val (l.drop i):=by
 rw[yM l i,aon hi];have h1:=co (l.take i) (iY h i);rw[aso,aon hi]at h1;rw[ao9 _ _ oz,aow h1,aoj]
theorem C1{n k:Nat}(h:n<=k):2^k=2^(k-n)*2^n:=by rw[<- as6];congr 1;omega
theorem ag1{x w n:Nat}(hn:n<32)(hw:w<2^n):w ||| x*2^n%4294967296=w+x*2^n%4294967296:=by
 have h1:x*2^n%4294967296=(x%2^(32-n))*2^n:=by
  rw[show 4294967296=2^32 from rfl,C1 (show n<=32 by omega),Nat.mul_mod_mul_right]
 rw[h1];exact G5 hw
theorem ZK{x n:Nat}(hx:x<4294967296):x*2^n/4294967296<2^n:=by
 rw[aos oz,aog];exact Nat.mul_lt_mul_of_pos_left hx (aoi oz)
theorem tm{n k:Nat}(h:n<=k):2^n<=2^k:=aok oz h
theorem aka{x w n:Nat}(hn:n<32)(hw:w<2^n):w+x*2^n%4294967296<4294967296:=by
 have h1:x*2^n%4294967296=(x%2^(32-n))*2^n:=by
  rw[show 4294967296=2^32 from rfl,C1 (show n<=32 by omega),Nat.mul_mod_mul_right]
 have h2:x%2^(32-n)+1<=2^(32-n):=aou _ (aoi oz);have h3:=asl (2^n) h2;rw[<- C1 (show n<=32 by omega),an5]at h3;omega
theorem ahj{a out:List Nat}{i n:Nat}(hi:i+1<out.length)(h:val (out.take (i+1))=2^n*val (a.take i)) :
  val (((out.set i (ak out i+ak a i*2^n%4294967296)).set (i+1) (ak a i*2^n/4294967296)).take (i+1+1))=2^n*val (a.take (i+1)):=by
 rw[oF (by simpa using hi),oF oz,dU (l:=a)];rw[dU]at h;have:=aoa (ak a i*2^n) 4294967296;generalize ak a i*2^n%4294967296=r at *;generalize ak a i*2^n/4294967296=q at *;rw[ao1];grind
theorem V4{a:List Nat}{i n:Nat}(h:Ws a)(hi:i<a.length)(hn:n<=32) :
  (ak a i+ak a (i+1)*2^32)/2^n%4294967296=(val a/2^n/4294967296^i)%4294967296:=by
 rw[apd,aog (2^n),<- apd,Ei h i oz,vH hi]
 have h1:val (a.drop (i+1))=ak a (i+1)+4294967296*val (a.drop (i+2)):=by
  rcases asb (i+1) a.length with h |h
  ·exact vH h
  ·rw[vc h,as0 oz,as0 oz];rfl
 rw[h1];generalize val (a.drop (i+2))=R
 have h2:ak a i+4294967296*(ak a (i+1)+4294967296*R)=(ak a i+ak a (i+1)*2^32)+2^n*(2^(32-n)*R*4294967296):=by
  have h3:=C1 hn;rw[show(2:Nat)^n*(2^(32-n)*R*4294967296)=(2^(32-n)*2^n)*R*4294967296 by grind,<- h3];omega
 rw[h2,ao9 _ _ (aoi oz),Nat.add_mul_mod_self_right]
theorem SL{a out:List Nat}{i n:Nat}(h:Ws a)(hi:i<a.length)(ho:i<out.length)(hn:n<=32)(hv:val (out.take i)=val a/2^n%4294967296^i) :
  val ((out.set i ((ak a i+ak a (i+1)*2^32)/2^n%4294967296)).take (i+1))=val a/2^n%4294967296^(i+1):=by
 rw[oF ho,V4 h hi hn,ao1,Nat.mod_mul,hv]
theorem Vu{a out:List Nat}{n:Nat}(h:Ws a)(ho:out.length=a.length)(hv:val (out.take a.length)=val a/2^n%4294967296^a.length):val out=val a/2^n:=by
 rw[fX oz]at hv;rw[hv,aol];exact asw (aop _ _) (co a h)
theorem acv{a o:List Nat}{i r w:Nat}(hi:i<a.length)(ho:i<o.length)(h:val (a.drop (i+1))=w*val (o.drop (i+1))+r) :
  val (a.drop i)=w*val ((o.set i ((r*2^32+ak a i)/w)).drop i)+(r*2^32+ak a i)%w:=by
 rw[Lm ho,vH hi,h];have:=aoa (r*2^32+ak a i) w;generalize(r*2^32+ak a i)%w=r' at *;generalize(r*2^32+ak a i)/w=q at *;grind
theorem WS{r w x:Nat}(hr:r<w)(hx:x<4294967296):(r*2^32+x)/w<4294967296:=by
 rw[aos oz];have:=ash 4294967296 (show r+1<=w from hr);omega
theorem A4{a q w r:Nat}(h:a=w*q+r)(hr:r<w):a/w=q/\a%w=r:=by
 subst h;rw[Nat.mul_add_div oz,Nat.mul_add_mod,aow hr,aol hr];simp
theorem af1{l:List Nat}{i x:Nat}(h:i<l.length):ak (l.set i x) i=x:=by simp[ak,h]
theorem aD.own2{s:AS}{k:Nat}{y z:Blk}{x r:AV}(h:lk s.hp k=some y)(hz:y=z)(hx:x=r):aD s x r [(k,some z)]:=by
 subst hz;subst hx
 refine aD.keep ?_;intro k' z' h';rw[aE]at h';split at h'
 ·rename_i e;cases h';rw[e];exact h
 ·cases h'
def bq(u:List Nat)(j n:Nat):List Nat:=(u.drop j).take n
def wr(u:List Nat)(j:Nat)(l:List Nat):List Nat:=u.take j++l++u.drop (j+l.length)
theorem FU{u o:List Nat}{j n:Nat}(h1:o.take j=u.take j)(h2:o.drop (j+n)=u.drop (j+n))(hn:j+n<=o.length):o=wr u j (bq o j n):=by
 have hl:(bq o j n).length=n:=by simp[bq];omega
 unfold wr;rw[hl,<- h1,<- h2]
 conv=>lhs;rw[<- aqe j o]
 rw[atc];congr 1;unfold bq
 conv=>lhs;rw[<- aqe n (o.drop j)]
 rw[drop_drop]
theorem pF{u l:List Nat}{j:Nat}(h:j+l.length<=u.length):(wr u j l).length=u.length:=by simp[wr];omega
theorem Ca{a b:List Nat}(ha:Ws a)(hb:Ws b):Ws (a++b):=fun x hx=>(ar9.1 hx).elim (ha x) (hb x)
theorem Rq{l:List Nat}(h:Ws l)(n:Nat):Ws (l.drop n):=fun x hx=>h x (ap8 hx)
theorem ra{l:List Nat}(h:Ws l)(i n:Nat):Ws (bq l i n):=iY (Rq h i) n
theorem wl{u l:List Nat}{j:Nat}(hu:Ws u)(hl:Ws l):Ws (wr u j l):=Ca (Ca (iY hu _) hl) (Rq hu _)
theorem sP{u:List Nat}{j n:Nat}(h:j+n<=u.length):(bq u j n).length=n:=by simp[bq];omega
theorem aa0{u l:List Nat}{j:Nat}(h:j+l.length<=u.length):val ((wr u j l).drop j)=val l+4294967296^l.length*val (u.drop (j+l.length)):=by
 unfold wr;rw[atc,ap0 (by simp;omega),as0 (by simp;omega),nil_append,vY]
theorem ND{u:List Nat}{j n:Nat}(h:j+n<=u.length):val (u.drop j)=val (bq u j n)+4294967296^n*val (u.drop (j+n)):=by
 rw[yM (u.drop j) n,drop_drop,aon (by simp;omega)];rfl
theorem G7{u:List Nat}{j:Nat}(h:j<=u.length):val u=val (u.take j)+4294967296^j*val (u.drop j):=by
 rw[yM u j,aon h]
theorem LJ{u l:List Nat}{j:Nat}(h:j<=u.length):(wr u j l).take j=u.take j:=by
 unfold wr;rw[atc,apq (by simp;omega),asn (by simp;omega)]
theorem aeb{u l:List Nat}{j:Nat}(h:j<=u.length):(wr u j l).drop (j+l.length)=u.drop (j+l.length):=by
 unfold wr;rw[List.drop_append,as0 (by simp;omega)];simp[aon h]
theorem Ea{l:List Nat}{j i:Nat}:ak (l.drop j) i=ak l (j+i):=by simp[ak]
theorem v8{u o:List Nat}{k:Nat}(h:o.drop k=u.drop k):ak o k=ak u k:=by
 have h1:=Ea (l:=o) (j:=k) (i:=0);have h2:=Ea (l:=u) (j:=k) (i:=0);rw[h]at h1;simpa using h1.symm.trans h2
theorem yA{u o:List Nat}{k x:Nat}(h:o.drop k=u.drop k):(o.set k x).drop (k+1)=u.drop (k+1):=by
 rw[List.drop_set_of_lt oz];have h1:(o.drop k).drop 1=(u.drop k).drop 1:=by rw[h]
 rwa [drop_drop,drop_drop]at h1
theorem MJ{o:List Nat}{j i x:Nat}(h:j+i<o.length):val (bq (o.set (j+i) x) j (i+1))=val (bq o j i)+4294967296^i*x:=by
 unfold bq;rw[List.drop_set,atd oz,Nat.add_sub_cancel_left,oF (by simp;omega)]
theorem QU{u:List Nat}{j i:Nat}:val (bq u j (i+1))=val (bq u j i)+4294967296^i*ak u (j+i):=by
 unfold bq;rw[dU,Ea]
theorem aj8{lo c P n V w:Nat}(h:lo+c*P=n*V):(lo+P*((c+n*w)%4294967296))+((c+n*w)/4294967296)*(P*4294967296)=n*(V+P*w):=by
 have:=aoa (c+n*w) 4294967296;generalize(c+n*w)%4294967296=r at *;generalize(c+n*w)/4294967296=q at *;grind
def mr(n V W len:Nat):Nat:=if n*V<=W then W-n*V else W+4294967296^len-n*V
theorem V2{u o v:List Nat}{off len n c b lo:Nat}(hu:Ws u)(ho:Ws o)(hl:o.length=u.length)(hj:off+len<=u.length)(hv:Ws v)(om:v.length+1<=len)(hn:n<4294967296)
  (h1:o.take off=u.take off) (h2:o.drop (off+len)=u.drop (off+len)) (hb:b<=1) (h3:lo+c*4294967296^len=n*val (v.take len))
  (h4:val (bq o off len)+lo=val (bq u off len)+b*4294967296^len) :
  o=wr u off (bf len (mr n (val v) (val (bq u off len)) len))/\(b=1↔val (bq u off len)<n*val v):=by
 rw[fX oz]at h3
 have hV:n*val v<4294967296^len:=by
  have h5:=co v hv;have h6:4294967296^(v.length+1)<=4294967296^len:=aok oz om;rw[ao1,aog]at h6;exact asp (apb hn h5) h6
 have hc:c=0:=by
  cases c with
  |zero=>rfl
  |succ c=>rw[ape]at h3;omega
 subst hc;rw[Nat.zero_mul,aoy]at h3;subst h3;have ho':=co (bq o off len) (ra ho _ _);have hu':=co (bq u off len) (ra hu _ _);rw[sP oz]at ho' hu';have hb':b=0\/b=1:=by omega
 refine⟨?_,?_⟩
 ·have h7:bq o off len=bf len (mr n (val v) (val (bq u off len)) len):=by
   refine Ce (ra ho _ _) (sP oz) ?_;unfold mr;rcases hb' with rfl |rfl
   ·rw[ate oz];omega
   ·rw[atd oz];omega
  rw[<- h7];exact FU h1 h2 oz
 ·rcases hb' with rfl |rfl <;> omega
theorem W9{u o v:List Nat}{off len c:Nat}(ho:Ws o)(hl:o.length=u.length)(hj:off+len<=u.length)(om:v.length<=len)
  (h1:o.take off=u.take off) (h2:o.drop (off+len)=u.drop (off+len)) 
  (h4:val (bq o off len)+c*4294967296^len=val (bq u off len)+val (v.take len)) :
  o=wr u off (bf len ((val (bq u off len)+val v)%4294967296^len)):=by
 rw[fX oz]at h4;have ho':=co (bq o off len) (ra ho _ _);rw[sP oz]at ho'
 have h7:bq o off len=bf len ((val (bq u off len)+val v)%4294967296^len):=by
  refine Ce (ra ho _ _) (sP oz) ?_;rw[<- h4,Nat.add_mul_mod_self_right,aol ho']
 rw[<- h7];exact FU h1 h2 oz
def aY(x:Nat):Nat:=if x=0 then 0 else x.log2+1
theorem lH{x:Nat}(h:x<256):IntKind.u8.wrap (x:Int)=(x:Int):=by
 simp only[IntKind.wrap,IntKind.signed,IntKind.bits,ard,if_false,aq9];omega
theorem CX{x:Nat}:x<2^aY x:=by
 unfold aY;split
 ·next h=>subst h;decide
 ·exact Nat.lt_log2_self
theorem BF{x:Nat}(h:x≠0):2^(aY x-1)<=x:=by
 unfold aY;rw[atd h,aod];exact Nat.log2_self_le h
theorem ahf{x k:Nat}(h1:2^k<=x)(h2:x<2^(k+1)):aY x=k+1:=by
 have hx:x≠0:=by intro h;subst h;have:=aoi (n:=k) (show 0<2 by omega);omega
 unfold aY;rw[atd hx,(Nat.log2_eq_iff hx).2 ⟨h1,h2⟩]
theorem yS{x k:Nat}(h:2^k<=x):aY x=k+aY (x/2^k):=by
 have h0:x/2^k≠0:=by
  have:=Nat.div_pos h (aoi oz);omega
 have h1:=BF h0;have h2:=CX (x:=x/2^k);have h3:1<=aY (x/2^k):=by unfold aY;rw[atd h0];omega
 generalize aY (x/2^k)=m at *;obtain⟨n,rfl⟩:∃n,m=n+1:=⟨m-1,by omega⟩
 rw[aod]at h1;rw[aot (aoi oz),<- as6]at h1;rw[aos (aoi oz),<- as6]at h2;rw[show k+(n+1)=(n+k)+1 by omega];exact ahf h1 (by rw[show n+k+1=n+1+k by omega];exact h2)
theorem G1{x:Nat}(h:x≠0)(hx:x<4294967296):aY x<=32/\1<=aY x/\2147483648<=2^(32-aY x)*x/\2^(32-aY x)*x<4294967296:=by
 have h1:=BF h;have h2:=CX (x:=x);have h3:1<=aY x:=by unfold aY;rw[atd h];omega
 have h4:aY x<=32:=by
  rcases asb 32 (aY x)with h5 |h5
  ·have:2^32<=2^(aY x-1):=tm oz;omega
  ·exact h5
 refine⟨h4,h3,?_,?_⟩
 ·have:=ash (2^(32-aY x)) h1;rw[<- as6,show 32-aY x+(aY x-1)=31 by omega]at this;omega
 ·have:=(ao4 (a:=2^(32-aY x)) (aoi oz)).2 h2;rw[<- as6,show 32-aY x+aY x=32 by omega]at this;omega
def NQ(b:ByteArray):Bool:=ao6 b.data.toList.length 256&&(List.range 256).all fun y=>ao6 (b.data.toList.getD y 0).toNat (aY y)
theorem zL{P:atq}{N:Nat}{R:Array Oper}{s:AS}{d:Nat}{x ix:atn}{kk:IntKind}{i:Int}{y:Nat}{b:ByteArray}{T t:atp}{ti:TI}{pos:String}{after:Array Edge}
  (hx:Ev s x (.v (.string b))) (hi:Ev s ix (.v (.int kk i))) (hT:au P T=some ti) (hk:ti.k=.string)
  (hb:NQ b=true) (h0:i=(y:Int)) (hy:y<256) (hN:aob d N=true) :
  Step P N R s ⟨some d,.index T x ix,t,pos,after,none⟩ ⟨some (.v (.int .u8 (aY y))),[],aj x++aj ix,[]⟩:=by
 subst h0;simp only[NQ,ar5,asd,apt]at hb;have hs:b.size=256:=by have:=ar4 hb.1;rw[arm]at this;exact this
 have h1:=ar4 (hb.2 y hy);have:=yt (R:=R) (N:=N) (t:=t) (pos:=pos) (after:=after) hx hi hT hk oz oz hN;rw[as4]at this;rw[ar2,arn,<- asc]at h1
 rwa [h1]at this
theorem kJ{x:Nat}(h:x<256):aY x<=8:=by
 rcases asb 8 (aY x)with h5 |h5
 ·have h0 : x ≠ 0 := by intro h0; subst h0; simp [aY] at h5
  have h1:=BF h0;have:2^8<=2^(aY x-1):=tm oz;omega
 ·exact h5
structure Dig(V W P V' W' top next third head:Nat):Prop where
  hV:V=V'+P*(next+4294967296*top)
  hW:W=W'+P*(third+4294967296*head)
  hV':V'<P
  hW':W'<P
  hnext:next<4294967296
  hthird:third<4294967296
  htop:2147483648<=top
  htopB:top<4294967296
  hlt:W<V*4294967296
namespace Dig
variable{V W P V' W' top next third head:Nat}
theorem vpos(h:Dig V W P V' W' top next third head):0<V:=by
 have:=h.hlt;omega
theorem q_lt(h:Dig V W P V' W' top next third head):W/V<4294967296:=by
 rw[aos h.vpos,aog];exact h.hlt
theorem mul_le(h:Dig V W P V' W' top next third head){q:Nat}(hq:q*V<=W):q*(next+4294967296*top)<=third+4294967296*head:=by
 have h1:q*(P*(next+4294967296*top))<=q*V:=ash _ (by have:=h.hV;omega);have h2:=h.hW;have h3:=h.hW'
 have h4:P*(q*(next+4294967296*top))<P*(third+4294967296*head+1):=by
  rw[aom P _ 1,Nat.mul_one];have:P*(q*(next+4294967296*top))=q*(P*(next+4294967296*top)):=by grind
  omega
 have:=aoc h4;omega
theorem up(h:Dig V W P V' W' top next third head){q:Nat}(hq:q*V<=W):q*top<=head:=by
 have h1:=h.mul_le hq;have h2:=h.hthird;rw[aom,show q*(4294967296*top)=4294967296*(q*top) by grind]at h1;omega
theorem first(h:Dig V W P V' W' top next third head):W/V<=head/top:=by
 have:=h.htop;rw[aot oz];exact h.up (Nat.div_mul_le_self W V)
theorem head_le(h:Dig V W P V' W' top next third head):head<=4294967296*top+next:=by
 have h1:=h.hlt;have h2:=h.hV;have h3:=h.hW;have h4:=h.hV'
 have h5:P*(third+4294967296*head)<P*(4294967296*(next+4294967296*top+1)):=by
  have:V*4294967296<P*(4294967296*(next+4294967296*top+1)):=by
   rw[h2,an5,show P*(next+4294967296*top)*4294967296=P*(4294967296*(next+4294967296*top)) by grind,aom 4294967296 _ 1,aom P];omega
  omega
 have:=aoc h5;omega
theorem step(h:Dig V W P V' W' top next third head){g r:Nat}(hg:W/V<=g)(he:g*top+r=head)(hc:4294967296<=g\/r*4294967296+third<g*next):W/V<g:=by
 rcases hc with hc |hc
 ·have:=h.q_lt;omega
 ·refine Nat.lt_of_le_of_ne hg ?_;intro hq;have h1:=h.mul_le (Nat.div_mul_le_self W V);rw[hq,<- he,aom,aom,show g*(4294967296*top)=4294967296*(g*top) by grind]at h1;omega
theorem last(h:Dig V W P V' W' top next third head){g r:Nat}(he:g*top+r=head)(hc:¬(r<4294967296/\(4294967296<=g\/r*4294967296+third<g*next))) :
  g<4294967296/\g<=W/V+1:=by
 have hh:=h.head_le;have hn:=h.hnext;have htop:=h.htop
 have hg:g<4294967296/\g*next<=r*4294967296+third:=by
  rcases asb r 4294967296 with hr |hr
  ·have h1:¬(4294967296<=g\/r*4294967296+third<g*next):=fun h'=>hc ⟨hr,h'⟩
   omega
  ·have h1:g<4294967296:=by
    rcases asb g 4294967296 with h2 |h2
    ·exact h2
    ·have:=asl top h2;omega
   refine⟨h1,?_⟩;have h2:g*next<=4294967296*4294967296:=aoz oz oz;have h3:4294967296*4294967296<=r*4294967296:=asl _ hr;omega
 refine⟨hg.1,?_⟩
 have h1:g*(next+4294967296*top)<=third+4294967296*head:=by
  rw[<- he,aom,aom,show g*(4294967296*top)=4294967296*(g*top) by grind];omega
 have h2:g*V<=W+V:=by
  have h3:g*V'<=4294967296*P:=aoz oz (by have:=h.hV';omega);have h4:P*(g*(next+4294967296*top))<=P*(third+4294967296*head):=ash _ h1;have h5:P*4294967296<=P*(next+4294967296*top):=ash _ oz;have h6:=h.hV;have h7:=h.hW;have h8:g*V=g*V'+P*(g*(next+4294967296*top)):=by rw[h6];grind
  omega
 have h9:(g-1)*V<=W:=by rw[Nat.sub_mul];omega
 have:=(aot h.vpos).2 h9;omega
end Dig
theorem MT{l:List Nat}{n:Nat}:val (l.take (n+2))=val (l.take n)+4294967296^n*(ak l n+4294967296*ak l (n+1)):=by
 rw[dU,dU,ao1];grind
theorem aiq{l:List Nat}{n:Nat}:val (l.take (n+3))=val (l.take n)+4294967296^n*(ak l n+4294967296*(ak l (n+2)*4294967296+ak l (n+1))):=by
 rw[dU,MT,as6];grind
theorem tC{l:List Nat}(h:Ws l)(n:Nat):val (l.take n)<4294967296^n:=by
 have h1:=co (l.take n) (iY h n);exact asp h1 (aok oz (by simp;omega))
theorem afl{v p:List Nat}{n:Nat}(hv:Ws v)(hp:Ws p)(hl:v.length=n+2)(mX:p.length=n+3)(ht:2147483648<=ak v (n+1))(h:val p<val v*4294967296) :
  Dig (val v) (val p) (4294967296^n) (val (v.take n)) (val (p.take n)) (ak v (n+1)) (ak v n) (ak p n) (ak p (n+2)*4294967296+ak p (n+1)) where
 hV:=by rw[<- MT,fX oz]
 hW:=by rw[<- aiq,fX oz]
 hV':=tC hv n
 hW':=tC hp n
 hnext:=bX hv n
 hthird:=bX hp n
 htop:=ht
 htopB:=bX hv (n+1)
 hlt:=h
theorem ZS{u l:List Nat}{j:Nat}(h:j<=u.length):bq (wr u j l) j l.length=l:=by
 unfold bq wr;rw[atc,List.drop_append,as0 (by simp;omega)];simp[aon h]
theorem ajb{u l l':List Nat}{j:Nat}(h:j<=u.length)(hl:l.length=l'.length):wr (wr u j l) j l'=wr u j l':=by
 have h1:=LJ (l:=l) h;have h2:=aeb (l:=l) h;rw[hl]at h2;rw[wr,h1,h2,<- wr]
theorem adk{W V g len:Nat}(hV:0<V)(Ua:V<=4294967296^len)(hW:W<4294967296^len)(h1:W/V<=g)(h2:g<=W/V+1) :
  (W<g*V->(mr g V W len+V)%4294967296^len=W%V/\g-1=W/V/\1<=g)/\(¬W<g*V->mr g V W len=W%V/\g=W/V):=by
 have h3:=aoa W V;have h4:=aou W hV;generalize W/V=q at *;generalize W%V=r at *;have h5:V*q=q*V:=aog _ _;refine⟨fun h=>?_,fun h=>?_⟩
 ·have hg:g=q+1:=by
   rcases asb q g with h6 |h6
   ·omega
   ·have : g = q := by omega
    subst this;omega
  subst hg;rw[ape]at h;refine⟨?_,by omega,by omega⟩;unfold mr;rw[ape,atd oz,show W+4294967296^len-(q*V+V)+V=r+4294967296^len by omega,Nat.add_mod_right,aol oz]
 ·have hg:g=q:=by
   rcases asb q g with h6 |h6
   ·have : g = q + 1 := by omega
    subst this;rw[ape]at h;omega
   ·omega
  subst hg;refine⟨?_,rfl⟩;unfold mr;rw[ate oz];omega
theorem ajp{u q:List Nat}{k lv V U:Nat}(hu:Ws u)(hk:k+lv+1<=u.length)(hq:k<q.length)(hV:V<4294967296^lv)(h1:val (u.drop (k+1))<V)(h2:U=V*(4294967296^(k+1)*val (q.drop (k+1)))+val u) :
  val (bq u k (lv+1))<V*4294967296/\val ((wr u k (bf (lv+1) (val (bq u k (lv+1))%V))).drop k)<V /\
  U=V*(4294967296^k*val ((q.set k (val (bq u k (lv+1))/V)).drop k))+val (wr u k (bf (lv+1) (val (bq u k (lv+1))%V))):=by
 have h0:val (u.drop (k+(lv+1)))=0:=by
  have h3:=ND (u:=u) (j:=k+1) (n:=lv) oz;rw[show k+1+lv=k+(lv+1) by omega]at h3;rcases aov (val (u.drop (k+(lv+1))))with h4 |h4
  ·exact h4
  ·have:=ash (4294967296^lv) h4;omega
 have hd:=ND (u:=u) (j:=k) (n:=lv+1) oz;rw[h0,Nat.mul_zero,aoy]at hd;have hw:=bX hu k;have mb:=vH (l:=u) (i:=k) oz;have hW:val (bq u k (lv+1))<V*4294967296:=by rw[<- hd,mb];omega
 have JN:0<V:=by omega
 have hr:=aou (val (bq u k (lv+1))) JN;have hm:=aoa (val (bq u k (lv+1))) V;have cm:(bf (lv+1) (val (bq u k (lv+1))%V)).length=lv+1:=gK _ _;have hx:val (bq u k (lv+1))%V<4294967296^(lv+1):=by rw[ao1];omega
 have hwd:val ((wr u k (bf (lv+1) (val (bq u k (lv+1))%V))).drop k)=val (bq u k (lv+1))%V:=by
  rw[aa0 oz,cm,h0,oV _ _ hx];omega
 refine⟨hW,by omega,?_⟩;rw[G7 (u:=wr u k _) (j:=k) (by rw[pF oz];omega),LJ oz,hwd,Lm hq,h2,G7 (u:=u) (j:=k) oz,hd];generalize val (bq u k (lv+1))%V=r at *;generalize val (bq u k (lv+1))/V=d at *;rw[<- hm,ao1];grind
theorem abz{A Bv n Q R:Nat}(h:2^n*A=2^n*Bv*Q+R)(hR:R<2^n*Bv):Q=A/Bv/\R/2^n=A%Bv:=by
 obtain⟨h1,h2⟩:=A4 h hR;rw[Nat.mul_div_mul_left _ _ (aoi oz)]at h1;rw[Nat.mul_mod_mul_left]at h2;rw[<- h1,<- h2,Nat.mul_div_cancel_left _ (aoi oz)];exact⟨rfl,rfl⟩
end Go.Lw
namespace Go.Lw
theorem PJ:∀k v,(bf (k+1) v).take k=bf k v
 |0,_=>by simp[bf]
 |k+1,v=>by
  rw[bf,List.take_succ_cons,PJ k];rfl
theorem Xc{u:List Nat}{j n i:Nat}(h:i<n):ak (bq u j n) i=ak u (j+i):=by
 rw[<- Ea];simp[bq,ak,h]
theorem Ji{u:List Nat}{j n i:Nat}(h:i<n)(h2:j+n<=u.length):(u.map u32)[j+i]?=some (u32 (ak (bq u j n) i)):=by
 rw[Xc h];exact cB oz
theorem VB{b:List Nat}{n:Nat}(hb:Ws b)(nb:Nz b)(hl:b.length=n+2) :
  ∃sh v,sh=32-aY (ak b (n+1))/\sh<32/\v=bf (n+2) (2^sh*val b)/\Ws v/\v.length=n+2/\val v=2^sh*val b/\2147483648<=ak v (n+1)/\ak b (n+1)≠0 /\
   4294967296^(n+1)<=val b:=by
 have ht:ak b (n+1)≠0:=by
  refine nb _ ?_;rw[aqa,hl];exact lI oz
 have htB:=bX hb (n+1);obtain⟨h1,h2,h3,h4⟩:=G1 ht htB;have h5:=CX (x:=ak b (n+1))
 have hv:val b=val (b.take (n+1))+4294967296^(n+1)*ak b (n+1):=by
  rw[<- dU,fX oz]
 have hlt:=tC hb (n+1)
 have am9:2^(32-aY (ak b (n+1)))*(ak b (n+1)+1)<=4294967296:=by
  have:=ash (2^(32-aY (ak b (n+1)))) (show ak b (n+1)+1<=2^aY (ak b (n+1))from h5);rw[<- as6,show 32-aY (ak b (n+1))+aY (ak b (n+1))=32 by omega]at this;exact this
 have Ez:4294967296^(n+1)<=val b:=by
  have:=ash (4294967296^(n+1)) (show 1<=ak b (n+1) by omega);omega
 generalize kz:32-aY (ak b (n+1))=sh at *
 have hX:2^sh*val b<4294967296^(n+2):=by
  have e1:val b<4294967296^(n+1)*(ak b (n+1)+1):=by rw[aom];omega
  have e2:2^sh*val b<2^sh*(4294967296^(n+1)*(ak b (n+1)+1)):=(ao4 (aoi oz)).2 e1;have e3:2^sh*(4294967296^(n+1)*(ak b (n+1)+1))=4294967296^(n+1)*(2^sh*(ak b (n+1)+1)):=by grind
  have e4:=ash (4294967296^(n+1)) am9;rw[<- ao1]at e4;rw[e3]at e2;exact asp e2 e4
 refine⟨sh,_,rfl,by omega,rfl,mh _ _,gK _ _,oV _ _ hX,?_,ht,Ez⟩
 have ky:val (bf (n+2) (2^sh*val b))=val ((bf (n+2) (2^sh*val b)).take (n+1))+4294967296^(n+1)*ak (bf (n+2) (2^sh*val b)) (n+1):=by
  rw[<- dU,fX (by rw[gK];omega)]
 rw[oV _ _ hX]at ky;have EA:=tC (mh (n+2) (2^sh*val b)) (n+1)
 have e5:4294967296^(n+1)*(2^sh*ak b (n+1))<=2^sh*val b:=by
  have:=ash (2^sh) (show 4294967296^(n+1)*ak b (n+1)<=val b by omega);have e6:2^sh*(4294967296^(n+1)*ak b (n+1))=4294967296^(n+1)*(2^sh*ak b (n+1)):=by grind
  omega
 have e7:4294967296^(n+1)*(2^sh*ak b (n+1))<4294967296^(n+1)*(ak (bf (n+2) (2^sh*val b)) (n+1)+1):=by rw[aom (4294967296^(n+1)) _ 1];omega
 have:=aoc e7;omega
theorem LC{a:List Nat}{sh lq n Bv:Nat}(ha:Ws a)(kz:sh<32)(hl:a.length+1=lq+(n+2))(hB:4294967296^(n+1)<=Bv) :
  val (bf (a.length+1) (2^sh*val a))=2^sh*val a/\val ((bf (a.length+1) (2^sh*val a)).drop lq)<2^sh*Bv:=by
 have h1:=co a ha;have h2:2^sh<=2^31:=tm oz;have hp:0<2^sh:=aoi oz;have h3:2^sh*val a<2^sh*4294967296^a.length:=(ao4 hp).2 h1
 have hX:2^sh*val a<4294967296^(a.length+1):=by
  have:=asl (4294967296^a.length) (show 2^sh<=4294967296 by omega);rw[ao1];omega
 refine⟨oV _ _ hX,?_⟩;have h4:=Ei (mh (a.length+1) (2^sh*val a)) lq (by rw[gK];omega);rw[oV _ _ hX]at h4;rw[<- h4,aos (aoi oz)];have h5:a.length=(n+1)+lq:=by omega
 rw[h5,as6]at h3;have h6:=ash (2^sh) (asl (4294967296^lq) hB);rw[an8];omega
theorem hH0{s:AS}:∀(k:Nat)(z:Blk),lk ([]:Hp) k=some z->s.blk k=some z:=fun _ _ h=>by cases h
theorem hH1{s:AS}{k0:Nat}{x:Blk}(h:s.blk k0=some x):∀(k:Nat)(z:Blk),lk [(k0,some x)] k=some z->s.blk k=some z:=by
 intro k z hz;rw[aE]at hz;split at hz
 ·rename_i e;cases hz;rw[e];exact h
 ·cases hz
theorem af6{s:AS}{x y x' y':AV}(h:Sub x x')(h':Sub y y'):aD s (d7 [x,y]) (.tup [x',y']) []:=by
 refine aD.pure.sub ?_;intro g S m v hr;cases hr with
 |tup hn hr =>
  refine .tup (by simpa using hn) ?_;intro j u c hu hc
  match j,hc with
  |0,hc=>cases hc;exact h _ _ _ _ (hr 0 u x hu rfl)
  |1,hc=>cases hc;exact h' _ _ _ _ (hr 1 u y hu rfl)
theorem XM{b v:List Nat}{n X:Nat}(hn:b.length=n+2)(h:v=bf (n+2) X) :
  AV.fz 900 1 ((bf (b.length+1) X).map u32) (.ms 900 1 0 b.length)=ws v:=by
 rw[tl (by simp[gK]),h,<- hn,as8,<- map_take,PJ,ws]
theorem NM{x:Nat}(h:1<=x)(hx:x<18446744073709551616):IntKind.u64.wrap (gw .sub (x:Int) 1)=((x-1:Nat):Int):=by
 have h1:=nW (x:=x) (y:=1) hx oz;rw[ate h]at h1;exact h1
theorem RE{r g G R:Nat}:(cond (aa .lss (r:Int) 4294967296) (cond (aa .geq (g:Int) 4294967296) true (aa .gtr (G:Int) (R:Int))) false)=true ↔
  (r<4294967296/\(4294967296<=g\/R<G)):=by
 have e1:aa .lss (r:Int) 4294967296=decide (r<4294967296):=by rw[aq8];simp only[aa,atf];omega
 have e2:aa .geq (g:Int) 4294967296=decide (4294967296<=g):=by rw[aq8];simp only[aa,atf];omega
 have e3:aa .gtr (G:Int) (R:Int)=decide (R<G):=by rw[aq8];simp only[aa,atf];omega
 rw[e1,e2,e3]
 by_cases h1:r<4294967296
 ·by_cases h2:4294967296<=g
  ·rw[ati h1,ati h2];exact⟨fun _=>⟨h1,.inl h2⟩,fun _=>rfl⟩
  ·rw[ati h1,atj h2];show decide (R<G)=true↔_;rw[atf];exact⟨fun h=>⟨h1,.inr h⟩,fun h=>h.2.resolve_left h2⟩
 ·rw[atj h1];constructor
  ·intro h;exact Bool.noConfusion h
  ·intro h;exact atk h.1 h1
theorem QL{u:List Nat}{k n V r:Nat}{l:List Nat}(hk:k+n<=u.length)(hl:l.length=n)(h:(val l+V)%4294967296^n=r) :
  wr (wr u k l) k (bf n ((val (bq (wr u k l) k n)+V)%4294967296^n))=wr u k (bf n r):=by
 subst hl;rw[ajb oz (by rw[gK]),ZS oz,h]
theorem hH2{s:AS}{k1 k2:Nat}{x1 x2:Blk}(h1:s.blk k1=some x1)(h2:s.blk k2=some x2):∀(k:Nat)(z:Blk),lk [(k1,some x1),(k2,some x2)] k=some z->s.blk k=some z:=by
 intro k z hz;rw[aE]at hz;split at hz
 ·rename_i e;cases hz;rw[e];exact h1
 ·rw[aE]at hz;split at hz
  ·rename_i e;cases hz;rw[e];exact h2
  ·cases hz
theorem aK{p:Prop}(h:p:=by first |exact hH0 |exact hH1 rfl |exact hH2 rfl rfl):p:=h
def jE(x y:Int):Int:=if x<y then -1 else if y<x then 1 else 0
theorem PO(b:Bool)(n:Nat):sgn (!b) n=-(sgn b n):=by cases b <;> simp[sgn]
theorem Wh.small{w:Wh}(h:w.ok)(hl:w.mag.length<aA):w.m.length<aA:=asw Wh.m_le hl
theorem Sf{w:Wh}(h:w.ok):(w.m.length=0->w.z.sign=0)/\(w.m.length≠0->w.neg=true->w.z.sign=-1)/\(w.m.length≠0->w.neg=false->w.z.sign=1):=by
 have h1:w.m.length≠0->w.valid=true:=by
  intro h0;unfold Wh.m at h0;split at h0
  ·assumption
  ·exact atk rfl h0
 refine⟨?_,?_,?_⟩
 ·intro h0;have h2:w.m = []:=apv.1 h0;have h3:val w.m = 0:=by rw [h2]; rfl
  have:w.z=0:=by unfold Wh.z;rw[h3];split <;> rfl
  rw[this];rfl
 ·intro h0 hn;have h2:w.n = true:=by unfold Wh.n; rw [h1 h0,hn]; rfl
  have h3:=Wh.n_val h2;rw[aqr];unfold Wh.z;rw[ate h2];omega
 ·intro h0 hn;have h2:w.n = false:=by unfold Wh.n; rw [h1 h0,hn]; rfl
  have h3:=ut w.nz (fun h=>h0 (by rw[h];rfl));rw[aqt];unfold Wh.z;rw[h2];simp;omega
theorem SV{a b:Wh}(h:a.n=b.n):sgn a.n (val a.m+val b.m)=a.z+b.z:=by
 rw[Wh.z_eq,Wh.z_eq,<- h];unfold sgn;split <;> omega
theorem He{a b:Wh}(h:a.n≠b.n)(hl:val b.m<=val a.m):sgn a.n (val a.m-val b.m)=a.z+b.z:=by
 rw[Wh.z_eq,Wh.z_eq];cases ha:a.n <;> cases hb:b.n <;> simp_all [sgn] <;> omega
theorem R0{a b:Wh}(h:a.n≠b.n)(hl:val a.m<=val b.m):sgn b.n (val b.m-val a.m)=a.z+b.z:=by
 rw[Int.add_comm];exact He (fun h'=>h h'.symm) hl
theorem LW{a b:Wh}:sgn (a.n != b.n) (val a.m*val b.m)=a.z*b.z:=by
 rw[Wh.z_eq,Wh.z_eq];cases a.n <;> cases b.n <;> simp[sgn,Int.neg_mul,Int.mul_neg]
theorem I1(z:Int):(z.sign=1/\0<z)\/(z.sign=0/\z=0)\/(z.sign=-1/\z<0):=by
 rcases aqu z 0 with h |h |h
 ·exact .inr (.inr ⟨aqr.2 h,h⟩)
 ·subst h;exact .inr (.inl ⟨rfl,rfl⟩)
 ·exact .inl ⟨aqt.2 h,h⟩
theorem ai7{a b:Wh}(h:a.z.sign≠b.z.sign):(a.z.sign<b.z.sign->jE a.z b.z=-1)/\(¬a.z.sign<b.z.sign->jE a.z b.z=1):=by
 have h1:=I1 a.z;have h2:=I1 b.z;unfold jE;generalize a.z.sign=s at *;generalize b.z.sign=t at *;generalize a.z=x at *;generalize b.z=y at *;constructor <;> intro h3 <;> (repeat' split) <;> omega
theorem aap{a b:Wh}(h:a.z.sign=b.z.sign):jE a.z b.z=(if a.n then -(if val a.m<val b.m then -1 else if val b.m<val a.m then 1 else 0:Int)else if val a.m<val b.m then -1 else if val b.m<val a.m then 1 else 0):=by
 have ha:=Wh.n_eq (w:=a);have hb:=Wh.n_eq (w:=b);have h1:=aqp a.z;have df:=Wh.z_eq (w:=a);have l8:=Wh.z_eq (w:=b)
 have hn:a.n=b.n:=by
  rw[ha,hb,decide_eq_decide,<- aqr,<- aqr,h]
 rw[<- hn]at l8;unfold jE;rw[df,l8];cases a.n <;> simp only[sgn,if_true,if_false,aq9] <;> (repeat' split) <;> omega
theorem KY{a b q r:Int}(hb:b≠0)(h:a=b*q+r)(h0:0<=r)(h1:r<b.natAbs):a/b=q/\a%b=r:=by
 have h2:=Int.mul_ediv_add_emod a b;have h3:=Int.emod_nonneg a hb;have h4:=Int.emod_lt a hb;have h5:b*(a/b-q)=r-a%b:=by rw[Int.mul_sub];omega
 have h6:a/b-q=0:=by
  rcases aqu (a/b-q) 0 with h |h |h
  ·exfalso;have:b.natAbs <= (r - a % b).natAbs:=by rw [<- h5,aqv]; exact Nat.le_mul_of_pos_right _ oz
   omega
  ·exact h
  ·exfalso;have:b.natAbs <= (r - a % b).natAbs:=by rw [<- h5,aqv]; exact Nat.le_mul_of_pos_right _ oz
   omega
 rw[h6,Int.mul_zero]at h5;omega
theorem MN{a b:Wh}(hb:val b.m≠0)(h:¬(a.n=true/\0<val a.m%val b.m)) :
  sgn (a.n != b.n) (val a.m/val b.m)=a.z/b.z/\(val a.m%val b.m:Nat)=a.z%b.z:=by
 have h1:=aoa (val a.m) (val b.m);have h2:=aou (val a.m) (show 0<val b.m by omega);have hz:=Wh.abs (w:=b);have iP:b.z≠0:=by omega
 obtain⟨e1,e2⟩:=KY (a:=a.z) (b:=b.z) (q:=sgn (a.n != b.n) (val a.m/val b.m)) (r:=(val a.m%val b.m:Nat)) iP (by
  rw[Wh.z_eq,Wh.z_eq];generalize val a.m/val b.m=q at *;generalize val a.m%val b.m=r at *;rw[<- h1]
  have h9:a.n=true->r=0:=fun h3=>by
   rcases aov r with h4 |h4
   ·exact h4
   ·exact atk ⟨h3,h4⟩ h
  cases ha:a.n with
  |false=>cases EB:b.n <;> simp[sgn] <;> grind
  |true=>have:=h9 ha;subst this;cases EB:b.n <;> simp[sgn] <;> grind) oz oz
 exact⟨e1.symm,e2.symm⟩
theorem N8{a b:Wh}(hb:val b.m≠0)(ha:a.n=true)(hr:0<val a.m%val b.m) :
  sgn (a.n != b.n) (val a.m/val b.m+1)=a.z/b.z/\((val b.m-val a.m%val b.m:Nat):Int)=a.z%b.z:=by
 have h1:=aoa (val a.m) (val b.m);have h2:=aou (val a.m) (show 0<val b.m by omega);have hz:=Wh.abs (w:=b);have iP:b.z≠0:=by omega
 obtain⟨e1,e2⟩:=KY (a:=a.z) (b:=b.z) (q:=sgn (a.n != b.n) (val a.m/val b.m+1)) (r:=(val b.m-val a.m%val b.m:Nat)) iP (by
  rw[Wh.z_eq,Wh.z_eq];generalize val a.m/val b.m=q at *;generalize val a.m%val b.m=r at *;rw[<- h1,ha];cases EB:b.n <;> simp[sgn] <;> rw[Int.ofNat_sub oz] <;> grind) oz oz
 exact⟨e1.symm,e2.symm⟩
abbrev iu:Nat:=137438953472
def Zs(z:Int):Prop:=∃k,k<=274877906945/\Lz k z
theorem Zs.ok{z:Int}(h:Zs z):(ofInt z).ok:=by
 obtain⟨k,hk,hz⟩:=h;refine⟨dT _,?_⟩;have:=hz.len;unfold aF;show(ofNat z.natAbs).length<=_;omega
theorem Zs.len{z:Int}(h:Zs z):(ofInt z).mag.length<=274877906945:=by
 obtain⟨k,hk,hz⟩:=h;have:=hz.len;show(ofNat z.natAbs).length<=_;omega
theorem Zs.neg{z:Int}(h:Zs z):Zs (-z):=by
 obtain⟨k,hk,hz⟩:=h;exact⟨k,hk,hz.neg⟩
theorem Zs.of_le{x y:Int}(h:Zs x)(h':y.natAbs<=x.natAbs):Zs y:=by
 obtain⟨k,hk,hz⟩:=h;exact⟨k,hk,hz.of_le h'⟩
structure Rt where
  neg:Bool
  num:List Nat
  den:List Nat
namespace Rt
def av(r:Rt):AV:=.agg [bl r.neg,ws r.num,ws r.den]
def n0(r:Rt):Wh:=⟨false,r.num⟩
def d0(r:Rt):Wh:=⟨false,r.den⟩
def valid(r:Rt):Bool :=
  if r.num=[]/\r.den=[]then !r.neg
  else if r.num=[]\/r.den=[]then false
  else r.n0.valid&&r.d0.valid&&decide (ao5 (val r.num) (val r.den)=1)
def q(r:Rt):Rat:=if r.valid=true/\r.num≠[]then mkRat (sgn r.neg (val r.num)) (val r.den)else 0
def ok(r:Rt):Prop:=Ws r.num/\Ws r.den/\r.num.length<=iu/\r.den.length<=iu
end Rt
def rt(q:Rat):Rt:=⟨decide (q.num<0),ofNat q.num.natAbs,if q.num=0 then[]else ofNat q.den⟩
def qA(q:Rat):AV:=(rt q).av
def Qs(q:Rat):Prop:=∃k,k<=iu/\Lz k q.num/\Lz k (q.den:Int)
theorem Qs.ok{q:Rat}(h:Qs q):(rt q).ok:=by
 obtain⟨k,hk,h1,h2⟩:=h;have h3:=h1.len;have h4:=h2.len;simp only[as1]at h4;refine⟨dT _,?_,by show(ofNat q.num.natAbs).length<=_;omega,?_⟩
 ·show Ws (if q.num=0 then[]else ofNat q.den);split
  ·exact zy
  ·exact dT _
 ·show(if q.num=0 then[]else ofNat q.den).length<=_;split
  ·simp
  ·omega
theorem FN{n:Nat}:ofNat n=[]↔n=0:=by
 constructor
 ·intro h;have:=cD n;rw[h]at this;exact this.symm
 ·intro h;rw[h];rfl
theorem OA{l:List Nat}(h:l≠[])(hz:Nz l):(⟨false,l⟩:Wh).valid=true:=by
 unfold Wh.valid;dsimp only;rw[atd h];cases hl:l.getLast? with
 |none=>rfl
 |some x=>have:=hz x hl;simp[this]
theorem Qo{l:List Nat}{b:Bool}(h:l≠[])(hv:(⟨b,l⟩:Wh).valid=true):Nz l:=by
 unfold Wh.valid at hv;dsimp only at hv;rw[atd h]at hv;intro x hx nc;rw[hx,nc]at hv;simp at hv
theorem Bo(q:Rat):(rt q).valid=true:=by
 unfold rt Rt.valid Rt.n0 Rt.d0;dsimp only
 by_cases h:q.num=0
 ·rw[ate h,h];rfl
 ·rw [atd h];have h1:ofNat q.num.natAbs ≠ []:=fun h'=>h (by have:=FN.1 h'; omega)
  have h2:ofNat q.den≠[]:=fun h'=>q.den_nz (FN.1 h')
  rw[atd (fun h'=>h1 h'.1),atd (by simp[h1,h2]),OA h1 (vG _),OA h2 (vG _),cD,cD];have:=q.reduced;unfold Nat.Coprime at this;simp[this]
theorem bE(q:Rat):(rt q).q=q:=by
 unfold Rt.q
 by_cases h:q.num=0
 ·rw[atd]
  ·exact(aq6.1 h).symm
  ·intro h';exact h'.2 (by show ofNat _=[];rw[h];rfl)
 ·have h1 : ofNat q.num.natAbs ≠ [] := fun h' => h (by have := FN.1 h'; omega)
  rw[ate ⟨Bo q,h1⟩];show mkRat (sgn (decide (q.num<0)) (val (ofNat q.num.natAbs))) (val (if q.num=0 then[]else ofNat q.den))=q;rw[atd h,cD,cD]
  have:sgn (decide (q.num<0)) q.num.natAbs=q.num:=by
   unfold sgn;generalize q.num=z
   by_cases h2:z<0
   ·rw[ate (ati h2)];omega
   ·rw[atd (by rw[atf];exact h2)];omega
  rw[this,Rat.mkRat_self]
theorem Rt.parts{r:Rt}(h:r.ok)(hv:r.valid=true)(h0:r.num≠[]) :
  r.q.num=sgn r.neg (val r.num)/\r.q.den=val r.den/\ofNat (val r.num)=r.num/\ofNat (val r.den)=r.den/\val r.num≠0/\val r.den≠0:=by
 have hv':=hv;unfold Rt.valid at hv;rw[atd (fun h'=>h0 h'.1)]at hv;split at hv
 ·cases hv
 ·rename_i h1;simp only[ar5,atf]at hv;obtain⟨⟨hn,hd⟩,hg⟩:=hv;have h2:r.den≠[]:=fun h'=>h1 (.inr h')
  have nn:=Qo h0 hn;have nd:=Qo h2 hd;have pn:=ut nn h0;have pd:=ut nd h2;have hq:r.q=mkRat (sgn r.neg (val r.num)) (val r.den):=by unfold Rt.q;rw[ate ⟨hv',h0⟩]
  have hs:(sgn r.neg (val r.num)).natAbs=val r.num:=by unfold sgn;split <;> omega
  have lC : r.q = ⟨sgn r.neg (val r.num), val r.den, by omega, by unfold Nat.Coprime; rw [hs]; exact hg⟩ := by
   rw[hq];exact(Rat.mk_eq_mkRat _ _ _ _).symm
  refine⟨by rw[lC],by rw[lC],vz h.1 nn,vz h.2.1 nd,by omega,by omega⟩
theorem Rt.zero{r:Rt}(h:¬(r.valid=true/\r.num≠[])):r.q=0:=by unfold Rt.q;rw[atd h]
theorem Rt.eq_rt{r:Rt}(h:r.ok)(hv:r.valid=true):r=rt r.q:=by
 by_cases h0:r.num=[]
 ·have hq:=Rt.zero (r:=r) (fun h'=>h'.2 h0);rw[hq];unfold Rt.valid at hv
  by_cases h1:r.den=[]
  ·rw[ate ⟨h0,h1⟩]at hv;obtain⟨n,a,b⟩:=r;dsimp only at *;subst h0;subst h1
   cases n
   ·rfl
   ·cases hv
  ·rw[atd (fun h'=>h1 h'.2),ate (.inl h0)]at hv;cases hv
 ·obtain ⟨h1, h2, h3, h4, h5, h6⟩:=Rt.parts h hv h0;unfold rt;have hn:r.q.num ≠ 0:=by rw [h1]; unfold sgn; split <;> omega
  rw[atd hn,h2,h4];have h7:r.q.num.natAbs=val r.num:=by rw[h1];unfold sgn;split <;> omega
  have h8:decide (r.q.num<0)=r.neg:=by rw[h1];unfold sgn;cases r.neg <;> simp <;> omega
  rw[h7,h3,h8]
theorem Rt.ok.qs{r:Rt}(h:r.ok):Qs r.q:=by
 by_cases h0:r.valid=true/\r.num≠[]
 ·obtain ⟨h1, h2, h3, h4, h5, h6⟩:=Rt.parts h h0.1 h0.2;refine ⟨max r.num.length r.den.length,by have:=h.2.2; omega,?_,?_⟩
  ·unfold Lz;have:r.q.num.natAbs = val r.num:=by rw [h1]; unfold sgn; split <;> omega
   rw[this];exact asp (co _ h.1) (aok oz oz)
  ·unfold Lz;rw[h2];exact asp (co _ h.2.1) (aok oz oz)
 ·rw[Rt.zero h0];exact⟨1,by unfold iu;omega,by unfold Lz;decide,by unfold Lz;decide⟩
theorem Qs.num{q:Rat}(h:Qs q):Zs q.num:=by
 obtain⟨k,hk,h1,h2⟩:=h;exact⟨k,by unfold iu at hk;omega,h1⟩
theorem Qs.den{q:Rat}(h:Qs q):Zs q.den:=by
 obtain⟨k,hk,h1,h2⟩:=h;exact⟨k,by unfold iu at hk;omega,h2⟩
theorem Qs.mul{p q:Rat}(h:Qs p)(h':Qs q):Zs (p.num*q.den)/\Zs (p.num*q.num)/\Zs ((p.den:Int)*q.den)/\Zs ((p.den:Int)*q.num):=by
 obtain⟨k,hk,h1,h2⟩:=h;obtain⟨l,hl,h3,h4⟩:=h';unfold iu at *;exact⟨⟨k+l,by omega,h1.mul h4⟩,⟨k+l,by omega,h1.mul h3⟩,⟨k+l,by omega,h2.mul h4⟩,⟨k+l,by omega,h2.mul h3⟩⟩
theorem Qs.cross{p q:Rat}(h:Qs p)(h':Qs q):Zs (p.num*q.den+q.num*p.den):=by
 obtain⟨k,hk,h1,h2⟩:=h;obtain⟨l,hl,h3,h4⟩:=h';unfold iu at *;have:=(h1.mul h4).add (h3.mul h2);exact⟨_,by omega,this⟩
theorem Qs.neg{p:Rat}(h:Qs p):Qs (-p):=by
 obtain⟨k,hk,h1,h2⟩:=h;refine⟨k,hk,?_,?_⟩
 ·rw[Rat.neg_num];exact h1.neg
 ·rw[Rat.neg_den];exact h2
theorem Qs.zero:Qs 0:=⟨1,by unfold iu;omega,by unfold Lz;decide,by unfold Lz;decide⟩
theorem Rt.ok.n0{r:Rt}(h:r.ok):r.n0.ok:=⟨h.1,by have:=h.2.2.1;unfold iu at this;unfold aF;exact asv this oz⟩
theorem Rt.ok.d0{r:Rt}(h:r.ok):r.d0.ok:=⟨h.2.1,by have:=h.2.2.2;unfold iu at this;unfold aF;exact asv this oz⟩
theorem Rt.ok.n0l{r:Rt}(h:r.ok):r.n0.mag.length<aA:=by have:=h.2.2.1;unfold iu at this;unfold aA;exact asw this oz
theorem Rt.ok.d0l{r:Rt}(h:r.ok):r.d0.mag.length<aA:=by have:=h.2.2.2;unfold iu at this;unfold aA;exact asw this oz
theorem BW:Zs 1:=⟨1,by omega,by unfold Lz;decide⟩
theorem Rt.gcd_zs{r:Rt}(h:r.ok):Zs (aqn r.n0.z r.d0.z):=by
 have h1:=Wh.lz h.n0;have h2:=Wh.lz h.d0;have h3:r.n0.mag.length<=137438953472:=h.2.2.1;have h4:r.d0.mag.length<=137438953472:=h.2.2.2
 by_cases h0:r.n0.z=0
 ·rw[h0,Int.gcd_zero_left];exact⟨r.d0.mag.length,by omega,by unfold Lz at *;simpa using h2⟩
 ·refine⟨r.n0.mag.length,by omega,h1.of_le ?_⟩;simp only[as1];exact Nat.le_of_dvd oz (Int.gcd_dvd_natAbs_left _ _)
theorem amb{n:Nat}:jE (n:Int) 1=0↔n=1:=by
 unfold jE;split
 ·constructor <;> intro h <;> omega
 ·split <;> constructor <;> intro h <;> omega
theorem KZ{l:List Nat}(h:(⟨false,l⟩:Wh).valid=true):(⟨false,l⟩:Wh).z=val l:=by
 unfold Wh.z Wh.n Wh.m;simp[h]
theorem E5{r:Rt}(h0:¬(r.num=[]/\r.den=[]))
  (h:cond (cond (cond (aa .eql (r.num.length:Int) 0) true (aa .eql (r.den.length:Int) 0)) true (!r.n0.valid)) true (!r.d0.valid)=true):r.valid=false:=by
 unfold Rt.valid;rw[atd h0];split
 ·rfl
 ·next h1 =>
  have hn:r.num≠[]:=fun h=>h1 (.inl h)
  have hd:r.den≠[]:=fun h=>h1 (.inr h)
  have e1:aa .eql (r.num.length:Int) 0=false:=by simp[aa,hn]
  have e2:aa .eql (r.den.length:Int) 0=false:=by simp[aa,hd]
  rw[e1,e2]at h;cases hv:r.n0.valid <;> cases hw:r.d0.valid <;> simp_all
theorem RZ{r:Rt}(h0:¬(r.num=[]/\r.den=[]))
  (h:cond (cond (cond (aa .eql (r.num.length:Int) 0) true (aa .eql (r.den.length:Int) 0)) true (!r.n0.valid)) true (!r.d0.valid)=false) :
  r.valid=aa .eql (jE (aqn r.n0.z r.d0.z) 1) 0:=by
 unfold Rt.valid;rw[atd h0];cases e1:aa .eql (r.num.length:Int) 0
 ·cases e2:aa .eql (r.den.length:Int) 0
  ·have hn : r.num ≠ [] := by simpa [aa] using e1
   have hd:r.den≠[]:=by simpa[aa]using e2
   rw[e1,e2]at h;cases hv:r.n0.valid <;> cases hw:r.d0.valid <;> simp[hv,hw]at h
   rw[atd (by simp[hn,hd])];have z1:r.n0.z=val r.num:=KZ hv;have z2:r.d0.z=val r.den:=KZ hw;rw[z1,z2];show(true&&true&&decide _)=decide _;simp only[Bool.and_self,are];rw[aq8];simp only[atf];exact amb.symm
  ·rw[e1,e2]at h;simp at h
 ·rw[e1]at h;simp at h
theorem KH{b:Bool}{num den:List Nat}(e3:ofNat (val num)=num)(e4:ofNat (val den)=den)(e5:val num≠0) :
  AV.tup [.agg [bl b,ws num],.agg [bl false,ws den]]=.tup [zA (sgn b (val num)),zA ((val den:Nat):Int)]:=by
 unfold zA ofInt Wh.av;have h1:(sgn b (val num)).natAbs=val num:=by unfold sgn;split <;> omega
 have h2:decide (sgn b (val num)<0)=b:=by unfold sgn;cases b <;> simp <;> omega
 have h3:decide (((val den:Nat):Int)<0)=false:=by simp
 dsimp only;rw[h1,h2,h3,e3,as1,e4]
inductive SubL:List AV->List AV->Prop
  |nil:SubL [] []
  |cons {x y:AV} {l l':List AV} (h:Sub x y) (hl:SubL l l'):SubL (x::l) (y::l')
theorem SubL.len{l l':List AV}(h:SubL l l'):l.length=l'.length:=by induction h with |nil=>rfl |cons _ _ ih=>simp[ih]
theorem SubL.get{l l':List AV}(h:SubL l l'):∀(j:Nat)(x y:AV),l[j]?=some x->l'[j]?=some y->Sub x y:=by
 induction h with
 |nil=>intro j x y h;simp at h
 |cons h _ ih =>
  intro j x y hx hy;cases j with
  |zero=>simp at hx hy;subst hx;subst hy;exact h
  |succ j=>simp at hx hy;exact ih j x y hx hy
theorem Sub.tup{l l':List AV}(h:SubL l l'):Sub (.tup l) (.tup l'):=by
 intro g S m v hv;cases hv with
 |tup hn hr =>
  refine .tup (by rw[hn,h.len]) (fun j u y hu hy=>?_);obtain⟨x,hx⟩:=lc h.len.symm hy;exact h.get j x y hx hy _ _ _ _ (hr j u x hu hx)
theorem Sub.agg{l l':List AV}(h:SubL l l')(ho:l'.all AV.one=true):Sub (.agg l) (.agg l'):=by
 intro g S m v hv;cases hv with
 |agg hn h1 hr =>
  refine .agg (by rw[hn,h.len]) (fun j c hc=>asd.1 ho c (ar1 hc)) (fun j u y hu hy=>?_);obtain⟨x,hx⟩:=lc h.len.symm hy;exact h.get j x y hx hy _ _ _ _ (hr j u x hu hx)
theorem BlkSub.bL{l l':List AV}(h:SubL l l')(ho:l'.all AV.one=true):BlkSub (.box l) (.box l') :=
 .box h.len (fun j c hc=>asd.1 ho c (ar1 hc)) (fun j x y hx hy=>h.get j x y hx hy)
theorem Kx:Sub (.agg [.v (.bool false),.v (.slice none 0 0)]) (zA 0):=.agg (.cons (.refl _) (.cons (.nil _ _ _) .nil)) rfl
theorem l6:Sub (.agg [.v (.bool false),.v (.slice none 0 0),.v (.slice none 0 0)]) (qA 0):=.agg (.cons (.refl _) (.cons (.nil _ _ _) (.cons (.nil _ _ _) .nil))) rfl
theorem Q9{n d:Int}(hd:0<d)(hn:n≠0) :
  (aq3 n d).num=n/(aqn n d:Int)/\(aq3 n d).den=d.natAbs/aqn n d:=by
 constructor
 ·rw[Rat.num_divInt,Int.sign_eq_one_of_pos hd,Int.one_mul,Int.gcd_comm]
 ·rw[Rat.den_divInt,atd oz,Int.gcd_comm]
theorem ak2{n d:Int}(hd:0<d)(hn:n≠0) :
  AV.agg [bl (decide (n<0)),ws (ofNat (((n.natAbs:Int)/(aqn n d:Int)).natAbs)),ws (ofNat ((d/(aqn n d:Int)).natAbs))]=qA (aq3 n d):=by
 obtain⟨h1,h2⟩:=Q9 hd hn;obtain⟨g,hg⟩:∃g,g=aqn n d:=⟨_,rfl⟩
 have qH:0<g:=by rw[hg];exact Int.gcd_pos_of_ne_zero_left _ hn
 have hgn:(g:Int)∣n:=by rw[hg];exact Int.gcd_dvd_left ..
 rw[<- hg]at h1 h2 ⊢;clear hg;obtain⟨k,hk⟩:=hgn;have iA:n/(g:Int)=k:=by rw[hk];exact Int.mul_ediv_cancel_left _ oz
 have lB:k≠0:=by intro h;rw[h]at hk;simp at hk;exact hn hk
 have hs:decide (n<0)=decide (k<0):=by
  rw[decide_eq_decide,hk];constructor
  ·intro h;rcases aqu k 0 with h' |h' |h'
   ·exact h'
   ·exact atk h' lB
   ·exact atk (aqq (aqs g) (Int.le_of_lt h')) oz
  ·intro h;exact Int.mul_neg_of_pos_of_neg oz h
 have Ew:((n.natAbs:Int)/(g:Int)).natAbs=k.natAbs:=by
  rw[hk,aqv,as1];rw[show((g*k.natAbs:Nat):Int)/(g:Int)=((g*k.natAbs/g:Nat):Int) by exact(aqw _ _).symm];rw[Nat.mul_div_cancel_left _ qH];omega
 have hda:(d/(g:Int)).natAbs=d.natAbs/g:=by
  have:d=(d.natAbs:Int):=by omega
  rw[this,<- aqw,as1,as1]
 unfold qA rt Rt.av;rw[h1,h2,iA,Ew,hda,hs];dsimp only;rw[atd lB]
theorem Oa(n d:Int):aq3 (-n) (-d)=aq3 n d:=Rat.neg_divInt_neg n d
theorem Jf(p q:Rat):aq3 (p.num*q.den+q.num*p.den) ((p.den:Int)*q.den)=p+q:=by
 rw[<- Rat.divInt_add_divInt _ _ (by have:=p.den_nz;omega) (by have:=q.den_nz;omega),aq1,aq1]
theorem Hy(p q:Rat):aq3 (p.num*q.num) ((p.den:Int)*q.den)=p*q:=by
 rw[<- Rat.divInt_mul_divInt,aq1,aq1]
theorem Q7(p:Rat):aq3 (-p.num) p.den=-p:=by
 rw[<- Rat.neg_num,<- Rat.neg_den,aq1]
theorem G9(p q:Rat):aq3 (p.num*q.den) ((p.den:Int)*q.num)=p/q:=by
 rw[Rat.div_def,<- Rat.divInt_mul_divInt,aq1];congr 1;rw[<- Rat.inv_divInt,aq1]
theorem WD(p:Rat):p.num<0↔p<0:=by
 rw[Rat.lt_iff];simp
theorem agj(p:Rat):0<p.num↔0<p:=by
 rw[Rat.lt_iff];simp
def a9(p:Rat):Int:=if p<0 then -1 else if 0<p then 1 else 0
theorem Nv(p:Rat):p.num.sign=a9 p:=by
 unfold a9
 by_cases h:p<0
 ·rw[ate h];exact aqr.2 ((WD p).2 h)
 ·rw[atd h]
  by_cases h':0<p
  ·rw[ate h'];exact aqt.2 ((agj p).2 h')
  ·rw [atd h'];have:p = 0:=by grind
   rw[this];rfl
theorem aax(p q:Rat):a9 (p-q)=if p<q then -1 else if q<p then 1 else 0:=by
 unfold a9
 by_cases h:p<q
 ·rw[ate h,ate (by grind)]
 ·rw [atd h, atd (by grind)]
  by_cases h':q<p
  ·rw[ate h',ate (by grind)]
  ·rw[atd h',atd (by grind)]
theorem Y9(p q:Rat):jE (p.num*q.den) (q.num*p.den)=a9 (p-q):=by
 rw[aax];unfold jE;simp only[Rat.lt_iff]
theorem Zf{n d:Int}(hd:0<d)(hn:n≠0) :
  AV.agg [bl (decide (n/(aqn n d:Int)<0)),ws (ofNat ((n/(aqn n d:Int)).natAbs)),ws (ofNat ((d/(aqn n d:Int)).natAbs))]=qA (aq3 n d):=by
 obtain⟨h1,h2⟩:=Q9 hd hn
 have h3:(d/(aqn n d:Int)).natAbs=d.natAbs/aqn n d:=by
  have:d=(d.natAbs:Int):=by omega
  generalize aqn n d=g;rw[this,<- aqw,as1,as1]
 have h4:n/(aqn n d:Int)≠0:=by
  rw[<- h1];intro h
  have h5:=aq6.1 h;have h6:=(Rat.divInt_eq_divInt_iff (show d≠0 by omega) (show(1:Int)≠0 by decide)).1 (h5.trans (Rat.zero_divInt 1).symm);omega
 unfold qA rt Rt.av;rw[h1,h2,h3];dsimp only;rw[atd h4]
def Qb(e:Nat)(q:Rat):Prop:=q.num.natAbs<2^e/\q.den<2^e
theorem Qb.mono{e f:Nat}{q:Rat}(h:Qb e q)(hf:e<=f):Qb f q :=
 ⟨asp h.1 (aok oz hf),asp h.2 (aok oz hf)⟩
theorem Qb.qs{e:Nat}{q:Rat}(h:Qb e q)(he:e<=4398046511104):Qs q:=by
 have h2:(4294967296:Nat)=2^32:=by decide
 have h3:∀x,x<2^e->x<4294967296^(e/32+1):=by
  intro x hx;rw[h2,<- ao3];exact asp hx (aok oz oz)
 by_cases h4:e=4398046511104
 ·obtain⟨k,hk⟩:∃k,k=137438953472:=⟨_,rfl⟩
  refine⟨k,by unfold iu;omega,?_,?_⟩
  ·unfold Lz;have:=h.1;rw[h2,<- ao3];exact asp this (aok oz oz)
  ·unfold Lz;have:=h.2;rw[h2,<- ao3];exact asp this (aok oz oz)
 ·exact⟨e/32+1,by unfold iu;omega,h3 _ h.1,h3 _ h.2⟩
theorem Qb.neg{e:Nat}{q:Rat}(h:Qb e q):Qb e (-q):=by
 refine⟨?_,?_⟩
 ·rw[Rat.neg_num,Int.natAbs_neg];exact h.1
 ·rw[Rat.neg_den];exact h.2
theorem Bt{n d:Int}(h0:d≠0):(aq3 n d).num.natAbs<=n.natAbs/\(aq3 n d).den<=d.natAbs:=by
 constructor
 ·rw[Rat.num_divInt]
  have h1:(d.sign*n).natAbs=n.natAbs:=by
   rw[aqv,Int.natAbs_sign_of_ne_zero h0,Nat.one_mul]
  rw[<- h1];exact Int.natAbs_ediv_le_natAbs _ _
 ·rw[Rat.den_divInt,atd h0];exact aop _ _
theorem Qb.mul{e f:Nat}{p q:Rat}(h:Qb e p)(h':Qb f q):Qb (e+f) (p*q):=by
 rw[<- Hy];have h0:((p.den:Int)*q.den)≠0:=aqm (by have:=p.den_nz;omega) (by have:=q.den_nz;omega);obtain⟨h1,h2⟩:=Bt (n:=p.num*q.num) h0;refine⟨asw h1 ?_,asw h2 ?_⟩
 ·rw[aqv,as6];exact apb h.1 h'.1
 ·rw[aqv,as6,as1,as1];exact apb h.2 h'.2
theorem Qb.add{e f:Nat}{p q:Rat}(h:Qb e p)(h':Qb f q):Qb (e+f+1) (p+q):=by
 rw[<- Jf];have h0:((p.den:Int)*q.den)≠0:=aqm (by have:=p.den_nz;omega) (by have:=q.den_nz;omega);obtain⟨h1,h2⟩:=Bt (n:=p.num*q.den+q.num*p.den) h0;refine⟨asw h1 ?_,asw h2 ?_⟩
 ·have h3:=Int.natAbs_add_le (p.num*q.den) (q.num*p.den);rw[aqv,aqv,as1,as1]at h3;have h4:=apb h.1 h'.2;have h5:=apb h'.1 h.2;rw[ao1,as6];rw[aog (2^f)]at h5;omega
 ·rw[aqv,as1,as1,ao1,as6];have:=apb h.2 h'.2;omega
theorem Qb.sub{e f:Nat}{p q:Rat}(h:Qb e p)(h':Qb f q):Qb (e+f+1) (p-q):=by
 rw[aq5];exact h.add h'.neg
theorem Qb.div{e f:Nat}{p q:Rat}(h:Qb e p)(h':Qb f q):Qb (e+f) (p/q):=by
 by_cases h0:q=0
 ·subst h0;rw[Rat.div_def,Rat.inv_zero,Rat.mul_zero];have h1:0<2^e:=aoe e;have h2:=h.2;have h3:=p.den_nz;refine⟨?_,?_⟩
  ·exact aoe _
  ·show 1<2^(e+f);have:2^e<=2^(e+f):=aok oz oz;omega
 ·rw [<- G9];have h0':((p.den:Int) * q.num) ≠ 0:=aqm (by have:=p.den_nz; omega) (fun h=>h0 (aq6.1 h));obtain ⟨h1,h2⟩:=Bt (n:=p.num * q.den) h0';refine ⟨asw h1 ?_,asw h2 ?_⟩
  ·rw[aqv,as6,as1];exact apb h.1 h'.2
  ·rw[aqv,as6,as1];exact apb h.2 h'.1
theorem Qb.zero:Qb 1 0:=⟨by decide,by decide⟩
theorem Qb.one:Qb 1 1:=⟨by decide,by decide⟩
theorem Rt.qb{r:Rt}{k:Nat}(h:r.ok)(hk:1<=k)(hn:r.num.length<=k)(hd:r.den.length<=k):Qb (32*k) r.q:=by
 have hB:∀{l:List Nat},Ws l->l.length<=k->val l<2^(32*k):=by
  intro l hw hl;have h1:=co l hw;have h2:(4294967296:Nat)=2^32:=by decide
  rw[h2,<- ao3]at h1;exact asp h1 (aok oz oz)
 by_cases h0:r.valid=true/\r.num≠[]
 ·obtain⟨h1,h2,h3,h4,h5,h6⟩:=Rt.parts h h0.1 h0.2;refine⟨?_,?_⟩
  ·have : r.q.num.natAbs = val r.num := by rw [h1]; unfold sgn; split <;> omega
   rw[this];exact hB h.1 hn
  ·rw[h2];exact hB h.2.1 hd
 ·rw[Rt.zero h0];exact Qb.zero.mono oz
theorem YI{r:Rt}(h0:¬(r.num=[]/\r.den=[])) :
  r.valid=cond (cond (!decide (r.num=[])&&(⟨false,r.num⟩:Wh).valid) (!decide (r.den=[])&&(⟨false,r.den⟩:Wh).valid) false) (aa .eql (jE (aqn r.n0.z r.d0.z) 1) 0) false:=by
 by_cases h1:r.num=[]
 ·unfold Rt.valid;rw[atd h0,ate (.inl h1)];simp[h1]
 ·by_cases h2:r.den=[]
  ·unfold Rt.valid;rw[atd h0,ate (.inr h2)];simp[h2]
  ·have e1 : aa .eql (r.num.length : Int) 0 = false := by simp [aa, h1]
   have e2:aa .eql (r.den.length:Int) 0=false:=by simp[aa,h2]
   have n0:(⟨false,r.num⟩:Wh)=r.n0:=rfl;have d0:(⟨false,r.den⟩:Wh)=r.d0:=rfl;rw[n0,d0];cases hv:r.n0.valid
   ·rw[E5 h0 (by simp[hv,e1,e2])];simp
   ·cases hw:r.d0.valid
    ·rw[E5 h0 (by simp[hv,hw,e1,e2])];simp
    ·rw[RZ h0 (by simp[hv,hw,e1,e2])];simp[h1,h2]
theorem Con.sA{P:atq}{f:FuncId}{args args':List AV}{H H':Hp}{r:AV}(h:SubL args' args)(hc:Con P f args H r H'):Con P f args' H r H':=by
 refine⟨hc.ok,?_⟩;intro ext m w vs hext ch cV db;refine hc.ret ext m w vs hext ch (by rw[cV,h.len]) (fun j v x hv hx=>?_);obtain⟨y,hy⟩:=lc h.len.symm hx;exact h.get j y x hy hx _ _ _ _ (db j v y hv hy)
@[reducible] def T:Nat->Type
  |0=>Rat
  |k+1=>T k×T k
namespace T
def zero:(k:Nat)->T k
  |0=>(0:Rat)
  |k+1=>(zero k,zero k)
def ofQ:(k:Nat)->Rat->T k
  |0,q=>q
  |k+1,q=>(ofQ k q,zero k)
def add:(k:Nat)->T k->T k->T k
  |0,x,y=>Rat.add x y
  |k+1,x,y=>(add k x.1 y.1,add k x.2 y.2)
def neg:(k:Nat)->T k->T k
  |0,x=>Rat.neg x
  |k+1,x=>(neg k x.1,neg k x.2)
def mul(r:(k:Nat)->T k):(k:Nat)->T k->T k->T k
  |0,x,y=>Rat.mul x y
  |k+1,x,y=>(add k (mul r k x.1 y.1) (mul r k (mul r k x.2 y.2) (r k)),add k (mul r k x.1 y.2) (mul r k x.2 y.1))
def norm(r:(k:Nat)->T k)(k:Nat)(x:T (k+1)):T k:=add k (mul r k x.1 x.1) (neg k (mul r k (mul r k x.2 x.2) (r k)))
def sgn3(sx sy sd sn:Int):Int:=if sd=0 then sx else if sx=sy\/sy=0 then sx else if sx=0 then sy else sx*sn
def sgn(r:(k:Nat)->T k):(k:Nat)->T k->Int
  |0,x=>a9 x
  |k+1,x=>sgn3 (sgn r k x.1) (sgn r k x.2) (sgn r k (r k)) (sgn r k (norm r k x))
theorem add_zero:∀(k:Nat)(x:T k),add k x (zero k)=x
 |0,x=>Rat.add_zero x
 |k+1,x=>by simp only[add,zero,add_zero k]
theorem zero_add:∀(k:Nat)(x:T k),add k (zero k) x=x
 |0,x=>Rat.zero_add x
 |k+1,x=>by simp only[add,zero,zero_add k]
theorem add_comm:∀(k:Nat)(x y:T k),add k x y=add k y x
 |0,x,y=>Rat.add_comm x y
 |k+1,x,y=>by simp only[add,add_comm k x.1,add_comm k x.2]
theorem add_assoc:∀(k:Nat)(x y z:T k),add k (add k x y) z=add k x (add k y z)
 |0,x,y,z=>Rat.add_assoc x y z
 |k+1,x,y,z=>by simp only[add,add_assoc k]
theorem RC:∀(k:Nat),neg k (zero k)=zero k
 |0=>by show -(0:Rat)=0;grind
 |k+1=>by simp only[neg,zero,RC k]
theorem add_neg:∀(k:Nat)(x:T k),add k x (neg k x)=zero k
 |0,x=>by show(x:Rat)+-x=0;grind
 |k+1,x=>by simp only[add,neg,zero,add_neg k]
theorem zero_mul(r:(k:Nat)->T k):∀(k:Nat)(x:T k),mul r k (zero k) x=zero k
 |0,x=>Rat.zero_mul x
 |k+1,x=>by simp only[mul,zero,zero_mul r k,add_zero]
theorem mul_zero(r:(k:Nat)->T k):∀(k:Nat)(x:T k),mul r k x (zero k)=zero k
 |0,x=>Rat.mul_zero x
 |k+1,x=>by
  simp only[mul,zero,mul_zero r k,add_zero]
  have h:mul r k (zero k) (r k)=zero k:=by
   have:=zero_mul r k (r k);exact this
  rw[h];simp only[add_zero]
theorem mul_comm(r:(k:Nat)->T k):∀(k:Nat)(x y:T k),mul r k x y=mul r k y x
 |0,x,y=>Rat.mul_comm x y
 |k+1,x,y=>by
  simp only[mul];rw[mul_comm r k x.1 y.1,mul_comm r k x.2 y.2,mul_comm r k x.1 y.2,mul_comm r k x.2 y.1,add_comm k (mul r k y.2 x.1)]
theorem sgn_zero(r:(k:Nat)->T k):∀k,sgn r k (zero k)=0
 |0=>rfl
 |k+1=>by
  simp only[sgn,zero,sgn_zero r k,sgn3];split
  ·rfl
  ·simp
theorem sgn_low(r:(k:Nat)->T k)(k:Nat)(x:T k):sgn r (k+1) (x,zero k)=sgn r k x:=by
 simp only[sgn,sgn_zero,sgn3];split
 ·rfl
 ·simp
theorem sgnQ_cases(q:Rat):a9 q=-1\/a9 q=0\/a9 q=1:=by
 unfold a9;split
 ·exact .inl rfl
 ·split
  ·exact .inr (.inr rfl)
  ·exact .inr (.inl rfl)
theorem sgn_cases(r:(k:Nat)->T k):∀(k:Nat)(x:T k),sgn r k x=-1\/sgn r k x=0\/sgn r k x=1
 |0,x=>sgnQ_cases x
 |k+1,x=>by
  simp only[sgn,sgn3];have h1:=sgn_cases r k x.1;have h2:=sgn_cases r k x.2;have h4:=sgn_cases r k (norm r k x);split
  ·exact h1
  ·split
   ·exact h1
   ·split
    ·exact h2
    ·rcases h1 with h |h |h <;> rcases h4 with h' |h' |h' <;> rw[h,h'] <;> simp
end T
def ai:(k:Nat)->List Rat->T k
  |0,l=>l.getD 0 0
  |k+1,l=>(ai k (l.take (2^k)),ai k (l.drop (2^k)))
theorem mF{l:List Rat}{n i:Nat}:(l.take n).getD i 0=if i<n then l.getD i 0 else 0:=by
 simp only[ar2,asy];split <;> simp
theorem nT{l:List Rat}{n i:Nat}:(l.drop n).getD i 0=l.getD (n+i) 0:=by
 simp only[ar2,as3]
theorem yv:∀(k:Nat){a b:List Rat},(∀i,i<2^k->a.getD i 0=b.getD i 0)->ai k a=ai k b
 |0,a,b,h=>h 0 (by decide)
 |k+1,a,b,h=>by
  have h1:=yv k (a:=a.take (2^k)) (b:=b.take (2^k)) (fun i hi=>by rw[mF,mF,ate hi,ate hi];exact h i (by rw[ao1];omega));have h2:=yv k (a:=a.drop (2^k)) (b:=b.drop (2^k)) (fun i hi=>by rw[nT,nT];exact h _ (by rw[ao1];omega));simp only[ai,h1,h2]
theorem GP:∀(k:Nat){a b c:List Rat},(∀i,i<2^k->c.getD i 0=a.getD i 0+b.getD i 0)->ai k c=T.add k (ai k a) (ai k b)
 |0,a,b,c,h=>h 0 (by decide)
 |k+1,a,b,c,h=>by
  have h1:=GP k (a:=a.take (2^k)) (b:=b.take (2^k)) (c:=c.take (2^k)) (fun i hi=>by rw[mF,mF,mF,ate hi,ate hi,ate hi];exact h i (by rw[ao1];omega));have h2:=GP k (a:=a.drop (2^k)) (b:=b.drop (2^k)) (c:=c.drop (2^k)) (fun i hi=>by rw[nT,nT,nT];exact h _ (by rw[ao1];omega));simp only[ai,T.add,h1,h2]
theorem GX:∀(k:Nat){a c:List Rat},(∀i,i<2^k->c.getD i 0=-a.getD i 0)->ai k c=T.neg k (ai k a)
 |0,a,c,h=>h 0 (by decide)
 |k+1,a,c,h=>by
  have h1:=GX k (a:=a.take (2^k)) (c:=c.take (2^k)) (fun i hi=>by rw[mF,mF,ate hi,ate hi];exact h i (by rw[ao1];omega));have h2:=GX k (a:=a.drop (2^k)) (c:=c.drop (2^k)) (fun i hi=>by rw[nT,nT];exact h _ (by rw[ao1];omega));simp only[ai,T.neg,h1,h2]
theorem Ek:∀(k:Nat){a:List Rat},(∀i,i<2^k->a.getD i 0=0)->ai k a=T.zero k
 |0,a,h=>h 0 (by decide)
 |k+1,a,h=>by
  have h1:=Ek k (a:=a.take (2^k)) (fun i hi=>by rw[mF,ate hi];exact h i (by rw[ao1];omega));have h2:=Ek k (a:=a.drop (2^k)) (fun i hi=>by rw[nT];exact h _ (by rw[ao1];omega));simp only[ai,T.zero,h1,h2]
theorem BV{l:List Rat}{i:Nat}(h:l.length<=i):l.getD i 0=0:=by
 simp[ar2,asg h]
theorem rz(k:Nat):ai k []=T.zero k:=Ek k (fun i _=>by simp)
theorem mH{k:Nat}{a:List Rat}(h:a.length<=2^k):ai (k+1) a=(ai k a,T.zero k):=by
 have h1:a.take (2^k)=a:=asn h;have h2:a.drop (2^k)=[]:=as0 h;simp only[ai,h1,h2,rz]
theorem tT(k:Nat)(q:Rat):ai k [q]=T.ofQ k q:=by
 induction k with
 |zero=>rfl
 |succ k ih=>rw[mH (by simp;exact Nat.one_le_two_pow),ih];rfl
def bY(a:List Rat)(n:Nat):List Rat:=a++apf (n-a.length) 0
def ek(a b:List Rat):List Rat:=List.zipWith (·+·) (bY a (max a.length b.length)) (bY b (max a.length b.length))
def fB(a:List Rat):List Rat:=a.map (- ·)
def ib(a b:List Rat)(n:Nat):List Rat:=bY a n++bY b n
def bF(a:List Rat):Bool:=a.all (fun q=>decide (q=0))
theorem jr{a:List Rat}{n:Nat}(h:a.length<=n):(bY a n).length=n:=by simp[bY];omega
theorem jc{a b:List Rat}:(ek a b).length=max a.length b.length:=by
 simp only[ek,List.length_zipWith];rw[jr oz,jr oz];omega
theorem mR{a:List Rat}:(fB a).length=a.length:=by simp[fB]
theorem u9{a b:List Rat}{n:Nat}(h:a.length<=n)(h':b.length<=n):(ib a b n).length=n+n:=by simp[ib,jr h,jr h']
theorem s9{a:List Rat}{n i:Nat}:(bY a n).getD i 0=a.getD i 0:=by
 simp only[bY,ar2]
 by_cases h:i<a.length
 ·rw[asq h]
 ·rw[asm oz,asg (l:=a) oz,ast];split <;> rfl
theorem RP{a b:List Rat}{i:Nat}:(ek a b).getD i 0=a.getD i 0+b.getD i 0:=by
 by_cases h:i<max a.length b.length
 ·have e:(ek a b).getD i 0=(bY a (max a.length b.length)).getD i 0+(bY b (max a.length b.length)).getD i 0:=by
   have ha:i<(bY a (max a.length b.length)).length:=by rw[jr oz];exact h
   have hb:i<(bY b (max a.length b.length)).length:=by rw[jr oz];exact h
   simp only[ek,ar2,List.getElem?_zipWith,ar7 ha,ar7 hb,ary]
  rw[e,s9,s9]
 ·rw[BV (by rw[jc];omega),BV oz,BV oz,Rat.add_zero]
theorem L8{a:List Rat}{i:Nat}:(fB a).getD i 0=-a.getD i 0:=by
 simp only[fB,ar2,asa];cases a[i]? with
 |none=>show(0:Rat)=-0;grind
 |some x=>rfl
theorem Q8{a b:List Rat}{n i:Nat}(h:a.length<=n):(ib a b n).getD i 0=if i<n then a.getD i 0 else b.getD (i-n) 0:=by
 have hl:=jr h;simp only[ib];split
 ·rw[<- s9 (a:=a) (n:=n),ar2,ar2,asq oz]
 ·rw[<- s9 (a:=b) (n:=n),ar2,ar2,asm oz,hl]
theorem PA(k:Nat){a:List Rat}{n:Nat}:ai k (bY a n)=ai k a:=yv k (fun i _=>s9)
theorem qj(k:Nat){a b:List Rat}:ai k (ek a b)=T.add k (ai k a) (ai k b):=GP k (fun i _=>RP)
theorem wa(k:Nat){a:List Rat}:ai k (fB a)=T.neg k (ai k a):=GX k (fun i _=>L8)
theorem GI{k:Nat}{a b:List Rat}(h:a.length<=2^k):ai (k+1) (ib a b (2^k))=(ai k a,ai k b):=by
 have h1:ai k ((ib a b (2^k)).take (2^k))=ai k a:=yv k (fun i hi=>by rw[mF,ate hi,Q8 h,ate hi]);have h2:ai k ((ib a b (2^k)).drop (2^k))=ai k b:=yv k (fun i hi=>by rw[nT,Q8 h,atd oz];congr 1;omega);simp only[ai,h1,h2]
theorem FS{k:Nat}{a:List Rat}(h:bF a=true):ai k a=T.zero k:=by
 refine Ek k (fun i _=>?_);rw[ar2];cases hx:a[i]? with
 |none=>rfl
 |some x =>
  have:=asd.1 h x (ar1 hx);simpa using this
def Nl(k:Nat)(a:List Rat):Prop:=a=[]\/∃j,j<=k/\a.length=2^j
theorem Nl.le{k:Nat}{a:List Rat}(h:Nl k a):a.length<=2^k:=by
 rcases h with rfl |⟨j,hj,h⟩
 ·simp
 ·rw[h];exact aok oz hj
theorem Nl.mono{k l:Nat}{a:List Rat}(h:Nl k a)(hl:k<=l):Nl l a:=by
 rcases h with h |⟨j,hj,h⟩
 ·exact .inl h
 ·exact .inr ⟨j,by omega,h⟩
def aI(ts:LL)(k:Nat):T k:=ai k (ts.getD k [])
def pT(ts:LL):Nat->List Rat->List Rat->List Rat
  |k,a,b =>
    let x:=if a.length<b.length then b else a
    let y:=if a.length<b.length then a else b
    if bF x||bF y then[]else if x.length=1 then[x.getD 0 0*y.getD 0 0]
    else match k with
      |0=>[]
      |k+1 =>
        if y.length<=x.length/2 then ib (pT ts k (x.take (x.length/2)) y) (pT ts k (x.drop (x.length/2)) y) (x.length/2)
        else ib (ek (pT ts k (x.take (x.length/2)) (y.take (x.length/2))) (pT ts k (pT ts k (x.drop (x.length/2)) (y.drop (x.length/2))) (ts.getD (x.length.log2-1) [])))
          (ek (pT ts k (x.take (x.length/2)) (y.drop (x.length/2))) (pT ts k (x.drop (x.length/2)) (y.take (x.length/2)))) (x.length/2)
theorem T.mul_low(r:(k:Nat)->T k)(k:Nat)(x u:T k):T.mul r (k+1) (x,T.zero k) (u,T.zero k)=(T.mul r k x u,T.zero k):=by
 simp only[T.mul,T.mul_zero,T.zero_mul,T.add_zero]
theorem T.mul_half(r:(k:Nat)->T k)(k:Nat)(x y u:T k):T.mul r (k+1) (x,y) (u,T.zero k)=(T.mul r k x u,T.mul r k y u):=by
 simp only[T.mul,T.mul_zero,T.zero_mul,T.add_zero,T.zero_add]
theorem T.mul_ofQ(r:(k:Nat)->T k):∀(k:Nat)(p q:Rat),T.mul r k (T.ofQ k p) (T.ofQ k q)=T.ofQ k (p*q)
 |0,p,q=>rfl
 |k+1,p,q=>by simp only[T.ofQ];rw[T.mul_low,T.mul_ofQ r k]
theorem ah8:bF []=true:=rfl
theorem O2(j:Nat):(2^(j+1)).log2-1=j:=by rw[Nat.log2_two_pow];omega
theorem my{j:Nat}{a:List Rat}(h:a.length=2^(j+1)):(a.take (2^j)).length=2^j:=by
 simp[h,ao1];omega
theorem nO{j:Nat}{a:List Rat}(h:a.length=2^(j+1)):(a.drop (2^j)).length=2^j:=by
 simp[h,ao1];omega
theorem oO(j:Nat):2^(j+1)/2=2^j:=by rw[ao1];omega
theorem H1(ts:LL)(k:Nat)(a b:List Rat)(h:a.length<b.length):pT ts k a b=pT ts k b a:=by
 unfold pT;simp only[ate h,atd (show ¬b.length<a.length by omega)]
theorem Pw(ts:LL)(Q:Nat->List Rat->List Rat->List Rat->Prop)
  (Ub:∀j a b c,Q j a b c->Q j b a c)
  (gN:∀j a b,Nl j a->Nl j b->(bF a=true\/bF b=true)->Q j a b [])
  (qI:∀j p q,Q j [p] [q] [p*q])
  (EC:∀j a b c,Nl j a->Nl j b->Q j a b c->Q (j+1) a b c)
  (ana:∀j a b c d,a.length=2^(j+1)->Nl j b->Q j (a.take (2^j)) b c->Q j (a.drop (2^j)) b d->Q (j+1) a b (ib c d (2^j)))
  (anb:∀j a b c1 c2 c3 c4 c5,a.length=2^(j+1)->b.length=2^(j+1)->Q j (a.take (2^j)) (b.take (2^j)) c1->Q j (a.drop (2^j)) (b.drop (2^j)) c2 ->
   Q j c2 (ts.getD j []) c3->Q j (a.take (2^j)) (b.drop (2^j)) c4->Q j (a.drop (2^j)) (b.take (2^j)) c5->Q (j+1) a b (ib (ek c1 c3) (ek c4 c5) (2^j)))
  (cT:∀j a b c,Q j a b c->Nl j c) (m:Nat) (hr:∀j,j<m->Nl j (ts.getD j [])) :
  ∀(j k:Nat)(a b:List Rat),j<=m->j<=k->Nl j a->Nl j b->Q j a b (pT ts k a b):=by
 intro j
 induction j with
 |zero =>
  intro k a b _ _ ha hb;have oo:=ha.le;have eY:=hb.le
  have key:∀a b:List Rat,Nl 0 a->Nl 0 b->¬a.length<b.length->Q 0 a b (pT ts k a b):=by
   intro a b ha hb hlt;have oo:=ha.le;have eY:=hb.le;unfold pT;simp only[atd hlt];split
   ·rename_i h;rw[ata]at h;exact gN 0 a b ha hb h
   ·rename_i h;simp only [ata,not_or,Bool.not_eq_true] at h;have h1:a ≠ []:=fun h'=>by rw [h'] at h; cases h.1
    have h2:b≠[]:=fun h'=>by rw[h']at h;cases h.2
    obtain⟨p,rfl⟩:∃p,a=[p]:=ap1.1 (by have:=aqb.2 h1;omega);obtain⟨q,rfl⟩:∃q,b=[q]:=ap1.1 (by have:=aqb.2 h2;omega);simp only[asi,asu,if_true];exact qI 0 p q
  by_cases hlt:a.length<b.length
  ·rw[H1 ts k a b hlt];exact Ub _ _ _ _ (key b a hb ha oz)
  ·exact key a b ha hb hlt
 |succ j ih =>
  intro k a b Uc oq ha hb
  have key:∀a b:List Rat,Nl (j+1) a->Nl (j+1) b->¬a.length<b.length->Q (j+1) a b (pT ts k a b):=by
   intro a b ha hb hlt
   by_cases hs:Nl j a
   ·have j4:Nl j b:=by
     rcases hb with rfl |⟨i,hi,h⟩
     ·exact .inl rfl
     ·by_cases e8:i<=j
      ·exact .inr ⟨i,e8,h⟩
      ·have h1:=hs.le;have h2:2^(j+1)<=2^i:=aok oz oz;rw[ao1]at h2;have:=aoe j;omega
    exact EC j a b _ hs j4 (ih k a b oz oz hs j4)
   ·have bG:a.length=2^(j+1):=by
     rcases ha with rfl |⟨i,hi,h⟩
     ·exact atk (.inl rfl) hs
     ·by_cases e8:i<=j
      ·exact atk (.inr ⟨i,e8,h⟩) hs
      ·rw[h,show i=j+1 by omega]
    obtain⟨k,rfl⟩:∃k',k=k'+1:=⟨k-1,by omega⟩
    have h2j:=aoe j;have hx:Nl j (a.take (2^j)):=.inr ⟨j,ar8 _,my bG⟩;have hy:Nl j (a.drop (2^j)):=.inr ⟨j,ar8 _,nO bG⟩;unfold pT;simp only[atd hlt];split
    ·rename_i h;rw[ata]at h;exact gN _ a b ha hb h
    ·rename_i h;simp only [ata,not_or,Bool.not_eq_true] at h;rw [atd (by rw [bG,ao1]; omega)];simp only [bG,oO,O2];split
     ·rename_i qJ
      have j4:Nl j b:=by
       rcases hb with rfl |⟨i,hi,h'⟩
       ·exact .inl rfl
       ·by_cases e8:i<=j
        ·exact .inr ⟨i,e8,h'⟩
        ·have h2:2^(j+1)<=2^i:=aok oz oz;rw[ao1]at h2;omega
      exact ana j a b _ _ bG j4 (ih k _ _ oz oz hx j4) (ih k _ _ oz oz hy j4)
     ·rename_i qJ
      have JO:b.length=2^(j+1):=by
       rcases hb with rfl |⟨i,hi,h'⟩
       ·simp at qJ
       ·by_cases e8:i<=j
        ·have:2^i<=2^j:=aok oz e8;omega
        ·rw[h',show i=j+1 by omega]
      have hu:Nl j (b.take (2^j)):=.inr ⟨j,ar8 _,my JO⟩;have hv:Nl j (b.drop (2^j)):=.inr ⟨j,ar8 _,nO JO⟩;have h2:=ih k _ _ oz oz hy hv;exact anb j a b _ _ _ _ _ bG JO (ih k _ _ oz oz hx hu) h2 (ih k _ _ oz oz (cT _ _ _ _ h2) (hr j oz)) (ih k _ _ oz oz hx hv) (ih k _ _ oz oz hy hu)
  by_cases hlt:a.length<b.length
  ·rw[H1 ts k a b hlt];exact Ub _ _ _ _ (key b a hb ha oz)
  ·exact key a b ha hb hlt
theorem iX(ts:LL)(m:Nat)(hr:∀j,j<m->Nl j (ts.getD j []))(j k:Nat)(a b:List Rat)(hj:j<=m)(hk:j<=k)(ha:Nl j a)(hb:Nl j b) :
  Nl j (pT ts k a b)/\ai j (pT ts k a b)=T.mul (aI ts) j (ai j a) (ai j b):=by
 refine Pw ts (fun j a b c=>Nl j c/\ai j c=T.mul (aI ts) j (ai j a) (ai j b)) ?_ ?_ ?_ ?_ ?_ ?_ (fun _ _ _ _ h=>h.1) m hr j k a b hj hk ha hb
 ·intro j a b c h;exact⟨h.1,by rw[h.2,T.mul_comm]⟩
 ·intro j a b ha hb h;refine⟨.inl rfl,?_⟩;rw[rz];rcases h with h |h
  ·rw[FS h,T.zero_mul]
  ·rw[FS h,T.mul_zero]
 ·intro j p q;exact⟨.inr ⟨0,ase _,rfl⟩,by rw[tT,tT,tT,T.mul_ofQ]⟩
 ·intro j a b c ha hb h;refine⟨h.1.mono oz,?_⟩;rw[mH ha.le,mH hb.le,mH h.1.le,T.mul_low,h.2]
 ·intro j a b c d ha hb hc hd;refine⟨.inr ⟨j+1,ar8 _,?_⟩,?_⟩
  ·rw[u9 hc.1.le hd.1.le,ao1];omega
  ·rw[GI hc.1.le,mH hb.le,hc.2,hd.2];simp only[ai];rw[T.mul_half]
 ·intro j a b c1 c2 c3 c4 c5 ha hb h1 h2 h3 h4 h5;refine⟨.inr ⟨j+1,ar8 _,?_⟩,?_⟩
  ·have l1:=h1.1.le;have l3:=h3.1.le;have l4:=h4.1.le;have l5:=h5.1.le;rw[u9 (by rw[jc];omega) (by rw[jc];omega),ao1];omega
  ·have l1:=h1.1.le;have l3:=h3.1.le;rw[GI (by rw[jc];omega),qj,qj,h1.2,h3.2,h4.2,h5.2,h2.2];rfl
def gM:Nat->List Rat->List Rat
  |0,a=>if bF a then[]else a
  |j+1,a=>if bF (a.drop (2^j))then gM j (a.take (2^j))else a
def T.isZ:(k:Nat)->T k->Bool
  |0,q=>decide ((q:Rat)=0)
  |k+1,x=>isZ k x.1&&isZ k x.2
theorem T.isZ_iff:∀(k:Nat)(x:T k),T.isZ k x=true↔x=T.zero k
 |0,x=>by simp only[T.isZ,atf];rfl
 |k+1,x=>by
  simp only[T.isZ,ar5,T.isZ_iff k,T.zero];constructor
  ·intro h;exact Prod.ext h.1 h.2
  ·intro h;rw[h];exact⟨rfl,rfl⟩
def enc:(k:Nat)->T k->List Rat
  |0,q=>[q]
  |k+1,x=>enc k x.1++enc k x.2
def sh:(k:Nat)->T k->List Rat
  |0,q=>if(q:Rat)=0 then[]else[q]
  |k+1,x=>if T.isZ k x.2 then sh k x.1 else enc k x.1++enc k x.2
theorem rQ:∀(k:Nat)(x:T k),(enc k x).length=2^k
 |0,x=>rfl
 |k+1,x=>by simp only[enc,asx,rQ k];rw[ao1];omega
theorem Cl:∀(k:Nat)(x:T k),ai k (enc k x)=x
 |0,x=>rfl
 |k+1,x=>by
  simp only[enc,ai]
  rw [apq (by rw [rQ]; exact ar8 _), asn (by rw [rQ]; exact ar8 _), ap0 (by rw [rQ]; exact ar8 _),
   as0 (by rw[rQ];exact ar8 _),nil_append,Cl k,Cl k]
theorem vA:∀(k:Nat)(a:List Rat),a.length=2^k->enc k (ai k a)=a
 |0,a,h=>by
  obtain⟨p,rfl⟩:=ap1.1 h;rfl
 |k+1,a,h=>by
  simp only[enc,ai];rw[vA k _ (my h),vA k _ (nO h),aqe]
theorem ac9{k:Nat}{a:List Rat}(h:a.length<=2^k):bF a=T.isZ k (ai k a):=by
 rw[aq8,T.isZ_iff];constructor
 ·exact FS
 ·intro h0;have h1:enc k (ai k (bY a (2^k)))=bY a (2^k):=vA k _ (jr h);rw[PA,h0]at h1
  have h2:∀k,bF (enc k (T.zero k))=true:=by
   intro k
   induction k with
   |zero=>rfl
   |succ k ih=>simp only[enc,T.zero,bF,all_append,ar5]at ih ⊢;exact⟨ih,ih⟩
  have h3:=h2 k;rw[h1]at h3;simp only[bF,bY,all_append,ar5]at h3;exact h3.1
theorem IX:∀(k:Nat){a:List Rat},Nl k a->gM k a=sh k (ai k a)
 |0,a,h=>by
  have hl:=h.le;simp only[gM,sh]
  match a,hl with
  |[],_=>rfl
  |[p],_=>simp[bF,ai]
 |k+1,a,h=>by
  have hl:=h.le;have h1:(a.drop (2^k)).length<=2^k:=by simp;rw[ao1]at hl;omega
  have e1:gM (k+1) a=if bF (a.drop (2^k))=true then gM k (a.take (2^k))else a:=rfl;have e2:∀x y:T k,sh (k+1) (x,y)=if T.isZ k y=true then sh k x else enc k x++enc k y:=fun _ _=>rfl
  rw[e1,show ai (k+1) a=(ai k (a.take (2^k)),ai k (a.drop (2^k)))from rfl,e2,ac9 h1]
  by_cases hz:T.isZ k (ai k (a.drop (2^k)))=true
  ·rw[ate hz,ate hz];refine IX k ?_;rcases h with rfl |⟨j,hj,h⟩
   ·exact .inl (by simp)
   ·by_cases oq:j<=k
    ·rw[asn (by rw[h];exact aok oz oq)];exact .inr ⟨j,oq,h⟩
    ·exact .inr ⟨k,ar8 _,my (by rw[h,show j=k+1 by omega])⟩
  ·rw[atd hz,atd hz]
   have cm:a.length=2^(k+1):=by
    rcases h with rfl |⟨j,hj,h⟩
    ·exfalso;apply hz
     rw[List.drop_nil,T.isZ_iff,rz]
    ·by_cases oq:j<=k
     ·exfalso;apply hz
      rw[as0 (by rw[h];exact aok oz oq),T.isZ_iff,rz]
     ·rw[h,show j=k+1 by omega]
   rw[vA k _ (my cm),vA k _ (nO cm),aqe]
theorem iI:∀(k:Nat)(x:T k),Nl k (sh k x)
 |0,q=>by
  simp only[sh];split
  ·exact .inl rfl
  ·exact .inr ⟨0,ar8 _,rfl⟩
 |k+1,x=>by
  simp only[sh];split
  ·exact(iI k x.1).mono oz
  ·exact .inr ⟨k+1,ar8 _,by rw[asx,rQ,rQ,ao1];omega⟩
theorem di:∀(k:Nat)(x:T k),ai k (sh k x)=x
 |0,q=>by
  simp only[sh];split
  ·rename_i h;exact h.symm
  ·rfl
 |k+1,x=>by
  simp only[sh];split
  ·rename_i h;rw[T.isZ_iff]at h;rw[mH (iI k x.1).le,di k,<- h]
  ·exact Cl (k+1) x
theorem aj6{k:Nat}{x:T (k+1)}(h:T.isZ k x.2=false):(sh (k+1) x).length=2^(k+1):=by
 simp only[sh,h,aq9,if_false,asx,rQ];rw[ao1];omega
def Cd(D N:Nat)(l:List Rat):Prop:=0<D/\∀q∈l,∃n:Int,q*((D:Int):Rat)=(n:Rat)/\n.natAbs<=N
theorem Cd.mono{D N N':Nat}{l:List Rat}(h:Cd D N l)(hn:N<=N'):Cd D N' l :=
 ⟨h.1,fun q hq=>by obtain⟨n,h1,h2⟩:=h.2 q hq;exact⟨n,h1,by omega⟩⟩
theorem Cd.sub{D N:Nat}{l l':List Rat}(h:Cd D N l)(hs:∀q∈l',q∈l):Cd D N l':=⟨h.1,fun q hq=>h.2 q (hs q hq)⟩
theorem Cd.scale{D N c:Nat}{l:List Rat}(h:Cd D N l)(hc:0<c):Cd (D*c) (N*c) l:=by
 refine⟨apa h.1 hc,fun q hq=>?_⟩;obtain⟨n,h1,h2⟩:=h.2 q hq;refine⟨n*c,?_,?_⟩
 ·rw[Int.natCast_mul,aq0,<- Rat.mul_assoc,h1,aq0]
 ·rw[aqv,as1];exact asl _ h2
theorem Cd.nil{D N:Nat}(h:0<D):Cd D N []:=⟨h,fun q hq=>by cases hq⟩
theorem Cd.app{D N:Nat}{a b:List Rat}(h:Cd D N a)(h':Cd D N b):Cd D N (a++b) :=
 ⟨h.1,fun q hq=>by rcases ar9.1 hq with hq |hq;exact h.2 q hq;exact h'.2 q hq⟩
theorem Cd.zeros{D N n:Nat}(h:0<D):Cd D N (apf n 0) :=
 ⟨h,fun q hq=>⟨0,by rw[(List.mem_replicate.1 hq).2,Rat.zero_mul];rfl,by simp⟩⟩
theorem Cd.wide{D N n:Nat}{a:List Rat}(h:Cd D N a):Cd D N (bY a n):=h.app (Cd.zeros h.1)
theorem Cd.join{D N n:Nat}{a b:List Rat}(h:Cd D N a)(h':Cd D N b):Cd D N (ib a b n):=h.wide.app h'.wide
theorem Cd.minus{D N:Nat}{a:List Rat}(h:Cd D N a):Cd D N (fB a):=by
 refine⟨h.1,fun q hq=>?_⟩;obtain⟨p,hp,rfl⟩:=aqd.1 hq;obtain⟨n,h1,h2⟩:=h.2 p hp;refine⟨-n,?_,by omega⟩;rw[Rat.intCast_neg,<- h1,Rat.neg_mul]
theorem Cd.plus{D N N':Nat}{a b:List Rat}(h:Cd D N a)(h':Cd D N' b):Cd D (N+N') (ek a b):=by
 refine⟨h.1,fun q hq=>?_⟩;have h1:Cd D N (bY a (max a.length b.length)):=h.wide;have h2:Cd D N' (bY b (max a.length b.length)):=h'.wide;unfold ek at hq;obtain⟨i,hi,rfl⟩:=ap5.1 hq;rw[List.getElem_zipWith];obtain⟨n,e1,e2⟩:=h1.2 _ (aqh (by simp at hi;omega:i<(bY a (max a.length b.length)).length));obtain⟨m,e3,e4⟩:=h2.2 _ (aqh (by simp at hi;omega:i<(bY b (max a.length b.length)).length));refine⟨n+m,?_,by have:=Int.natAbs_add_le n m;omega⟩;rw[Rat.add_mul,e1,e3,Rat.intCast_add]
theorem Cd.mul1{D N D' N':Nat}{p q:Rat}(h:Cd D N [p])(h':Cd D' N' [q]):Cd (D*D') (N*N') [p*q]:=by
 refine⟨apa h.1 h'.1,fun x hx=>?_⟩;rw[aqf.1 hx];obtain⟨n,e1,e2⟩:=h.2 p (by simp);obtain⟨m,e3,e4⟩:=h'.2 q (by simp);refine⟨n*m,?_,by rw[aqv];exact aoz e2 e4⟩;rw[aq0,<- e1,<- e3,Int.natCast_mul,aq0];grind
theorem Cd.qb{D N e:Nat}{l:List Rat}(h:Cd D N l)(hD:D<2^e)(hN:N<2^e){q:Rat}(hq:q∈l):Qb e q:=by
 obtain⟨n,h1,h2⟩:=h.2 q hq
 have hD0:((D:Int):Rat)≠0:=by
  intro h0;have:(D:Int)=0:=aqy.1 h0;have:=h.1;omega
 have lC:q=aq3 n D:=by
  rw[Rat.divInt_eq_div,<- h1,Rat.mul_div_cancel hD0]
 have h0:=h.1;obtain⟨e1,e2⟩:=Bt (n:=n) (d:=(D:Int)) oz;rw[lC];refine⟨by omega,by rw[as1]at e2;omega⟩
def rR(D:Nat):Nat->Nat
  |0=>1
  |j+1=>rR D j*rR D j*D
def rM(D N:Nat):Nat->Nat
  |0=>1
  |j+1=>2*(rM D N j*rM D N j*(D+N))
theorem pX{D:Nat}(h:0<D):∀j,0<rR D j
 |0=>by simp[rR]
 |j+1=>apa (apa (pX h j) (pX h j)) h
theorem tX(D N:Nat):∀j,rR D j<=rM D N j
 |0=>ar8 _
 |j+1=>by
  have h1:=aoz (aoz (tX D N j) (tX D N j)) (ao8 D N);simp only[rR,rM];omega
theorem ajr(ts:LL)(m D N:Nat)(ED:∀j,j<m->Nl j (ts.getD j [])/\Cd D N (ts.getD j []))(hD:0<D)(j k:Nat)(a b:List Rat)(hj:j<=m)(hk:j<=k)(ha:Nl j a)(hb:Nl j b)
  {Da Na Db Nb:Nat} (ca:Cd Da Na a) (cb:Cd Db Nb b):Cd (Da*Db*rR D j) (Na*Nb*rM D N j) (pT ts k a b):=by
 have key:=Pw ts (fun j a b c=>Nl j c/\(j<=m->∀Da Na Db Nb:Nat,Cd Da Na a->Cd Db Nb b->Cd (Da*Db*rR D j) (Na*Nb*rM D N j) c)) ?_ ?_ ?_ ?_ ?_ ?_ (fun _ _ _ _ h=>h.1) m (fun j hj=>(ED j hj).1) j k a b hj hk ha hb
 ·exact key.2 hj _ _ _ _ ca cb
 ·intro j a b c h;refine⟨h.1,fun hj Da Na Db Nb ca cb=>?_⟩;rw[aog Da,aog Na];exact h.2 hj _ _ _ _ cb ca
 ·intro j a b ha hb h;exact⟨.inl rfl,fun hj Da Na Db Nb ca cb=>Cd.nil (apa (apa ca.1 cb.1) (pX hD j))⟩
 ·intro j p q;refine⟨.inr ⟨0,ase _,rfl⟩,fun hj Da Na Db Nb ca cb=>?_⟩;have h1:=(ca.mul1 cb).scale (pX hD j);exact h1.mono (ash _ (tX D N j))
 ·intro j a b c ha hb h;refine ⟨h.1.mono oz,fun hj Da Na Db Nb ca cb=>?_⟩;have h1:=(h.2 oz _ _ _ _ ca cb).scale (apa (pX hD j) hD);have e1:Da * Db * rR D j * (rR D j * D) = Da * Db * rR D (j + 1):=by simp only [rR]; grind
  rw[e1]at h1;refine h1.mono ?_;have h2:=ash (rM D N j) (aoz (tX D N j) (ao8 D N));have h3:rM D N j*(rR D j*D)<=rM D N (j+1):=by simp only[rM,an8]at *;omega
  rw[an8 (Na*Nb)];exact ash _ h3
 ·intro j a b c d ha hb hc hd;refine ⟨.inr ⟨j + 1,ar8 _,by rw [u9 hc.1.le hd.1.le,ao1]; omega⟩,fun hj Da Na Db Nb ca cb=>?_⟩;have ca1:Cd Da Na (a.take (2 ^ j)):=ca.sub (fun q hq=>apg hq);have ca2:Cd Da Na (a.drop (2 ^ j)):=ca.sub (fun q hq=>ap8 hq);have h1:=((hc.2 oz _ _ _ _ ca1 cb).join (hd.2 oz _ _ _ _ ca2 cb) (n:=2 ^ j)).scale (apa (pX hD j) hD);have e1:Da * Db * rR D j * (rR D j * D) = Da * Db * rR D (j + 1):=by simp only [rR]; grind
  rw[e1]at h1;refine h1.mono ?_;have h2:=ash (rM D N j) (aoz (tX D N j) (ao8 D N));have h3:rM D N j*(rR D j*D)<=rM D N (j+1):=by simp only[rM,an8]at *;omega
  rw[an8 (Na*Nb)];exact ash _ h3
 ·intro j a b c1 c2 c3 c4 c5 ha hb h1 h2 h3 h4 h5;refine⟨.inr ⟨j+1,ar8 _,?_⟩,fun hj Da Na Db Nb ca cb=>?_⟩
  ·have l1:=h1.1.le;have l3:=h3.1.le;have l4:=h4.1.le;have l5:=h5.1.le;rw[u9 (by rw[jc];omega) (by rw[jc];omega),ao1];omega
  have ca1:Cd Da Na (a.take (2^j)):=ca.sub (fun q hq=>apg hq);have ca2:Cd Da Na (a.drop (2^j)):=ca.sub (fun q hq=>ap8 hq);have cb1:Cd Db Nb (b.take (2^j)):=cb.sub (fun q hq=>apg hq);have cb2:Cd Db Nb (b.drop (2^j)):=cb.sub (fun q hq=>ap8 hq);have k2:=h2.2 oz _ _ _ _ ca2 cb2;have k3:=h3.2 oz _ _ _ _ k2 (ED j oz).2;have k1:=(h1.2 oz _ _ _ _ ca1 cb1).scale (apa (pX hD j) hD);have k4:=(h4.2 oz _ _ _ _ ca1 cb2).scale (apa (pX hD j) hD);have k5:=(h5.2 oz _ _ _ _ ca2 cb1).scale (apa (pX hD j) hD);have e1:Da*Db*rR D j*(rR D j*D)=Da*Db*rR D (j+1):=by simp only[rR];grind
  have e3:Da*Db*rR D j*D*rR D j=Da*Db*rR D (j+1):=by simp only[rR];grind
  rw[e1]at k1 k4 k5;rw[e3]at k3;have b1:rM D N j*(rR D j*D)<=rM D N j*rM D N j*D:=by rw[an8];exact ash _ (asl _ (tX D N j))
  have b2:∀x,Na*Nb*rM D N j*(rR D j*D)+Na*Nb*x<=Na*Nb*(rM D N j*rM D N j*D+x):=by
   intro x;rw[aom,an8 (Na*Nb)];exact Nat.add_le_add_right (ash _ b1) _
  refine Cd.join (Cd.mono (k1.plus k3) ?_) (Cd.mono (k4.plus k5) ?_)
  ·have e4 : Na * Nb * rM D N j * N * rM D N j = Na * Nb * (rM D N j * rM D N j * N) := by grind
   rw[e4];refine asv (b2 _) (ash _ ?_);simp only[rM];rw[<- aom];omega
  ·have e4 : Na * Nb * rM D N j * (rR D j * D) <= Na * Nb * (rM D N j * rM D N j * D) := by rw [an8 (Na * Nb)]; exact ash _ b1
   refine asv (Nat.add_le_add e4 e4) ?_;rw[<- aom];refine ash _ ?_;simp only[rM];have:=ash (rM D N j*rM D N j) (ao8 D N);omega
def eB(r:Nat):Nat->Nat
  |0=>0
  |j+1=>2*eB r j+r+2
theorem Hu{D N r:Nat}(hD:D<=2^r)(hN:N<=2^r):∀j,rM D N j<=2^eB r j
 |0=>ar8 _
 |j+1=>by
  have h1:=Hu hD hN j;have h2:=aoz (aoz h1 h1) (Nat.add_le_add hD hN);simp only[rM,eB]
  have e:2^(2*eB r j+r+2)=2*(2^eB r j*2^eB r j*(2^r+2^r)):=by
   rw[as6,as6,Nat.two_mul,as6];grind
  rw[e];exact ash _ h2
def Cb(e:Nat)(l:List Rat):Prop:=∃D N,Cd D N l/\D<=2^e/\N<=2^e
def RB(r:Nat)(ts:LL):Prop:=∃D N,0<D/\(∀d∈ts,Cd D N d)/\D<=2^r/\N<=2^r
theorem fj{a b:Nat}(h:a<=b):2^a<=2^b:=aok oz h
theorem Cb.mono{e f:Nat}{l:List Rat}(h:Cb e l)(hf:e<=f):Cb f l:=by
 obtain⟨D,N,h1,h2,h3⟩:=h;exact⟨D,N,h1,asv h2 (fj hf),asv h3 (fj hf)⟩
theorem Cb.sub{e:Nat}{l l':List Rat}(h:Cb e l)(hs:∀q∈l',q∈l):Cb e l':=by
 obtain⟨D,N,h1,h2,h3⟩:=h;exact⟨D,N,h1.sub hs,h2,h3⟩
theorem Cb.take{e n:Nat}{l:List Rat}(h:Cb e l):Cb e (l.take n):=h.sub (fun q hq=>apg hq)
theorem Cb.drop{e n:Nat}{l:List Rat}(h:Cb e l):Cb e (l.drop n):=h.sub (fun q hq=>ap8 hq)
theorem Cb.nil:Cb 0 []:=⟨1,1,Cd.nil oz,by simp,by simp⟩
theorem Cb.wide{e n:Nat}{a:List Rat}(h:Cb e a):Cb e (bY a n):=by
 obtain⟨D,N,h1,h2,h3⟩:=h;exact⟨D,N,h1.wide,h2,h3⟩
theorem Cb.minus{e:Nat}{a:List Rat}(h:Cb e a):Cb e (fB a):=by
 obtain⟨D,N,h1,h2,h3⟩:=h;exact⟨D,N,h1.minus,h2,h3⟩
theorem Cb.plus{e f:Nat}{a b:List Rat}(h:Cb e a)(h':Cb f b):Cb (e+f+1) (ek a b):=by
 obtain⟨D,N,h1,h2,h3⟩:=h;obtain⟨D',N',h4,h5,h6⟩:=h';have k1:=h1.scale h4.1;have k2:=h4.scale h1.1;rw[aog D']at k2;refine⟨_,_,k1.plus k2,?_,?_⟩
 ·rw[ao1,as6];have:=aoz h2 h5;omega
 ·rw[ao1,as6];have e1:=aoz h3 h5;have e2:=aoz h6 h2;rw[aog (2^f)]at e2;omega
theorem Cb.qb{e:Nat}{l:List Rat}(h:Cb e l){q:Rat}(hq:q∈l):Qb (e+1) q:=by
 obtain⟨D,N,h1,h2,h3⟩:=h;have:=aoe e;exact h1.qb (by rw[ao1];omega) (by rw[ao1];omega) hq
theorem Cb.qs{e:Nat}{l:List Rat}(h:Cb e l)(he:e<4398046511104){q:Rat}(hq:q∈l):Qs q:=(h.qb hq).qs he
def oS(ts:LL)(m r:Nat):Prop:=(∀j,j<m->Nl j (ts.getD j []))/\RB r ts
theorem RB.get{r:Nat}{ts:LL}(h:RB r ts):∃D N,0<D/\(∀j,Cd D N (ts.getD j []))/\D<=2^r/\N<=2^r:=by
 obtain⟨D,N,h0,h1,h2,h3⟩:=h;refine⟨D,N,h0,fun j=>?_,h2,h3⟩;rw[ar2];cases hx:ts[j]? with
 |none=>exact Cd.nil h0
 |some d=>exact h1 d (ar1 hx)
theorem RB.cb{r:Nat}{ts:LL}(h:RB r ts)(j:Nat):Cb r (ts.getD j []):=by
 obtain⟨D,N,h0,h1,h2,h3⟩:=h.get;exact⟨D,N,h1 j,h2,h3⟩
theorem Cb.mul{ts:LL}{m r:Nat}(ht:oS ts m r){j k e f:Nat}{a b:List Rat}(hj:j<=m)(hk:j<=k)(ha:Nl j a)(hb:Nl j b)(ca:Cb e a)(cb:Cb f b) :
  Cb (e+f+eB r j) (pT ts k a b):=by
 obtain⟨D,N,h0,h1,h2,h3⟩:=ht.2.get;obtain⟨Da,Na,a1,a2,a3⟩:=ca;obtain⟨Db,Nb,b1,b2,b3⟩:=cb;refine⟨_,_,ajr ts m D N (fun j hj=>⟨ht.1 j hj,h1 j⟩) h0 j k a b hj hk ha hb a1 b1,?_,?_⟩
 ·rw[as6,as6];exact aoz (aoz a2 b2) (asv (tX D N j) (Hu h2 h3 j))
 ·rw[as6,as6];exact aoz (aoz a3 b3) (Hu h2 h3 j)
theorem MM(r:Nat):∀j,eB r j<=eB r (j+1):=fun j=>by simp only[eB];omega
def sB(r:Nat):Nat->Nat->Nat
  |0,e=>e
  |j+1,e=>sB r j (4*e+3*eB r j+r+1)
theorem xw(r:Nat):∀j e,e<=sB r j e
 |0,e=>ar8 _
 |j+1,e=>by have:=xw r j (4*e+3*eB r j+r+1);simp only[sB];omega
theorem zD(r:Nat):∀j {e f:Nat},e<=f->sB r j e<=sB r j f
 |0,e,f,h=>h
 |j+1,e,f,h=>by simp only[sB];exact zD r j oz
theorem V7(r j e:Nat):sB r j e<=sB r (j+1) e:=by simp only[sB];exact zD r j oz
theorem D8(r e:Nat){i j:Nat}(h:i<=j):sB r i e<=sB r j e:=by
  induction j with
  | zero => have : i = 0 := by omega
            subst this;exact ar8 _
  |succ j ih =>
    by_cases e8:i=j+1
    · rw[e8];exact ar8 _
    · exact asv (ih oz) (V7 r j e)
theorem akk(r e:Nat){j:Nat}(h:j<=2):sB r j e<=16*e+17*r+29:=by
 refine asv (D8 r e h) ?_;simp only[sB,eB];omega
theorem WO(r e:Nat){j:Nat}(h:j<=3):sB r j e<=64*e+177*r+333:=by
 refine asv (D8 r e h) ?_;simp only[sB,eB];omega
def lm(n:Nat):Nat:=if n<=2 then 200000000000 else 50000000000
theorem rF(n:Nat):lm n<=200000000000:=by unfold lm;split <;> omega
theorem pE(n:Nat):50000000000<=lm n:=by unfold lm;split <;> omega
theorem ai8(r:Nat){j:Nat}(h:j<=5):eB r j<=31*(r+2):=by
 have:∀i,eB r i<=eB r (i+1):=MM r
 have h5:eB r j<=eB r 5:=by
  match j,h with
  |0,_=>simp only[eB];omega
  |1,_=>simp only[eB];omega
  |2,_=>simp only[eB];omega
  |3,_=>simp only[eB];omega
  |4,_=>simp only[eB];omega
  |5,_=>exact ar8 _
 refine asv h5 ?_;simp only[eB];omega
def nA(l:List Rat):AV:=.lst 3 (l.map qA)
def nR(l:List Rt):AV:=.lst 3 (l.map Rt.av)
def bA(ts:LL):AV:=.agg [.lst 1 (ts.map nA)]
def dN(ts:List (List Rt)):AV:=.agg [.lst 1 (ts.map nR)]
def v9(n:Nat):Nat:=if n<=1 then 0 else(n-1).log2+1
theorem Sa{n k:Nat}(h1:∀j,j<k->2^j<n)(h2:n<=2^k):v9 n=k:=by
 unfold v9;split
 ·rename_i h;cases k with
  |zero=>rfl
  |succ k=>have:=h1 0 oz;omega
 ·rename_i h;cases k with
  |zero=>simp at h2;omega
  |succ k =>
   have h3:=h1 k oz;congr 1;rw[Nat.log2_eq_iff oz];omega
def ik(n:Nat):Int:=if 2^v9 n=n then(v9 n:Int)else -1
theorem V8(j:Nat):v9 (2^j)=j:=Sa (fun i hi=>aoq oz hi) (ar8 _)
theorem xP(j:Nat):ik (2^j)=j:=by unfold ik;rw[V8,ate rfl]
theorem YU{n:Nat}(h:0<=ik n):∃j:Nat,n=2^j/\ik n=(j:Int):=by
 unfold ik at h ⊢;split at h
 ·rename_i h1;exact⟨v9 n,h1.symm,by rw[ate h1]⟩
 ·omega
theorem Gp{k:Nat}(hk:k<=62):IntKind.i64.wrap ((1:Int)*2^(min (k:Int).toNat IntKind.i64.bits))=((2^k:Nat):Int):=by
 have h1:min (k:Int).toNat IntKind.i64.bits=k:=by simp[IntKind.bits];omega
 have h2:2^k<=2^62:=fj hk;have h3:(2:Nat)^62=4611686018427387904:=by decide
 have h4:((2:Int)^k)=((2^k:Nat):Int):=by simp
 rw[h1,Int.one_mul,h4];generalize 2^k=x at *;exact i64_in oz
def cW(m:Nat)(a:List Rt):Nat:=if a≠[]/\(ik a.length<0\/(m:Int)<ik a.length)then 10 else if a.all Rt.valid then 0 else 2
theorem Ip{m:Nat}{a:List Rt}(h:cW m a=0)(bm:∀r∈a,r.ok):a=(a.map Rt.q).map rt/\Nl m (a.map Rt.q):=by
 unfold cW at h;split at h
 ·cases h
 ·rename_i h1;split at h
  ·rename_i h2;rw[asd]at h2;refine⟨?_,?_⟩
   ·rw[map_map];refine(List.map_id _).symm.trans ?_;exact apk (fun r hr=>Rt.eq_rt (bm r hr) (h2 r hr))
   ·by_cases h0:a=[]
    ·subst h0;exact .inl rfl
    ·have h3:0<=ik a.length/\ik a.length<=m:=by
      constructor
      ·exact Int.not_lt.1 (fun h=>h1 ⟨h0,.inl h⟩)
      ·exact Int.not_lt.1 (fun h=>h1 ⟨h0,.inr h⟩)
     obtain⟨j,e1,e2⟩:=YU h3.1;exact .inr ⟨j,by omega,by rw[ar3,e1]⟩
  ·cases h
theorem iV(l:List Rat):nR (l.map rt)=nA l:=by
 unfold nR nA;rw[map_map];rfl
theorem Nl.len5{k:Nat}{a:List Rat}(h:Nl k a)(hk:k<=5):a.length<=32:=asv h.le (fj (b:=5) hk)
theorem qZ:jN (.agg [.v (.bool false),.v (.slice none 0 0),.v (.slice none 0 0)]) (qA 0):=by
 refine⟨rfl,?_⟩;intro j x y hx hy
 match j,hx,hy with
 |0,hx,hy=>cases hx;cases hy;exact⟨rfl,.refl _⟩
 |1,hx,hy=>cases hx;cases hy;exact⟨rfl,.nil _ _ _⟩
 |2,hx,hy=>cases hx;cases hy;exact⟨rfl,.nil _ _ _⟩
theorem jN.refl{e:AV}(h:∀c∈e.cells,c.one=true):jN e e :=
 ⟨rfl,fun j x y hx hy=>by rw[hx]at hy;cases hy;exact⟨h x (ar1 hx),.refl _⟩⟩
theorem Yp(q:Rat):∀c∈(qA q).cells,c.one=true:=by
 intro c hc;have:c=bl (rt q).neg\/c=ws (rt q).num\/c=ws (rt q).den:=by simpa[qA,Rt.av,AV.cells]using hc
 rcases this with rfl |rfl |rfl <;> rfl
theorem Rr(a:List Rat)(n:Nat)(h:a.length<=n) :
  BlkSub (.row 3 (a.map qA++(apf n (.agg [.v (.bool false),.v (.slice none 0 0),.v (.slice none 0 0)])).drop (a.map qA).length)) (.row 3 ((bY a n).map qA)):=by
 refine .row ?_ ?_
 ·simp only[bY,asx,ar3,apx,asr]
 ·intro i e e' he he'
  by_cases hi:i<a.length
  ·rw[asq (by simpa using hi)]at he;simp only[bY,asz]at he';rw[asq (by simpa using hi),he]at he';cases he';simp only[asa,ar6]at he;obtain⟨q,_,rfl⟩:=he;exact jN.refl (Yp q)
  ·rw [asm (by simpa using hi), List.drop_replicate, ast] at he;simp only [bY,asz] at he';rw [asm (by simpa using hi),as5,ast] at he';split at he
   ·cases he;split at he'
    ·cases he';exact qZ
    ·cases he'
   ·cases he
theorem Qg{p w:List Rat}{i:Nat}{s:Rat}(hl:p.length=w.length)(hi:i<p.length)(hs:p[i]=s) :
  ((p.take i++w.drop i).map qA).set i (qA s)=(p.take (i+1)++w.drop (i+1)).map qA:=by
 rw[<- as7];congr 1;subst hs;rw[List.set_append_right i _ (by simp;omega)];have h1:i-(p.take i).length=0:=by simp;omega
 rw[h1,ap7 oz,List.set_cons_zero,apu hi,atc];rfl
theorem ZV{a b:List Rat}{i:Nat}(hi:i<(ek a b).length) :
  (ek a b)[i]=(bY a (max a.length b.length)).getD i 0+(bY b (max a.length b.length)).getD i 0:=by
 have h:=RP (a:=a) (b:=b) (i:=i);rw[ar2,ar7 hi,ary]at h;rw[h,s9,s9]
theorem getD_some{l:List Rat}{i:Nat}(h:i<l.length):l[i]?=some (l.getD i 0):=by
 rw[ar2,ar7 h];rfl
theorem FT{l:List Rat}{i:Nat}(h:i<l.length):l.getD i 0∈l:=by
 rw[ar2,ar7 h];exact aqh h
theorem Nc{p w:List Rat}{i:Nat}(hl:p.length=w.length)(hi:i<p.length):(p.take i++w.drop i)[i]?=some (w.getD i 0):=by
 rw[asm (by simp;omega),as3];have:i+(i-(p.take i).length)=i:=by simp;omega
 rw[this];exact getD_some oz
theorem fO{α:Type}{l:List α}{i:Nat}{x:α}(h:l[i]?=some x):l.take (i+1)=l.take i++[x]:=by
 obtain⟨hi,rfl⟩:=ap9.1 h;exact apu hi
theorem yu{q:Rat}(h:a9 q=0):q=0:=by
 unfold a9 at h;split at h
 ·cases h
 ·split at h
  ·cases h
  ·grind
theorem ZQ:rt 0=⟨false,[],[]⟩:=rfl
theorem WZ{q:Rat}(h:cond (cond (rt q).neg true (aa .gtr ((rt q).num.length:Int) 0)) true (aa .gtr ((rt q).den.length:Int) 0)=true):q≠0:=by
 intro h0;rw[h0,ZQ]at h;cases h
theorem YM{q:Rat}(h:cond (cond (rt q).neg true (aa .gtr ((rt q).num.length:Int) 0)) true (aa .gtr ((rt q).den.length:Int) 0)=false):q=0:=by
 cases hn:(rt q).neg
 ·rw[hn]at h;cases hm:aa .gtr ((rt q).num.length:Int) 0
  ·have h1:(rt q).num=[]:=by
    cases hl:(rt q).num with
    |nil=>rfl
    |cons x l=>rw[hl]at hm;simp[aa]at hm
   rw[<- bE q];exact Rt.zero (fun h=>h.2 h1)
  ·rw[hm]at h;cases h
 ·rw[hn]at h;cases h
theorem tu{n:Nat}(h:n<=281474976710656):IntKind.i64.wrap ((n:Int).tdiv 2)=((n/2:Nat):Int):=by
 rw[show((n:Int).tdiv 2)=((n/2:Nat):Int)from(Int.ofNat_tdiv n 2).symm];exact i64_in oz
theorem RS{m j:Nat}{a:List Rat}(h:a.length<=2^j)(hj:j<=m):gM m a=gM j a:=by
  induction m with
  | zero => have : j = 0 := by omega
            subst this;rfl
  |succ m ih =>
    by_cases Uc:j=m+1
    · rw[Uc]
    · have h1:a.length<=2^m:=asv h (fj oz)
      have h2:gM (m+1) a=if bF (a.drop (2^m))=true then gM m (a.take (2^m))else a:=rfl;rw[h2,as0 h1,ate ah8,asn h1];exact ih oz
def q6(a:List Rat)(n:Nat):Prop:=(n=0/\a=[])\/∃i,n=2^i/\i<=5/\n<=a.length/\gM 5 a=gM i (a.take n)
theorem acj{a:List Rat}(h:Nl 5 a):q6 a a.length:=by
 rcases h with rfl |⟨j,hj,h⟩
 ·exact .inl ⟨rfl,rfl⟩
 ·exact .inr ⟨j,h,hj,ar8 _,by rw[asK];exact RS oz hj⟩
theorem NI{a:List Rat}{i:Nat}:(a.drop (2^i)).take (2^(i+1)-2^i)=(a.take (2^(i+1))).drop (2^i):=by
 rw[List.drop_take]
theorem adb{a:List Rat}{n:Nat}(h:q6 a n)(h1:1<n)(hz:bF ((a.drop (n/2)).take (n-n/2))=true):q6 a (n/2):=by
 rcases h with⟨h,_⟩ |⟨i,rfl,hi,hl,hs⟩
 ·omega
 ·cases i with
  |zero=>simp at h1
  |succ i =>
   rw[oO]at hz ⊢;rw[NI]at hz;have h2:gM (i+1) (a.take (2^(i+1)))=if bF ((a.take (2^(i+1))).drop (2^i))=true then gM i ((a.take (2^(i+1))).take (2^i))else a.take (2^(i+1)):=rfl;rw[h2,ate hz,ap3,aon (fj oz)]at hs;exact .inr ⟨i,rfl,by omega,asv (fj oz) hl,hs⟩
theorem Vf{a:List Rat}(h:q6 a 1)(hz:bF (a.take 1)=true):gM 5 a=[]:=by
 rcases h with⟨h,_⟩ |⟨i,h0,hi,hl,hs⟩
 ·omega
 ·have:i=0:=by
   cases i with
   |zero=>rfl
   |succ i=>rw[ao1]at h0;omega
  subst this;rw[hs];show(if bF (a.take 1)=true then[]else _)=_;rw[ate hz]
theorem afy{a:List Rat}{n:Nat}(h:q6 a n)(h1:1<n->bF ((a.drop (n/2)).take (n-n/2))=false)(h2:n=1->bF (a.take 1)=false):gM 5 a=a.take n:=by
 rcases h with⟨rfl,rfl⟩ |⟨i,rfl,hi,hl,hs⟩
 ·rfl
 ·cases i with
  |zero =>
   rw[hs];show(if bF (a.take 1)=true then[]else _)=_;rw[h2 rfl];rfl
  |succ i =>
   have h3:=h1 (by have:=aoe i;rw[ao1];omega);rw[oO,NI]at h3;rw[hs];have h4:gM (i+1) (a.take (2^(i+1)))=if bF ((a.take (2^(i+1))).drop (2^i))=true then gM i ((a.take (2^(i+1))).take (2^i))else a.take (2^(i+1)):=rfl;rw[h4,h3];rfl
theorem q6.le{a:List Rat}{n:Nat}(h:q6 a n):n<=a.length:=by
 rcases h with⟨rfl,rfl⟩ |⟨i,rfl,hi,hl,hs⟩
 ·exact ar8 _
 ·exact hl
theorem FC(a:List Rat)(l m:Nat):AV.lst 3 (((a.map qA).drop l).take m)=nA ((a.drop l).take m):=by
 unfold nA;rw[map_take,aph]
theorem VC{n:Nat}{a:List Rat}(h:Nl n a)(hn:n<=5):gM 5 a=sh n (ai n a):=by
 rw[RS h.le hn,IX n h]
theorem BlkSub.of_{x y z:Blk}(h:BlkSub x y)(e:z=x):BlkSub z y:=e▸h
theorem aae{a:List Rat}{i:Nat}(hi:i<(fB a).length):(fB a)[i]=-(a.getD i 0):=by
 have h:=L8 (a:=a) (i:=i);rw[ar2,ar7 hi,ary]at h;exact h
theorem Yy{ts:LL}{k:Nat}{x y:List Rat}(hl:y.length<=x.length)(h:bF x=true\/bF y=true):pT ts k x y=[]:=by
 unfold pT;simp only[atd (show ¬x.length<y.length by omega)];rw[ate (by rw[ata];exact h)]
theorem afr{ts:LL}{k:Nat}{p q:Rat}(h:¬(bF [p]=true\/bF [q]=true)):pT ts k [p] [q]=[p*q]:=by
 unfold pT;simp only[asi,asu,Nat.lt_irrefl,if_false];rw[atd (by rw[ata];exact h)];simp
theorem YZ{ts:LL}{k i:Nat}{x y:List Rat}(hx:x.length=2^(i+1))(hl:y.length<=2^i)(h:¬(bF x=true\/bF y=true)) :
  pT ts (k+1) x y=ib (pT ts k (x.take (2^i)) y) (pT ts k (x.drop (2^i)) y) (2^i):=by
 have h2:=aoe i;have hlt:¬x.length<y.length:=by rw[hx,ao1];omega
 conv=>lhs;unfold pT
 simp only[atd hlt];rw[atd (by rw[ata];exact h),atd (by rw[hx,ao1];omega)];simp only[hx,oO];rw[ate hl]
theorem ae7{ts:LL}{k i:Nat}{x y:List Rat}(hx:x.length=2^(i+1))(hl:¬y.length<=2^i)(EE:y.length<=x.length)(h:¬(bF x=true\/bF y=true)) :
  pT ts (k+1) x y=ib (ek (pT ts k (x.take (2^i)) (y.take (2^i))) (pT ts k (pT ts k (x.drop (2^i)) (y.drop (2^i))) (ts.getD i [])))
   (ek (pT ts k (x.take (2^i)) (y.drop (2^i))) (pT ts k (x.drop (2^i)) (y.take (2^i)))) (2^i):=by
 conv=>lhs;unfold pT
 simp only[atd (show ¬x.length<y.length by omega)];have h2:=aoe i;rw[atd (by rw[ata];exact h),atd (by rw[hx,ao1];omega)];simp only[hx,oO,O2];rw[atd hl]
theorem o8(r:Nat){i j:Nat}(h:i<=j):eB r i<=eB r j:=by
  induction j with
  | zero => have : i = 0 := by omega
            subst this;exact ar8 _
  |succ j ih =>
    by_cases e8:i=j+1
    · rw[e8];exact ar8 _
    · exact asv (ih oz) (MM r j)
theorem HO{j:Nat}{x:List Rat}(h:Nl j x):x.length=0\/x.length=1\/∃i,i+1<=j/\x.length=2^(i+1):=by
 rcases h with rfl |⟨i,hi,h⟩
 ·exact .inl rfl
 ·cases i with
  |zero=>exact .inr (.inl h)
  |succ i=>exact .inr (.inr ⟨i,hi,h⟩)
theorem ZN{j i:Nat}{x:List Rat}(h:Nl j x)(hl:x.length<=2^i):Nl i x:=by
 rcases h with rfl |⟨l,hl',h⟩
 ·exact .inl rfl
 ·refine .inr ⟨l,?_,h⟩;rcases asb i l with h1 |h1
  ·have:=aoq (a:=2) oz h1;omega
  ·exact h1
theorem Wn{j i:Nat}{x:List Rat}(h:Nl j x)(hl:¬x.length<=2^i)(hu:x.length<=2^(i+1)):x.length=2^(i+1):=by
 rcases h with rfl |⟨l,hl',h⟩
 ·simp at hl
 ·rcases asb i l with h1 |h1
  ·rcases asb (i+1) l with h2 |h2
   ·have:=aoq (a:=2) oz h2;omega
   ·rw[h,show l=i+1 by omega]
  ·have:=fj h1;omega
theorem Fy{ts:LL}{j:Nat}(h:j<ts.length):(ts.map nA)[j]?=some (nA (ts.getD j [])):=by
 rw[asa,ar2,ar7 h];rfl
theorem wt(x:List Rat)(n:Nat):AV.lst 3 (((x.map qA).drop 0).take (n-0))=nA (x.take n):=by
 rw[Nat.sub_zero,as8,<- map_take];rfl
theorem yC(x:List Rat)(n:Nat):AV.lst 3 (((x.map qA).drop n).take ((x.map qA).length-n))=nA (x.drop n):=by
 rw[<- aph,asn (by simp)];rfl
def kr(ts:LL)(i:Nat)(a:List Rat):List Rat :=
  ek (pT ts i (a.take (2^i)) (a.take (2^i))) (fB (pT ts i (pT ts i (a.drop (2^i)) (a.drop (2^i))) (ts.getD i [])))
theorem C9{ts:LL}{m r:Nat}(ht:oS ts m r){i e:Nat}{a:List Rat}(hi:i+1<=m)(ha:a.length=2^(i+1))(ca:Cb e a) :
  Nl i (kr ts i a)/\ai i (kr ts i a)=T.norm (aI ts) i (ai (i+1) a)/\Cb (4*e+3*eB r i+r+1) (kr ts i a):=by
 have n1:Nl i (a.take (2^i)):=.inr ⟨i,ar8 _,my ha⟩;have n2:Nl i (a.drop (2^i)):=.inr ⟨i,ar8 _,nO ha⟩;have s1:=iX ts m ht.1 i i _ _ oz oz n1 n1;have s2:=iX ts m ht.1 i i _ _ oz oz n2 n2;have s3:=iX ts m ht.1 i i _ _ oz oz s2.1 (ht.1 i oz);have c1:=Cb.mul ht (k:=i) (show i<=m by omega) oz n1 n1 ca.take ca.take;have c2:=Cb.mul ht (k:=i) (show i<=m by omega) oz n2 n2 ca.drop ca.drop;have c3:=Cb.mul ht (k:=i) (show i<=m by omega) oz s2.1 (ht.1 i oz) c2 (ht.2.cb i);refine⟨?_,?_,?_⟩
 ·have l1:=s1.1.le;have l3:=s3.1.le;rcases s1.1 with h1 |⟨j1,xd,h1⟩ <;> rcases s3.1 with h3 |⟨j3,hj3,h3⟩
  ·refine .inl ?_;apply aqc;unfold kr;rw[jc,mR,h1,h3];rfl
  ·refine .inr ⟨j3,hj3,?_⟩;unfold kr;rw[jc,mR,h1,h3];simp
  ·refine .inr ⟨j1,xd,?_⟩;unfold kr;rw[jc,mR,h1,h3];simp
  ·refine .inr ⟨max j1 j3, by omega, ?_⟩;unfold kr;rw [jc,mR,h1,h3];rcases Nat.le_total j1 j3 with h | h
   ·rw[an9 h,an9 (fj h)]
   ·rw[aoo h,aoo (fj h)]
 ·unfold kr T.norm;rw[qj,wa,s1.2,s3.2,s2.2];rfl
 ·exact(c1.plus c3.minus).mono oz
theorem T.sgn_ofQ(r:(k:Nat)->T k):∀(k:Nat)(q:Rat),T.sgn r k (T.ofQ k q)=a9 q
 |0,q=>rfl
 |k+1,q=>by simp only[T.ofQ];rw[T.sgn_low,T.sgn_ofQ r k]
theorem CW(r:(k:Nat)->T k){i j:Nat}{a:List Rat}(h:a.length<=2^i)(e8:i<=j):T.sgn r j (ai j a)=T.sgn r i (ai i a):=by
  induction j with
  | zero => have : i = 0 := by omega
            subst this;rfl
  |succ j ih =>
    by_cases h':i=j+1
    · rw[h']
    · rw[mH (asv h (fj oz)),T.sgn_low]
      exact ih oz
theorem Mg:∀(k:Nat){a:List Rat}{q:Rat},q∈gM k a->q∈a
 |0,a,q,h=>by
  have e:gM 0 a=if bF a=true then[]else a:=rfl;rw[e]at h;split at h
  ·cases h
  ·exact h
 |k+1,a,q,h=>by
  have e:gM (k+1) a=if bF (a.drop (2^k))=true then gM k (a.take (2^k))else a:=rfl;rw[e]at h;split at h
  ·exact apg (Mg k h)
  ·exact h
theorem Cb.sh{e k:Nat}{a:List Rat}(h:Cb e a)(hn:Nl k a):Cb e (sh k (ai k a)):=by
 rw[<- IX k hn];exact Cb.sub h (fun q hq=>Mg k hq)
theorem Ve{x y:Int}(hx:x=-1\/x=0\/x=1)(hy:y=-1\/y=0\/y=1):IntKind.i64.wrap (gw .mul x y)=x*y:=by
 apply P8;rcases hx with rfl |rfl |rfl <;> rcases hy with rfl |rfl |rfl <;> simp
theorem ajz{x y z w:Int}(h:cond (aa .eql x y) true (aa .eql z w)=true):x=y\/z=w:=by
 cases hx:aa .eql x y
 ·rw[hx]at h;exact .inr (by simpa[aa]using h)
 ·exact .inl (by simpa[aa]using hx)
theorem ahu{x y z w:Int}(h:cond (aa .eql x y) true (aa .eql z w)=false):¬(x=y\/z=w):=by
 cases hx:aa .eql x y
 ·rw [hx] at h;have h1:x ≠ y:=by simpa [aa] using hx
  have h2:z≠w:=by simpa[aa]using h
  exact fun h=>h.elim h1 h2
 ·rw[hx]at h;cases h
abbrev lq(a:List Rt):List Rat:=a.map Rt.q
abbrev llq(rs:List (List Rt)):LL:=rs.map lq
def rS(rs:List (List Rt)):Nat->Nat->Nat
  |0,_=>0
  |f+1,k=>if(rs.getD k []).length≠2^k then 10 else if cW k (rs.getD k [])≠0 then cW k (rs.getD k [])
    else if T.sgn (aI (llq rs)) k (aI (llq rs) k)<0 then 3 else rS rs f (k+1)
def bp(rs:List (List Rt)):Nat:=if 5<rs.length then 4 else rS rs rs.length 0
def iH:List Nat->Nat
  |[]=>0
  |e::l=>if e≠0 then e else iH l
def cr(rs:List (List Rt))(xs:List (List Rt)):Nat:=if bp rs≠0 then bp rs else iH (xs.map (cW rs.length))
theorem T.mul_congr{r r':(k:Nat)->T k}:∀(k:Nat),(∀j,j<k->r j=r' j)->∀x y,T.mul r k x y=T.mul r' k x y
 |0,_,x,y=>rfl
 |k+1,h,x,y=>by
  have ih:=T.mul_congr k (fun j hj=>h j oz);simp only[T.mul,ih,h k oz]
theorem T.sgn_congr{r r':(k:Nat)->T k}:∀(k:Nat),(∀j,j<k->r j=r' j)->∀x,T.sgn r k x=T.sgn r' k x
 |0,_,x=>rfl
 |k+1,h,x=>by
  have ih:=T.sgn_congr k (fun j hj=>h j oz);have im:=T.mul_congr k (fun j hj=>h j oz);simp only[T.sgn,T.norm,ih,im,h k oz]
theorem ae1{ts:LL}{k j:Nat}(h:j<k):aI (ts.take k) j=aI ts j:=by
 unfold aI;simp only[ar2,asy,ate h]
theorem Co(rs:List (List Rt))(k:Nat):(llq rs).getD k []=lq (rs.getD k []):=by
 simp only[ar2,asa];cases rs[k]? <;> rfl
def lK(rs:List (List Rt))(k:Nat):Prop:=(rs.getD k []).length=2^k/\cW k (rs.getD k [])=0/\0<=T.sgn (aI (llq rs)) k (aI (llq rs) k)
theorem OP{rs:List (List Rt)}{f k:Nat}(h:lK rs k):rS rs (f+1) k=rS rs f (k+1):=by
 obtain⟨h1,h2,h3⟩:=h;show(if _ then _ else _)=_;rw[atd (by rw[h1];simp),atd (by rw[h2];simp),atd oz]
theorem Kv:∀{f k:Nat}{rs:List (List Rt)},rS rs f k=0->∀j,k<=j->j<k+f->lK rs j
 |0,k,rs,_,j,h1,h2=>by omega
 |f+1,k,rs,h,j,h1,h2=>by
  have h':(if(rs.getD k []).length≠2^k then 10 else if cW k (rs.getD k [])≠0 then cW k (rs.getD k [])
   else if T.sgn (aI (llq rs)) k (aI (llq rs) k)<0 then 3 else rS rs f (k+1))=0:=h
  split at h'
  ·cases h'
  ·rename_i e1;split at h'
   ·rename_i e2;exact atk h' e2
   ·rename_i e2;split at h'
    ·cases h'
    ·rename_i e3
     by_cases hj:j=k
     ·subst hj;exact⟨ar0.1 e1,ar0.1 e2,by omega⟩
     ·exact Kv h' j oz oz
theorem Ln:∀{f k:Nat}{rs:List (List Rt)},(∀j,k<=j->j<k+f->lK rs j)->rS rs f k=0
 |0,k,rs,_=>rfl
 |f+1,k,rs,h=>by
  rw[OP (h k oz oz)];exact Ln (fun j h1 h2=>h j oz oz)
theorem SU{rs:List (List Rt)}(bm:∀d∈rs,∀x∈d,x.ok){k:Nat}(hk:k<=rs.length)(h:∀j,j<k->cW j (rs.getD j [])=0):(rs.take k).map nR=((llq rs).take k).map nA:=by
 apply List.ext_getElem?;intro j;simp only[asa,asy]
 by_cases hj:j<k
 ·rw [ate hj, ate hj];have EF:j < rs.length:=by omega
  have h1:=h j hj;rw[ar2,ar7 EF,ary]at h1;rw[ar7 EF];simp only[arz];congr 1;have:=(Ip h1 (fun x hx=>bm _ (aqh EF) x hx)).1;rw[<- iV,<- this]
 ·rw[atd hj,atd hj];rfl
theorem lK.nl{rs:List (List Rt)}{k:Nat}(h:lK rs k):Nl k ((llq rs).getD k []):=by
 rw[Co];exact .inr ⟨k,ar8 _,by rw[ar3,h.1]⟩
theorem af3{ts:LL}{k r:Nat}(h:∀j,j<k->Nl j (ts.getD j []))(hr:RB r ts):oS (ts.take k) k r:=by
 refine⟨fun j hj=>?_,?_⟩
 ·have:=h j hj;simp only[ar2,asy,ate hj]at this ⊢;exact this
 ·obtain⟨D,N,h0,h1,h2,h3⟩:=hr;exact⟨D,N,h0,fun d hd=>h1 d (apg hd),h2,h3⟩
structure Tw(ts:LL)(r:Nat):Prop where
  three:ts.length<=3
  len:∀j,j<ts.length->(ts.getD j []).length=2^j
  pos:∀j,j<ts.length->0<=T.sgn (aI ts) j (aI ts j)
  rb:RB r ts
  le:r<=5000000000
theorem Tw.five{ts:LL}{r:Nat}(h:Tw ts r):ts.length<=5:=asv h.three oz
theorem Tw.ok{ts:LL}{r:Nat}(h:Tw ts r):oS ts ts.length r :=
 ⟨fun j hj=>.inr ⟨j,ar8 _,h.len j hj⟩,h.rb⟩
structure TR(rs:List (List Rt))(r:Nat):Prop where
  ok:∀d∈rs,∀x∈d,x.ok
  len:∀d∈rs,d.length<=281474976710656
  ll:rs.length<=281474976710656
  rb:RB r (llq rs)
  le:r<=5000000000
  three:rs.length<=3\/5<rs.length
theorem jn{rs:List (List Rt)}{r:Nat}(h:TR rs r)(hc:bp rs=0):Tw (llq rs) r/\dN rs=bA (llq rs):=by
 unfold bp at hc;split at hc
 ·cases hc
 ·rename_i h5;have hk:=Kv hc;have hl:(llq rs).length = rs.length:=ar3 _;refine ⟨⟨by have:=h.three; rw [hl]; omega,fun j hj=>?_,fun j hj=>?_,h.rb,h.le⟩,?_⟩
  ·rw[Co,ar3];exact(hk j oz oz).1
  ·exact(hk j oz oz).2.2
  ·unfold dN bA;have:=SU h.ok (ar8 rs.length) (fun j hj=>(hk j oz oz).2.1);rw[asK,asn oz]at this;rw[this]
theorem vf{m:Nat}{a:List Rat}(h:Nl m a):cW m (a.map rt)=0:=by
 unfold cW;rw[atd,ate]
 ·rw[asd];intro x hx;obtain⟨q,_,rfl⟩:=aqd.1 hx;exact Bo q
 ·rintro⟨h0,h1⟩;rw[ar3]at h1;rcases h with rfl |⟨j,hj,h⟩
  ·exact h0 rfl
  ·rw[h,xP]at h1;omega
theorem kQ(a:List Rat):lq (a.map rt)=a:=by
 unfold lq;rw[map_map];refine(apk (fun q _=>bE q)).trans (List.map_id _)
theorem yD(ts:LL):llq (ts.map (List.map rt))=ts:=by
 unfold llq;rw[map_map];refine(apk (fun a _=>kQ a)).trans (List.map_id _)
theorem sa(ts:LL):dN (ts.map (List.map rt))=bA ts:=by
 unfold dN bA;rw[map_map];congr 3;exact apk (fun a _=>iV a)
theorem Tw.chk{ts:LL}{r:Nat}(h:Tw ts r):bp (ts.map (List.map rt))=0:=by
 unfold bp;rw[ar3,atd (by have:=h.five;omega)];refine Ln (fun j _ hj=>?_)
 have e1:(ts.map (List.map rt)).getD j []=(ts.getD j []).map rt:=by
  simp only[ar2,asa];cases ts[j]? <;> rfl
 refine⟨?_,?_,?_⟩
 ·rw[e1,ar3];exact h.len j oz
 ·rw[e1];exact vf (.inr ⟨j,ar8 _,h.len j oz⟩)
 ·rw[yD];exact h.pos j oz
theorem RB.qs{r:Nat}{ts:LL}(h:RB r ts)(hr:r<=5000000000):∀d∈ts,∀q∈d,Qs q:=by
 obtain⟨D,N,h0,h1,h2,h3⟩:=h;intro d hd q hq;exact Cb.qs ⟨D,N,h1 d hd,h2,h3⟩ oz hq
theorem Tw.tr{ts:LL}{r:Nat}(h:Tw ts r):TR (ts.map (List.map rt)) r:=by
 refine⟨?_,?_,by rw[ar3];have:=h.five;omega,by rw[yD];exact h.rb,h.le,by rw[ar3];exact .inl h.three⟩
 ·intro d hd x hx;obtain⟨a,ha,rfl⟩:=aqd.1 hd;obtain⟨q,hq,rfl⟩:=aqd.1 hx;exact(h.rb.qs h.le a ha q hq).ok
 ·intro d hd;obtain⟨a,ha,rfl⟩:=aqd.1 hd;obtain⟨j,hj,rfl⟩:=ap5.1 ha;have:=h.len j hj;rw[ar2,ar7 hj,ary]at this;rw[ar3,this];have:=h.five;have:2^j<=2^5:=fj oz;omega
theorem wm:∀{l:List Nat},iH l=0->∀e∈l,e=0
 |[],_,e,he=>by cases he
 |x::l,h,e,he=>by
  have h':(if x≠0 then x else iH l)=0:=h;split at h'
  ·rename_i hx;exact atk h' hx
  ·rename_i hx;rcases asj.1 he with rfl |he
   ·exact ar0.1 hx
   ·exact wm h' e he
theorem ve:∀{l:List Nat},(∀e∈l,e=0)->iH l=0
 |[],_=>rfl
 |x::l,h=>by
  show(if x≠0 then x else iH l)=0;rw[atd (by rw[h x (by simp)];simp)];exact ve (fun e he=>h e (by simp[he]))
theorem DA:∀(l l':List Nat),iH l=0->iH (l++l')=iH l'
 |[],l',_=>rfl
 |x::l,l',h=>by
  have h0:=wm h x (by simp);show(if x≠0 then x else iH (l++l'))=_;rw[atd (by rw[h0];simp)];exact DA l l' (ve (fun e he=>wm h e (by simp[he])))
theorem wn{rs xs:List (List Rt)}(h:cr rs xs=0):bp rs=0/\∀a∈xs,cW rs.length a=0:=by
 unfold cr at h;split at h
 ·rename_i h1;exact atk h h1
 ·rename_i h1;exact⟨ar0.1 h1,fun a ha=>wm h _ (aqd.2 ⟨a,ha,rfl⟩)⟩
theorem BP{rs xs:List (List Rt)}(h1:bp rs=0)(h2:∀a∈xs,cW rs.length a=0):cr rs xs=0:=by
 unfold cr;rw[atd (by rw[h1];simp)];refine ve (fun e he=>?_);obtain⟨a,ha,rfl⟩:=aqd.1 he;exact h2 a ha
structure NR(a:List Rt)(e:Nat):Prop where
  ok:∀x∈a,x.ok
  len:a.length<=281474976710656
  cb:Cb e (lq a)
theorem NR.num{a:List Rt}{e m:Nat}(h:NR a e)(hn:cW m a=0):nR a=nA (lq a)/\Nl m (lq a):=by
 obtain⟨h1,h2⟩:=Ip hn h.ok;refine⟨?_,h2⟩;rw[<- iV,<- h1]
theorem B8{r j n e:Nat}(hj:j<=n)(h3:n<=3)(hr:r<=5000000000)(he:e<=lm n):sB r j e<4398046511104:=by
 unfold lm at he;split at he
 ·have:=akk r e (j:=j) oz;omega
 ·have:=WO r e (j:=j) oz;omega
theorem xR{rs:List (List Rt)}(h5:rs.length<=5):∀{k:Nat},k<=rs.length->(∀j,j<k->lK rs j)->bp rs=rS rs (rs.length-k) k
 |0,_,_=>by unfold bp;rw[atd oz];rfl
 |k+1,hk,h=>by
  rw[xR h5 (k:=k) oz (fun j hj=>h j oz),show rs.length-k=(rs.length-(k+1))+1 by omega,OP (h k oz)]
theorem amn{rs:List (List Rt)}(h5:rs.length<=5)(h:∀j,j<rs.length->lK rs j):bp rs=0:=by
 rw[xR h5 (ar8 _) h,Nat.sub_self];rfl
theorem Xt{rs:List (List Rt)}(h5:rs.length<=5){k:Nat}{d:List Rt}(hd:rs[k]?=some d)(h:∀j,j<k->lK rs j)(hl:d.length≠2^k):bp rs=10:=by
 have hk:=(ap9.1 hd).1;have e:rs.getD k []=d:=by rw[ar2,hd];rfl
 rw[xR h5 (k:=k) oz h,show rs.length-k=(rs.length-(k+1))+1 by omega];show(if _ then _ else _)=_;rw[e,ate hl]
theorem VU{rs:List (List Rt)}(h5:rs.length<=5){k:Nat}{d:List Rt}(hd:rs[k]?=some d)(h:∀j,j<k->lK rs j)(hl:d.length=2^k)(hn:cW k d≠0):bp rs=cW k d:=by
 have hk:=(ap9.1 hd).1;have e:rs.getD k []=d:=by rw[ar2,hd];rfl
 rw[xR h5 (k:=k) oz h,show rs.length-k=(rs.length-(k+1))+1 by omega];show(if _ then _ else _)=_;rw[e,atd (by rw[hl];simp),ate hn]
theorem Qk{rs:List (List Rt)}{k:Nat}{d:List Rt}(hd:rs[k]?=some d):aI (llq rs) k=ai k (lq d):=by
 unfold aI;rw[Co,ar2,hd];rfl
theorem V6{rs:List (List Rt)}(h5:rs.length<=5){k:Nat}{d:List Rt}(hd:rs[k]?=some d)(h:∀j,j<k->lK rs j)(hl:d.length=2^k)(hn:cW k d=0)
  (hs:T.sgn (aI (llq rs)) k (ai k (lq d))<0):bp rs=3:=by
 have hk:=(ap9.1 hd).1;have e:rs.getD k []=d:=by rw[ar2,hd];rfl
 rw[xR h5 (k:=k) oz h,show rs.length-k=(rs.length-(k+1))+1 by omega];show(if _ then _ else _)=_;rw[e,atd (by rw[hl];simp),atd (by rw[hn];simp),Qk hd,ate hs]
theorem ad3{rs:List (List Rt)}{k:Nat}{d:List Rt}(hd:rs[k]?=some d)(hl:d.length=2^k)(hn:cW k d=0)
  (hs:¬T.sgn (aI (llq rs)) k (ai k (lq d))<0):lK rs k:=by
 have e:rs.getD k []=d:=by rw[ar2,hd];rfl
 exact⟨by rw[e];exact hl,by rw[e];exact hn,by rw[Qk hd];omega⟩
theorem V3{rs:List (List Rt)}(bm:∀d∈rs,∀x∈d,x.ok){k:Nat}(hk:k<=rs.length)(h:∀j,j<k->lK rs j):dN (rs.take k)=bA ((llq rs).take k):=by
 unfold dN bA;rw[SU bm hk (fun j hj=>(h j hj).2.1)]
theorem Zo{α:Type}(f:α->AV)(l:List α)(n:Nat):AV.lst 1 (((l.map f).drop 0).take (n-0))=.lst 1 ((l.take n).map f):=by
 rw[Nat.sub_zero,as8,map_take]
theorem ab3{rs:List (List Rt)}(h:5<rs.length):bp rs=4:=by unfold bp;rw[ate h]
theorem akm{rs xs:List (List Rt)}(h:bp rs≠0):cr rs xs=bp rs:=by unfold cr;rw[ate h]
theorem SD{rs xs:List (List Rt)}{i:Nat}{a:List Rt}(h:bp rs=0)(ha:xs[i]?=some a)(hb:∀x∈xs.take i,cW rs.length x=0)(hn:cW rs.length a≠0):cr rs xs=cW rs.length a:=by
 unfold cr;rw[atd (by rw[h];simp)];have e:xs=xs.take i++xs.drop i:=(aqe i xs).symm;have hi:=(ap9.1 ha).1;rw[e,asz,DA _ _ (ve (fun e he=>by obtain⟨x,hx,rfl⟩:=aqd.1 he;exact hb x hx)),ap7 hi];have ha':xs[i]=a:=by rw[ar7 hi]at ha;exact Option.some.inj ha
 rw[ha'];show(if _ then _ else _)=_;rw[ate hn]
theorem Ej{n:Nat}{a:List Rat}(h:Nl n a):Nl n (fB a):=by
 rcases h with rfl |⟨j,hj,h⟩
 ·exact .inl rfl
 ·exact .inr ⟨j,hj,by rw[mR,h]⟩
theorem A0{n:Nat}{a b:List Rat}(h:Nl n a)(h':Nl n b):Nl n (ek a b):=by
 rcases h with rfl |⟨j,hj,h⟩ <;> rcases h' with rfl |⟨i,hi,h'⟩
 ·exact .inl (aqc (by rw[jc];rfl))
 ·exact .inr ⟨i,hi,by rw[jc,h'];simp⟩
 ·exact .inr ⟨j,hj,by rw[jc,h];simp⟩
 ·refine .inr ⟨max j i, by omega, ?_⟩;rw [jc,h,h'];rcases Nat.le_total j i with g | g
  ·rw[an9 g,an9 (fj g)]
  ·rw[aoo g,aoo (fj g)]
theorem Dm{a b:List Rt}{e f:Nat}(ha:NR a e)(hb:NR b f):∀x∈[a,b],(∀y∈x,y.ok)/\x.length<=281474976710656:=by
 intro x hx;simp only[asj,asf,or_false]at hx;rcases hx with rfl |rfl
 ·exact⟨ha.ok,ha.len⟩
 ·exact⟨hb.ok,hb.len⟩
theorem Gl{rs:List (List Rt)}(h:dN rs=bA (llq rs)):AV.lst 1 (rs.map nR)=.lst 1 ((llq rs).map nA):=by
 unfold dN bA at h
 injection h with h
 injection h
theorem Dq{x:Rt}:x.q+(rt 0).q=x.q:=by rw[bE,Rat.add_zero]
theorem yP{e:Nat}(h:aa .neq (e:Int) 0=true):e≠0:=by
 have:(e:Int)≠0:=by simpa[aa]using h
 omega
theorem wK{e:Nat}(h:aa .neq (e:Int) 0=false):e=0:=by
 have:(e:Int)=0:=by simpa[aa]using h
 omega
structure Tn where
  t:Rt
  half:Bool
namespace Tn
def av(x:Tn):AV:=.agg [bl x.t.neg,ws x.t.num,ws x.t.den,bl x.half]
def err(x:Tn):Nat:=if x.t.valid=true/\(x.half=true->x.t.q=0)then 0 else 2
end Tn
def ce(half:Bool)(t:Rat):Rat:=if half then -1 else(1-t*t)/(1+t*t)
def b8(half:Bool)(t:Rat):Rat:=if half then 0 else(t+t)/(1+t*t)
theorem Tn.err_yes{x:Tn}(h:cond (!x.t.valid) true (cond x.half (aa .neq (a9 x.t.q) 0) false)=true):x.err=2:=by
 unfold Tn.err;rw[atd];rintro⟨h1,h2⟩;rw[h1]at h;cases hh:x.half
 ·rw[hh]at h;cases h
 ·rw[hh,h2 hh]at h;cases h
theorem Tn.err_no{x:Tn}(h:cond (!x.t.valid) true (cond x.half (aa .neq (a9 x.t.q) 0) false)=false):x.err=0:=by
 unfold Tn.err;rw[ate];cases hv:x.t.valid
 ·rw[hv]at h;cases h
 ·rw [hv] at h;refine ⟨rfl,fun hh=>?_⟩;rw [hh] at h;have:a9 x.t.q = 0:=by simpa [aa] using h
  exact yu this
theorem Tn.ok_valid{x:Tn}(h:x.err=0):x.t.valid=true:=by
 unfold Tn.err at h;split at h
 ·rename_i h1;exact h1.1
 ·cases h
theorem aez(p:Rat):p/0=0:=by rw[Rat.div_def,Rat.inv_zero,Rat.mul_zero]
structure Plc where
  x:Rt
  y:Rt
def Plc.av(p:Plc):AV:=.agg [bl p.x.neg,ws p.x.num,ws p.x.den,bl p.y.neg,ws p.y.num,ws p.y.den]
structure Pse where
  turn:Tn
  at_:Plc
def Pse.av(p:Pse):AV:=.agg [bl p.turn.t.neg,ws p.turn.t.num,ws p.turn.t.den,bl p.turn.half,bl p.at_.x.neg,ws p.at_.x.num,ws p.at_.x.den,bl p.at_.y.neg,ws p.at_.y.num,ws p.at_.y.den]
def Pse.ok(p:Pse):Bool:=decide (p.turn.err=0)&&p.at_.x.valid&&p.at_.y.valid
theorem oP(a b:Bool):cond a b false=(a&&b):=by cases a <;> rfl
theorem G6{x:Blk}(hx:x.nm=[]){k:Nat}(h:x.Names k):False:=by
 have:=h.mem;rw[hx]at this;cases this
theorem DU{ext:Nat->Prop}{k d:Nat}{x:Blk}{m m2:Nat->Option Nat}{w:atr}(hx:x.nm=[])(h:m2 d=m k)(hr:HeapRel ext [(k,some x)] m w):HeapRel ext [(d,some x)] m2 w:=by
 refine⟨?_,?_,?_⟩
 ·intro k' z hz;obtain⟨rfl,h9⟩:=io hz;cases h9;have h1:=hr.blk k _ (by rw[aE,ate rfl]);rw[me h (y:=x) (x:=x)];exact BlkRep.mono (w:=w) (fun _ _ h=>h) (fun _ _ h=>h) (fun _ _ hn=>(G6 hx hn).elim) h (fun _ _=>rfl) h1
 ·intro k1 k2 z z' b h1 h2 _ _;rw[(io h1).1,(io h2).1]
 ·intro k' z b hz hb;obtain⟨rfl,h9⟩:=io hz;cases h9;exact hr.sep k _ b (by rw[aE,ate rfl]) (h▸hb)
theorem Con.rekeyB{P:atq}{f:FuncId}{k off:Nat}{x x':Blk}{xs:List AV}{r:AV}(d:Nat)(hx:x.nm=[])(hx':x'.nm=[])(ji:(xs.all fun x=>x.nm.isEmpty)=true)(hr:r.nm=[])
  (h:Con P f (.ptr k off::xs) [(k,some x)] r [(k,some x')]):Con P f (.ptr d off::xs) [(d,some x)] r [(d,some x')]:=by
 refine⟨h.ok,?_⟩;intro ext m w vs hext ch cV db
 have h1 := h.ret ext (fun _ => m d) w vs hext (DU (k := d) hx rfl ch) (by simpa using cV) (by
  intro j v y hv hy;rw[me (d:=k) (k:=d) (y:=x) (x:=x) (m2:=fun _=>m d) (m:=m) rfl]
  match j,hy with
  |0,hy =>
   cases hy;have h2:=db 0 v _ hv rfl;cases h2 with
   |ptr hm=>exact .ptr hm
  |j+1,hy =>
   have h2:=db (j+1) v y hv hy;refine kN ?_ h2;have:=asd.1 ji y (ar1 hy);simpa using this)
 refine Calls.mono h1 ?_;rintro e w' ⟨v,m',rfl,hf,hh,hn,hk,aV⟩
 have ho:aW [(k,some x)] (fun _=>m d)=aW [(d,some x)] m:=by
  funext b;apply propext;rw[mJ,mJ]
 refine⟨v,fun _=>m' k,rfl,ho▸hf,DU (k:=k) hx' rfl hh,?_,?_,?_⟩
 ·intro k' x b hx hb;rw[<- ho];exact hn k _ b (by rw[aE,ate rfl]) hb
 ·intro k' x y hx hy;obtain⟨rfl,_⟩:=io hx;exact hk k _ _ (by rw[aE,ate rfl]) (by rw[aE,ate rfl])
 ·rw[me (d:=d) (k:=k) (y:=x') (x:=x') (m2:=fun _=>m' k) (m:=m') rfl];exact kN hr aV
structure Nm(n e:Nat)(l:List Rat):Prop where
  five:n<=5
  nl:Nl n l
  cb:Cb e l
theorem Nm.mono{n e f:Nat}{l:List Rat}(h:Nm n e l)(hf:e<=f):Nm n f l:=⟨h.five,h.nl,h.cb.mono hf⟩
theorem Nm.rt{n e:Nat}{l:List Rat}(h:Nm n e l)(he:e<=lm n):NR (l.map Go.Lw.rt) e:=by
 have nh:=rF n;refine⟨?_,by have:=h.nl.len5 h.five;rw[ar3];omega,by rw[kQ];exact h.cb⟩;intro x hx;obtain⟨q,hq,rfl⟩:=aqd.1 hx;exact(h.cb.qs oz hq).ok
theorem Nm.chk{n e:Nat}{l:List Rat}(h:Nm n e l):cW n (l.map Go.Lw.rt)=0:=vf h.nl
theorem Nm.add{n e f:Nat}{a b:List Rat}(ha:Nm n e a)(hb:Nm n f b):Nm n (e+f+1) (sh n (T.add n (ai n a) (ai n b))):=by
 refine⟨ha.five,iI _ _,?_⟩;rw[<- qj];exact(ha.cb.plus hb.cb).sh (A0 ha.nl hb.nl)
theorem Nm.neg{n e:Nat}{a:List Rat}(ha:Nm n e a):Nm n e (sh n (T.neg n (ai n a))):=by
 refine⟨ha.five,iI _ _,?_⟩;rw[<- wa];exact ha.cb.minus.sh (Ej ha.nl)
theorem Nm.sub{n e f:Nat}{a b:List Rat}(ha:Nm n e a)(hb:Nm n f b):Nm n (e+f+1) (sh n (T.add n (ai n a) (T.neg n (ai n b)))):=by
 refine⟨ha.five,iI _ _,?_⟩;rw[<- wa,<- qj];exact(ha.cb.plus hb.cb.minus).sh (A0 ha.nl (Ej hb.nl))
abbrev kB(r n:Nat):Nat:=eB r n
theorem Nm.mul{ts:LL}{r n e f:Nat}(tw:Tw ts r)(hn:n=ts.length){a b:List Rat}(ha:Nm n e a)(hb:Nm n f b):Nm n (e+f+kB r n) (sh n (T.mul (aI ts) n (ai n a) (ai n b))):=by
 subst hn;refine⟨ha.five,iI _ _,?_⟩;have h1:=iX ts ts.length tw.ok.1 ts.length ts.length a b (ar8 _) (ar8 _) ha.nl hb.nl;have h2:=Cb.mul tw.ok (k:=ts.length) (ar8 ts.length) (ar8 _) ha.nl hb.nl ha.cb hb.cb;rw[<- h1.2];exact h2.sh h1.1
theorem Nm.ofQ{n e:Nat}(hn:n<=5){q:Rat}(h:Cb e [q]):Nm n e (sh 0 (q:Rat)):=by
 refine⟨hn,(iI 0 q).mono (ase _),?_⟩;have:=h.sh (k:=0) (.inr ⟨0,ar8 _,rfl⟩);exact this
theorem Cb.one{e:Nat}{q:Rat}(h:Qb e q):Cb e [q]:=by
 refine⟨q.den,q.num.natAbs,⟨by have:=q.den_nz;omega,?_⟩,an4 h.2,an4 h.1⟩;intro x hx;rw[aqf.1 hx];refine⟨q.num,?_,ar8 _⟩
 have hd:((q.den:Int):Rat)≠0:=by
  intro h0;have:(q.den:Int)=0:=aqy.1 h0;have:=q.den_nz;omega
 have hq:q=(q.num:Rat)/((q.den:Int):Rat):=by
  rw[<- Rat.divInt_eq_div,aq1]
 have h1:(q.num:Rat)/((q.den:Int):Rat)*((q.den:Int):Rat)=(q.num:Rat):=Rat.div_mul_cancel hd;rw[<- hq]at h1;exact h1
theorem nF(n:Nat)(q:Rat):ai n (sh 0 (q:Rat))=T.ofQ n q:=by
 show ai n (if q=0 then[]else[q])=_;split
 ·rename_i h;subst h;rw[rz]
  induction n with
  |zero=>rfl
  |succ n ih=>simp only[T.zero,T.ofQ,ih]
 ·exact tT n q
def aQ(x y:List Rat):AV:=.agg [nA x,nA y]
def jT(ts:LL):Blk:=.box [.lst 1 (ts.map nA),.v .nilIface]
theorem Oz{ts:LL}{r e:Nat}(tw:Tw ts r){a:List Rat}(ha:Nm ts.length e a):cr (ts.map (List.map rt)) [a.map rt]=0:=by
 refine BP tw.chk (fun x hx=>?_);rw[aqf.1 hx,ar3];exact ha.chk
theorem Dk{ts:LL}{r e f:Nat}(tw:Tw ts r){a b:List Rat}(ha:Nm ts.length e a)(hb:Nm ts.length f b):cr (ts.map (List.map rt)) [a.map rt,b.map rt]=0:=by
 refine BP tw.chk (fun x hx=>?_);rw[ar3];simp only[asj,asf,or_false]at hx;rcases hx with rfl |rfl
 ·exact ha.chk
 ·exact hb.chk
def kE:List (List Rat×List Rat)->LL
  |[]=>[]
  |p::l=>p.1::p.2::kE l
theorem SN:∀(a b:List (List Rat×List Rat)),kE (a++b)=kE a++kE b
 |[],b=>rfl
 |p::a,b=>by simp only[cons_append,kE,SN a b]
theorem Bl:∀(a:List (List Rat×List Rat)),(kE a).length=2*a.length
 |[]=>rfl
 |p::a=>by simp only[kE,asi,Bl a];omega
theorem Qc{P:List Rat->Prop}:∀{ps:List (List Rat×List Rat)},(∀p∈ps,P p.1/\P p.2)->∀l∈kE ps,P l
 |[],_,l,h=>by cases h
 |p::ps,hp,l,h=>by
  simp only[kE,asj]at h;rcases h with rfl |rfl |h
  ·exact(hp p (by simp)).1
  ·exact(hp p (by simp)).2
  ·exact Qc (fun q hq=>hp q (by simp[hq])) l h
theorem bt{s:AS}{k:Nat}{x:Blk}(h:lk s.hp k=some x):∀k' z,lk [(k,some x)] k'=some z->lk s.hp k'=some z:=by
 intro k' z hz;obtain⟨rfl,h9⟩:=io hz;cases h9;exact h
def wd(ts:LL)(a b c d:T ts.length):T ts.length:=T.add ts.length (T.mul (aI ts) ts.length a c) (T.mul (aI ts) ts.length b d)
def vq(ts:LL)(a b c d:T ts.length):T ts.length:=T.add ts.length (T.mul (aI ts) ts.length a d) (T.neg ts.length (T.mul (aI ts) ts.length b c))
theorem HF{ts:LL}{a b c d:T ts.length}:T.add ts.length (ai ts.length (sh ts.length (T.mul (aI ts) ts.length a c))) (ai ts.length (sh ts.length (T.mul (aI ts) ts.length b d)))=wd ts a b c d:=by
 rw[di,di];rfl
theorem Ic{ts:LL}{a b c d:T ts.length}:T.add ts.length (ai ts.length (sh ts.length (T.mul (aI ts) ts.length a d))) (T.neg ts.length (ai ts.length (sh ts.length (T.mul (aI ts) ts.length b c))))=vq ts a b c d:=by
 rw[di,di];rfl
abbrev subT(ts:LL)(x y:T ts.length):T ts.length:=T.add ts.length x (T.neg ts.length y)
theorem OJ{ts:LL}{r e f:Nat}(tw:Tw ts r){a b c d:List Rat}(ha:Nm ts.length e a)(hb:Nm ts.length e b)(hc:Nm ts.length f c)(hd:Nm ts.length f d) :
  Nm ts.length (2*(e+f+kB r ts.length)+1) (sh ts.length (wd ts (ai ts.length a) (ai ts.length b) (ai ts.length c) (ai ts.length d))):=by
 have h:=(ha.mul tw rfl hc).add (hb.mul tw rfl hd);rw[HF]at h;exact h.mono oz
theorem QS{ts:LL}{r e f:Nat}(tw:Tw ts r){a b c d:List Rat}(ha:Nm ts.length e a)(hb:Nm ts.length e b)(hc:Nm ts.length f c)(hd:Nm ts.length f d) :
  Nm ts.length (2*(e+f+kB r ts.length)+1) (sh ts.length (vq ts (ai ts.length a) (ai ts.length b) (ai ts.length c) (ai ts.length d))):=by
 have h:=(ha.mul tw rfl hd).sub (hb.mul tw rfl hc);rw[Ic]at h;exact h.mono oz
def yR(ts:LL)(cos sin x y:T ts.length):T ts.length:=vq ts cos sin y x
def zp(ts:LL)(cos sin x y:T ts.length):T ts.length:=wd ts sin cos x y
theorem FA{ts:LL}{r e f:Nat}(tw:Tw ts r){a b c d:List Rat}(ha:Nm ts.length e a)(hb:Nm ts.length e b)(hc:Nm ts.length f c)(hd:Nm ts.length f d) :
  Nm ts.length (2*(e+f+kB r ts.length)+1) (sh ts.length (yR ts (ai ts.length a) (ai ts.length b) (ai ts.length c) (ai ts.length d))):=QS tw ha hb hd hc
theorem IS{ts:LL}{r e f:Nat}(tw:Tw ts r){a b c d:List Rat}(ha:Nm ts.length e a)(hb:Nm ts.length e b)(hc:Nm ts.length f c)(hd:Nm ts.length f d) :
  Nm ts.length (2*(e+f+kB r ts.length)+1) (sh ts.length (zp ts (ai ts.length a) (ai ts.length b) (ai ts.length c) (ai ts.length d))):=OJ tw hb ha hc hd
def Dw(ts:LL)(cos sin X:T ts.length)(x y:Rat):T ts.length:=T.add ts.length (yR ts cos sin (T.ofQ ts.length x) (T.ofQ ts.length y)) X
def AW(ts:LL)(cos sin Y:T ts.length)(x y:Rat):T ts.length:=T.add ts.length (zp ts cos sin (T.ofQ ts.length x) (T.ofQ ts.length y)) Y
theorem Tp{ts:LL}{cos sin X:T ts.length}{x y:Rat}:T.add ts.length (ai ts.length (sh ts.length (yR ts cos sin (ai ts.length (sh 0 (x:Rat))) (ai ts.length (sh 0 (y:Rat)))))) X=Dw ts cos sin X x y:=by
 rw[di,nF,nF];rfl
theorem Ng{ts:LL}{cos sin Y:T ts.length}{x y:Rat}:T.add ts.length (ai ts.length (sh ts.length (zp ts cos sin (ai ts.length (sh 0 (x:Rat))) (ai ts.length (sh 0 (y:Rat)))))) Y=AW ts cos sin Y x y:=by
 rw[di,nF,nF];rfl
theorem Sub.fn0(f:FuncId):Sub (.v (.func (.func f) #[] #[])) (.fn f []):=fun g S m v h=>by
 cases h;exact .fn rfl (fun j u c hu hc=>by simp at hc)
theorem Yo{e k m:Nat}(h:8*e+4*k+4<=m):2*(2*(e+e+k)+1)<=m:=by omega
theorem adi{rs:List (List Rt)}{a:List Rt}(h:bp rs=0):cr rs [a]=cW rs.length a:=by
 unfold cr;rw[atd (by rw[h];simp)];show(if _ then _ else 0)=_;split
 ·rfl
 ·rename_i h1;exact(ar0.1 h1).symm
def Bs(ts:LL)(x y:T ts.length):Bool:=decide (T.sgn (aI ts) ts.length (subT ts x y)=0)
theorem zw{n:Int}(h:-9223372036854775808<=n/\n<=9223372036854775807):Qs ((n:Rat)):=by
 refine⟨2,by unfold iu;omega,?_,?_⟩
 ·unfold Lz;simp only[Rat.num_intCast,Nat.reducePow];omega
 ·unfold Lz;simp only[Rat.den_intCast];decide
def fg(s:ByteArray)(i:Nat):Nat:=(s.data.getD i 0).toNat
def fW(c:Nat):Bool:=decide (97<=c/\c<=122)||decide (65<=c/\c<=90)
def vJ(c:Nat):Bool:=decide (48<=c/\c<=57)
def nv(c:Nat):Bool:=fW c||vJ c||decide (c=95)
def rV(s:ByteArray):Nat->Nat->Bool
  |_,0=>true
  |i,n+1=>nv (fg s i)&&rV s (i+1) n
def km(s:ByteArray):Bool:=decide (0<s.size/\s.size<=24)&&fW (fg s 0)&&rV s 0 s.size
def gY(s:ByteArray):Nat->Nat->Nat
  |i,0=>i
  |i,n+1=>if nv (fg s i)then gY s (i+1) n else i
theorem OL(s:ByteArray):∀(n i:Nat),i<=gY s i n/\gY s i n<=i+n
 |0,i=>⟨ar8 _,ar8 _⟩
 |n+1,i=>by
  simp only[gY];split
  ·have:=OL s n (i+1);omega
  ·omega
theorem FQ(s:ByteArray):∀(n i:Nat),gY s i n=i+n↔rV s i n=true
 |0,i=>by simp[gY,rV]
 |n+1,i=>by
  simp only[gY,rV,ar5];split
  ·rename_i h;rw[<- FQ s n (i+1),show i+(n+1)=i+1+n by omega];simp[h]
  ·rename_i h;constructor
   ·intro h';omega
   ·intro h';exact atk h'.1 h
theorem XC{c:Nat}(h:fW c=true):nv c=true:=by unfold nv;rw[h];rfl
def gI(s:ByteArray):Nat:=if 0<s.size/\fW (fg s 0)=true then gY s 1 (s.size-1)else 0
theorem Xe(s:ByteArray):km s=decide (0<gI s/\gI s=s.size/\gI s<=24):=by
 unfold km gI;rw[aq8];simp only[ar5,atf]
 by_cases h:0<s.size/\fW (fg s 0)=true
 ·rw[ate h];obtain⟨h1,h2⟩:=h;have h3:=FQ s (s.size-1) 1
  have h4:rV s 0 s.size=rV s 1 (s.size-1):=by
   obtain⟨n,hn⟩:∃n,s.size=n+1:=⟨s.size-1,by omega⟩
   rw[hn];simp only[rV,XC h2,are,aod]
  have h5:=OL s (s.size-1) 1;rw[h4,<- h3];constructor
  ·rintro⟨⟨h6,h7⟩,h8⟩;omega
  ·rintro⟨h6,h7,h8⟩;exact⟨⟨by omega,h2⟩,by omega⟩
 ·rw[atd h];constructor
  ·rintro⟨⟨h1,h2⟩,h3⟩;exact atk ⟨h1.1,h2⟩ h
  ·rintro⟨h1,_⟩;omega
theorem W6(s:ByteArray)(h0:0<s.size)(h24:s.size<=24):km s=decide ((if fW (fg s 0)then gY s 0 s.size else 0)=s.size):=by
 unfold km;rw[aq8];simp only[ar5,atf];have h3:=FQ s s.size 0;rw[aoj]at h3
 by_cases h:fW (fg s 0)=true
 ·rw[ate h,h3];exact⟨fun h=>h.2,fun h'=>⟨⟨⟨h0,h24⟩,h⟩,h'⟩⟩
 ·rw[atd h];exact⟨fun h'=>atk h'.1.2 h,fun h'=>by omega⟩
def ez(a b:ByteArray):Bool:=a.toList==b.toList
def fI(n:Nat)(err:Nat->Nat):Nat:=iH ((List.range n).map err)
theorem fx{n i:Nat}{err:Nat->Nat}(hi:i<n)(h:∀j,j<i->err j=0)(he:err i≠0):fI n err=err i:=by
 unfold fI
 have e:List.range n=List.range i++(i::(List.range' (i+1) (n-(i+1)))):=by
  obtain⟨d,rfl⟩:∃d,n=i+(d+1):=⟨n-i-1,by omega⟩
  rw[List.range_eq_range',List.range_eq_range',<- List.range'_append_1,aoj,List.range'_succ,show i+(d+1)-(i+1)=d by omega]
 rw[e,asz,DA _ _ (ve (fun x hx=>by
  obtain⟨j,hj,rfl⟩:=aqd.1 hx;exact h j (apt.1 hj)))]
 show(if err i≠0 then err i else _)=_;rw[ate he]
theorem ry{n:Nat}{err:Nat->Nat}(h:∀j,j<n->err j=0):fI n err=0 :=
 ve (fun x hx=>by obtain⟨j,hj,rfl⟩:=aqd.1 hx;exact h j (apt.1 hj))
theorem zt{n:Nat}{err:Nat->Nat}(h:fI n err=0):∀j,j<n->err j=0:=fun j hj =>
 wm h _ (aqd.2 ⟨j,apt.2 hj,rfl⟩)
structure Mk where
  name:ByteArray
  x:Rt
  y:Rt
instance:Inhabited Mk:=⟨⟨default,⟨false,[],[]⟩,⟨false,[],[]⟩⟩⟩
def Mk.av(m:Mk):AV:=.agg [.v (.string m.name),bl m.x.neg,ws m.x.num,ws m.x.den,bl m.y.neg,ws m.y.num,ws m.y.den]
structure Bd where
  name:ByteArray
  pts:List Mk
instance:Inhabited Bd:=⟨⟨default,[]⟩⟩
def Bd.av(b:Bd):AV:=.agg [.v (.string b.name),.lst 7 (b.pts.map Mk.av)]
structure Jt where
  name:ByteArray
  kind:Int
  a:Int
  point:Int
  b:Int
  on:Int
  to:Int
instance:Inhabited Jt:=⟨⟨default,0,0,0,0,0,0⟩⟩
def Jt.av(j:Jt):AV:=.agg [.v (.string j.name),i64 j.kind,i64 j.a,i64 j.point,i64 j.b,i64 j.on,i64 j.to]
structure Dr where
  name:ByteArray
  body:Int
instance:Inhabited Dr:=⟨⟨default,0⟩⟩
def Dr.av(d:Dr):AV:=.agg [.v (.string d.name),i64 d.body]
structure Li where
  name:ByteArray
  bo:List Bd
  jo:List Jt
  drivers:List Dr
def Li.av(l:Li):AV:=.agg [.v (.string l.name),.lst 2 (l.bo.map Bd.av),.lst 7 (l.jo.map Jt.av),.lst 2 (l.drivers.map Dr.av)]
structure Mk.ok(m:Mk):Prop where
  x:m.x.ok
  y:m.y.ok
  qx:Qb 1000 m.x.q
  qy:Qb 1000 m.y.q
structure Bd.ok(b:Bd):Prop where
  pts:∀m∈b.pts,m.ok
  names:∀m∈b.pts,m.name.size<=281474976710656
  ll:b.pts.length<=281474976710656
  name:b.name.size<=281474976710656
structure Li.ok(l:Li):Prop where
  name:l.name.size<=281474976710656
  bo:∀b∈l.bo,b.ok
  jnames:∀j∈l.jo,j.name.size<=281474976710656
  dnames:∀d∈l.drivers,d.name.size<=281474976710656
  lb:l.bo.length<=281474976710656
  lj:l.jo.length<=281474976710656
  ld:l.drivers.length<=281474976710656
def ic(l:List ByteArray)(i:Nat):Bool:=(l.take i).any (fun n=>ez n (l.getD i default))
def fi(ps:List Mk)(i:Nat):Nat :=
  if km (ps.getD i default).name=false then 5 else if ic (ps.map Mk.name) i=true then 6
  else if(ps.getD i default).x.valid=true/\(ps.getD i default).y.valid=true then 0 else 3
def fv(bs:List Bd)(i:Nat):Nat :=
  if km (bs.getD i default).name=false then 5 else if ic (bs.map Bd.name) i=true then 6
  else if 8<(bs.getD i default).pts.length then 4 else fI (bs.getD i default).pts.length (fi (bs.getD i default).pts)
def aZ(i:Int)(n:Nat):Bool:=decide (0<=i/\i<n)
def bT(l:Li)(i:Int):List Mk:=(l.bo.getD i.toNat default).pts
def fF(l:Li)(j:Jt):Nat :=
  if j.kind≠0/\j.kind≠1 then 7
  else if aZ j.a l.bo.length=false\/aZ j.b l.bo.length=false then 9
  else if j.a=j.b then 13
  else if aZ j.point (bT l j.a).length=false\/aZ j.on (bT l j.b).length=false then 9
  else if j.kind=0 then(if j.to≠0 then 2 else 0)
  else if aZ j.to (bT l j.b).length=false then 9
  else if((bT l j.b).getD j.on.toNat default).x.q=((bT l j.b).getD j.to.toNat default).x.q/\((bT l j.b).getD j.on.toNat default).y.q=((bT l j.b).getD j.to.toNat default).y.q then 8
  else 0
def iK(l:Li)(i:Nat):Nat :=
  if km (l.jo.getD i default).name=false then 5 else if ic (l.jo.map Jt.name) i=true then 6 else fF l (l.jo.getD i default)
def eL(l:Li)(i:Nat):Nat :=
  if km (l.drivers.getD i default).name=false then 5 else if ic (l.drivers.map Dr.name) i=true then 6
  else if aZ (l.drivers.getD i default).body l.bo.length=false then 9
  else if(l.drivers.getD i default).body=0 then 7
  else if(l.drivers.take i).any (fun d=>decide (d.body=(l.drivers.getD i default).body))=true then 6 else 0
def jx(l:Li):Nat:=fI l.bo.length (fv l.bo)
def fE(l:Li):Nat:=if 16<l.jo.length then 4 else fI l.jo.length (iK l)
def iW(l:Li):Nat:=if 2<l.drivers.length then 4 else fI l.drivers.length (eL l)
def ax(l:Li):Nat :=
  if km l.name=false then 5 else if l.bo.length=0 then 10 else if 8<l.bo.length then 4
  else if jx l≠0 then jx l else if fE l≠0 then fE l else iW l
theorem aS{α:Type}{l:List α}{i:Nat}{x d:α}(h:l[i]?=some x):l.getD i d=x:=by rw[ar2,h];rfl
theorem ri{α:Type}(f:α->ByteArray){l:List α}{i:Nat}{x:α}(h:l[i]?=some x):ic (l.map f) i=(l.take i).any (fun y=>ez (f y) (f x)):=by
 unfold ic;have h1:(l.map f).getD i default=f x:=aS (by rw[asa,h];rfl);rw[h1,<- map_take,List.any_map];rfl
theorem nI{α:Type}{p:α->Bool}{l:List α}{k:Nat}{x:α}(h:l[k]?=some x)(hn:(l.take k).any p=false)(hp:p x=false):(l.take (k+1)).any p=false:=by
 rw[fO h,List.any_append,hn];simp[hp]
theorem oD{α:Type}{p:α->Bool}{l:List α}{k i:Nat}{x:α}(h:l[k]?=some x)(hk:k<i)(hp:p x=true):(l.take i).any p=true:=by
 rw[List.any_eq_true];exact⟨x,ar1 (by rw[asy,ate hk];exact h),hp⟩
theorem QX(s:ByteArray):(s.toList==ByteArray.toList ⟨#[]⟩)=decide (s.size=0):=by
 have e:ByteArray.toList ⟨#[]⟩=[]:=Go.ByteArray.toList_eq _;have h:s.toList.length=s.size:=by rw[Go.ByteArray.toList_eq];cases s;rfl
 rw[e,aq8,beq_iff_eq,atf];constructor
 ·intro h';rw[h']at h;simpa using h.symm
 ·intro h';exact aqc oz
theorem Sx{s:ByteArray}(h:(s.toList==ByteArray.toList ⟨#[]⟩)=false):0<s.size:=by
 rw[QX,decide_eq_false_iff_not]at h;omega
theorem aT{a b:Nat}(h:aa .lss (a:Int) (b:Int)=true):a<b:=by
 have:(a:Int)<b:=atg h;omega
theorem vL{a b:Nat}(h:aa .lss (a:Int) (b:Int)=false):b<=a:=by
 have:¬(a:Int)<b:=ath h;omega
theorem Z9{a b:Nat}{p:Bool}(h:cond (aa .lss (a:Int) (b:Int)) p false=true):a<b/\p=true:=by
 cases h1:aa .lss (a:Int) (b:Int)
 ·rw[h1]at h;cases h
 ·rw[h1]at h;exact⟨aT h1,h⟩
theorem VJ{a b:Nat}{p:Bool}(h:cond (aa .lss (a:Int) (b:Int)) p false=false):a<b->p=false:=by
 intro h0;have h1:aa .lss (a:Int) (b:Int)=true:=ati (by omega:(a:Int)<b);rw[h1]at h;exact h
theorem al4{s:ByteArray}(h:cond (s.toList==ByteArray.toList ⟨#[]⟩) true (!fW (fg s 0))=true):gI s=0:=by
 unfold gI;rw[atd];rintro⟨h1,h2⟩;rw[QX,atj oz,h2]at h;cases h
theorem adn{s:ByteArray}(h:cond (s.toList==ByteArray.toList ⟨#[]⟩) true (!fW (fg s 0))=false):0<s.size/\fW (fg s 0)=true:=by
 cases h1:(s.toList==ByteArray.toList ⟨#[]⟩)
 ·rw[h1]at h;exact⟨Sx h1,by simpa using h⟩
 ·rw[h1]at h;cases h
theorem Ns{s:ByteArray}{i:Nat}(h:s.size<=i):fg s i=0:=by
 unfold fg;have:s.data.size<=i:=h;simp[asc,arv this]
theorem Z8(s:ByteArray):cond (cond (aa .gtr (gI s:Int) 0) (aa .eql (gI s:Int) (s.size:Int)) false) (aa .leq (gI s:Int) 24) false=km s:=by
 rw[Xe,aq8,atf];cases h1:aa .gtr (gI s:Int) 0
 ·have:¬(gI s:Int)>0:=ath h1;simp;omega
 ·have h1:(gI s:Int)>0:=atg h1;cases h2:aa .eql (gI s:Int) (s.size:Int)
  ·have : (gI s : Int) ≠ s.size := by simpa [aa] using h2
   simp;omega
  ·have h2:(gI s:Int)=s.size:=eq_of_beq h2
   have h3:aa .leq (gI s:Int) 24=true↔gI s<=24:=by
    show decide ((gI s:Int)<=24)=true↔_;rw[atf];omega
   simp only[cond_true,h3];omega
theorem agx(s:ByteArray):cond (cond (aa .gtr (s.size:Int) 0) (aa .leq (s.size:Int) 24) false) (aa .eql (((if fW (fg s 0)then gY s 0 s.size else 0:Nat)):Int) (s.size:Int)) false=km s:=by
 cases h1:aa .gtr (s.size:Int) 0
 ·have h1:¬(s.size:Int)>0:=ath h1;unfold km;rw[atj (show ¬(0<s.size/\s.size<=24) by omega)];rfl
 ·have h1:(s.size:Int)>0:=atg h1;cases h2:aa .leq (s.size:Int) 24
  ·have h2:¬(s.size:Int)<=24:=ath h2;unfold km;rw[atj (show ¬(0<s.size/\s.size<=24) by omega)];rfl
  ·have h2:(s.size:Int)<=24:=atg h2;rw[W6 s oz oz];simp only[cond_true];rw[aq8,atf];generalize(if fW (fg s 0)=true then gY s 0 s.size else 0)=m;show(((m:Int)==(s.size:Int))=true)↔_;rw[beq_iff_eq];omega
theorem zq{α:Type}(sz:Nat)(f:α->AV)(l:List α)(n:Nat):AV.lst sz (((l.map f).drop 0).take (n-0))=.lst sz ((l.take n).map f):=by
 rw[Nat.sub_zero,as8,map_take]
theorem yo{α:Type}{l:List α}{i k:Nat}{x:α}(h:(l.take i)[k]?=some x):l[k]?=some x/\k<i:=by
 rw[asy]at h;split at h
 ·rename_i hk;exact⟨h,hk⟩
 ·cases h
theorem Q4(i:Int)(n:Nat):cond (aa .geq i 0) (aa .lss i (n:Int)) false=aZ i n:=by
 unfold aZ;rw[aq8,atf];cases h:aa .geq i 0
 ·have:¬i>=0:=ath h;simp;omega
 ·have h:i>=0:=atg h;show decide (i<(n:Int))=true↔_;rw[atf];omega
theorem fd{i:Int}{n:Nat}(h:aZ i n=true):0<=i/\i<n:=atg h
theorem uc{p q:Bool}(h:cond (!p) true (!q)=true):p=false\/q=false:=by cases p <;> cases q <;> simp_all
theorem tb{p q:Bool}(h:cond (!p) true (!q)=false):p=true/\q=true:=by cases p <;> cases q <;> simp_all
theorem el{p:Bool}(h:(!p)=true):p=false:=by cases p <;> simp_all
theorem fP{p:Bool}(h:(!p)=false):p=true:=by cases p <;> simp_all
theorem ee{a b:Nat}(h:aa .gtr (a:Int) (b:Int)=true):b<a:=by
 have:(a:Int)>b:=atg h;omega
theorem kl{a b:Nat}(h:aa .gtr (a:Int) (b:Int)=false):a<=b:=by
 have:¬(a:Int)>b:=ath h;omega
theorem bc{a b:Nat}(bR:a<=b)(h:aa .lss (a:Int) (b:Int)=false):a=b:=by have:=vL h;omega
theorem dJ{x y:Int}(h:aa .eql x y=true):x=y:=by simpa[aa]using h
theorem du{x y:Int}(h:aa .eql x y=false):x≠y:=by simpa[aa]using h
theorem A7{x y:Int}(h:aa .neq x y=true):x≠y:=by simpa[aa]using h
theorem Sb{x y:Int}(h:aa .neq x y=false):x=y:=by simpa[aa]using h
theorem Rg{k:Int}(h:cond (aa .neq k 0) (aa .neq k 1) false=true):k≠0/\k≠1:=by
 cases h1:aa .neq k 0
 ·rw[h1]at h;cases h
 ·rw[h1]at h;exact⟨A7 h1,A7 h⟩
theorem QD{k:Int}(h:cond (aa .neq k 0) (aa .neq k 1) false=false):¬(k≠0/\k≠1):=by
 rintro⟨h1,h2⟩;have e1:aa .neq k 0=true:=by simpa[aa]using h1
 have e2:aa .neq k 1=true:=by simpa[aa]using h2
 rw[e1,e2]at h;cases h
theorem NH{p q r s:Rat}(h:cond (aa .eql (a9 (p-q)) 0) (aa .eql (a9 (r-s)) 0) false=true):p=q/\r=s:=by
 cases h1:aa .eql (a9 (p-q)) 0
 ·rw[h1]at h;cases h
 ·rw[h1]at h;have e1:=yu (dJ h1);have e2:=yu (dJ h);exact⟨by grind,by grind⟩
theorem SE{p q r s:Rat}(h:cond (aa .eql (a9 (p-q)) 0) (aa .eql (a9 (r-s)) 0) false=false):¬(p=q/\r=s):=by
 rintro⟨rfl,rfl⟩;rw[Rat.sub_self,Rat.sub_self]at h;cases h
theorem vi{l:Li}{i:Int}(h:aZ i l.bo.length=true):∃b,l.bo[i.toNat]?=some b/\bT l i=b.pts/\b∈l.bo/\0<=i:=by
 have h1:=fd h;obtain⟨b,hb⟩:=aJ (l:=l.bo) (i:=i.toNat) oz;exact⟨b,hb,by unfold bT;rw[aS hb],ar1 hb,h1.1⟩
theorem zK{ps:List Mk}{i:Int}(h:aZ i ps.length=true):∃m,ps[i.toNat]?=some m/\ps.getD i.toNat default=m/\m∈ps/\0<=i:=by
 have h1:=fd h;obtain⟨m,hm⟩:=aJ (l:=ps) (i:=i.toNat) oz;exact⟨m,hm,aS hm,ar1 hm,h1.1⟩
theorem wQ{x y:Int}:aa .eql x y=decide (x=y):=by
 show(x==y)=decide (x=y);rw[aq8,beq_iff_eq,atf]
theorem Rd{n:Nat}(h:aa .eql (n:Int) 0=true):n=0:=by have:=dJ h;omega
theorem LD{n:Nat}(h:aa .eql (n:Int) 0=false):n≠0:=by have:=du h;omega
theorem afm{p q r s:Rat}:cond (aa .eql (a9 (p-q)) 0) (aa .eql (a9 (r-s)) 0) false=decide (p=q/\r=s):=by
 cases h:cond (aa .eql (a9 (p-q)) 0) (aa .eql (a9 (r-s)) 0) false
 ·exact(atj (SE h)).symm
 ·exact(ati (NH h)).symm
def Rt.wok(r:Rt):Prop:=Ws r.num/\Ws r.den
theorem Rt.wok.ok{r:Rt}{k:Nat}(h:r.wok)(hn:r.num.length<=k)(hd:r.den.length<=k)(hk:k<=100):r.ok:=⟨h.1,h.2,by unfold iu;omega,by unfold iu;omega⟩
theorem Rt.ok.wok{r:Rt}(h:r.ok):r.wok:=⟨h.1,h.2.1⟩
def ud(l:List (List Rt)):Prop:=∀x∈l,(∀r∈x,r.wok)/\x.length<=281474976710656
theorem ud.app{a b:List (List Rt)}(ha:ud a)(hb:ud b):ud (a++b):=fun x hx=>by
 rcases ar9.1 hx with h |h
 ·exact ha x h
 ·exact hb x h
structure Pl where
  c:List Rt
  s:List Rt
  x:List Rt
  y:List Rt
instance:Inhabited Pl:=⟨⟨[],[],[],[]⟩⟩
def Pl.av(p:Pl):AV:=.agg [nR p.c,nR p.s,nR p.x,nR p.y]
def Pl.l(p:Pl):List (List Rt):=[p.c,p.s,p.x,p.y]
structure As where
  rs:List (List Rt)
  bs:List Pl
  ms:List Int
def As.av(a:As):AV:=.agg [.lst 1 (a.rs.map nR),.lst 4 (a.bs.map Pl.av),.lst 1 (a.ms.map i64)]
structure As.ok(a:As):Prop where
  rs:ud a.rs
  rl:a.rs.length<=281474976710656
  bs:∀b∈a.bs,ud b.l
  bl:a.bs.length<=281474976710656
structure AB(a:As):Prop where
  tr:TR a.rs 400000000
  nr:∀b∈a.bs,∀x∈b.l,NR x 50000000000
  ll:a.rs.length<=8
  bl:a.bs.length<=30
theorem RB.mono{r r':Nat}{ts:LL}(h:RB r ts)(hr:r<=r'):RB r' ts:=by
 obtain⟨D,N,h0,h1,h2,h3⟩:=h;exact⟨D,N,h0,h1,asv h2 (fj hr),asv h3 (fj hr)⟩
theorem TR.mono{rs:List (List Rt)}{r r':Nat}(h:TR rs r)(hr:r<=r')(hl:r'<=5000000000):TR rs r':=⟨h.ok,h.len,h.ll,h.rb.mono hr,hl,h.three⟩
theorem NR.mono{x:List Rt}{e f:Nat}(h:NR x e)(hf:e<=f):NR x f:=⟨h.ok,h.len,h.cb.mono hf⟩
theorem wL{α:Type}{l:List α}{p:α->Bool}{i:Nat}{x:α}(h:(l.take i).all p=true)(hx:l[i]?=some x)(hp:p x=true):(l.take (i+1)).all p=true:=by
 rw[fO hx,all_append,h];simp[hp]
theorem ym{α:Type}{l:List α}{p:α->Bool}{i:Nat}{x:α}(hx:l[i]?=some x)(hp:p x=false):l.all p=false:=by
 refine ara.2 (fun h=>?_);rw[asd]at h;rw[h x (ar1 hx)]at hp;cases hp
theorem u4{α:Type}{l:List α}{p:α->Bool}{i:Nat}(hi:i=l.length)(h:(l.take i).all p=true):l.all p=true:=by
 rw[hi,asK]at h;exact h
structure Li.okw(l:Li):Prop where
  name:l.name.size<=281474976710656
  pts:∀b∈l.bo,b.name.size<=281474976710656/\b.pts.length<=281474976710656/\∀m∈b.pts,m.name.size<=281474976710656/\m.x.wok/\m.y.wok
  jnames:∀j∈l.jo,j.name.size<=281474976710656
  dnames:∀d∈l.drivers,d.name.size<=281474976710656
  lb:l.bo.length<=281474976710656
  lj:l.jo.length<=281474976710656
  ld:l.drivers.length<=281474976710656
def DO(m:Mk):Bool:=decide (m.x.num.length<=4/\m.x.den.length<=4/\m.y.num.length<=4/\m.y.den.length<=4)
def Bx(b:Bd):Bool:=decide (b.pts.length<=30)&&b.pts.all DO
def GG(l:Li):Bool:=l.bo.all Bx&&decide (l.bo.length<=30/\l.jo.length<=60/\l.drivers.length<=30)
theorem Z6{m:Mk}(h:DO m=true)(hx':m.x.wok)(hy':m.y.wok):m.ok:=by
 unfold DO at h;rw[atf]at h;have hx:=hx'.ok h.1 h.2.1 oz;have hy:=hy'.ok h.2.2.1 h.2.2.2 oz;exact⟨hx,hy,(Rt.qb hx (k:=4) oz h.1 h.2.1).mono oz,(Rt.qb hy (k:=4) oz h.2.2.1 h.2.2.2).mono oz⟩
theorem Jd{l:Li}(h:GG l=true)(ho:l.okw):l.ok:=by
 unfold GG at h;rw[ar5,asd]at h;refine⟨ho.name,fun b hb=>?_,ho.jnames,ho.dnames,ho.lb,ho.lj,ho.ld⟩;have h1:=h.1 b hb;unfold Bx at h1;rw[ar5,asd]at h1;obtain⟨o1,o2,o3⟩:=ho.pts b hb;exact⟨fun m hm=>Z6 (h1.2 m hm) (o3 m hm).2.1 (o3 m hm).2.2,fun m hm=>(o3 m hm).1,o2,o1⟩
structure Pse.wok(p:Pse):Prop where
  t:p.turn.t.wok
  x:p.at_.x.wok
  y:p.at_.y.wok
theorem Pse.wok.rs{p:Pse}(h:p.wok):ud [[p.turn.t,p.at_.x],[p.at_.y]]:=by
 intro x hx;simp only[asj,asf,or_false]at hx;rcases hx with rfl |rfl
 ·refine ⟨fun r hr => ?_, by show 2 <= _; omega⟩;simp only [asj,asf,or_false] at hr;rcases hr with rfl | rfl
  ·exact h.t
  ·exact h.x
 ·refine⟨fun r hr => ?_,by show 1<=_;omega⟩;simp only[asj,asf,or_false]at hr;subst hr;exact h.y
theorem Fp(a b:Bool):cond a true b=(a||b):=by cases a <;> rfl
open Go.Proofs
theorem VY{m:List Nat}{n:Nat}(hm:Ws m)(hn:n<=m.length)(hv:val (m.take n)=val m)(h0:n≠0)(hw:ak m (n-1)≠0) :
  AV.fz 24 1 ([]++((m.map u32).drop 0).take (n-0)) (.ms 24 1 0 (0+(((m.map u32).drop 0).take (n-0)).length))=ws (ofNat (val m)):=by
 have h1:m.take n=ofNat (val m):=by
  refine M3 (fun x hx=>hm x (apg hx)) ?_ hv;intro x hx;rw[aqa,aso,aon hn,asy,ate oz,lI oz]at hx;cases hx;exact hw
 rw[tl (by simp),<- h1,ws];simp[map_take,aon hn,ap3]
theorem ael(b:Bool)(n:Nat):AV.agg [bl (bif b then aa BinOp.gtr (↑(ofNat n).length) 0 else false),ws (ofNat n)]=zA (sgn b n):=by
 have h1:(sgn b n).natAbs=n:=by unfold sgn;split <;> omega
 unfold zA ofInt Wh.av;dsimp only;rw[h1];congr 3
 have h2:(ofNat n).length=0↔n=0:=by
  rw[apv];constructor
  ·intro h;have:=cD n;rw[h]at this;exact this.symm
  ·intro h;rw[h];rfl
 cases b with
 |false=>simp[sgn]
 |true=>simp[sgn,aa];omega
theorem wC(m:List Nat)(i:Nat)(hm:Ws m):FP 314 [ws m,i64 i] (u64 (ak m i)):=by
 refine am func314 ?_;refine gl ?_;refine gC (fun z=>?_) (fun z=>?_)
 ·simp[aa]at z;have:=bX hm i;refine gi (cB (i:=i) z) ?_;refine gv (u64_in oz) ?_;refine ah ?_;rfl
 simp[aa]at z;refine ah ?_;simp[u64,vc z]
theorem pY(m:List Nat)(hm:Ws m)(hb:m.length<=aA):FP 222 [ws m] (ws (ofNat (val m))):=by
 refine am func222 ?_ (0,0);refine yj (t:=0) rfl (fun hl=>?_);refine go ?_;refine gl ?_;refine aP [0] [] (fun(n:Nat)=>[pP 3 (i64 n)]) (fun _=>[]) (fun n=>n<=m.length/\val (m.take n)=val m) (fun n=>n) m.length ⟨ar8 _,by rw[asK]⟩ ?_;rintro n ⟨hn,hv⟩ K1 J1;refine kG (fun h=>(gG (by simp[aa]at h;omega) oz)) ?_;refine nJ (fun h=>(cB (i:=n-1) (by simp[aa]at h;omega))) ?_;refine gC (fun t15=>?_) (fun t15=>?_)
 ·have t15 : 0 < n /\ ak m (n - 1) = 0 := by simpa [aa] using t15
  refine ga (gG oz oz) ?_;exact aM J1 (n-1) ⟨by omega,by have h:=@dU m (n-1);rw[show n-1+1=n by omega,t15.2]at h;simp at h;omega⟩
 have t15:0<n->ak m (n-1)≠0:=by simpa[aa]using t15
 refine gC (fun z=>?_) (fun z=>?_)
 ·have h0 : n = 0 := by simpa [aa] using z
  subst h0;refine gR ?_;exact nk (by rw[show val m=0 from hv.symm.trans rfl];exact Sub.nil _ _ _)
 have h0:n≠0:=by simpa[aa]using z
 refine gs (tf T42 rfl T87 rfl rfl rfl) ?_;refine gs (fC (.tmp rfl) (.none _) (.some _ (.tmp rfl) oz) T42 rfl T87 rfl oz (by simp;omega) rfl) ?_;refine gs (eQ (.tmp rfl) rfl rfl (.tmp rfl) T42 rfl T87 rfl rfl (by unfold aA at hb;simp only[aso,apx,ar3];omega) rfl rfl) ?_ (77777,0);refine gW (Wk.freeze (k:=24) rfl) ?_;refine go ?_;refine gR ?_;exact Nu (VY hm hn hv h0 (t15 oz))
theorem Cv(w:Wh)(h:w.ok):FP 203 [w.av] (bl w.valid):=by
 have hl:w.mag.length<=aF:=h.2;refine am func203 ?_;refine gl ?_;refine gC (fun z=>?_) (fun z=>?_)
 ·have h0 : w.mag = [] := by simpa [aa] using z
  refine ah ?_;simp[bl,Wh.valid,h0]
 have h0:w.mag.length≠0:=by simpa[aa]using z
 refine gl ?_;refine ga (gG oz oz) ?_;refine gi (cB (i:=w.mag.length-1) oz) ?_;refine ah ?_;have h1:w.mag≠[]:=fun h=>h0 (by rw[h];rfl)
 simp only[bl,Wh.valid,atd h1,aqa,lI (show w.mag.length-1<w.mag.length by omega),aa];congr 2;generalize ak w.mag _=x;rw[aq8];simp
theorem mn(w:Wh)(h:w.ok):FP 160 [w.av] (ws w.m):=by
 refine am func160 ?_;refine gc (Cv w h) ?_;refine gC (fun z=>?_) (fun z=>?_)
 ·have h0 : w.valid = false := by simpa [aa] using z
  refine gR ?_;exact nk (by rw[show w.m=[] by simp[Wh.m,h0]];exact Sub.nil _ _ _)
 have h0:w.valid=true:=by simpa[aa]using z
 refine ah ?_;simp only[Wh.m,h0];rfl
theorem kS(w:Wh)(h:w.ok):FP 216 [w.av] (bl w.n):=by
 refine am func216 ?_;refine gc (Cv w h) ?_;refine ah ?_;simp only[Wh.n,bl];cases w.valid <;> rfl
theorem ml(b:Bool)(m:List Nat)(hm:Ws m)(hb:m.length<=aA):FP 121 [bl b,ws m] (zA (sgn b (val m))):=by
 refine am func121 ?_;refine gc (pY m hm hb) ?_;refine cG ?_;refine ah ?_;exact ael b (val m)
theorem Fn(a b:List Nat)(ha:Ws a)(hb:Ws b)(na:Nz a)(nb:Nz b):FP 218 [ws a,ws b] (i64 (if val a<val b then -1 else if val b<val a then 1 else 0)):=by
 refine am func218 ?_ (0,0);refine yj (t:=0) rfl (fun oo=>?_);refine yj (t:=1) rfl (fun eY=>?_);unfold aF at oo eY;refine go ?_;refine gl ?_;refine gl ?_;refine gC (fun z=>?_) (fun z=>?_)
 ·have h0 : a.length ≠ b.length := by simpa [aa, aqx] using z
  refine gl ?_;refine gl ?_;refine gC (fun z=>?_) (fun z=>?_)
  ·have h1 : a.length < b.length := by simpa [aa] using z
   have h2:=xK ha nb h1;refine ah ?_;simp[i64,h2]
  have h1:b.length<=a.length:=by simpa[aa]using z
  have h2:=xK hb na (show b.length<a.length by omega);refine ah ?_;simp[i64,h2,Nat.lt_asymm h2]
 have h0:a.length=b.length:=by simpa[aa,aqx]using z
 refine gl ?_;refine ga (eO oz) ?_;refine aP [0,1] [] (fun(n:Nat)=>[pP 5 (i64 ((n:Int)-1))]) (fun _=>[]) (fun n=>n<=a.length/\a.drop n=b.drop n) (fun n=>n) a.length ⟨ar8 _,by rw[apn,h0,apn]⟩ ?_ (h1:=(.cons rfl (Sub.int rfl) .nil));rintro n ⟨hn,hd⟩ K1 J1;refine gC (fun z=>?_) (fun z=>?_)
 ·have kA : 1 <= n := by have := z; simp [aa] at this; omega
  refine gi (jy (n:=n-1) oz (by first |omega |(simp;omega))) ?_;refine gi (jy (n:=n-1) oz (by first |omega |(simp;omega))) ?_;refine gD ?_;refine gC (fun z=>?_) (fun z=>?_)
  ·have h3 : ak a (n - 1) ≠ ak b (n - 1) := by simpa [aa, aqx] using z
   refine gi (jy (n:=n-1) oz (by first |omega |(simp;omega))) ?_;refine gi (jy (n:=n-1) oz (by first |omega |(simp;omega))) ?_;refine gD ?_;refine gC (fun z=>?_) (fun z=>?_)
   ·have h4 : ak a (n - 1) < ak b (n - 1) := by simpa [aa] using z
    have h5:=Rl ha h0 oz (by rw[aox kA];exact hd) h4;refine ah ?_;simp[i64,h5]
   have h4:ak b (n-1)<ak a (n-1):=by have:ak b (n-1)<=ak a (n-1):=(by simpa[aa]using z);omega
   have h5:=Rl hb h0.symm oz (by rw[aox kA];exact hd.symm) h4;refine ah ?_;simp[i64,h5,Nat.lt_asymm h5]
  have h3:ak a (n-1)=ak b (n-1):=by simpa[aa,aqx]using z
  refine ga (eO oz) ?_;exact aM J1 (n-1) ⟨by omega,by rw[ap7 (show n-1<a.length by omega),ap7 (show n-1<b.length by omega),aox kA,hd];congr 1;exact acy oz oz h3⟩
 have kA:n=0:=by have:=z;simp[aa]at this;omega
 subst kA;refine ah ?_;simp at hd;simp[i64,hd]
theorem Ms(a b:List Nat)(ha:Ws a)(hb:Ws b)(la:a.length<aA)(lb:b.length<aA):FP 217 [ws a,ws b] (ws (ofNat (val a+val b))):=by
 unfold aA at la lb;obtain⟨n,hn⟩:∃n,n=max a.length b.length+1:=⟨_,rfl⟩
 refine am func217 ?_;refine gl ?_;refine gl ?_;refine gs (tG (.tmp rfl) (.tmp rfl) rfl) ?_;refine ga (show _=(n:Int) by rw[dx oz];omega) ?_;refine gs (it (.tmp rfl) T42 rfl T87 rfl rfl oz (by dsimp only;omega) rfl) ?_;refine kq [0,1,16] [] (fun(out:List Nat)(c i:Nat)=>[pP 5 (.ms 14 1 0 n),pP 6 (u64 c),pP 17 (i64 i)]) (fun out _ _=>[pP 14 (.row 1 (out.map u32))]) (fun out c i=>out.length=n/\i<=n/\Ws out/\c<=1/\val (out.take i)+c*4294967296^i=val (a.take i)+val (b.take i)) (fun _ _ i=>n-i) (apf n 0) 0 0 ⟨by simp,by omega,o0 n,by omega,by simp[val]⟩ ?_ (h2:=(.cons rfl (.of (by rw[as5];rfl)) .nil))
 rintro out c i ⟨ho,hi,hw,hc,hv⟩ K1 J1;refine gC (fun z=>?_) (fun z=>?_) (st2:=(10,0))
 ·have af : i < n := by simpa [aa] using z
  have h1:=bX ha i;have h2:=bX hb i;refine gc (by apply wC <;> assumption) ?_;refine gc (by apply wC <;> assumption) ?_;refine ga (kK oz) ?_;refine ga (kK oz) ?_;refine gv (ef _) ?_;refine gs (bI (n:=i) (.tmp rfl) (.tmp rfl) T42 rfl T87 rfl oz (by first |omega |(simp;omega)) rfl) ?_;refine gs (dS (.tmp rfl) rfl (cB (i:=i) oz) rfl (.tmp rfl) rfl rfl T87 rfl rfl) ?_;refine gs (fZ (.tmp rfl) (.const _) oz (jv _ 32 oz) rfl) ?_;refine ga (dx oz) ?_;exact js J1 (out.set i ((c+(ak a i+ak b i))%4294967296)) ((c+(ak a i+ak b i))/4294967296) (i+1) ⟨by simp[ho],by omega,jd hw oz,by omega,by rw[oF oz,dU,dU,ao1];exact ID hv⟩ (hw:=Wk.of a6 (.cons rfl (.of (by rw[as7];rfl)) .nil))
 have af:i=n:=by have:n<=i:=(by simpa[aa]using z);omega
 refine gW ((Wk.freeze (k:=14) rfl).trans<|Wk.of (sl:=[pP 5 (ws out)]) (hp:=[]) (.cons rfl (.of (cq (by simp[ho]))) .nil) .nil) ?_;refine gc (pY out hw (by unfold aA;omega)) ?_;refine ah ?_;rw[Mv ha hb hn ho (af▸hv)]
theorem I5(a b:List Nat)(ha:Ws a)(hb:Ws b)(la:a.length<=aA)(lb:b.length<=a.length)(bR:val b<=val a):FP 219 [ws a,ws b] (ws (ofNat (val a-val b))):=by
 have la':=la;unfold aA at la;obtain⟨n,hn⟩:∃n,n=a.length:=⟨_,rfl⟩
 refine am func219 ?_;refine gl ?_;refine gs (it (.tmp rfl) T42 rfl T87 rfl rfl oz (by dsimp only;omega) rfl) ?_;refine kq [0,1,13] [] (fun(out:List Nat)(c i:Nat)=>[pP 5 (.ms 11 1 0 a.length),pP 6 (u64 c),pP 14 (i64 i)]) (fun out _ _=>[pP 11 (.row 1 (out.map u32))]) (fun out c i=>out.length=a.length/\i<=a.length/\Ws out/\c<=1/\val (out.take i)+val (b.take i)=val (a.take i)+c*4294967296^i) (fun _ _ i=>a.length-i) (apf a.length 0) 0 0 ⟨by simp,by omega,o0 _,by omega,by simp[val]⟩ ?_ (h2:=(.cons rfl (.of (by rw[as5];rfl)) .nil))
 rintro out c i ⟨ho,hi,hw,hc,hv⟩ K1 J1;refine gC (fun z=>?_) (fun z=>?_) (st2:=(10,0))
 ·have af : i < a.length := by simpa [aa] using z
  have h1:=bX ha i;have h2:=bX hb i;have h3:=R7 h1 h2 hc hv;obtain⟨d,hd⟩:∃d,d=if ak b i+c<=ak a i then ak a i-ak b i-c else ak a i+18446744073709551616-ak b i-c:=⟨_,rfl⟩
  rw[<- hd]at h3;have hO:d<18446744073709551616:=by rw[hd];split <;> omega
  refine gi (jy (n:=i) oz (by first |omega |(simp;omega))) ?_;refine gv (u64_in oz) ?_;refine gc (by apply wC <;> assumption) ?_;refine ga (nW oz oz) ?_;refine ga (show _=(d:Int) by rw[nW (by split <;> omega) oz,hd];congr 1;(repeat' split) <;> omega) ?_;refine gD ?_;refine gv (ef _) ?_;refine gs (bI (n:=i) (.tmp rfl) (.tmp rfl) T42 rfl T87 rfl oz (by first |omega |(simp;omega)) rfl) ?_;refine gs (dS (.tmp rfl) rfl (cB (i:=i) oz) rfl (.tmp rfl) rfl rfl T87 rfl rfl) ?_;refine gs (fZ (.tmp rfl) (.const _) oz (jv _ 63 oz) rfl) ?_;refine ga (dx oz) ?_;exact js J1 (out.set i (d%4294967296)) (d/2^63) (i+1) ⟨by simp[ho],by omega,jd hw oz,by omega,by rw[oF oz,dU,dU,ao1];exact h3⟩ (hw:=Wk.of a6 (.cons rfl (.of (by rw[as7];rfl)) .nil))
 have af:i=a.length:=by have:a.length<=i:=(by simpa[aa]using z);omega
 refine gW ((Wk.freeze (k:=11) rfl).trans<|Wk.of (sl:=[pP 5 (ws out)]) (hp:=[]) (.cons rfl (.of (cq (by simp[ho]))) .nil) .nil) ?_;refine gc (pY out hw (by rw[ho];exact la')) ?_;refine ah ?_;rw[YV hw ho bR lb (af▸hv)]
theorem Vl(a b:List Nat)(ha:Ws a)(hb:Ws b)(la:a.length+b.length<=aA):FP 220 [ws a,ws b] (ws (ofNat (val a*val b))):=by
 have la':=la;unfold aA at la;refine am func220 ?_;refine gl ?_;refine gl ?_;refine ga (gy (by unfold aF;omega) (by unfold aF;omega)) ?_;refine gs (it (.tmp rfl) T42 rfl T87 rfl rfl oz (by dsimp only;omega) rfl) ?_;refine gl ?_;refine fT [0,1,17,18] [] (fun(out:List Nat)(i:Nat)=>[pP 5 (.ms 16 1 0 (a.length+b.length)),pP 19 (i64 i)]) (fun out _=>[pP 16 (.row 1 (out.map u32))]) (fun out i=>out.length=a.length+b.length/\i<=a.length/\Ws out/\val (out.take (i+b.length))=val (a.take i)*val b) (fun _ i=>a.length-i) (apf (a.length+b.length) 0) 0 ⟨by simp,by omega,o0 _,by simp[val,C0]⟩ ?_ (h2:=(.cons rfl (.of (by rw[as5];rfl)) .nil))
 rintro out i ⟨ho,hi,hw,hv⟩ K1 J1;refine gC (fun z=>?_) (fun z=>?_) (st2:=(15,0))
 ·have af : i < a.length := by simpa [aa] using z
  have h1:=bX ha i;refine gi (jy (n:=i) oz (by first |omega |(simp;omega))) ?_;refine gl ?_;refine kq [0,1,17,18,19,6,7,24,25] [] (fun(o:List Nat)(c k:Nat)=>[pP 5 (.ms 16 1 0 (a.length+b.length)),pP 8 (u64 c),pP 26 (i64 k)]) (fun o _ _=>[pP 16 (.row 1 (o.map u32))]) (fun o c k=>o.length=a.length+b.length/\k<=b.length/\Ws o/\c<4294967296/\val (o.take (i+b.length))+c*4294967296^(i+k)=val (out.take (i+b.length))+4294967296^i*(ak a i*val (b.take k))) (fun _ _ k=>b.length-k) out 0 0 ⟨ho,by omega,hw,by omega,by simp[val]⟩ ?_
  rintro o c k ⟨jH,hk,ot,hc,ky⟩ K2 J2;refine gC (fun z=>?_) (fun z=>?_)
  ·have bh : k < b.length := by simpa [aa] using z
   have h2:=bX hb k;have h3:=bX ot (i+k);have h4:=DI h1 h2;have h5:=PM (x:=(c+(ak a i*ak b k+ak o (i+k)))%4294967296) (show i+k<o.length by omega) (show i+k<i+b.length by omega);have h6:=KK h5 rfl ky;refine gi (jy (n:=k) oz (by first |omega |(simp;omega))) ?_;refine gv (u64_in oz) ?_;refine gv (u64_in oz) ?_;refine ga (Bh oz) ?_;refine ga (gy (by unfold aF;omega) (by unfold aF;omega)) ?_;refine gs (bI (n:=i+k) (.tmp rfl) (.tmp rfl) T42 rfl T87 rfl oz (by first |omega |(simp;omega)) rfl) ?_;refine gs (dt (.tmp rfl) rfl (cB (i:=i+k) oz) T87 rfl rfl rfl) ?_;refine gv (u64_in oz) ?_;refine ga (kK oz) ?_;refine ga (kK oz) ?_;refine ga (gy (by unfold aF;omega) (by unfold aF;omega)) ?_;refine gv (ef _) ?_;refine gs (bI (n:=i+k) (.tmp rfl) (.tmp rfl) T42 rfl T87 rfl oz (by first |omega |(simp;omega)) rfl) ?_;refine gs (dS (.tmp rfl) rfl (cB (i:=i+k) oz) rfl (.tmp rfl) rfl rfl T87 rfl rfl) ?_;refine gs (fZ (.tmp rfl) (.const _) oz (jv _ 32 oz) rfl) ?_;refine ga (dx oz) ?_;exact js J2 (o.set (i+k) ((c+(ak a i*ak b k+ak o (i+k)))%4294967296)) ((c+(ak a i*ak b k+ak o (i+k)))/4294967296) (k+1) ⟨by simp[jH],by omega,jd ot oz,by omega,by rw[show i+(k+1)=(i+k)+1 from rfl,ao1,h6,dU];simp only[as6];grind⟩ (hw:=Wk.of a6 (.cons rfl (.of (by rw[as7];rfl)) .nil))
  have bh:k=b.length:=by have:b.length<=k:=(by simpa[aa]using z);omega
  subst bh;have h5:=oF (x:=c) (show i+b.length<o.length by omega);rw[asK]at ky;refine gl ?_;refine ga (gy (by unfold aF;omega) (by unfold aF;omega)) ?_;refine gv ((ef c).trans (by rw[aol hc])) ?_;refine gs (bI (n:=i+b.length) (.tmp rfl) (.tmp rfl) T42 rfl T87 rfl oz (by first |omega |(simp;omega)) rfl) ?_;refine gs (dS (.tmp rfl) rfl (cB (i:=i+b.length) oz) rfl (.tmp rfl) rfl rfl T87 rfl rfl) ?_;refine ga (dx oz) ?_;exact f7 J1 (o.set (i+b.length) c) (i+1) ⟨by simp[jH],by omega,jd ot hc,by rw[show i+1+b.length=i+b.length+1 by omega,h5,dU];simp only[as6]at *;grind⟩ (hw:=Wk.of a6 (.cons rfl (.of (by rw[as7];rfl)) .nil))
 have af:i=a.length:=by have:a.length<=i:=(by simpa[aa]using z);omega
 subst af;rw[asK,fX oz]at hv;refine gW ((Wk.freeze (k:=16) rfl).trans<|Wk.of (sl:=[pP 5 (ws out)]) (hp:=[]) (.cons rfl (.of (cq (by simp[ho]))) .nil) .nil) ?_;refine gc (pY out hw oz) ?_;refine ah ?_;rw[hv]
theorem ahv(a:List Nat)(w:Nat)(ha:Ws a)(la:a.length<=aA)(JP:0<w)(hwB:w<4294967296):FP 315 [ws a,u32 w] (.tup [ws (ofNat (val a/w)),u32 (val a%w)]):=by
 have la':=la;unfold aA at la;refine am func315 ?_;refine gl ?_;refine gs (it (.tmp rfl) T42 rfl T87 rfl rfl oz (by dsimp only;omega) rfl) ?_;refine gl ?_;refine ga (eO oz) ?_;refine kq [0,1] [] (fun(out:List Nat)(r i:Nat)=>[pP 6 (.ms 11 1 0 a.length),pP 7 (u64 r),pP 8 (i64 ((i:Int)-1))]) (fun out _ _=>[pP 11 (.row 1 (out.map u32))]) (fun out r i=>out.length=a.length/\i<=a.length/\Ws out/\r<w/\val (a.drop i)=w*val (out.drop i)+r) (fun _ _ i=>i) (apf a.length 0) 0 a.length ⟨by simp,by omega,o0 _,by omega,by simp[val]⟩ ?_ (h2:=(.cons rfl (.of (by rw[as5];rfl)) .nil))
 rintro out r i ⟨ho,hi,hw,hr,hv⟩ K1 J1;refine gC (fun z=>?_) (fun z=>?_) (st2:=(9,0))
 ·have kA : 1 <= i := by have := z; simp [aa] at this; omega
  obtain⟨k,rfl⟩:∃k,i=k+1:=⟨i-1,by omega⟩
  have h1:=bX ha k;have h2:=WS hr h1;refine gs (nQ (.tmp rfl) (.const _) oz (uQ (n:=32) oz oz) rfl) ?_;refine gi (jy (n:=k) oz (by first |omega |(simp;omega))) ?_;refine gv (u64_in oz) ?_;refine gs (lP (.tmp rfl) (.tmp rfl) rfl ((yf oz oz).trans (by rw[yk oz])) rfl) ?_;refine gv (u64_in oz) ?_;refine gs (nG (.tmp rfl) (.tmp rfl) oz (OZ oz) rfl) ?_;refine gv ((ef _).trans (by rw[aol h2])) ?_;refine gs (bI (n:=k) (.tmp rfl) (.tmp rfl) T42 rfl T87 rfl oz (by first |omega |(simp;omega)) rfl) ?_;refine gs (dS (.tmp rfl) rfl (cB (i:=k) oz) rfl (.tmp rfl) rfl rfl T87 rfl rfl) ?_;refine gv (u64_in oz) ?_;refine gs (AN (.tmp rfl) (.tmp rfl) oz KT rfl) ?_;refine ga (eO oz) ?_;exact js J1 (out.set k ((r*2^32+ak a k)/w)) ((r*2^32+ak a k)%w) k ⟨by simp[ho],by omega,jd hw h2,aou _ JP,acv oz oz hv⟩ (hw:=Wk.of a6 (.cons rfl (.of (by rw[as7];rfl)) .nil))
 have af:i=0:=by have:=z;simp[aa]at this;omega
 subst af;obtain⟨h3,h4⟩:=A4 hv hr;simp only[as8]at h3 h4;refine gW ((Wk.freeze (k:=11) rfl).trans<|Wk.of (sl:=[pP 6 (ws out),pP 7 (u64 r)]) (hp:=[]) (.cons rfl (.of (cq (by simp[ho]))) (.k .nil)) .nil) ?_;refine gc (pY out hw oz) ?_;refine gv ((ef _).trans (by rw[aol oz])) ?_;refine bu ?_;rw[h3,h4];rfl
theorem ML(d:Nat)(hd:aob d 1000=true)(a:List Nat)(n:Nat)(ha:Ws a)(la:a.length<aA)(hn:n<32):Con prog 317 [ws a,i64 n] [] (.ms d 1 0 (a.length+1)) [(d,some (.row 1 ((bf (a.length+1) (2^n*val a)).map u32)))]:=by
 have la':=la;unfold aA at la;refine gF func317 (fun k z h=>by cases h) ?_;refine gl ?_;refine ga (gy (y:=1) (by unfold aF;omega) (by unfold aF;omega)) ?_;refine gs (it (.tmp rfl) T42 rfl T87 rfl rfl oz (by dsimp only;omega) rfl) ?_;refine gl ?_;refine fT [0,1,13,14] [] (fun(out:List Nat)(i:Nat)=>[pP 5 (.ms 12 1 0 (a.length+1)),pP 15 (i64 i)]) (fun out _=>[pP 12 (.row 1 (out.map u32))]) (fun out i=>out.length=a.length+1/\i<=a.length/\Ws out/\ak out i<2^n/\val (out.take (i+1))=2^n*val (a.take i)) (fun _ i=>a.length-i) (apf (a.length+1) 0) 0 ⟨by simp,by omega,o0 _,by simp[ak,aoi],by simp[val,List.replicate_succ]⟩ ?_ (h2:=(.cons rfl (.of (by rw[as5];rfl)) .nil))
 rintro out i ⟨ho,hi,hw,hr,hv⟩ K1 J1;refine gC (fun u=>?_) (fun u=>?_)
 ·have af : i < a.length := by simpa [aa] using u
  have h1:=bX ha i;have h2:=ahj (a:=a) (i:=i) (n:=n) (show i+1<out.length by omega) hv;have h3:=aka (x:=ak a i) hn hr;have h4:=ZK (n:=n) h1;have h5:2^n<=2^31:=tm oz;have h6:ak a i*2^n<=ak a i*2^31:=ash _ h5;have h7:=bX hw i;refine gi (jy (n:=i) oz (by first |omega |(simp;omega))) ?_;refine gv (u64_in oz) ?_;refine gs (nQ (.tmp rfl) (.tmp rfl) oz (uQ oz oz) rfl) ?_;refine gs (bI (n:=i) (.tmp rfl) (.tmp rfl) T42 rfl T87 rfl oz (by first |omega |(simp;omega)) rfl) ?_;refine gs (dt (.tmp rfl) rfl (cB (i:=i) oz) T87 rfl rfl rfl) ?_;refine gv (ef _) ?_;refine gs (lP (.tmp rfl) (.tmp rfl) rfl ((FI oz oz).trans (by rw[ag1 hn hr])) rfl) ?_;refine gs (bI (n:=i) (.tmp rfl) (.tmp rfl) T42 rfl T87 rfl oz (by first |omega |(simp;omega)) rfl) ?_;refine gs (dS (.tmp rfl) rfl (cB (i:=i) oz) rfl (.tmp rfl) rfl rfl T87 rfl rfl) ?_;refine ga (gy (y:=1) (by unfold aF;omega) (by unfold aF;omega)) ?_;refine gs (fZ (.tmp rfl) (.const _) oz (jv _ 32 oz) rfl) ?_;refine gv ((ef _).trans (by rw[aol (show ak a i*2^n/2^32<4294967296 by omega)])) ?_;refine gs (bI (n:=i+1) (.tmp rfl) (.tmp rfl) T42 rfl T87 rfl oz (by first |omega |(simp;omega)) rfl) ?_;refine gs (dS (.tmp rfl) rfl (by rw[List.getElem?_set_ne oz];exact cB (i:=i+1) oz) rfl (.tmp rfl) rfl rfl T87 rfl rfl) ?_;refine ga (dx oz) ?_;exact f7 J1 ((out.set i (ak out i+ak a i*2^n%4294967296)).set (i+1) (ak a i*2^n/4294967296)) (i+1) ⟨by simp[ho],by omega,jd (jd hw oz) oz,by rw[af1 (by simp;omega)];exact h4,h2⟩ (hw:=Wk.of a6 (.cons rfl (.of (by rw[as7,as7];rfl)) .nil))
 have af:i=a.length:=by have:a.length<=i:=(by simpa[aa]using u);omega
 subst af;rw[asK,fX oz]at hv;refine gR ?_;exact aD.own1 rfl hd (by rw[Ce hw ho hv])
theorem amf(a:List Nat)(n:Nat)(ha:Ws a)(la:a.length<=aA)(hn:n<32):FP 320 [ws a,i64 n] (ws (ofNat (val a/2^n))):=by
 have la':=la;unfold aA at la;refine am func320 ?_;refine gl ?_;refine gs (it (.tmp rfl) T42 rfl T87 rfl rfl oz (by dsimp only;omega) rfl) ?_;refine gl ?_;refine fT [0,1,11] [] (fun(out:List Nat)(i:Nat)=>[pP 5 (.ms 9 1 0 a.length),pP 12 (i64 i)]) (fun out _=>[pP 9 (.row 1 (out.map u32))]) (fun out i=>out.length=a.length/\i<=a.length/\Ws out/\val (out.take i)=val a/2^n%4294967296^i) (fun _ i=>a.length-i) (apf a.length 0) 0 ⟨by simp,by omega,o0 _,by simp[val,Nat.mod_one]⟩ ?_ (h2:=(.cons rfl (.of (by rw[as5];rfl)) .nil))
 rintro out i ⟨ho,hi,hw,hv⟩ K1 J1;refine gC (fun z=>?_) (fun z=>?_) (st2:=(7,0))
 ·have af : i < a.length := by simpa [aa] using z
  have h1:=bX ha i;have h2:=bX ha (i+1);have h3:=SL ha af (show i<out.length by omega) (show n<=32 by omega) hv;refine gi (jy (n:=i) oz (by first |omega |(simp;omega))) ?_;refine gv (u64_in oz) ?_;refine ga (gy (y:=1) (by unfold aF;omega) (by unfold aF;omega)) ?_;refine gc (wC a (i+1) ha) ?_;refine gs (nQ (.tmp rfl) (.const _) oz (uQ (n:=32) oz oz) rfl) ?_;refine gs (lP (.tmp rfl) (.tmp rfl) rfl ((yf oz oz).trans (by rw[G5 oz])) rfl) ?_;refine gs (fZ (.tmp rfl) (.tmp rfl) oz (jv _ _ oz) rfl) ?_;refine gv (ef _) ?_;refine gs (bI (n:=i) (.tmp rfl) (.tmp rfl) T42 rfl T87 rfl oz (by first |omega |(simp;omega)) rfl) ?_;refine gs (dS (.tmp rfl) rfl (cB (i:=i) oz) rfl (.tmp rfl) rfl rfl T87 rfl rfl) ?_;refine gD ?_;refine ga (dx oz) ?_;exact f7 J1 (out.set i ((ak a i+ak a (i+1)*2^32)/2^n%4294967296)) (i+1) ⟨by simp[ho],by omega,jd hw oz,h3⟩ (hw:=Wk.of a6 (.cons rfl (.of (by rw[as7];rfl)) .nil))
 have af:i=a.length:=by have:a.length<=i:=(by simpa[aa]using z);omega
 refine gW ((Wk.freeze (k:=9) rfl).trans<|Wk.of (sl:=[pP 5 (ws out)]) (hp:=[]) (.cons rfl (.of (cq (by simp[ho]))) .nil) .nil) ?_;refine gc (pY out hw oz) ?_;refine ah ?_;rw[Vu ha ho (af▸hv)]
theorem acu{b:Nat}{p:Prop}[Decidable p](h:b=1↔p):d7 [AV.v (Value.bool (aa BinOp.eql (b:Int) 1))]=bl (decide p):=by
 have:((b:Int)==1)=decide (b=1):=by rw[aq8];simp;omega
 simp only[d7,aa,this,bl];rw[decide_eq_decide.2 h]
theorem ZR(u v:List Nat)(off len n:Nat)(hu:Ws u)(hv:Ws v)(om:v.length+1<=len)(hj:off+len<=u.length)(hn:n<4294967296)(lu:u.length<=aF) :
  Con prog 318 [.ms 1000 1 off len,ws v,u64 n] [pP 1000 (.row 1 (u.map u32))] (bl (decide (val (bq u off len)<n*val v)))
   [pP 1000 (.row 1 ((wr u off (bf len (mr n (val v) (val (bq u off len)) len))).map u32))]:=by
 unfold aF at lu;refine gF func318 (fun k z h=>bD h) ?_;refine LT [1,2,12] [] (fun(o:List Nat)(c b lo i:Nat)=>[pP 0 (.ms 1000 1 off len),pP 7 (u64 c),pP 8 (u64 b),pP 13 (i64 i)]) (fun o _ _ _ _=>[pP 1000 (.row 1 (o.map u32))]) (fun o c b lo i=>o.length=u.length/\i<=len/\Ws o/\c<4294967296/\b<=1/\o.take off=u.take off/\o.drop (off+i)=u.drop (off+i)/\lo+c*4294967296^i=n*val (v.take i)/\val (bq o off i)+lo=val (bq u off i)+b*4294967296^i) (fun _ _ _ _ i=>len-i) u 0 0 0 0 ⟨rfl,by omega,hu,by omega,by omega,rfl,rfl,by simp[val],by simp[]⟩ ?_
 rintro o c b lo i ⟨ho,hi,hw,hc,hb,hO,mb,xg,ky⟩ K1 J1;refine gC (fun y=>?_) (fun y=>?_)
 ·have af : i < len := by simpa [aa] using y
  have h1:=bX hu (off+i);have h2:=bX hv i;have h0:=v8 mb;have h4:=DI hn h2;obtain⟨c1,fS⟩:∃c1,c1=c+n*ak v i:=⟨_,rfl⟩
  have h3:=R7 h1 (show c1%4294967296<4294967296 by omega) hb ky;obtain⟨d,hd⟩:∃d,d=if c1%4294967296+b<=ak u (off+i)then ak u (off+i)-c1%4294967296-b else ak u (off+i)+18446744073709551616-c1%4294967296-b:=⟨_,rfl⟩
  rw[<- hd]at h3;have hd3:d<18446744073709551616:=by rw[hd];split <;> omega
  have h5:=aj8 (w:=ak v i) xg;refine gc (by apply wC <;> assumption) ?_;refine ga (Bh oz) ?_;refine ga ((kK oz).trans (by rw[<- fS])) ?_;refine gs (r5 (n:=i) (.tmp rfl) (.tmp rfl) T42 rfl T87 rfl oz (by first |omega |(simp;omega)) rfl) ?_;refine gs (dt (.tmp rfl) rfl (by rw[cB (show off+i<o.length by omega),h0]) T87 rfl rfl rfl) ?_;refine gv (u64_in oz) ?_;refine gv (ef _) ?_;refine gv (u64_in oz) ?_;refine ga (nW oz oz) ?_;refine ga (show _=(d:Int) by rw[nW (by split <;> omega) oz,hd];congr 1;(repeat' split) <;> omega) ?_;refine gv (ef _) ?_;refine gs (r5 (n:=i) (.tmp rfl) (.tmp rfl) T42 rfl T87 rfl oz (by first |omega |(simp;omega)) rfl) ?_;refine gs (dS (.tmp rfl) rfl (cB (i:=off+i) oz) rfl (.tmp rfl) rfl rfl T87 rfl rfl) ?_;refine gs (fZ (.tmp rfl) (.const _) oz (jv _ 63 oz) rfl) ?_;refine gs (fZ (.tmp rfl) (.const _) oz (jv _ 32 oz) rfl) ?_;refine ga (dx oz) ?_;exact OG J1 (o.set (off+i) (d%4294967296)) (c1/4294967296) (d/2^63) (lo+4294967296^i*(c1%4294967296)) (i+1) ⟨by simp[ho],by omega,jd hw oz,by omega,by omega,by rw[List.take_set_of_le oz];exact hO,yA mb,by rw[dU,ao1,fS];exact h5,by rw[MJ oz,QU,ao1];exact h3⟩ (hw:=Wk.of a6 (.cons rfl (.of (by rw[as7];rfl)) .nil))
 have af:i=len:=by have:len<=i:=(by simpa[aa]using y);omega
 subst af;obtain⟨h6,h7⟩:=V2 hu hw ho hj hv om hn hO mb hb xg ky;refine gR ?_;exact aD.own2 rfl (by rw[<- h6]) (acu h7)
theorem adx(u v:List Nat)(off len:Nat)(hu:Ws u)(hv:Ws v)(om:v.length<=len)(hj:off+len<=u.length)(lu:u.length<=aF) :
  Con prog 319 [.ms 1000 1 off len,ws v] [pP 1000 (.row 1 (u.map u32))] (.tup [])
   [pP 1000 (.row 1 ((wr u off (bf len ((val (bq u off len)+val v)%4294967296^len))).map u32))]:=by
 unfold aF at lu;refine gF func319 (fun k z h=>bD h) ?_;refine kq [1,7] [] (fun(o:List Nat)(c i:Nat)=>[pP 0 (.ms 1000 1 off len),pP 4 (u64 c),pP 8 (i64 i)]) (fun o _ _=>[pP 1000 (.row 1 (o.map u32))]) (fun o c i=>o.length=u.length/\i<=len/\Ws o/\c<=1/\o.take off=u.take off/\o.drop (off+i)=u.drop (off+i)/\val (bq o off i)+c*4294967296^i=val (bq u off i)+val (v.take i)) (fun _ _ i=>len-i) u 0 0 ⟨rfl,by omega,hu,by omega,rfl,rfl,by simp[val]⟩ ?_
 rintro o c i ⟨ho,hi,hw,hc,hO,mb,ky⟩ K1 J1;refine gC (fun y=>?_) (fun y=>?_)
 ·have af : i < len := by simpa [aa] using y
  have h1:=bX hu (off+i);have h2:=bX hv i;have h0:=v8 mb;have h3:=ID (u:=ak u (off+i)) (w:=ak v i) ky;refine gs (r5 (n:=i) (.tmp rfl) (.tmp rfl) T42 rfl T87 rfl oz (by first |omega |(simp;omega)) rfl) ?_;refine gs (dt (.tmp rfl) rfl (by rw[cB (show off+i<o.length by omega),h0]) T87 rfl rfl rfl) ?_;refine gv (u64_in oz) ?_;refine gc (by apply wC <;> assumption) ?_;refine ga (kK oz) ?_;refine ga (kK oz) ?_;refine gD ?_;refine gv (ef _) ?_;refine gs (r5 (n:=i) (.tmp rfl) (.tmp rfl) T42 rfl T87 rfl oz (by first |omega |(simp;omega)) rfl) ?_;refine gs (dS (.tmp rfl) rfl (cB (i:=off+i) oz) rfl (.tmp rfl) rfl rfl T87 rfl rfl) ?_;refine gs (fZ (.tmp rfl) (.const _) oz (jv _ 32 oz) rfl) ?_;refine ga (dx oz) ?_;exact js J1 (o.set (off+i) ((c+(ak u (off+i)+ak v i))%4294967296)) ((c+(ak u (off+i)+ak v i))/4294967296) (i+1) ⟨by simp[ho],by omega,jd hw oz,by omega,by rw[List.take_set_of_le oz];exact hO,yA mb,by rw[MJ oz,QU,dU,ao1];exact h3⟩ (hw:=Wk.of a6 (.cons rfl (.of (by rw[as7];rfl)) .nil))
 have af:i=len:=by have:len<=i:=(by simpa[aa]using y);omega
 subst af;have h6:=W9 hw ho hj om hO mb ky;refine gR ?_;exact aD.own2 rfl (by rw[<- h6]) rfl
theorem ad4(x:Nat)(hx:x<4294967296):FP 331 [u32 x] (i64 (aY x)):=by
 refine am func331 ?_;refine gC (fun u=>?_) (fun u=>?_)
 ·obtain ⟨y, hy, h2, h3⟩ : ∃ y, y = x / 2 ^ 16 /\ y < 65536 /\ aY x = 16 + aY y := ⟨_, rfl, by omega, yS (by have := u; simp [aa] at this; omega)⟩
  refine gs (fZ (.tmp rfl) (.const _) oz ((uN x 16 oz).trans (by rw[<- hy])) rfl) ?_;refine gC (fun t8=>?_) (fun t8=>?_)
  ·have h5 : 2 ^ 8 <= y := by simp [aa] at t8; omega
   obtain⟨z,hz,h6,h7⟩:∃z,z=y/2^8/\z<256/\aY x=(aY x-aY y)+8+aY z:=⟨_,rfl,by omega,by have:=yS h5;omega⟩
   refine gs (fZ (.tmp rfl) (.const _) oz ((uN _ 8 oz).trans (show _=(z:Int) by first |(rw[hz];done) |(rw[hz,hy];done))) rfl) ?_;refine ga (dx oz) ?_;refine gv (show IntKind.u8.wrap _=(z:Int) by first |exact lH h6 |(rw[hz];exact lH oz) |(rw[hz,hy];exact lH oz)) ?_;refine gs (zL (y:=z) (.const _) (.tmp rfl) T9 rfl (by kernel_rfl) (by first |rfl |omega) oz rfl) ?_;refine gv (i64_in (by have:=kJ h6;omega)) ?_;refine ga (dx (by have:=kJ h6;omega)) ?_;refine ah ?_;simp only[i64];congr 2;have:=kJ h6;omega
  have h5:y<2^8:=by simp[aa]at t8;omega
  obtain⟨z,hz,h6,h7⟩:∃z,z=y/\z<256/\aY x=(aY x-aY y)+aY z:=⟨_,rfl,by omega,by omega⟩
  refine gv (show IntKind.u8.wrap _=(z:Int) by first |exact lH h6 |(rw[hz];exact lH oz) |(rw[hz,hy];exact lH oz)) ?_;refine gs (zL (y:=z) (.const _) (.tmp rfl) T9 rfl (by kernel_rfl) (by first |rfl |omega) oz rfl) ?_;refine gv (i64_in (by have:=kJ h6;omega)) ?_;refine ga (dx (by have:=kJ h6;omega)) ?_;refine ah ?_;simp only[i64];congr 2;have:=kJ h6;omega
 obtain⟨y,hy,h2,h3⟩:∃y,y=x/\y<65536/\aY x=0+aY y:=⟨_,rfl,by have:=u;simp[aa]at this;omega,by omega⟩
 refine gC (fun t8=>?_) (fun t8=>?_)
 ·have h5 : 2 ^ 8 <= y := by simp [aa] at t8; omega
  obtain⟨z,hz,h6,h7⟩:∃z,z=y/2^8/\z<256/\aY x=(aY x-aY y)+8+aY z:=⟨_,rfl,by omega,by have:=yS h5;omega⟩
  refine gs (fZ (.tmp rfl) (.const _) oz ((uN _ 8 oz).trans (show _=(z:Int) by first |(rw[hz];done) |(rw[hz,hy];done))) rfl) ?_;refine ga (dx oz) ?_;refine gv (show IntKind.u8.wrap _=(z:Int) by first |exact lH h6 |(rw[hz];exact lH oz) |(rw[hz,hy];exact lH oz)) ?_;refine gs (zL (y:=z) (.const _) (.tmp rfl) T9 rfl (by kernel_rfl) (by first |rfl |omega) oz rfl) ?_;refine gv (i64_in (by have:=kJ h6;omega)) ?_;refine ga (dx (by have:=kJ h6;omega)) ?_;refine ah ?_;simp only[i64];congr 2;have:=kJ h6;omega
 have h5:y<2^8:=by simp[aa]at t8;omega
 obtain⟨z,hz,h6,h7⟩:∃z,z=y/\z<256/\aY x=(aY x-aY y)+aY z:=⟨_,rfl,by omega,by omega⟩
 refine gv (show IntKind.u8.wrap _=(z:Int) by first |exact lH h6 |(rw[hz];exact lH oz) |(rw[hz,hy];exact lH oz)) ?_;refine gs (zL (y:=z) (.const _) (.tmp rfl) T9 rfl (by kernel_rfl) (by first |rfl |omega) oz rfl) ?_;refine gv (i64_in (by have:=kJ h6;omega)) ?_;refine ga (dx (by have:=kJ h6;omega)) ?_;refine ah ?_;simp only[i64];congr 2;have:=kJ h6;omega
theorem amj(x:Nat)(hx:x<4294967296):FP 316 [u32 x] (i64 (32-aY x:Nat)):=by
 have h1:aY x<=32:=by
  by_cases h:x=0
  ·subst h;decide
  ·exact(G1 h hx).1
 refine am func316 ?_;refine gc (ad4 x hx) ?_;refine ga (i64_in (by simp only[gw];omega)) ?_;refine ah ?_;simp only[i64,gw];congr 2;omega
theorem S2(a b:List Nat)(ha:Ws a)(hb:Ws b)(na:Nz a)(nb:Nz b)(iP:b≠[])(la:a.length<aA)(lb:b.length<aA) :
  FP 221 [ws a,ws b] (.tup [ws (ofNat (val a/val b)),ws (ofNat (val a%val b))]):=by
 have la':=la;unfold aA at la lb;refine am func221 ?_;refine gc (Fn a b ha hb na nb) ?_;refine gC (fun t22=>?_) (fun t22=>?_)
 ·have h1:val a<val b:=by
   simp only[aa]at t22;split at t22
   ·assumption
   ·split at t22 <;> simp at t22
  refine gc (pY a ha oz) ?_;refine gR ?_;exact af6 (by rw[aow h1];exact Sub.nil _ _ _) (by rw[aol h1];exact Sub.refl _)
 have h1:val b<=val a:=by
  simp only[aa]at t22;split at t22
  ·simp at t22
  ·omega
 refine gl ?_;refine gC (fun z=>?_) (fun z=>?_)
 ·have hl : b.length = 1 := by have := z; simp [aa] at this; omega
  obtain⟨x,rfl⟩:∃x,b=[x]:=ap1.1 hl;have hx:x≠0:=nb x rfl;have hxB:x<4294967296:=hb x (by simp);have hv:val [x]=x:=by simp[val]
  have hm:=aou (val a) (show 0<x by omega);refine gi (show _=some (u32 x)from rfl) ?_;refine gc (ahv a x ha oz oz hxB) ?_;refine gc (pY [val a%x] (zN oz) (by simp[aA])) ?_;refine bu ?_;rw[hv];simp[val]
 have hl:b.length≠1:=by have:=z;simp[aa]at this;omega
 obtain⟨n,hn⟩:∃n,b.length=n+2:=⟨b.length-2,by have:=aqb.2 iP;omega⟩
 obtain⟨sh,v,kz,Ag,hv,wv,lv,vv,hvt,htop,Ez⟩:=VB hb nb hn
 have Ud:b.length<=a.length:=by
  rcases asb a.length b.length with h2 |h2
  ·have:=xK ha nb h2;omega
  ·exact h2
 obtain⟨lq,Ue⟩:∃lq,a.length+1=lq+(n+2):=⟨a.length+1-(n+2),by omega⟩
 have EG:=bX hb (n+1);refine gl ?_;refine ga (show _=((n+1:Nat):Int) by rw[eO oz];omega) ?_;refine gi (jy (n:=n+1) oz (by first |omega |(simp;omega))) ?_;refine gc (show kU _ _ _ (i64 (sh:Nat)) by rw[kz];exact amj _ EG) ?_;refine gt (aG (ML 900 rfl b sh hb (by unfold aA;omega) Ag) (b9 rfl rfl) aK rfl rfl) ?_;refine gl ?_;refine gs (ua (.tmp rfl) (.none _) (.some _ (.tmp rfl) oz) T42 rfl T87 rfl oz oz rfl) ?_;refine gt (aG (ML 901 rfl a sh ha (by unfold aA;omega) Ag) (b9 rfl rfl) aK rfl rfl) ?_;refine gD ?_ (8,0);refine gW ((Wk.freeze (k:=900) rfl).trans<|Wk.of (sl:=[pP 0 (ws a),pP 1 (ws b),pP 8 (i64 sh),pP 9 (ws v),pP 10 (.ms 901 1 0 (a.length+1))]) (hp:=[pP 901 (.row 1 ((bf (a.length+1) (2^sh*val a)).map u32))]) (.k (.k (.k (.cons rfl (.of (XM hn hv)) (.k .nil))))) (.k .nil)) ?_;refine gl ?_;refine ga (show _=(lq:Int) by rw[lv,eO oz];omega) ?_;refine gs (it (.tmp rfl) T42 rfl T87 rfl rfl oz (by dsimp only;omega) rfl) ?_;refine gl ?_;refine ga (show _=((n+1:Nat):Int) by rw[lv,eO oz];omega) ?_;refine gi (jy (n:=n+1) oz (by first |omega |(simp;omega))) ?_;refine gv (u64_in (by have:=bX wv (n+1);omega)) ?_;refine gl ?_;refine ga (show _=(n:Int) by rw[lv,eO oz];omega) ?_;refine gi (jy (n:=n) oz (by first |omega |(simp;omega))) ?_;refine gv (u64_in (by have:=bX wv n;omega)) ?_;refine gD ?_;refine ga (eO oz) ?_;refine kq [8,9,12,13] [] (fun(q u:List Nat)(j:Nat)=>[pP 10 (.ms 901 1 0 (a.length+1)),pP 11 (.ms 61 1 0 lq),pP 14 (i64 ((j:Int)-1))]) (fun q u _=>[pP 901 (.row 1 (u.map u32)),pP 61 (.row 1 (q.map u32))]) (fun q u j=>q.length=lq/\u.length=a.length+1/\Ws q/\Ws u/\j<=lq/\val (u.drop j)<val v/\2^sh*val a=val v*(4294967296^j*val (q.drop j))+val u) (fun _ _ j=>j) (apf lq 0) (bf (a.length+1) (2^sh*val a)) lq ⟨by simp,gK _ _,o0 _,mh _ _,ar8 _,by rw[vv];exact(LC ha Ag Ue Ez).2,by rw[(LC ha Ag Ue Ez).1];simp[val]⟩ ?_ (h2:=(.k (.cons rfl (.of (by rw[as5];rfl)) .nil)))
 rintro q u j ⟨uD,xh,wq,wu,hj,hlt,hU⟩ K1 J1;refine gC (fun z=>?_) (fun z=>?_) (st2:=(23,0))
 ·have j5 : 1 <= j := by have := z; simp [aa] at this; omega
  obtain⟨k,rfl⟩:∃k,j=k+1:=⟨j-1,by omega⟩
  obtain⟨W,hW⟩:∃W,W=val (bq u k (n+3)):=⟨_,rfl⟩
  have Ua:val v<4294967296^(n+2):=by have:=co v wv;rwa [lv]at this
  obtain⟨e1,e2,e3⟩:=ajp (u:=u) (q:=q) (k:=k) (lv:=n+2) wu oz oz Ua hlt hU;simp only[show n+2+1=n+3 from rfl]at e1 e2 e3;have ou:=afl wv (ra wu k (n+3)) lv (sP oz) hvt e1;rw[<- hW]at e1 e2 e3 ou;have wp:=ra wu k (n+3);have b1:=bX wp n;have b2:=bX wp (n+1);have b3:=bX wp (n+2);have b4:=ou.htop;have b5:=ou.htopB;have b6:=ou.hnext;obtain⟨top,Uf⟩:∃top,top=ak v (n+1):=⟨_,rfl⟩
  obtain⟨nx,Ug⟩:∃nx,nx=ak v n:=⟨_,rfl⟩
  obtain⟨hd,Uh⟩:∃hd,hd=ak (bq u k (n+3)) (n+2)*4294967296+ak (bq u k (n+3)) (n+1):=⟨_,rfl⟩
  obtain⟨th,EH⟩:∃th,th=ak (bq u k (n+3)) n:=⟨_,rfl⟩
  rw[<- Uf,<- Ug,<- Uh,<- EH]at ou;rw[<- Uf]at b4 b5 ⊢;rw[<- Ug]at b6 ⊢;rw[<- EH]at b1;have hdB:hd<18446744073709551616:=by omega
  refine gl ?_;refine ga (show _=((k+n+2:Nat):Int) by rw[lv,dx oz];omega) ?_;refine ga (show _=((k+n+3:Nat):Int) by rw[dx oz];omega) ?_;refine gs (ua (.tmp rfl) (.some _ (.tmp rfl) oz) (.some _ (.tmp rfl) oz) T42 rfl T87 rfl oz oz rfl) ?_ (14,0);refine gW (Wk.of (sl:=[pP 8 (i64 sh),pP 9 (ws v),pP 10 (.ms 901 1 0 (a.length+1)),pP 11 (.ms 61 1 0 lq),pP 12 (u64 top),pP 13 (u64 nx),pP 14 (i64 k),pP 15 (.ms 901 1 k (n+3))]) (hp:=[pP 901 (.row 1 (u.map u32)),pP 61 (.row 1 (q.map u32))]) (.k (.k (.k (.k (.k (.k (.cons rfl (Sub.int oz) (.cons rfl (.of (by congr 1 <;> omega)) .nil)))))))) (.k (.k .nil))) ?_
  refine gl ?_;refine gs (r5 (n:=n+2) (.tmp rfl) (.tmp rfl) T42 rfl T87 rfl oz oz rfl) ?_;refine gs (dt (.tmp rfl) rfl (Ji (n:=n+3) (i:=n+2) oz oz) T87 rfl rfl rfl) ?_;refine gv (u64_in oz) ?_;refine gs (nQ (.tmp rfl) (.const _) oz (uQ (n:=32) oz oz) rfl) ?_;refine gl ?_;refine ga (show _=((n+1:Nat):Int) by rw[lv,eO oz];omega) ?_;refine gs (r5 (n:=n+1) (.tmp rfl) (.tmp rfl) T42 rfl T87 rfl oz oz rfl) ?_;refine gs (dt (.tmp rfl) rfl (Ji (n:=n+3) (i:=n+1) oz oz) T87 rfl rfl rfl) ?_;refine gv (u64_in oz) ?_;refine gs (lP (.tmp rfl) (.tmp rfl) rfl ((yf oz oz).trans (show _=(hd:Int) by rw[yk oz,Uh])) rfl) ?_;refine gD ?_;refine gs (nG (.tmp rfl) (.tmp rfl) oz (OZ hdB) rfl) ?_;refine gs (AN (.tmp rfl) (.tmp rfl) oz KT rfl) ?_;refine gD ?_;refine fT [8,9,12,13,14] [901,61] (fun(g r:Nat)=>[pP 10 (.ms 901 1 0 (a.length+1)),pP 11 (.ms 61 1 0 lq),pP 15 (.ms 901 1 k (n+3)),pP 17 (u64 g),pP 18 (u64 r)]) (fun _ _=>[]) (fun g r=>W/val v<=g/\g*top+r=hd/\g<18446744073709551616/\r<8589934592) (fun g _=>g) (hd/top) (hd%top) ⟨ou.first,by rw[aog];exact aoa _ _,by have:=aop hd top;omega,by have:=aou hd (show 0<top by omega);omega⟩ ?_
  rintro g r ⟨hg,jh,hgB,hrB⟩ K2 J2;refine kG (fun⟨h,h2⟩=>(Bh (by simp[aa]at h2;have:=DI (x:=g) (y:=nx) oz b6;omega))) ?_;refine gs (tO rfl rfl rfl (fun h h2=>nQ (.opt rfl (o2 h h2)) (.const _) oz (uQ (n:=32) oz (by simp[aa]at h;omega)) rfl)) ?_;refine cG ?_;refine kG (fun _=>(show _=(n:Int) by rw[lv,eO oz];omega)) ?_;refine gs (tO rfl rfl rfl (fun h h2=>r5 (n:=n) (.opt rfl (o2 h h2)) (.opt rfl (o2 h h2)) T42 rfl T87 rfl oz oz rfl)) ?_;refine gs (tO rfl rfl rfl (fun h h2=>dt (.opt rfl (o2 h h2)) rfl (Ji (n:=n+3) (i:=n) oz oz) T87 rfl rfl rfl)) ?_;refine gvG (fun _=>(u64_in oz)) ?_;refine gs (tO rfl rfl rfl (fun h h2=>lP (.opt rfl (o2 h h2)) (.opt rfl (o2 h h2)) rfl ((yf (by simp[aa]at h;omega) oz).trans (by rw[yk oz])) rfl)) ?_;refine gC (fun t133=>?_) (fun t133=>?_)
  ·have hc:r<4294967296/\(4294967296<=g\/r*4294967296+th<g*nx):=by
    rw[EH];have h9:=RE.1 t133
    rwa [show r*2^32=r*4294967296 from rfl]at h9
   have qK:=ou.step hg jh hc.2;have qH:1<=g:=Nat.succ_le_of_lt (asw (ase _) qK);refine ga (NM oz oz) ?_;refine ga (kK oz) ?_;exact f7 J2 (g-1) (r+top) ⟨Nat.le_sub_one_of_lt qK,by rw[Nat.sub_mul];have:=asl top (show 1<=g by omega);omega,by omega,by omega⟩
  have hc:¬(r<4294967296/\(4294967296<=g\/r*4294967296+th<g*nx)):=by
   rw[EH];intro hh;rw[show r*4294967296=r*2^32 from rfl]at hh;exact ara.1 t133 (RE.2 hh)
  obtain⟨ane,hgq⟩:=ou.last jh hc;have JN:=ou.vpos;have Ui:val (bq u k (n+3))<4294967296^(n+3):=by have:=co _ wp;rwa [sP oz]at this
  obtain⟨p1,p2⟩:=adk JN (show val v<=4294967296^(n+3) by have:=aok (show 0<4294967296 by omega) (show n+2<=n+3 by omega);omega) (hW▸Ui) hg hgq;have JQ:k+(n+3)<=u.length:=by omega
  have w9:(wr u k (bf (n+3) (mr g (val v) W (n+3)))).length=a.length+1:=by rw[pF (by rw[gK];omega),xh]
  refine gt (aG (Con.rk 901 rfl rfl (ZR u v k (n+3) g wu wv oz JQ ane (by unfold aF;omega))) (aB rfl rfl rfl) aK rfl rfl) ?_;refine gC (fun z=>?_) (fun z=>?_)
  ·have EA : W < g * val v := by rw [hW]; simpa using z
   obtain⟨q1,q2,q3⟩:=p1 EA;have Ah:mr g (val v) W (n+3)<4294967296^(n+3):=by unfold mr;rw[atd oz];rw[<- hW]at Ui;omega
   refine ga (NM oz oz) ?_;refine gt (aG (Con.rk 901 rfl rfl (adx (wr u k (bf (n+3) (mr g (val v) (val (bq u k (n+3))) (n+3)))) v k (n+3) (wl wu (mh _ _)) wv oz (by rw[<- hW,w9];omega) (by rw[<- hW,w9];unfold aF;omega))) (b9 rfl rfl) aK rfl rfl) ?_;refine gv ((ef _).trans (by rw[aol oz])) ?_;refine gs (bI (n:=k) (.tmp rfl) (.tmp rfl) T42 rfl T87 rfl oz oz rfl) ?_;refine gs (dS (.tmp rfl) rfl (cB (i:=k) oz) rfl (.tmp rfl) rfl rfl T87 rfl rfl) ?_;refine ga (eO oz) ?_;exact js J1 (q.set k (W/val v)) (wr u k (bf (n+3) (W%val v))) k ⟨by simp[uD],by rw[pF (by rw[gK];omega),xh],jd wq ou.q_lt,wl wu (mh _ _),by omega,e2,e3⟩ (hw:=Wk.of a6 (.cons rfl (.of (by rw[<- hW];first |(rw[q1];done) |(rw[QL (r:=W%val v) JQ (gK _ _) (by rw[oV _ _ Ah];exact q1)];done))) (.cons rfl (.of (by rw[as7,q2];rfl)) .nil)))
  have EA:¬W<g*val v:=by rw[hW];simpa using z
  obtain⟨q1,q2⟩:=p2 EA;refine gv ((ef _).trans (by rw[aol oz])) ?_;refine gs (bI (n:=k) (.tmp rfl) (.tmp rfl) T42 rfl T87 rfl oz oz rfl) ?_;refine gs (dS (.tmp rfl) rfl (cB (i:=k) oz) rfl (.tmp rfl) rfl rfl T87 rfl rfl) ?_;refine ga (eO oz) ?_;exact js J1 (q.set k (W/val v)) (wr u k (bf (n+3) (W%val v))) k ⟨by simp[uD],by rw[pF (by rw[gK];omega),xh],jd wq ou.q_lt,wl wu (mh _ _),by omega,e2,e3⟩ (hw:=Wk.of a6 (.cons rfl (.of (by rw[<- hW];first |(rw[q1];done) |(rw[QL (r:=W%val v) JQ (gK _ _) (by rw[oV _ _ Ah];exact q1)];done))) (.cons rfl (.of (by rw[as7,q2];rfl)) .nil)))
 have j5:j=0:=by have:=z;simp[aa]at this;omega
 subst j5;have hU':2^sh*val a=2^sh*val b*val q+val u:=by rw[<- vv];simpa using hU
 obtain⟨hQ,hR⟩:=abz hU' (by rw[<- vv];simpa using hlt);refine gW ((Wk.freeze (k:=61) rfl).trans<|(Wk.freeze (k:=901) rfl).trans<|Wk.of (sl:=[pP 8 (i64 sh),pP 10 (ws u),pP 11 (ws q)]) (hp:=[]) (.k (.cons rfl (.of (cq (by simp[xh]))) (.cons rfl (.of (by rw[show AV.fz 61 1 (q.map u32) (.ms 61 1 0 lq)=ws q from cq (by simp[uD])];rfl)) .nil))) .nil) ?_;refine gc (pY q wq (by unfold aA;omega)) ?_;refine gc (amf u sh wu (by unfold aA;omega) Ag) ?_;refine bu ?_;rw[<- hQ,<- hR]
theorem Cj{b:Bool}{n:Nat}:(cond b (aa .gtr ((ofNat n).length:Int) 0) false)=true↔(b=true/\0<n):=by
 have h:aa .gtr ((ofNat n).length:Int) 0=true↔0<n:=by
  simp only[aa,atf];constructor
  ·intro h;rcases aov n with h1 |h1;(subst h1;simp[Xb]at h);exact h1
  ·intro h;have:ofNat n ≠ []:=by intro h1; have:=cD n; rw [h1] at this; simp [val] at this; omega
   have:=aqb.2 this;omega
 cases b with
 |false=>simp
 |true=>exact⟨fun h1=>⟨rfl,h.1 h1⟩,fun h1=>h.2 h1.2⟩
theorem Gx(a:Wh)(ha:a.ok):FP 73 [a.av] (i64 a.z.sign):=by
 obtain⟨e1,e2,e3⟩:=Sf ha;refine am func73 ?_;refine gc (mn a ha) ?_;refine gl ?_;refine gC (fun z=>?_) (fun z=>?_)
 ·have h0 : a.m.length = 0 := by simpa [aa] using z
  refine ah ?_;rw[e1 h0];rfl
 have h0:a.m.length≠0:=by simpa[aa]using z
 refine gC (fun z=>?_) (fun z=>?_)
 ·refine ah ?_;rw[e2 h0 z];rfl
 refine ah ?_;rw[e3 h0 z];rfl
theorem aep(a b:Wh)(ha:a.ok)(hb:b.ok):FP 204 [a.av,b.av] (i64 (jE a.z b.z)):=by
 refine am func204 ?_;refine gc (Gx a ha) ?_;refine gc (Gx b hb) ?_;refine gD ?_;refine gC (fun z=>?_) (fun z=>?_)
 ·have h0 : a.z.sign ≠ b.z.sign := by simpa [aa] using z
  obtain⟨e1,e2⟩:=ai7 h0;refine gC (fun z=>?_) (fun z=>?_)
  ·have h1 : a.z.sign < b.z.sign := by simpa [aa] using z
   refine ah ?_;rw[e1 h1];rfl
  have h1:¬a.z.sign<b.z.sign:=by simpa[aa]using z
  refine ah ?_;rw[e2 h1];rfl
 have h0:a.z.sign=b.z.sign:=by simpa[aa]using z
 have e1:=aap h0;refine gc (mn a ha) ?_;refine gc (mn b hb) ?_;refine gc (Fn a.m b.m (Wh.ws ha) (Wh.ws hb) a.nz b.nz) ?_;refine gD ?_;refine gc (kS a ha) ?_;refine gC (fun z=>?_) (fun z=>?_)
 ·rw[z,ate rfl]at e1;refine gs (CI (.tmp rfl) rfl) ?_;refine ah ?_;rw[e1];split
  ·rfl
  ·split <;> rfl
 rw[z,atd Bool.false_ne_true]at e1;refine ah ?_
 first |(rw[e1];done) |(rw[e1];rfl)
theorem ai1(a:Wh)(ha:a.ok)(la:a.mag.length<aA):FP 118 [a.av] (zA (-a.z)):=by
 refine am func118 ?_;refine gc (kS a ha) ?_;refine gc (mn a ha) ?_;refine gc (ml _ a.m (Wh.ws ha) (an4 (Wh.small ha la))) ?_;refine gD ?_;refine ah ?_;rw[Wh.z_eq,<- PO];rfl
theorem Wx(a b:Wh)(ha:a.ok)(hb:b.ok)(la:a.mag.length+b.mag.length<=aA):FP 117 [a.av,b.av] (zA (a.z*b.z)):=by
 have h1:=Wh.m_le (w:=a);have h2:=Wh.m_le (w:=b);have h3:(ofNat (val a.m*val b.m)).length<=a.m.length+b.m.length:=gB (by rw[as6];exact apb (co _ (Wh.ws ha)) (co _ (Wh.ws hb)));refine am func117 ?_;refine gc (kS a ha) ?_;refine gc (kS b hb) ?_;refine gc (mn a ha) ?_;refine gc (mn b hb) ?_;refine gc (Vl a.m b.m (Wh.ws ha) (Wh.ws hb) oz) ?_;refine gc (ml _ _ (dT _) oz) ?_;refine gD ?_;refine ah ?_;rw[cD,LW];rfl
theorem aif(a b:Wh)(ha:a.ok)(hb:b.ok)(la:a.mag.length<aA)(lb:b.mag.length<aA):FP 116 [a.av,b.av] (zA (a.z+b.z)):=by
 have h1:=Wh.m_le (w:=a);have h2:=Wh.m_le (w:=b);have oo:val a.m<4294967296^(max a.m.length b.m.length):=asp (co _ (Wh.ws ha)) (aok oz oz);have eY:val b.m<4294967296^(max a.m.length b.m.length):=asp (co _ (Wh.ws hb)) (aok oz oz);have h3:(ofNat (val a.m+val b.m)).length<=max a.m.length b.m.length+1:=gB (by rw[ao1];omega);have h4:(ofNat (val a.m-val b.m)).length<=max a.m.length b.m.length:=gB oz;have h5:(ofNat (val b.m-val a.m)).length<=max a.m.length b.m.length:=gB oz;refine am func116 ?_;refine gc (mn a ha) ?_;refine gc (mn b hb) ?_;refine gD ?_;refine gc (kS a ha) ?_;refine gc (kS b hb) ?_;refine gD ?_;refine gC (fun z=>?_) (fun z=>?_)
 ·have h0 : a.n = b.n := by simpa using z
  refine gc (kS a ha) ?_;refine gc (Ms a.m b.m (Wh.ws ha) (Wh.ws hb) oz oz) ?_;refine gc (ml _ _ (dT _) oz) ?_;refine ah ?_;rw[cD,SV h0];rfl
 have h0:a.n≠b.n:=by simpa using z
 refine gc (Fn a.m b.m (Wh.ws ha) (Wh.ws hb) a.nz b.nz) ?_;refine gC (fun t23=>?_) (fun t23=>?_)
 ·have h6:val b.m<=val a.m:=by
   rcases asb (val a.m) (val b.m)with h |h
   ·rw[ate h]at t23;cases t23
   ·exact h
  refine gc (kS a ha) ?_;refine gc (I5 a.m b.m (Wh.ws ha) (Wh.ws hb) oz (by rcases asb a.m.length b.m.length with h |h;(have:=xK (Wh.ws ha) b.nz h;omega);exact h) h6) ?_;refine gc (ml _ _ (dT _) oz) ?_;refine ah ?_;rw[cD,He h0 h6];rfl
 have h6:val a.m<val b.m:=by
  rcases asb (val a.m) (val b.m)with h |h
  ·exact h
  ·rw[atd oz]at t23;split at t23 <;> cases t23
 refine gc (kS b hb) ?_;refine gc (I5 b.m a.m (Wh.ws hb) (Wh.ws ha) oz (by rcases asb b.m.length a.m.length with h |h;(have:=xK (Wh.ws hb) a.nz h;omega);exact h) oz) ?_;refine gc (ml _ _ (dT _) oz) ?_;refine ah ?_;rw[cD,R0 h0 oz];rfl
theorem KW(a b:Wh)(ha:a.ok)(hb:b.ok)(la:a.mag.length<aA)(lb:b.mag.length<aA):FP 119 [a.av,b.av] (zA (aqn a.z b.z)):=by
 refine am func119 ?_;refine gc (mn a ha) ?_;refine gc (mn b hb) ?_;refine gD ?_;refine fT [4] [4] (fun(x y:List Nat)=>[pP 5 (ws x),pP 6 (ws y)]) (fun _ _=>[]) (fun x y=>Ws x/\Ws y/\Nz x/\Nz y/\x.length<aA/\y.length<aA/\ao5 (val x) (val y)=aqn a.z b.z) (fun _ y=>val y) a.m b.m ⟨Wh.ws ha,Wh.ws hb,a.nz,b.nz,Wh.small ha la,Wh.small hb lb,by rw[aqn,Wh.abs,Wh.abs]⟩ ?_;rintro x y ⟨wx,wy,nx,ny,lx,ly,hg⟩ K1 J1;refine gl ?_;refine gC (fun t15=>?_) (fun t15=>?_)
 ·have hy : y ≠ [] := by intro h; subst h; simp [aa] at t15
  have JR:=ut ny hy;have hm:=aou (val x) JR;refine gc (S2 x y wx wy nx ny hy lx ly) ?_;exact f7 J1 y (ofNat (val x%val y)) ⟨wy,dT _,ny,vG _,ly,asw (gB (Nat.lt_trans hm (co y wy))) ly,by rw[cD,<- hg,ao2 (val x) (val y),ao2 (val y) (val x%val y)];exact(Nat.gcd_rec _ _).symm⟩ (by show val (ofNat _)<val y;rw[cD];exact hm)
 have hy:y=[]:=by
  cases y with
  |nil=>rfl
  |cons c l=>simp[aa]at t15
 subst hy;have hg':val x=aqn a.z b.z:=by rw[<- hg];simp[val]
 refine gc (ml false x wx (an4 lx)) ?_;refine ah ?_;rw[hg'];rfl
theorem aln(a b:Wh)(ha:a.ok)(hb:b.ok)(la:a.mag.length+1<aA)(lb:b.mag.length<aA)(h0:b.z≠0):FP 120 [a.av,b.av] (.tup [zA (a.z/b.z),zA (a.z%b.z),.v .nilIface]):=by
 have iz:=Wh.m_le (w:=a);have lA:=Wh.m_le (w:=b);have bM:val b.m≠0:=by have:=Wh.abs (w:=b);omega
 have bg:b.m≠[]:=fun h=>bM (by rw[h];rfl)
 have sr:(ofNat (val a.m/val b.m)).length<=a.m.length:=gB (asw (aop _ _) (co _ (Wh.ws ha)));have z4:=aou (val a.m) (show 0<val b.m by omega);have sE:(ofNat (val a.m%val b.m)).length<=b.m.length:=gB (Nat.lt_trans z4 (co _ (Wh.ws hb)));have hl3:(ofNat (val a.m/val b.m+1)).length<=a.m.length+1:=gB (by have h7:=asw (aop (val a.m) (val b.m)) (co _ (Wh.ws ha));rw[ao1];generalize val a.m/val b.m=m at *;omega);have hl4:(ofNat (val b.m-val a.m%val b.m)).length<=b.m.length:=gB (by have:=co _ (Wh.ws hb);omega);have xg:val [1]=1:=rfl;refine am func120 ?_;refine gc (mn b hb) ?_;refine gl ?_;refine gC (fun z=>?_) (fun z=>?_) (st1:=(3,0));exact atk (apv.1 (by simpa[aa]using z)) bg;refine gc (mn a ha) ?_;refine gc (S2 a.m b.m (Wh.ws ha) (Wh.ws hb) a.nz b.nz bg oz oz) ?_;refine gc (kS a ha) ?_;refine cG ?_;refine gC (fun z=>?_) (fun z=>?_)
 ·have h1:a.n = true /\ 0 < val a.m % val b.m:=Cj.1 z;obtain ⟨e1,e2⟩:=N8 bM h1.1 h1.2;refine gc (Ms (ofNat (val a.m / val b.m)) [1] (dT _) (zN oz) oz (by unfold aA; simp)) ?_;refine gc (I5 b.m (ofNat (val a.m % val b.m)) (Wh.ws hb) (dT _) oz sE (by rw [cD]; omega)) ?_ (7,0);refine gW (Wk.of (sl:=[pP 2 (.ptr 2 0),pP 3 (.ptr 3 0),pP 4 (.ptr 4 0),pP 5 (.ptr 5 0),pP 8 (ws (ofNat (val a.m / val b.m + 1))),pP 9 (ws (ofNat (val b.m - val a.m % val b.m)))]) (hp:=[pP 2 (.box [bl a.neg,ws a.mag]),pP 3 (.box [bl b.neg,ws b.mag]),pP 4 (.box [.v (.bool false),nS]),pP 5 (.box [.v (.bool false),nS])]) (.k (.k (.k (.k (.cons rfl (.of (by rw [cD,xg])) (.cons rfl (.of (by rw [cD])) .nil)))))) (.k (.k (.k (.k .nil))))) ?_
  refine gc (kS a ha) ?_;refine gc (kS b hb) ?_;refine gc (by apply ml _ _ (dT _) oz) ?_;refine gc (by apply ml _ _ (dT _) oz) ?_;refine gD ?_;refine gR ?_;exact zH (by rw[cD,cD,e1,show sgn false _=_ from e2];rfl)
 have h1:¬(a.n=true/\0<val a.m%val b.m):=fun h=>ara.1 z (Cj.2 h)
 obtain⟨e1,e2⟩:=MN bM h1;refine gc (kS a ha) ?_;refine gc (kS b hb) ?_;refine gc (by apply ml _ _ (dT _) oz) ?_;refine gc (by apply ml _ _ (dT _) oz) ?_;refine gD ?_;refine gR ?_;exact zH (by rw[cD,cD,e1,show sgn false _=_ from e2];rfl)
theorem DK{N:Nat}(h:N<18446744073709551616):val [N%4294967296,N/2^32]=N:=by
 simp only[val];omega
theorem DF{N:Nat}(h:N<18446744073709551616):Ws [N%4294967296,N/2^32]:=by
 intro x hx;simp only[asj,asf,or_false]at hx;rcases hx with rfl |rfl <;> omega
theorem DR(n:Int)(h:-9223372036854775808<=n/\n<=9223372036854775807):FP 47 [i64 n] (zA n):=by
 obtain⟨N,hN⟩:∃N,N=n.natAbs:=⟨_,rfl⟩
 have qL:N<18446744073709551616:=by omega
 refine am func47 ?_;refine gv (show IntKind.u64.wrap n=((n%18446744073709551616:Int)) by simp only[IntKind.wrap,IntKind.signed,IntKind.bits,ard,if_false,aq9];omega) ?_;refine gC (fun z=>?_) (fun z=>?_) (st2:=(77777,0))
 ·have hn : n < 0 := by simpa [aa] using z
  refine gs (CI (.tmp rfl) rfl) ?_ (4,0);refine gW (Wk.of (sl:=[pP 0 (i64 n),pP 2 (.ptr 2 0),pP 3 (u64 N)]) (hp:=[pP 2 (.box [.v (.bool false),nS])]) (.k (.k (.cons rfl (Sub.int (by simp only[IntKind.wrap,IntKind.signed,IntKind.bits,ard,if_false,aq9];omega)) .nil))) (.k .nil)) ?_;refine gv (ef _) ?_;refine gs (fZ (.tmp rfl) (.const _) oz (jv _ 32 oz) rfl) ?_;refine gv ((ef _).trans (by rw[aol (show N/2^32<4294967296 by omega)])) ?_;refine gc (ml (aa .lss n 0) [N%4294967296,N/2^32] (DF qL) (by unfold aA;simp)) ?_;refine ah ?_;rw[DK qL,show sgn (aa .lss n 0) N=n by simp only[sgn,aa,atf];split <;> omega];rfl
 have hn:¬n<0:=by simpa[aa]using z
 refine gW (Wk.of (sl:=[pP 0 (i64 n),pP 2 (.ptr 2 0),pP 3 (u64 N)]) (hp:=[pP 2 (.box [.v (.bool false),nS])]) (.k (.k (.cons rfl (Sub.int oz) .nil))) (.k .nil)) ?_;refine gv (ef _) ?_;refine gs (fZ (.tmp rfl) (.const _) oz (jv _ 32 oz) rfl) ?_;refine gv ((ef _).trans (by rw[aol (show N/2^32<4294967296 by omega)])) ?_;refine gc (ml (aa .lss n 0) [N%4294967296,N/2^32] (DF qL) (by unfold aA;simp)) ?_;refine ah ?_;rw[DK qL,show sgn (aa .lss n 0) N=n by simp only[sgn,aa,atf];split <;> omega];rfl
theorem Jo:∀(j k v:Nat),j<=k->(bf k v).take j=bf j v
 |0,_,_,_=>by simp[bf]
 |j+1,0,_,h=>by omega
 |j+1,k+1,v,h=>by
  rw[bf,bf,List.take_succ_cons,Jo j k _ oz]
theorem RI{m:List Nat}(h:Ws m):(ofNat (val m)).length<=m.length:=gB (co m h)
theorem N5{m:List Nat}(h:Ws m):m.take (ofNat (val m)).length=ofNat (val m):=by
 have h1:=xY m h;have h2:=xY (ofNat (val m)) (dT _);rw[cD]at h2;have h3:=Jo _ _ (val m) (RI h);rw[<- h1,<- h2]at h3;exact h3
theorem L6{m:List Nat}{n:Nat}(h:Ws m)(hn:n<=m.length)(hv:val (m.take n)=val m)(h0:n=0\/ak m (n-1)≠0):n=(ofNat (val m)).length:=by
 have h1:m.take n=ofNat (val m):=by
  refine M3 (iY h n) ?_ hv;intro x hx;rcases h0 with h0 |h0
  ·subst h0;simp at hx
  ·have kA : n ≠ 0 := by intro h3; subst h3; simp at hx
   rw[aqa,aso,aon hn,asy,ate oz,lI oz]at hx;cases hx;exact h0
 rw[<- h1,aso,aon hn]
theorem I8(l:List Nat)(i:Nat):val l=val (l.take i)+4294967296^i*val (l.drop i):=by
 rcases asb i l.length with h |h
 ·exact G7 oz
 ·rw[fX h,as0 h];simp[val]
theorem x7(l:List Nat)(i:Nat):val (l.drop i)=ak l i+4294967296*val (l.drop (i+1)):=by
 rcases asb i l.length with h |h
 ·exact vH h
 ·rw[vc h,as0 h,as0 oz];rfl
theorem Pe{a b:List Nat}{i:Nat}(ha:Ws a)(he:val (a.drop (i+1))=val (b.drop (i+1)))(hx:ak a i<ak b i):val a<val b:=by
 rw[I8 a (i+1),I8 b (i+1),he];have:=Mr ha hx;omega
theorem aja{xs ys:List AV}(hl:xs.length=ys.length)(h1:∀(j:Nat)(y:AV),ys[j]?=some y->y.one=true)(h:∀(j:Nat)(x y:AV),xs[j]?=some x->ys[j]?=some y->Sub x y):Sub (.agg xs) (.agg ys):=by
 intro g S m v hr;cases hr with
 |agg hn h2 hr =>
  refine .agg (hn.trans hl) h1 ?_;intro j u c hu hc
  have hj:j<xs.length:=by
   rw[hl];rcases asb j ys.length with h |h
   ·exact h
   ·rw[asg h]at hc;cases hc
  exact h j _ c (ar7 hj) hc _ _ _ _ (hr j u _ hu (ar7 hj))
theorem ajt:Sub (.agg [.v (.bool false),.v (.slice none 0 0)]) (zA 0):=by
 show Sub (.agg [.v (.bool false),.v (.slice none 0 0)]) (.agg [bl false,ws []]);refine aja rfl ?_ ?_
 ·intro j y hy
  match j,hy with
  |0,hy=>cases hy;rfl
  |1,hy=>cases hy;rfl
 ·intro j x y hx hy
  match j,hx,hy with
  |0,hx,hy=>cases hx;cases hy;exact Sub.refl _
  |1,hx,hy=>cases hx;cases hy;exact Sub.nil _ _ _
theorem So{out:List Nat}{i x:Nat}(h:out.length=i):val (out++[x])=val out+4294967296^i*x:=by
 rw[vY,h];simp[val]
theorem Tg{o c P x y u w:Nat}(hu:u<4294967296)(hw:w<4294967296)(hc:c<=1)(h:o+y=x+c*P) :
  (o+P*((4294967296+u-w-c)%4294967296))+(y+P*w)=(x+P*u)+(1-(4294967296+u-w-c)/2^32)*(P*4294967296):=by
 have h0:(4294967296+u-w-c)%4294967296+w+c=u+(1-(4294967296+u-w-c)/2^32)*4294967296:=by omega
 generalize(1-(4294967296+u-w-c)/2^32)=q at *;generalize(4294967296+u-w-c)%4294967296=r at *;grind
theorem Oq{a b out:List Nat}{c:Nat}(ha:Ws a)(hw:Ws out)(ho:out.length=a.length)(bR:val b<=val a)
  (h:val out+val (b.take a.length)=val (a.take a.length)+c*4294967296^a.length):val out=val a-val b:=by
 have hb:=I8 b a.length;have h2:=co a ha
 have h3:val (b.drop a.length)=0:=by
  rcases aov (val (b.drop a.length))with h4 |h4
  ·exact h4
  ·have:=ash (4294967296^a.length) h4;omega
 rw[h3,Nat.mul_zero,aoy]at hb;rw[<- hb,asK]at h;have h1:=co out hw;rw[ho]at h1;cases c with
 |zero=>omega
 |succ c=>rw[ape]at h;omega
theorem Qi{z:Int}{k:Nat}(h:Lz k z)(hk:k<=aF):(ofInt z).ok:=⟨dT _,asv h.len hk⟩
theorem R9{z:Int}{k:Nat}(h:Lz k z):(ofInt z).mag.length<=k:=h.len
theorem X3(x y:Int):(x-y).sign=jE x y:=by
 unfold jE;have h:=I1 (x-y)
 (repeat' split) <;> omega
end Go.Lw
