/- LimitsExists: for any linkage and any turn the law returns true and leaves its arguments as they were. No other condition. Part 3 of 8: what the later parts need -/
import Derived.Test.YtmencaoblogmeaaGreatYb
import Derived.Laws.Strings
set_option linter.unusedVariables false
open List (nil_append drop_drop map_take all_append map_map drop_length)
open List renaming mem_of_getElem? → ah3, mem_append → aia, mem_cons → aiq, length_cons → aij, length_append → ai0, length_nil → aiv, getD_eq_getElem?_getD → ah4, getElem?_append_left → ais, getElem?_eq_none → aig, all_eq_true → aif, getElem?_take → ai1, getElem?_drop → ai5, getElem?_map → aib, append_assoc → ajc, getElem?_append_right → ain, getElem?_eq_getElem → ah9, drop_eq_nil_of_le → aiy, getElem?_replicate → aix, map_append → ai4, length_take → air, take_of_length_le → aio, drop_zero → ai9, take_length → ail, not_mem_nil → aim, length_map → ah6, length_replicate → aiu, map_replicate → ai7, map_set → aja, mem_iff_getElem → afh, drop_eq_getElem_cons → afk, getElem?_eq_some_iff → afl, drop_append_of_le_length → afm, take_append_of_le_length → afo, take_succ_eq_append_getElem → afp, length_pos_iff → afq, mem_singleton → afr, take_append_drop → afs, mem_of_mem_drop → afu, replicate → afv, getLast?_eq_getElem? → afw, mem_range → afy, mem_map → af0, eq_nil_of_length_eq_zero → af2, length_eq_zero_iff → af7, length_eq_one_iff → af8, map_congr_left → aga, getElem_mem → agb, map_drop → agc, length_drop → agd, take_take → agh, mem_of_mem_take → agi
open Nat renaming eq_of_beq_eq_true → ah5, le_refl → aie, lt_of_lt_of_le → aip, lt_or_ge → aid, le_trans → aiw, mul_le_mul_right → aik, mul_le_mul_left → aih, zero_le → aii, pow_add → ai8, lt_of_le_of_lt → aiz, mul_lt_mul_left → ad6, div_div_eq_div_mul → ad7, max_eq_left → ad8, div_eq_of_lt → ad9, le_of_lt → aea, add_mul_div_left → aeb, two_pow_pos → aed, add_sub_cancel → aef, mod_lt → aeg, div_add_mod → aeh, succ_mul → aei, gcd → aej, blt → aek, lt_of_mul_lt_mul_left → ael, mul_pos → aem, le_add_right → aen, pow_mul → aep, mul_assoc → aer, sub_add_cancel → aet, mul_le_mul → aeu, gcd_comm → aev, mul_lt_mul'' → aew, div_lt_iff_lt_mul → aex, mul_comm → aey, add_mul → aez, eq_zero_or_pos → ae1, max_eq_right → ae3, add_zero → ae4, pow_succ → ae5, pow_le_pow_right → ae6, mod_eq_of_lt → ae7, le_div_iff_mul_le → ae8, zero_add → ae9, mul_add → afa, pow_pos → afb, min_eq_left → afc, div_le_self → afd, beq → afe, pow_lt_pow_right → aff
open Option renaming map_eq_some_iff → ah8, getD_some → ah0, map_some → ah1
open Bool renaming and_eq_true → ah7, or_eq_true → ajb, eq_false_iff → ahb, false_and → ahe, eq_iff_iff → ahf, true_and → ahg, false_eq_true → ahi
open Array renaming getD_eq_getD_getElem? → aic, getElem?_eq_none → ahp, length_toList → ahv, getElem?_toList → ahz
open Int renaming toNat_natCast → ai6, natAbs_natCast → ai3, ofNat_inj → agm, lt_trichotomy → agn, natCast_ediv → ago, mul_nonneg → agp, natCast_nonneg → agq, natAbs_mul → agr, gcd → ags, sign_trichotomy → agu, mul_ne_zero → agw, sign_eq_neg_one_iff_neg → agx, sign_eq_one_iff_pos → agz
open Rat renaming num_divInt_den → ag2, divInt → ag4, intCast_eq_zero_iff → ag6, intCast_mul → ag8
open Decidable renaming not_not → ah2
open Go renaming Operand → ajp, TypeId → ajr, Program → ajs, World → ajt
open Go.Proofs.Tryz
namespace Go.Lw
def aT:Nat->Nat->List Nat
  |0,_=>[]
  |k+1,v=>v%4294967296::aT k (v/4294967296)
theorem fy:∀k v,(aT k v).length=k
 |0,_=>rfl
 |k+1,v=>by simp[aT,fy k]
theorem kL:∀k v,Ws (aT k v)
 |0,_=>w8
 |k+1,v=>by
  intro x hx;rcases aiq.1 hx with h |h
  ·omega
  ·exact kL k _ x h
theorem mz:∀k v,v<4294967296^k->val (aT k v)=v
 |0,v,h=>by simp at h;subst h;rfl
 |k+1,v,h=>by
  rw[ae5]at h;simp only[aT,val];rw[mz k _ oz];omega
theorem vo:∀(l:List Nat),Ws l->l=aT l.length (val l)
 |[],_=>rfl
 |x::l,h=>by
  have hx:=h x (by simp);have ih:=vo l (fun y hy=>h y (by simp[hy]));simp only[aij,aT,val];rw[show(x+4294967296*val l)%4294967296=x by omega,show(x+4294967296*val l)/4294967296=val l by omega,<- ih]
theorem yU{l:List Nat}{k v:Nat}(h:Ws l)(hk:l.length=k)(hv:val l=v):l=aT k v:=by
 subst hk;subst hv;exact vo l h
theorem yW{l:List Nat}(h:Ws l)(i:Nat)(hi:i<=l.length):val l/4294967296^i=val (l.drop i):=by
 rw[uT l i,afc hi];have h1:=bG (l.take i) (gH h i);rw[air,afc hi]at h1;rw[aeb _ _ oz,ad9 h1,ae9]
theorem zr{n k:Nat}(h:n<=k):2^k=2^(k-n)*2^n:=by rw[<- ai8];congr 1;omega
theorem WN{x w n:Nat}(hn:n<32)(hw:w<2^n):w ||| x*2^n%4294967296=w+x*2^n%4294967296:=by
 have h1:x*2^n%4294967296=(x%2^(32-n))*2^n:=by
  rw[show 4294967296=2^32 from rfl,zr (show n<=32 by omega),Nat.mul_mod_mul_right]
 rw[h1];exact BT hw
theorem YS{x n:Nat}(hx:x<4294967296):x*2^n/4294967296<2^n:=by
 rw[aex oz,aey];exact Nat.mul_lt_mul_of_pos_left hx (afb oz)
theorem qS{n k:Nat}(h:n<=k):2^n<=2^k:=ae6 oz h
theorem Tg{x w n:Nat}(hn:n<32)(hw:w<2^n):w+x*2^n%4294967296<4294967296:=by
 have h1:x*2^n%4294967296=(x%2^(32-n))*2^n:=by
  rw[show 4294967296=2^32 from rfl,zr (show n<=32 by omega),Nat.mul_mod_mul_right]
 have h2:x%2^(32-n)+1<=2^(32-n):=aeg _ (afb oz);have h3:=aik (2^n) h2;rw[<- zr (show n<=32 by omega),aez]at h3;omega
theorem Vl{a out:List Nat}{i n:Nat}(hi:i+1<out.length)(h:val (out.take (i+1))=2^n*val (a.take i)) :
  val (((out.set i (aj out i+aj a i*2^n%4294967296)).set (i+1) (aj a i*2^n/4294967296)).take (i+1+1))=2^n*val (a.take (i+1)):=by
 rw[mh (by simpa using hi),mh oz,cU (l:=a)];rw[cU]at h;have:=aeh (aj a i*2^n) 4294967296;generalize aj a i*2^n%4294967296=r at *;generalize aj a i*2^n/4294967296=q at *;rw[ae5];grind
theorem VQ{a:List Nat}{i n:Nat}(h:Ws a)(hi:i<a.length)(hn:n<=32) :
  (aj a i+aj a (i+1)*2^32)/2^n%4294967296=(val a/2^n/4294967296^i)%4294967296:=by
 rw[ad7,aey (2^n),<- ad7,yW h i oz,uc hi]
 have h1:val (a.drop (i+1))=aj a (i+1)+4294967296*val (a.drop (i+2)):=by
  rcases aid (i+1) a.length with h |h
  ·exact uc h
  ·rw[sR h,aiy oz,aiy oz];rfl
 rw[h1];generalize val (a.drop (i+2))=R
 have h2:aj a i+4294967296*(aj a (i+1)+4294967296*R)=(aj a i+aj a (i+1)*2^32)+2^n*(2^(32-n)*R*4294967296):=by
  have h3:=zr hn;rw[show(2:Nat)^n*(2^(32-n)*R*4294967296)=(2^(32-n)*2^n)*R*4294967296 by grind,<- h3];omega
 rw[h2,aeb _ _ (afb oz),Nat.add_mul_mod_self_right]
theorem JE{a out:List Nat}{i n:Nat}(h:Ws a)(hi:i<a.length)(ho:i<out.length)(hn:n<=32)(hv:val (out.take i)=val a/2^n%4294967296^i) :
  val ((out.set i ((aj a i+aj a (i+1)*2^32)/2^n%4294967296)).take (i+1))=val a/2^n%4294967296^(i+1):=by
 rw[mh ho,VQ h hi hn,ae5,Nat.mod_mul,hv]
theorem acv{a out:List Nat}{n:Nat}(h:Ws a)(ho:out.length=a.length)(hv:val (out.take a.length)=val a/2^n%4294967296^a.length):val out=val a/2^n:=by
 rw[eM oz]at hv;rw[hv,ae7];exact aiz (afd _ _) (bG a h)
theorem acq{a o:List Nat}{i r w:Nat}(hi:i<a.length)(ho:i<o.length)(h:val (a.drop (i+1))=w*val (o.drop (i+1))+r) :
  val (a.drop i)=w*val ((o.set i ((r*2^32+aj a i)/w)).drop i)+(r*2^32+aj a i)%w:=by
 rw[G7 ho,uc hi,h];have:=aeh (r*2^32+aj a i) w;generalize(r*2^32+aj a i)%w=r' at *;generalize(r*2^32+aj a i)/w=q at *;grind
theorem WA{r w x:Nat}(hr:r<w)(hx:x<4294967296):(r*2^32+x)/w<4294967296:=by
 rw[aex oz];have:=aih 4294967296 (show r+1<=w from hr);omega
theorem yO{a q w r:Nat}(h:a=w*q+r)(hr:r<w):a/w=q/\a%w=r:=by
 subst h;rw[Nat.mul_add_div oz,Nat.mul_add_mod,ad9 hr,ae7 hr];simp
theorem Wf{l:List Nat}{i x:Nat}(h:i<l.length):aj (l.set i x) i=x:=by simp[aj,h]
theorem aJ.own2{s:AS}{k:Nat}{y z:Blk}{x r:AV}(h:lk s.hp k=some y)(hz:y=z)(hx:x=r):aJ s x r [(k,some z)]:=by
 subst hz;subst hx
 refine aJ.keep ?_;intro k' z' h';rw[aA]at h';split at h'
 ·rename_i e;cases h';rw[e];exact h
 ·cases h'
def a6(u:List Nat)(j n:Nat):List Nat:=(u.drop j).take n
def wr(u:List Nat)(j:Nat)(l:List Nat):List Nat:=u.take j++l++u.drop (j+l.length)
theorem BJ{u o:List Nat}{j n:Nat}(h1:o.take j=u.take j)(h2:o.drop (j+n)=u.drop (j+n))(hn:j+n<=o.length):o=wr u j (a6 o j n):=by
 have hl:(a6 o j n).length=n:=by simp[a6];omega
 unfold wr;rw[hl,<- h1,<- h2]
 conv=>lhs;rw[<- afs j o]
 rw[ajc];congr 1;unfold a6
 conv=>lhs;rw[<- afs n (o.drop j)]
 rw[drop_drop]
theorem nh{u l:List Nat}{j:Nat}(h:j+l.length<=u.length):(wr u j l).length=u.length:=by simp[wr];omega
theorem z7{a b:List Nat}(ha:Ws a)(hb:Ws b):Ws (a++b):=fun x hx=>(aia.1 hx).elim (ha x) (hb x)
theorem Og{l:List Nat}(h:Ws l)(n:Nat):Ws (l.drop n):=fun x hx=>h x (afu hx)
theorem oV{l:List Nat}(h:Ws l)(i n:Nat):Ws (a6 l i n):=gH (Og h i) n
theorem ue{u l:List Nat}{j:Nat}(hu:Ws u)(hl:Ws l):Ws (wr u j l):=z7 (z7 (gH hu _) hl) (Og hu _)
theorem qM{u:List Nat}{j n:Nat}(h:j+n<=u.length):(a6 u j n).length=n:=by simp[a6];omega
theorem Wg{u l:List Nat}{j:Nat}(h:j+l.length<=u.length):val ((wr u j l).drop j)=val l+4294967296^l.length*val (u.drop (j+l.length)):=by
 unfold wr;rw[ajc,afm (by simp;omega),aiy (by simp;omega),nil_append,uk]
theorem Ht{u:List Nat}{j n:Nat}(h:j+n<=u.length):val (u.drop j)=val (a6 u j n)+4294967296^n*val (u.drop (j+n)):=by
 rw[uT (u.drop j) n,drop_drop,afc (by simp;omega)];rfl
theorem DP{u:List Nat}{j:Nat}(h:j<=u.length):val u=val (u.take j)+4294967296^j*val (u.drop j):=by
 rw[uT u j,afc h]
theorem NW{u l:List Nat}{j:Nat}(h:j<=u.length):(wr u j l).take j=u.take j:=by
 unfold wr;rw[ajc,afo (by simp;omega),aio (by simp;omega)]
theorem S0{u l:List Nat}{j:Nat}(h:j<=u.length):(wr u j l).drop (j+l.length)=u.drop (j+l.length):=by
 unfold wr;rw[List.drop_append,aiy (by simp;omega)];simp[afc h]
theorem zV{l:List Nat}{j i:Nat}:aj (l.drop j) i=aj l (j+i):=by simp[aj]
theorem sT{u o:List Nat}{k:Nat}(h:o.drop k=u.drop k):aj o k=aj u k:=by
 have h1:=zV (l:=o) (j:=k) (i:=0);have h2:=zV (l:=u) (j:=k) (i:=0);rw[h]at h1;simpa using h1.symm.trans h2
theorem wR{u o:List Nat}{k x:Nat}(h:o.drop k=u.drop k):(o.set k x).drop (k+1)=u.drop (k+1):=by
 rw[List.drop_set_of_lt oz];have h1:(o.drop k).drop 1=(u.drop k).drop 1:=by rw[h]
 rwa [drop_drop,drop_drop]at h1
theorem JF{o:List Nat}{j i x:Nat}(h:j+i<o.length):val (a6 (o.set (j+i) x) j (i+1))=val (a6 o j i)+4294967296^i*x:=by
 unfold a6;rw[List.drop_set,ajf oz,Nat.add_sub_cancel_left,mh (by simp;omega)]
theorem Hg{u:List Nat}{j i:Nat}:val (a6 u j (i+1))=val (a6 u j i)+4294967296^i*aj u (j+i):=by
 unfold a6;rw[cU,zV]
theorem abr{lo c P n V w:Nat}(h:lo+c*P=n*V):(lo+P*((c+n*w)%4294967296))+((c+n*w)/4294967296)*(P*4294967296)=n*(V+P*w):=by
 have:=aeh (c+n*w) 4294967296;generalize(c+n*w)%4294967296=r at *;generalize(c+n*w)/4294967296=q at *;grind
def kA(n V W len:Nat):Nat:=if n*V<=W then W-n*V else W+4294967296^len-n*V
theorem QJ{u o v:List Nat}{off len n c b lo:Nat}(hu:Ws u)(ho:Ws o)(hl:o.length=u.length)(hj:off+len<=u.length)(hv:Ws v)(lZ:v.length+1<=len)(hn:n<4294967296)
  (h1:o.take off=u.take off) (h2:o.drop (off+len)=u.drop (off+len)) (hb:b<=1) (h3:lo+c*4294967296^len=n*val (v.take len))
  (h4:val (a6 o off len)+lo=val (a6 u off len)+b*4294967296^len) :
  o=wr u off (aT len (kA n (val v) (val (a6 u off len)) len))/\(b=1↔val (a6 u off len)<n*val v):=by
 rw[eM oz]at h3
 have hV:n*val v<4294967296^len:=by
  have h5:=bG v hv;have h6:4294967296^(v.length+1)<=4294967296^len:=ae6 oz lZ;rw[ae5,aey]at h6;exact aip (aew hn h5) h6
 have hc:c=0:=by
  cases c with
  |zero=>rfl
  |succ c=>rw[aei]at h3;omega
 subst hc;rw[Nat.zero_mul,ae4]at h3;subst h3;have ho':=bG (a6 o off len) (oV ho _ _);have hu':=bG (a6 u off len) (oV hu _ _);rw[qM oz]at ho' hu';have hb':b=0\/b=1:=by omega
 refine⟨?_,?_⟩
 ·have h7:a6 o off len=aT len (kA n (val v) (val (a6 u off len)) len):=by
   refine yU (oV ho _ _) (qM oz) ?_;unfold kA;rcases hb' with rfl |rfl
   ·rw[ajg oz];omega
   ·rw[ajf oz];omega
  rw[<- h7];exact BJ h1 h2 oz
 ·rcases hb' with rfl |rfl <;> omega
theorem SW{u o v:List Nat}{off len c:Nat}(ho:Ws o)(hl:o.length=u.length)(hj:off+len<=u.length)(lZ:v.length<=len)
  (h1:o.take off=u.take off) (h2:o.drop (off+len)=u.drop (off+len)) 
  (h4:val (a6 o off len)+c*4294967296^len=val (a6 u off len)+val (v.take len)) :
  o=wr u off (aT len ((val (a6 u off len)+val v)%4294967296^len)):=by
 rw[eM oz]at h4;have ho':=bG (a6 o off len) (oV ho _ _);rw[qM oz]at ho'
 have h7:a6 o off len=aT len ((val (a6 u off len)+val v)%4294967296^len):=by
  refine yU (oV ho _ _) (qM oz) ?_;rw[<- h4,Nat.add_mul_mod_self_right,ae7 ho']
 rw[<- h7];exact BJ h1 h2 oz
def aM(x:Nat):Nat:=if x=0 then 0 else x.log2+1
theorem kq{x:Nat}(h:x<256):IntKind.u8.wrap (x:Int)=(x:Int):=by
 simp only[IntKind.wrap,IntKind.signed,IntKind.bits,ahe,if_false,ahi];omega
theorem zU{x:Nat}:x<2^aM x:=by
 unfold aM;split
 ·next h=>subst h;decide
 ·exact Nat.lt_log2_self
theorem AC{x:Nat}(h:x≠0):2^(aM x-1)<=x:=by
 unfold aM;rw[ajf h,aef];exact Nat.log2_self_le h
theorem aa6{x k:Nat}(h1:2^k<=x)(h2:x<2^(k+1)):aM x=k+1:=by
 have hx:x≠0:=by intro h;subst h;have:=afb (n:=k) (show 0<2 by omega);omega
 unfold aM;rw[ajf hx,(Nat.log2_eq_iff hx).2 ⟨h1,h2⟩]
theorem vt{x k:Nat}(h:2^k<=x):aM x=k+aM (x/2^k):=by
 have h0:x/2^k≠0:=by
  have:=Nat.div_pos h (afb oz);omega
 have h1:=AC h0;have h2:=zU (x:=x/2^k);have h3:1<=aM (x/2^k):=by unfold aM;rw[ajf h0];omega
 generalize aM (x/2^k)=m at *;obtain⟨n,rfl⟩:∃n,m=n+1:=⟨m-1,by omega⟩
 rw[aef]at h1;rw[ae8 (afb oz),<- ai8]at h1;rw[aex (afb oz),<- ai8]at h2;rw[show k+(n+1)=(n+k)+1 by omega];exact aa6 h1 (by rw[show n+k+1=n+1+k by omega];exact h2)
theorem DX{x:Nat}(h:x≠0)(hx:x<4294967296):aM x<=32/\1<=aM x/\2147483648<=2^(32-aM x)*x/\2^(32-aM x)*x<4294967296:=by
 have h1:=AC h;have h2:=zU (x:=x);have h3:1<=aM x:=by unfold aM;rw[ajf h];omega
 have h4:aM x<=32:=by
  rcases aid 32 (aM x)with h5 |h5
  ·have:2^32<=2^(aM x-1):=qS oz;omega
  ·exact h5
 refine⟨h4,h3,?_,?_⟩
 ·have:=aih (2^(32-aM x)) h1;rw[<- ai8,show 32-aM x+(aM x-1)=31 by omega]at this;omega
 ·have:=(ad6 (a:=2^(32-aM x)) (afb oz)).2 h2;rw[<- ai8,show 32-aM x+aM x=32 by omega]at this;omega
def NB(b:ByteArray):Bool:=afe b.data.toList.length 256&&(List.range 256).all fun y=>afe (b.data.toList.getD y 0).toNat (aM y)
theorem zW{P:ajs}{N:Nat}{R:Array Oper}{s:AS}{d:Nat}{x ix:ajp}{kk:IntKind}{i:Int}{y:Nat}{b:ByteArray}{T t:ajr}{ti:TI}{pos:String}{after:Array Edge}
  (hx:Ev s x (.v (.string b))) (hi:Ev s ix (.v (.int kk i))) (hT:aq P T=some ti) (hk:ti.k=.string)
  (hb:NB b=true) (h0:i=(y:Int)) (hy:y<256) (hN:aek d N=true) :
  Step P N R s ⟨some d,.index T x ix,t,pos,after,none⟩ ⟨some (.v (.int .u8 (aM y))),[],ai x++ai ix,[]⟩:=by
 subst h0;simp only[NB,ah7,aif,afy]at hb;have hs:b.size=256:=by have:=ah5 hb.1;rw[ahv]at this;exact this
 have h1:=ah5 (hb.2 y hy);have:=wP (R:=R) (N:=N) (t:=t) (pos:=pos) (after:=after) hx hi hT hk oz oz hN;rw[ai6]at this;rw[ah4,ahz,<- aic]at h1
 rwa [h1]at this
theorem kv{x:Nat}(h:x<256):aM x<=8:=by
 rcases aid 8 (aM x)with h5 |h5
 ·have h0 : x ≠ 0 := by intro h0; subst h0; simp [aM] at h5
  have h1:=AC h0;have:2^8<=2^(aM x-1):=qS oz;omega
 ·exact h5
structure Dig(V W P V' W' top next third head:Nat):Prop where
  hV:V=V'+P*(next+4294967296*top)
  hW:W=W'+P*(third+4294967296*head)
  hV':V'<P
  hW':W'<P
  hnext:next<4294967296
  hthird:third<4294967296
  htop:2147483648<=top
  htopB:top<4294967296
  hlt:W<V*4294967296
namespace Dig
variable{V W P V' W' top next third head:Nat}
theorem vpos(h:Dig V W P V' W' top next third head):0<V:=by
 have:=h.hlt;omega
theorem q_lt(h:Dig V W P V' W' top next third head):W/V<4294967296:=by
 rw[aex h.vpos,aey];exact h.hlt
theorem mul_le(h:Dig V W P V' W' top next third head){q:Nat}(hq:q*V<=W):q*(next+4294967296*top)<=third+4294967296*head:=by
 have h1:q*(P*(next+4294967296*top))<=q*V:=aih _ (by have:=h.hV;omega);have h2:=h.hW;have h3:=h.hW'
 have h4:P*(q*(next+4294967296*top))<P*(third+4294967296*head+1):=by
  rw[afa P _ 1,Nat.mul_one];have:P*(q*(next+4294967296*top))=q*(P*(next+4294967296*top)):=by grind
  omega
 have:=ael h4;omega
theorem up(h:Dig V W P V' W' top next third head){q:Nat}(hq:q*V<=W):q*top<=head:=by
 have h1:=h.mul_le hq;have h2:=h.hthird;rw[afa,show q*(4294967296*top)=4294967296*(q*top) by grind]at h1;omega
theorem first(h:Dig V W P V' W' top next third head):W/V<=head/top:=by
 have:=h.htop;rw[ae8 oz];exact h.up (Nat.div_mul_le_self W V)
theorem head_le(h:Dig V W P V' W' top next third head):head<=4294967296*top+next:=by
 have h1:=h.hlt;have h2:=h.hV;have h3:=h.hW;have h4:=h.hV'
 have h5:P*(third+4294967296*head)<P*(4294967296*(next+4294967296*top+1)):=by
  have:V*4294967296<P*(4294967296*(next+4294967296*top+1)):=by
   rw[h2,aez,show P*(next+4294967296*top)*4294967296=P*(4294967296*(next+4294967296*top)) by grind,afa 4294967296 _ 1,afa P];omega
  omega
 have:=ael h5;omega
theorem step(h:Dig V W P V' W' top next third head){g r:Nat}(hg:W/V<=g)(he:g*top+r=head)(hc:4294967296<=g\/r*4294967296+third<g*next):W/V<g:=by
 rcases hc with hc |hc
 ·have:=h.q_lt;omega
 ·refine Nat.lt_of_le_of_ne hg ?_;intro hq;have h1:=h.mul_le (Nat.div_mul_le_self W V);rw[hq,<- he,afa,afa,show g*(4294967296*top)=4294967296*(g*top) by grind]at h1;omega
theorem last(h:Dig V W P V' W' top next third head){g r:Nat}(he:g*top+r=head)(hc:¬(r<4294967296/\(4294967296<=g\/r*4294967296+third<g*next))) :
  g<4294967296/\g<=W/V+1:=by
 have hh:=h.head_le;have hn:=h.hnext;have htop:=h.htop
 have hg:g<4294967296/\g*next<=r*4294967296+third:=by
  rcases aid r 4294967296 with hr |hr
  ·have h1:¬(4294967296<=g\/r*4294967296+third<g*next):=fun h'=>hc ⟨hr,h'⟩
   omega
  ·have h1:g<4294967296:=by
    rcases aid g 4294967296 with h2 |h2
    ·exact h2
    ·have:=aik top h2;omega
   refine⟨h1,?_⟩;have h2:g*next<=4294967296*4294967296:=aeu oz oz;have h3:4294967296*4294967296<=r*4294967296:=aik _ hr;omega
 refine⟨hg.1,?_⟩
 have h1:g*(next+4294967296*top)<=third+4294967296*head:=by
  rw[<- he,afa,afa,show g*(4294967296*top)=4294967296*(g*top) by grind];omega
 have h2:g*V<=W+V:=by
  have h3:g*V'<=4294967296*P:=aeu oz (by have:=h.hV';omega);have h4:P*(g*(next+4294967296*top))<=P*(third+4294967296*head):=aih _ h1;have h5:P*4294967296<=P*(next+4294967296*top):=aih _ oz;have h6:=h.hV;have h7:=h.hW;have h8:g*V=g*V'+P*(g*(next+4294967296*top)):=by rw[h6];grind
  omega
 have h9:(g-1)*V<=W:=by rw[Nat.sub_mul];omega
 have:=(ae8 h.vpos).2 h9;omega
end Dig
theorem Lp{l:List Nat}{n:Nat}:val (l.take (n+2))=val (l.take n)+4294967296^n*(aj l n+4294967296*aj l (n+1)):=by
 rw[cU,cU,ae5];grind
theorem Tp{l:List Nat}{n:Nat}:val (l.take (n+3))=val (l.take n)+4294967296^n*(aj l n+4294967296*(aj l (n+2)*4294967296+aj l (n+1))):=by
 rw[cU,Lp,ai8];grind
theorem rC{l:List Nat}(h:Ws l)(n:Nat):val (l.take n)<4294967296^n:=by
 have h1:=bG (l.take n) (gH h n);exact aip h1 (ae6 oz (by simp;omega))
theorem Uz{v p:List Nat}{n:Nat}(hv:Ws v)(hp:Ws p)(hl:v.length=n+2)(kU:p.length=n+3)(ht:2147483648<=aj v (n+1))(h:val p<val v*4294967296) :
  Dig (val v) (val p) (4294967296^n) (val (v.take n)) (val (p.take n)) (aj v (n+1)) (aj v n) (aj p n) (aj p (n+2)*4294967296+aj p (n+1)) where
 hV:=by rw[<- Lp,eM oz]
 hW:=by rw[<- Tp,eM oz]
 hV':=rC hv n
 hW':=rC hp n
 hnext:=bu hv n
 hthird:=bu hp n
 htop:=ht
 htopB:=bu hv (n+1)
 hlt:=h
theorem QG{u l:List Nat}{j:Nat}(h:j<=u.length):a6 (wr u j l) j l.length=l:=by
 unfold a6 wr;rw[ajc,List.drop_append,aiy (by simp;omega)];simp[afc h]
theorem Qd{u l l':List Nat}{j:Nat}(h:j<=u.length)(hl:l.length=l'.length):wr (wr u j l) j l'=wr u j l':=by
 have h1:=NW (l:=l) h;have h2:=S0 (l:=l) h;rw[hl]at h2;rw[wr,h1,h2,<- wr]
theorem ZC{W V g len:Nat}(hV:0<V)(Pk:V<=4294967296^len)(hW:W<4294967296^len)(h1:W/V<=g)(h2:g<=W/V+1) :
  (W<g*V->(kA g V W len+V)%4294967296^len=W%V/\g-1=W/V/\1<=g)/\(¬W<g*V->kA g V W len=W%V/\g=W/V):=by
 have h3:=aeh W V;have h4:=aeg W hV;generalize W/V=q at *;generalize W%V=r at *;have h5:V*q=q*V:=aey _ _;refine⟨fun h=>?_,fun h=>?_⟩
 ·have hg:g=q+1:=by
   rcases aid q g with h6 |h6
   ·omega
   ·have : g = q := by omega
    subst this;omega
  subst hg;rw[aei]at h;refine⟨?_,by omega,by omega⟩;unfold kA;rw[aei,ajf oz,show W+4294967296^len-(q*V+V)+V=r+4294967296^len by omega,Nat.add_mod_right,ae7 oz]
 ·have hg:g=q:=by
   rcases aid q g with h6 |h6
   ·have : g = q + 1 := by omega
    subst this;rw[aei]at h;omega
   ·omega
  subst hg;refine⟨?_,rfl⟩;unfold kA;rw[ajg oz];omega
theorem Wr{u q:List Nat}{k lv V U:Nat}(hu:Ws u)(hk:k+lv+1<=u.length)(hq:k<q.length)(hV:V<4294967296^lv)(h1:val (u.drop (k+1))<V)(h2:U=V*(4294967296^(k+1)*val (q.drop (k+1)))+val u) :
  val (a6 u k (lv+1))<V*4294967296/\val ((wr u k (aT (lv+1) (val (a6 u k (lv+1))%V))).drop k)<V /\
  U=V*(4294967296^k*val ((q.set k (val (a6 u k (lv+1))/V)).drop k))+val (wr u k (aT (lv+1) (val (a6 u k (lv+1))%V))):=by
 have h0:val (u.drop (k+(lv+1)))=0:=by
  have h3:=Ht (u:=u) (j:=k+1) (n:=lv) oz;rw[show k+1+lv=k+(lv+1) by omega]at h3;rcases ae1 (val (u.drop (k+(lv+1))))with h4 |h4
  ·exact h4
  ·have:=aih (4294967296^lv) h4;omega
 have hd:=Ht (u:=u) (j:=k) (n:=lv+1) oz;rw[h0,Nat.mul_zero,ae4]at hd;have hw:=bu hu k;have l0:=uc (l:=u) (i:=k) oz;have hW:val (a6 u k (lv+1))<V*4294967296:=by rw[<- hd,l0];omega
 have Gi:0<V:=by omega
 have hr:=aeg (val (a6 u k (lv+1))) Gi;have hm:=aeh (val (a6 u k (lv+1))) V;have ch:(aT (lv+1) (val (a6 u k (lv+1))%V)).length=lv+1:=fy _ _;have hx:val (a6 u k (lv+1))%V<4294967296^(lv+1):=by rw[ae5];omega
 have hwd:val ((wr u k (aT (lv+1) (val (a6 u k (lv+1))%V))).drop k)=val (a6 u k (lv+1))%V:=by
  rw[Wg oz,ch,h0,mz _ _ hx];omega
 refine⟨hW,by omega,?_⟩;rw[DP (u:=wr u k _) (j:=k) (by rw[nh oz];omega),NW oz,hwd,G7 hq,h2,DP (u:=u) (j:=k) oz,hd];generalize val (a6 u k (lv+1))%V=r at *;generalize val (a6 u k (lv+1))/V=d at *;rw[<- hm,ae5];grind
theorem VV{A Bv n Q R:Nat}(h:2^n*A=2^n*Bv*Q+R)(hR:R<2^n*Bv):Q=A/Bv/\R/2^n=A%Bv:=by
 obtain⟨h1,h2⟩:=yO h hR;rw[Nat.mul_div_mul_left _ _ (afb oz)]at h1;rw[Nat.mul_mod_mul_left]at h2;rw[<- h1,<- h2,Nat.mul_div_cancel_left _ (afb oz)];exact⟨rfl,rfl⟩
end Go.Lw
namespace Go.Lw
theorem LF:∀k v,(aT (k+1) v).take k=aT k v
 |0,_=>by simp[aT]
 |k+1,v=>by
  rw[aT,List.take_succ_cons,LF k];rfl
theorem SB{u:List Nat}{j n i:Nat}(h:i<n):aj (a6 u j n) i=aj u (j+i):=by
 rw[<- zV];simp[a6,aj,h]
theorem Ce{u:List Nat}{j n i:Nat}(h:i<n)(h2:j+n<=u.length):(u.map u32)[j+i]?=some (u32 (aj (a6 u j n) i)):=by
 rw[SB h];exact bI oz
theorem SI{b:List Nat}{n:Nat}(hb:Ws b)(nb:Nz b)(hl:b.length=n+2) :
  ∃sh v,sh=32-aM (aj b (n+1))/\sh<32/\v=aT (n+2) (2^sh*val b)/\Ws v/\v.length=n+2/\val v=2^sh*val b/\2147483648<=aj v (n+1)/\aj b (n+1)≠0 /\
   4294967296^(n+1)<=val b:=by
 have ht:aj b (n+1)≠0:=by
  refine nb _ ?_;rw[afw,hl];exact jX oz
 have htB:=bu hb (n+1);obtain⟨h1,h2,h3,h4⟩:=DX ht htB;have h5:=zU (x:=aj b (n+1))
 have hv:val b=val (b.take (n+1))+4294967296^(n+1)*aj b (n+1):=by
  rw[<- cU,eM oz]
 have hlt:=rC hb (n+1)
 have adh:2^(32-aM (aj b (n+1)))*(aj b (n+1)+1)<=4294967296:=by
  have:=aih (2^(32-aM (aj b (n+1)))) (show aj b (n+1)+1<=2^aM (aj b (n+1))from h5);rw[<- ai8,show 32-aM (aj b (n+1))+aM (aj b (n+1))=32 by omega]at this;exact this
 have Bg:4294967296^(n+1)<=val b:=by
  have:=aih (4294967296^(n+1)) (show 1<=aj b (n+1) by omega);omega
 generalize lc:32-aM (aj b (n+1))=sh at *
 have hX:2^sh*val b<4294967296^(n+2):=by
  have e1:val b<4294967296^(n+1)*(aj b (n+1)+1):=by rw[afa];omega
  have e2:2^sh*val b<2^sh*(4294967296^(n+1)*(aj b (n+1)+1)):=(ad6 (afb oz)).2 e1;have e3:2^sh*(4294967296^(n+1)*(aj b (n+1)+1))=4294967296^(n+1)*(2^sh*(aj b (n+1)+1)):=by grind
  have e4:=aih (4294967296^(n+1)) adh;rw[<- ae5]at e4;rw[e3]at e2;exact aip e2 e4
 refine⟨sh,_,rfl,by omega,rfl,kL _ _,fy _ _,mz _ _ hX,?_,ht,Bg⟩
 have jn:val (aT (n+2) (2^sh*val b))=val ((aT (n+2) (2^sh*val b)).take (n+1))+4294967296^(n+1)*aj (aT (n+2) (2^sh*val b)) (n+1):=by
  rw[<- cU,eM (by rw[fy];omega)]
 rw[mz _ _ hX]at jn;have Bh:=rC (kL (n+2) (2^sh*val b)) (n+1)
 have e5:4294967296^(n+1)*(2^sh*aj b (n+1))<=2^sh*val b:=by
  have:=aih (2^sh) (show 4294967296^(n+1)*aj b (n+1)<=val b by omega);have e6:2^sh*(4294967296^(n+1)*aj b (n+1))=4294967296^(n+1)*(2^sh*aj b (n+1)):=by grind
  omega
 have e7:4294967296^(n+1)*(2^sh*aj b (n+1))<4294967296^(n+1)*(aj (aT (n+2) (2^sh*val b)) (n+1)+1):=by rw[afa (4294967296^(n+1)) _ 1];omega
 have:=ael e7;omega
theorem Jy{a:List Nat}{sh lq n Bv:Nat}(ha:Ws a)(lc:sh<32)(hl:a.length+1=lq+(n+2))(hB:4294967296^(n+1)<=Bv) :
  val (aT (a.length+1) (2^sh*val a))=2^sh*val a/\val ((aT (a.length+1) (2^sh*val a)).drop lq)<2^sh*Bv:=by
 have h1:=bG a ha;have h2:2^sh<=2^31:=qS oz;have hp:0<2^sh:=afb oz;have h3:2^sh*val a<2^sh*4294967296^a.length:=(ad6 hp).2 h1
 have hX:2^sh*val a<4294967296^(a.length+1):=by
  have:=aik (4294967296^a.length) (show 2^sh<=4294967296 by omega);rw[ae5];omega
 refine⟨mz _ _ hX,?_⟩;have h4:=yW (kL (a.length+1) (2^sh*val a)) lq (by rw[fy];omega);rw[mz _ _ hX]at h4;rw[<- h4,aex (afb oz)];have h5:a.length=(n+1)+lq:=by omega
 rw[h5,ai8]at h3;have h6:=aih (2^sh) (aik (4294967296^lq) hB);rw[aer];omega
theorem ZM{s:AS}:∀(k:Nat)(z:Blk),lk ([]:Hp) k=some z->s.blk k=some z:=fun _ _ h=>by cases h
theorem Rz{s:AS}{k0:Nat}{x:Blk}(h:s.blk k0=some x):∀(k:Nat)(z:Blk),lk [(k0,some x)] k=some z->s.blk k=some z:=by
 intro k z hz;rw[aA]at hz;split at hz
 ·rename_i e;cases hz;rw[e];exact h
 ·cases hz
theorem YF{s:AS}{x y x' y':AV}(h:Sub x x')(h':Sub y y'):aJ s (dD [x,y]) (.tup [x',y']) []:=by
 refine aJ.pure.sub ?_;intro g S m v hr;cases hr with
 |tup hn hr =>
  refine .tup (by simpa using hn) ?_;intro j u c hu hc
  match j,hc with
  |0,hc=>cases hc;exact h _ _ _ _ (hr 0 u x hu rfl)
  |1,hc=>cases hc;exact h' _ _ _ _ (hr 1 u y hu rfl)
theorem WF{b v:List Nat}{n X:Nat}(hn:b.length=n+2)(h:v=aT (n+2) X) :
  AV.fz 900 1 ((aT (b.length+1) X).map u32) (.ms 900 1 0 b.length)=ws v:=by
 rw[qz (by simp[fy]),h,<- hn,ai9,<- map_take,LF,ws]
theorem Lx{x:Nat}(h:1<=x)(hx:x<18446744073709551616):IntKind.u64.wrap (fq .sub (x:Int) 1)=((x-1:Nat):Int):=by
 have h1:=lB (x:=x) (y:=1) hx oz;rw[ajg h]at h1;exact h1
theorem Jc{r g G R:Nat}:(cond (aa .lss (r:Int) 4294967296) (cond (aa .geq (g:Int) 4294967296) true (aa .gtr (G:Int) (R:Int))) false)=true ↔
  (r<4294967296/\(4294967296<=g\/R<G)):=by
 have e1:aa .lss (r:Int) 4294967296=decide (r<4294967296):=by rw[ahf];simp only[aa,ajh];omega
 have e2:aa .geq (g:Int) 4294967296=decide (4294967296<=g):=by rw[ahf];simp only[aa,ajh];omega
 have e3:aa .gtr (G:Int) (R:Int)=decide (R<G):=by rw[ahf];simp only[aa,ajh];omega
 rw[e1,e2,e3]
 by_cases h1:r<4294967296
 ·by_cases h2:4294967296<=g
  ·rw[ajk h1,ajk h2];exact⟨fun _=>⟨h1,.inl h2⟩,fun _=>rfl⟩
  ·rw[ajk h1,ajl h2];show decide (R<G)=true↔_;rw[ajh];exact⟨fun h=>⟨h1,.inr h⟩,fun h=>h.2.resolve_left h2⟩
 ·rw[ajl h1];constructor
  ·intro h;exact Bool.noConfusion h
  ·intro h;exact ajm h.1 h1
theorem HI{u:List Nat}{k n V r:Nat}{l:List Nat}(hk:k+n<=u.length)(hl:l.length=n)(h:(val l+V)%4294967296^n=r) :
  wr (wr u k l) k (aT n ((val (a6 (wr u k l) k n)+V)%4294967296^n))=wr u k (aT n r):=by
 subst hl;rw[Qd oz (by rw[fy]),QG oz,h]
theorem Zr{s:AS}{k1 k2:Nat}{x1 x2:Blk}(h1:s.blk k1=some x1)(h2:s.blk k2=some x2):∀(k:Nat)(z:Blk),lk [(k1,some x1),(k2,some x2)] k=some z->s.blk k=some z:=by
 intro k z hz;rw[aA]at hz;split at hz
 ·rename_i e;cases hz;rw[e];exact h1
 ·rw[aA]at hz;split at hz
  ·rename_i e;cases hz;rw[e];exact h2
  ·cases hz
theorem bT{p:Prop}(h:p:=by first |exact ZM |exact Rz rfl |exact Zr rfl rfl):p:=h
def gX(x y:Int):Int:=if x<y then -1 else if y<x then 1 else 0
theorem OP(b:Bool)(n:Nat):sgn (!b) n=-(sgn b n):=by cases b <;> simp[sgn]
theorem Wh.small{w:Wh}(h:w.ok)(hl:w.mag.length<aw):w.m.length<aw:=aiz Wh.m_le hl
theorem IT{w:Wh}(h:w.ok):(w.m.length=0->w.z.sign=0)/\(w.m.length≠0->w.neg=true->w.z.sign=-1)/\(w.m.length≠0->w.neg=false->w.z.sign=1):=by
 have h1:w.m.length≠0->w.valid=true:=by
  intro h0;unfold Wh.m at h0;split at h0
  ·assumption
  ·exact ajm rfl h0
 refine⟨?_,?_,?_⟩
 ·intro h0;have h2:w.m = []:=af7.1 h0;have h3:val w.m = 0:=by rw [h2]; rfl
  have:w.z=0:=by unfold Wh.z;rw[h3];split <;> rfl
  rw[this];rfl
 ·intro h0 hn;have h2:w.n = true:=by unfold Wh.n; rw [h1 h0,hn]; rfl
  have h3:=Wh.n_val h2;rw[agx];unfold Wh.z;rw[ajg h2];omega
 ·intro h0 hn;have h2:w.n = false:=by unfold Wh.n; rw [h1 h0,hn]; rfl
  have h3:=qC w.nz (fun h=>h0 (by rw[h];rfl));rw[agz];unfold Wh.z;rw[h2];simp;omega
theorem IP{a b:Wh}(h:a.n=b.n):sgn a.n (val a.m+val b.m)=a.z+b.z:=by
 rw[Wh.z_eq,Wh.z_eq,<- h];unfold sgn;split <;> omega
theorem Ed{a b:Wh}(h:a.n≠b.n)(hl:val b.m<=val a.m):sgn a.n (val a.m-val b.m)=a.z+b.z:=by
 rw[Wh.z_eq,Wh.z_eq];cases ha:a.n <;> cases hb:b.n <;> simp_all [sgn] <;> omega
theorem Jq{a b:Wh}(h:a.n≠b.n)(hl:val a.m<=val b.m):sgn b.n (val b.m-val a.m)=a.z+b.z:=by
 rw[Int.add_comm];exact Ed (fun h'=>h h'.symm) hl
theorem Jl{a b:Wh}:sgn (a.n != b.n) (val a.m*val b.m)=a.z*b.z:=by
 rw[Wh.z_eq,Wh.z_eq];cases a.n <;> cases b.n <;> simp[sgn,Int.neg_mul,Int.mul_neg]
theorem Ew(z:Int):(z.sign=1/\0<z)\/(z.sign=0/\z=0)\/(z.sign=-1/\z<0):=by
 rcases agn z 0 with h |h |h
 ·exact .inr (.inr ⟨agx.2 h,h⟩)
 ·subst h;exact .inr (.inl ⟨rfl,rfl⟩)
 ·exact .inl ⟨agz.2 h,h⟩
theorem Yi{a b:Wh}(h:a.z.sign≠b.z.sign):(a.z.sign<b.z.sign->gX a.z b.z=-1)/\(¬a.z.sign<b.z.sign->gX a.z b.z=1):=by
 have h1:=Ew a.z;have h2:=Ew b.z;unfold gX;generalize a.z.sign=s at *;generalize b.z.sign=t at *;generalize a.z=x at *;generalize b.z=y at *;constructor <;> intro h3 <;> (repeat' split) <;> omega
theorem Ur{a b:Wh}(h:a.z.sign=b.z.sign):gX a.z b.z=(if a.n then -(if val a.m<val b.m then -1 else if val b.m<val a.m then 1 else 0:Int)else if val a.m<val b.m then -1 else if val b.m<val a.m then 1 else 0):=by
 have ha:=Wh.n_eq (w:=a);have hb:=Wh.n_eq (w:=b);have h1:=agu a.z;have co:=Wh.z_eq (w:=a);have km:=Wh.z_eq (w:=b)
 have hn:a.n=b.n:=by
  rw[ha,hb,decide_eq_decide,<- agx,<- agx,h]
 rw[<- hn]at km;unfold gX;rw[co,km];cases a.n <;> simp only[sgn,if_true,if_false,ahi] <;> (repeat' split) <;> omega
theorem GT{a b q r:Int}(hb:b≠0)(h:a=b*q+r)(h0:0<=r)(h1:r<b.natAbs):a/b=q/\a%b=r:=by
 have h2:=Int.mul_ediv_add_emod a b;have h3:=Int.emod_nonneg a hb;have h4:=Int.emod_lt a hb;have h5:b*(a/b-q)=r-a%b:=by rw[Int.mul_sub];omega
 have h6:a/b-q=0:=by
  rcases agn (a/b-q) 0 with h |h |h
  ·exfalso;have:b.natAbs <= (r - a % b).natAbs:=by rw [<- h5,agr]; exact Nat.le_mul_of_pos_right _ oz
   omega
  ·exact h
  ·exfalso;have:b.natAbs <= (r - a % b).natAbs:=by rw [<- h5,agr]; exact Nat.le_mul_of_pos_right _ oz
   omega
 rw[h6,Int.mul_zero]at h5;omega
theorem IZ{a b:Wh}(hb:val b.m≠0)(h:¬(a.n=true/\0<val a.m%val b.m)) :
  sgn (a.n != b.n) (val a.m/val b.m)=a.z/b.z/\(val a.m%val b.m:Nat)=a.z%b.z:=by
 have h1:=aeh (val a.m) (val b.m);have h2:=aeg (val a.m) (show 0<val b.m by omega);have hz:=Wh.abs (w:=b);have iC:b.z≠0:=by omega
 obtain⟨e1,e2⟩:=GT (a:=a.z) (b:=b.z) (q:=sgn (a.n != b.n) (val a.m/val b.m)) (r:=(val a.m%val b.m:Nat)) iC (by
  rw[Wh.z_eq,Wh.z_eq];generalize val a.m/val b.m=q at *;generalize val a.m%val b.m=r at *;rw[<- h1]
  have h9:a.n=true->r=0:=fun h3=>by
   rcases ae1 r with h4 |h4
   ·exact h4
   ·exact ajm ⟨h3,h4⟩ h
  cases ha:a.n with
  |false=>cases Bi:b.n <;> simp[sgn] <;> grind
  |true=>have:=h9 ha;subst this;cases Bi:b.n <;> simp[sgn] <;> grind) oz oz
 exact⟨e1.symm,e2.symm⟩
theorem NK{a b:Wh}(hb:val b.m≠0)(ha:a.n=true)(hr:0<val a.m%val b.m) :
  sgn (a.n != b.n) (val a.m/val b.m+1)=a.z/b.z/\((val b.m-val a.m%val b.m:Nat):Int)=a.z%b.z:=by
 have h1:=aeh (val a.m) (val b.m);have h2:=aeg (val a.m) (show 0<val b.m by omega);have hz:=Wh.abs (w:=b);have iC:b.z≠0:=by omega
 obtain⟨e1,e2⟩:=GT (a:=a.z) (b:=b.z) (q:=sgn (a.n != b.n) (val a.m/val b.m+1)) (r:=(val b.m-val a.m%val b.m:Nat)) iC (by
  rw[Wh.z_eq,Wh.z_eq];generalize val a.m/val b.m=q at *;generalize val a.m%val b.m=r at *;rw[<- h1,ha];cases Bi:b.n <;> simp[sgn] <;> rw[Int.ofNat_sub oz] <;> grind) oz oz
 exact⟨e1.symm,e2.symm⟩
abbrev fQ:Nat:=137438953472
def Zs(z:Int):Prop:=∃k,k<=274877906945/\Lz k z
theorem Zs.ok{z:Int}(h:Zs z):(ofInt z).ok:=by
 obtain⟨k,hk,hz⟩:=h;refine⟨cT _,?_⟩;have:=hz.len;unfold az;show(ofNat z.natAbs).length<=_;omega
theorem Zs.len{z:Int}(h:Zs z):(ofInt z).mag.length<=274877906945:=by
 obtain⟨k,hk,hz⟩:=h;have:=hz.len;show(ofNat z.natAbs).length<=_;omega
theorem Zs.neg{z:Int}(h:Zs z):Zs (-z):=by
 obtain⟨k,hk,hz⟩:=h;exact⟨k,hk,hz.neg⟩
theorem Zs.of_le{x y:Int}(h:Zs x)(h':y.natAbs<=x.natAbs):Zs y:=by
 obtain⟨k,hk,hz⟩:=h;exact⟨k,hk,hz.of_le h'⟩
structure Rt where
  neg:Bool
  num:List Nat
  den:List Nat
namespace Rt
def av(r:Rt):AV:=.agg [bl r.neg,ws r.num,ws r.den]
def n0(r:Rt):Wh:=⟨false,r.num⟩
def d0(r:Rt):Wh:=⟨false,r.den⟩
def valid(r:Rt):Bool :=
  if r.num=[]/\r.den=[]then !r.neg
  else if r.num=[]\/r.den=[]then false
  else r.n0.valid&&r.d0.valid&&decide (aej (val r.num) (val r.den)=1)
def q(r:Rt):Rat:=if r.valid=true/\r.num≠[]then mkRat (sgn r.neg (val r.num)) (val r.den)else 0
def ok(r:Rt):Prop:=Ws r.num/\Ws r.den/\r.num.length<=fQ/\r.den.length<=fQ
end Rt
def rt(q:Rat):Rt:=⟨decide (q.num<0),ofNat q.num.natAbs,if q.num=0 then[]else ofNat q.den⟩
def qA(q:Rat):AV:=(rt q).av
def Qs(q:Rat):Prop:=∃k,k<=fQ/\Lz k q.num/\Lz k (q.den:Int)
theorem Qs.ok{q:Rat}(h:Qs q):(rt q).ok:=by
 obtain⟨k,hk,h1,h2⟩:=h;have h3:=h1.len;have h4:=h2.len;simp only[ai3]at h4;refine⟨cT _,?_,by show(ofNat q.num.natAbs).length<=_;omega,?_⟩
 ·show Ws (if q.num=0 then[]else ofNat q.den);split
  ·exact w8
  ·exact cT _
 ·show(if q.num=0 then[]else ofNat q.den).length<=_;split
  ·simp
  ·omega
theorem Dx{n:Nat}:ofNat n=[]↔n=0:=by
 constructor
 ·intro h;have:=bN n;rw[h]at this;exact this.symm
 ·intro h;rw[h];rfl
theorem N4{l:List Nat}(h:l≠[])(hz:Nz l):(⟨false,l⟩:Wh).valid=true:=by
 unfold Wh.valid;dsimp only;rw[ajf h];cases hl:l.getLast? with
 |none=>rfl
 |some x=>have:=hz x hl;simp[this]
theorem LM{l:List Nat}{b:Bool}(h:l≠[])(hv:(⟨b,l⟩:Wh).valid=true):Nz l:=by
 unfold Wh.valid at hv;dsimp only at hv;rw[ajf h]at hv;intro x hx lg;rw[hx,lg]at hv;simp at hv
theorem ye(q:Rat):(rt q).valid=true:=by
 unfold rt Rt.valid Rt.n0 Rt.d0;dsimp only
 by_cases h:q.num=0
 ·rw[ajg h,h];rfl
 ·rw [ajf h];have h1:ofNat q.num.natAbs ≠ []:=fun h'=>h (by have:=Dx.1 h'; omega)
  have h2:ofNat q.den≠[]:=fun h'=>q.den_nz (Dx.1 h')
  rw[ajf (fun h'=>h1 h'.1),ajf (by simp[h1,h2]),N4 h1 (uq _),N4 h2 (uq _),bN,bN];have:=q.reduced;unfold Nat.Coprime at this;simp[this]
theorem bH(q:Rat):(rt q).q=q:=by
 unfold Rt.q
 by_cases h:q.num=0
 ·rw[ajf]
  ·exact(Rat.num_eq_zero.1 h).symm
  ·intro h';exact h'.2 (by show ofNat _=[];rw[h];rfl)
 ·have h1 : ofNat q.num.natAbs ≠ [] := fun h' => h (by have := Dx.1 h'; omega)
  rw[ajg ⟨ye q,h1⟩];show mkRat (sgn (decide (q.num<0)) (val (ofNat q.num.natAbs))) (val (if q.num=0 then[]else ofNat q.den))=q;rw[ajf h,bN,bN]
  have:sgn (decide (q.num<0)) q.num.natAbs=q.num:=by
   unfold sgn;generalize q.num=z
   by_cases h2:z<0
   ·rw[ajg (ajk h2)];omega
   ·rw[ajf (by rw[ajh];exact h2)];omega
  rw[this,Rat.mkRat_self]
theorem Rt.parts{r:Rt}(h:r.ok)(hv:r.valid=true)(h0:r.num≠[]) :
  r.q.num=sgn r.neg (val r.num)/\r.q.den=val r.den/\ofNat (val r.num)=r.num/\ofNat (val r.den)=r.den/\val r.num≠0/\val r.den≠0:=by
 have hv':=hv;unfold Rt.valid at hv;rw[ajf (fun h'=>h0 h'.1)]at hv;split at hv
 ·cases hv
 ·rename_i h1;simp only[ah7,ajh]at hv;obtain⟨⟨hn,hd⟩,hg⟩:=hv;have h2:r.den≠[]:=fun h'=>h1 (.inr h')
  have nn:=LM h0 hn;have nd:=LM h2 hd;have pn:=qC nn h0;have pd:=qC nd h2;have hq:r.q=mkRat (sgn r.neg (val r.num)) (val r.den):=by unfold Rt.q;rw[ajg ⟨hv',h0⟩]
  have hs:(sgn r.neg (val r.num)).natAbs=val r.num:=by unfold sgn;split <;> omega
  have m5 : r.q = ⟨sgn r.neg (val r.num), val r.den, by omega, by unfold Nat.Coprime; rw [hs]; exact hg⟩ := by
   rw[hq];exact(Rat.mk_eq_mkRat _ _ _ _).symm
  refine⟨by rw[m5],by rw[m5],ss h.1 nn,ss h.2.1 nd,by omega,by omega⟩
theorem Rt.zero{r:Rt}(h:¬(r.valid=true/\r.num≠[])):r.q=0:=by unfold Rt.q;rw[ajf h]
theorem Rt.eq_rt{r:Rt}(h:r.ok)(hv:r.valid=true):r=rt r.q:=by
 by_cases h0:r.num=[]
 ·have hq:=Rt.zero (r:=r) (fun h'=>h'.2 h0);rw[hq];unfold Rt.valid at hv
  by_cases h1:r.den=[]
  ·rw[ajg ⟨h0,h1⟩]at hv;obtain⟨n,a,b⟩:=r;dsimp only at *;subst h0;subst h1
   cases n
   ·rfl
   ·cases hv
  ·rw[ajf (fun h'=>h1 h'.2),ajg (.inl h0)]at hv;cases hv
 ·obtain ⟨h1, h2, h3, h4, h5, h6⟩:=Rt.parts h hv h0;unfold rt;have hn:r.q.num ≠ 0:=by rw [h1]; unfold sgn; split <;> omega
  rw[ajf hn,h2,h4];have h7:r.q.num.natAbs=val r.num:=by rw[h1];unfold sgn;split <;> omega
  have h8:decide (r.q.num<0)=r.neg:=by rw[h1];unfold sgn;cases r.neg <;> simp <;> omega
  rw[h7,h3,h8]
theorem Rt.ok.qs{r:Rt}(h:r.ok):Qs r.q:=by
 by_cases h0:r.valid=true/\r.num≠[]
 ·obtain ⟨h1, h2, h3, h4, h5, h6⟩:=Rt.parts h h0.1 h0.2;refine ⟨max r.num.length r.den.length,by have:=h.2.2; omega,?_,?_⟩
  ·unfold Lz;have:r.q.num.natAbs = val r.num:=by rw [h1]; unfold sgn; split <;> omega
   rw[this];exact aip (bG _ h.1) (ae6 oz oz)
  ·unfold Lz;rw[h2];exact aip (bG _ h.2.1) (ae6 oz oz)
 ·rw[Rt.zero h0];exact⟨1,by unfold fQ;omega,by unfold Lz;decide,by unfold Lz;decide⟩
theorem Qs.num{q:Rat}(h:Qs q):Zs q.num:=by
 obtain⟨k,hk,h1,h2⟩:=h;exact⟨k,by unfold fQ at hk;omega,h1⟩
theorem Qs.den{q:Rat}(h:Qs q):Zs q.den:=by
 obtain⟨k,hk,h1,h2⟩:=h;exact⟨k,by unfold fQ at hk;omega,h2⟩
theorem Qs.mul{p q:Rat}(h:Qs p)(h':Qs q):Zs (p.num*q.den)/\Zs (p.num*q.num)/\Zs ((p.den:Int)*q.den)/\Zs ((p.den:Int)*q.num):=by
 obtain⟨k,hk,h1,h2⟩:=h;obtain⟨l,hl,h3,h4⟩:=h';unfold fQ at *;exact⟨⟨k+l,by omega,h1.mul h4⟩,⟨k+l,by omega,h1.mul h3⟩,⟨k+l,by omega,h2.mul h4⟩,⟨k+l,by omega,h2.mul h3⟩⟩
theorem Qs.cross{p q:Rat}(h:Qs p)(h':Qs q):Zs (p.num*q.den+q.num*p.den):=by
 obtain⟨k,hk,h1,h2⟩:=h;obtain⟨l,hl,h3,h4⟩:=h';unfold fQ at *;have:=(h1.mul h4).add (h3.mul h2);exact⟨_,by omega,this⟩
theorem Qs.neg{p:Rat}(h:Qs p):Qs (-p):=by
 obtain⟨k,hk,h1,h2⟩:=h;refine⟨k,hk,?_,?_⟩
 ·rw[Rat.neg_num];exact h1.neg
 ·rw[Rat.neg_den];exact h2
theorem Qs.zero:Qs 0:=⟨1,by unfold fQ;omega,by unfold Lz;decide,by unfold Lz;decide⟩
theorem Rt.ok.n0{r:Rt}(h:r.ok):r.n0.ok:=⟨h.1,by have:=h.2.2.1;unfold fQ at this;unfold az;exact aiw this oz⟩
theorem Rt.ok.d0{r:Rt}(h:r.ok):r.d0.ok:=⟨h.2.1,by have:=h.2.2.2;unfold fQ at this;unfold az;exact aiw this oz⟩
theorem Rt.ok.n0l{r:Rt}(h:r.ok):r.n0.mag.length<aw:=by have:=h.2.2.1;unfold fQ at this;unfold aw;exact aiz this oz
theorem Rt.ok.d0l{r:Rt}(h:r.ok):r.d0.mag.length<aw:=by have:=h.2.2.2;unfold fQ at this;unfold aw;exact aiz this oz
theorem AX:Zs 1:=⟨1,by omega,by unfold Lz;decide⟩
theorem Rt.gcd_zs{r:Rt}(h:r.ok):Zs (ags r.n0.z r.d0.z):=by
 have h1:=Wh.lz h.n0;have h2:=Wh.lz h.d0;have h3:r.n0.mag.length<=137438953472:=h.2.2.1;have h4:r.d0.mag.length<=137438953472:=h.2.2.2
 by_cases h0:r.n0.z=0
 ·rw[h0,Int.gcd_zero_left];exact⟨r.d0.mag.length,by omega,by unfold Lz at *;simpa using h2⟩
 ·refine⟨r.n0.mag.length,by omega,h1.of_le ?_⟩;simp only[ai3];exact Nat.le_of_dvd oz (Int.gcd_dvd_natAbs_left _ _)
theorem Qi{n:Nat}:gX (n:Int) 1=0↔n=1:=by
 unfold gX;split
 ·constructor <;> intro h <;> omega
 ·split <;> constructor <;> intro h <;> omega
theorem Ho{l:List Nat}(h:(⟨false,l⟩:Wh).valid=true):(⟨false,l⟩:Wh).z=val l:=by
 unfold Wh.z Wh.n Wh.m;simp[h]
theorem ED{r:Rt}(h0:¬(r.num=[]/\r.den=[]))
  (h:cond (cond (cond (aa .eql (r.num.length:Int) 0) true (aa .eql (r.den.length:Int) 0)) true (!r.n0.valid)) true (!r.d0.valid)=true):r.valid=false:=by
 unfold Rt.valid;rw[ajf h0];split
 ·rfl
 ·next h1 =>
  have hn:r.num≠[]:=fun h=>h1 (.inl h)
  have hd:r.den≠[]:=fun h=>h1 (.inr h)
  have e1:aa .eql (r.num.length:Int) 0=false:=by simp[aa,hn]
  have e2:aa .eql (r.den.length:Int) 0=false:=by simp[aa,hd]
  rw[e1,e2]at h;cases hv:r.n0.valid <;> cases hw:r.d0.valid <;> simp_all
theorem GY{r:Rt}(h0:¬(r.num=[]/\r.den=[]))
  (h:cond (cond (cond (aa .eql (r.num.length:Int) 0) true (aa .eql (r.den.length:Int) 0)) true (!r.n0.valid)) true (!r.d0.valid)=false) :
  r.valid=aa .eql (gX (ags r.n0.z r.d0.z) 1) 0:=by
 unfold Rt.valid;rw[ajf h0];cases e1:aa .eql (r.num.length:Int) 0
 ·cases e2:aa .eql (r.den.length:Int) 0
  ·have hn : r.num ≠ [] := by simpa [aa] using e1
   have hd:r.den≠[]:=by simpa[aa]using e2
   rw[e1,e2]at h;cases hv:r.n0.valid <;> cases hw:r.d0.valid <;> simp[hv,hw]at h
   rw[ajf (by simp[hn,hd])];have z1:r.n0.z=val r.num:=Ho hv;have z2:r.d0.z=val r.den:=Ho hw;rw[z1,z2];show(true&&true&&decide _)=decide _;simp only[Bool.and_self,ahg];rw[ahf];simp only[ajh];exact Qi.symm
  ·rw[e1,e2]at h;simp at h
 ·rw[e1]at h;simp at h
theorem Mj{b:Bool}{num den:List Nat}(e3:ofNat (val num)=num)(e4:ofNat (val den)=den)(e5:val num≠0) :
  AV.tup [.agg [bl b,ws num],.agg [bl false,ws den]]=.tup [zA (sgn b (val num)),zA ((val den:Nat):Int)]:=by
 unfold zA ofInt Wh.av;have h1:(sgn b (val num)).natAbs=val num:=by unfold sgn;split <;> omega
 have h2:decide (sgn b (val num)<0)=b:=by unfold sgn;cases b <;> simp <;> omega
 have h3:decide (((val den:Nat):Int)<0)=false:=by simp
 dsimp only;rw[h1,h2,h3,e3,ai3,e4]
inductive SubL:List AV->List AV->Prop
  |nil:SubL [] []
  |cons {x y:AV} {l l':List AV} (h:Sub x y) (hl:SubL l l'):SubL (x::l) (y::l')
theorem SubL.len{l l':List AV}(h:SubL l l'):l.length=l'.length:=by induction h with |nil=>rfl |cons _ _ ih=>simp[ih]
theorem SubL.get{l l':List AV}(h:SubL l l'):∀(j:Nat)(x y:AV),l[j]?=some x->l'[j]?=some y->Sub x y:=by
 induction h with
 |nil=>intro j x y h;simp at h
 |cons h _ ih =>
  intro j x y hx hy;cases j with
  |zero=>simp at hx hy;subst hx;subst hy;exact h
  |succ j=>simp at hx hy;exact ih j x y hx hy
theorem Sub.tup{l l':List AV}(h:SubL l l'):Sub (.tup l) (.tup l'):=by
 intro g S m v hv;cases hv with
 |tup hn hr =>
  refine .tup (by rw[hn,h.len]) (fun j u y hu hy=>?_);obtain⟨x,hx⟩:=jJ h.len.symm hy;exact h.get j x y hx hy _ _ _ _ (hr j u x hu hx)
theorem Sub.agg{l l':List AV}(h:SubL l l')(ho:l'.all AV.one=true):Sub (.agg l) (.agg l'):=by
 intro g S m v hv;cases hv with
 |agg hn h1 hr =>
  refine .agg (by rw[hn,h.len]) (fun j c hc=>aif.1 ho c (ah3 hc)) (fun j u y hu hy=>?_);obtain⟨x,hx⟩:=jJ h.len.symm hy;exact h.get j x y hx hy _ _ _ _ (hr j u x hu hx)
theorem BlkSub.bL{l l':List AV}(h:SubL l l')(ho:l'.all AV.one=true):BlkSub (.box l) (.box l') :=
 .box h.len (fun j c hc=>aif.1 ho c (ah3 hc)) (fun j x y hx hy=>h.get j x y hx hy)
theorem NL:Sub (.agg [.v (.bool false),.v (.slice none 0 0)]) (zA 0):=.agg (.cons (.refl _) (.cons (.nil _ _ _) .nil)) rfl
theorem o0:Sub (.agg [.v (.bool false),.v (.slice none 0 0),.v (.slice none 0 0)]) (qA 0):=.agg (.cons (.refl _) (.cons (.nil _ _ _) (.cons (.nil _ _ _) .nil))) rfl
theorem HW{n d:Int}(hd:0<d)(hn:n≠0) :
  (ag4 n d).num=n/(ags n d:Int)/\(ag4 n d).den=d.natAbs/ags n d:=by
 constructor
 ·rw[Rat.num_divInt,Int.sign_eq_one_of_pos hd,Int.one_mul,Int.gcd_comm]
 ·rw[Rat.den_divInt,ajf oz,Int.gcd_comm]
theorem VN{n d:Int}(hd:0<d)(hn:n≠0) :
  AV.agg [bl (decide (n<0)),ws (ofNat (((n.natAbs:Int)/(ags n d:Int)).natAbs)),ws (ofNat ((d/(ags n d:Int)).natAbs))]=qA (ag4 n d):=by
 obtain⟨h1,h2⟩:=HW hd hn;obtain⟨g,hg⟩:∃g,g=ags n d:=⟨_,rfl⟩
 have oo:0<g:=by rw[hg];exact Int.gcd_pos_of_ne_zero_left _ hn
 have hgn:(g:Int)∣n:=by rw[hg];exact Int.gcd_dvd_left ..
 rw[<- hg]at h1 h2 ⊢;clear hg;obtain⟨k,hk⟩:=hgn;have iz:n/(g:Int)=k:=by rw[hk];exact Int.mul_ediv_cancel_left _ oz
 have xz:k≠0:=by intro h;rw[h]at hk;simp at hk;exact hn hk
 have hs:decide (n<0)=decide (k<0):=by
  rw[decide_eq_decide,hk];constructor
  ·intro h;rcases agn k 0 with h' |h' |h'
   ·exact h'
   ·exact ajm h' xz
   ·exact ajm (agp (agq g) (Int.le_of_lt h')) oz
  ·intro h;exact Int.mul_neg_of_pos_of_neg oz h
 have Bc:((n.natAbs:Int)/(g:Int)).natAbs=k.natAbs:=by
  rw[hk,agr,ai3];rw[show((g*k.natAbs:Nat):Int)/(g:Int)=((g*k.natAbs/g:Nat):Int) by exact(ago _ _).symm];rw[Nat.mul_div_cancel_left _ oo];omega
 have hda:(d/(g:Int)).natAbs=d.natAbs/g:=by
  have:d=(d.natAbs:Int):=by omega
  rw[this,<- ago,ai3,ai3]
 unfold qA rt Rt.av;rw[h1,h2,iz,Bc,hda,hs];dsimp only;rw[ajf xz]
theorem Ko(n d:Int):ag4 (-n) (-d)=ag4 n d:=Rat.neg_divInt_neg n d
theorem ET(p q:Rat):ag4 (p.num*q.den+q.num*p.den) ((p.den:Int)*q.den)=p+q:=by
 rw[<- Rat.divInt_add_divInt _ _ (by have:=p.den_nz;omega) (by have:=q.den_nz;omega),ag2,ag2]
theorem E0(p q:Rat):ag4 (p.num*q.num) ((p.den:Int)*q.den)=p*q:=by
 rw[<- Rat.divInt_mul_divInt,ag2,ag2]
theorem Nd(p:Rat):ag4 (-p.num) p.den=-p:=by
 rw[<- Rat.neg_num,<- Rat.neg_den,ag2]
theorem No(p q:Rat):ag4 (p.num*q.den) ((p.den:Int)*q.num)=p/q:=by
 rw[Rat.div_def,<- Rat.divInt_mul_divInt,ag2];congr 1;rw[<- Rat.inv_divInt,ag2]
theorem Vg(p:Rat):p.num<0↔p<0:=by
 rw[Rat.lt_iff];simp
theorem Te(p:Rat):0<p.num↔0<p:=by
 rw[Rat.lt_iff];simp
def aR(p:Rat):Int:=if p<0 then -1 else if 0<p then 1 else 0
theorem L2(p:Rat):p.num.sign=aR p:=by
 unfold aR
 by_cases h:p<0
 ·rw[ajg h];exact agx.2 ((Vg p).2 h)
 ·rw[ajf h]
  by_cases h':0<p
  ·rw[ajg h'];exact agz.2 ((Te p).2 h')
  ·rw [ajf h'];have:p = 0:=by grind
   rw[this];rfl
theorem UY(p q:Rat):aR (p-q)=if p<q then -1 else if q<p then 1 else 0:=by
 unfold aR
 by_cases h:p<q
 ·rw[ajg h,ajg (by grind)]
 ·rw [ajf h, ajf (by grind)]
  by_cases h':q<p
  ·rw[ajg h',ajg (by grind)]
  ·rw[ajf h',ajf (by grind)]
theorem XG(p q:Rat):gX (p.num*q.den) (q.num*p.den)=aR (p-q):=by
 rw[UY];unfold gX;simp only[Rat.lt_iff]
theorem ab2{n d:Int}(hd:0<d)(hn:n≠0) :
  AV.agg [bl (decide (n/(ags n d:Int)<0)),ws (ofNat ((n/(ags n d:Int)).natAbs)),ws (ofNat ((d/(ags n d:Int)).natAbs))]=qA (ag4 n d):=by
 obtain⟨h1,h2⟩:=HW hd hn
 have h3:(d/(ags n d:Int)).natAbs=d.natAbs/ags n d:=by
  have:d=(d.natAbs:Int):=by omega
  generalize ags n d=g;rw[this,<- ago,ai3,ai3]
 have h4:n/(ags n d:Int)≠0:=by
  rw[<- h1];intro h
  have h5:=Rat.num_eq_zero.1 h;have h6:=(Rat.divInt_eq_divInt_iff (show d≠0 by omega) (show(1:Int)≠0 by decide)).1 (h5.trans (Rat.zero_divInt 1).symm);omega
 unfold qA rt Rt.av;rw[h1,h2,h3];dsimp only;rw[ajf h4]
def Qb(e:Nat)(q:Rat):Prop:=q.num.natAbs<2^e/\q.den<2^e
theorem Qb.mono{e f:Nat}{q:Rat}(h:Qb e q)(hf:e<=f):Qb f q :=
 ⟨aip h.1 (ae6 oz hf),aip h.2 (ae6 oz hf)⟩
theorem Qb.qs{e:Nat}{q:Rat}(h:Qb e q)(he:e<=4398046511104):Qs q:=by
 have h2:(4294967296:Nat)=2^32:=by decide
 have h3:∀x,x<2^e->x<4294967296^(e/32+1):=by
  intro x hx;rw[h2,<- aep];exact aip hx (ae6 oz oz)
 by_cases h4:e=4398046511104
 ·obtain⟨k,hk⟩:∃k,k=137438953472:=⟨_,rfl⟩
  refine⟨k,by unfold fQ;omega,?_,?_⟩
  ·unfold Lz;have:=h.1;rw[h2,<- aep];exact aip this (ae6 oz oz)
  ·unfold Lz;have:=h.2;rw[h2,<- aep];exact aip this (ae6 oz oz)
 ·exact⟨e/32+1,by unfold fQ;omega,h3 _ h.1,h3 _ h.2⟩
theorem Qb.neg{e:Nat}{q:Rat}(h:Qb e q):Qb e (-q):=by
 refine⟨?_,?_⟩
 ·rw[Rat.neg_num,Int.natAbs_neg];exact h.1
 ·rw[Rat.neg_den];exact h.2
theorem C6{n d:Int}(h0:d≠0):(ag4 n d).num.natAbs<=n.natAbs/\(ag4 n d).den<=d.natAbs:=by
 constructor
 ·rw[Rat.num_divInt]
  have h1:(d.sign*n).natAbs=n.natAbs:=by
   rw[agr,Int.natAbs_sign_of_ne_zero h0,Nat.one_mul]
  rw[<- h1];exact Int.natAbs_ediv_le_natAbs _ _
 ·rw[Rat.den_divInt,ajf h0];exact afd _ _
theorem Qb.mul{e f:Nat}{p q:Rat}(h:Qb e p)(h':Qb f q):Qb (e+f) (p*q):=by
 rw[<- E0];have h0:((p.den:Int)*q.den)≠0:=agw (by have:=p.den_nz;omega) (by have:=q.den_nz;omega);obtain⟨h1,h2⟩:=C6 (n:=p.num*q.num) h0;refine⟨aiz h1 ?_,aiz h2 ?_⟩
 ·rw[agr,ai8];exact aew h.1 h'.1
 ·rw[agr,ai8,ai3,ai3];exact aew h.2 h'.2
theorem Qb.add{e f:Nat}{p q:Rat}(h:Qb e p)(h':Qb f q):Qb (e+f+1) (p+q):=by
 rw[<- ET];have h0:((p.den:Int)*q.den)≠0:=agw (by have:=p.den_nz;omega) (by have:=q.den_nz;omega);obtain⟨h1,h2⟩:=C6 (n:=p.num*q.den+q.num*p.den) h0;refine⟨aiz h1 ?_,aiz h2 ?_⟩
 ·have h3:=Int.natAbs_add_le (p.num*q.den) (q.num*p.den);rw[agr,agr,ai3,ai3]at h3;have h4:=aew h.1 h'.2;have h5:=aew h'.1 h.2;rw[ae5,ai8];rw[aey (2^f)]at h5;omega
 ·rw[agr,ai3,ai3,ae5,ai8];have:=aew h.2 h'.2;omega
theorem Qb.sub{e f:Nat}{p q:Rat}(h:Qb e p)(h':Qb f q):Qb (e+f+1) (p-q):=by
 rw[Rat.sub_eq_add_neg];exact h.add h'.neg
theorem Qb.zero:Qb 1 0:=⟨by decide,by decide⟩
theorem Qb.one:Qb 1 1:=⟨by decide,by decide⟩
theorem Rt.qb{r:Rt}{k:Nat}(h:r.ok)(hk:1<=k)(hn:r.num.length<=k)(hd:r.den.length<=k):Qb (32*k) r.q:=by
 have hB:∀{l:List Nat},Ws l->l.length<=k->val l<2^(32*k):=by
  intro l hw hl;have h1:=bG l hw;have h2:(4294967296:Nat)=2^32:=by decide
  rw[h2,<- aep]at h1;exact aip h1 (ae6 oz oz)
 by_cases h0:r.valid=true/\r.num≠[]
 ·obtain⟨h1,h2,h3,h4,h5,h6⟩:=Rt.parts h h0.1 h0.2;refine⟨?_,?_⟩
  ·have : r.q.num.natAbs = val r.num := by rw [h1]; unfold sgn; split <;> omega
   rw[this];exact hB h.1 hn
  ·rw[h2];exact hB h.2.1 hd
 ·rw[Rt.zero h0];exact Qb.zero.mono oz
theorem abc{r:Rt}(h0:¬(r.num=[]/\r.den=[])) :
  r.valid=cond (cond (!decide (r.num=[])&&(⟨false,r.num⟩:Wh).valid) (!decide (r.den=[])&&(⟨false,r.den⟩:Wh).valid) false) (aa .eql (gX (ags r.n0.z r.d0.z) 1) 0) false:=by
 by_cases h1:r.num=[]
 ·unfold Rt.valid;rw[ajf h0,ajg (.inl h1)];simp[h1]
 ·by_cases h2:r.den=[]
  ·unfold Rt.valid;rw[ajf h0,ajg (.inr h2)];simp[h2]
  ·have e1 : aa .eql (r.num.length : Int) 0 = false := by simp [aa, h1]
   have e2:aa .eql (r.den.length:Int) 0=false:=by simp[aa,h2]
   have n0:(⟨false,r.num⟩:Wh)=r.n0:=rfl;have d0:(⟨false,r.den⟩:Wh)=r.d0:=rfl;rw[n0,d0];cases hv:r.n0.valid
   ·rw[ED h0 (by simp[hv,e1,e2])];simp
   ·cases hw:r.d0.valid
    ·rw[ED h0 (by simp[hv,hw,e1,e2])];simp
    ·rw[GY h0 (by simp[hv,hw,e1,e2])];simp[h1,h2]
theorem Con.subA{P:ajs}{f:FuncId}{args args':List AV}{H H':Hp}{r:AV}(h:SubL args' args)(hc:Con P f args H r H'):Con P f args' H r H':=by
 refine⟨hc.ok,?_⟩;intro ext m w vs hext bX cM dl;refine hc.ret ext m w vs hext bX (by rw[cM,h.len]) (fun j v x hv hx=>?_);obtain⟨y,hy⟩:=jJ h.len.symm hx;exact h.get j y x hy hx _ _ _ _ (dl j v y hv hy)
@[reducible] def T:Nat->Type
  |0=>Rat
  |k+1=>T k×T k
namespace T
def zero:(k:Nat)->T k
  |0=>(0:Rat)
  |k+1=>(zero k,zero k)
def ofQ:(k:Nat)->Rat->T k
  |0,q=>q
  |k+1,q=>(ofQ k q,zero k)
def add:(k:Nat)->T k->T k->T k
  |0,x,y=>Rat.add x y
  |k+1,x,y=>(add k x.1 y.1,add k x.2 y.2)
def neg:(k:Nat)->T k->T k
  |0,x=>Rat.neg x
  |k+1,x=>(neg k x.1,neg k x.2)
def mul(r:(k:Nat)->T k):(k:Nat)->T k->T k->T k
  |0,x,y=>Rat.mul x y
  |k+1,x,y=>(add k (mul r k x.1 y.1) (mul r k (mul r k x.2 y.2) (r k)),add k (mul r k x.1 y.2) (mul r k x.2 y.1))
def norm(r:(k:Nat)->T k)(k:Nat)(x:T (k+1)):T k:=add k (mul r k x.1 x.1) (neg k (mul r k (mul r k x.2 x.2) (r k)))
def sgn3(sx sy sd sn:Int):Int:=if sd=0 then sx else if sx=sy\/sy=0 then sx else if sx=0 then sy else sx*sn
def sgn(r:(k:Nat)->T k):(k:Nat)->T k->Int
  |0,x=>aR x
  |k+1,x=>sgn3 (sgn r k x.1) (sgn r k x.2) (sgn r k (r k)) (sgn r k (norm r k x))
theorem add_zero:∀(k:Nat)(x:T k),add k x (zero k)=x
 |0,x=>Rat.add_zero x
 |k+1,x=>by simp only[add,zero,add_zero k]
theorem zero_add:∀(k:Nat)(x:T k),add k (zero k) x=x
 |0,x=>Rat.zero_add x
 |k+1,x=>by simp only[add,zero,zero_add k]
theorem add_comm:∀(k:Nat)(x y:T k),add k x y=add k y x
 |0,x,y=>Rat.add_comm x y
 |k+1,x,y=>by simp only[add,add_comm k x.1,add_comm k x.2]
theorem add_assoc:∀(k:Nat)(x y z:T k),add k (add k x y) z=add k x (add k y z)
 |0,x,y,z=>Rat.add_assoc x y z
 |k+1,x,y,z=>by simp only[add,add_assoc k]
theorem H1:∀(k:Nat),neg k (zero k)=zero k
 |0=>by show -(0:Rat)=0;grind
 |k+1=>by simp only[neg,zero,H1 k]
theorem add_neg:∀(k:Nat)(x:T k),add k x (neg k x)=zero k
 |0,x=>by show(x:Rat)+-x=0;grind
 |k+1,x=>by simp only[add,neg,zero,add_neg k]
theorem zero_mul(r:(k:Nat)->T k):∀(k:Nat)(x:T k),mul r k (zero k) x=zero k
 |0,x=>Rat.zero_mul x
 |k+1,x=>by simp only[mul,zero,zero_mul r k,add_zero]
theorem mul_zero(r:(k:Nat)->T k):∀(k:Nat)(x:T k),mul r k x (zero k)=zero k
 |0,x=>Rat.mul_zero x
 |k+1,x=>by
  simp only[mul,zero,mul_zero r k,add_zero]
  have h:mul r k (zero k) (r k)=zero k:=by
   have:=zero_mul r k (r k);exact this
  rw[h];simp only[add_zero]
theorem mul_comm(r:(k:Nat)->T k):∀(k:Nat)(x y:T k),mul r k x y=mul r k y x
 |0,x,y=>Rat.mul_comm x y
 |k+1,x,y=>by
  simp only[mul];rw[mul_comm r k x.1 y.1,mul_comm r k x.2 y.2,mul_comm r k x.1 y.2,mul_comm r k x.2 y.1,add_comm k (mul r k y.2 x.1)]
theorem sgn_zero(r:(k:Nat)->T k):∀k,sgn r k (zero k)=0
 |0=>rfl
 |k+1=>by
  simp only[sgn,zero,sgn_zero r k,sgn3];split
  ·rfl
  ·simp
theorem sgn_low(r:(k:Nat)->T k)(k:Nat)(x:T k):sgn r (k+1) (x,zero k)=sgn r k x:=by
 simp only[sgn,sgn_zero,sgn3];split
 ·rfl
 ·simp
theorem sgnQ_cases(q:Rat):aR q=-1\/aR q=0\/aR q=1:=by
 unfold aR;split
 ·exact .inl rfl
 ·split
  ·exact .inr (.inr rfl)
  ·exact .inr (.inl rfl)
theorem sgn_cases(r:(k:Nat)->T k):∀(k:Nat)(x:T k),sgn r k x=-1\/sgn r k x=0\/sgn r k x=1
 |0,x=>sgnQ_cases x
 |k+1,x=>by
  simp only[sgn,sgn3];have h1:=sgn_cases r k x.1;have h2:=sgn_cases r k x.2;have h4:=sgn_cases r k (norm r k x);split
  ·exact h1
  ·split
   ·exact h1
   ·split
    ·exact h2
    ·rcases h1 with h |h |h <;> rcases h4 with h' |h' |h' <;> rw[h,h'] <;> simp
end T
def ao:(k:Nat)->List Rat->T k
  |0,l=>l.getD 0 0
  |k+1,l=>(ao k (l.take (2^k)),ao k (l.drop (2^k)))
theorem kI{l:List Rat}{n i:Nat}:(l.take n).getD i 0=if i<n then l.getD i 0 else 0:=by
 simp only[ah4,ai1];split <;> simp
theorem lS{l:List Rat}{n i:Nat}:(l.drop n).getD i 0=l.getD (n+i) 0:=by
 simp only[ah4,ai5]
theorem u4:∀(k:Nat){a b:List Rat},(∀i,i<2^k->a.getD i 0=b.getD i 0)->ao k a=ao k b
 |0,a,b,h=>h 0 (by decide)
 |k+1,a,b,h=>by
  have h1:=u4 k (a:=a.take (2^k)) (b:=b.take (2^k)) (fun i hi=>by rw[kI,kI,ajg hi,ajg hi];exact h i (by rw[ae5];omega));have h2:=u4 k (a:=a.drop (2^k)) (b:=b.drop (2^k)) (fun i hi=>by rw[lS,lS];exact h _ (by rw[ae5];omega));simp only[ao,h1,h2]
theorem Ee:∀(k:Nat){a b c:List Rat},(∀i,i<2^k->c.getD i 0=a.getD i 0+b.getD i 0)->ao k c=T.add k (ao k a) (ao k b)
 |0,a,b,c,h=>h 0 (by decide)
 |k+1,a,b,c,h=>by
  have h1:=Ee k (a:=a.take (2^k)) (b:=b.take (2^k)) (c:=c.take (2^k)) (fun i hi=>by rw[kI,kI,kI,ajg hi,ajg hi,ajg hi];exact h i (by rw[ae5];omega));have h2:=Ee k (a:=a.drop (2^k)) (b:=b.drop (2^k)) (c:=c.drop (2^k)) (fun i hi=>by rw[lS,lS,lS];exact h _ (by rw[ae5];omega));simp only[ao,T.add,h1,h2]
theorem DY:∀(k:Nat){a c:List Rat},(∀i,i<2^k->c.getD i 0=-a.getD i 0)->ao k c=T.neg k (ao k a)
 |0,a,c,h=>h 0 (by decide)
 |k+1,a,c,h=>by
  have h1:=DY k (a:=a.take (2^k)) (c:=c.take (2^k)) (fun i hi=>by rw[kI,kI,ajg hi,ajg hi];exact h i (by rw[ae5];omega));have h2:=DY k (a:=a.drop (2^k)) (c:=c.drop (2^k)) (fun i hi=>by rw[lS,lS];exact h _ (by rw[ae5];omega));simp only[ao,T.neg,h1,h2]
theorem yp:∀(k:Nat){a:List Rat},(∀i,i<2^k->a.getD i 0=0)->ao k a=T.zero k
 |0,a,h=>h 0 (by decide)
 |k+1,a,h=>by
  have h1:=yp k (a:=a.take (2^k)) (fun i hi=>by rw[kI,ajg hi];exact h i (by rw[ae5];omega));have h2:=yp k (a:=a.drop (2^k)) (fun i hi=>by rw[lS];exact h _ (by rw[ae5];omega));simp only[ao,T.zero,h1,h2]
theorem yP{l:List Rat}{i:Nat}(h:l.length<=i):l.getD i 0=0:=by
 simp[ah4,aig h]
theorem oK(k:Nat):ao k []=T.zero k:=yp k (fun i _=>by simp)
theorem kO{k:Nat}{a:List Rat}(h:a.length<=2^k):ao (k+1) a=(ao k a,T.zero k):=by
 have h1:a.take (2^k)=a:=aio h;have h2:a.drop (2^k)=[]:=aiy h;simp only[ao,h1,h2,oK]
theorem qw(k:Nat)(q:Rat):ao k [q]=T.ofQ k q:=by
 induction k with
 |zero=>rfl
 |succ k ih=>rw[kO (by simp;exact Nat.one_le_two_pow),ih];rfl
def bw(a:List Rat)(n:Nat):List Rat:=a++afv (n-a.length) 0
def dS(a b:List Rat):List Rat:=List.zipWith (·+·) (bw a (max a.length b.length)) (bw b (max a.length b.length))
def fw(a:List Rat):List Rat:=a.map (- ·)
def fS(a b:List Rat)(n:Nat):List Rat:=bw a n++bw b n
def bf(a:List Rat):Bool:=a.all (fun q=>decide (q=0))
theorem ig{a:List Rat}{n:Nat}(h:a.length<=n):(bw a n).length=n:=by simp[bw];omega
theorem gB{a b:List Rat}:(dS a b).length=max a.length b.length:=by
 simp only[dS,List.length_zipWith];rw[ig oz,ig oz];omega
theorem lE{a:List Rat}:(fw a).length=a.length:=by simp[fw]
theorem tZ{a b:List Rat}{n:Nat}(h:a.length<=n)(h':b.length<=n):(fS a b n).length=n+n:=by simp[fS,ig h,ig h']
theorem rf{a:List Rat}{n i:Nat}:(bw a n).getD i 0=a.getD i 0:=by
 simp only[bw,ah4]
 by_cases h:i<a.length
 ·rw[ais h]
 ·rw[ain oz,aig (l:=a) oz,aix];split <;> rfl
theorem MH{a b:List Rat}{i:Nat}:(dS a b).getD i 0=a.getD i 0+b.getD i 0:=by
 by_cases h:i<max a.length b.length
 ·have e:(dS a b).getD i 0=(bw a (max a.length b.length)).getD i 0+(bw b (max a.length b.length)).getD i 0:=by
   have ha:i<(bw a (max a.length b.length)).length:=by rw[ig oz];exact h
   have hb:i<(bw b (max a.length b.length)).length:=by rw[ig oz];exact h
   simp only[dS,ah4,List.getElem?_zipWith,ah9 ha,ah9 hb,ah0]
  rw[e,rf,rf]
 ·rw[yP (by rw[gB];omega),yP oz,yP oz,Rat.add_zero]
theorem MS{a:List Rat}{i:Nat}:(fw a).getD i 0=-a.getD i 0:=by
 simp only[fw,ah4,aib];cases a[i]? with
 |none=>show(0:Rat)=-0;grind
 |some x=>rfl
theorem Ma{a b:List Rat}{n i:Nat}(h:a.length<=n):(fS a b n).getD i 0=if i<n then a.getD i 0 else b.getD (i-n) 0:=by
 have hl:=ig h;simp only[fS];split
 ·rw[<- rf (a:=a) (n:=n),ah4,ah4,ais oz]
 ·rw[<- rf (a:=b) (n:=n),ah4,ah4,ain oz,hl]
theorem Mr(k:Nat){a:List Rat}{n:Nat}:ao k (bw a n)=ao k a:=u4 k (fun i _=>rf)
theorem q8(k:Nat){a b:List Rat}:ao k (dS a b)=T.add k (ao k a) (ao k b):=Ee k (fun i _=>MH)
theorem y7(k:Nat){a:List Rat}:ao k (fw a)=T.neg k (ao k a):=DY k (fun i _=>MS)
theorem Cl{k:Nat}{a b:List Rat}(h:a.length<=2^k):ao (k+1) (fS a b (2^k))=(ao k a,ao k b):=by
 have h1:ao k ((fS a b (2^k)).take (2^k))=ao k a:=u4 k (fun i hi=>by rw[kI,ajg hi,Ma h,ajg hi]);have h2:ao k ((fS a b (2^k)).drop (2^k))=ao k b:=u4 k (fun i hi=>by rw[lS,Ma h,ajf oz];congr 1;omega);simp only[ao,h1,h2]
theorem E8{k:Nat}{a:List Rat}(h:bf a=true):ao k a=T.zero k:=by
 refine yp k (fun i _=>?_);rw[ah4];cases hx:a[i]? with
 |none=>rfl
 |some x =>
  have:=aif.1 h x (ah3 hx);simpa using this
def Nl(k:Nat)(a:List Rat):Prop:=a=[]\/∃j,j<=k/\a.length=2^j
theorem Nl.le{k:Nat}{a:List Rat}(h:Nl k a):a.length<=2^k:=by
 rcases h with rfl |⟨j,hj,h⟩
 ·simp
 ·rw[h];exact ae6 oz hj
theorem Nl.mono{k l:Nat}{a:List Rat}(h:Nl k a)(hl:k<=l):Nl l a:=by
 rcases h with h |⟨j,hj,h⟩
 ·exact .inl h
 ·exact .inr ⟨j,by omega,h⟩
def aD(ts:LL)(k:Nat):T k:=ao k (ts.getD k [])
def pT(ts:LL):Nat->List Rat->List Rat->List Rat
  |k,a,b =>
    let x:=if a.length<b.length then b else a
    let y:=if a.length<b.length then a else b
    if bf x||bf y then[]else if x.length=1 then[x.getD 0 0*y.getD 0 0]
    else match k with
      |0=>[]
      |k+1 =>
        if y.length<=x.length/2 then fS (pT ts k (x.take (x.length/2)) y) (pT ts k (x.drop (x.length/2)) y) (x.length/2)
        else fS (dS (pT ts k (x.take (x.length/2)) (y.take (x.length/2))) (pT ts k (pT ts k (x.drop (x.length/2)) (y.drop (x.length/2))) (ts.getD (x.length.log2-1) [])))
          (dS (pT ts k (x.take (x.length/2)) (y.drop (x.length/2))) (pT ts k (x.drop (x.length/2)) (y.take (x.length/2)))) (x.length/2)
theorem T.mul_low(r:(k:Nat)->T k)(k:Nat)(x u:T k):T.mul r (k+1) (x,T.zero k) (u,T.zero k)=(T.mul r k x u,T.zero k):=by
 simp only[T.mul,T.mul_zero,T.zero_mul,T.add_zero]
theorem T.mul_half(r:(k:Nat)->T k)(k:Nat)(x y u:T k):T.mul r (k+1) (x,y) (u,T.zero k)=(T.mul r k x u,T.mul r k y u):=by
 simp only[T.mul,T.mul_zero,T.zero_mul,T.add_zero,T.zero_add]
theorem T.mul_ofQ(r:(k:Nat)->T k):∀(k:Nat)(p q:Rat),T.mul r k (T.ofQ k p) (T.ofQ k q)=T.ofQ k (p*q)
 |0,p,q=>rfl
 |k+1,p,q=>by simp only[T.ofQ];rw[T.mul_low,T.mul_ofQ r k]
theorem U1:bf []=true:=rfl
theorem MO(j:Nat):(2^(j+1)).log2-1=j:=by rw[Nat.log2_two_pow];omega
theorem kN{j:Nat}{a:List Rat}(h:a.length=2^(j+1)):(a.take (2^j)).length=2^j:=by
 simp[h,ae5];omega
theorem lC{j:Nat}{a:List Rat}(h:a.length=2^(j+1)):(a.drop (2^j)).length=2^j:=by
 simp[h,ae5];omega
theorem mL(j:Nat):2^(j+1)/2=2^j:=by rw[ae5];omega
theorem Fl(ts:LL)(k:Nat)(a b:List Rat)(h:a.length<b.length):pT ts k a b=pT ts k b a:=by
 unfold pT;simp only[ajg h,ajf (show ¬b.length<a.length by omega)]
theorem Ih(ts:LL)(Q:Nat->List Rat->List Rat->List Rat->Prop)
  (Pm:∀j a b c,Q j a b c->Q j b a c)
  (fB:∀j a b,Nl j a->Nl j b->(bf a=true\/bf b=true)->Q j a b [])
  (uE:∀j p q,Q j [p] [q] [p*q])
  (Bj:∀j a b c,Nl j a->Nl j b->Q j a b c->Q (j+1) a b c)
  (adi:∀j a b c d,a.length=2^(j+1)->Nl j b->Q j (a.take (2^j)) b c->Q j (a.drop (2^j)) b d->Q (j+1) a b (fS c d (2^j)))
  (adj:∀j a b c1 c2 c3 c4 c5,a.length=2^(j+1)->b.length=2^(j+1)->Q j (a.take (2^j)) (b.take (2^j)) c1->Q j (a.drop (2^j)) (b.drop (2^j)) c2 ->
   Q j c2 (ts.getD j []) c3->Q j (a.take (2^j)) (b.drop (2^j)) c4->Q j (a.drop (2^j)) (b.take (2^j)) c5->Q (j+1) a b (fS (dS c1 c3) (dS c4 c5) (2^j)))
  (cK:∀j a b c,Q j a b c->Nl j c) (m:Nat) (hr:∀j,j<m->Nl j (ts.getD j [])) :
  ∀(j k:Nat)(a b:List Rat),j<=m->j<=k->Nl j a->Nl j b->Q j a b (pT ts k a b):=by
 intro j
 induction j with
 |zero =>
  intro k a b _ _ ha hb;have p8:=ha.le;have fJ:=hb.le
  have key:∀a b:List Rat,Nl 0 a->Nl 0 b->¬a.length<b.length->Q 0 a b (pT ts k a b):=by
   intro a b ha hb hlt;have p8:=ha.le;have fJ:=hb.le;unfold pT;simp only[ajf hlt];split
   ·rename_i h;rw[ajb]at h;exact fB 0 a b ha hb h
   ·rename_i h;simp only [ajb,not_or,Bool.not_eq_true] at h;have h1:a ≠ []:=fun h'=>by rw [h'] at h; cases h.1
    have h2:b≠[]:=fun h'=>by rw[h']at h;cases h.2
    obtain⟨p,rfl⟩:∃p,a=[p]:=af8.1 (by have:=afq.2 h1;omega);obtain⟨q,rfl⟩:∃q,b=[q]:=af8.1 (by have:=afq.2 h2;omega);simp only[aij,aiv,if_true];exact uE 0 p q
  by_cases hlt:a.length<b.length
  ·rw[Fl ts k a b hlt];exact Pm _ _ _ _ (key b a hb ha oz)
  ·exact key a b ha hb hlt
 |succ j ih =>
  intro k a b Pp uF ha hb
  have key:∀a b:List Rat,Nl (j+1) a->Nl (j+1) b->¬a.length<b.length->Q (j+1) a b (pT ts k a b):=by
   intro a b ha hb hlt
   by_cases hs:Nl j a
   ·have lh:Nl j b:=by
     rcases hb with rfl |⟨i,hi,h⟩
     ·exact .inl rfl
     ·by_cases dL:i<=j
      ·exact .inr ⟨i,dL,h⟩
      ·have h1:=hs.le;have h2:2^(j+1)<=2^i:=ae6 oz oz;rw[ae5]at h2;have:=aed j;omega
    exact Bj j a b _ hs lh (ih k a b oz oz hs lh)
   ·have bg:a.length=2^(j+1):=by
     rcases ha with rfl |⟨i,hi,h⟩
     ·exact ajm (.inl rfl) hs
     ·by_cases dL:i<=j
      ·exact ajm (.inr ⟨i,dL,h⟩) hs
      ·rw[h,show i=j+1 by omega]
    obtain⟨k,rfl⟩:∃k',k=k'+1:=⟨k-1,by omega⟩
    have h2j:=aed j;have hx:Nl j (a.take (2^j)):=.inr ⟨j,aie _,kN bg⟩;have hy:Nl j (a.drop (2^j)):=.inr ⟨j,aie _,lC bg⟩;unfold pT;simp only[ajf hlt];split
    ·rename_i h;rw[ajb]at h;exact fB _ a b ha hb h
    ·rename_i h;simp only [ajb,not_or,Bool.not_eq_true] at h;rw [ajf (by rw [bg,ae5]; omega)];simp only [bg,mL,MO];split
     ·rename_i xH
      have lh:Nl j b:=by
       rcases hb with rfl |⟨i,hi,h'⟩
       ·exact .inl rfl
       ·by_cases dL:i<=j
        ·exact .inr ⟨i,dL,h'⟩
        ·have h2:2^(j+1)<=2^i:=ae6 oz oz;rw[ae5]at h2;omega
      exact adi j a b _ _ bg lh (ih k _ _ oz oz hx lh) (ih k _ _ oz oz hy lh)
     ·rename_i xH
      have Gj:b.length=2^(j+1):=by
       rcases hb with rfl |⟨i,hi,h'⟩
       ·simp at xH
       ·by_cases dL:i<=j
        ·have:2^i<=2^j:=ae6 oz dL;omega
        ·rw[h',show i=j+1 by omega]
      have hu:Nl j (b.take (2^j)):=.inr ⟨j,aie _,kN Gj⟩;have hv:Nl j (b.drop (2^j)):=.inr ⟨j,aie _,lC Gj⟩;have h2:=ih k _ _ oz oz hy hv;exact adj j a b _ _ _ _ _ bg Gj (ih k _ _ oz oz hx hu) h2 (ih k _ _ oz oz (cK _ _ _ _ h2) (hr j oz)) (ih k _ _ oz oz hx hv) (ih k _ _ oz oz hy hu)
  by_cases hlt:a.length<b.length
  ·rw[Fl ts k a b hlt];exact Pm _ _ _ _ (key b a hb ha oz)
  ·exact key a b ha hb hlt
theorem iY(ts:LL)(m:Nat)(hr:∀j,j<m->Nl j (ts.getD j []))(j k:Nat)(a b:List Rat)(hj:j<=m)(hk:j<=k)(ha:Nl j a)(hb:Nl j b) :
  Nl j (pT ts k a b)/\ao j (pT ts k a b)=T.mul (aD ts) j (ao j a) (ao j b):=by
 refine Ih ts (fun j a b c=>Nl j c/\ao j c=T.mul (aD ts) j (ao j a) (ao j b)) ?_ ?_ ?_ ?_ ?_ ?_ (fun _ _ _ _ h=>h.1) m hr j k a b hj hk ha hb
 ·intro j a b c h;exact⟨h.1,by rw[h.2,T.mul_comm]⟩
 ·intro j a b ha hb h;refine⟨.inl rfl,?_⟩;rw[oK];rcases h with h |h
  ·rw[E8 h,T.zero_mul]
  ·rw[E8 h,T.mul_zero]
 ·intro j p q;exact⟨.inr ⟨0,aii _,rfl⟩,by rw[qw,qw,qw,T.mul_ofQ]⟩
 ·intro j a b c ha hb h;refine⟨h.1.mono oz,?_⟩;rw[kO ha.le,kO hb.le,kO h.1.le,T.mul_low,h.2]
 ·intro j a b c d ha hb hc hd;refine⟨.inr ⟨j+1,aie _,?_⟩,?_⟩
  ·rw[tZ hc.1.le hd.1.le,ae5];omega
  ·rw[Cl hc.1.le,kO hb.le,hc.2,hd.2];simp only[ao];rw[T.mul_half]
 ·intro j a b c1 c2 c3 c4 c5 ha hb h1 h2 h3 h4 h5;refine⟨.inr ⟨j+1,aie _,?_⟩,?_⟩
  ·have l1:=h1.1.le;have l3:=h3.1.le;have l4:=h4.1.le;have l5:=h5.1.le;rw[tZ (by rw[gB];omega) (by rw[gB];omega),ae5];omega
  ·have l1:=h1.1.le;have l3:=h3.1.le;rw[Cl (by rw[gB];omega),q8,q8,h1.2,h3.2,h4.2,h5.2,h2.2];rfl
def fk:Nat->List Rat->List Rat
  |0,a=>if bf a then[]else a
  |j+1,a=>if bf (a.drop (2^j))then fk j (a.take (2^j))else a
def T.isZ:(k:Nat)->T k->Bool
  |0,q=>decide ((q:Rat)=0)
  |k+1,x=>isZ k x.1&&isZ k x.2
theorem T.isZ_iff:∀(k:Nat)(x:T k),T.isZ k x=true↔x=T.zero k
 |0,x=>by simp only[T.isZ,ajh];rfl
 |k+1,x=>by
  simp only[T.isZ,ah7,T.isZ_iff k,T.zero];constructor
  ·intro h;exact Prod.ext h.1 h.2
  ·intro h;rw[h];exact⟨rfl,rfl⟩
def enc:(k:Nat)->T k->List Rat
  |0,q=>[q]
  |k+1,x=>enc k x.1++enc k x.2
def sh:(k:Nat)->T k->List Rat
  |0,q=>if(q:Rat)=0 then[]else[q]
  |k+1,x=>if T.isZ k x.2 then sh k x.1 else enc k x.1++enc k x.2
theorem pq:∀(k:Nat)(x:T k),(enc k x).length=2^k
 |0,x=>rfl
 |k+1,x=>by simp only[enc,ai0,pq k];rw[ae5];omega
theorem AG:∀(k:Nat)(x:T k),ao k (enc k x)=x
 |0,x=>rfl
 |k+1,x=>by
  simp only[enc,ao]
  rw [afo (by rw [pq]; exact aie _), aio (by rw [pq]; exact aie _), afm (by rw [pq]; exact aie _),
   aiy (by rw[pq];exact aie _),nil_append,AG k,AG k]
theorem s9:∀(k:Nat)(a:List Rat),a.length=2^k->enc k (ao k a)=a
 |0,a,h=>by
  obtain⟨p,rfl⟩:=af8.1 h;rfl
 |k+1,a,h=>by
  simp only[enc,ao];rw[s9 k _ (kN h),s9 k _ (lC h),afs]
theorem Sx{k:Nat}{a:List Rat}(h:a.length<=2^k):bf a=T.isZ k (ao k a):=by
 rw[ahf,T.isZ_iff];constructor
 ·exact E8
 ·intro h0;have h1:enc k (ao k (bw a (2^k)))=bw a (2^k):=s9 k _ (ig h);rw[Mr,h0]at h1
  have h2:∀k,bf (enc k (T.zero k))=true:=by
   intro k
   induction k with
   |zero=>rfl
   |succ k ih=>simp only[enc,T.zero,bf,all_append,ah7]at ih ⊢;exact⟨ih,ih⟩
  have h3:=h2 k;rw[h1]at h3;simp only[bf,bw,all_append,ah7]at h3;exact h3.1
theorem FO:∀(k:Nat){a:List Rat},Nl k a->fk k a=sh k (ao k a)
 |0,a,h=>by
  have hl:=h.le;simp only[fk,sh]
  match a,hl with
  |[],_=>rfl
  |[p],_=>simp[bf,ao]
 |k+1,a,h=>by
  have hl:=h.le;have h1:(a.drop (2^k)).length<=2^k:=by simp;rw[ae5]at hl;omega
  have e1:fk (k+1) a=if bf (a.drop (2^k))=true then fk k (a.take (2^k))else a:=rfl;have e2:∀x y:T k,sh (k+1) (x,y)=if T.isZ k y=true then sh k x else enc k x++enc k y:=fun _ _=>rfl
  rw[e1,show ao (k+1) a=(ao k (a.take (2^k)),ao k (a.drop (2^k)))from rfl,e2,Sx h1]
  by_cases hz:T.isZ k (ao k (a.drop (2^k)))=true
  ·rw[ajg hz,ajg hz];refine FO k ?_;rcases h with rfl |⟨j,hj,h⟩
   ·exact .inl (by simp)
   ·by_cases uF:j<=k
    ·rw[aio (by rw[h];exact ae6 oz uF)];exact .inr ⟨j,uF,h⟩
    ·exact .inr ⟨k,aie _,kN (by rw[h,show j=k+1 by omega])⟩
  ·rw[ajf hz,ajf hz]
   have ch:a.length=2^(k+1):=by
    rcases h with rfl |⟨j,hj,h⟩
    ·exfalso;apply hz
     rw[List.drop_nil,T.isZ_iff,oK]
    ·by_cases uF:j<=k
     ·exfalso;apply hz
      rw[aiy (by rw[h];exact ae6 oz uF),T.isZ_iff,oK]
     ·rw[h,show j=k+1 by omega]
   rw[s9 k _ (kN ch),s9 k _ (lC ch),afs]
theorem iI:∀(k:Nat)(x:T k),Nl k (sh k x)
 |0,q=>by
  simp only[sh];split
  ·exact .inl rfl
  ·exact .inr ⟨0,aie _,rfl⟩
 |k+1,x=>by
  simp only[sh];split
  ·exact(iI k x.1).mono oz
  ·exact .inr ⟨k+1,aie _,by rw[ai0,pq,pq,ae5];omega⟩
theorem dY:∀(k:Nat)(x:T k),ao k (sh k x)=x
 |0,q=>by
  simp only[sh];split
  ·rename_i h;exact h.symm
  ·rfl
 |k+1,x=>by
  simp only[sh];split
  ·rename_i h;rw[T.isZ_iff]at h;rw[kO (iI k x.1).le,dY k,<- h]
  ·exact AG (k+1) x
theorem X7{k:Nat}{x:T (k+1)}(h:T.isZ k x.2=false):(sh (k+1) x).length=2^(k+1):=by
 simp only[sh,h,ahi,if_false,ai0,pq];rw[ae5];omega
def Cd(D N:Nat)(l:List Rat):Prop:=0<D/\∀q∈l,∃n:Int,q*((D:Int):Rat)=(n:Rat)/\n.natAbs<=N
theorem Cd.mono{D N N':Nat}{l:List Rat}(h:Cd D N l)(hn:N<=N'):Cd D N' l :=
 ⟨h.1,fun q hq=>by obtain⟨n,h1,h2⟩:=h.2 q hq;exact⟨n,h1,by omega⟩⟩
theorem Cd.sub{D N:Nat}{l l':List Rat}(h:Cd D N l)(hs:∀q∈l',q∈l):Cd D N l':=⟨h.1,fun q hq=>h.2 q (hs q hq)⟩
theorem Cd.scale{D N c:Nat}{l:List Rat}(h:Cd D N l)(hc:0<c):Cd (D*c) (N*c) l:=by
 refine⟨aem h.1 hc,fun q hq=>?_⟩;obtain⟨n,h1,h2⟩:=h.2 q hq;refine⟨n*c,?_,?_⟩
 ·rw[Int.natCast_mul,ag8,<- Rat.mul_assoc,h1,ag8]
 ·rw[agr,ai3];exact aik _ h2
theorem Cd.nil{D N:Nat}(h:0<D):Cd D N []:=⟨h,fun q hq=>by cases hq⟩
theorem Cd.app{D N:Nat}{a b:List Rat}(h:Cd D N a)(h':Cd D N b):Cd D N (a++b) :=
 ⟨h.1,fun q hq=>by rcases aia.1 hq with hq |hq;exact h.2 q hq;exact h'.2 q hq⟩
theorem Cd.zeros{D N n:Nat}(h:0<D):Cd D N (afv n 0) :=
 ⟨h,fun q hq=>⟨0,by rw[(List.mem_replicate.1 hq).2,Rat.zero_mul];rfl,by simp⟩⟩
theorem Cd.wide{D N n:Nat}{a:List Rat}(h:Cd D N a):Cd D N (bw a n):=h.app (Cd.zeros h.1)
theorem Cd.join{D N n:Nat}{a b:List Rat}(h:Cd D N a)(h':Cd D N b):Cd D N (fS a b n):=h.wide.app h'.wide
theorem Cd.minus{D N:Nat}{a:List Rat}(h:Cd D N a):Cd D N (fw a):=by
 refine⟨h.1,fun q hq=>?_⟩;obtain⟨p,hp,rfl⟩:=af0.1 hq;obtain⟨n,h1,h2⟩:=h.2 p hp;refine⟨-n,?_,by omega⟩;rw[Rat.intCast_neg,<- h1,Rat.neg_mul]
theorem Cd.plus{D N N':Nat}{a b:List Rat}(h:Cd D N a)(h':Cd D N' b):Cd D (N+N') (dS a b):=by
 refine⟨h.1,fun q hq=>?_⟩;have h1:Cd D N (bw a (max a.length b.length)):=h.wide;have h2:Cd D N' (bw b (max a.length b.length)):=h'.wide;unfold dS at hq;obtain⟨i,hi,rfl⟩:=afh.1 hq;rw[List.getElem_zipWith];obtain⟨n,e1,e2⟩:=h1.2 _ (agb (by simp at hi;omega:i<(bw a (max a.length b.length)).length));obtain⟨m,e3,e4⟩:=h2.2 _ (agb (by simp at hi;omega:i<(bw b (max a.length b.length)).length));refine⟨n+m,?_,by have:=Int.natAbs_add_le n m;omega⟩;rw[Rat.add_mul,e1,e3,Rat.intCast_add]
theorem Cd.mul1{D N D' N':Nat}{p q:Rat}(h:Cd D N [p])(h':Cd D' N' [q]):Cd (D*D') (N*N') [p*q]:=by
 refine⟨aem h.1 h'.1,fun x hx=>?_⟩;rw[afr.1 hx];obtain⟨n,e1,e2⟩:=h.2 p (by simp);obtain⟨m,e3,e4⟩:=h'.2 q (by simp);refine⟨n*m,?_,by rw[agr];exact aeu e2 e4⟩;rw[ag8,<- e1,<- e3,Int.natCast_mul,ag8];grind
theorem Cd.qb{D N e:Nat}{l:List Rat}(h:Cd D N l)(hD:D<2^e)(hN:N<2^e){q:Rat}(hq:q∈l):Qb e q:=by
 obtain⟨n,h1,h2⟩:=h.2 q hq
 have hD0:((D:Int):Rat)≠0:=by
  intro h0;have:(D:Int)=0:=ag6.1 h0;have:=h.1;omega
 have m5:q=ag4 n D:=by
  rw[Rat.divInt_eq_div,<- h1,Rat.mul_div_cancel hD0]
 have h0:=h.1;obtain⟨e1,e2⟩:=C6 (n:=n) (d:=(D:Int)) oz;rw[m5];refine⟨by omega,by rw[ai3]at e2;omega⟩
def rR(D:Nat):Nat->Nat
  |0=>1
  |j+1=>rR D j*rR D j*D
def rM(D N:Nat):Nat->Nat
  |0=>1
  |j+1=>2*(rM D N j*rM D N j*(D+N))
theorem nc{D:Nat}(h:0<D):∀j,0<rR D j
 |0=>by simp[rR]
 |j+1=>aem (aem (nc h j) (nc h j)) h
theorem rF(D N:Nat):∀j,rR D j<=rM D N j
 |0=>aie _
 |j+1=>by
  have h1:=aeu (aeu (rF D N j) (rF D N j)) (aen D N);simp only[rR,rM];omega
theorem Qr(ts:LL)(m D N:Nat)(Pr:∀j,j<m->Nl j (ts.getD j [])/\Cd D N (ts.getD j []))(hD:0<D)(j k:Nat)(a b:List Rat)(hj:j<=m)(hk:j<=k)(ha:Nl j a)(hb:Nl j b)
  {Da Na Db Nb:Nat} (ca:Cd Da Na a) (cb:Cd Db Nb b):Cd (Da*Db*rR D j) (Na*Nb*rM D N j) (pT ts k a b):=by
 have key:=Ih ts (fun j a b c=>Nl j c/\(j<=m->∀Da Na Db Nb:Nat,Cd Da Na a->Cd Db Nb b->Cd (Da*Db*rR D j) (Na*Nb*rM D N j) c)) ?_ ?_ ?_ ?_ ?_ ?_ (fun _ _ _ _ h=>h.1) m (fun j hj=>(Pr j hj).1) j k a b hj hk ha hb
 ·exact key.2 hj _ _ _ _ ca cb
 ·intro j a b c h;refine⟨h.1,fun hj Da Na Db Nb ca cb=>?_⟩;rw[aey Da,aey Na];exact h.2 hj _ _ _ _ cb ca
 ·intro j a b ha hb h;exact⟨.inl rfl,fun hj Da Na Db Nb ca cb=>Cd.nil (aem (aem ca.1 cb.1) (nc hD j))⟩
 ·intro j p q;refine⟨.inr ⟨0,aii _,rfl⟩,fun hj Da Na Db Nb ca cb=>?_⟩;have h1:=(ca.mul1 cb).scale (nc hD j);exact h1.mono (aih _ (rF D N j))
 ·intro j a b c ha hb h;refine ⟨h.1.mono oz,fun hj Da Na Db Nb ca cb=>?_⟩;have h1:=(h.2 oz _ _ _ _ ca cb).scale (aem (nc hD j) hD);have e1:Da * Db * rR D j * (rR D j * D) = Da * Db * rR D (j + 1):=by simp only [rR]; grind
  rw[e1]at h1;refine h1.mono ?_;have h2:=aih (rM D N j) (aeu (rF D N j) (aen D N));have h3:rM D N j*(rR D j*D)<=rM D N (j+1):=by simp only[rM,aer]at *;omega
  rw[aer (Na*Nb)];exact aih _ h3
 ·intro j a b c d ha hb hc hd;refine ⟨.inr ⟨j + 1,aie _,by rw [tZ hc.1.le hd.1.le,ae5]; omega⟩,fun hj Da Na Db Nb ca cb=>?_⟩;have ca1:Cd Da Na (a.take (2 ^ j)):=ca.sub (fun q hq=>agi hq);have ca2:Cd Da Na (a.drop (2 ^ j)):=ca.sub (fun q hq=>afu hq);have h1:=((hc.2 oz _ _ _ _ ca1 cb).join (hd.2 oz _ _ _ _ ca2 cb) (n:=2 ^ j)).scale (aem (nc hD j) hD);have e1:Da * Db * rR D j * (rR D j * D) = Da * Db * rR D (j + 1):=by simp only [rR]; grind
  rw[e1]at h1;refine h1.mono ?_;have h2:=aih (rM D N j) (aeu (rF D N j) (aen D N));have h3:rM D N j*(rR D j*D)<=rM D N (j+1):=by simp only[rM,aer]at *;omega
  rw[aer (Na*Nb)];exact aih _ h3
 ·intro j a b c1 c2 c3 c4 c5 ha hb h1 h2 h3 h4 h5;refine⟨.inr ⟨j+1,aie _,?_⟩,fun hj Da Na Db Nb ca cb=>?_⟩
  ·have l1:=h1.1.le;have l3:=h3.1.le;have l4:=h4.1.le;have l5:=h5.1.le;rw[tZ (by rw[gB];omega) (by rw[gB];omega),ae5];omega
  have ca1:Cd Da Na (a.take (2^j)):=ca.sub (fun q hq=>agi hq);have ca2:Cd Da Na (a.drop (2^j)):=ca.sub (fun q hq=>afu hq);have cb1:Cd Db Nb (b.take (2^j)):=cb.sub (fun q hq=>agi hq);have cb2:Cd Db Nb (b.drop (2^j)):=cb.sub (fun q hq=>afu hq);have k2:=h2.2 oz _ _ _ _ ca2 cb2;have k3:=h3.2 oz _ _ _ _ k2 (Pr j oz).2;have k1:=(h1.2 oz _ _ _ _ ca1 cb1).scale (aem (nc hD j) hD);have k4:=(h4.2 oz _ _ _ _ ca1 cb2).scale (aem (nc hD j) hD);have k5:=(h5.2 oz _ _ _ _ ca2 cb1).scale (aem (nc hD j) hD);have e1:Da*Db*rR D j*(rR D j*D)=Da*Db*rR D (j+1):=by simp only[rR];grind
  have e3:Da*Db*rR D j*D*rR D j=Da*Db*rR D (j+1):=by simp only[rR];grind
  rw[e1]at k1 k4 k5;rw[e3]at k3;have b1:rM D N j*(rR D j*D)<=rM D N j*rM D N j*D:=by rw[aer];exact aih _ (aik _ (rF D N j))
  have b2:∀x,Na*Nb*rM D N j*(rR D j*D)+Na*Nb*x<=Na*Nb*(rM D N j*rM D N j*D+x):=by
   intro x;rw[afa,aer (Na*Nb)];exact Nat.add_le_add_right (aih _ b1) _
  refine Cd.join (Cd.mono (k1.plus k3) ?_) (Cd.mono (k4.plus k5) ?_)
  ·have e4 : Na * Nb * rM D N j * N * rM D N j = Na * Nb * (rM D N j * rM D N j * N) := by grind
   rw[e4];refine aiw (b2 _) (aih _ ?_);simp only[rM];rw[<- afa];omega
  ·have e4 : Na * Nb * rM D N j * (rR D j * D) <= Na * Nb * (rM D N j * rM D N j * D) := by rw [aer (Na * Nb)]; exact aih _ b1
   refine aiw (Nat.add_le_add e4 e4) ?_;rw[<- afa];refine aih _ ?_;simp only[rM];have:=aih (rM D N j*rM D N j) (aen D N);omega
def eB(r:Nat):Nat->Nat
  |0=>0
  |j+1=>2*eB r j+r+2
theorem E1{D N r:Nat}(hD:D<=2^r)(hN:N<=2^r):∀j,rM D N j<=2^eB r j
 |0=>aie _
 |j+1=>by
  have h1:=E1 hD hN j;have h2:=aeu (aeu h1 h1) (Nat.add_le_add hD hN);simp only[rM,eB]
  have e:2^(2*eB r j+r+2)=2*(2^eB r j*2^eB r j*(2^r+2^r)):=by
   rw[ai8,ai8,Nat.two_mul,ai8];grind
  rw[e];exact aih _ h2
def Cb(e:Nat)(l:List Rat):Prop:=∃D N,Cd D N l/\D<=2^e/\N<=2^e
def RB(r:Nat)(ts:LL):Prop:=∃D N,0<D/\(∀d∈ts,Cd D N d)/\D<=2^r/\N<=2^r
theorem ef{a b:Nat}(h:a<=b):2^a<=2^b:=ae6 oz h
theorem Cb.mono{e f:Nat}{l:List Rat}(h:Cb e l)(hf:e<=f):Cb f l:=by
 obtain⟨D,N,h1,h2,h3⟩:=h;exact⟨D,N,h1,aiw h2 (ef hf),aiw h3 (ef hf)⟩
theorem Cb.sub{e:Nat}{l l':List Rat}(h:Cb e l)(hs:∀q∈l',q∈l):Cb e l':=by
 obtain⟨D,N,h1,h2,h3⟩:=h;exact⟨D,N,h1.sub hs,h2,h3⟩
theorem Cb.take{e n:Nat}{l:List Rat}(h:Cb e l):Cb e (l.take n):=h.sub (fun q hq=>agi hq)
theorem Cb.drop{e n:Nat}{l:List Rat}(h:Cb e l):Cb e (l.drop n):=h.sub (fun q hq=>afu hq)
theorem Cb.nil:Cb 0 []:=⟨1,1,Cd.nil oz,by simp,by simp⟩
theorem Cb.wide{e n:Nat}{a:List Rat}(h:Cb e a):Cb e (bw a n):=by
 obtain⟨D,N,h1,h2,h3⟩:=h;exact⟨D,N,h1.wide,h2,h3⟩
theorem Cb.minus{e:Nat}{a:List Rat}(h:Cb e a):Cb e (fw a):=by
 obtain⟨D,N,h1,h2,h3⟩:=h;exact⟨D,N,h1.minus,h2,h3⟩
theorem Cb.plus{e f:Nat}{a b:List Rat}(h:Cb e a)(h':Cb f b):Cb (e+f+1) (dS a b):=by
 obtain⟨D,N,h1,h2,h3⟩:=h;obtain⟨D',N',h4,h5,h6⟩:=h';have k1:=h1.scale h4.1;have k2:=h4.scale h1.1;rw[aey D']at k2;refine⟨_,_,k1.plus k2,?_,?_⟩
 ·rw[ae5,ai8];have:=aeu h2 h5;omega
 ·rw[ae5,ai8];have e1:=aeu h3 h5;have e2:=aeu h6 h2;rw[aey (2^f)]at e2;omega
theorem Cb.qb{e:Nat}{l:List Rat}(h:Cb e l){q:Rat}(hq:q∈l):Qb (e+1) q:=by
 obtain⟨D,N,h1,h2,h3⟩:=h;have:=aed e;exact h1.qb (by rw[ae5];omega) (by rw[ae5];omega) hq
theorem Cb.qs{e:Nat}{l:List Rat}(h:Cb e l)(he:e<4398046511104){q:Rat}(hq:q∈l):Qs q:=(h.qb hq).qs he
def nC(ts:LL)(m r:Nat):Prop:=(∀j,j<m->Nl j (ts.getD j []))/\RB r ts
theorem RB.get{r:Nat}{ts:LL}(h:RB r ts):∃D N,0<D/\(∀j,Cd D N (ts.getD j []))/\D<=2^r/\N<=2^r:=by
 obtain⟨D,N,h0,h1,h2,h3⟩:=h;refine⟨D,N,h0,fun j=>?_,h2,h3⟩;rw[ah4];cases hx:ts[j]? with
 |none=>exact Cd.nil h0
 |some d=>exact h1 d (ah3 hx)
theorem RB.cb{r:Nat}{ts:LL}(h:RB r ts)(j:Nat):Cb r (ts.getD j []):=by
 obtain⟨D,N,h0,h1,h2,h3⟩:=h.get;exact⟨D,N,h1 j,h2,h3⟩
theorem Cb.mul{ts:LL}{m r:Nat}(ht:nC ts m r){j k e f:Nat}{a b:List Rat}(hj:j<=m)(hk:j<=k)(ha:Nl j a)(hb:Nl j b)(ca:Cb e a)(cb:Cb f b) :
  Cb (e+f+eB r j) (pT ts k a b):=by
 obtain⟨D,N,h0,h1,h2,h3⟩:=ht.2.get;obtain⟨Da,Na,a1,a2,a3⟩:=ca;obtain⟨Db,Nb,b1,b2,b3⟩:=cb;refine⟨_,_,Qr ts m D N (fun j hj=>⟨ht.1 j hj,h1 j⟩) h0 j k a b hj hk ha hb a1 b1,?_,?_⟩
 ·rw[ai8,ai8];exact aeu (aeu a2 b2) (aiw (rF D N j) (E1 h2 h3 j))
 ·rw[ai8,ai8];exact aeu (aeu a3 b3) (E1 h2 h3 j)
theorem RP(r:Nat):∀j,eB r j<=eB r (j+1):=fun j=>by simp only[eB];omega
def sB(r:Nat):Nat->Nat->Nat
  |0,e=>e
  |j+1,e=>sB r j (4*e+3*eB r j+r+1)
theorem vL(r:Nat):∀j e,e<=sB r j e
 |0,e=>aie _
 |j+1,e=>by have:=vL r j (4*e+3*eB r j+r+1);simp only[sB];omega
theorem v6(r:Nat):∀j {e f:Nat},e<=f->sB r j e<=sB r j f
 |0,e,f,h=>h
 |j+1,e,f,h=>by simp only[sB];exact v6 r j oz
theorem Zg(r j e:Nat):sB r j e<=sB r (j+1) e:=by simp only[sB];exact v6 r j oz
theorem zk(r e:Nat){i j:Nat}(h:i<=j):sB r i e<=sB r j e:=by
  induction j with
  | zero => have : i = 0 := by omega
            subst this;exact aie _
  |succ j ih =>
    by_cases dL:i=j+1
    · rw[dL];exact aie _
    · exact aiw (ih oz) (Zg r j e)
theorem Y8(r e:Nat){j:Nat}(h:j<=2):sB r j e<=16*e+17*r+29:=by
 refine aiw (zk r e h) ?_;simp only[sB,eB];omega
theorem Yc(r e:Nat){j:Nat}(h:j<=3):sB r j e<=64*e+177*r+333:=by
 refine aiw (zk r e h) ?_;simp only[sB,eB];omega
def lm(n:Nat):Nat:=if n<=2 then 200000000000 else 50000000000
theorem ZJ(n:Nat):lm n<=200000000000:=by unfold lm;split <;> omega
theorem G1(n:Nat):50000000000<=lm n:=by unfold lm;split <;> omega
def nA(l:List Rat):AV:=.lst 3 (l.map qA)
def nR(l:List Rt):AV:=.lst 3 (l.map Rt.av)
def jS(ts:LL):AV:=.agg [.lst 1 (ts.map nA)]
def KU(ts:List (List Rt)):AV:=.agg [.lst 1 (ts.map nR)]
def tI(n:Nat):Nat:=if n<=1 then 0 else(n-1).log2+1
theorem KY{n k:Nat}(h1:∀j,j<k->2^j<n)(h2:n<=2^k):tI n=k:=by
 unfold tI;split
 ·rename_i h;cases k with
  |zero=>rfl
  |succ k=>have:=h1 0 oz;omega
 ·rename_i h;cases k with
  |zero=>simp at h2;omega
  |succ k =>
   have h3:=h1 k oz;congr 1;rw[Nat.log2_eq_iff oz];omega
def kK(n:Nat):Int:=if 2^tI n=n then(tI n:Int)else -1
theorem UM(j:Nat):tI (2^j)=j:=KY (fun i hi=>aff oz hi) (aie _)
theorem wj(j:Nat):kK (2^j)=j:=by unfold kK;rw[UM,ajg rfl]
theorem SM{n:Nat}(h:0<=kK n):∃j:Nat,n=2^j/\kK n=(j:Int):=by
 unfold kK at h ⊢;split at h
 ·rename_i h1;exact⟨tI n,h1.symm,by rw[ajg h1]⟩
 ·omega
theorem OM{k:Nat}(hk:k<=62):IntKind.i64.wrap ((1:Int)*2^(min (k:Int).toNat IntKind.i64.bits))=((2^k:Nat):Int):=by
 have h1:min (k:Int).toNat IntKind.i64.bits=k:=by simp[IntKind.bits];omega
 have h2:2^k<=2^62:=ef hk;have h3:(2:Nat)^62=4611686018427387904:=by decide
 have h4:((2:Int)^k)=((2^k:Nat):Int):=by simp
 rw[h1,Int.one_mul,h4];generalize 2^k=x at *;exact i64_in oz
def jb(m:Nat)(a:List Rt):Nat:=if a≠[]/\(kK a.length<0\/(m:Int)<kK a.length)then 10 else if a.all Rt.valid then 0 else 2
theorem Lc{m:Nat}{a:List Rt}(h:jb m a=0)(bc:∀r∈a,r.ok):a=(a.map Rt.q).map rt/\Nl m (a.map Rt.q):=by
 unfold jb at h;split at h
 ·cases h
 ·rename_i h1;split at h
  ·rename_i h2;rw[aif]at h2;refine⟨?_,?_⟩
   ·rw[map_map];refine(List.map_id _).symm.trans ?_;exact aga (fun r hr=>Rt.eq_rt (bc r hr) (h2 r hr))
   ·by_cases h0:a=[]
    ·subst h0;exact .inl rfl
    ·have h3:0<=kK a.length/\kK a.length<=m:=by
      constructor
      ·exact Int.not_lt.1 (fun h=>h1 ⟨h0,.inl h⟩)
      ·exact Int.not_lt.1 (fun h=>h1 ⟨h0,.inr h⟩)
     obtain⟨j,e1,e2⟩:=SM h3.1;exact .inr ⟨j,by omega,by rw[ah6,e1]⟩
  ·cases h
theorem JM(l:List Rat):nR (l.map rt)=nA l:=by
 unfold nR nA;rw[map_map];rfl
theorem Nl.len5{k:Nat}{a:List Rat}(h:Nl k a)(hk:k<=5):a.length<=32:=aiw h.le (ef (b:=5) hk)
theorem qZ:iW (.agg [.v (.bool false),.v (.slice none 0 0),.v (.slice none 0 0)]) (qA 0):=by
 refine⟨rfl,?_⟩;intro j x y hx hy
 match j,hx,hy with
 |0,hx,hy=>cases hx;cases hy;exact⟨rfl,.refl _⟩
 |1,hx,hy=>cases hx;cases hy;exact⟨rfl,.nil _ _ _⟩
 |2,hx,hy=>cases hx;cases hy;exact⟨rfl,.nil _ _ _⟩
theorem iW.refl{e:AV}(h:∀c∈e.cells,c.one=true):iW e e :=
 ⟨rfl,fun j x y hx hy=>by rw[hx]at hy;cases hy;exact⟨h x (ah3 hx),.refl _⟩⟩
theorem Xh(q:Rat):∀c∈(qA q).cells,c.one=true:=by
 intro c hc;have:c=bl (rt q).neg\/c=ws (rt q).num\/c=ws (rt q).den:=by simpa[qA,Rt.av,AV.cells]using hc
 rcases this with rfl |rfl |rfl <;> rfl
theorem Ii(a:List Rat)(n:Nat)(h:a.length<=n) :
  BlkSub (.row 3 (a.map qA++(afv n (.agg [.v (.bool false),.v (.slice none 0 0),.v (.slice none 0 0)])).drop (a.map qA).length)) (.row 3 ((bw a n).map qA)):=by
 refine .row ?_ ?_
 ·simp only[bw,ai0,ah6,agd,aiu]
 ·intro i e e' he he'
  by_cases hi:i<a.length
  ·rw[ais (by simpa using hi)]at he;simp only[bw,ai4]at he';rw[ais (by simpa using hi),he]at he';cases he';simp only[aib,ah8]at he;obtain⟨q,_,rfl⟩:=he;exact iW.refl (Xh q)
  ·rw [ain (by simpa using hi), List.drop_replicate, aix] at he;simp only [bw,ai4] at he';rw [ain (by simpa using hi),ai7,aix] at he';split at he
   ·cases he;split at he'
    ·cases he';exact qZ
    ·cases he'
   ·cases he
theorem HD{p w:List Rat}{i:Nat}{s:Rat}(hl:p.length=w.length)(hi:i<p.length)(hs:p[i]=s) :
  ((p.take i++w.drop i).map qA).set i (qA s)=(p.take (i+1)++w.drop (i+1)).map qA:=by
 rw[<- aja];congr 1;subst hs;rw[List.set_append_right i _ (by simp;omega)];have h1:i-(p.take i).length=0:=by simp;omega
 rw[h1,afk oz,List.set_cons_zero,afp hi,ajc];rfl
theorem ack{a b:List Rat}{i:Nat}(hi:i<(dS a b).length) :
  (dS a b)[i]=(bw a (max a.length b.length)).getD i 0+(bw b (max a.length b.length)).getD i 0:=by
 have h:=MH (a:=a) (b:=b) (i:=i);rw[ah4,ah9 hi,ah0]at h;rw[h,rf,rf]
theorem getD_some{l:List Rat}{i:Nat}(h:i<l.length):l[i]?=some (l.getD i 0):=by
 rw[ah4,ah9 h];rfl
theorem Dq{l:List Rat}{i:Nat}(h:i<l.length):l.getD i 0∈l:=by
 rw[ah4,ah9 h];exact agb h
theorem Nn{p w:List Rat}{i:Nat}(hl:p.length=w.length)(hi:i<p.length):(p.take i++w.drop i)[i]?=some (w.getD i 0):=by
 rw[ain (by simp;omega),ai5];have:i+(i-(p.take i).length)=i:=by simp;omega
 rw[this];exact getD_some oz
theorem g9{α:Type}{l:List α}{i:Nat}{x:α}(h:l[i]?=some x):l.take (i+1)=l.take i++[x]:=by
 obtain⟨hi,rfl⟩:=afl.1 h;exact afp hi
theorem ym{q:Rat}(h:aR q=0):q=0:=by
 unfold aR at h;split at h
 ·cases h
 ·split at h
  ·cases h
  ·grind
theorem Vv:rt 0=⟨false,[],[]⟩:=rfl
theorem ZN{q:Rat}(h:cond (cond (rt q).neg true (aa .gtr ((rt q).num.length:Int) 0)) true (aa .gtr ((rt q).den.length:Int) 0)=true):q≠0:=by
 intro h0;rw[h0,Vv]at h;cases h
theorem TY{q:Rat}(h:cond (cond (rt q).neg true (aa .gtr ((rt q).num.length:Int) 0)) true (aa .gtr ((rt q).den.length:Int) 0)=false):q=0:=by
 cases hn:(rt q).neg
 ·rw[hn]at h;cases hm:aa .gtr ((rt q).num.length:Int) 0
  ·have h1:(rt q).num=[]:=by
    cases hl:(rt q).num with
    |nil=>rfl
    |cons x l=>rw[hl]at hm;simp[aa]at hm
   rw[<- bH q];exact Rt.zero (fun h=>h.2 h1)
  ·rw[hm]at h;cases h
 ·rw[hn]at h;cases h
theorem qP{n:Nat}(h:n<=281474976710656):IntKind.i64.wrap ((n:Int).tdiv 2)=((n/2:Nat):Int):=by
 rw[show((n:Int).tdiv 2)=((n/2:Nat):Int)from(Int.ofNat_tdiv n 2).symm];exact i64_in oz
theorem HA{m j:Nat}{a:List Rat}(h:a.length<=2^j)(hj:j<=m):fk m a=fk j a:=by
  induction m with
  | zero => have : j = 0 := by omega
            subst this;rfl
  |succ m ih =>
    by_cases Pp:j=m+1
    · rw[Pp]
    · have h1:a.length<=2^m:=aiw h (ef oz)
      have h2:fk (m+1) a=if bf (a.drop (2^m))=true then fk m (a.take (2^m))else a:=rfl;rw[h2,aiy h1,ajg U1,aio h1];exact ih oz
def pi(a:List Rat)(n:Nat):Prop:=(n=0/\a=[])\/∃i,n=2^i/\i<=5/\n<=a.length/\fk 5 a=fk i (a.take n)
theorem VI{a:List Rat}(h:Nl 5 a):pi a a.length:=by
 rcases h with rfl |⟨j,hj,h⟩
 ·exact .inl ⟨rfl,rfl⟩
 ·exact .inr ⟨j,h,hj,aie _,by rw[ail];exact HA oz hj⟩
theorem K8{a:List Rat}{i:Nat}:(a.drop (2^i)).take (2^(i+1)-2^i)=(a.take (2^(i+1))).drop (2^i):=by
 rw[List.drop_take]
theorem Qe{a:List Rat}{n:Nat}(h:pi a n)(h1:1<n)(hz:bf ((a.drop (n/2)).take (n-n/2))=true):pi a (n/2):=by
 rcases h with⟨h,_⟩ |⟨i,rfl,hi,hl,hs⟩
 ·omega
 ·cases i with
  |zero=>simp at h1
  |succ i =>
   rw[mL]at hz ⊢;rw[K8]at hz;have h2:fk (i+1) (a.take (2^(i+1)))=if bf ((a.take (2^(i+1))).drop (2^i))=true then fk i ((a.take (2^(i+1))).take (2^i))else a.take (2^(i+1)):=rfl;rw[h2,ajg hz,agh,afc (ef oz)]at hs;exact .inr ⟨i,rfl,by omega,aiw (ef oz) hl,hs⟩
theorem aax{a:List Rat}(h:pi a 1)(hz:bf (a.take 1)=true):fk 5 a=[]:=by
 rcases h with⟨h,_⟩ |⟨i,h0,hi,hl,hs⟩
 ·omega
 ·have:i=0:=by
   cases i with
   |zero=>rfl
   |succ i=>rw[ae5]at h0;omega
  subst this;rw[hs];show(if bf (a.take 1)=true then[]else _)=_;rw[ajg hz]
theorem W4{a:List Rat}{n:Nat}(h:pi a n)(h1:1<n->bf ((a.drop (n/2)).take (n-n/2))=false)(h2:n=1->bf (a.take 1)=false):fk 5 a=a.take n:=by
 rcases h with⟨rfl,rfl⟩ |⟨i,rfl,hi,hl,hs⟩
 ·rfl
 ·cases i with
  |zero =>
   rw[hs];show(if bf (a.take 1)=true then[]else _)=_;rw[h2 rfl];rfl
  |succ i =>
   have h3:=h1 (by have:=aed i;rw[ae5];omega);rw[mL,K8]at h3;rw[hs];have h4:fk (i+1) (a.take (2^(i+1)))=if bf ((a.take (2^(i+1))).drop (2^i))=true then fk i ((a.take (2^(i+1))).take (2^i))else a.take (2^(i+1)):=rfl;rw[h4,h3];rfl
theorem pi.le{a:List Rat}{n:Nat}(h:pi a n):n<=a.length:=by
 rcases h with⟨rfl,rfl⟩ |⟨i,rfl,hi,hl,hs⟩
 ·exact aie _
 ·exact hl
theorem FH(a:List Rat)(l m:Nat):AV.lst 3 (((a.map qA).drop l).take m)=nA ((a.drop l).take m):=by
 unfold nA;rw[map_take,agc]
theorem QQ{n:Nat}{a:List Rat}(h:Nl n a)(hn:n<=5):fk 5 a=sh n (ao n a):=by
 rw[HA h.le hn,FO n h]
theorem BlkSub.of_{x y z:Blk}(h:BlkSub x y)(e:z=x):BlkSub z y:=e▸h
theorem Q5{a:List Rat}{i:Nat}(hi:i<(fw a).length):(fw a)[i]=-(a.getD i 0):=by
 have h:=MS (a:=a) (i:=i);rw[ah4,ah9 hi,ah0]at h;exact h
theorem UF{ts:LL}{k:Nat}{x y:List Rat}(hl:y.length<=x.length)(h:bf x=true\/bf y=true):pT ts k x y=[]:=by
 unfold pT;simp only[ajf (show ¬x.length<y.length by omega)];rw[ajg (by rw[ajb];exact h)]
theorem acw{ts:LL}{k:Nat}{p q:Rat}(h:¬(bf [p]=true\/bf [q]=true)):pT ts k [p] [q]=[p*q]:=by
 unfold pT;simp only[aij,aiv,Nat.lt_irrefl,if_false];rw[ajf (by rw[ajb];exact h)];simp
theorem abv{ts:LL}{k i:Nat}{x y:List Rat}(hx:x.length=2^(i+1))(hl:y.length<=2^i)(h:¬(bf x=true\/bf y=true)) :
  pT ts (k+1) x y=fS (pT ts k (x.take (2^i)) y) (pT ts k (x.drop (2^i)) y) (2^i):=by
 have h2:=aed i;have hlt:¬x.length<y.length:=by rw[hx,ae5];omega
 conv=>lhs;unfold pT
 simp only[ajf hlt];rw[ajf (by rw[ajb];exact h),ajf (by rw[hx,ae5];omega)];simp only[hx,mL];rw[ajg hl]
theorem Wq{ts:LL}{k i:Nat}{x y:List Rat}(hx:x.length=2^(i+1))(hl:¬y.length<=2^i)(Bk:y.length<=x.length)(h:¬(bf x=true\/bf y=true)) :
  pT ts (k+1) x y=fS (dS (pT ts k (x.take (2^i)) (y.take (2^i))) (pT ts k (pT ts k (x.drop (2^i)) (y.drop (2^i))) (ts.getD i [])))
   (dS (pT ts k (x.take (2^i)) (y.drop (2^i))) (pT ts k (x.drop (2^i)) (y.take (2^i)))) (2^i):=by
 conv=>lhs;unfold pT
 simp only[ajf (show ¬x.length<y.length by omega)];have h2:=aed i;rw[ajf (by rw[ajb];exact h),ajf (by rw[hx,ae5];omega)];simp only[hx,mL,MO];rw[ajf hl]
theorem qB(r:Nat){i j:Nat}(h:i<=j):eB r i<=eB r j:=by
  induction j with
  | zero => have : i = 0 := by omega
            subst this;exact aie _
  |succ j ih =>
    by_cases dL:i=j+1
    · rw[dL];exact aie _
    · exact aiw (ih oz) (RP r j)
theorem DQ{j:Nat}{x:List Rat}(h:Nl j x):x.length=0\/x.length=1\/∃i,i+1<=j/\x.length=2^(i+1):=by
 rcases h with rfl |⟨i,hi,h⟩
 ·exact .inl rfl
 ·cases i with
  |zero=>exact .inr (.inl h)
  |succ i=>exact .inr (.inr ⟨i,hi,h⟩)
theorem YT{j i:Nat}{x:List Rat}(h:Nl j x)(hl:x.length<=2^i):Nl i x:=by
 rcases h with rfl |⟨l,hl',h⟩
 ·exact .inl rfl
 ·refine .inr ⟨l,?_,h⟩;rcases aid i l with h1 |h1
  ·have:=aff (a:=2) oz h1;omega
  ·exact h1
theorem TN{j i:Nat}{x:List Rat}(h:Nl j x)(hl:¬x.length<=2^i)(hu:x.length<=2^(i+1)):x.length=2^(i+1):=by
 rcases h with rfl |⟨l,hl',h⟩
 ·simp at hl
 ·rcases aid i l with h1 |h1
  ·rcases aid (i+1) l with h2 |h2
   ·have:=aff (a:=2) oz h2;omega
   ·rw[h,show l=i+1 by omega]
  ·have:=ef h1;omega
theorem ES{ts:LL}{j:Nat}(h:j<ts.length):(ts.map nA)[j]?=some (nA (ts.getD j [])):=by
 rw[aib,ah4,ah9 h];rfl
theorem uw(x:List Rat)(n:Nat):AV.lst 3 (((x.map qA).drop 0).take (n-0))=nA (x.take n):=by
 rw[Nat.sub_zero,ai9,<- map_take];rfl
theorem uQ(x:List Rat)(n:Nat):AV.lst 3 (((x.map qA).drop n).take ((x.map qA).length-n))=nA (x.drop n):=by
 rw[<- agc,aio (by simp)];rfl
def i9(ts:LL)(i:Nat)(a:List Rat):List Rat :=
  dS (pT ts i (a.take (2^i)) (a.take (2^i))) (fw (pT ts i (pT ts i (a.drop (2^i)) (a.drop (2^i))) (ts.getD i [])))
theorem zD{ts:LL}{m r:Nat}(ht:nC ts m r){i e:Nat}{a:List Rat}(hi:i+1<=m)(ha:a.length=2^(i+1))(ca:Cb e a) :
  Nl i (i9 ts i a)/\ao i (i9 ts i a)=T.norm (aD ts) i (ao (i+1) a)/\Cb (4*e+3*eB r i+r+1) (i9 ts i a):=by
 have n1:Nl i (a.take (2^i)):=.inr ⟨i,aie _,kN ha⟩;have n2:Nl i (a.drop (2^i)):=.inr ⟨i,aie _,lC ha⟩;have s1:=iY ts m ht.1 i i _ _ oz oz n1 n1;have s2:=iY ts m ht.1 i i _ _ oz oz n2 n2;have s3:=iY ts m ht.1 i i _ _ oz oz s2.1 (ht.1 i oz);have c1:=Cb.mul ht (k:=i) (show i<=m by omega) oz n1 n1 ca.take ca.take;have c2:=Cb.mul ht (k:=i) (show i<=m by omega) oz n2 n2 ca.drop ca.drop;have c3:=Cb.mul ht (k:=i) (show i<=m by omega) oz s2.1 (ht.1 i oz) c2 (ht.2.cb i);refine⟨?_,?_,?_⟩
 ·have l1:=s1.1.le;have l3:=s3.1.le;rcases s1.1 with h1 |⟨j1,uG,h1⟩ <;> rcases s3.1 with h3 |⟨j3,hj3,h3⟩
  ·refine .inl ?_;apply af2;unfold i9;rw[gB,lE,h1,h3];rfl
  ·refine .inr ⟨j3,hj3,?_⟩;unfold i9;rw[gB,lE,h1,h3];simp
  ·refine .inr ⟨j1,uG,?_⟩;unfold i9;rw[gB,lE,h1,h3];simp
  ·refine .inr ⟨max j1 j3, by omega, ?_⟩;unfold i9;rw [gB,lE,h1,h3];rcases Nat.le_total j1 j3 with h | h
   ·rw[ae3 h,ae3 (ef h)]
   ·rw[ad8 h,ad8 (ef h)]
 ·unfold i9 T.norm;rw[q8,y7,s1.2,s3.2,s2.2];rfl
 ·exact(c1.plus c3.minus).mono oz
theorem T.sgn_ofQ(r:(k:Nat)->T k):∀(k:Nat)(q:Rat),T.sgn r k (T.ofQ k q)=aR q
 |0,q=>rfl
 |k+1,q=>by simp only[T.ofQ];rw[T.sgn_low,T.sgn_ofQ r k]
theorem Aw(r:(k:Nat)->T k){i j:Nat}{a:List Rat}(h:a.length<=2^i)(dL:i<=j):T.sgn r j (ao j a)=T.sgn r i (ao i a):=by
  induction j with
  | zero => have : i = 0 := by omega
            subst this;rfl
  |succ j ih =>
    by_cases h':i=j+1
    · rw[h']
    · rw[kO (aiw h (ef oz)),T.sgn_low]
      exact ih oz
theorem KK:∀(k:Nat){a:List Rat}{q:Rat},q∈fk k a->q∈a
 |0,a,q,h=>by
  have e:fk 0 a=if bf a=true then[]else a:=rfl;rw[e]at h;split at h
  ·cases h
  ·exact h
 |k+1,a,q,h=>by
  have e:fk (k+1) a=if bf (a.drop (2^k))=true then fk k (a.take (2^k))else a:=rfl;rw[e]at h;split at h
  ·exact agi (KK k h)
  ·exact h
theorem Cb.sh{e k:Nat}{a:List Rat}(h:Cb e a)(hn:Nl k a):Cb e (sh k (ao k a)):=by
 rw[<- FO k hn];exact Cb.sub h (fun q hq=>KK k hq)
theorem SO{x y:Int}(hx:x=-1\/x=0\/x=1)(hy:y=-1\/y=0\/y=1):IntKind.i64.wrap (fq .mul x y)=x*y:=by
 apply Hc;rcases hx with rfl |rfl |rfl <;> rcases hy with rfl |rfl |rfl <;> simp
theorem QT{x y z w:Int}(h:cond (aa .eql x y) true (aa .eql z w)=true):x=y\/z=w:=by
 cases hx:aa .eql x y
 ·rw[hx]at h;exact .inr (by simpa[aa]using h)
 ·exact .inl (by simpa[aa]using hx)
theorem ach{x y z w:Int}(h:cond (aa .eql x y) true (aa .eql z w)=false):¬(x=y\/z=w):=by
 cases hx:aa .eql x y
 ·rw [hx] at h;have h1:x ≠ y:=by simpa [aa] using hx
  have h2:z≠w:=by simpa[aa]using h
  exact fun h=>h.elim h1 h2
 ·rw[hx]at h;cases h
abbrev lq(a:List Rt):List Rat:=a.map Rt.q
abbrev llq(rs:List (List Rt)):LL:=rs.map lq
def qW(rs:List (List Rt)):Nat->Nat->Nat
  |0,_=>0
  |f+1,k=>if(rs.getD k []).length≠2^k then 10 else if jb k (rs.getD k [])≠0 then jb k (rs.getD k [])
    else if T.sgn (aD (llq rs)) k (aD (llq rs) k)<0 then 3 else qW rs f (k+1)
def fp(rs:List (List Rt)):Nat:=if 5<rs.length then 4 else qW rs rs.length 0
def ir:List Nat->Nat
  |[]=>0
  |e::l=>if e≠0 then e else ir l
def pp(rs:List (List Rt))(xs:List (List Rt)):Nat:=if fp rs≠0 then fp rs else ir (xs.map (jb rs.length))
theorem T.mul_congr{r r':(k:Nat)->T k}:∀(k:Nat),(∀j,j<k->r j=r' j)->∀x y,T.mul r k x y=T.mul r' k x y
 |0,_,x,y=>rfl
 |k+1,h,x,y=>by
  have ih:=T.mul_congr k (fun j hj=>h j oz);simp only[T.mul,ih,h k oz]
theorem T.sgn_congr{r r':(k:Nat)->T k}:∀(k:Nat),(∀j,j<k->r j=r' j)->∀x,T.sgn r k x=T.sgn r' k x
 |0,_,x=>rfl
 |k+1,h,x=>by
  have ih:=T.sgn_congr k (fun j hj=>h j oz);have im:=T.mul_congr k (fun j hj=>h j oz);simp only[T.sgn,T.norm,ih,im,h k oz]
theorem LN(rs:List (List Rt))(k:Nat):(llq rs).getD k []=lq (rs.getD k []):=by
 simp only[ah4,aib];cases rs[k]? <;> rfl
def vJ(rs:List (List Rt))(k:Nat):Prop:=(rs.getD k []).length=2^k/\jb k (rs.getD k [])=0/\0<=T.sgn (aD (llq rs)) k (aD (llq rs) k)
theorem aba{rs:List (List Rt)}{f k:Nat}(h:vJ rs k):qW rs (f+1) k=qW rs f (k+1):=by
 obtain⟨h1,h2,h3⟩:=h;show(if _ then _ else _)=_;rw[ajf (by rw[h1];simp),ajf (by rw[h2];simp),ajf oz]
theorem Hb:∀{f k:Nat}{rs:List (List Rt)},qW rs f k=0->∀j,k<=j->j<k+f->vJ rs j
 |0,k,rs,_,j,h1,h2=>by omega
 |f+1,k,rs,h,j,h1,h2=>by
  have h':(if(rs.getD k []).length≠2^k then 10 else if jb k (rs.getD k [])≠0 then jb k (rs.getD k [])
   else if T.sgn (aD (llq rs)) k (aD (llq rs) k)<0 then 3 else qW rs f (k+1))=0:=h
  split at h'
  ·cases h'
  ·rename_i e1;split at h'
   ·rename_i e2;exact ajm h' e2
   ·rename_i e2;split at h'
    ·cases h'
    ·rename_i e3
     by_cases hj:j=k
     ·subst hj;exact⟨ah2.1 e1,ah2.1 e2,by omega⟩
     ·exact Hb h' j oz oz
theorem HP:∀{f k:Nat}{rs:List (List Rt)},(∀j,k<=j->j<k+f->vJ rs j)->qW rs f k=0
 |0,k,rs,_=>rfl
 |f+1,k,rs,h=>by
  rw[aba (h k oz oz)];exact HP (fun j h1 h2=>h j oz oz)
theorem Y2{rs:List (List Rt)}(bc:∀d∈rs,∀x∈d,x.ok){k:Nat}(hk:k<=rs.length)(h:∀j,j<k->jb j (rs.getD j [])=0):(rs.take k).map nR=((llq rs).take k).map nA:=by
 apply List.ext_getElem?;intro j;simp only[aib,ai1]
 by_cases hj:j<k
 ·rw [ajg hj, ajg hj];have Bl:j < rs.length:=by omega
  have h1:=h j hj;rw[ah4,ah9 Bl,ah0]at h1;rw[ah9 Bl];simp only[ah1];congr 1;have:=(Lc h1 (fun x hx=>bc _ (agb Bl) x hx)).1;rw[<- JM,<- this]
 ·rw[ajf hj,ajf hj];rfl
theorem vJ.nl{rs:List (List Rt)}{k:Nat}(h:vJ rs k):Nl k ((llq rs).getD k []):=by
 rw[LN];exact .inr ⟨k,aie _,by rw[ah6,h.1]⟩
structure Tw(ts:LL)(r:Nat):Prop where
  three:ts.length<=3
  len:∀j,j<ts.length->(ts.getD j []).length=2^j
  pos:∀j,j<ts.length->0<=T.sgn (aD ts) j (aD ts j)
  rb:RB r ts
  le:r<=5000000000
theorem Tw.five{ts:LL}{r:Nat}(h:Tw ts r):ts.length<=5:=aiw h.three oz
theorem Tw.ok{ts:LL}{r:Nat}(h:Tw ts r):nC ts ts.length r :=
 ⟨fun j hj=>.inr ⟨j,aie _,h.len j hj⟩,h.rb⟩
structure TR(rs:List (List Rt))(r:Nat):Prop where
  ok:∀d∈rs,∀x∈d,x.ok
  len:∀d∈rs,d.length<=281474976710656
  ll:rs.length<=281474976710656
  rb:RB r (llq rs)
  le:r<=5000000000
  three:rs.length<=3\/5<rs.length
theorem KV{rs:List (List Rt)}{r:Nat}(h:TR rs r)(hc:fp rs=0):Tw (llq rs) r/\KU rs=jS (llq rs):=by
 unfold fp at hc;split at hc
 ·cases hc
 ·rename_i h5;have hk:=Hb hc;have hl:(llq rs).length = rs.length:=ah6 _;refine ⟨⟨by have:=h.three; rw [hl]; omega,fun j hj=>?_,fun j hj=>?_,h.rb,h.le⟩,?_⟩
  ·rw[LN,ah6];exact(hk j oz oz).1
  ·exact(hk j oz oz).2.2
  ·unfold KU jS;have:=Y2 h.ok (aie rs.length) (fun j hj=>(hk j oz oz).2.1);rw[ail,aio oz]at this;rw[this]
theorem tX{m:Nat}{a:List Rat}(h:Nl m a):jb m (a.map rt)=0:=by
 unfold jb;rw[ajf,ajg]
 ·rw[aif];intro x hx;obtain⟨q,_,rfl⟩:=af0.1 hx;exact ye q
 ·rintro⟨h0,h1⟩;rw[ah6]at h1;rcases h with rfl |⟨j,hj,h⟩
  ·exact h0 rfl
  ·rw[h,wj]at h1;omega
theorem J6(a:List Rat):lq (a.map rt)=a:=by
 unfold lq;rw[map_map];refine(aga (fun q _=>bH q)).trans (List.map_id _)
theorem Di(ts:LL):llq (ts.map (List.map rt))=ts:=by
 unfold llq;rw[map_map];refine(aga (fun a _=>J6 a)).trans (List.map_id _)
theorem Tw.chk{ts:LL}{r:Nat}(h:Tw ts r):fp (ts.map (List.map rt))=0:=by
 unfold fp;rw[ah6,ajf (by have:=h.five;omega)];refine HP (fun j _ hj=>?_)
 have e1:(ts.map (List.map rt)).getD j []=(ts.getD j []).map rt:=by
  simp only[ah4,aib];cases ts[j]? <;> rfl
 refine⟨?_,?_,?_⟩
 ·rw[e1,ah6];exact h.len j oz
 ·rw[e1];exact tX (.inr ⟨j,aie _,h.len j oz⟩)
 ·rw[Di];exact h.pos j oz
theorem RB.qs{r:Nat}{ts:LL}(h:RB r ts)(hr:r<=5000000000):∀d∈ts,∀q∈d,Qs q:=by
 obtain⟨D,N,h0,h1,h2,h3⟩:=h;intro d hd q hq;exact Cb.qs ⟨D,N,h1 d hd,h2,h3⟩ oz hq
theorem Tw.tr{ts:LL}{r:Nat}(h:Tw ts r):TR (ts.map (List.map rt)) r:=by
 refine⟨?_,?_,by rw[ah6];have:=h.five;omega,by rw[Di];exact h.rb,h.le,by rw[ah6];exact .inl h.three⟩
 ·intro d hd x hx;obtain⟨a,ha,rfl⟩:=af0.1 hd;obtain⟨q,hq,rfl⟩:=af0.1 hx;exact(h.rb.qs h.le a ha q hq).ok
 ·intro d hd;obtain⟨a,ha,rfl⟩:=af0.1 hd;obtain⟨j,hj,rfl⟩:=afh.1 ha;have:=h.len j hj;rw[ah4,ah9 hj,ah0]at this;rw[ah6,this];have:=h.five;have:2^j<=2^5:=ef oz;omega
theorem tM:∀{l:List Nat},ir l=0->∀e∈l,e=0
 |[],_,e,he=>by cases he
 |x::l,h,e,he=>by
  have h':(if x≠0 then x else ir l)=0:=h;split at h'
  ·rename_i hx;exact ajm h' hx
  ·rename_i hx;rcases aiq.1 he with rfl |he
   ·exact ah2.1 hx
   ·exact tM h' e he
theorem zM:∀{l:List Nat},(∀e∈l,e=0)->ir l=0
 |[],_=>rfl
 |x::l,h=>by
  show(if x≠0 then x else ir l)=0;rw[ajf (by rw[h x (by simp)];simp)];exact zM (fun e he=>h e (by simp[he]))
theorem M7:∀(l l':List Nat),ir l=0->ir (l++l')=ir l'
 |[],l',_=>rfl
 |x::l,l',h=>by
  have h0:=tM h x (by simp);show(if x≠0 then x else ir (l++l'))=_;rw[ajf (by rw[h0];simp)];exact M7 l l' (zM (fun e he=>tM h e (by simp[he])))
theorem Q9{rs xs:List (List Rt)}(h:pp rs xs=0):fp rs=0/\∀a∈xs,jb rs.length a=0:=by
 unfold pp at h;split at h
 ·rename_i h1;exact ajm h h1
 ·rename_i h1;exact⟨ah2.1 h1,fun a ha=>tM h _ (af0.2 ⟨a,ha,rfl⟩)⟩
structure NR(a:List Rt)(e:Nat):Prop where
  ok:∀x∈a,x.ok
  len:a.length<=281474976710656
  cb:Cb e (lq a)
theorem NR.num{a:List Rt}{e m:Nat}(h:NR a e)(hn:jb m a=0):nR a=nA (lq a)/\Nl m (lq a):=by
 obtain⟨h1,h2⟩:=Lc hn h.ok;refine⟨?_,h2⟩;rw[<- JM,<- h1]
theorem XK{r j n e:Nat}(hj:j<=n)(h3:n<=3)(hr:r<=5000000000)(he:e<=lm n):sB r j e<4398046511104:=by
 unfold lm at he;split at he
 ·have:=Y8 r e (j:=j) oz;omega
 ·have:=Yc r e (j:=j) oz;omega
theorem M0{n:Nat}{a:List Rat}(h:Nl n a):Nl n (fw a):=by
 rcases h with rfl |⟨j,hj,h⟩
 ·exact .inl rfl
 ·exact .inr ⟨j,hj,by rw[lE,h]⟩
theorem Nu{n:Nat}{a b:List Rat}(h:Nl n a)(h':Nl n b):Nl n (dS a b):=by
 rcases h with rfl |⟨j,hj,h⟩ <;> rcases h' with rfl |⟨i,hi,h'⟩
 ·exact .inl (af2 (by rw[gB];rfl))
 ·exact .inr ⟨i,hi,by rw[gB,h'];simp⟩
 ·exact .inr ⟨j,hj,by rw[gB,h];simp⟩
 ·refine .inr ⟨max j i, by omega, ?_⟩;rw [gB,h,h'];rcases Nat.le_total j i with g | g
  ·rw[ae3 g,ae3 (ef g)]
  ·rw[ad8 g,ad8 (ef g)]
theorem MY{x:Rt}:x.q+(rt 0).q=x.q:=by rw[bH,Rat.add_zero]
theorem qk{e:Nat}(h:aa .neq (e:Int) 0=true):e≠0:=by
 have:(e:Int)≠0:=by simpa[aa]using h
 omega
theorem q9{e:Nat}(h:aa .neq (e:Int) 0=false):e=0:=by
 have:(e:Int)=0:=by simpa[aa]using h
 omega
structure Tn where
  t:Rt
  half:Bool
namespace Tn
def av(x:Tn):AV:=.agg [bl x.t.neg,ws x.t.num,ws x.t.den,bl x.half]
def err(x:Tn):Nat:=if x.t.valid=true/\(x.half=true->x.t.q=0)then 0 else 2
end Tn
def CC(half:Bool)(t:Rat):Rat:=if half then -1 else(1-t*t)/(1+t*t)
def CH(half:Bool)(t:Rat):Rat:=if half then 0 else(t+t)/(1+t*t)
theorem Tn.err_yes{x:Tn}(h:cond (!x.t.valid) true (cond x.half (aa .neq (aR x.t.q) 0) false)=true):x.err=2:=by
 unfold Tn.err;rw[ajf];rintro⟨h1,h2⟩;rw[h1]at h;cases hh:x.half
 ·rw[hh]at h;cases h
 ·rw[hh,h2 hh]at h;cases h
theorem Tn.err_no{x:Tn}(h:cond (!x.t.valid) true (cond x.half (aa .neq (aR x.t.q) 0) false)=false):x.err=0:=by
 unfold Tn.err;rw[ajg];cases hv:x.t.valid
 ·rw[hv]at h;cases h
 ·rw [hv] at h;refine ⟨rfl,fun hh=>?_⟩;rw [hh] at h;have:aR x.t.q = 0:=by simpa [aa] using h
  exact ym this
theorem Tn.ok_valid{x:Tn}(h:x.err=0):x.t.valid=true:=by
 unfold Tn.err at h;split at h
 ·rename_i h1;exact h1.1
 ·cases h
structure Plc where
  x:Rt
  y:Rt
def Plc.av(p:Plc):AV:=.agg [bl p.x.neg,ws p.x.num,ws p.x.den,bl p.y.neg,ws p.y.num,ws p.y.den]
structure Pse where
  turn:Tn
  at_:Plc
def Pse.av(p:Pse):AV:=.agg [bl p.turn.t.neg,ws p.turn.t.num,ws p.turn.t.den,bl p.turn.half,bl p.at_.x.neg,ws p.at_.x.num,ws p.at_.x.den,bl p.at_.y.neg,ws p.at_.y.num,ws p.at_.y.den]
def Pse.ok(p:Pse):Bool:=decide (p.turn.err=0)&&p.at_.x.valid&&p.at_.y.valid
theorem mG(a b:Bool):cond a b false=(a&&b):=by cases a <;> rfl
theorem Q2{x:Blk}(hx:x.nm=[]){k:Nat}(h:x.Names k):False:=by
 have:=h.mem;rw[hx]at this;cases this
theorem MI{ext:Nat->Prop}{k d:Nat}{x:Blk}{m m2:Nat->Option Nat}{w:ajt}(hx:x.nm=[])(h:m2 d=m k)(hr:HeapRel ext [(k,some x)] m w):HeapRel ext [(d,some x)] m2 w:=by
 refine⟨?_,?_,?_⟩
 ·intro k' z hz;obtain⟨rfl,h9⟩:=ic hz;cases h9;have h1:=hr.blk k _ (by rw[aA,ajg rfl]);rw[mM h (y:=x) (x:=x)];exact BlkRep.mono (w:=w) (fun _ _ h=>h) (fun _ _ h=>h) (fun _ _ hn=>(Q2 hx hn).elim) h (fun _ _=>rfl) h1
 ·intro k1 k2 z z' b h1 h2 _ _;rw[(ic h1).1,(ic h2).1]
 ·intro k' z b hz hb;obtain⟨rfl,h9⟩:=ic hz;cases h9;exact hr.sep k _ b (by rw[aA,ajg rfl]) (h▸hb)
theorem Con.rekeyB{P:ajs}{f:FuncId}{k off:Nat}{x x':Blk}{xs:List AV}{r:AV}(d:Nat)(hx:x.nm=[])(hx':x'.nm=[])(jP:(xs.all fun x=>x.nm.isEmpty)=true)(hr:r.nm=[])
  (h:Con P f (.ptr k off::xs) [(k,some x)] r [(k,some x')]):Con P f (.ptr d off::xs) [(d,some x)] r [(d,some x')]:=by
 refine⟨h.ok,?_⟩;intro ext m w vs hext bX cM dl
 have h1 := h.ret ext (fun _ => m d) w vs hext (MI (k := d) hx rfl bX) (by simpa using cM) (by
  intro j v y hv hy;rw[mM (d:=k) (k:=d) (y:=x) (x:=x) (m2:=fun _=>m d) (m:=m) rfl]
  match j,hy with
  |0,hy =>
   cases hy;have h2:=dl 0 v _ hv rfl;cases h2 with
   |ptr hm=>exact .ptr hm
  |j+1,hy =>
   have h2:=dl (j+1) v y hv hy;refine nU ?_ h2;have:=aif.1 jP y (ah3 hy);simpa using this)
 refine Calls.mono h1 ?_;rintro e w' ⟨v,m',rfl,hf,hh,hn,hk,aS⟩
 have ho:aO [(k,some x)] (fun _=>m d)=aO [(d,some x)] m:=by
  funext b;apply propext;rw[mI,mI]
 refine⟨v,fun _=>m' k,rfl,ho▸hf,MI (k:=k) hx' rfl hh,?_,?_,?_⟩
 ·intro k' x b hx hb;rw[<- ho];exact hn k _ b (by rw[aA,ajg rfl]) hb
 ·intro k' x y hx hy;obtain⟨rfl,_⟩:=ic hx;exact hk k _ _ (by rw[aA,ajg rfl]) (by rw[aA,ajg rfl])
 ·rw[mM (d:=d) (k:=k) (y:=x') (x:=x') (m2:=fun _=>m' k) (m:=m') rfl];exact nU hr aS
structure Nm(n e:Nat)(l:List Rat):Prop where
  five:n<=5
  nl:Nl n l
  cb:Cb e l
theorem Nm.mono{n e f:Nat}{l:List Rat}(h:Nm n e l)(hf:e<=f):Nm n f l:=⟨h.five,h.nl,h.cb.mono hf⟩
theorem Nm.rt{n e:Nat}{l:List Rat}(h:Nm n e l)(he:e<=lm n):NR (l.map Go.Lw.rt) e:=by
 have hlm:=ZJ n;refine⟨?_,by have:=h.nl.len5 h.five;rw[ah6];omega,by rw[J6];exact h.cb⟩;intro x hx;obtain⟨q,hq,rfl⟩:=af0.1 hx;exact(h.cb.qs oz hq).ok
theorem Nm.chk{n e:Nat}{l:List Rat}(h:Nm n e l):jb n (l.map Go.Lw.rt)=0:=tX h.nl
theorem Nm.add{n e f:Nat}{a b:List Rat}(ha:Nm n e a)(hb:Nm n f b):Nm n (e+f+1) (sh n (T.add n (ao n a) (ao n b))):=by
 refine⟨ha.five,iI _ _,?_⟩;rw[<- q8];exact(ha.cb.plus hb.cb).sh (Nu ha.nl hb.nl)
theorem Nm.neg{n e:Nat}{a:List Rat}(ha:Nm n e a):Nm n e (sh n (T.neg n (ao n a))):=by
 refine⟨ha.five,iI _ _,?_⟩;rw[<- y7];exact ha.cb.minus.sh (M0 ha.nl)
theorem Nm.sub{n e f:Nat}{a b:List Rat}(ha:Nm n e a)(hb:Nm n f b):Nm n (e+f+1) (sh n (T.add n (ao n a) (T.neg n (ao n b)))):=by
 refine⟨ha.five,iI _ _,?_⟩;rw[<- y7,<- q8];exact(ha.cb.plus hb.cb.minus).sh (Nu ha.nl (M0 hb.nl))
abbrev kB(r n:Nat):Nat:=eB r n
theorem Nm.mul{ts:LL}{r n e f:Nat}(tw:Tw ts r)(hn:n=ts.length){a b:List Rat}(ha:Nm n e a)(hb:Nm n f b):Nm n (e+f+kB r n) (sh n (T.mul (aD ts) n (ao n a) (ao n b))):=by
 subst hn;refine⟨ha.five,iI _ _,?_⟩;have h1:=iY ts ts.length tw.ok.1 ts.length ts.length a b (aie _) (aie _) ha.nl hb.nl;have h2:=Cb.mul tw.ok (k:=ts.length) (aie ts.length) (aie _) ha.nl hb.nl ha.cb hb.cb;rw[<- h1.2];exact h2.sh h1.1
theorem Nm.ofQ{n e:Nat}(hn:n<=5){q:Rat}(h:Cb e [q]):Nm n e (sh 0 (q:Rat)):=by
 refine⟨hn,(iI 0 q).mono (aii _),?_⟩;have:=h.sh (k:=0) (.inr ⟨0,aie _,rfl⟩);exact this
theorem Cb.one{e:Nat}{q:Rat}(h:Qb e q):Cb e [q]:=by
 refine⟨q.den,q.num.natAbs,⟨by have:=q.den_nz;omega,?_⟩,aea h.2,aea h.1⟩;intro x hx;rw[afr.1 hx];refine⟨q.num,?_,aie _⟩
 have hd:((q.den:Int):Rat)≠0:=by
  intro h0;have:(q.den:Int)=0:=ag6.1 h0;have:=q.den_nz;omega
 have hq:q=(q.num:Rat)/((q.den:Int):Rat):=by
  rw[<- Rat.divInt_eq_div,ag2]
 have h1:(q.num:Rat)/((q.den:Int):Rat)*((q.den:Int):Rat)=(q.num:Rat):=Rat.div_mul_cancel hd;rw[<- hq]at h1;exact h1
theorem tN(n:Nat)(q:Rat):ao n (sh 0 (q:Rat))=T.ofQ n q:=by
 show ao n (if q=0 then[]else[q])=_;split
 ·rename_i h;subst h;rw[oK]
  induction n with
  |zero=>rfl
  |succ n ih=>simp only[T.zero,T.ofQ,ih]
 ·exact qw n q
def Oz(x y:List Rat):AV:=.agg [nA x,nA y]
theorem d8{s:AS}{k:Nat}{x:Blk}(h:lk s.hp k=some x):∀k' z,lk [(k,some x)] k'=some z->lk s.hp k'=some z:=by
 intro k' z hz;obtain⟨rfl,h9⟩:=ic hz;cases h9;exact h
def CP(ts:LL)(a b c d:T ts.length):T ts.length:=T.add ts.length (T.mul (aD ts) ts.length a c) (T.mul (aD ts) ts.length b d)
def BS(ts:LL)(a b c d:T ts.length):T ts.length:=T.add ts.length (T.mul (aD ts) ts.length a d) (T.neg ts.length (T.mul (aD ts) ts.length b c))
theorem abb{ts:LL}{a b c d:T ts.length}:T.add ts.length (ao ts.length (sh ts.length (T.mul (aD ts) ts.length a c))) (ao ts.length (sh ts.length (T.mul (aD ts) ts.length b d)))=CP ts a b c d:=by
 rw[dY,dY];rfl
theorem V4{ts:LL}{a b c d:T ts.length}:T.add ts.length (ao ts.length (sh ts.length (T.mul (aD ts) ts.length a d))) (T.neg ts.length (ao ts.length (sh ts.length (T.mul (aD ts) ts.length b c))))=BS ts a b c d:=by
 rw[dY,dY];rfl
abbrev subT(ts:LL)(x y:T ts.length):T ts.length:=T.add ts.length x (T.neg ts.length y)
theorem Qm{ts:LL}{r e f:Nat}(tw:Tw ts r){a b c d:List Rat}(ha:Nm ts.length e a)(hb:Nm ts.length e b)(hc:Nm ts.length f c)(hd:Nm ts.length f d) :
  Nm ts.length (2*(e+f+kB r ts.length)+1) (sh ts.length (CP ts (ao ts.length a) (ao ts.length b) (ao ts.length c) (ao ts.length d))):=by
 have h:=(ha.mul tw rfl hc).add (hb.mul tw rfl hd);rw[abb]at h;exact h.mono oz
theorem RC{ts:LL}{r e f:Nat}(tw:Tw ts r){a b c d:List Rat}(ha:Nm ts.length e a)(hb:Nm ts.length e b)(hc:Nm ts.length f c)(hd:Nm ts.length f d) :
  Nm ts.length (2*(e+f+kB r ts.length)+1) (sh ts.length (BS ts (ao ts.length a) (ao ts.length b) (ao ts.length c) (ao ts.length d))):=by
 have h:=(ha.mul tw rfl hd).sub (hb.mul tw rfl hc);rw[V4]at h;exact h.mono oz
def DB(ts:LL)(cos sin x y:T ts.length):T ts.length:=BS ts cos sin y x
def DU(ts:LL)(cos sin x y:T ts.length):T ts.length:=CP ts sin cos x y
theorem Y9{ts:LL}{r e f:Nat}(tw:Tw ts r){a b c d:List Rat}(ha:Nm ts.length e a)(hb:Nm ts.length e b)(hc:Nm ts.length f c)(hd:Nm ts.length f d) :
  Nm ts.length (2*(e+f+kB r ts.length)+1) (sh ts.length (DB ts (ao ts.length a) (ao ts.length b) (ao ts.length c) (ao ts.length d))):=RC tw ha hb hd hc
theorem P9{ts:LL}{r e f:Nat}(tw:Tw ts r){a b c d:List Rat}(ha:Nm ts.length e a)(hb:Nm ts.length e b)(hc:Nm ts.length f c)(hd:Nm ts.length f d) :
  Nm ts.length (2*(e+f+kB r ts.length)+1) (sh ts.length (DU ts (ao ts.length a) (ao ts.length b) (ao ts.length c) (ao ts.length d))):=Qm tw hb ha hc hd
def Jh(ts:LL)(cos sin X:T ts.length)(x y:Rat):T ts.length:=T.add ts.length (DB ts cos sin (T.ofQ ts.length x) (T.ofQ ts.length y)) X
def JQ(ts:LL)(cos sin Y:T ts.length)(x y:Rat):T ts.length:=T.add ts.length (DU ts cos sin (T.ofQ ts.length x) (T.ofQ ts.length y)) Y
theorem acs{ts:LL}{cos sin X:T ts.length}{x y:Rat}:T.add ts.length (ao ts.length (sh ts.length (DB ts cos sin (ao ts.length (sh 0 (x:Rat))) (ao ts.length (sh 0 (y:Rat)))))) X=Jh ts cos sin X x y:=by
 rw[dY,tN,tN];rfl
theorem Y6{ts:LL}{cos sin Y:T ts.length}{x y:Rat}:T.add ts.length (ao ts.length (sh ts.length (DU ts cos sin (ao ts.length (sh 0 (x:Rat))) (ao ts.length (sh 0 (y:Rat)))))) Y=JQ ts cos sin Y x y:=by
 rw[dY,tN,tN];rfl
def AY(ts:LL)(x y:T ts.length):Bool:=decide (T.sgn (aD ts) ts.length (subT ts x y)=0)
theorem BE{n:Int}(h:-9223372036854775808<=n/\n<=9223372036854775807):Qs ((n:Rat)):=by
 refine⟨2,by unfold fQ;omega,?_,?_⟩
 ·unfold Lz;simp only[Rat.num_intCast,Nat.reducePow];omega
 ·unfold Lz;simp only[Rat.den_intCast];decide
def dN(s:ByteArray)(i:Nat):Nat:=(s.data.getD i 0).toNat
def e8(c:Nat):Bool:=decide (97<=c/\c<=122)||decide (65<=c/\c<=90)
def tR(c:Nat):Bool:=decide (48<=c/\c<=57)
def lQ(c:Nat):Bool:=e8 c||tR c||decide (c=95)
def pf(s:ByteArray):Nat->Nat->Bool
  |_,0=>true
  |i,n+1=>lQ (dN s i)&&pf s (i+1) n
def iZ(s:ByteArray):Bool:=decide (0<s.size/\s.size<=24)&&e8 (dN s 0)&&pf s 0 s.size
def fD(s:ByteArray):Nat->Nat->Nat
  |i,0=>i
  |i,n+1=>if lQ (dN s i)then fD s (i+1) n else i
theorem Nw(s:ByteArray):∀(n i:Nat),i<=fD s i n/\fD s i n<=i+n
 |0,i=>⟨aie _,aie _⟩
 |n+1,i=>by
  simp only[fD];split
  ·have:=Nw s n (i+1);omega
  ·omega
theorem Ei(s:ByteArray):∀(n i:Nat),fD s i n=i+n↔pf s i n=true
 |0,i=>by simp[fD,pf]
 |n+1,i=>by
  simp only[fD,pf,ah7];split
  ·rename_i h;rw[<- Ei s n (i+1),show i+(n+1)=i+1+n by omega];simp[h]
  ·rename_i h;constructor
   ·intro h';omega
   ·intro h';exact ajm h'.1 h
theorem XN{c:Nat}(h:e8 c=true):lQ c=true:=by unfold lQ;rw[h];rfl
def fv(s:ByteArray):Nat:=if 0<s.size/\e8 (dN s 0)=true then fD s 1 (s.size-1)else 0
theorem VB(s:ByteArray):iZ s=decide (0<fv s/\fv s=s.size/\fv s<=24):=by
 unfold iZ fv;rw[ahf];simp only[ah7,ajh]
 by_cases h:0<s.size/\e8 (dN s 0)=true
 ·rw[ajg h];obtain⟨h1,h2⟩:=h;have h3:=Ei s (s.size-1) 1
  have h4:pf s 0 s.size=pf s 1 (s.size-1):=by
   obtain⟨n,hn⟩:∃n,s.size=n+1:=⟨s.size-1,by omega⟩
   rw[hn];simp only[pf,XN h2,ahg,aef]
  have h5:=Nw s (s.size-1) 1;rw[h4,<- h3];constructor
  ·rintro⟨⟨h6,h7⟩,h8⟩;omega
  ·rintro⟨h6,h7,h8⟩;exact⟨⟨by omega,h2⟩,by omega⟩
 ·rw[ajf h];constructor
  ·rintro⟨⟨h1,h2⟩,h3⟩;exact ajm ⟨h1.1,h2⟩ h
  ·rintro⟨h1,_⟩;omega
theorem QU(s:ByteArray)(h0:0<s.size)(h24:s.size<=24):iZ s=decide ((if e8 (dN s 0)then fD s 0 s.size else 0)=s.size):=by
 unfold iZ;rw[ahf];simp only[ah7,ajh];have h3:=Ei s s.size 0;rw[ae9]at h3
 by_cases h:e8 (dN s 0)=true
 ·rw[ajg h,h3];exact⟨fun h=>h.2,fun h'=>⟨⟨⟨h0,h24⟩,h⟩,h'⟩⟩
 ·rw[ajf h];exact⟨fun h'=>ajm h'.1.2 h,fun h'=>by omega⟩
def dB(a b:ByteArray):Bool:=a.toList==b.toList
def er(n:Nat)(err:Nat->Nat):Nat:=ir ((List.range n).map err)
theorem d6{n i:Nat}{err:Nat->Nat}(hi:i<n)(h:∀j,j<i->err j=0)(he:err i≠0):er n err=err i:=by
 unfold er
 have e:List.range n=List.range i++(i::(List.range' (i+1) (n-(i+1)))):=by
  obtain⟨d,rfl⟩:∃d,n=i+(d+1):=⟨n-i-1,by omega⟩
  rw[List.range_eq_range',List.range_eq_range',<- List.range'_append_1,ae9,List.range'_succ,show i+(d+1)-(i+1)=d by omega]
 rw[e,ai4,M7 _ _ (zM (fun x hx=>by
  obtain⟨j,hj,rfl⟩:=af0.1 hx;exact h j (afy.1 hj)))]
 show(if err i≠0 then err i else _)=_;rw[ajg he]
theorem pE{n:Nat}{err:Nat->Nat}(h:∀j,j<n->err j=0):er n err=0 :=
 zM (fun x hx=>by obtain⟨j,hj,rfl⟩:=af0.1 hx;exact h j (afy.1 hj))
theorem w9{n:Nat}{err:Nat->Nat}(h:er n err=0):∀j,j<n->err j=0:=fun j hj =>
 tM h _ (af0.2 ⟨j,afy.2 hj,rfl⟩)
structure Mk where
  name:ByteArray
  x:Rt
  y:Rt
instance:Inhabited Mk:=⟨⟨default,⟨false,[],[]⟩,⟨false,[],[]⟩⟩⟩
def Mk.av(m:Mk):AV:=.agg [.v (.string m.name),bl m.x.neg,ws m.x.num,ws m.x.den,bl m.y.neg,ws m.y.num,ws m.y.den]
structure Bd where
  name:ByteArray
  pts:List Mk
instance:Inhabited Bd:=⟨⟨default,[]⟩⟩
def Bd.av(b:Bd):AV:=.agg [.v (.string b.name),.lst 7 (b.pts.map Mk.av)]
structure Jt where
  name:ByteArray
  kind:Int
  a:Int
  point:Int
  b:Int
  on:Int
  to:Int
instance:Inhabited Jt:=⟨⟨default,0,0,0,0,0,0⟩⟩
def Jt.av(j:Jt):AV:=.agg [.v (.string j.name),i64 j.kind,i64 j.a,i64 j.point,i64 j.b,i64 j.on,i64 j.to]
structure Dr where
  name:ByteArray
  body:Int
instance:Inhabited Dr:=⟨⟨default,0⟩⟩
def Dr.av(d:Dr):AV:=.agg [.v (.string d.name),i64 d.body]
structure Li where
  name:ByteArray
  bo:List Bd
  jo:List Jt
  drivers:List Dr
def Li.av(l:Li):AV:=.agg [.v (.string l.name),.lst 2 (l.bo.map Bd.av),.lst 7 (l.jo.map Jt.av),.lst 2 (l.drivers.map Dr.av)]
structure Mk.ok(m:Mk):Prop where
  x:m.x.ok
  y:m.y.ok
  qx:Qb 1000 m.x.q
  qy:Qb 1000 m.y.q
structure Bd.ok(b:Bd):Prop where
  pts:∀m∈b.pts,m.ok
  names:∀m∈b.pts,m.name.size<=281474976710656
  ll:b.pts.length<=281474976710656
  name:b.name.size<=281474976710656
structure Li.ok(l:Li):Prop where
  name:l.name.size<=281474976710656
  bo:∀b∈l.bo,b.ok
  jnames:∀j∈l.jo,j.name.size<=281474976710656
  dnames:∀d∈l.drivers,d.name.size<=281474976710656
  lb:l.bo.length<=281474976710656
  lj:l.jo.length<=281474976710656
  ld:l.drivers.length<=281474976710656
def fP(l:List ByteArray)(i:Nat):Bool:=(l.take i).any (fun n=>dB n (l.getD i default))
def dP(ps:List Mk)(i:Nat):Nat :=
  if iZ (ps.getD i default).name=false then 5 else if fP (ps.map Mk.name) i=true then 6
  else if(ps.getD i default).x.valid=true/\(ps.getD i default).y.valid=true then 0 else 3
def eh(bs:List Bd)(i:Nat):Nat :=
  if iZ (bs.getD i default).name=false then 5 else if fP (bs.map Bd.name) i=true then 6
  else if 8<(bs.getD i default).pts.length then 4 else er (bs.getD i default).pts.length (dP (bs.getD i default).pts)
def aX(i:Int)(n:Nat):Bool:=decide (0<=i/\i<n)
def bV(l:Li)(i:Int):List Mk:=(l.bo.getD i.toNat default).pts
def ew(l:Li)(j:Jt):Nat :=
  if j.kind≠0/\j.kind≠1 then 7
  else if aX j.a l.bo.length=false\/aX j.b l.bo.length=false then 9
  else if j.a=j.b then 13
  else if aX j.point (bV l j.a).length=false\/aX j.on (bV l j.b).length=false then 9
  else if j.kind=0 then(if j.to≠0 then 2 else 0)
  else if aX j.to (bV l j.b).length=false then 9
  else if((bV l j.b).getD j.on.toNat default).x.q=((bV l j.b).getD j.to.toNat default).x.q/\((bV l j.b).getD j.on.toNat default).y.q=((bV l j.b).getD j.to.toNat default).y.q then 8
  else 0
def gh(l:Li)(i:Nat):Nat :=
  if iZ (l.jo.getD i default).name=false then 5 else if fP (l.jo.map Jt.name) i=true then 6 else ew l (l.jo.getD i default)
def dH(l:Li)(i:Nat):Nat :=
  if iZ (l.drivers.getD i default).name=false then 5 else if fP (l.drivers.map Dr.name) i=true then 6
  else if aX (l.drivers.getD i default).body l.bo.length=false then 9
  else if(l.drivers.getD i default).body=0 then 7
  else if(l.drivers.take i).any (fun d=>decide (d.body=(l.drivers.getD i default).body))=true then 6 else 0
def il(l:Li):Nat:=er l.bo.length (eh l.bo)
def ez(l:Li):Nat:=if 16<l.jo.length then 4 else er l.jo.length (gh l)
def gK(l:Li):Nat:=if 2<l.drivers.length then 4 else er l.drivers.length (dH l)
def ax(l:Li):Nat :=
  if iZ l.name=false then 5 else if l.bo.length=0 then 10 else if 8<l.bo.length then 4
  else if il l≠0 then il l else if ez l≠0 then ez l else gK l
theorem aP{α:Type}{l:List α}{i:Nat}{x d:α}(h:l[i]?=some x):l.getD i d=x:=by rw[ah4,h];rfl
theorem ph{α:Type}(f:α->ByteArray){l:List α}{i:Nat}{x:α}(h:l[i]?=some x):fP (l.map f) i=(l.take i).any (fun y=>dB (f y) (f x)):=by
 unfold fP;have h1:(l.map f).getD i default=f x:=aP (by rw[aib,h];rfl);rw[h1,<- map_take,List.any_map];rfl
theorem lJ{α:Type}{p:α->Bool}{l:List α}{k:Nat}{x:α}(h:l[k]?=some x)(hn:(l.take k).any p=false)(hp:p x=false):(l.take (k+1)).any p=false:=by
 rw[g9 h,List.any_append,hn];simp[hp]
theorem mo{α:Type}{p:α->Bool}{l:List α}{k i:Nat}{x:α}(h:l[k]?=some x)(hk:k<i)(hp:p x=true):(l.take i).any p=true:=by
 rw[List.any_eq_true];exact⟨x,ah3 (by rw[ai1,ajg hk];exact h),hp⟩
theorem Nj(s:ByteArray):(s.toList==ByteArray.toList ⟨#[]⟩)=decide (s.size=0):=by
 have e:ByteArray.toList ⟨#[]⟩=[]:=Go.ByteArray.toList_eq _;have h:s.toList.length=s.size:=by rw[Go.ByteArray.toList_eq];cases s;rfl
 rw[e,ahf,beq_iff_eq,ajh];constructor
 ·intro h';rw[h']at h;simpa using h.symm
 ·intro h';exact af2 oz
theorem Iu{s:ByteArray}(h:(s.toList==ByteArray.toList ⟨#[]⟩)=false):0<s.size:=by
 rw[Nj,decide_eq_false_iff_not]at h;omega
theorem aI{a b:Nat}(h:aa .lss (a:Int) (b:Int)=true):a<b:=by
 have:(a:Int)<b:=aji h;omega
theorem qt{a b:Nat}(h:aa .lss (a:Int) (b:Int)=false):b<=a:=by
 have:¬(a:Int)<b:=ajj h;omega
theorem Vt{a b:Nat}{p:Bool}(h:cond (aa .lss (a:Int) (b:Int)) p false=true):a<b/\p=true:=by
 cases h1:aa .lss (a:Int) (b:Int)
 ·rw[h1]at h;cases h
 ·rw[h1]at h;exact⟨aI h1,h⟩
theorem VP{a b:Nat}{p:Bool}(h:cond (aa .lss (a:Int) (b:Int)) p false=false):a<b->p=false:=by
 intro h0;have h1:aa .lss (a:Int) (b:Int)=true:=ajk (by omega:(a:Int)<b);rw[h1]at h;exact h
theorem Uy{s:ByteArray}(h:cond (s.toList==ByteArray.toList ⟨#[]⟩) true (!e8 (dN s 0))=true):fv s=0:=by
 unfold fv;rw[ajf];rintro⟨h1,h2⟩;rw[Nj,ajl oz,h2]at h;cases h
theorem YU{s:ByteArray}(h:cond (s.toList==ByteArray.toList ⟨#[]⟩) true (!e8 (dN s 0))=false):0<s.size/\e8 (dN s 0)=true:=by
 cases h1:(s.toList==ByteArray.toList ⟨#[]⟩)
 ·rw[h1]at h;exact⟨Iu h1,by simpa using h⟩
 ·rw[h1]at h;cases h
theorem Ou{s:ByteArray}{i:Nat}(h:s.size<=i):dN s i=0:=by
 unfold dN;have:s.data.size<=i:=h;simp[aic,ahp this]
theorem VO(s:ByteArray):cond (cond (aa .gtr (fv s:Int) 0) (aa .eql (fv s:Int) (s.size:Int)) false) (aa .leq (fv s:Int) 24) false=iZ s:=by
 rw[VB,ahf,ajh];cases h1:aa .gtr (fv s:Int) 0
 ·have:¬(fv s:Int)>0:=ajj h1;simp;omega
 ·have h1:(fv s:Int)>0:=aji h1;cases h2:aa .eql (fv s:Int) (s.size:Int)
  ·have : (fv s : Int) ≠ s.size := by simpa [aa] using h2
   simp;omega
  ·have h2:(fv s:Int)=s.size:=eq_of_beq h2
   have h3:aa .leq (fv s:Int) 24=true↔fv s<=24:=by
    show decide ((fv s:Int)<=24)=true↔_;rw[ajh];omega
   simp only[cond_true,h3];omega
theorem aan(s:ByteArray):cond (cond (aa .gtr (s.size:Int) 0) (aa .leq (s.size:Int) 24) false) (aa .eql (((if e8 (dN s 0)then fD s 0 s.size else 0:Nat)):Int) (s.size:Int)) false=iZ s:=by
 cases h1:aa .gtr (s.size:Int) 0
 ·have h1:¬(s.size:Int)>0:=ajj h1;unfold iZ;rw[ajl (show ¬(0<s.size/\s.size<=24) by omega)];rfl
 ·have h1:(s.size:Int)>0:=aji h1;cases h2:aa .leq (s.size:Int) 24
  ·have h2:¬(s.size:Int)<=24:=ajj h2;unfold iZ;rw[ajl (show ¬(0<s.size/\s.size<=24) by omega)];rfl
  ·have h2:(s.size:Int)<=24:=aji h2;rw[QU s oz oz];simp only[cond_true];rw[ahf,ajh];generalize(if e8 (dN s 0)=true then fD s 0 s.size else 0)=m;show(((m:Int)==(s.size:Int))=true)↔_;rw[beq_iff_eq];omega
theorem xk{α:Type}(sz:Nat)(f:α->AV)(l:List α)(n:Nat):AV.lst sz (((l.map f).drop 0).take (n-0))=.lst sz ((l.take n).map f):=by
 rw[Nat.sub_zero,ai9,map_take]
theorem xd{α:Type}{l:List α}{i k:Nat}{x:α}(h:(l.take i)[k]?=some x):l[k]?=some x/\k<i:=by
 rw[ai1]at h;split at h
 ·rename_i hk;exact⟨h,hk⟩
 ·cases h
theorem JP(i:Int)(n:Nat):cond (aa .geq i 0) (aa .lss i (n:Int)) false=aX i n:=by
 unfold aX;rw[ahf,ajh];cases h:aa .geq i 0
 ·have:¬i>=0:=ajj h;simp;omega
 ·have h:i>=0:=aji h;show decide (i<(n:Int))=true↔_;rw[ajh];omega
theorem dM{i:Int}{n:Nat}(h:aX i n=true):0<=i/\i<n:=aji h
theorem rh{p q:Bool}(h:cond (!p) true (!q)=true):p=false\/q=false:=by cases p <;> cases q <;> simp_all
theorem rz{p q:Bool}(h:cond (!p) true (!q)=false):p=true/\q=true:=by cases p <;> cases q <;> simp_all
theorem dR{p:Bool}(h:(!p)=true):p=false:=by cases p <;> simp_all
theorem eK{p:Bool}(h:(!p)=false):p=true:=by cases p <;> simp_all
theorem dU{a b:Nat}(h:aa .gtr (a:Int) (b:Int)=true):b<a:=by
 have:(a:Int)>b:=aji h;omega
theorem jT{a b:Nat}(h:aa .gtr (a:Int) (b:Int)=false):a<=b:=by
 have:¬(a:Int)>b:=ajj h;omega
theorem aV{a b:Nat}(bB:a<=b)(h:aa .lss (a:Int) (b:Int)=false):a=b:=by have:=qt h;omega
theorem dZ{x y:Int}(h:aa .eql x y=true):x=y:=by simpa[aa]using h
theorem dw{x y:Int}(h:aa .eql x y=false):x≠y:=by simpa[aa]using h
theorem Ad{x y:Int}(h:aa .neq x y=true):x≠y:=by simpa[aa]using h
theorem JL{x y:Int}(h:aa .neq x y=false):x=y:=by simpa[aa]using h
theorem Ki{k:Int}(h:cond (aa .neq k 0) (aa .neq k 1) false=true):k≠0/\k≠1:=by
 cases h1:aa .neq k 0
 ·rw[h1]at h;cases h
 ·rw[h1]at h;exact⟨Ad h1,Ad h⟩
theorem HC{k:Int}(h:cond (aa .neq k 0) (aa .neq k 1) false=false):¬(k≠0/\k≠1):=by
 rintro⟨h1,h2⟩;have e1:aa .neq k 0=true:=by simpa[aa]using h1
 have e2:aa .neq k 1=true:=by simpa[aa]using h2
 rw[e1,e2]at h;cases h
theorem H8{p q r s:Rat}(h:cond (aa .eql (aR (p-q)) 0) (aa .eql (aR (r-s)) 0) false=true):p=q/\r=s:=by
 cases h1:aa .eql (aR (p-q)) 0
 ·rw[h1]at h;cases h
 ·rw[h1]at h;have e1:=ym (dZ h1);have e2:=ym (dZ h);exact⟨by grind,by grind⟩
theorem Kw{p q r s:Rat}(h:cond (aa .eql (aR (p-q)) 0) (aa .eql (aR (r-s)) 0) false=false):¬(p=q/\r=s):=by
 rintro⟨rfl,rfl⟩;rw[Rat.sub_self,Rat.sub_self]at h;cases h
theorem sS{l:Li}{i:Int}(h:aX i l.bo.length=true):∃b,l.bo[i.toNat]?=some b/\bV l i=b.pts/\b∈l.bo/\0<=i:=by
 have h1:=dM h;obtain⟨b,hb⟩:=aB (l:=l.bo) (i:=i.toNat) oz;exact⟨b,hb,by unfold bV;rw[aP hb],ah3 hb,h1.1⟩
theorem vh{ps:List Mk}{i:Int}(h:aX i ps.length=true):∃m,ps[i.toNat]?=some m/\ps.getD i.toNat default=m/\m∈ps/\0<=i:=by
 have h1:=dM h;obtain⟨m,hm⟩:=aB (l:=ps) (i:=i.toNat) oz;exact⟨m,hm,aP hm,ah3 hm,h1.1⟩
theorem sf{x y:Int}:aa .eql x y=decide (x=y):=by
 show(x==y)=decide (x=y);rw[ahf,beq_iff_eq,ajh]
theorem GU{n:Nat}(h:aa .eql (n:Int) 0=true):n=0:=by have:=dZ h;omega
theorem JB{n:Nat}(h:aa .eql (n:Int) 0=false):n≠0:=by have:=dw h;omega
theorem Sc{p q r s:Rat}:cond (aa .eql (aR (p-q)) 0) (aa .eql (aR (r-s)) 0) false=decide (p=q/\r=s):=by
 cases h:cond (aa .eql (aR (p-q)) 0) (aa .eql (aR (r-s)) 0) false
 ·exact(ajl (Kw h)).symm
 ·exact(ajk (H8 h)).symm
def Rt.wok(r:Rt):Prop:=Ws r.num/\Ws r.den
theorem Rt.wok.ok{r:Rt}{k:Nat}(h:r.wok)(hn:r.num.length<=k)(hd:r.den.length<=k)(hk:k<=100):r.ok:=⟨h.1,h.2,by unfold fQ;omega,by unfold fQ;omega⟩
theorem Rt.ok.wok{r:Rt}(h:r.ok):r.wok:=⟨h.1,h.2.1⟩
def qF(l:List (List Rt)):Prop:=∀x∈l,(∀r∈x,r.wok)/\x.length<=281474976710656
theorem qF.app{a b:List (List Rt)}(ha:qF a)(hb:qF b):qF (a++b):=fun x hx=>by
 rcases aia.1 hx with h |h
 ·exact ha x h
 ·exact hb x h
structure Pl where
  c:List Rt
  s:List Rt
  x:List Rt
  y:List Rt
instance:Inhabited Pl:=⟨⟨[],[],[],[]⟩⟩
def Pl.av(p:Pl):AV:=.agg [nR p.c,nR p.s,nR p.x,nR p.y]
def Pl.l(p:Pl):List (List Rt):=[p.c,p.s,p.x,p.y]
structure As where
  rs:List (List Rt)
  bs:List Pl
  ms:List Int
def As.av(a:As):AV:=.agg [.lst 1 (a.rs.map nR),.lst 4 (a.bs.map Pl.av),.lst 1 (a.ms.map i64)]
structure As.ok(a:As):Prop where
  rs:qF a.rs
  rl:a.rs.length<=281474976710656
  bs:∀b∈a.bs,qF b.l
  bl:a.bs.length<=281474976710656
structure AB(a:As):Prop where
  tr:TR a.rs 400000000
  nr:∀b∈a.bs,∀x∈b.l,NR x 50000000000
  ll:a.rs.length<=8
  bl:a.bs.length<=30
theorem RB.mono{r r':Nat}{ts:LL}(h:RB r ts)(hr:r<=r'):RB r' ts:=by
 obtain⟨D,N,h0,h1,h2,h3⟩:=h;exact⟨D,N,h0,h1,aiw h2 (ef hr),aiw h3 (ef hr)⟩
theorem TR.mono{rs:List (List Rt)}{r r':Nat}(h:TR rs r)(hr:r<=r')(hl:r'<=5000000000):TR rs r':=⟨h.ok,h.len,h.ll,h.rb.mono hr,hl,h.three⟩
theorem NR.mono{x:List Rt}{e f:Nat}(h:NR x e)(hf:e<=f):NR x f:=⟨h.ok,h.len,h.cb.mono hf⟩
theorem rx{α:Type}{l:List α}{p:α->Bool}{i:Nat}{x:α}(h:(l.take i).all p=true)(hx:l[i]?=some x)(hp:p x=true):(l.take (i+1)).all p=true:=by
 rw[g9 hx,all_append,h];simp[hp]
theorem sj{α:Type}{l:List α}{p:α->Bool}{i:Nat}{x:α}(hx:l[i]?=some x)(hp:p x=false):l.all p=false:=by
 refine ahb.2 (fun h=>?_);rw[aif]at h;rw[h x (ah3 hx)]at hp;cases hp
theorem rv{α:Type}{l:List α}{p:α->Bool}{i:Nat}(hi:i=l.length)(h:(l.take i).all p=true):l.all p=true:=by
 rw[hi,ail]at h;exact h
structure Li.okw(l:Li):Prop where
  name:l.name.size<=281474976710656
  pts:∀b∈l.bo,b.name.size<=281474976710656/\b.pts.length<=281474976710656/\∀m∈b.pts,m.name.size<=281474976710656/\m.x.wok/\m.y.wok
  jnames:∀j∈l.jo,j.name.size<=281474976710656
  dnames:∀d∈l.drivers,d.name.size<=281474976710656
  lb:l.bo.length<=281474976710656
  lj:l.jo.length<=281474976710656
  ld:l.drivers.length<=281474976710656
def zt(m:Mk):Bool:=decide (m.x.num.length<=4/\m.x.den.length<=4/\m.y.num.length<=4/\m.y.den.length<=4)
def yM(b:Bd):Bool:=decide (b.pts.length<=30)&&b.pts.all zt
def BU(l:Li):Bool:=l.bo.all yM&&decide (l.bo.length<=30/\l.jo.length<=60/\l.drivers.length<=30)
theorem WD{m:Mk}(h:zt m=true)(hx':m.x.wok)(hy':m.y.wok):m.ok:=by
 unfold zt at h;rw[ajh]at h;have hx:=hx'.ok h.1 h.2.1 oz;have hy:=hy'.ok h.2.2.1 h.2.2.2 oz;exact⟨hx,hy,(Rt.qb hx (k:=4) oz h.1 h.2.1).mono oz,(Rt.qb hy (k:=4) oz h.2.2.1 h.2.2.2).mono oz⟩
theorem DF{l:Li}(h:BU l=true)(ho:l.okw):l.ok:=by
 unfold BU at h;rw[ah7,aif]at h;refine⟨ho.name,fun b hb=>?_,ho.jnames,ho.dnames,ho.lb,ho.lj,ho.ld⟩;have h1:=h.1 b hb;unfold yM at h1;rw[ah7,aif]at h1;obtain⟨o1,o2,o3⟩:=ho.pts b hb;exact⟨fun m hm=>WD (h1.2 m hm) (o3 m hm).2.1 (o3 m hm).2.2,fun m hm=>(o3 m hm).1,o2,o1⟩
structure Pse.wok(p:Pse):Prop where
  t:p.turn.t.wok
  x:p.at_.x.wok
  y:p.at_.y.wok
theorem Pse.wok.rs{p:Pse}(h:p.wok):qF [[p.turn.t,p.at_.x],[p.at_.y]]:=by
 intro x hx;simp only[aiq,aim,or_false]at hx;rcases hx with rfl |rfl
 ·refine ⟨fun r hr => ?_, by show 2 <= _; omega⟩;simp only [aiq,aim,or_false] at hr;rcases hr with rfl | rfl
  ·exact h.t
  ·exact h.x
 ·refine⟨fun r hr => ?_,by show 1<=_;omega⟩;simp only[aiq,aim,or_false]at hr;subst hr;exact h.y
theorem Fa(a b:Bool):cond a true b=(a||b):=by cases a <;> rfl
open Go.Proofs
theorem Wl{m:List Nat}{n:Nat}(hm:Ws m)(hn:n<=m.length)(hv:val (m.take n)=val m)(h0:n≠0)(hw:aj m (n-1)≠0) :
  AV.fz 24 1 ([]++((m.map u32).drop 0).take (n-0)) (.ms 24 1 0 (0+(((m.map u32).drop 0).take (n-0)).length))=ws (ofNat (val m)):=by
 have h1:m.take n=ofNat (val m):=by
  refine H7 (fun x hx=>hm x (agi hx)) ?_ hv;intro x hx;rw[afw,air,afc hn,ai1,ajg oz,jX oz]at hx;cases hx;exact hw
 rw[qz (by simp),<- h1,ws];simp[map_take,afc hn,agh]
theorem VL(b:Bool)(n:Nat):AV.agg [bl (bif b then aa BinOp.gtr (↑(ofNat n).length) 0 else false),ws (ofNat n)]=zA (sgn b n):=by
 have h1:(sgn b n).natAbs=n:=by unfold sgn;split <;> omega
 unfold zA ofInt Wh.av;dsimp only;rw[h1];congr 3
 have h2:(ofNat n).length=0↔n=0:=by
  rw[af7];constructor
  ·intro h;have:=bN n;rw[h]at this;exact this.symm
  ·intro h;rw[h];rfl
 cases b with
 |false=>simp[sgn]
 |true=>simp[sgn,aa];omega
theorem tV(m:List Nat)(i:Nat)(hm:Ws m):FP 314 [ws m,i64 i] (u64 (aj m i)):=by
 refine ak func314 ?_;refine gl ?_;refine gC (fun z=>?_) (fun z=>?_)
 ·simp[aa]at z;have:=bu hm i;refine gi (bI (i:=i) z) ?_;refine gv (u64_in oz) ?_;refine ah ?_;rfl
 simp[aa]at z;refine ah ?_;simp[u64,sR z]
theorem nJ(m:List Nat)(hm:Ws m)(hb:m.length<=aw):FP 222 [ws m] (ws (ofNat (val m))):=by
 refine ak func222 ?_ (0,0);refine wM (t:=0) rfl (fun hl=>?_);refine go ?_;refine gl ?_;refine aK [0] [] (fun(n:Nat)=>[pP 3 (i64 n)]) (fun _=>[]) (fun n=>n<=m.length/\val (m.take n)=val m) (fun n=>n) m.length ⟨aie _,by rw[ail]⟩ ?_;rintro n ⟨hn,hv⟩ K1 J1;refine kG (fun h=>(gx (by simp[aa]at h;omega) oz)) ?_;refine mS (fun h=>(bI (i:=n-1) (by simp[aa]at h;omega))) ?_;refine gC (fun t15=>?_) (fun t15=>?_)
 ·have t15 : 0 < n /\ aj m (n - 1) = 0 := by simpa [aa] using t15
  refine ga (gx oz oz) ?_;exact aE J1 (n-1) ⟨by omega,by have h:=@cU m (n-1);rw[show n-1+1=n by omega,t15.2]at h;simp at h;omega⟩
 have t15:0<n->aj m (n-1)≠0:=by simpa[aa]using t15
 refine gC (fun z=>?_) (fun z=>?_)
 ·have h0 : n = 0 := by simpa [aa] using z
  subst h0;refine gR ?_;exact lP (by rw[show val m=0 from hv.symm.trans rfl];exact Sub.nil _ _ _)
 have h0:n≠0:=by simpa[aa]using z
 refine gs (qT T42 rfl T87 rfl rfl rfl) ?_;refine gs (eF (.tmp rfl) (.none _) (.some _ (.tmp rfl) oz) T42 rfl T87 rfl oz (by simp;omega) rfl) ?_;refine gs (dX (.tmp rfl) rfl rfl (.tmp rfl) T42 rfl T87 rfl rfl (by unfold aw at hb;simp only[air,agd,ah6];omega) rfl rfl) ?_ (77777,0);refine gW (Wk.freeze (k:=24) rfl) ?_;refine go ?_;refine gR ?_;exact N3 (Wl hm hn hv h0 (t15 oz))
theorem Au(w:Wh)(h:w.ok):FP 203 [w.av] (bl w.valid):=by
 have hl:w.mag.length<=az:=h.2;refine ak func203 ?_;refine gl ?_;refine gC (fun z=>?_) (fun z=>?_)
 ·have h0 : w.mag = [] := by simpa [aa] using z
  refine ah ?_;simp[bl,Wh.valid,h0]
 have h0:w.mag.length≠0:=by simpa[aa]using z
 refine gl ?_;refine ga (gx oz oz) ?_;refine gi (bI (i:=w.mag.length-1) oz) ?_;refine ah ?_;have h1:w.mag≠[]:=fun h=>h0 (by rw[h];rfl)
 simp only[bl,Wh.valid,ajf h1,afw,jX (show w.mag.length-1<w.mag.length by omega),aa];congr 2;generalize aj w.mag _=x;rw[ahf];simp
theorem kC(w:Wh)(h:w.ok):FP 160 [w.av] (ws w.m):=by
 refine ak func160 ?_;refine gc (Au w h) ?_;refine gC (fun z=>?_) (fun z=>?_)
 ·have h0 : w.valid = false := by simpa [aa] using z
  refine gR ?_;exact lP (by rw[show w.m=[] by simp[Wh.m,h0]];exact Sub.nil _ _ _)
 have h0:w.valid=true:=by simpa[aa]using z
 refine ah ?_;simp only[Wh.m,h0];rfl
theorem jv(w:Wh)(h:w.ok):FP 216 [w.av] (bl w.n):=by
 refine ak func216 ?_;refine gc (Au w h) ?_;refine ah ?_;simp only[Wh.n,bl];cases w.valid <;> rfl
theorem ku(b:Bool)(m:List Nat)(hm:Ws m)(hb:m.length<=aw):FP 121 [bl b,ws m] (zA (sgn b (val m))):=by
 refine ak func121 ?_;refine gc (nJ m hm hb) ?_;refine cq ?_;refine ah ?_;exact VL b (val m)
theorem Em(a b:List Nat)(ha:Ws a)(hb:Ws b)(na:Nz a)(nb:Nz b):FP 218 [ws a,ws b] (i64 (if val a<val b then -1 else if val b<val a then 1 else 0)):=by
 refine ak func218 ?_ (0,0);refine wM (t:=0) rfl (fun p8=>?_);refine wM (t:=1) rfl (fun fJ=>?_);unfold az at p8 fJ;refine go ?_;refine gl ?_;refine gl ?_;refine gC (fun z=>?_) (fun z=>?_)
 ·have h0 : a.length ≠ b.length := by simpa [aa, agm] using z
  refine gl ?_;refine gl ?_;refine gC (fun z=>?_) (fun z=>?_)
  ·have h1 : a.length < b.length := by simpa [aa] using z
   have h2:=wC ha nb h1;refine ah ?_;simp[i64,h2]
  have h1:b.length<=a.length:=by simpa[aa]using z
  have h2:=wC hb na (show b.length<a.length by omega);refine ah ?_;simp[i64,h2,Nat.lt_asymm h2]
 have h0:a.length=b.length:=by simpa[aa,agm]using z
 refine gl ?_;refine ga (dg oz) ?_;refine aK [0,1] [] (fun(n:Nat)=>[pP 5 (i64 ((n:Int)-1))]) (fun _=>[]) (fun n=>n<=a.length/\a.drop n=b.drop n) (fun n=>n) a.length ⟨aie _,by rw[drop_length,h0,drop_length]⟩ ?_ (h1:=(.cons rfl (Sub.int rfl) .nil));rintro n ⟨hn,hd⟩ K1 J1;refine gC (fun z=>?_) (fun z=>?_)
 ·have gT : 1 <= n := by have := z; simp [aa] at this; omega
  refine gi (gY (n:=n-1) oz (by first |omega |(simp;omega))) ?_;refine gi (gY (n:=n-1) oz (by first |omega |(simp;omega))) ?_;refine gD ?_;refine gC (fun z=>?_) (fun z=>?_)
  ·have h3 : aj a (n - 1) ≠ aj b (n - 1) := by simpa [aa, agm] using z
   refine gi (gY (n:=n-1) oz (by first |omega |(simp;omega))) ?_;refine gi (gY (n:=n-1) oz (by first |omega |(simp;omega))) ?_;refine gD ?_;refine gC (fun z=>?_) (fun z=>?_)
   ·have h4 : aj a (n - 1) < aj b (n - 1) := by simpa [aa] using z
    have h5:=Ja ha h0 oz (by rw[aet gT];exact hd) h4;refine ah ?_;simp[i64,h5]
   have h4:aj b (n-1)<aj a (n-1):=by have:aj b (n-1)<=aj a (n-1):=(by simpa[aa]using z);omega
   have h5:=Ja hb h0.symm oz (by rw[aet gT];exact hd.symm) h4;refine ah ?_;simp[i64,h5,Nat.lt_asymm h5]
  have h3:aj a (n-1)=aj b (n-1):=by simpa[aa,agm]using z
  refine ga (dg oz) ?_;exact aE J1 (n-1) ⟨by omega,by rw[afk (show n-1<a.length by omega),afk (show n-1<b.length by omega),aet gT,hd];congr 1;exact Ui oz oz h3⟩
 have gT:n=0:=by have:=z;simp[aa]at this;omega
 subst gT;refine ah ?_;simp at hd;simp[i64,hd]
theorem Nv(a b:List Nat)(ha:Ws a)(hb:Ws b)(la:a.length<aw)(lb:b.length<aw):FP 217 [ws a,ws b] (ws (ofNat (val a+val b))):=by
 unfold aw at la lb;obtain⟨n,hn⟩:∃n,n=max a.length b.length+1:=⟨_,rfl⟩
 refine ak func217 ?_;refine gl ?_;refine gl ?_;refine gs (ra (.tmp rfl) (.tmp rfl) rfl) ?_;refine ga (show _=(n:Int) by rw[cP oz];omega) ?_;refine gs (f6 (.tmp rfl) T42 rfl T87 rfl rfl oz (by dsimp only;omega) rfl) ?_;refine jf [0,1,16] [] (fun(out:List Nat)(c i:Nat)=>[pP 5 (.ms 14 1 0 n),pP 6 (u64 c),pP 17 (i64 i)]) (fun out _ _=>[pP 14 (.row 1 (out.map u32))]) (fun out c i=>out.length=n/\i<=n/\Ws out/\c<=1/\val (out.take i)+c*4294967296^i=val (a.take i)+val (b.take i)) (fun _ _ i=>n-i) (afv n 0) 0 0 ⟨by simp,by omega,mT n,by omega,by simp[val]⟩ ?_ (h2:=(.cons rfl (.of (by rw[ai7];rfl)) .nil))
 rintro out c i ⟨ho,hi,hw,hc,hv⟩ K1 J1;refine gC (fun z=>?_) (fun z=>?_) (st2:=(10,0))
 ·have ae : i < n := by simpa [aa] using z
  have h1:=bu ha i;have h2:=bu hb i;refine gc (by apply tV <;> assumption) ?_;refine gc (by apply tV <;> assumption) ?_;refine ga (jE oz) ?_;refine ga (jE oz) ?_;refine gv (dj _) ?_;refine gs (bt (n:=i) (.tmp rfl) (.tmp rfl) T42 rfl T87 rfl oz (by first |omega |(simp;omega)) rfl) ?_;refine gs (de (.tmp rfl) rfl (bI (i:=i) oz) rfl (.tmp rfl) rfl rfl T87 rfl rfl) ?_;refine gs (fd (.tmp rfl) (.const _) oz (ib _ 32 oz) rfl) ?_;refine ga (cP oz) ?_;exact ip J1 (out.set i ((c+(aj a i+aj b i))%4294967296)) ((c+(aj a i+aj b i))/4294967296) (i+1) ⟨by simp[ho],by omega,gL hw oz,by omega,by rw[mh oz,cU,cU,ae5];exact B6 hv⟩ (hw:=Wk.of aU (.cons rfl (.of (by rw[aja];rfl)) .nil))
 have ae:i=n:=by have:n<=i:=(by simpa[aa]using z);omega
 refine gW ((Wk.freeze (k:=14) rfl).trans<|Wk.of (sl:=[pP 5 (ws out)]) (hp:=[]) (.cons rfl (.of (b8 (by simp[ho]))) .nil) .nil) ?_;refine gc (nJ out hw (by unfold aw;omega)) ?_;refine ah ?_;rw[Jb ha hb hn ho (ae▸hv)]
theorem Fz(a b:List Nat)(ha:Ws a)(hb:Ws b)(la:a.length<=aw)(lb:b.length<=a.length)(bB:val b<=val a):FP 219 [ws a,ws b] (ws (ofNat (val a-val b))):=by
 have la':=la;unfold aw at la;obtain⟨n,hn⟩:∃n,n=a.length:=⟨_,rfl⟩
 refine ak func219 ?_;refine gl ?_;refine gs (f6 (.tmp rfl) T42 rfl T87 rfl rfl oz (by dsimp only;omega) rfl) ?_;refine jf [0,1,13] [] (fun(out:List Nat)(c i:Nat)=>[pP 5 (.ms 11 1 0 a.length),pP 6 (u64 c),pP 14 (i64 i)]) (fun out _ _=>[pP 11 (.row 1 (out.map u32))]) (fun out c i=>out.length=a.length/\i<=a.length/\Ws out/\c<=1/\val (out.take i)+val (b.take i)=val (a.take i)+c*4294967296^i) (fun _ _ i=>a.length-i) (afv a.length 0) 0 0 ⟨by simp,by omega,mT _,by omega,by simp[val]⟩ ?_ (h2:=(.cons rfl (.of (by rw[ai7];rfl)) .nil))
 rintro out c i ⟨ho,hi,hw,hc,hv⟩ K1 J1;refine gC (fun z=>?_) (fun z=>?_) (st2:=(10,0))
 ·have ae : i < a.length := by simpa [aa] using z
  have h1:=bu ha i;have h2:=bu hb i;have h3:=MA h1 h2 hc hv;obtain⟨d,hd⟩:∃d,d=if aj b i+c<=aj a i then aj a i-aj b i-c else aj a i+18446744073709551616-aj b i-c:=⟨_,rfl⟩
  rw[<- hd]at h3;have fK:d<18446744073709551616:=by rw[hd];split <;> omega
  refine gi (gY (n:=i) oz (by first |omega |(simp;omega))) ?_;refine gv (u64_in oz) ?_;refine gc (by apply tV <;> assumption) ?_;refine ga (lB oz oz) ?_;refine ga (show _=(d:Int) by rw[lB (by split <;> omega) oz,hd];congr 1;(repeat' split) <;> omega) ?_;refine gD ?_;refine gv (dj _) ?_;refine gs (bt (n:=i) (.tmp rfl) (.tmp rfl) T42 rfl T87 rfl oz (by first |omega |(simp;omega)) rfl) ?_;refine gs (de (.tmp rfl) rfl (bI (i:=i) oz) rfl (.tmp rfl) rfl rfl T87 rfl rfl) ?_;refine gs (fd (.tmp rfl) (.const _) oz (ib _ 63 oz) rfl) ?_;refine ga (cP oz) ?_;exact ip J1 (out.set i (d%4294967296)) (d/2^63) (i+1) ⟨by simp[ho],by omega,gL hw oz,by omega,by rw[mh oz,cU,cU,ae5];exact h3⟩ (hw:=Wk.of aU (.cons rfl (.of (by rw[aja];rfl)) .nil))
 have ae:i=a.length:=by have:a.length<=i:=(by simpa[aa]using z);omega
 refine gW ((Wk.freeze (k:=11) rfl).trans<|Wk.of (sl:=[pP 5 (ws out)]) (hp:=[]) (.cons rfl (.of (b8 (by simp[ho]))) .nil) .nil) ?_;refine gc (nJ out hw (by rw[ho];exact la')) ?_;refine ah ?_;rw[Ys hw ho bB lb (ae▸hv)]
theorem RJ(a b:List Nat)(ha:Ws a)(hb:Ws b)(la:a.length+b.length<=aw):FP 220 [ws a,ws b] (ws (ofNat (val a*val b))):=by
 have la':=la;unfold aw at la;refine ak func220 ?_;refine gl ?_;refine gl ?_;refine ga (fh (by unfold az;omega) (by unfold az;omega)) ?_;refine gs (f6 (.tmp rfl) T42 rfl T87 rfl rfl oz (by dsimp only;omega) rfl) ?_;refine gl ?_;refine fF [0,1,17,18] [] (fun(out:List Nat)(i:Nat)=>[pP 5 (.ms 16 1 0 (a.length+b.length)),pP 19 (i64 i)]) (fun out _=>[pP 16 (.row 1 (out.map u32))]) (fun out i=>out.length=a.length+b.length/\i<=a.length/\Ws out/\val (out.take (i+b.length))=val (a.take i)*val b) (fun _ i=>a.length-i) (afv (a.length+b.length) 0) 0 ⟨by simp,by omega,mT _,by simp[val,zy]⟩ ?_ (h2:=(.cons rfl (.of (by rw[ai7];rfl)) .nil))
 rintro out i ⟨ho,hi,hw,hv⟩ K1 J1;refine gC (fun z=>?_) (fun z=>?_) (st2:=(15,0))
 ·have ae : i < a.length := by simpa [aa] using z
  have h1:=bu ha i;refine gi (gY (n:=i) oz (by first |omega |(simp;omega))) ?_;refine gl ?_;refine jf [0,1,17,18,19,6,7,24,25] [] (fun(o:List Nat)(c k:Nat)=>[pP 5 (.ms 16 1 0 (a.length+b.length)),pP 8 (u64 c),pP 26 (i64 k)]) (fun o _ _=>[pP 16 (.row 1 (o.map u32))]) (fun o c k=>o.length=a.length+b.length/\k<=b.length/\Ws o/\c<4294967296/\val (o.take (i+b.length))+c*4294967296^(i+k)=val (out.take (i+b.length))+4294967296^i*(aj a i*val (b.take k))) (fun _ _ k=>b.length-k) out 0 0 ⟨ho,by omega,hw,by omega,by simp[val]⟩ ?_
  rintro o c k ⟨iA,hk,l6,hc,jn⟩ K2 J2;refine gC (fun z=>?_) (fun z=>?_)
  ·have aW : k < b.length := by simpa [aa] using z
   have h2:=bu hb k;have h3:=bu l6 (i+k);have h4:=yh h1 h2;have h5:=LB (x:=(c+(aj a i*aj b k+aj o (i+k)))%4294967296) (show i+k<o.length by omega) (show i+k<i+b.length by omega);have h6:=IN h5 rfl jn;refine gi (gY (n:=k) oz (by first |omega |(simp;omega))) ?_;refine gv (u64_in oz) ?_;refine gv (u64_in oz) ?_;refine ga (zZ oz) ?_;refine ga (fh (by unfold az;omega) (by unfold az;omega)) ?_;refine gs (bt (n:=i+k) (.tmp rfl) (.tmp rfl) T42 rfl T87 rfl oz (by first |omega |(simp;omega)) rfl) ?_;refine gs (dq (.tmp rfl) rfl (bI (i:=i+k) oz) T87 rfl rfl rfl) ?_;refine gv (u64_in oz) ?_;refine ga (jE oz) ?_;refine ga (jE oz) ?_;refine ga (fh (by unfold az;omega) (by unfold az;omega)) ?_;refine gv (dj _) ?_;refine gs (bt (n:=i+k) (.tmp rfl) (.tmp rfl) T42 rfl T87 rfl oz (by first |omega |(simp;omega)) rfl) ?_;refine gs (de (.tmp rfl) rfl (bI (i:=i+k) oz) rfl (.tmp rfl) rfl rfl T87 rfl rfl) ?_;refine gs (fd (.tmp rfl) (.const _) oz (ib _ 32 oz) rfl) ?_;refine ga (cP oz) ?_;exact ip J2 (o.set (i+k) ((c+(aj a i*aj b k+aj o (i+k)))%4294967296)) ((c+(aj a i*aj b k+aj o (i+k)))/4294967296) (k+1) ⟨by simp[iA],by omega,gL l6 oz,by omega,by rw[show i+(k+1)=(i+k)+1 from rfl,ae5,h6,cU];simp only[ai8];grind⟩ (hw:=Wk.of aU (.cons rfl (.of (by rw[aja];rfl)) .nil))
  have aW:k=b.length:=by have:b.length<=k:=(by simpa[aa]using z);omega
  subst aW;have h5:=mh (x:=c) (show i+b.length<o.length by omega);rw[ail]at jn;refine gl ?_;refine ga (fh (by unfold az;omega) (by unfold az;omega)) ?_;refine gv ((dj c).trans (by rw[ae7 hc])) ?_;refine gs (bt (n:=i+b.length) (.tmp rfl) (.tmp rfl) T42 rfl T87 rfl oz (by first |omega |(simp;omega)) rfl) ?_;refine gs (de (.tmp rfl) rfl (bI (i:=i+b.length) oz) rfl (.tmp rfl) rfl rfl T87 rfl rfl) ?_;refine ga (cP oz) ?_;exact fC J1 (o.set (i+b.length) c) (i+1) ⟨by simp[iA],by omega,gL l6 hc,by rw[show i+1+b.length=i+b.length+1 by omega,h5,cU];simp only[ai8]at *;grind⟩ (hw:=Wk.of aU (.cons rfl (.of (by rw[aja];rfl)) .nil))
 have ae:i=a.length:=by have:a.length<=i:=(by simpa[aa]using z);omega
 subst ae;rw[ail,eM oz]at hv;refine gW ((Wk.freeze (k:=16) rfl).trans<|Wk.of (sl:=[pP 5 (ws out)]) (hp:=[]) (.cons rfl (.of (b8 (by simp[ho]))) .nil) .nil) ?_;refine gc (nJ out hw oz) ?_;refine ah ?_;rw[hv]
theorem Rf(a:List Nat)(w:Nat)(ha:Ws a)(la:a.length<=aw)(Gk:0<w)(hwB:w<4294967296):FP 315 [ws a,u32 w] (.tup [ws (ofNat (val a/w)),u32 (val a%w)]):=by
 have la':=la;unfold aw at la;refine ak func315 ?_;refine gl ?_;refine gs (f6 (.tmp rfl) T42 rfl T87 rfl rfl oz (by dsimp only;omega) rfl) ?_;refine gl ?_;refine ga (dg oz) ?_;refine jf [0,1] [] (fun(out:List Nat)(r i:Nat)=>[pP 6 (.ms 11 1 0 a.length),pP 7 (u64 r),pP 8 (i64 ((i:Int)-1))]) (fun out _ _=>[pP 11 (.row 1 (out.map u32))]) (fun out r i=>out.length=a.length/\i<=a.length/\Ws out/\r<w/\val (a.drop i)=w*val (out.drop i)+r) (fun _ _ i=>i) (afv a.length 0) 0 a.length ⟨by simp,by omega,mT _,by omega,by simp[val]⟩ ?_ (h2:=(.cons rfl (.of (by rw[ai7];rfl)) .nil))
 rintro out r i ⟨ho,hi,hw,hr,hv⟩ K1 J1;refine gC (fun z=>?_) (fun z=>?_) (st2:=(9,0))
 ·have gT : 1 <= i := by have := z; simp [aa] at this; omega
  obtain⟨k,rfl⟩:∃k,i=k+1:=⟨i-1,by omega⟩
  have h1:=bu ha k;have h2:=WA hr h1;refine gs (mD (.tmp rfl) (.const _) oz (sK (n:=32) oz oz) rfl) ?_;refine gi (gY (n:=k) oz (by first |omega |(simp;omega))) ?_;refine gv (u64_in oz) ?_;refine gs (kj (.tmp rfl) (.tmp rfl) rfl ((vV oz oz).trans (by rw[xe oz])) rfl) ?_;refine gv (u64_in oz) ?_;refine gs (lG (.tmp rfl) (.tmp rfl) oz (JX oz) rfl) ?_;refine gv ((dj _).trans (by rw[ae7 h2])) ?_;refine gs (bt (n:=k) (.tmp rfl) (.tmp rfl) T42 rfl T87 rfl oz (by first |omega |(simp;omega)) rfl) ?_;refine gs (de (.tmp rfl) rfl (bI (i:=k) oz) rfl (.tmp rfl) rfl rfl T87 rfl rfl) ?_;refine gv (u64_in oz) ?_;refine gs (yr (.tmp rfl) (.tmp rfl) oz MK rfl) ?_;refine ga (dg oz) ?_;exact ip J1 (out.set k ((r*2^32+aj a k)/w)) ((r*2^32+aj a k)%w) k ⟨by simp[ho],by omega,gL hw h2,aeg _ Gk,acq oz oz hv⟩ (hw:=Wk.of aU (.cons rfl (.of (by rw[aja];rfl)) .nil))
 have ae:i=0:=by have:=z;simp[aa]at this;omega
 subst ae;obtain⟨h3,h4⟩:=yO hv hr;simp only[ai9]at h3 h4;refine gW ((Wk.freeze (k:=11) rfl).trans<|Wk.of (sl:=[pP 6 (ws out),pP 7 (u64 r)]) (hp:=[]) (.cons rfl (.of (b8 (by simp[ho]))) (.k .nil)) .nil) ?_;refine gc (nJ out hw oz) ?_;refine gv ((dj _).trans (by rw[ae7 oz])) ?_;refine bq ?_;rw[h3,h4];rfl
theorem LA(d:Nat)(hd:aek d 1000=true)(a:List Nat)(n:Nat)(ha:Ws a)(la:a.length<aw)(hn:n<32):Con prog 317 [ws a,i64 n] [] (.ms d 1 0 (a.length+1)) [(d,some (.row 1 ((aT (a.length+1) (2^n*val a)).map u32)))]:=by
 have la':=la;unfold aw at la;refine gF func317 (fun k z h=>by cases h) ?_;refine gl ?_;refine ga (fh (y:=1) (by unfold az;omega) (by unfold az;omega)) ?_;refine gs (f6 (.tmp rfl) T42 rfl T87 rfl rfl oz (by dsimp only;omega) rfl) ?_;refine gl ?_;refine fF [0,1,13,14] [] (fun(out:List Nat)(i:Nat)=>[pP 5 (.ms 12 1 0 (a.length+1)),pP 15 (i64 i)]) (fun out _=>[pP 12 (.row 1 (out.map u32))]) (fun out i=>out.length=a.length+1/\i<=a.length/\Ws out/\aj out i<2^n/\val (out.take (i+1))=2^n*val (a.take i)) (fun _ i=>a.length-i) (afv (a.length+1) 0) 0 ⟨by simp,by omega,mT _,by simp[aj,afb],by simp[val,List.replicate_succ]⟩ ?_ (h2:=(.cons rfl (.of (by rw[ai7];rfl)) .nil))
 rintro out i ⟨ho,hi,hw,hr,hv⟩ K1 J1;refine gC (fun u=>?_) (fun u=>?_)
 ·have ae : i < a.length := by simpa [aa] using u
  have h1:=bu ha i;have h2:=Vl (a:=a) (i:=i) (n:=n) (show i+1<out.length by omega) hv;have h3:=Tg (x:=aj a i) hn hr;have h4:=YS (n:=n) h1;have h5:2^n<=2^31:=qS oz;have h6:aj a i*2^n<=aj a i*2^31:=aih _ h5;have h7:=bu hw i;refine gi (gY (n:=i) oz (by first |omega |(simp;omega))) ?_;refine gv (u64_in oz) ?_;refine gs (mD (.tmp rfl) (.tmp rfl) oz (sK oz oz) rfl) ?_;refine gs (bt (n:=i) (.tmp rfl) (.tmp rfl) T42 rfl T87 rfl oz (by first |omega |(simp;omega)) rfl) ?_;refine gs (dq (.tmp rfl) rfl (bI (i:=i) oz) T87 rfl rfl rfl) ?_;refine gv (dj _) ?_;refine gs (kj (.tmp rfl) (.tmp rfl) rfl ((Eu oz oz).trans (by rw[WN hn hr])) rfl) ?_;refine gs (bt (n:=i) (.tmp rfl) (.tmp rfl) T42 rfl T87 rfl oz (by first |omega |(simp;omega)) rfl) ?_;refine gs (de (.tmp rfl) rfl (bI (i:=i) oz) rfl (.tmp rfl) rfl rfl T87 rfl rfl) ?_;refine ga (fh (y:=1) (by unfold az;omega) (by unfold az;omega)) ?_;refine gs (fd (.tmp rfl) (.const _) oz (ib _ 32 oz) rfl) ?_;refine gv ((dj _).trans (by rw[ae7 (show aj a i*2^n/2^32<4294967296 by omega)])) ?_;refine gs (bt (n:=i+1) (.tmp rfl) (.tmp rfl) T42 rfl T87 rfl oz (by first |omega |(simp;omega)) rfl) ?_;refine gs (de (.tmp rfl) rfl (by rw[List.getElem?_set_ne oz];exact bI (i:=i+1) oz) rfl (.tmp rfl) rfl rfl T87 rfl rfl) ?_;refine ga (cP oz) ?_;exact fC J1 ((out.set i (aj out i+aj a i*2^n%4294967296)).set (i+1) (aj a i*2^n/4294967296)) (i+1) ⟨by simp[ho],by omega,gL (gL hw oz) oz,by rw[Wf (by simp;omega)];exact h4,h2⟩ (hw:=Wk.of aU (.cons rfl (.of (by rw[aja,aja];rfl)) .nil))
 have ae:i=a.length:=by have:a.length<=i:=(by simpa[aa]using u);omega
 subst ae;rw[ail,eM oz]at hv;refine gR ?_;exact aJ.own1 rfl hd (by rw[yU hw ho hv])
theorem Vd(a:List Nat)(n:Nat)(ha:Ws a)(la:a.length<=aw)(hn:n<32):FP 320 [ws a,i64 n] (ws (ofNat (val a/2^n))):=by
 have la':=la;unfold aw at la;refine ak func320 ?_;refine gl ?_;refine gs (f6 (.tmp rfl) T42 rfl T87 rfl rfl oz (by dsimp only;omega) rfl) ?_;refine gl ?_;refine fF [0,1,11] [] (fun(out:List Nat)(i:Nat)=>[pP 5 (.ms 9 1 0 a.length),pP 12 (i64 i)]) (fun out _=>[pP 9 (.row 1 (out.map u32))]) (fun out i=>out.length=a.length/\i<=a.length/\Ws out/\val (out.take i)=val a/2^n%4294967296^i) (fun _ i=>a.length-i) (afv a.length 0) 0 ⟨by simp,by omega,mT _,by simp[val,Nat.mod_one]⟩ ?_ (h2:=(.cons rfl (.of (by rw[ai7];rfl)) .nil))
 rintro out i ⟨ho,hi,hw,hv⟩ K1 J1;refine gC (fun z=>?_) (fun z=>?_) (st2:=(7,0))
 ·have ae : i < a.length := by simpa [aa] using z
  have h1:=bu ha i;have h2:=bu ha (i+1);have h3:=JE ha ae (show i<out.length by omega) (show n<=32 by omega) hv;refine gi (gY (n:=i) oz (by first |omega |(simp;omega))) ?_;refine gv (u64_in oz) ?_;refine ga (fh (y:=1) (by unfold az;omega) (by unfold az;omega)) ?_;refine gc (tV a (i+1) ha) ?_;refine gs (mD (.tmp rfl) (.const _) oz (sK (n:=32) oz oz) rfl) ?_;refine gs (kj (.tmp rfl) (.tmp rfl) rfl ((vV oz oz).trans (by rw[BT oz])) rfl) ?_;refine gs (fd (.tmp rfl) (.tmp rfl) oz (ib _ _ oz) rfl) ?_;refine gv (dj _) ?_;refine gs (bt (n:=i) (.tmp rfl) (.tmp rfl) T42 rfl T87 rfl oz (by first |omega |(simp;omega)) rfl) ?_;refine gs (de (.tmp rfl) rfl (bI (i:=i) oz) rfl (.tmp rfl) rfl rfl T87 rfl rfl) ?_;refine gD ?_;refine ga (cP oz) ?_;exact fC J1 (out.set i ((aj a i+aj a (i+1)*2^32)/2^n%4294967296)) (i+1) ⟨by simp[ho],by omega,gL hw oz,h3⟩ (hw:=Wk.of aU (.cons rfl (.of (by rw[aja];rfl)) .nil))
 have ae:i=a.length:=by have:a.length<=i:=(by simpa[aa]using z);omega
 refine gW ((Wk.freeze (k:=9) rfl).trans<|Wk.of (sl:=[pP 5 (ws out)]) (hp:=[]) (.cons rfl (.of (b8 (by simp[ho]))) .nil) .nil) ?_;refine gc (nJ out hw oz) ?_;refine ah ?_;rw[acv ha ho (ae▸hv)]
theorem abx{b:Nat}{p:Prop}[Decidable p](h:b=1↔p):dD [AV.v (Value.bool (aa BinOp.eql (b:Int) 1))]=bl (decide p):=by
 have:((b:Int)==1)=decide (b=1):=by rw[ahf];simp;omega
 simp only[dD,aa,this,bl];rw[decide_eq_decide.2 h]
theorem Sf(u v:List Nat)(off len n:Nat)(hu:Ws u)(hv:Ws v)(lZ:v.length+1<=len)(hj:off+len<=u.length)(hn:n<4294967296)(lu:u.length<=az) :
  Con prog 318 [.ms 1000 1 off len,ws v,u64 n] [pP 1000 (.row 1 (u.map u32))] (bl (decide (val (a6 u off len)<n*val v)))
   [pP 1000 (.row 1 ((wr u off (aT len (kA n (val v) (val (a6 u off len)) len))).map u32))]:=by
 unfold az at lu;refine gF func318 (fun k z h=>eU h) ?_;refine HR [1,2,12] [] (fun(o:List Nat)(c b lo i:Nat)=>[pP 0 (.ms 1000 1 off len),pP 7 (u64 c),pP 8 (u64 b),pP 13 (i64 i)]) (fun o _ _ _ _=>[pP 1000 (.row 1 (o.map u32))]) (fun o c b lo i=>o.length=u.length/\i<=len/\Ws o/\c<4294967296/\b<=1/\o.take off=u.take off/\o.drop (off+i)=u.drop (off+i)/\lo+c*4294967296^i=n*val (v.take i)/\val (a6 o off i)+lo=val (a6 u off i)+b*4294967296^i) (fun _ _ _ _ i=>len-i) u 0 0 0 0 ⟨rfl,by omega,hu,by omega,by omega,rfl,rfl,by simp[val],by simp[]⟩ ?_
 rintro o c b lo i ⟨ho,hi,hw,hc,hb,fK,l0,uH,jn⟩ K1 J1;refine gC (fun y=>?_) (fun y=>?_)
 ·have ae : i < len := by simpa [aa] using y
  have h1:=bu hu (off+i);have h2:=bu hv i;have h0:=sT l0;have h4:=yh hn h2;obtain⟨c1,eL⟩:∃c1,c1=c+n*aj v i:=⟨_,rfl⟩
  have h3:=MA h1 (show c1%4294967296<4294967296 by omega) hb jn;obtain⟨d,hd⟩:∃d,d=if c1%4294967296+b<=aj u (off+i)then aj u (off+i)-c1%4294967296-b else aj u (off+i)+18446744073709551616-c1%4294967296-b:=⟨_,rfl⟩
  rw[<- hd]at h3;have hd3:d<18446744073709551616:=by rw[hd];split <;> omega
  have h5:=abr (w:=aj v i) uH;refine gc (by apply tV <;> assumption) ?_;refine ga (zZ oz) ?_;refine ga ((jE oz).trans (by rw[<- eL])) ?_;refine gs (oX (n:=i) (.tmp rfl) (.tmp rfl) T42 rfl T87 rfl oz (by first |omega |(simp;omega)) rfl) ?_;refine gs (dq (.tmp rfl) rfl (by rw[bI (show off+i<o.length by omega),h0]) T87 rfl rfl rfl) ?_;refine gv (u64_in oz) ?_;refine gv (dj _) ?_;refine gv (u64_in oz) ?_;refine ga (lB oz oz) ?_;refine ga (show _=(d:Int) by rw[lB (by split <;> omega) oz,hd];congr 1;(repeat' split) <;> omega) ?_;refine gv (dj _) ?_;refine gs (oX (n:=i) (.tmp rfl) (.tmp rfl) T42 rfl T87 rfl oz (by first |omega |(simp;omega)) rfl) ?_;refine gs (de (.tmp rfl) rfl (bI (i:=off+i) oz) rfl (.tmp rfl) rfl rfl T87 rfl rfl) ?_;refine gs (fd (.tmp rfl) (.const _) oz (ib _ 63 oz) rfl) ?_;refine gs (fd (.tmp rfl) (.const _) oz (ib _ 32 oz) rfl) ?_;refine ga (cP oz) ?_;exact H0 J1 (o.set (off+i) (d%4294967296)) (c1/4294967296) (d/2^63) (lo+4294967296^i*(c1%4294967296)) (i+1) ⟨by simp[ho],by omega,gL hw oz,by omega,by omega,by rw[List.take_set_of_le oz];exact fK,wR l0,by rw[cU,ae5,eL];exact h5,by rw[JF oz,Hg,ae5];exact h3⟩ (hw:=Wk.of aU (.cons rfl (.of (by rw[aja];rfl)) .nil))
 have ae:i=len:=by have:len<=i:=(by simpa[aa]using y);omega
 subst ae;obtain⟨h6,h7⟩:=QJ hu hw ho hj hv lZ hn fK l0 hb uH jn;refine gR ?_;exact aJ.own2 rfl (by rw[<- h6]) (abx h7)
theorem QD(u v:List Nat)(off len:Nat)(hu:Ws u)(hv:Ws v)(lZ:v.length<=len)(hj:off+len<=u.length)(lu:u.length<=az) :
  Con prog 319 [.ms 1000 1 off len,ws v] [pP 1000 (.row 1 (u.map u32))] (.tup [])
   [pP 1000 (.row 1 ((wr u off (aT len ((val (a6 u off len)+val v)%4294967296^len))).map u32))]:=by
 unfold az at lu;refine gF func319 (fun k z h=>eU h) ?_;refine jf [1,7] [] (fun(o:List Nat)(c i:Nat)=>[pP 0 (.ms 1000 1 off len),pP 4 (u64 c),pP 8 (i64 i)]) (fun o _ _=>[pP 1000 (.row 1 (o.map u32))]) (fun o c i=>o.length=u.length/\i<=len/\Ws o/\c<=1/\o.take off=u.take off/\o.drop (off+i)=u.drop (off+i)/\val (a6 o off i)+c*4294967296^i=val (a6 u off i)+val (v.take i)) (fun _ _ i=>len-i) u 0 0 ⟨rfl,by omega,hu,by omega,rfl,rfl,by simp[val]⟩ ?_
 rintro o c i ⟨ho,hi,hw,hc,fK,l0,jn⟩ K1 J1;refine gC (fun y=>?_) (fun y=>?_)
 ·have ae : i < len := by simpa [aa] using y
  have h1:=bu hu (off+i);have h2:=bu hv i;have h0:=sT l0;have h3:=B6 (u:=aj u (off+i)) (w:=aj v i) jn;refine gs (oX (n:=i) (.tmp rfl) (.tmp rfl) T42 rfl T87 rfl oz (by first |omega |(simp;omega)) rfl) ?_;refine gs (dq (.tmp rfl) rfl (by rw[bI (show off+i<o.length by omega),h0]) T87 rfl rfl rfl) ?_;refine gv (u64_in oz) ?_;refine gc (by apply tV <;> assumption) ?_;refine ga (jE oz) ?_;refine ga (jE oz) ?_;refine gD ?_;refine gv (dj _) ?_;refine gs (oX (n:=i) (.tmp rfl) (.tmp rfl) T42 rfl T87 rfl oz (by first |omega |(simp;omega)) rfl) ?_;refine gs (de (.tmp rfl) rfl (bI (i:=off+i) oz) rfl (.tmp rfl) rfl rfl T87 rfl rfl) ?_;refine gs (fd (.tmp rfl) (.const _) oz (ib _ 32 oz) rfl) ?_;refine ga (cP oz) ?_;exact ip J1 (o.set (off+i) ((c+(aj u (off+i)+aj v i))%4294967296)) ((c+(aj u (off+i)+aj v i))/4294967296) (i+1) ⟨by simp[ho],by omega,gL hw oz,by omega,by rw[List.take_set_of_le oz];exact fK,wR l0,by rw[JF oz,Hg,cU,ae5];exact h3⟩ (hw:=Wk.of aU (.cons rfl (.of (by rw[aja];rfl)) .nil))
 have ae:i=len:=by have:len<=i:=(by simpa[aa]using y);omega
 subst ae;have h6:=SW hw ho hj lZ fK l0 jn;refine gR ?_;exact aJ.own2 rfl (by rw[<- h6]) rfl
theorem Y7(x:Nat)(hx:x<4294967296):FP 331 [u32 x] (i64 (aM x)):=by
 refine ak func331 ?_;refine gC (fun u=>?_) (fun u=>?_)
 ·obtain ⟨y, hy, h2, h3⟩ : ∃ y, y = x / 2 ^ 16 /\ y < 65536 /\ aM x = 16 + aM y := ⟨_, rfl, by omega, vt (by have := u; simp [aa] at this; omega)⟩
  refine gs (fd (.tmp rfl) (.const _) oz ((tY x 16 oz).trans (by rw[<- hy])) rfl) ?_;refine gC (fun t8=>?_) (fun t8=>?_)
  ·have h5 : 2 ^ 8 <= y := by simp [aa] at t8; omega
   obtain⟨z,hz,h6,h7⟩:∃z,z=y/2^8/\z<256/\aM x=(aM x-aM y)+8+aM z:=⟨_,rfl,by omega,by have:=vt h5;omega⟩
   refine gs (fd (.tmp rfl) (.const _) oz ((tY _ 8 oz).trans (show _=(z:Int) by first |(rw[hz];done) |(rw[hz,hy];done))) rfl) ?_;refine ga (cP oz) ?_;refine gv (show IntKind.u8.wrap _=(z:Int) by first |exact kq h6 |(rw[hz];exact kq oz) |(rw[hz,hy];exact kq oz)) ?_;refine gs (zW (y:=z) (.const _) (.tmp rfl) T9 rfl (by kernel_rfl) (by first |rfl |omega) oz rfl) ?_;refine gv (i64_in (by have:=kv h6;omega)) ?_;refine ga (cP (by have:=kv h6;omega)) ?_;refine ah ?_;simp only[i64];congr 2;have:=kv h6;omega
  have h5:y<2^8:=by simp[aa]at t8;omega
  obtain⟨z,hz,h6,h7⟩:∃z,z=y/\z<256/\aM x=(aM x-aM y)+aM z:=⟨_,rfl,by omega,by omega⟩
  refine gv (show IntKind.u8.wrap _=(z:Int) by first |exact kq h6 |(rw[hz];exact kq oz) |(rw[hz,hy];exact kq oz)) ?_;refine gs (zW (y:=z) (.const _) (.tmp rfl) T9 rfl (by kernel_rfl) (by first |rfl |omega) oz rfl) ?_;refine gv (i64_in (by have:=kv h6;omega)) ?_;refine ga (cP (by have:=kv h6;omega)) ?_;refine ah ?_;simp only[i64];congr 2;have:=kv h6;omega
 obtain⟨y,hy,h2,h3⟩:∃y,y=x/\y<65536/\aM x=0+aM y:=⟨_,rfl,by have:=u;simp[aa]at this;omega,by omega⟩
 refine gC (fun t8=>?_) (fun t8=>?_)
 ·have h5 : 2 ^ 8 <= y := by simp [aa] at t8; omega
  obtain⟨z,hz,h6,h7⟩:∃z,z=y/2^8/\z<256/\aM x=(aM x-aM y)+8+aM z:=⟨_,rfl,by omega,by have:=vt h5;omega⟩
  refine gs (fd (.tmp rfl) (.const _) oz ((tY _ 8 oz).trans (show _=(z:Int) by first |(rw[hz];done) |(rw[hz,hy];done))) rfl) ?_;refine ga (cP oz) ?_;refine gv (show IntKind.u8.wrap _=(z:Int) by first |exact kq h6 |(rw[hz];exact kq oz) |(rw[hz,hy];exact kq oz)) ?_;refine gs (zW (y:=z) (.const _) (.tmp rfl) T9 rfl (by kernel_rfl) (by first |rfl |omega) oz rfl) ?_;refine gv (i64_in (by have:=kv h6;omega)) ?_;refine ga (cP (by have:=kv h6;omega)) ?_;refine ah ?_;simp only[i64];congr 2;have:=kv h6;omega
 have h5:y<2^8:=by simp[aa]at t8;omega
 obtain⟨z,hz,h6,h7⟩:∃z,z=y/\z<256/\aM x=(aM x-aM y)+aM z:=⟨_,rfl,by omega,by omega⟩
 refine gv (show IntKind.u8.wrap _=(z:Int) by first |exact kq h6 |(rw[hz];exact kq oz) |(rw[hz,hy];exact kq oz)) ?_;refine gs (zW (y:=z) (.const _) (.tmp rfl) T9 rfl (by kernel_rfl) (by first |rfl |omega) oz rfl) ?_;refine gv (i64_in (by have:=kv h6;omega)) ?_;refine ga (cP (by have:=kv h6;omega)) ?_;refine ah ?_;simp only[i64];congr 2;have:=kv h6;omega
theorem WJ(x:Nat)(hx:x<4294967296):FP 316 [u32 x] (i64 (32-aM x:Nat)):=by
 have h1:aM x<=32:=by
  by_cases h:x=0
  ·subst h;decide
  ·exact(DX h hx).1
 refine ak func316 ?_;refine gc (Y7 x hx) ?_;refine ga (i64_in (by simp only[fq];omega)) ?_;refine ah ?_;simp only[i64,fq];congr 2;omega
theorem NH(a b:List Nat)(ha:Ws a)(hb:Ws b)(na:Nz a)(nb:Nz b)(iC:b≠[])(la:a.length<aw)(lb:b.length<aw) :
  FP 221 [ws a,ws b] (.tup [ws (ofNat (val a/val b)),ws (ofNat (val a%val b))]):=by
 have la':=la;unfold aw at la lb;refine ak func221 ?_;refine gc (Em a b ha hb na nb) ?_;refine gC (fun t22=>?_) (fun t22=>?_)
 ·have h1:val a<val b:=by
   simp only[aa]at t22;split at t22
   ·assumption
   ·split at t22 <;> simp at t22
  refine gc (nJ a ha oz) ?_;refine gR ?_;exact YF (by rw[ad9 h1];exact Sub.nil _ _ _) (by rw[ae7 h1];exact Sub.refl _)
 have h1:val b<=val a:=by
  simp only[aa]at t22;split at t22
  ·simp at t22
  ·omega
 refine gl ?_;refine gC (fun z=>?_) (fun z=>?_)
 ·have hl : b.length = 1 := by have := z; simp [aa] at this; omega
  obtain⟨x,rfl⟩:∃x,b=[x]:=af8.1 hl;have hx:x≠0:=nb x rfl;have hxB:x<4294967296:=hb x (by simp);have hv:val [x]=x:=by simp[val]
  have hm:=aeg (val a) (show 0<x by omega);refine gi (show _=some (u32 x)from rfl) ?_;refine gc (Rf a x ha oz oz hxB) ?_;refine gc (nJ [val a%x] (xf oz) (by simp[aw])) ?_;refine bq ?_;rw[hv];simp[val]
 have hl:b.length≠1:=by have:=z;simp[aa]at this;omega
 obtain⟨n,hn⟩:∃n,b.length=n+2:=⟨b.length-2,by have:=afq.2 iC;omega⟩
 obtain⟨sh,v,lc,xI,hv,wv,lv,vv,hvt,htop,Bg⟩:=SI hb nb hn
 have hab:b.length<=a.length:=by
  rcases aid a.length b.length with h2 |h2
  ·have:=wC ha nb h2;omega
  ·exact h2
 obtain⟨lq,Ps⟩:∃lq,a.length+1=lq+(n+2):=⟨a.length+1-(n+2),by omega⟩
 have Bm:=bu hb (n+1);refine gl ?_;refine ga (show _=((n+1:Nat):Int) by rw[dg oz];omega) ?_;refine gi (gY (n:=n+1) oz (by first |omega |(simp;omega))) ?_;refine gc (show jF _ _ _ (i64 (sh:Nat)) by rw[lc];exact WJ _ Bm) ?_;refine gt (br (LA 900 rfl b sh hb (by unfold aw;omega) xI) (cS rfl rfl) bT rfl rfl) ?_;refine gl ?_;refine gs (qJ (.tmp rfl) (.none _) (.some _ (.tmp rfl) oz) T42 rfl T87 rfl oz oz rfl) ?_;refine gt (br (LA 901 rfl a sh ha (by unfold aw;omega) xI) (cS rfl rfl) bT rfl rfl) ?_;refine gD ?_ (8,0);refine gW ((Wk.freeze (k:=900) rfl).trans<|Wk.of (sl:=[pP 0 (ws a),pP 1 (ws b),pP 8 (i64 sh),pP 9 (ws v),pP 10 (.ms 901 1 0 (a.length+1))]) (hp:=[pP 901 (.row 1 ((aT (a.length+1) (2^sh*val a)).map u32))]) (.k (.k (.k (.cons rfl (.of (WF hn hv)) (.k .nil))))) (.k .nil)) ?_;refine gl ?_;refine ga (show _=(lq:Int) by rw[lv,dg oz];omega) ?_;refine gs (f6 (.tmp rfl) T42 rfl T87 rfl rfl oz (by dsimp only;omega) rfl) ?_;refine gl ?_;refine ga (show _=((n+1:Nat):Int) by rw[lv,dg oz];omega) ?_;refine gi (gY (n:=n+1) oz (by first |omega |(simp;omega))) ?_;refine gv (u64_in (by have:=bu wv (n+1);omega)) ?_;refine gl ?_;refine ga (show _=(n:Int) by rw[lv,dg oz];omega) ?_;refine gi (gY (n:=n) oz (by first |omega |(simp;omega))) ?_;refine gv (u64_in (by have:=bu wv n;omega)) ?_;refine gD ?_;refine ga (dg oz) ?_;refine jf [8,9,12,13] [] (fun(q u:List Nat)(j:Nat)=>[pP 10 (.ms 901 1 0 (a.length+1)),pP 11 (.ms 61 1 0 lq),pP 14 (i64 ((j:Int)-1))]) (fun q u _=>[pP 901 (.row 1 (u.map u32)),pP 61 (.row 1 (q.map u32))]) (fun q u j=>q.length=lq/\u.length=a.length+1/\Ws q/\Ws u/\j<=lq/\val (u.drop j)<val v/\2^sh*val a=val v*(4294967296^j*val (q.drop j))+val u) (fun _ _ j=>j) (afv lq 0) (aT (a.length+1) (2^sh*val a)) lq ⟨by simp,fy _ _,mT _,kL _ _,aie _,by rw[vv];exact(Jy ha xI Ps Bg).2,by rw[(Jy ha xI Ps Bg).1];simp[val]⟩ ?_ (h2:=(.k (.cons rfl (.of (by rw[ai7];rfl)) .nil)))
 rintro q u j ⟨rW,uI,wq,wu,hj,hlt,hU⟩ K1 J1;refine gC (fun z=>?_) (fun z=>?_) (st2:=(23,0))
 ·have p9 : 1 <= j := by have := z; simp [aa] at this; omega
  obtain⟨k,rfl⟩:∃k,j=k+1:=⟨j-1,by omega⟩
  obtain⟨W,hW⟩:∃W,W=val (a6 u k (n+3)):=⟨_,rfl⟩
  have Pk:val v<4294967296^(n+2):=by have:=bG v wv;rwa [lv]at this
  obtain⟨e1,e2,e3⟩:=Wr (u:=u) (q:=q) (k:=k) (lv:=n+2) wu oz oz Pk hlt hU;simp only[show n+2+1=n+3 from rfl]at e1 e2 e3;have l7:=Uz wv (oV wu k (n+3)) lv (qM oz) hvt e1;rw[<- hW]at e1 e2 e3 l7;have wp:=oV wu k (n+3);have b1:=bu wp n;have b2:=bu wp (n+1);have b3:=bu wp (n+2);have b4:=l7.htop;have b5:=l7.htopB;have b6:=l7.hnext;obtain⟨top,Pt⟩:∃top,top=aj v (n+1):=⟨_,rfl⟩
  obtain⟨nx,Pu⟩:∃nx,nx=aj v n:=⟨_,rfl⟩
  obtain⟨hd,Pv⟩:∃hd,hd=aj (a6 u k (n+3)) (n+2)*4294967296+aj (a6 u k (n+3)) (n+1):=⟨_,rfl⟩
  obtain⟨th,Bn⟩:∃th,th=aj (a6 u k (n+3)) n:=⟨_,rfl⟩
  rw[<- Pt,<- Pu,<- Pv,<- Bn]at l7;rw[<- Pt]at b4 b5 ⊢;rw[<- Pu]at b6 ⊢;rw[<- Bn]at b1;have hdB:hd<18446744073709551616:=by omega
  refine gl ?_;refine ga (show _=((k+n+2:Nat):Int) by rw[lv,cP oz];omega) ?_;refine ga (show _=((k+n+3:Nat):Int) by rw[cP oz];omega) ?_;refine gs (qJ (.tmp rfl) (.some _ (.tmp rfl) oz) (.some _ (.tmp rfl) oz) T42 rfl T87 rfl oz oz rfl) ?_ (14,0);refine gW (Wk.of (sl:=[pP 8 (i64 sh),pP 9 (ws v),pP 10 (.ms 901 1 0 (a.length+1)),pP 11 (.ms 61 1 0 lq),pP 12 (u64 top),pP 13 (u64 nx),pP 14 (i64 k),pP 15 (.ms 901 1 k (n+3))]) (hp:=[pP 901 (.row 1 (u.map u32)),pP 61 (.row 1 (q.map u32))]) (.k (.k (.k (.k (.k (.k (.cons rfl (Sub.int oz) (.cons rfl (.of (by congr 1 <;> omega)) .nil)))))))) (.k (.k .nil))) ?_
  refine gl ?_;refine gs (oX (n:=n+2) (.tmp rfl) (.tmp rfl) T42 rfl T87 rfl oz oz rfl) ?_;refine gs (dq (.tmp rfl) rfl (Ce (n:=n+3) (i:=n+2) oz oz) T87 rfl rfl rfl) ?_;refine gv (u64_in oz) ?_;refine gs (mD (.tmp rfl) (.const _) oz (sK (n:=32) oz oz) rfl) ?_;refine gl ?_;refine ga (show _=((n+1:Nat):Int) by rw[lv,dg oz];omega) ?_;refine gs (oX (n:=n+1) (.tmp rfl) (.tmp rfl) T42 rfl T87 rfl oz oz rfl) ?_;refine gs (dq (.tmp rfl) rfl (Ce (n:=n+3) (i:=n+1) oz oz) T87 rfl rfl rfl) ?_;refine gv (u64_in oz) ?_;refine gs (kj (.tmp rfl) (.tmp rfl) rfl ((vV oz oz).trans (show _=(hd:Int) by rw[xe oz,Pv])) rfl) ?_;refine gD ?_;refine gs (lG (.tmp rfl) (.tmp rfl) oz (JX hdB) rfl) ?_;refine gs (yr (.tmp rfl) (.tmp rfl) oz MK rfl) ?_;refine gD ?_;refine fF [8,9,12,13,14] [901,61] (fun(g r:Nat)=>[pP 10 (.ms 901 1 0 (a.length+1)),pP 11 (.ms 61 1 0 lq),pP 15 (.ms 901 1 k (n+3)),pP 17 (u64 g),pP 18 (u64 r)]) (fun _ _=>[]) (fun g r=>W/val v<=g/\g*top+r=hd/\g<18446744073709551616/\r<8589934592) (fun g _=>g) (hd/top) (hd%top) ⟨l7.first,by rw[aey];exact aeh _ _,by have:=afd hd top;omega,by have:=aeg hd (show 0<top by omega);omega⟩ ?_
  rintro g r ⟨hg,gS,hgB,hrB⟩ K2 J2;refine kG (fun⟨h,h2⟩=>(zZ (by simp[aa]at h2;have:=yh (x:=g) (y:=nx) oz b6;omega))) ?_;refine gs (rq rfl rfl rfl (fun h h2=>mD (.opt rfl (o2 h h2)) (.const _) oz (sK (n:=32) oz (by simp[aa]at h;omega)) rfl)) ?_;refine cq ?_;refine kG (fun _=>(show _=(n:Int) by rw[lv,dg oz];omega)) ?_;refine gs (rq rfl rfl rfl (fun h h2=>oX (n:=n) (.opt rfl (o2 h h2)) (.opt rfl (o2 h h2)) T42 rfl T87 rfl oz oz rfl)) ?_;refine gs (rq rfl rfl rfl (fun h h2=>dq (.opt rfl (o2 h h2)) rfl (Ce (n:=n+3) (i:=n) oz oz) T87 rfl rfl rfl)) ?_;refine Vu (fun _=>(u64_in oz)) ?_;refine gs (rq rfl rfl rfl (fun h h2=>kj (.opt rfl (o2 h h2)) (.opt rfl (o2 h h2)) rfl ((vV (by simp[aa]at h;omega) oz).trans (by rw[xe oz])) rfl)) ?_;refine gC (fun t133=>?_) (fun t133=>?_)
  ·have hc:r<4294967296/\(4294967296<=g\/r*4294967296+th<g*nx):=by
    rw[Bn];have h9:=Jc.1 t133
    rwa [show r*2^32=r*4294967296 from rfl]at h9
   have oq:=l7.step hg gS hc.2;have oo:1<=g:=Nat.succ_le_of_lt (aiz (aii _) oq);refine ga (Lx oz oz) ?_;refine ga (jE oz) ?_;exact fC J2 (g-1) (r+top) ⟨Nat.le_sub_one_of_lt oq,by rw[Nat.sub_mul];have:=aik top (show 1<=g by omega);omega,by omega,by omega⟩
  have hc:¬(r<4294967296/\(4294967296<=g\/r*4294967296+th<g*nx)):=by
   rw[Bn];intro hh;rw[show r*4294967296=r*2^32 from rfl]at hh;exact ahb.1 t133 (Jc.2 hh)
  obtain⟨adk,hgq⟩:=l7.last gS hc;have Gi:=l7.vpos;have Pw:val (a6 u k (n+3))<4294967296^(n+3):=by have:=bG _ wp;rwa [qM oz]at this
  obtain⟨p1,p2⟩:=ZC Gi (show val v<=4294967296^(n+3) by have:=ae6 (show 0<4294967296 by omega) (show n+2<=n+3 by omega);omega) (hW▸Pw) hg hgq;have Gl:k+(n+3)<=u.length:=by omega
  have uB:(wr u k (aT (n+3) (kA g (val v) W (n+3)))).length=a.length+1:=by rw[nh (by rw[fy];omega),uI]
  refine gt (br (Con.rk 901 rfl rfl (Sf u v k (n+3) g wu wv oz Gl adk (by unfold az;omega))) (a7 rfl rfl rfl) bT rfl rfl) ?_;refine gC (fun z=>?_) (fun z=>?_)
  ·have Bh : W < g * val v := by rw [hW]; simpa using z
   obtain⟨q1,q2,q3⟩:=p1 Bh;have xJ:kA g (val v) W (n+3)<4294967296^(n+3):=by unfold kA;rw[ajf oz];rw[<- hW]at Pw;omega
   refine ga (Lx oz oz) ?_;refine gt (br (Con.rk 901 rfl rfl (QD (wr u k (aT (n+3) (kA g (val v) (val (a6 u k (n+3))) (n+3)))) v k (n+3) (ue wu (kL _ _)) wv oz (by rw[<- hW,uB];omega) (by rw[<- hW,uB];unfold az;omega))) (cS rfl rfl) bT rfl rfl) ?_;refine gv ((dj _).trans (by rw[ae7 oz])) ?_;refine gs (bt (n:=k) (.tmp rfl) (.tmp rfl) T42 rfl T87 rfl oz oz rfl) ?_;refine gs (de (.tmp rfl) rfl (bI (i:=k) oz) rfl (.tmp rfl) rfl rfl T87 rfl rfl) ?_;refine ga (dg oz) ?_;exact ip J1 (q.set k (W/val v)) (wr u k (aT (n+3) (W%val v))) k ⟨by simp[rW],by rw[nh (by rw[fy];omega),uI],gL wq l7.q_lt,ue wu (kL _ _),by omega,e2,e3⟩ (hw:=Wk.of aU (.cons rfl (.of (by rw[<- hW];first |(rw[q1];done) |(rw[HI (r:=W%val v) Gl (fy _ _) (by rw[mz _ _ xJ];exact q1)];done))) (.cons rfl (.of (by rw[aja,q2];rfl)) .nil)))
  have Bh:¬W<g*val v:=by rw[hW];simpa using z
  obtain⟨q1,q2⟩:=p2 Bh;refine gv ((dj _).trans (by rw[ae7 oz])) ?_;refine gs (bt (n:=k) (.tmp rfl) (.tmp rfl) T42 rfl T87 rfl oz oz rfl) ?_;refine gs (de (.tmp rfl) rfl (bI (i:=k) oz) rfl (.tmp rfl) rfl rfl T87 rfl rfl) ?_;refine ga (dg oz) ?_;exact ip J1 (q.set k (W/val v)) (wr u k (aT (n+3) (W%val v))) k ⟨by simp[rW],by rw[nh (by rw[fy];omega),uI],gL wq l7.q_lt,ue wu (kL _ _),by omega,e2,e3⟩ (hw:=Wk.of aU (.cons rfl (.of (by rw[<- hW];first |(rw[q1];done) |(rw[HI (r:=W%val v) Gl (fy _ _) (by rw[mz _ _ xJ];exact q1)];done))) (.cons rfl (.of (by rw[aja,q2];rfl)) .nil)))
 have p9:j=0:=by have:=z;simp[aa]at this;omega
 subst p9;have hU':2^sh*val a=2^sh*val b*val q+val u:=by rw[<- vv];simpa using hU
 obtain⟨hQ,hR⟩:=VV hU' (by rw[<- vv];simpa using hlt);refine gW ((Wk.freeze (k:=61) rfl).trans<|(Wk.freeze (k:=901) rfl).trans<|Wk.of (sl:=[pP 8 (i64 sh),pP 10 (ws u),pP 11 (ws q)]) (hp:=[]) (.k (.cons rfl (.of (b8 (by simp[uI]))) (.cons rfl (.of (by rw[show AV.fz 61 1 (q.map u32) (.ms 61 1 0 lq)=ws q from b8 (by simp[rW])];rfl)) .nil))) .nil) ?_;refine gc (nJ q wq (by unfold aw;omega)) ?_;refine gc (Vd u sh wu (by unfold aw;omega) xI) ?_;refine bq ?_;rw[<- hQ,<- hR]
theorem yz{b:Bool}{n:Nat}:(cond b (aa .gtr ((ofNat n).length:Int) 0) false)=true↔(b=true/\0<n):=by
 have h:aa .gtr ((ofNat n).length:Int) 0=true↔0<n:=by
  simp only[aa,ajh];constructor
  ·intro h;rcases ae1 n with h1 |h1;(subst h1;simp[QH]at h);exact h1
  ·intro h;have:ofNat n ≠ []:=by intro h1; have:=bN n; rw [h1] at this; simp [val] at this; omega
   have:=afq.2 this;omega
 cases b with
 |false=>simp
 |true=>exact⟨fun h1=>⟨rfl,h.1 h1⟩,fun h1=>h.2 h1.2⟩
theorem Ea(a:Wh)(ha:a.ok):FP 73 [a.av] (i64 a.z.sign):=by
 obtain⟨e1,e2,e3⟩:=IT ha;refine ak func73 ?_;refine gc (kC a ha) ?_;refine gl ?_;refine gC (fun z=>?_) (fun z=>?_)
 ·have h0 : a.m.length = 0 := by simpa [aa] using z
  refine ah ?_;rw[e1 h0];rfl
 have h0:a.m.length≠0:=by simpa[aa]using z
 refine gC (fun z=>?_) (fun z=>?_)
 ·refine ah ?_;rw[e2 h0 z];rfl
 refine ah ?_;rw[e3 h0 z];rfl
theorem Qf(a b:Wh)(ha:a.ok)(hb:b.ok):FP 204 [a.av,b.av] (i64 (gX a.z b.z)):=by
 refine ak func204 ?_;refine gc (Ea a ha) ?_;refine gc (Ea b hb) ?_;refine gD ?_;refine gC (fun z=>?_) (fun z=>?_)
 ·have h0 : a.z.sign ≠ b.z.sign := by simpa [aa] using z
  obtain⟨e1,e2⟩:=Yi h0;refine gC (fun z=>?_) (fun z=>?_)
  ·have h1 : a.z.sign < b.z.sign := by simpa [aa] using z
   refine ah ?_;rw[e1 h1];rfl
  have h1:¬a.z.sign<b.z.sign:=by simpa[aa]using z
  refine ah ?_;rw[e2 h1];rfl
 have h0:a.z.sign=b.z.sign:=by simpa[aa]using z
 have e1:=Ur h0;refine gc (kC a ha) ?_;refine gc (kC b hb) ?_;refine gc (Em a.m b.m (Wh.ws ha) (Wh.ws hb) a.nz b.nz) ?_;refine gD ?_;refine gc (jv a ha) ?_;refine gC (fun z=>?_) (fun z=>?_)
 ·rw[z,ajg rfl]at e1;refine gs (zB (.tmp rfl) rfl) ?_;refine ah ?_;rw[e1];split
  ·rfl
  ·split <;> rfl
 rw[z,ajf Bool.false_ne_true]at e1;refine ah ?_
 first |(rw[e1];done) |(rw[e1];rfl)
theorem Um(a:Wh)(ha:a.ok)(la:a.mag.length<aw):FP 118 [a.av] (zA (-a.z)):=by
 refine ak func118 ?_;refine gc (jv a ha) ?_;refine gc (kC a ha) ?_;refine gc (ku _ a.m (Wh.ws ha) (aea (Wh.small ha la))) ?_;refine gD ?_;refine ah ?_;rw[Wh.z_eq,<- OP];rfl
theorem TQ(a b:Wh)(ha:a.ok)(hb:b.ok)(la:a.mag.length+b.mag.length<=aw):FP 117 [a.av,b.av] (zA (a.z*b.z)):=by
 have h1:=Wh.m_le (w:=a);have h2:=Wh.m_le (w:=b);have h3:(ofNat (val a.m*val b.m)).length<=a.m.length+b.m.length:=fi (by rw[ai8];exact aew (bG _ (Wh.ws ha)) (bG _ (Wh.ws hb)));refine ak func117 ?_;refine gc (jv a ha) ?_;refine gc (jv b hb) ?_;refine gc (kC a ha) ?_;refine gc (kC b hb) ?_;refine gc (RJ a.m b.m (Wh.ws ha) (Wh.ws hb) oz) ?_;refine gc (ku _ _ (cT _) oz) ?_;refine gD ?_;refine ah ?_;rw[bN,Jl];rfl
theorem Xb(a b:Wh)(ha:a.ok)(hb:b.ok)(la:a.mag.length<aw)(lb:b.mag.length<aw):FP 116 [a.av,b.av] (zA (a.z+b.z)):=by
 have h1:=Wh.m_le (w:=a);have h2:=Wh.m_le (w:=b);have p8:val a.m<4294967296^(max a.m.length b.m.length):=aip (bG _ (Wh.ws ha)) (ae6 oz oz);have fJ:val b.m<4294967296^(max a.m.length b.m.length):=aip (bG _ (Wh.ws hb)) (ae6 oz oz);have h3:(ofNat (val a.m+val b.m)).length<=max a.m.length b.m.length+1:=fi (by rw[ae5];omega);have h4:(ofNat (val a.m-val b.m)).length<=max a.m.length b.m.length:=fi oz;have h5:(ofNat (val b.m-val a.m)).length<=max a.m.length b.m.length:=fi oz;refine ak func116 ?_;refine gc (kC a ha) ?_;refine gc (kC b hb) ?_;refine gD ?_;refine gc (jv a ha) ?_;refine gc (jv b hb) ?_;refine gD ?_;refine gC (fun z=>?_) (fun z=>?_)
 ·have h0 : a.n = b.n := by simpa using z
  refine gc (jv a ha) ?_;refine gc (Nv a.m b.m (Wh.ws ha) (Wh.ws hb) oz oz) ?_;refine gc (ku _ _ (cT _) oz) ?_;refine ah ?_;rw[bN,IP h0];rfl
 have h0:a.n≠b.n:=by simpa using z
 refine gc (Em a.m b.m (Wh.ws ha) (Wh.ws hb) a.nz b.nz) ?_;refine gC (fun t23=>?_) (fun t23=>?_)
 ·have h6:val b.m<=val a.m:=by
   rcases aid (val a.m) (val b.m)with h |h
   ·rw[ajg h]at t23;cases t23
   ·exact h
  refine gc (jv a ha) ?_;refine gc (Fz a.m b.m (Wh.ws ha) (Wh.ws hb) oz (by rcases aid a.m.length b.m.length with h |h;(have:=wC (Wh.ws ha) b.nz h;omega);exact h) h6) ?_;refine gc (ku _ _ (cT _) oz) ?_;refine ah ?_;rw[bN,Ed h0 h6];rfl
 have h6:val a.m<val b.m:=by
  rcases aid (val a.m) (val b.m)with h |h
  ·exact h
  ·rw[ajf oz]at t23;split at t23 <;> cases t23
 refine gc (jv b hb) ?_;refine gc (Fz b.m a.m (Wh.ws hb) (Wh.ws ha) oz (by rcases aid b.m.length a.m.length with h |h;(have:=wC (Wh.ws hb) a.nz h;omega);exact h) oz) ?_;refine gc (ku _ _ (cT _) oz) ?_;refine ah ?_;rw[bN,Jq h0 oz];rfl
theorem Jg(a b:Wh)(ha:a.ok)(hb:b.ok)(la:a.mag.length<aw)(lb:b.mag.length<aw):FP 119 [a.av,b.av] (zA (ags a.z b.z)):=by
 refine ak func119 ?_;refine gc (kC a ha) ?_;refine gc (kC b hb) ?_;refine gD ?_;refine fF [4] [4] (fun(x y:List Nat)=>[pP 5 (ws x),pP 6 (ws y)]) (fun _ _=>[]) (fun x y=>Ws x/\Ws y/\Nz x/\Nz y/\x.length<aw/\y.length<aw/\aej (val x) (val y)=ags a.z b.z) (fun _ y=>val y) a.m b.m ⟨Wh.ws ha,Wh.ws hb,a.nz,b.nz,Wh.small ha la,Wh.small hb lb,by rw[ags,Wh.abs,Wh.abs]⟩ ?_;rintro x y ⟨wx,wy,nx,ny,lx,ly,hg⟩ K1 J1;refine gl ?_;refine gC (fun t15=>?_) (fun t15=>?_)
 ·have hy : y ≠ [] := by intro h; subst h; simp [aa] at t15
  have hy0:=qC ny hy;have hm:=aeg (val x) hy0;refine gc (NH x y wx wy nx ny hy lx ly) ?_;exact fC J1 y (ofNat (val x%val y)) ⟨wy,cT _,ny,uq _,ly,aiz (fi (Nat.lt_trans hm (bG y wy))) ly,by rw[bN,<- hg,aev (val x) (val y),aev (val y) (val x%val y)];exact(Nat.gcd_rec _ _).symm⟩ (by show val (ofNat _)<val y;rw[bN];exact hm)
 have hy:y=[]:=by
  cases y with
  |nil=>rfl
  |cons c l=>simp[aa]at t15
 subst hy;have hg':val x=ags a.z b.z:=by rw[<- hg];simp[val]
 refine gc (ku false x wx (aea lx)) ?_;refine ah ?_;rw[hg'];rfl
theorem QO(a b:Wh)(ha:a.ok)(hb:b.ok)(la:a.mag.length+1<aw)(lb:b.mag.length<aw)(h0:b.z≠0):FP 120 [a.av,b.av] (.tup [zA (a.z/b.z),zA (a.z%b.z),.v .nilIface]):=by
 have f0:=Wh.m_le (w:=a);have jO:=Wh.m_le (w:=b);have bh:val b.m≠0:=by have:=Wh.abs (w:=b);omega
 have a8:b.m≠[]:=fun h=>bh (by rw[h];rfl)
 have pZ:(ofNat (val a.m/val b.m)).length<=a.m.length:=fi (aiz (afd _ _) (bG _ (Wh.ws ha)));have xt:=aeg (val a.m) (show 0<val b.m by omega);have qc:(ofNat (val a.m%val b.m)).length<=b.m.length:=fi (Nat.lt_trans xt (bG _ (Wh.ws hb)));have hl3:(ofNat (val a.m/val b.m+1)).length<=a.m.length+1:=fi (by have h7:=aiz (afd (val a.m) (val b.m)) (bG _ (Wh.ws ha));rw[ae5];generalize val a.m/val b.m=m at *;omega);have hl4:(ofNat (val b.m-val a.m%val b.m)).length<=b.m.length:=fi (by have:=bG _ (Wh.ws hb);omega);have uH:val [1]=1:=rfl;refine ak func120 ?_;refine gc (kC b hb) ?_;refine gl ?_;refine gC (fun z=>?_) (fun z=>?_) (st1:=(3,0));exact ajm (af7.1 (by simpa[aa]using z)) a8;refine gc (kC a ha) ?_;refine gc (NH a.m b.m (Wh.ws ha) (Wh.ws hb) a.nz b.nz a8 oz oz) ?_;refine gc (jv a ha) ?_;refine cq ?_;refine gC (fun z=>?_) (fun z=>?_)
 ·have h1:a.n = true /\ 0 < val a.m % val b.m:=yz.1 z;obtain ⟨e1,e2⟩:=NK bh h1.1 h1.2;refine gc (Nv (ofNat (val a.m / val b.m)) [1] (cT _) (xf oz) oz (by unfold aw; simp)) ?_;refine gc (Fz b.m (ofNat (val a.m % val b.m)) (Wh.ws hb) (cT _) oz qc (by rw [bN]; omega)) ?_ (7,0);refine gW (Wk.of (sl:=[pP 2 (.ptr 2 0),pP 3 (.ptr 3 0),pP 4 (.ptr 4 0),pP 5 (.ptr 5 0),pP 8 (ws (ofNat (val a.m / val b.m + 1))),pP 9 (ws (ofNat (val b.m - val a.m % val b.m)))]) (hp:=[pP 2 (.box [bl a.neg,ws a.mag]),pP 3 (.box [bl b.neg,ws b.mag]),pP 4 (.box [.v (.bool false),nS]),pP 5 (.box [.v (.bool false),nS])]) (.k (.k (.k (.k (.cons rfl (.of (by rw [bN,uH])) (.cons rfl (.of (by rw [bN])) .nil)))))) (.k (.k (.k (.k .nil))))) ?_
  refine gc (jv a ha) ?_;refine gc (jv b hb) ?_;refine gc (by apply ku _ _ (cT _) oz) ?_;refine gc (by apply ku _ _ (cT _) oz) ?_;refine gD ?_;refine gR ?_;exact wm (by rw[bN,bN,e1,show sgn false _=_ from e2];rfl)
 have h1:¬(a.n=true/\0<val a.m%val b.m):=fun h=>ahb.1 z (yz.2 h)
 obtain⟨e1,e2⟩:=IZ bh h1;refine gc (jv a ha) ?_;refine gc (jv b hb) ?_;refine gc (by apply ku _ _ (cT _) oz) ?_;refine gc (by apply ku _ _ (cT _) oz) ?_;refine gD ?_;refine gR ?_;exact wm (by rw[bN,bN,e1,show sgn false _=_ from e2];rfl)
theorem zd{N:Nat}(h:N<18446744073709551616):val [N%4294967296,N/2^32]=N:=by
 simp only[val];omega
theorem zl{N:Nat}(h:N<18446744073709551616):Ws [N%4294967296,N/2^32]:=by
 intro x hx;simp only[aiq,aim,or_false]at hx;rcases hx with rfl |rfl <;> omega
theorem zz(n:Int)(h:-9223372036854775808<=n/\n<=9223372036854775807):FP 47 [i64 n] (zA n):=by
 obtain⟨N,hN⟩:∃N,N=n.natAbs:=⟨_,rfl⟩
 have ot:N<18446744073709551616:=by omega
 refine ak func47 ?_;refine gv (show IntKind.u64.wrap n=((n%18446744073709551616:Int)) by simp only[IntKind.wrap,IntKind.signed,IntKind.bits,ahe,if_false,ahi];omega) ?_;refine gC (fun z=>?_) (fun z=>?_) (st2:=(77777,0))
 ·have hn : n < 0 := by simpa [aa] using z
  refine gs (zB (.tmp rfl) rfl) ?_ (4,0);refine gW (Wk.of (sl:=[pP 0 (i64 n),pP 2 (.ptr 2 0),pP 3 (u64 N)]) (hp:=[pP 2 (.box [.v (.bool false),nS])]) (.k (.k (.cons rfl (Sub.int (by simp only[IntKind.wrap,IntKind.signed,IntKind.bits,ahe,if_false,ahi];omega)) .nil))) (.k .nil)) ?_;refine gv (dj _) ?_;refine gs (fd (.tmp rfl) (.const _) oz (ib _ 32 oz) rfl) ?_;refine gv ((dj _).trans (by rw[ae7 (show N/2^32<4294967296 by omega)])) ?_;refine gc (ku (aa .lss n 0) [N%4294967296,N/2^32] (zl ot) (by unfold aw;simp)) ?_;refine ah ?_;rw[zd ot,show sgn (aa .lss n 0) N=n by simp only[sgn,aa,ajh];split <;> omega];rfl
 have hn:¬n<0:=by simpa[aa]using z
 refine gW (Wk.of (sl:=[pP 0 (i64 n),pP 2 (.ptr 2 0),pP 3 (u64 N)]) (hp:=[pP 2 (.box [.v (.bool false),nS])]) (.k (.k (.cons rfl (Sub.int oz) .nil))) (.k .nil)) ?_;refine gv (dj _) ?_;refine gs (fd (.tmp rfl) (.const _) oz (ib _ 32 oz) rfl) ?_;refine gv ((dj _).trans (by rw[ae7 (show N/2^32<4294967296 by omega)])) ?_;refine gc (ku (aa .lss n 0) [N%4294967296,N/2^32] (zl ot) (by unfold aw;simp)) ?_;refine ah ?_;rw[zd ot,show sgn (aa .lss n 0) N=n by simp only[sgn,aa,ajh];split <;> omega];rfl
theorem Ef:∀(j k v:Nat),j<=k->(aT k v).take j=aT j v
 |0,_,_,_=>by simp[aT]
 |j+1,0,_,h=>by omega
 |j+1,k+1,v,h=>by
  rw[aT,aT,List.take_succ_cons,Ef j k _ oz]
theorem OA{m:List Nat}(h:Ws m):(ofNat (val m)).length<=m.length:=fi (bG m h)
theorem MV{m:List Nat}(h:Ws m):m.take (ofNat (val m)).length=ofNat (val m):=by
 have h1:=vo m h;have h2:=vo (ofNat (val m)) (cT _);rw[bN]at h2;have h3:=Ef _ _ (val m) (OA h);rw[<- h1,<- h2]at h3;exact h3
theorem HT{m:List Nat}{n:Nat}(h:Ws m)(hn:n<=m.length)(hv:val (m.take n)=val m)(h0:n=0\/aj m (n-1)≠0):n=(ofNat (val m)).length:=by
 have h1:m.take n=ofNat (val m):=by
  refine H7 (gH h n) ?_ hv;intro x hx;rcases h0 with h0 |h0
  ·subst h0;simp at hx
  ·have gT : n ≠ 0 := by intro h3; subst h3; simp at hx
   rw[afw,air,afc hn,ai1,ajg oz,jX oz]at hx;cases hx;exact h0
 rw[<- h1,air,afc hn]
theorem EC(l:List Nat)(i:Nat):val l=val (l.take i)+4294967296^i*val (l.drop i):=by
 rcases aid i l.length with h |h
 ·exact DP oz
 ·rw[eM h,aiy h];simp[val]
theorem vP(l:List Nat)(i:Nat):val (l.drop i)=aj l i+4294967296*val (l.drop (i+1)):=by
 rcases aid i l.length with h |h
 ·exact uc h
 ·rw[sR h,aiy h,aiy oz];rfl
theorem Ic{a b:List Nat}{i:Nat}(ha:Ws a)(he:val (a.drop (i+1))=val (b.drop (i+1)))(hx:aj a i<aj b i):val a<val b:=by
 rw[EC a (i+1),EC b (i+1),he];have:=MB ha hx;omega
theorem acy{xs ys:List AV}(hl:xs.length=ys.length)(h1:∀(j:Nat)(y:AV),ys[j]?=some y->y.one=true)(h:∀(j:Nat)(x y:AV),xs[j]?=some x->ys[j]?=some y->Sub x y):Sub (.agg xs) (.agg ys):=by
 intro g S m v hr;cases hr with
 |agg hn h2 hr =>
  refine .agg (hn.trans hl) h1 ?_;intro j u c hu hc
  have hj:j<xs.length:=by
   rw[hl];rcases aid j ys.length with h |h
   ·exact h
   ·rw[aig h]at hc;cases hc
  exact h j _ c (ah9 hj) hc _ _ _ _ (hr j u _ hu (ah9 hj))
theorem Xx:Sub (.agg [.v (.bool false),.v (.slice none 0 0)]) (zA 0):=by
 show Sub (.agg [.v (.bool false),.v (.slice none 0 0)]) (.agg [bl false,ws []]);refine acy rfl ?_ ?_
 ·intro j y hy
  match j,hy with
  |0,hy=>cases hy;rfl
  |1,hy=>cases hy;rfl
 ·intro j x y hx hy
  match j,hx,hy with
  |0,hx,hy=>cases hx;cases hy;exact Sub.refl _
  |1,hx,hy=>cases hx;cases hy;exact Sub.nil _ _ _
theorem HU{out:List Nat}{i x:Nat}(h:out.length=i):val (out++[x])=val out+4294967296^i*x:=by
 rw[uk,h];simp[val]
theorem NS{o c P x y u w:Nat}(hu:u<4294967296)(hw:w<4294967296)(hc:c<=1)(h:o+y=x+c*P) :
  (o+P*((4294967296+u-w-c)%4294967296))+(y+P*w)=(x+P*u)+(1-(4294967296+u-w-c)/2^32)*(P*4294967296):=by
 have h0:(4294967296+u-w-c)%4294967296+w+c=u+(1-(4294967296+u-w-c)/2^32)*4294967296:=by omega
 generalize(1-(4294967296+u-w-c)/2^32)=q at *;generalize(4294967296+u-w-c)%4294967296=r at *;grind
theorem Om{a b out:List Nat}{c:Nat}(ha:Ws a)(hw:Ws out)(ho:out.length=a.length)(bB:val b<=val a)
  (h:val out+val (b.take a.length)=val (a.take a.length)+c*4294967296^a.length):val out=val a-val b:=by
 have hb:=EC b a.length;have h2:=bG a ha
 have h3:val (b.drop a.length)=0:=by
  rcases ae1 (val (b.drop a.length))with h4 |h4
  ·exact h4
  ·have:=aih (4294967296^a.length) h4;omega
 rw[h3,Nat.mul_zero,ae4]at hb;rw[<- hb,ail]at h;have h1:=bG out hw;rw[ho]at h1;cases c with
 |zero=>omega
 |succ c=>rw[aei]at h;omega
theorem N2{z:Int}{k:Nat}(h:Lz k z)(hk:k<=az):(ofInt z).ok:=⟨cT _,aiw h.len hk⟩
theorem JW{z:Int}{k:Nat}(h:Lz k z):(ofInt z).mag.length<=k:=h.len
theorem YC(x y:Int):(x-y).sign=gX x y:=by
 unfold gX;have h:=Ew (x-y)
 (repeat' split) <;> omega
theorem mC(m:List Nat)(i:Nat)(hm:Ws m):FP 401 [ws m,i64 i] (u64 (aj m i)):=by
 refine ak func401 ?_;refine gl ?_;refine gC (fun z=>?_) (fun z=>?_)
 ·simp[aa]at z;have:=bu hm i;refine gi (bI (i:=i) z) ?_;refine gv (u64_in oz) ?_;refine ah ?_;rfl
 simp[aa]at z;refine ah ?_;simp[u64,sR z]
theorem Lq(w:Wh)(h:w.ok):FP 372 [w.av] (bl w.valid):=by
 have hl:w.mag.length<=az:=h.2;refine ak func372 ?_;refine gl ?_;refine gC (fun z=>?_) (fun z=>?_)
 ·have h0 : w.mag = [] := by simpa [aa] using z
  refine ah ?_;simp[bl,Wh.valid,h0]
 have h0:w.mag.length≠0:=by simpa[aa]using z
 refine gl ?_;refine ga (gx oz oz) ?_;refine gi (bI (i:=w.mag.length-1) oz) ?_;refine ah ?_;have h1:w.mag≠[]:=fun h=>h0 (by rw[h];rfl)
 simp only[bl,Wh.valid,ajf h1,afw,jX (show w.mag.length-1<w.mag.length by omega),aa];congr 2;generalize aj w.mag _=x;rw[ahf];simp
theorem lL(w:Wh)(h:w.ok):FP 303 [w.av] (ws w.m):=by
 refine ak func303 ?_;refine gc (Lq w h) ?_;refine gC (fun z=>?_) (fun z=>?_)
 ·have h0 : w.valid = false := by simpa [aa] using z
  refine gR ?_;exact lP (by rw[show w.m=[] by simp[Wh.m,h0]];exact Sub.nil _ _ _)
 have h0:w.valid=true:=by simpa[aa]using z
 refine ah ?_;simp only[Wh.m,h0];rfl
theorem jD(w:Wh)(h:w.ok):FP 301 [w.av] (bl w.n):=by
 refine ak func301 ?_;refine gc (Lq w h) ?_;refine ah ?_;simp only[Wh.n,bl];cases w.valid <;> rfl
theorem Dj(d:Nat)(hd:aek d 1000=true)(m:List Nat)(hm:Ws m)(hb:m.length<=aw) :
  Con prog 365 [ws m] [] (.ms d 1 0 (ofNat (val m)).length) [(d,some (.row 1 (m.map u32)))]:=by
 have hb':=hb;unfold aw at hb;refine gF func365 (fun k z h=>by cases h) ?_;refine gs (qT T42 rfl T87 rfl rfl rfl) ?_;refine gs (dX (.tmp rfl) rfl rfl (.tmp rfl) T42 rfl T87 rfl rfl (by simp only[ah6];omega) rfl rfl) ?_;refine aK [] [6] (fun(n:Nat)=>[pP 3 (.ms 6 1 0 n)]) (fun _=>[]) (fun n=>n<=m.length/\val (m.take n)=val m) (fun n=>n) m.length ⟨aie _,by rw[ail]⟩ ?_ (h1:=(.cons rfl (.of (by rw[ah6,ae9])) .nil));rintro n ⟨hn,hv⟩ K1 J1;refine kG (fun h=>(gx (by simp[aa]at h;omega) (by unfold az;omega))) ?_;refine gs (fX rfl rfl rfl (fun h=>bt (n:=n-1) (.opt rfl (o1 h)) (.opt rfl (o1 h)) T42 rfl T87 rfl oz (by simp[aa]at h;omega) rfl)) ?_;refine gs (fX rfl rfl rfl (fun h=>dq (.opt rfl (o1 h)) rfl (bI (i:=n-1) (by simp[aa]at h;omega)) T87 rfl rfl rfl)) ?_;refine gC (fun t18=>?_) (fun t18=>?_)
 ·have t18 : 0 < n /\ aj m (n - 1) = 0 := by simpa [aa] using t18
  refine ga (gx oz (by unfold az;omega)) ?_;refine gs (qJ (.tmp rfl) (.none _) (.some _ (.tmp rfl) oz) T42 rfl T87 rfl oz oz rfl) ?_;exact aE J1 (n-1) ⟨by omega,by have h:=@cU m (n-1);rw[show n-1+1=n by omega,t18.2]at h;simp at h;omega⟩ (hw:=Wk.of (.cons rfl (.of (by congr 1)) .nil) (.k .nil))
 have t18:0<n->aj m (n-1)≠0:=by simpa[aa]using t18
 have iS:=HT hm hn hv (by rcases ae1 n with h |h;(exact .inl h);exact .inr (t18 h));subst iS;refine gR ?_;exact aJ.own1 rfl hd rfl
theorem ut(m:List Nat)(hm:Ws m)(hb:m.length<=aw):FP 365 [ws m] (ws (ofNat (val m))):=by
 have h:=Con.freeze (by rw[ah6,ae9];exact OA hm) (Dj 0 rfl m hm hb)
 rwa [ai9,<- map_take,MV hm]at h
theorem kz(b:Bool)(m:List Nat)(hm:Ws m)(hb:m.length<=aw):FP 282 [bl b,ws m] (zA (sgn b (val m))):=by
 refine ak func282 ?_;refine gc (ut m hm hb) ?_;refine gl ?_;refine gC (fun t9=>?_) (fun t9=>?_)
 ·have h0:val m=0:=by
   have:=bN (val m);have h9:ofNat (val m)=[]:=af7.1 (by simpa[aa]using t9);rw[h9]at this;exact this.symm
  refine gR ?_;exact lP (by rw[h0,show sgn b 0=0 by cases b <;> rfl];exact Xx)
 have h0:val m≠0:=by
  intro h;rw[h]at t9;cases t9
 refine ah ?_
 rw[show zA (sgn b (val m))=.agg [bl b,ws (ofNat (val m))] by
  unfold zA ofInt Wh.av;rw[show(sgn b (val m)).natAbs=val m by unfold sgn;split <;> omega,show decide (sgn b (val m)<0)=b by cases b <;> simp[sgn] <;> omega]]
theorem CO(a b:List Nat)(ha:Ws a)(hb:Ws b):FP 370 [ws a,ws b] (i64 (if val a<val b then -1 else if val b<val a then 1 else 0)):=by
 refine ak func370 ?_ (0,0);refine wM (t:=0) rfl (fun p8=>?_);refine wM (t:=1) rfl (fun fJ=>?_);unfold az at p8 fJ;refine go ?_;refine gl ?_;refine gl ?_;refine gs (ra (.tmp rfl) (.tmp rfl) rfl) ?_;refine ga (dg oz) ?_;refine aK [0,1] [] (fun(n:Nat)=>[pP 5 (i64 ((n:Int)-1))]) (fun _=>[]) (fun n=>n<=281474976710656/\val (a.drop n)=val (b.drop n)) (fun n=>n) (max a.length b.length) ⟨by omega,by rw[aiy oz,aiy oz]⟩ ?_ (h1:=(.cons rfl (Sub.int oz) .nil));rintro n ⟨hn,hd⟩ K1 J1;refine gC (fun z=>?_) (fun z=>?_)
 ·have gT : 1 <= n := by have := z; simp [aa] at this; omega
  obtain⟨k,rfl⟩:∃k,n=k+1:=⟨n-1,by omega⟩
  have hk:((k+1:Nat):Int)-1=(k:Int):=by omega
  rw[hk];refine gc (mC a k ha) ?_;refine gc (mC b k hb) ?_;refine gC (fun z=>?_) (fun z=>?_)
  ·have h3 : aj a k ≠ aj b k := by simpa [aa, agm] using z
   refine gc (mC a k ha) ?_;refine gc (mC b k hb) ?_;refine gC (fun z=>?_) (fun z=>?_)
   ·have h4 : aj a k < aj b k := by simpa [aa] using z
    have h5:=Ic ha hd h4;refine ah ?_;simp[i64,h5]
   have h4:aj b k<aj a k:=by have:aj b k<=aj a k:=(by simpa[aa]using z);omega
   have h5:=Ic hb hd.symm h4;refine ah ?_;simp[i64,h5,Nat.lt_asymm h5]
  have h3:aj a k=aj b k:=by simpa[aa,agm]using z
  refine ga (dg oz) ?_;exact aE J1 k ⟨by omega,by rw[vP a,vP b,hd,h3]⟩
 have gT:n=0:=by have:=z;simp[aa]at this;omega
 subst gT;refine ah ?_;simp at hd;simp[i64,hd]
end Go.Lw
