/- LimitsRadicands: for any linkage the law returns true and leaves its argument as it was. No other condition. Part 3 of 8: what the later parts need -/
import Derived.Test.YtmencaoblogmeaaGreatXb
import Derived.Laws.Strings
set_option linter.unusedVariables false
open List (nil_append drop_drop map_take all_append map_map)
open List renaming mem_of_getElem? → ahg, mem_append → ahn, mem_cons → ah3, length_cons → ahx, length_append → aid, length_nil → ah9, getD_eq_getElem?_getD → ahh, getElem?_append_left → ah4, getElem?_eq_none → aht, all_eq_true → ahs, getElem?_take → aie, getElem?_drop → aii, getElem?_map → aho, append_assoc → aip, getElem?_append_right → ahz, getElem?_eq_getElem → ahm, drop_eq_nil_of_le → aib, getElem?_replicate → aia, map_append → aih, length_take → ah5, take_of_length_le → ah1, drop_zero → aim, take_length → ahw, not_mem_nil → ahy, length_map → ahk, length_replicate → ah7, map_replicate → aik, map_set → ain, mem_of_mem_take → aes, mem_of_mem_drop → aeu, getElem_mem → aey, length_pos_iff → aez, take_succ_eq_append_getElem → ae0, take_append_drop → ae1, mem_singleton → ae4, getLast?_eq_getElem? → ae6, drop_eq_getElem_cons → ae7, drop_append_of_le_length → ae9, mem_iff_getElem → afa, drop_length → afb, length_eq_one_iff → afc, take_append_of_le_length → aff, map_congr_left → afg, getElem?_eq_some_iff → afh, length_drop → afi, map_drop → afk, eq_nil_of_length_eq_zero → afn, length_eq_zero_iff → afp, replicate → afq, take_take → afr, mem_map → aft, mem_range → afu
open Nat renaming eq_of_beq_eq_true → ahi, le_refl → ahr, lt_of_lt_of_le → ah2, lt_or_ge → ahq, le_trans → ah8, mul_le_mul_right → ah0, mul_le_mul_left → ahu, zero_le → ahv, pow_add → ail, lt_of_le_of_lt → aic, max_eq_right → adh, min_eq_left → adi, gcd_comm → adj, eq_zero_or_pos → adm, mod_lt → adn, pow_succ → ado, succ_mul → adp, mul_lt_mul_left → adr, lt_of_mul_lt_mul_left → ads, le_add_right → adt, le_div_iff_mul_le → adu, mul_le_mul → adv, mul_pos → adw, div_add_mod → adz, mul_assoc → ad0, max_eq_left → ad1, add_mul → ad2, mul_lt_mul'' → ad4, mod_eq_of_lt → ad5, pow_lt_pow_right → ad6, pow_pos → ad7, pow_le_pow_right → ad8, beq → ad9, le_of_lt → aea, div_eq_of_lt → aeb, gcd → aed, mul_comm → aef, zero_add → aeg, div_le_self → aeh, pow_mul → aei, two_pow_pos → aej, add_mul_div_left → aek, mul_add → ael, blt → aem, div_div_eq_div_mul → aen, sub_add_cancel → aeo, add_zero → aep, add_sub_cancel → aeq, div_lt_iff_lt_mul → aer
open Option renaming map_eq_some_iff → ahl, map_some → ahd, getD_some → ahe
open Bool renaming and_eq_true → ahj, or_eq_true → aio, eq_false_iff → agn, false_and → agq, eq_iff_iff → ags, true_and → agu, false_eq_true → agv
open Array renaming getD_eq_getD_getElem? → ahp, getElem?_eq_none → agw, getElem?_toList → ag9, length_toList → ahc
open Int renaming toNat_natCast → aij, natAbs_natCast → aif, sign_trichotomy → afy, gcd → af1, mul_ne_zero → af2, ofNat_inj → af3, natCast_ediv → af5, natAbs_mul → af6, natCast_nonneg → af7, lt_trichotomy → af8, sign_eq_one_iff_pos → af9, mul_nonneg → aga, sign_eq_neg_one_iff_neg → agc
open Rat renaming intCast_mul → agd, intCast_eq_zero_iff → agf, divInt → agl, num_divInt_den → agm
open Decidable renaming not_not → ahf
open Go renaming Operand → ai2, TypeId → ai4, Program → ai5, World → ai6
open Go.Proofs.Tryz
namespace Go.Lw
def aS:Nat->Nat->List Nat
  |0,_=>[]
  |k+1,v=>v%4294967296::aS k (v/4294967296)
theorem fh:∀k v,(aS k v).length=k
 |0,_=>rfl
 |k+1,v=>by simp[aS,fh k]
theorem ku:∀k v,Ws (aS k v)
 |0,_=>uO
 |k+1,v=>by
  intro x hx;rcases ah3.1 hx with h |h
  ·omega
  ·exact ku k _ x h
theorem mi:∀k v,v<4294967296^k->val (aS k v)=v
 |0,v,h=>by simp at h;subst h;rfl
 |k+1,v,h=>by
  rw[ado]at h;simp only[aS,val];rw[mi k _ oz];omega
theorem w9:∀(l:List Nat),Ws l->l=aS l.length (val l)
 |[],_=>rfl
 |x::l,h=>by
  have hx:=h x (by simp);have ih:=w9 l (fun y hy=>h y (by simp[hy]));simp only[ahx,aS,val];rw[show(x+4294967296*val l)%4294967296=x by omega,show(x+4294967296*val l)/4294967296=val l by omega,<- ih]
theorem zc{l:List Nat}{k v:Nat}(h:Ws l)(hk:l.length=k)(hv:val l=v):l=aS k v:=by
 subst hk;subst hv;exact w9 l h
theorem ye{l:List Nat}(h:Ws l)(i:Nat)(hi:i<=l.length):val l/4294967296^i=val (l.drop i):=by
 rw[wc l i,adi hi];have h1:=bF (l.take i) (gO h i);rw[ah5,adi hi]at h1;rw[aek _ _ oz,aeb h1,aeg]
theorem yY{n k:Nat}(h:n<=k):2^k=2^(k-n)*2^n:=by rw[<- ail];congr 1;omega
theorem TL{x w n:Nat}(hn:n<32)(hw:w<2^n):w ||| x*2^n%4294967296=w+x*2^n%4294967296:=by
 have h1:x*2^n%4294967296=(x%2^(32-n))*2^n:=by
  rw[show 4294967296=2^32 from rfl,yY (show n<=32 by omega),Nat.mul_mod_mul_right]
 rw[h1];exact Dk hw
theorem Yg{x n:Nat}(hx:x<4294967296):x*2^n/4294967296<2^n:=by
 rw[aer oz,aef];exact Nat.mul_lt_mul_of_pos_left hx (ad7 oz)
theorem qB{n k:Nat}(h:n<=k):2^n<=2^k:=ad8 oz h
theorem ZJ{x w n:Nat}(hn:n<32)(hw:w<2^n):w+x*2^n%4294967296<4294967296:=by
 have h1:x*2^n%4294967296=(x%2^(32-n))*2^n:=by
  rw[show 4294967296=2^32 from rfl,yY (show n<=32 by omega),Nat.mul_mod_mul_right]
 have h2:x%2^(32-n)+1<=2^(32-n):=adn _ (ad7 oz);have h3:=ah0 (2^n) h2;rw[<- yY (show n<=32 by omega),ad2]at h3;omega
theorem aaa{a out:List Nat}{i n:Nat}(hi:i+1<out.length)(h:val (out.take (i+1))=2^n*val (a.take i)) :
  val (((out.set i (aj out i+aj a i*2^n%4294967296)).set (i+1) (aj a i*2^n/4294967296)).take (i+1+1))=2^n*val (a.take (i+1)):=by
 rw[mf (by simpa using hi),mf oz,cU (l:=a)];rw[cU]at h;have:=adz (aj a i*2^n) 4294967296;generalize aj a i*2^n%4294967296=r at *;generalize aj a i*2^n/4294967296=q at *;rw[ado];grind
theorem Qv{a:List Nat}{i n:Nat}(h:Ws a)(hi:i<a.length)(hn:n<=32) :
  (aj a i+aj a (i+1)*2^32)/2^n%4294967296=(val a/2^n/4294967296^i)%4294967296:=by
 rw[aen,aef (2^n),<- aen,ye h i oz,sf hi]
 have h1:val (a.drop (i+1))=aj a (i+1)+4294967296*val (a.drop (i+2)):=by
  rcases ahq (i+1) a.length with h |h
  ·exact sf h
  ·rw[tt h,aib oz,aib oz];rfl
 rw[h1];generalize val (a.drop (i+2))=R
 have h2:aj a i+4294967296*(aj a (i+1)+4294967296*R)=(aj a i+aj a (i+1)*2^32)+2^n*(2^(32-n)*R*4294967296):=by
  have h3:=yY hn;rw[show(2:Nat)^n*(2^(32-n)*R*4294967296)=(2^(32-n)*2^n)*R*4294967296 by grind,<- h3];omega
 rw[h2,aek _ _ (ad7 oz),Nat.add_mul_mod_self_right]
theorem NE{a out:List Nat}{i n:Nat}(h:Ws a)(hi:i<a.length)(ho:i<out.length)(hn:n<=32)(hv:val (out.take i)=val a/2^n%4294967296^i) :
  val ((out.set i ((aj a i+aj a (i+1)*2^32)/2^n%4294967296)).take (i+1))=val a/2^n%4294967296^(i+1):=by
 rw[mf ho,Qv h hi hn,ado,Nat.mod_mul,hv]
theorem ab4{a out:List Nat}{n:Nat}(h:Ws a)(ho:out.length=a.length)(hv:val (out.take a.length)=val a/2^n%4294967296^a.length):val out=val a/2^n:=by
 rw[eO oz]at hv;rw[hv,ad5];exact aic (aeh _ _) (bF a h)
theorem WL{a o:List Nat}{i r w:Nat}(hi:i<a.length)(ho:i<o.length)(h:val (a.drop (i+1))=w*val (o.drop (i+1))+r) :
  val (a.drop i)=w*val ((o.set i ((r*2^32+aj a i)/w)).drop i)+(r*2^32+aj a i)%w:=by
 rw[NU ho,sf hi,h];have:=adz (r*2^32+aj a i) w;generalize(r*2^32+aj a i)%w=r' at *;generalize(r*2^32+aj a i)/w=q at *;grind
theorem SU{r w x:Nat}(hr:r<w)(hx:x<4294967296):(r*2^32+x)/w<4294967296:=by
 rw[aer oz];have:=ahu 4294967296 (show r+1<=w from hr);omega
theorem xQ{a q w r:Nat}(h:a=w*q+r)(hr:r<w):a/w=q/\a%w=r:=by
 subst h;rw[Nat.mul_add_div oz,Nat.mul_add_mod,aeb hr,ad5 hr];simp
theorem R5{l:List Nat}{i x:Nat}(h:i<l.length):aj (l.set i x) i=x:=by simp[aj,h]
theorem aI.own2{s:AS}{k:Nat}{y z:Blk}{x r:AV}(h:lk s.hp k=some y)(hz:y=z)(hx:x=r):aI s x r [(k,some z)]:=by
 subst hz;subst hx
 refine aI.keep ?_;intro k' z' h';rw[aA]at h';split at h'
 ·rename_i e;cases h';rw[e];exact h
 ·cases h'
def a5(u:List Nat)(j n:Nat):List Nat:=(u.drop j).take n
def wr(u:List Nat)(j:Nat)(l:List Nat):List Nat:=u.take j++l++u.drop (j+l.length)
theorem Ch{u o:List Nat}{j n:Nat}(h1:o.take j=u.take j)(h2:o.drop (j+n)=u.drop (j+n))(hn:j+n<=o.length):o=wr u j (a5 o j n):=by
 have hl:(a5 o j n).length=n:=by simp[a5];omega
 unfold wr;rw[hl,<- h1,<- h2]
 conv=>lhs;rw[<- ae1 j o]
 rw[aip];congr 1;unfold a5
 conv=>lhs;rw[<- ae1 n (o.drop j)]
 rw[drop_drop]
theorem nk{u l:List Nat}{j:Nat}(h:j+l.length<=u.length):(wr u j l).length=u.length:=by simp[wr];omega
theorem Ar{a b:List Nat}(ha:Ws a)(hb:Ws b):Ws (a++b):=fun x hx=>(ahn.1 hx).elim (ha x) (hb x)
theorem Ms{l:List Nat}(h:Ws l)(n:Nat):Ws (l.drop n):=fun x hx=>h x (aeu hx)
theorem pH{l:List Nat}(h:Ws l)(i n:Nat):Ws (a5 l i n):=gO (Ms h i) n
theorem uc{u l:List Nat}{j:Nat}(hu:Ws u)(hl:Ws l):Ws (wr u j l):=Ar (Ar (gO hu _) hl) (Ms hu _)
theorem qY{u:List Nat}{j n:Nat}(h:j+n<=u.length):(a5 u j n).length=n:=by simp[a5];omega
theorem Wm{u l:List Nat}{j:Nat}(h:j+l.length<=u.length):val ((wr u j l).drop j)=val l+4294967296^l.length*val (u.drop (j+l.length)):=by
 unfold wr;rw[aip,ae9 (by simp;omega),aib (by simp;omega),nil_append,tv]
theorem Mj{u:List Nat}{j n:Nat}(h:j+n<=u.length):val (u.drop j)=val (a5 u j n)+4294967296^n*val (u.drop (j+n)):=by
 rw[wc (u.drop j) n,drop_drop,adi (by simp;omega)];rfl
theorem DO{u:List Nat}{j:Nat}(h:j<=u.length):val u=val (u.take j)+4294967296^j*val (u.drop j):=by
 rw[wc u j,adi h]
theorem In{u l:List Nat}{j:Nat}(h:j<=u.length):(wr u j l).take j=u.take j:=by
 unfold wr;rw[aip,aff (by simp;omega),ah1 (by simp;omega)]
theorem Vu{u l:List Nat}{j:Nat}(h:j<=u.length):(wr u j l).drop (j+l.length)=u.drop (j+l.length):=by
 unfold wr;rw[List.drop_append,aib (by simp;omega)];simp[adi h]
theorem x4{l:List Nat}{j i:Nat}:aj (l.drop j) i=aj l (j+i):=by simp[aj]
theorem tW{u o:List Nat}{k:Nat}(h:o.drop k=u.drop k):aj o k=aj u k:=by
 have h1:=x4 (l:=o) (j:=k) (i:=0);have h2:=x4 (l:=u) (j:=k) (i:=0);rw[h]at h1;simpa using h1.symm.trans h2
theorem vo{u o:List Nat}{k x:Nat}(h:o.drop k=u.drop k):(o.set k x).drop (k+1)=u.drop (k+1):=by
 rw[List.drop_set_of_lt oz];have h1:(o.drop k).drop 1=(u.drop k).drop 1:=by rw[h]
 rwa [drop_drop,drop_drop]at h1
theorem I6{o:List Nat}{j i x:Nat}(h:j+i<o.length):val (a5 (o.set (j+i) x) j (i+1))=val (a5 o j i)+4294967296^i*x:=by
 unfold a5;rw[List.drop_set,ais oz,Nat.add_sub_cancel_left,mf (by simp;omega)]
theorem L1{u:List Nat}{j i:Nat}:val (a5 u j (i+1))=val (a5 u j i)+4294967296^i*aj u (j+i):=by
 unfold a5;rw[cU,x4]
theorem WY{lo c P n V w:Nat}(h:lo+c*P=n*V):(lo+P*((c+n*w)%4294967296))+((c+n*w)/4294967296)*(P*4294967296)=n*(V+P*w):=by
 have:=adz (c+n*w) 4294967296;generalize(c+n*w)%4294967296=r at *;generalize(c+n*w)/4294967296=q at *;grind
def kI(n V W len:Nat):Nat:=if n*V<=W then W-n*V else W+4294967296^len-n*V
theorem PL{u o v:List Nat}{off len n c b lo:Nat}(hu:Ws u)(ho:Ws o)(hl:o.length=u.length)(hj:off+len<=u.length)(hv:Ws v)(lV:v.length+1<=len)(hn:n<4294967296)
  (h1:o.take off=u.take off) (h2:o.drop (off+len)=u.drop (off+len)) (hb:b<=1) (h3:lo+c*4294967296^len=n*val (v.take len))
  (h4:val (a5 o off len)+lo=val (a5 u off len)+b*4294967296^len) :
  o=wr u off (aS len (kI n (val v) (val (a5 u off len)) len))/\(b=1↔val (a5 u off len)<n*val v):=by
 rw[eO oz]at h3
 have hV:n*val v<4294967296^len:=by
  have h5:=bF v hv;have h6:4294967296^(v.length+1)<=4294967296^len:=ad8 oz lV;rw[ado,aef]at h6;exact ah2 (ad4 hn h5) h6
 have hc:c=0:=by
  cases c with
  |zero=>rfl
  |succ c=>rw[adp]at h3;omega
 subst hc;rw[Nat.zero_mul,aep]at h3;subst h3;have ho':=bF (a5 o off len) (pH ho _ _);have hu':=bF (a5 u off len) (pH hu _ _);rw[qY oz]at ho' hu';have hb':b=0\/b=1:=by omega
 refine⟨?_,?_⟩
 ·have h7:a5 o off len=aS len (kI n (val v) (val (a5 u off len)) len):=by
   refine zc (pH ho _ _) (qY oz) ?_;unfold kI;rcases hb' with rfl |rfl
   ·rw[ait oz];omega
   ·rw[ais oz];omega
  rw[<- h7];exact Ch h1 h2 oz
 ·rcases hb' with rfl |rfl <;> omega
theorem abh{u o v:List Nat}{off len c:Nat}(ho:Ws o)(hl:o.length=u.length)(hj:off+len<=u.length)(lV:v.length<=len)
  (h1:o.take off=u.take off) (h2:o.drop (off+len)=u.drop (off+len)) 
  (h4:val (a5 o off len)+c*4294967296^len=val (a5 u off len)+val (v.take len)) :
  o=wr u off (aS len ((val (a5 u off len)+val v)%4294967296^len)):=by
 rw[eO oz]at h4;have ho':=bF (a5 o off len) (pH ho _ _);rw[qY oz]at ho'
 have h7:a5 o off len=aS len ((val (a5 u off len)+val v)%4294967296^len):=by
  refine zc (pH ho _ _) (qY oz) ?_;rw[<- h4,Nat.add_mul_mod_self_right,ad5 ho']
 rw[<- h7];exact Ch h1 h2 oz
def aM(x:Nat):Nat:=if x=0 then 0 else x.log2+1
theorem kp{x:Nat}(h:x<256):IntKind.u8.wrap (x:Int)=(x:Int):=by
 simp only[IntKind.wrap,IntKind.signed,IntKind.bits,agq,if_false,agv];omega
theorem x7{x:Nat}:x<2^aM x:=by
 unfold aM;split
 ·next h=>subst h;decide
 ·exact Nat.lt_log2_self
theorem yH{x:Nat}(h:x≠0):2^(aM x-1)<=x:=by
 unfold aM;rw[ais h,aeq];exact Nat.log2_self_le h
theorem XJ{x k:Nat}(h1:2^k<=x)(h2:x<2^(k+1)):aM x=k+1:=by
 have hx:x≠0:=by intro h;subst h;have:=ad7 (n:=k) (show 0<2 by omega);omega
 unfold aM;rw[ais hx,(Nat.log2_eq_iff hx).2 ⟨h1,h2⟩]
theorem wV{x k:Nat}(h:2^k<=x):aM x=k+aM (x/2^k):=by
 have h0:x/2^k≠0:=by
  have:=Nat.div_pos h (ad7 oz);omega
 have h1:=yH h0;have h2:=x7 (x:=x/2^k);have h3:1<=aM (x/2^k):=by unfold aM;rw[ais h0];omega
 generalize aM (x/2^k)=m at *;obtain⟨n,rfl⟩:∃n,m=n+1:=⟨m-1,by omega⟩
 rw[aeq]at h1;rw[adu (ad7 oz),<- ail]at h1;rw[aer (ad7 oz),<- ail]at h2;rw[show k+(n+1)=(n+k)+1 by omega];exact XJ h1 (by rw[show n+k+1=n+1+k by omega];exact h2)
theorem ET{x:Nat}(h:x≠0)(hx:x<4294967296):aM x<=32/\1<=aM x/\2147483648<=2^(32-aM x)*x/\2^(32-aM x)*x<4294967296:=by
 have h1:=yH h;have h2:=x7 (x:=x);have h3:1<=aM x:=by unfold aM;rw[ais h];omega
 have h4:aM x<=32:=by
  rcases ahq 32 (aM x)with h5 |h5
  ·have:2^32<=2^(aM x-1):=qB oz;omega
  ·exact h5
 refine⟨h4,h3,?_,?_⟩
 ·have:=ahu (2^(32-aM x)) h1;rw[<- ail,show 32-aM x+(aM x-1)=31 by omega]at this;omega
 ·have:=(adr (a:=2^(32-aM x)) (ad7 oz)).2 h2;rw[<- ail,show 32-aM x+aM x=32 by omega]at this;omega
def N2(b:ByteArray):Bool:=ad9 b.data.toList.length 256&&(List.range 256).all fun y=>ad9 (b.data.toList.getD y 0).toNat (aM y)
theorem AM{P:ai5}{N:Nat}{R:Array Oper}{s:AS}{d:Nat}{x ix:ai2}{kk:IntKind}{i:Int}{y:Nat}{b:ByteArray}{T t:ai4}{ti:TI}{pos:String}{after:Array Edge}
  (hx:Ev s x (.v (.string b))) (hi:Ev s ix (.v (.int kk i))) (hT:aq P T=some ti) (hk:ti.k=.string)
  (hb:N2 b=true) (h0:i=(y:Int)) (hy:y<256) (hN:aem d N=true) :
  Step P N R s ⟨some d,.index T x ix,t,pos,after,none⟩ ⟨some (.v (.int .u8 (aM y))),[],ai x++ai ix,[]⟩:=by
 subst h0;simp only[N2,ahj,ahs,afu]at hb;have hs:b.size=256:=by have:=ahi hb.1;rw[ahc]at this;exact this
 have h1:=ahi (hb.2 y hy);have:=wP (R:=R) (N:=N) (t:=t) (pos:=pos) (after:=after) hx hi hT hk oz oz hN;rw[aij]at this;rw[ahh,ag9,<- ahp]at h1
 rwa [h1]at this
theorem kF{x:Nat}(h:x<256):aM x<=8:=by
 rcases ahq 8 (aM x)with h5 |h5
 ·have h0 : x ≠ 0 := by intro h0; subst h0; simp [aM] at h5
  have h1:=yH h0;have:2^8<=2^(aM x-1):=qB oz;omega
 ·exact h5
structure Dig(V W P V' W' top next third head:Nat):Prop where
  hV:V=V'+P*(next+4294967296*top)
  hW:W=W'+P*(third+4294967296*head)
  hV':V'<P
  hW':W'<P
  hnext:next<4294967296
  hthird:third<4294967296
  htop:2147483648<=top
  htopB:top<4294967296
  hlt:W<V*4294967296
namespace Dig
variable{V W P V' W' top next third head:Nat}
theorem vpos(h:Dig V W P V' W' top next third head):0<V:=by
 have:=h.hlt;omega
theorem q_lt(h:Dig V W P V' W' top next third head):W/V<4294967296:=by
 rw[aer h.vpos,aef];exact h.hlt
theorem mul_le(h:Dig V W P V' W' top next third head){q:Nat}(hq:q*V<=W):q*(next+4294967296*top)<=third+4294967296*head:=by
 have h1:q*(P*(next+4294967296*top))<=q*V:=ahu _ (by have:=h.hV;omega);have h2:=h.hW;have h3:=h.hW'
 have h4:P*(q*(next+4294967296*top))<P*(third+4294967296*head+1):=by
  rw[ael P _ 1,Nat.mul_one];have:P*(q*(next+4294967296*top))=q*(P*(next+4294967296*top)):=by grind
  omega
 have:=ads h4;omega
theorem up(h:Dig V W P V' W' top next third head){q:Nat}(hq:q*V<=W):q*top<=head:=by
 have h1:=h.mul_le hq;have h2:=h.hthird;rw[ael,show q*(4294967296*top)=4294967296*(q*top) by grind]at h1;omega
theorem first(h:Dig V W P V' W' top next third head):W/V<=head/top:=by
 have:=h.htop;rw[adu oz];exact h.up (Nat.div_mul_le_self W V)
theorem head_le(h:Dig V W P V' W' top next third head):head<=4294967296*top+next:=by
 have h1:=h.hlt;have h2:=h.hV;have h3:=h.hW;have h4:=h.hV'
 have h5:P*(third+4294967296*head)<P*(4294967296*(next+4294967296*top+1)):=by
  have:V*4294967296<P*(4294967296*(next+4294967296*top+1)):=by
   rw[h2,ad2,show P*(next+4294967296*top)*4294967296=P*(4294967296*(next+4294967296*top)) by grind,ael 4294967296 _ 1,ael P];omega
  omega
 have:=ads h5;omega
theorem step(h:Dig V W P V' W' top next third head){g r:Nat}(hg:W/V<=g)(he:g*top+r=head)(hc:4294967296<=g\/r*4294967296+third<g*next):W/V<g:=by
 rcases hc with hc |hc
 ·have:=h.q_lt;omega
 ·refine Nat.lt_of_le_of_ne hg ?_;intro hq;have h1:=h.mul_le (Nat.div_mul_le_self W V);rw[hq,<- he,ael,ael,show g*(4294967296*top)=4294967296*(g*top) by grind]at h1;omega
theorem last(h:Dig V W P V' W' top next third head){g r:Nat}(he:g*top+r=head)(hc:¬(r<4294967296/\(4294967296<=g\/r*4294967296+third<g*next))) :
  g<4294967296/\g<=W/V+1:=by
 have hh:=h.head_le;have hn:=h.hnext;have htop:=h.htop
 have hg:g<4294967296/\g*next<=r*4294967296+third:=by
  rcases ahq r 4294967296 with hr |hr
  ·have h1:¬(4294967296<=g\/r*4294967296+third<g*next):=fun h'=>hc ⟨hr,h'⟩
   omega
  ·have h1:g<4294967296:=by
    rcases ahq g 4294967296 with h2 |h2
    ·exact h2
    ·have:=ah0 top h2;omega
   refine⟨h1,?_⟩;have h2:g*next<=4294967296*4294967296:=adv oz oz;have h3:4294967296*4294967296<=r*4294967296:=ah0 _ hr;omega
 refine⟨hg.1,?_⟩
 have h1:g*(next+4294967296*top)<=third+4294967296*head:=by
  rw[<- he,ael,ael,show g*(4294967296*top)=4294967296*(g*top) by grind];omega
 have h2:g*V<=W+V:=by
  have h3:g*V'<=4294967296*P:=adv oz (by have:=h.hV';omega);have h4:P*(g*(next+4294967296*top))<=P*(third+4294967296*head):=ahu _ h1;have h5:P*4294967296<=P*(next+4294967296*top):=ahu _ oz;have h6:=h.hV;have h7:=h.hW;have h8:g*V=g*V'+P*(g*(next+4294967296*top)):=by rw[h6];grind
  omega
 have h9:(g-1)*V<=W:=by rw[Nat.sub_mul];omega
 have:=(adu h.vpos).2 h9;omega
end Dig
theorem Lp{l:List Nat}{n:Nat}:val (l.take (n+2))=val (l.take n)+4294967296^n*(aj l n+4294967296*aj l (n+1)):=by
 rw[cU,cU,ado];grind
theorem Wg{l:List Nat}{n:Nat}:val (l.take (n+3))=val (l.take n)+4294967296^n*(aj l n+4294967296*(aj l (n+2)*4294967296+aj l (n+1))):=by
 rw[cU,Lp,ail];grind
theorem p7{l:List Nat}(h:Ws l)(n:Nat):val (l.take n)<4294967296^n:=by
 have h1:=bF (l.take n) (gO h n);exact ah2 h1 (ad8 oz (by simp;omega))
theorem W8{v p:List Nat}{n:Nat}(hv:Ws v)(hp:Ws p)(hl:v.length=n+2)(kj:p.length=n+3)(ht:2147483648<=aj v (n+1))(h:val p<val v*4294967296) :
  Dig (val v) (val p) (4294967296^n) (val (v.take n)) (val (p.take n)) (aj v (n+1)) (aj v n) (aj p n) (aj p (n+2)*4294967296+aj p (n+1)) where
 hV:=by rw[<- Lp,eO oz]
 hW:=by rw[<- Wg,eO oz]
 hV':=p7 hv n
 hW':=p7 hp n
 hnext:=bu hv n
 hthird:=bu hp n
 htop:=ht
 htopB:=bu hv (n+1)
 hlt:=h
theorem Xe{u l:List Nat}{j:Nat}(h:j<=u.length):a5 (wr u j l) j l.length=l:=by
 unfold a5 wr;rw[aip,List.drop_append,aib (by simp;omega)];simp[adi h]
theorem abb{u l l':List Nat}{j:Nat}(h:j<=u.length)(hl:l.length=l'.length):wr (wr u j l) j l'=wr u j l':=by
 have h1:=In (l:=l) h;have h2:=Vu (l:=l) h;rw[hl]at h2;rw[wr,h1,h2,<- wr]
theorem VJ{W V g len:Nat}(hV:0<V)(OU:V<=4294967296^len)(hW:W<4294967296^len)(h1:W/V<=g)(h2:g<=W/V+1) :
  (W<g*V->(kI g V W len+V)%4294967296^len=W%V/\g-1=W/V/\1<=g)/\(¬W<g*V->kI g V W len=W%V/\g=W/V):=by
 have h3:=adz W V;have h4:=adn W hV;generalize W/V=q at *;generalize W%V=r at *;have h5:V*q=q*V:=aef _ _;refine⟨fun h=>?_,fun h=>?_⟩
 ·have hg:g=q+1:=by
   rcases ahq q g with h6 |h6
   ·omega
   ·have : g = q := by omega
    subst this;omega
  subst hg;rw[adp]at h;refine⟨?_,by omega,by omega⟩;unfold kI;rw[adp,ais oz,show W+4294967296^len-(q*V+V)+V=r+4294967296^len by omega,Nat.add_mod_right,ad5 oz]
 ·have hg:g=q:=by
   rcases ahq q g with h6 |h6
   ·have : g = q + 1 := by omega
    subst this;rw[adp]at h;omega
   ·omega
  subst hg;refine⟨?_,rfl⟩;unfold kI;rw[ait oz];omega
theorem Qp{u q:List Nat}{k lv V U:Nat}(hu:Ws u)(hk:k+lv+1<=u.length)(hq:k<q.length)(hV:V<4294967296^lv)(h1:val (u.drop (k+1))<V)(h2:U=V*(4294967296^(k+1)*val (q.drop (k+1)))+val u) :
  val (a5 u k (lv+1))<V*4294967296/\val ((wr u k (aS (lv+1) (val (a5 u k (lv+1))%V))).drop k)<V /\
  U=V*(4294967296^k*val ((q.set k (val (a5 u k (lv+1))/V)).drop k))+val (wr u k (aS (lv+1) (val (a5 u k (lv+1))%V))):=by
 have h0:val (u.drop (k+(lv+1)))=0:=by
  have h3:=Mj (u:=u) (j:=k+1) (n:=lv) oz;rw[show k+1+lv=k+(lv+1) by omega]at h3;rcases adm (val (u.drop (k+(lv+1))))with h4 |h4
  ·exact h4
  ·have:=ahu (4294967296^lv) h4;omega
 have hd:=Mj (u:=u) (j:=k) (n:=lv+1) oz;rw[h0,Nat.mul_zero,aep]at hd;have hw:=bu hu k;have lW:=sf (l:=u) (i:=k) oz;have hW:val (a5 u k (lv+1))<V*4294967296:=by rw[<- hd,lW];omega
 have FW:0<V:=by omega
 have hr:=adn (val (a5 u k (lv+1))) FW;have hm:=adz (val (a5 u k (lv+1))) V;have ch:(aS (lv+1) (val (a5 u k (lv+1))%V)).length=lv+1:=fh _ _;have hx:val (a5 u k (lv+1))%V<4294967296^(lv+1):=by rw[ado];omega
 have hwd:val ((wr u k (aS (lv+1) (val (a5 u k (lv+1))%V))).drop k)=val (a5 u k (lv+1))%V:=by
  rw[Wm oz,ch,h0,mi _ _ hx];omega
 refine⟨hW,by omega,?_⟩;rw[DO (u:=wr u k _) (j:=k) (by rw[nk oz];omega),In oz,hwd,NU hq,h2,DO (u:=u) (j:=k) oz,hd];generalize val (a5 u k (lv+1))%V=r at *;generalize val (a5 u k (lv+1))/V=d at *;rw[<- hm,ado];grind
theorem Sx{A Bv n Q R:Nat}(h:2^n*A=2^n*Bv*Q+R)(hR:R<2^n*Bv):Q=A/Bv/\R/2^n=A%Bv:=by
 obtain⟨h1,h2⟩:=xQ h hR;rw[Nat.mul_div_mul_left _ _ (ad7 oz)]at h1;rw[Nat.mul_mod_mul_left]at h2;rw[<- h1,<- h2,Nat.mul_div_cancel_left _ (ad7 oz)];exact⟨rfl,rfl⟩
end Go.Lw
namespace Go.Lw
theorem GN:∀k v,(aS (k+1) v).take k=aS k v
 |0,_=>by simp[aS]
 |k+1,v=>by
  rw[aS,List.take_succ_cons,GN k];rfl
theorem aam{u:List Nat}{j n i:Nat}(h:i<n):aj (a5 u j n) i=aj u (j+i):=by
 rw[<- x4];simp[a5,aj,h]
theorem CT{u:List Nat}{j n i:Nat}(h:i<n)(h2:j+n<=u.length):(u.map u32)[j+i]?=some (u32 (aj (a5 u j n) i)):=by
 rw[aam h];exact bP oz
theorem PS{b:List Nat}{n:Nat}(hb:Ws b)(nb:Nz b)(hl:b.length=n+2) :
  ∃sh v,sh=32-aM (aj b (n+1))/\sh<32/\v=aS (n+2) (2^sh*val b)/\Ws v/\v.length=n+2/\val v=2^sh*val b/\2147483648<=aj v (n+1)/\aj b (n+1)≠0 /\
   4294967296^(n+1)<=val b:=by
 have ht:aj b (n+1)≠0:=by
  refine nb _ ?_;rw[ae6,hl];exact jQ oz
 have htB:=bu hb (n+1);obtain⟨h1,h2,h3,h4⟩:=ET ht htB;have h5:=x7 (x:=aj b (n+1))
 have hv:val b=val (b.take (n+1))+4294967296^(n+1)*aj b (n+1):=by
  rw[<- cU,eO oz]
 have hlt:=p7 hb (n+1)
 have act:2^(32-aM (aj b (n+1)))*(aj b (n+1)+1)<=4294967296:=by
  have:=ahu (2^(32-aM (aj b (n+1)))) (show aj b (n+1)+1<=2^aM (aj b (n+1))from h5);rw[<- ail,show 32-aM (aj b (n+1))+aM (aj b (n+1))=32 by omega]at this;exact this
 have AW:4294967296^(n+1)<=val b:=by
  have:=ahu (4294967296^(n+1)) (show 1<=aj b (n+1) by omega);omega
 generalize kX:32-aM (aj b (n+1))=sh at *
 have hX:2^sh*val b<4294967296^(n+2):=by
  have e1:val b<4294967296^(n+1)*(aj b (n+1)+1):=by rw[ael];omega
  have e2:2^sh*val b<2^sh*(4294967296^(n+1)*(aj b (n+1)+1)):=(adr (ad7 oz)).2 e1;have e3:2^sh*(4294967296^(n+1)*(aj b (n+1)+1))=4294967296^(n+1)*(2^sh*(aj b (n+1)+1)):=by grind
  have e4:=ahu (4294967296^(n+1)) act;rw[<- ado]at e4;rw[e3]at e2;exact ah2 e2 e4
 refine⟨sh,_,rfl,by omega,rfl,ku _ _,fh _ _,mi _ _ hX,?_,ht,AW⟩
 have jl:val (aS (n+2) (2^sh*val b))=val ((aS (n+2) (2^sh*val b)).take (n+1))+4294967296^(n+1)*aj (aS (n+2) (2^sh*val b)) (n+1):=by
  rw[<- cU,eO (by rw[fh];omega)]
 rw[mi _ _ hX]at jl;have AX:=p7 (ku (n+2) (2^sh*val b)) (n+1)
 have e5:4294967296^(n+1)*(2^sh*aj b (n+1))<=2^sh*val b:=by
  have:=ahu (2^sh) (show 4294967296^(n+1)*aj b (n+1)<=val b by omega);have e6:2^sh*(4294967296^(n+1)*aj b (n+1))=4294967296^(n+1)*(2^sh*aj b (n+1)):=by grind
  omega
 have e7:4294967296^(n+1)*(2^sh*aj b (n+1))<4294967296^(n+1)*(aj (aS (n+2) (2^sh*val b)) (n+1)+1):=by rw[ael (4294967296^(n+1)) _ 1];omega
 have:=ads e7;omega
theorem MQ{a:List Nat}{sh lq n Bv:Nat}(ha:Ws a)(kX:sh<32)(hl:a.length+1=lq+(n+2))(hB:4294967296^(n+1)<=Bv) :
  val (aS (a.length+1) (2^sh*val a))=2^sh*val a/\val ((aS (a.length+1) (2^sh*val a)).drop lq)<2^sh*Bv:=by
 have h1:=bF a ha;have h2:2^sh<=2^31:=qB oz;have hp:0<2^sh:=ad7 oz;have h3:2^sh*val a<2^sh*4294967296^a.length:=(adr hp).2 h1
 have hX:2^sh*val a<4294967296^(a.length+1):=by
  have:=ah0 (4294967296^a.length) (show 2^sh<=4294967296 by omega);rw[ado];omega
 refine⟨mi _ _ hX,?_⟩;have h4:=ye (ku (a.length+1) (2^sh*val a)) lq (by rw[fh];omega);rw[mi _ _ hX]at h4;rw[<- h4,aer (ad7 oz)];have h5:a.length=(n+1)+lq:=by omega
 rw[h5,ail]at h3;have h6:=ahu (2^sh) (ah0 (4294967296^lq) hB);rw[ad0];omega
theorem Vf{s:AS}:∀(k:Nat)(z:Blk),lk ([]:Hp) k=some z->s.blk k=some z:=fun _ _ h=>by cases h
theorem Xf{s:AS}{k0:Nat}{x:Blk}(h:s.blk k0=some x):∀(k:Nat)(z:Blk),lk [(k0,some x)] k=some z->s.blk k=some z:=by
 intro k z hz;rw[aA]at hz;split at hz
 ·rename_i e;cases hz;rw[e];exact h
 ·cases hz
theorem QA{s:AS}{x y x' y':AV}(h:Sub x x')(h':Sub y y'):aI s (dD [x,y]) (.tup [x',y']) []:=by
 refine aI.pure.sub ?_;intro g S m v hr;cases hr with
 |tup hn hr =>
  refine .tup (by simpa using hn) ?_;intro j u c hu hc
  match j,hc with
  |0,hc=>cases hc;exact h _ _ _ _ (hr 0 u x hu rfl)
  |1,hc=>cases hc;exact h' _ _ _ _ (hr 1 u y hu rfl)
theorem TH{b v:List Nat}{n X:Nat}(hn:b.length=n+2)(h:v=aS (n+2) X) :
  AV.fz 900 1 ((aS (b.length+1) X).map u32) (.ms 900 1 0 b.length)=ws v:=by
 rw[qD (by simp[fh]),h,<- hn,aim,<- map_take,GN,ws]
theorem MH{x:Nat}(h:1<=x)(hx:x<18446744073709551616):IntKind.u64.wrap (fu .sub (x:Int) 1)=((x-1:Nat):Int):=by
 have h1:=lD (x:=x) (y:=1) hx oz;rw[ait h]at h1;exact h1
theorem Of{r g G R:Nat}:(cond (aa .lss (r:Int) 4294967296) (cond (aa .geq (g:Int) 4294967296) true (aa .gtr (G:Int) (R:Int))) false)=true ↔
  (r<4294967296/\(4294967296<=g\/R<G)):=by
 have e1:aa .lss (r:Int) 4294967296=decide (r<4294967296):=by rw[ags];simp only[aa,aiu];omega
 have e2:aa .geq (g:Int) 4294967296=decide (4294967296<=g):=by rw[ags];simp only[aa,aiu];omega
 have e3:aa .gtr (G:Int) (R:Int)=decide (R<G):=by rw[ags];simp only[aa,aiu];omega
 rw[e1,e2,e3]
 by_cases h1:r<4294967296
 ·by_cases h2:4294967296<=g
  ·rw[aix h1,aix h2];exact⟨fun _=>⟨h1,.inl h2⟩,fun _=>rfl⟩
  ·rw[aix h1,aiy h2];show decide (R<G)=true↔_;rw[aiu];exact⟨fun h=>⟨h1,.inr h⟩,fun h=>h.2.resolve_left h2⟩
 ·rw[aiy h1];constructor
  ·intro h;exact Bool.noConfusion h
  ·intro h;exact aiz h.1 h1
theorem J9{u:List Nat}{k n V r:Nat}{l:List Nat}(hk:k+n<=u.length)(hl:l.length=n)(h:(val l+V)%4294967296^n=r) :
  wr (wr u k l) k (aS n ((val (a5 (wr u k l) k n)+V)%4294967296^n))=wr u k (aS n r):=by
 subst hl;rw[abb oz (by rw[fh]),Xe oz,h]
theorem UL{s:AS}{k1 k2:Nat}{x1 x2:Blk}(h1:s.blk k1=some x1)(h2:s.blk k2=some x2):∀(k:Nat)(z:Blk),lk [(k1,some x1),(k2,some x2)] k=some z->s.blk k=some z:=by
 intro k z hz;rw[aA]at hz;split at hz
 ·rename_i e;cases hz;rw[e];exact h1
 ·rw[aA]at hz;split at hz
  ·rename_i e;cases hz;rw[e];exact h2
  ·cases hz
theorem bU{p:Prop}(h:p:=by first |exact Vf |exact Xf rfl |exact UL rfl rfl):p:=h
def ig(x y:Int):Int:=if x<y then -1 else if y<x then 1 else 0
theorem IS(b:Bool)(n:Nat):sgn (!b) n=-(sgn b n):=by cases b <;> simp[sgn]
theorem Wh.small{w:Wh}(h:w.ok)(hl:w.mag.length<aw):w.m.length<aw:=aic Wh.m_le hl
theorem Mq{w:Wh}(h:w.ok):(w.m.length=0->w.z.sign=0)/\(w.m.length≠0->w.neg=true->w.z.sign=-1)/\(w.m.length≠0->w.neg=false->w.z.sign=1):=by
 have h1:w.m.length≠0->w.valid=true:=by
  intro h0;unfold Wh.m at h0;split at h0
  ·assumption
  ·exact aiz rfl h0
 refine⟨?_,?_,?_⟩
 ·intro h0;have h2:w.m = []:=afp.1 h0;have h3:val w.m = 0:=by rw [h2]; rfl
  have:w.z=0:=by unfold Wh.z;rw[h3];split <;> rfl
  rw[this];rfl
 ·intro h0 hn;have h2:w.n = true:=by unfold Wh.n; rw [h1 h0,hn]; rfl
  have h3:=Wh.n_val h2;rw[agc];unfold Wh.z;rw[ait h2];omega
 ·intro h0 hn;have h2:w.n = false:=by unfold Wh.n; rw [h1 h0,hn]; rfl
  have h3:=qJ w.nz (fun h=>h0 (by rw[h];rfl));rw[af9];unfold Wh.z;rw[h2];simp;omega
theorem N9{a b:Wh}(h:a.n=b.n):sgn a.n (val a.m+val b.m)=a.z+b.z:=by
 rw[Wh.z_eq,Wh.z_eq,<- h];unfold sgn;split <;> omega
theorem D0{a b:Wh}(h:a.n≠b.n)(hl:val b.m<=val a.m):sgn a.n (val a.m-val b.m)=a.z+b.z:=by
 rw[Wh.z_eq,Wh.z_eq];cases ha:a.n <;> cases hb:b.n <;> simp_all [sgn] <;> omega
theorem IP{a b:Wh}(h:a.n≠b.n)(hl:val a.m<=val b.m):sgn b.n (val b.m-val a.m)=a.z+b.z:=by
 rw[Int.add_comm];exact D0 (fun h'=>h h'.symm) hl
theorem Hz{a b:Wh}:sgn (a.n != b.n) (val a.m*val b.m)=a.z*b.z:=by
 rw[Wh.z_eq,Wh.z_eq];cases a.n <;> cases b.n <;> simp[sgn,Int.neg_mul,Int.mul_neg]
theorem Ep(z:Int):(z.sign=1/\0<z)\/(z.sign=0/\z=0)\/(z.sign=-1/\z<0):=by
 rcases af8 z 0 with h |h |h
 ·exact .inr (.inr ⟨agc.2 h,h⟩)
 ·subst h;exact .inr (.inl ⟨rfl,rfl⟩)
 ·exact .inl ⟨af9.2 h,h⟩
theorem ZC{a b:Wh}(h:a.z.sign≠b.z.sign):(a.z.sign<b.z.sign->ig a.z b.z=-1)/\(¬a.z.sign<b.z.sign->ig a.z b.z=1):=by
 have h1:=Ep a.z;have h2:=Ep b.z;unfold ig;generalize a.z.sign=s at *;generalize b.z.sign=t at *;generalize a.z=x at *;generalize b.z=y at *;constructor <;> intro h3 <;> (repeat' split) <;> omega
theorem XM{a b:Wh}(h:a.z.sign=b.z.sign):ig a.z b.z=(if a.n then -(if val a.m<val b.m then -1 else if val b.m<val a.m then 1 else 0:Int)else if val a.m<val b.m then -1 else if val b.m<val a.m then 1 else 0):=by
 have ha:=Wh.n_eq (w:=a);have hb:=Wh.n_eq (w:=b);have h1:=afy a.z;have co:=Wh.z_eq (w:=a);have ki:=Wh.z_eq (w:=b)
 have hn:a.n=b.n:=by
  rw[ha,hb,decide_eq_decide,<- agc,<- agc,h]
 rw[<- hn]at ki;unfold ig;rw[co,ki];cases a.n <;> simp only[sgn,if_true,if_false,agv] <;> (repeat' split) <;> omega
theorem GB{a b q r:Int}(hb:b≠0)(h:a=b*q+r)(h0:0<=r)(h1:r<b.natAbs):a/b=q/\a%b=r:=by
 have h2:=Int.mul_ediv_add_emod a b;have h3:=Int.emod_nonneg a hb;have h4:=Int.emod_lt a hb;have h5:b*(a/b-q)=r-a%b:=by rw[Int.mul_sub];omega
 have h6:a/b-q=0:=by
  rcases af8 (a/b-q) 0 with h |h |h
  ·exfalso;have:b.natAbs <= (r - a % b).natAbs:=by rw [<- h5,af6]; exact Nat.le_mul_of_pos_right _ oz
   omega
  ·exact h
  ·exfalso;have:b.natAbs <= (r - a % b).natAbs:=by rw [<- h5,af6]; exact Nat.le_mul_of_pos_right _ oz
   omega
 rw[h6,Int.mul_zero]at h5;omega
theorem Kk{a b:Wh}(hb:val b.m≠0)(h:¬(a.n=true/\0<val a.m%val b.m)) :
  sgn (a.n != b.n) (val a.m/val b.m)=a.z/b.z/\(val a.m%val b.m:Nat)=a.z%b.z:=by
 have h1:=adz (val a.m) (val b.m);have h2:=adn (val a.m) (show 0<val b.m by omega);have hz:=Wh.abs (w:=b);have iA:b.z≠0:=by omega
 obtain⟨e1,e2⟩:=GB (a:=a.z) (b:=b.z) (q:=sgn (a.n != b.n) (val a.m/val b.m)) (r:=(val a.m%val b.m:Nat)) iA (by
  rw[Wh.z_eq,Wh.z_eq];generalize val a.m/val b.m=q at *;generalize val a.m%val b.m=r at *;rw[<- h1]
  have h9:a.n=true->r=0:=fun h3=>by
   rcases adm r with h4 |h4
   ·exact h4
   ·exact aiz ⟨h3,h4⟩ h
  cases ha:a.n with
  |false=>cases AY:b.n <;> simp[sgn] <;> grind
  |true=>have:=h9 ha;subst this;cases AY:b.n <;> simp[sgn] <;> grind) oz oz
 exact⟨e1.symm,e2.symm⟩
theorem HZ{a b:Wh}(hb:val b.m≠0)(ha:a.n=true)(hr:0<val a.m%val b.m) :
  sgn (a.n != b.n) (val a.m/val b.m+1)=a.z/b.z/\((val b.m-val a.m%val b.m:Nat):Int)=a.z%b.z:=by
 have h1:=adz (val a.m) (val b.m);have h2:=adn (val a.m) (show 0<val b.m by omega);have hz:=Wh.abs (w:=b);have iA:b.z≠0:=by omega
 obtain⟨e1,e2⟩:=GB (a:=a.z) (b:=b.z) (q:=sgn (a.n != b.n) (val a.m/val b.m+1)) (r:=(val b.m-val a.m%val b.m:Nat)) iA (by
  rw[Wh.z_eq,Wh.z_eq];generalize val a.m/val b.m=q at *;generalize val a.m%val b.m=r at *;rw[<- h1,ha];cases AY:b.n <;> simp[sgn] <;> rw[Int.ofNat_sub oz] <;> grind) oz oz
 exact⟨e1.symm,e2.symm⟩
abbrev fy:Nat:=137438953472
def Zs(z:Int):Prop:=∃k,k<=274877906945/\Lz k z
theorem Zs.ok{z:Int}(h:Zs z):(ofInt z).ok:=by
 obtain⟨k,hk,hz⟩:=h;refine⟨cT _,?_⟩;have:=hz.len;unfold az;show(ofNat z.natAbs).length<=_;omega
theorem Zs.len{z:Int}(h:Zs z):(ofInt z).mag.length<=274877906945:=by
 obtain⟨k,hk,hz⟩:=h;have:=hz.len;show(ofNat z.natAbs).length<=_;omega
theorem Zs.neg{z:Int}(h:Zs z):Zs (-z):=by
 obtain⟨k,hk,hz⟩:=h;exact⟨k,hk,hz.neg⟩
theorem Zs.of_le{x y:Int}(h:Zs x)(h':y.natAbs<=x.natAbs):Zs y:=by
 obtain⟨k,hk,hz⟩:=h;exact⟨k,hk,hz.of_le h'⟩
structure Rt where
  neg:Bool
  num:List Nat
  den:List Nat
namespace Rt
def av(r:Rt):AV:=.agg [bl r.neg,ws r.num,ws r.den]
def n0(r:Rt):Wh:=⟨false,r.num⟩
def d0(r:Rt):Wh:=⟨false,r.den⟩
def valid(r:Rt):Bool :=
  if r.num=[]/\r.den=[]then !r.neg
  else if r.num=[]\/r.den=[]then false
  else r.n0.valid&&r.d0.valid&&decide (aed (val r.num) (val r.den)=1)
def q(r:Rt):Rat:=if r.valid=true/\r.num≠[]then mkRat (sgn r.neg (val r.num)) (val r.den)else 0
def ok(r:Rt):Prop:=Ws r.num/\Ws r.den/\r.num.length<=fy/\r.den.length<=fy
end Rt
def rt(q:Rat):Rt:=⟨decide (q.num<0),ofNat q.num.natAbs,if q.num=0 then[]else ofNat q.den⟩
def qA(q:Rat):AV:=(rt q).av
def Qs(q:Rat):Prop:=∃k,k<=fy/\Lz k q.num/\Lz k (q.den:Int)
theorem Qs.ok{q:Rat}(h:Qs q):(rt q).ok:=by
 obtain⟨k,hk,h1,h2⟩:=h;have h3:=h1.len;have h4:=h2.len;simp only[aif]at h4;refine⟨cT _,?_,by show(ofNat q.num.natAbs).length<=_;omega,?_⟩
 ·show Ws (if q.num=0 then[]else ofNat q.den);split
  ·exact uO
  ·exact cT _
 ·show(if q.num=0 then[]else ofNat q.den).length<=_;split
  ·simp
  ·omega
theorem Ck{n:Nat}:ofNat n=[]↔n=0:=by
 constructor
 ·intro h;have:=bI n;rw[h]at this;exact this.symm
 ·intro h;rw[h];rfl
theorem IK{l:List Nat}(h:l≠[])(hz:Nz l):(⟨false,l⟩:Wh).valid=true:=by
 unfold Wh.valid;dsimp only;rw[ais h];cases hl:l.getLast? with
 |none=>rfl
 |some x=>have:=hz x hl;simp[this]
theorem Ix{l:List Nat}{b:Bool}(h:l≠[])(hv:(⟨b,l⟩:Wh).valid=true):Nz l:=by
 unfold Wh.valid at hv;dsimp only at hv;rw[ais h]at hv;intro x hx kZ;rw[hx,kZ]at hv;simp at hv
theorem An(q:Rat):(rt q).valid=true:=by
 unfold rt Rt.valid Rt.n0 Rt.d0;dsimp only
 by_cases h:q.num=0
 ·rw[ait h,h];rfl
 ·rw [ais h];have h1:ofNat q.num.natAbs ≠ []:=fun h'=>h (by have:=Ck.1 h'; omega)
  have h2:ofNat q.den≠[]:=fun h'=>q.den_nz (Ck.1 h')
  rw[ais (fun h'=>h1 h'.1),ais (by simp[h1,h2]),IK h1 (sj _),IK h2 (sj _),bI,bI];have:=q.reduced;unfold Nat.Coprime at this;simp[this]
theorem bG(q:Rat):(rt q).q=q:=by
 unfold Rt.q
 by_cases h:q.num=0
 ·rw[ais]
  ·exact(Rat.num_eq_zero.1 h).symm
  ·intro h';exact h'.2 (by show ofNat _=[];rw[h];rfl)
 ·have h1 : ofNat q.num.natAbs ≠ [] := fun h' => h (by have := Ck.1 h'; omega)
  rw[ait ⟨An q,h1⟩];show mkRat (sgn (decide (q.num<0)) (val (ofNat q.num.natAbs))) (val (if q.num=0 then[]else ofNat q.den))=q;rw[ais h,bI,bI]
  have:sgn (decide (q.num<0)) q.num.natAbs=q.num:=by
   unfold sgn;generalize q.num=z
   by_cases h2:z<0
   ·rw[ait (aix h2)];omega
   ·rw[ais (by rw[aiu];exact h2)];omega
  rw[this,Rat.mkRat_self]
theorem Rt.parts{r:Rt}(h:r.ok)(hv:r.valid=true)(h0:r.num≠[]) :
  r.q.num=sgn r.neg (val r.num)/\r.q.den=val r.den/\ofNat (val r.num)=r.num/\ofNat (val r.den)=r.den/\val r.num≠0/\val r.den≠0:=by
 have hv':=hv;unfold Rt.valid at hv;rw[ais (fun h'=>h0 h'.1)]at hv;split at hv
 ·cases hv
 ·rename_i h1;simp only[ahj,aiu]at hv;obtain⟨⟨hn,hd⟩,hg⟩:=hv;have h2:r.den≠[]:=fun h'=>h1 (.inr h')
  have nn:=Ix h0 hn;have nd:=Ix h2 hd;have pn:=qJ nn h0;have pd:=qJ nd h2;have hq:r.q=mkRat (sgn r.neg (val r.num)) (val r.den):=by unfold Rt.q;rw[ait ⟨hv',h0⟩]
  have hs:(sgn r.neg (val r.num)).natAbs=val r.num:=by unfold sgn;split <;> omega
  have mV : r.q = ⟨sgn r.neg (val r.num), val r.den, by omega, by unfold Nat.Coprime; rw [hs]; exact hg⟩ := by
   rw[hq];exact(Rat.mk_eq_mkRat _ _ _ _).symm
  refine⟨by rw[mV],by rw[mV],sE h.1 nn,sE h.2.1 nd,by omega,by omega⟩
theorem Rt.zero{r:Rt}(h:¬(r.valid=true/\r.num≠[])):r.q=0:=by unfold Rt.q;rw[ais h]
theorem Rt.eq_rt{r:Rt}(h:r.ok)(hv:r.valid=true):r=rt r.q:=by
 by_cases h0:r.num=[]
 ·have hq:=Rt.zero (r:=r) (fun h'=>h'.2 h0);rw[hq];unfold Rt.valid at hv
  by_cases h1:r.den=[]
  ·rw[ait ⟨h0,h1⟩]at hv;obtain⟨n,a,b⟩:=r;dsimp only at *;subst h0;subst h1
   cases n
   ·rfl
   ·cases hv
  ·rw[ais (fun h'=>h1 h'.2),ait (.inl h0)]at hv;cases hv
 ·obtain ⟨h1, h2, h3, h4, h5, h6⟩:=Rt.parts h hv h0;unfold rt;have hn:r.q.num ≠ 0:=by rw [h1]; unfold sgn; split <;> omega
  rw[ais hn,h2,h4];have h7:r.q.num.natAbs=val r.num:=by rw[h1];unfold sgn;split <;> omega
  have h8:decide (r.q.num<0)=r.neg:=by rw[h1];unfold sgn;cases r.neg <;> simp <;> omega
  rw[h7,h3,h8]
theorem Rt.ok.qs{r:Rt}(h:r.ok):Qs r.q:=by
 by_cases h0:r.valid=true/\r.num≠[]
 ·obtain ⟨h1, h2, h3, h4, h5, h6⟩:=Rt.parts h h0.1 h0.2;refine ⟨max r.num.length r.den.length,by have:=h.2.2; omega,?_,?_⟩
  ·unfold Lz;have:r.q.num.natAbs = val r.num:=by rw [h1]; unfold sgn; split <;> omega
   rw[this];exact ah2 (bF _ h.1) (ad8 oz oz)
  ·unfold Lz;rw[h2];exact ah2 (bF _ h.2.1) (ad8 oz oz)
 ·rw[Rt.zero h0];exact⟨1,by unfold fy;omega,by unfold Lz;decide,by unfold Lz;decide⟩
theorem Qs.num{q:Rat}(h:Qs q):Zs q.num:=by
 obtain⟨k,hk,h1,h2⟩:=h;exact⟨k,by unfold fy at hk;omega,h1⟩
theorem Qs.den{q:Rat}(h:Qs q):Zs q.den:=by
 obtain⟨k,hk,h1,h2⟩:=h;exact⟨k,by unfold fy at hk;omega,h2⟩
theorem Qs.mul{p q:Rat}(h:Qs p)(h':Qs q):Zs (p.num*q.den)/\Zs (p.num*q.num)/\Zs ((p.den:Int)*q.den)/\Zs ((p.den:Int)*q.num):=by
 obtain⟨k,hk,h1,h2⟩:=h;obtain⟨l,hl,h3,h4⟩:=h';unfold fy at *;exact⟨⟨k+l,by omega,h1.mul h4⟩,⟨k+l,by omega,h1.mul h3⟩,⟨k+l,by omega,h2.mul h4⟩,⟨k+l,by omega,h2.mul h3⟩⟩
theorem Qs.cross{p q:Rat}(h:Qs p)(h':Qs q):Zs (p.num*q.den+q.num*p.den):=by
 obtain⟨k,hk,h1,h2⟩:=h;obtain⟨l,hl,h3,h4⟩:=h';unfold fy at *;have:=(h1.mul h4).add (h3.mul h2);exact⟨_,by omega,this⟩
theorem Qs.neg{p:Rat}(h:Qs p):Qs (-p):=by
 obtain⟨k,hk,h1,h2⟩:=h;refine⟨k,hk,?_,?_⟩
 ·rw[Rat.neg_num];exact h1.neg
 ·rw[Rat.neg_den];exact h2
theorem Qs.zero:Qs 0:=⟨1,by unfold fy;omega,by unfold Lz;decide,by unfold Lz;decide⟩
theorem Rt.ok.n0{r:Rt}(h:r.ok):r.n0.ok:=⟨h.1,by have:=h.2.2.1;unfold fy at this;unfold az;exact ah8 this oz⟩
theorem Rt.ok.d0{r:Rt}(h:r.ok):r.d0.ok:=⟨h.2.1,by have:=h.2.2.2;unfold fy at this;unfold az;exact ah8 this oz⟩
theorem Rt.ok.n0l{r:Rt}(h:r.ok):r.n0.mag.length<aw:=by have:=h.2.2.1;unfold fy at this;unfold aw;exact aic this oz
theorem Rt.ok.d0l{r:Rt}(h:r.ok):r.d0.mag.length<aw:=by have:=h.2.2.2;unfold fy at this;unfold aw;exact aic this oz
theorem yV:Zs 1:=⟨1,by omega,by unfold Lz;decide⟩
theorem Rt.gcd_zs{r:Rt}(h:r.ok):Zs (af1 r.n0.z r.d0.z):=by
 have h1:=Wh.lz h.n0;have h2:=Wh.lz h.d0;have h3:r.n0.mag.length<=137438953472:=h.2.2.1;have h4:r.d0.mag.length<=137438953472:=h.2.2.2
 by_cases h0:r.n0.z=0
 ·rw[h0,Int.gcd_zero_left];exact⟨r.d0.mag.length,by omega,by unfold Lz at *;simpa using h2⟩
 ·refine⟨r.n0.mag.length,by omega,h1.of_le ?_⟩;simp only[aif];exact Nat.le_of_dvd oz (Int.gcd_dvd_natAbs_left _ _)
theorem SS{n:Nat}:ig (n:Int) 1=0↔n=1:=by
 unfold ig;split
 ·constructor <;> intro h <;> omega
 ·split <;> constructor <;> intro h <;> omega
theorem I4{l:List Nat}(h:(⟨false,l⟩:Wh).valid=true):(⟨false,l⟩:Wh).z=val l:=by
 unfold Wh.z Wh.n Wh.m;simp[h]
theorem B7{r:Rt}(h0:¬(r.num=[]/\r.den=[]))
  (h:cond (cond (cond (aa .eql (r.num.length:Int) 0) true (aa .eql (r.den.length:Int) 0)) true (!r.n0.valid)) true (!r.d0.valid)=true):r.valid=false:=by
 unfold Rt.valid;rw[ais h0];split
 ·rfl
 ·next h1 =>
  have hn:r.num≠[]:=fun h=>h1 (.inl h)
  have hd:r.den≠[]:=fun h=>h1 (.inr h)
  have e1:aa .eql (r.num.length:Int) 0=false:=by simp[aa,hn]
  have e2:aa .eql (r.den.length:Int) 0=false:=by simp[aa,hd]
  rw[e1,e2]at h;cases hv:r.n0.valid <;> cases hw:r.d0.valid <;> simp_all
theorem Jn{r:Rt}(h0:¬(r.num=[]/\r.den=[]))
  (h:cond (cond (cond (aa .eql (r.num.length:Int) 0) true (aa .eql (r.den.length:Int) 0)) true (!r.n0.valid)) true (!r.d0.valid)=false) :
  r.valid=aa .eql (ig (af1 r.n0.z r.d0.z) 1) 0:=by
 unfold Rt.valid;rw[ais h0];cases e1:aa .eql (r.num.length:Int) 0
 ·cases e2:aa .eql (r.den.length:Int) 0
  ·have hn : r.num ≠ [] := by simpa [aa] using e1
   have hd:r.den≠[]:=by simpa[aa]using e2
   rw[e1,e2]at h;cases hv:r.n0.valid <;> cases hw:r.d0.valid <;> simp[hv,hw]at h
   rw[ais (by simp[hn,hd])];have z1:r.n0.z=val r.num:=I4 hv;have z2:r.d0.z=val r.den:=I4 hw;rw[z1,z2];show(true&&true&&decide _)=decide _;simp only[Bool.and_self,agu];rw[ags];simp only[aiu];exact SS.symm
  ·rw[e1,e2]at h;simp at h
 ·rw[e1]at h;simp at h
theorem HN{b:Bool}{num den:List Nat}(e3:ofNat (val num)=num)(e4:ofNat (val den)=den)(e5:val num≠0) :
  AV.tup [.agg [bl b,ws num],.agg [bl false,ws den]]=.tup [zA (sgn b (val num)),zA ((val den:Nat):Int)]:=by
 unfold zA ofInt Wh.av;have h1:(sgn b (val num)).natAbs=val num:=by unfold sgn;split <;> omega
 have h2:decide (sgn b (val num)<0)=b:=by unfold sgn;cases b <;> simp <;> omega
 have h3:decide (((val den:Nat):Int)<0)=false:=by simp
 dsimp only;rw[h1,h2,h3,e3,aif,e4]
inductive SubL:List AV->List AV->Prop
  |nil:SubL [] []
  |cons {x y:AV} {l l':List AV} (h:Sub x y) (hl:SubL l l'):SubL (x::l) (y::l')
theorem SubL.len{l l':List AV}(h:SubL l l'):l.length=l'.length:=by induction h with |nil=>rfl |cons _ _ ih=>simp[ih]
theorem SubL.get{l l':List AV}(h:SubL l l'):∀(j:Nat)(x y:AV),l[j]?=some x->l'[j]?=some y->Sub x y:=by
 induction h with
 |nil=>intro j x y h;simp at h
 |cons h _ ih =>
  intro j x y hx hy;cases j with
  |zero=>simp at hx hy;subst hx;subst hy;exact h
  |succ j=>simp at hx hy;exact ih j x y hx hy
theorem Sub.tup{l l':List AV}(h:SubL l l'):Sub (.tup l) (.tup l'):=by
 intro g S m v hv;cases hv with
 |tup hn hr =>
  refine .tup (by rw[hn,h.len]) (fun j u y hu hy=>?_);obtain⟨x,hx⟩:=js h.len.symm hy;exact h.get j x y hx hy _ _ _ _ (hr j u x hu hx)
theorem Sub.agg{l l':List AV}(h:SubL l l')(ho:l'.all AV.one=true):Sub (.agg l) (.agg l'):=by
 intro g S m v hv;cases hv with
 |agg hn h1 hr =>
  refine .agg (by rw[hn,h.len]) (fun j c hc=>ahs.1 ho c (ahg hc)) (fun j u y hu hy=>?_);obtain⟨x,hx⟩:=js h.len.symm hy;exact h.get j x y hx hy _ _ _ _ (hr j u x hu hx)
theorem BlkSub.bL{l l':List AV}(h:SubL l l')(ho:l'.all AV.one=true):BlkSub (.box l) (.box l') :=
 .box h.len (fun j c hc=>ahs.1 ho c (ahg hc)) (fun j x y hx hy=>h.get j x y hx hy)
theorem I3:Sub (.agg [.v (.bool false),.v (.slice none 0 0)]) (zA 0):=.agg (.cons (.refl _) (.cons (.nil _ _ _) .nil)) rfl
theorem qF:Sub (.agg [.v (.bool false),.v (.slice none 0 0),.v (.slice none 0 0)]) (qA 0):=.agg (.cons (.refl _) (.cons (.nil _ _ _) (.cons (.nil _ _ _) .nil))) rfl
theorem LC{n d:Int}(hd:0<d)(hn:n≠0) :
  (agl n d).num=n/(af1 n d:Int)/\(agl n d).den=d.natAbs/af1 n d:=by
 constructor
 ·rw[Rat.num_divInt,Int.sign_eq_one_of_pos hd,Int.one_mul,Int.gcd_comm]
 ·rw[Rat.den_divInt,ais oz,Int.gcd_comm]
theorem Sp{n d:Int}(hd:0<d)(hn:n≠0) :
  AV.agg [bl (decide (n<0)),ws (ofNat (((n.natAbs:Int)/(af1 n d:Int)).natAbs)),ws (ofNat ((d/(af1 n d:Int)).natAbs))]=qA (agl n d):=by
 obtain⟨h1,h2⟩:=LC hd hn;obtain⟨g,hg⟩:∃g,g=af1 n d:=⟨_,rfl⟩
 have n8:0<g:=by rw[hg];exact Int.gcd_pos_of_ne_zero_left _ hn
 have hgn:(g:Int)∣n:=by rw[hg];exact Int.gcd_dvd_left ..
 rw[<- hg]at h1 h2 ⊢;clear hg;obtain⟨k,hk⟩:=hgn;have iy:n/(g:Int)=k:=by rw[hk];exact Int.mul_ediv_cancel_left _ oz
 have xl:k≠0:=by intro h;rw[h]at hk;simp at hk;exact hn hk
 have hs:decide (n<0)=decide (k<0):=by
  rw[decide_eq_decide,hk];constructor
  ·intro h;rcases af8 k 0 with h' |h' |h'
   ·exact h'
   ·exact aiz h' xl
   ·exact aiz (aga (af7 g) (Int.le_of_lt h')) oz
  ·intro h;exact Int.mul_neg_of_pos_of_neg oz h
 have AR:((n.natAbs:Int)/(g:Int)).natAbs=k.natAbs:=by
  rw[hk,af6,aif];rw[show((g*k.natAbs:Nat):Int)/(g:Int)=((g*k.natAbs/g:Nat):Int) by exact(af5 _ _).symm];rw[Nat.mul_div_cancel_left _ n8];omega
 have hda:(d/(g:Int)).natAbs=d.natAbs/g:=by
  have:d=(d.natAbs:Int):=by omega
  rw[this,<- af5,aif,aif]
 unfold qA rt Rt.av;rw[h1,h2,iy,AR,hda,hs];dsimp only;rw[ais xl]
theorem MS(n d:Int):agl (-n) (-d)=agl n d:=Rat.neg_divInt_neg n d
theorem Dl(p q:Rat):agl (p.num*q.den+q.num*p.den) ((p.den:Int)*q.den)=p+q:=by
 rw[<- Rat.divInt_add_divInt _ _ (by have:=p.den_nz;omega) (by have:=q.den_nz;omega),agm,agm]
theorem EL(p q:Rat):agl (p.num*q.num) ((p.den:Int)*q.den)=p*q:=by
 rw[<- Rat.divInt_mul_divInt,agm,agm]
theorem Ny(p:Rat):agl (-p.num) p.den=-p:=by
 rw[<- Rat.neg_num,<- Rat.neg_den,agm]
theorem L3(p q:Rat):agl (p.num*q.den) ((p.den:Int)*q.num)=p/q:=by
 rw[Rat.div_def,<- Rat.divInt_mul_divInt,agm];congr 1;rw[<- Rat.inv_divInt,agm]
theorem Vd(p:Rat):p.num<0↔p<0:=by
 rw[Rat.lt_iff];simp
theorem Uc(p:Rat):0<p.num↔0<p:=by
 rw[Rat.lt_iff];simp
def a7(p:Rat):Int:=if p<0 then -1 else if 0<p then 1 else 0
theorem IW(p:Rat):p.num.sign=a7 p:=by
 unfold a7
 by_cases h:p<0
 ·rw[ait h];exact agc.2 ((Vd p).2 h)
 ·rw[ais h]
  by_cases h':0<p
  ·rw[ait h'];exact af9.2 ((Uc p).2 h')
  ·rw [ais h'];have:p = 0:=by grind
   rw[this];rfl
theorem aa2(p q:Rat):a7 (p-q)=if p<q then -1 else if q<p then 1 else 0:=by
 unfold a7
 by_cases h:p<q
 ·rw[ait h,ait (by grind)]
 ·rw [ais h, ais (by grind)]
  by_cases h':q<p
  ·rw[ait h',ait (by grind)]
  ·rw[ais h',ais (by grind)]
theorem Th(p q:Rat):ig (p.num*q.den) (q.num*p.den)=a7 (p-q):=by
 rw[aa2];unfold ig;simp only[Rat.lt_iff]
theorem QS{n d:Int}(hd:0<d)(hn:n≠0) :
  AV.agg [bl (decide (n/(af1 n d:Int)<0)),ws (ofNat ((n/(af1 n d:Int)).natAbs)),ws (ofNat ((d/(af1 n d:Int)).natAbs))]=qA (agl n d):=by
 obtain⟨h1,h2⟩:=LC hd hn
 have h3:(d/(af1 n d:Int)).natAbs=d.natAbs/af1 n d:=by
  have:d=(d.natAbs:Int):=by omega
  generalize af1 n d=g;rw[this,<- af5,aif,aif]
 have h4:n/(af1 n d:Int)≠0:=by
  rw[<- h1];intro h
  have h5:=Rat.num_eq_zero.1 h;have h6:=(Rat.divInt_eq_divInt_iff (show d≠0 by omega) (show(1:Int)≠0 by decide)).1 (h5.trans (Rat.zero_divInt 1).symm);omega
 unfold qA rt Rt.av;rw[h1,h2,h3];dsimp only;rw[ais h4]
def Qb(e:Nat)(q:Rat):Prop:=q.num.natAbs<2^e/\q.den<2^e
theorem Qb.mono{e f:Nat}{q:Rat}(h:Qb e q)(hf:e<=f):Qb f q :=
 ⟨ah2 h.1 (ad8 oz hf),ah2 h.2 (ad8 oz hf)⟩
theorem Qb.qs{e:Nat}{q:Rat}(h:Qb e q)(he:e<=4398046511104):Qs q:=by
 have h2:(4294967296:Nat)=2^32:=by decide
 have h3:∀x,x<2^e->x<4294967296^(e/32+1):=by
  intro x hx;rw[h2,<- aei];exact ah2 hx (ad8 oz oz)
 by_cases h4:e=4398046511104
 ·obtain⟨k,hk⟩:∃k,k=137438953472:=⟨_,rfl⟩
  refine⟨k,by unfold fy;omega,?_,?_⟩
  ·unfold Lz;have:=h.1;rw[h2,<- aei];exact ah2 this (ad8 oz oz)
  ·unfold Lz;have:=h.2;rw[h2,<- aei];exact ah2 this (ad8 oz oz)
 ·exact⟨e/32+1,by unfold fy;omega,h3 _ h.1,h3 _ h.2⟩
theorem Qb.neg{e:Nat}{q:Rat}(h:Qb e q):Qb e (-q):=by
 refine⟨?_,?_⟩
 ·rw[Rat.neg_num,Int.natAbs_neg];exact h.1
 ·rw[Rat.neg_den];exact h.2
theorem Ek{n d:Int}(h0:d≠0):(agl n d).num.natAbs<=n.natAbs/\(agl n d).den<=d.natAbs:=by
 constructor
 ·rw[Rat.num_divInt]
  have h1:(d.sign*n).natAbs=n.natAbs:=by
   rw[af6,Int.natAbs_sign_of_ne_zero h0,Nat.one_mul]
  rw[<- h1];exact Int.natAbs_ediv_le_natAbs _ _
 ·rw[Rat.den_divInt,ais h0];exact aeh _ _
theorem Qb.mul{e f:Nat}{p q:Rat}(h:Qb e p)(h':Qb f q):Qb (e+f) (p*q):=by
 rw[<- EL];have h0:((p.den:Int)*q.den)≠0:=af2 (by have:=p.den_nz;omega) (by have:=q.den_nz;omega);obtain⟨h1,h2⟩:=Ek (n:=p.num*q.num) h0;refine⟨aic h1 ?_,aic h2 ?_⟩
 ·rw[af6,ail];exact ad4 h.1 h'.1
 ·rw[af6,ail,aif,aif];exact ad4 h.2 h'.2
theorem Qb.add{e f:Nat}{p q:Rat}(h:Qb e p)(h':Qb f q):Qb (e+f+1) (p+q):=by
 rw[<- Dl];have h0:((p.den:Int)*q.den)≠0:=af2 (by have:=p.den_nz;omega) (by have:=q.den_nz;omega);obtain⟨h1,h2⟩:=Ek (n:=p.num*q.den+q.num*p.den) h0;refine⟨aic h1 ?_,aic h2 ?_⟩
 ·have h3:=Int.natAbs_add_le (p.num*q.den) (q.num*p.den);rw[af6,af6,aif,aif]at h3;have h4:=ad4 h.1 h'.2;have h5:=ad4 h'.1 h.2;rw[ado,ail];rw[aef (2^f)]at h5;omega
 ·rw[af6,aif,aif,ado,ail];have:=ad4 h.2 h'.2;omega
theorem Qb.sub{e f:Nat}{p q:Rat}(h:Qb e p)(h':Qb f q):Qb (e+f+1) (p-q):=by
 rw[Rat.sub_eq_add_neg];exact h.add h'.neg
theorem Qb.zero:Qb 1 0:=⟨by decide,by decide⟩
theorem Qb.one:Qb 1 1:=⟨by decide,by decide⟩
theorem Rt.qb{r:Rt}{k:Nat}(h:r.ok)(hk:1<=k)(hn:r.num.length<=k)(hd:r.den.length<=k):Qb (32*k) r.q:=by
 have hB:∀{l:List Nat},Ws l->l.length<=k->val l<2^(32*k):=by
  intro l hw hl;have h1:=bF l hw;have h2:(4294967296:Nat)=2^32:=by decide
  rw[h2,<- aei]at h1;exact ah2 h1 (ad8 oz oz)
 by_cases h0:r.valid=true/\r.num≠[]
 ·obtain⟨h1,h2,h3,h4,h5,h6⟩:=Rt.parts h h0.1 h0.2;refine⟨?_,?_⟩
  ·have : r.q.num.natAbs = val r.num := by rw [h1]; unfold sgn; split <;> omega
   rw[this];exact hB h.1 hn
  ·rw[h2];exact hB h.2.1 hd
 ·rw[Rt.zero h0];exact Qb.zero.mono oz
theorem aaf{r:Rt}(h0:¬(r.num=[]/\r.den=[])) :
  r.valid=cond (cond (!decide (r.num=[])&&(⟨false,r.num⟩:Wh).valid) (!decide (r.den=[])&&(⟨false,r.den⟩:Wh).valid) false) (aa .eql (ig (af1 r.n0.z r.d0.z) 1) 0) false:=by
 by_cases h1:r.num=[]
 ·unfold Rt.valid;rw[ais h0,ait (.inl h1)];simp[h1]
 ·by_cases h2:r.den=[]
  ·unfold Rt.valid;rw[ais h0,ait (.inr h2)];simp[h2]
  ·have e1 : aa .eql (r.num.length : Int) 0 = false := by simp [aa, h1]
   have e2:aa .eql (r.den.length:Int) 0=false:=by simp[aa,h2]
   have n0:(⟨false,r.num⟩:Wh)=r.n0:=rfl;have d0:(⟨false,r.den⟩:Wh)=r.d0:=rfl;rw[n0,d0];cases hv:r.n0.valid
   ·rw[B7 h0 (by simp[hv,e1,e2])];simp
   ·cases hw:r.d0.valid
    ·rw[B7 h0 (by simp[hv,hw,e1,e2])];simp
    ·rw[Jn h0 (by simp[hv,hw,e1,e2])];simp[h1,h2]
theorem Con.sA{P:ai5}{f:FuncId}{args args':List AV}{H H':Hp}{r:AV}(h:SubL args' args)(hc:Con P f args H r H'):Con P f args' H r H':=by
 refine⟨hc.ok,?_⟩;intro ext m w vs hext bW c9 dj;refine hc.ret ext m w vs hext bW (by rw[c9,h.len]) (fun j v x hv hx=>?_);obtain⟨y,hy⟩:=js h.len.symm hx;exact h.get j y x hy hx _ _ _ _ (dj j v y hv hy)
@[reducible] def T:Nat->Type
  |0=>Rat
  |k+1=>T k×T k
namespace T
def zero:(k:Nat)->T k
  |0=>(0:Rat)
  |k+1=>(zero k,zero k)
def ofQ:(k:Nat)->Rat->T k
  |0,q=>q
  |k+1,q=>(ofQ k q,zero k)
def add:(k:Nat)->T k->T k->T k
  |0,x,y=>Rat.add x y
  |k+1,x,y=>(add k x.1 y.1,add k x.2 y.2)
def neg:(k:Nat)->T k->T k
  |0,x=>Rat.neg x
  |k+1,x=>(neg k x.1,neg k x.2)
def mul(r:(k:Nat)->T k):(k:Nat)->T k->T k->T k
  |0,x,y=>Rat.mul x y
  |k+1,x,y=>(add k (mul r k x.1 y.1) (mul r k (mul r k x.2 y.2) (r k)),add k (mul r k x.1 y.2) (mul r k x.2 y.1))
def norm(r:(k:Nat)->T k)(k:Nat)(x:T (k+1)):T k:=add k (mul r k x.1 x.1) (neg k (mul r k (mul r k x.2 x.2) (r k)))
def sgn3(sx sy sd sn:Int):Int:=if sd=0 then sx else if sx=sy\/sy=0 then sx else if sx=0 then sy else sx*sn
def sgn(r:(k:Nat)->T k):(k:Nat)->T k->Int
  |0,x=>a7 x
  |k+1,x=>sgn3 (sgn r k x.1) (sgn r k x.2) (sgn r k (r k)) (sgn r k (norm r k x))
theorem add_zero:∀(k:Nat)(x:T k),add k x (zero k)=x
 |0,x=>Rat.add_zero x
 |k+1,x=>by simp only[add,zero,add_zero k]
theorem zero_add:∀(k:Nat)(x:T k),add k (zero k) x=x
 |0,x=>Rat.zero_add x
 |k+1,x=>by simp only[add,zero,zero_add k]
theorem add_comm:∀(k:Nat)(x y:T k),add k x y=add k y x
 |0,x,y=>Rat.add_comm x y
 |k+1,x,y=>by simp only[add,add_comm k x.1,add_comm k x.2]
theorem add_assoc:∀(k:Nat)(x y z:T k),add k (add k x y) z=add k x (add k y z)
 |0,x,y,z=>Rat.add_assoc x y z
 |k+1,x,y,z=>by simp only[add,add_assoc k]
theorem JE:∀(k:Nat),neg k (zero k)=zero k
 |0=>by show -(0:Rat)=0;grind
 |k+1=>by simp only[neg,zero,JE k]
theorem add_neg:∀(k:Nat)(x:T k),add k x (neg k x)=zero k
 |0,x=>by show(x:Rat)+-x=0;grind
 |k+1,x=>by simp only[add,neg,zero,add_neg k]
theorem zero_mul(r:(k:Nat)->T k):∀(k:Nat)(x:T k),mul r k (zero k) x=zero k
 |0,x=>Rat.zero_mul x
 |k+1,x=>by simp only[mul,zero,zero_mul r k,add_zero]
theorem mul_zero(r:(k:Nat)->T k):∀(k:Nat)(x:T k),mul r k x (zero k)=zero k
 |0,x=>Rat.mul_zero x
 |k+1,x=>by
  simp only[mul,zero,mul_zero r k,add_zero]
  have h:mul r k (zero k) (r k)=zero k:=by
   have:=zero_mul r k (r k);exact this
  rw[h];simp only[add_zero]
theorem mul_comm(r:(k:Nat)->T k):∀(k:Nat)(x y:T k),mul r k x y=mul r k y x
 |0,x,y=>Rat.mul_comm x y
 |k+1,x,y=>by
  simp only[mul];rw[mul_comm r k x.1 y.1,mul_comm r k x.2 y.2,mul_comm r k x.1 y.2,mul_comm r k x.2 y.1,add_comm k (mul r k y.2 x.1)]
theorem sgn_zero(r:(k:Nat)->T k):∀k,sgn r k (zero k)=0
 |0=>rfl
 |k+1=>by
  simp only[sgn,zero,sgn_zero r k,sgn3];split
  ·rfl
  ·simp
theorem sgn_low(r:(k:Nat)->T k)(k:Nat)(x:T k):sgn r (k+1) (x,zero k)=sgn r k x:=by
 simp only[sgn,sgn_zero,sgn3];split
 ·rfl
 ·simp
theorem sgnQ_cases(q:Rat):a7 q=-1\/a7 q=0\/a7 q=1:=by
 unfold a7;split
 ·exact .inl rfl
 ·split
  ·exact .inr (.inr rfl)
  ·exact .inr (.inl rfl)
theorem sgn_cases(r:(k:Nat)->T k):∀(k:Nat)(x:T k),sgn r k x=-1\/sgn r k x=0\/sgn r k x=1
 |0,x=>sgnQ_cases x
 |k+1,x=>by
  simp only[sgn,sgn3];have h1:=sgn_cases r k x.1;have h2:=sgn_cases r k x.2;have h4:=sgn_cases r k (norm r k x);split
  ·exact h1
  ·split
   ·exact h1
   ·split
    ·exact h2
    ·rcases h1 with h |h |h <;> rcases h4 with h' |h' |h' <;> rw[h,h'] <;> simp
end T
def ao:(k:Nat)->List Rat->T k
  |0,l=>l.getD 0 0
  |k+1,l=>(ao k (l.take (2^k)),ao k (l.drop (2^k)))
theorem kv{l:List Rat}{n i:Nat}:(l.take n).getD i 0=if i<n then l.getD i 0 else 0:=by
 simp only[ahh,aie];split <;> simp
theorem lG{l:List Rat}{n i:Nat}:(l.drop n).getD i 0=l.getD (n+i) 0:=by
 simp only[ahh,aii]
theorem vD:∀(k:Nat){a b:List Rat},(∀i,i<2^k->a.getD i 0=b.getD i 0)->ao k a=ao k b
 |0,a,b,h=>h 0 (by decide)
 |k+1,a,b,h=>by
  have h1:=vD k (a:=a.take (2^k)) (b:=b.take (2^k)) (fun i hi=>by rw[kv,kv,ait hi,ait hi];exact h i (by rw[ado];omega));have h2:=vD k (a:=a.drop (2^k)) (b:=b.drop (2^k)) (fun i hi=>by rw[lG,lG];exact h _ (by rw[ado];omega));simp only[ao,h1,h2]
theorem Dw:∀(k:Nat){a b c:List Rat},(∀i,i<2^k->c.getD i 0=a.getD i 0+b.getD i 0)->ao k c=T.add k (ao k a) (ao k b)
 |0,a,b,c,h=>h 0 (by decide)
 |k+1,a,b,c,h=>by
  have h1:=Dw k (a:=a.take (2^k)) (b:=b.take (2^k)) (c:=c.take (2^k)) (fun i hi=>by rw[kv,kv,kv,ait hi,ait hi,ait hi];exact h i (by rw[ado];omega));have h2:=Dw k (a:=a.drop (2^k)) (b:=b.drop (2^k)) (c:=c.drop (2^k)) (fun i hi=>by rw[lG,lG,lG];exact h _ (by rw[ado];omega));simp only[ao,T.add,h1,h2]
theorem Ef:∀(k:Nat){a c:List Rat},(∀i,i<2^k->c.getD i 0=-a.getD i 0)->ao k c=T.neg k (ao k a)
 |0,a,c,h=>h 0 (by decide)
 |k+1,a,c,h=>by
  have h1:=Ef k (a:=a.take (2^k)) (c:=c.take (2^k)) (fun i hi=>by rw[kv,kv,ait hi,ait hi];exact h i (by rw[ado];omega));have h2:=Ef k (a:=a.drop (2^k)) (c:=c.drop (2^k)) (fun i hi=>by rw[lG,lG];exact h _ (by rw[ado];omega));simp only[ao,T.neg,h1,h2]
theorem ym:∀(k:Nat){a:List Rat},(∀i,i<2^k->a.getD i 0=0)->ao k a=T.zero k
 |0,a,h=>h 0 (by decide)
 |k+1,a,h=>by
  have h1:=ym k (a:=a.take (2^k)) (fun i hi=>by rw[kv,ait hi];exact h i (by rw[ado];omega));have h2:=ym k (a:=a.drop (2^k)) (fun i hi=>by rw[lG];exact h _ (by rw[ado];omega));simp only[ao,T.zero,h1,h2]
theorem Ak{l:List Rat}{i:Nat}(h:l.length<=i):l.getD i 0=0:=by
 simp[ahh,aht h]
theorem oB(k:Nat):ao k []=T.zero k:=ym k (fun i _=>by simp)
theorem kG{k:Nat}{a:List Rat}(h:a.length<=2^k):ao (k+1) a=(ao k a,T.zero k):=by
 have h1:a.take (2^k)=a:=ah1 h;have h2:a.drop (2^k)=[]:=aib h;simp only[ao,h1,h2,oB]
theorem rc(k:Nat)(q:Rat):ao k [q]=T.ofQ k q:=by
 induction k with
 |zero=>rfl
 |succ k ih=>rw[kG (by simp;exact Nat.one_le_two_pow),ih];rfl
def bt(a:List Rat)(n:Nat):List Rat:=a++afq (n-a.length) 0
def dT(a b:List Rat):List Rat:=List.zipWith (·+·) (bt a (max a.length b.length)) (bt b (max a.length b.length))
def fj(a:List Rat):List Rat:=a.map (- ·)
def fP(a b:List Rat)(n:Nat):List Rat:=bt a n++bt b n
def bf(a:List Rat):Bool:=a.all (fun q=>decide (q=0))
theorem gX{a:List Rat}{n:Nat}(h:a.length<=n):(bt a n).length=n:=by simp[bt];omega
theorem gy{a b:List Rat}:(dT a b).length=max a.length b.length:=by
 simp only[dT,List.length_zipWith];rw[gX oz,gX oz];omega
theorem lO{a:List Rat}:(fj a).length=a.length:=by simp[fj]
theorem r9{a b:List Rat}{n:Nat}(h:a.length<=n)(h':b.length<=n):(fP a b n).length=n+n:=by simp[fP,gX h,gX h']
theorem ra{a:List Rat}{n i:Nat}:(bt a n).getD i 0=a.getD i 0:=by
 simp only[bt,ahh]
 by_cases h:i<a.length
 ·rw[ah4 h]
 ·rw[ahz oz,aht (l:=a) oz,aia];split <;> rfl
theorem Jl{a b:List Rat}{i:Nat}:(dT a b).getD i 0=a.getD i 0+b.getD i 0:=by
 by_cases h:i<max a.length b.length
 ·have e:(dT a b).getD i 0=(bt a (max a.length b.length)).getD i 0+(bt b (max a.length b.length)).getD i 0:=by
   have ha:i<(bt a (max a.length b.length)).length:=by rw[gX oz];exact h
   have hb:i<(bt b (max a.length b.length)).length:=by rw[gX oz];exact h
   simp only[dT,ahh,List.getElem?_zipWith,ahm ha,ahm hb,ahe]
  rw[e,ra,ra]
 ·rw[Ak (by rw[gy];omega),Ak oz,Ak oz,Rat.add_zero]
theorem IG{a:List Rat}{i:Nat}:(fj a).getD i 0=-a.getD i 0:=by
 simp only[fj,ahh,aho];cases a[i]? with
 |none=>show(0:Rat)=-0;grind
 |some x=>rfl
theorem M4{a b:List Rat}{n i:Nat}(h:a.length<=n):(fP a b n).getD i 0=if i<n then a.getD i 0 else b.getD (i-n) 0:=by
 have hl:=gX h;simp only[fP];split
 ·rw[<- ra (a:=a) (n:=n),ahh,ahh,ah4 oz]
 ·rw[<- ra (a:=b) (n:=n),ahh,ahh,ahz oz,hl]
theorem Js(k:Nat){a:List Rat}{n:Nat}:ao k (bt a n)=ao k a:=vD k (fun i _=>ra)
theorem qf(k:Nat){a b:List Rat}:ao k (dT a b)=T.add k (ao k a) (ao k b):=Dw k (fun i _=>Jl)
theorem zP(k:Nat){a:List Rat}:ao k (fj a)=T.neg k (ao k a):=Ef k (fun i _=>IG)
theorem DE{k:Nat}{a b:List Rat}(h:a.length<=2^k):ao (k+1) (fP a b (2^k))=(ao k a,ao k b):=by
 have h1:ao k ((fP a b (2^k)).take (2^k))=ao k a:=vD k (fun i hi=>by rw[kv,ait hi,M4 h,ait hi]);have h2:ao k ((fP a b (2^k)).drop (2^k))=ao k b:=vD k (fun i hi=>by rw[lG,M4 h,ais oz];congr 1;omega);simp only[ao,h1,h2]
theorem CM{k:Nat}{a:List Rat}(h:bf a=true):ao k a=T.zero k:=by
 refine ym k (fun i _=>?_);rw[ahh];cases hx:a[i]? with
 |none=>rfl
 |some x =>
  have:=ahs.1 h x (ahg hx);simpa using this
def Nl(k:Nat)(a:List Rat):Prop:=a=[]\/∃j,j<=k/\a.length=2^j
theorem Nl.le{k:Nat}{a:List Rat}(h:Nl k a):a.length<=2^k:=by
 rcases h with rfl |⟨j,hj,h⟩
 ·simp
 ·rw[h];exact ad8 oz hj
theorem Nl.mono{k l:Nat}{a:List Rat}(h:Nl k a)(hl:k<=l):Nl l a:=by
 rcases h with h |⟨j,hj,h⟩
 ·exact .inl h
 ·exact .inr ⟨j,by omega,h⟩
def aD(ts:LL)(k:Nat):T k:=ao k (ts.getD k [])
def pT(ts:LL):Nat->List Rat->List Rat->List Rat
  |k,a,b =>
    let x:=if a.length<b.length then b else a
    let y:=if a.length<b.length then a else b
    if bf x||bf y then[]else if x.length=1 then[x.getD 0 0*y.getD 0 0]
    else match k with
      |0=>[]
      |k+1 =>
        if y.length<=x.length/2 then fP (pT ts k (x.take (x.length/2)) y) (pT ts k (x.drop (x.length/2)) y) (x.length/2)
        else fP (dT (pT ts k (x.take (x.length/2)) (y.take (x.length/2))) (pT ts k (pT ts k (x.drop (x.length/2)) (y.drop (x.length/2))) (ts.getD (x.length.log2-1) [])))
          (dT (pT ts k (x.take (x.length/2)) (y.drop (x.length/2))) (pT ts k (x.drop (x.length/2)) (y.take (x.length/2)))) (x.length/2)
theorem T.mul_low(r:(k:Nat)->T k)(k:Nat)(x u:T k):T.mul r (k+1) (x,T.zero k) (u,T.zero k)=(T.mul r k x u,T.zero k):=by
 simp only[T.mul,T.mul_zero,T.zero_mul,T.add_zero]
theorem T.mul_half(r:(k:Nat)->T k)(k:Nat)(x y u:T k):T.mul r (k+1) (x,y) (u,T.zero k)=(T.mul r k x u,T.mul r k y u):=by
 simp only[T.mul,T.mul_zero,T.zero_mul,T.add_zero,T.zero_add]
theorem T.mul_ofQ(r:(k:Nat)->T k):∀(k:Nat)(p q:Rat),T.mul r k (T.ofQ k p) (T.ofQ k q)=T.ofQ k (p*q)
 |0,p,q=>rfl
 |k+1,p,q=>by simp only[T.ofQ];rw[T.mul_low,T.mul_ofQ r k]
theorem XY:bf []=true:=rfl
theorem Nu(j:Nat):(2^(j+1)).log2-1=j:=by rw[Nat.log2_two_pow];omega
theorem kq{j:Nat}{a:List Rat}(h:a.length=2^(j+1)):(a.take (2^j)).length=2^j:=by
 simp[h,ado];omega
theorem lr{j:Nat}{a:List Rat}(h:a.length=2^(j+1)):(a.drop (2^j)).length=2^j:=by
 simp[h,ado];omega
theorem l8(j:Nat):2^(j+1)/2=2^j:=by rw[ado];omega
theorem E4(ts:LL)(k:Nat)(a b:List Rat)(h:a.length<b.length):pT ts k a b=pT ts k b a:=by
 unfold pT;simp only[ait h,ais (show ¬b.length<a.length by omega)]
theorem Lu(ts:LL)(Q:Nat->List Rat->List Rat->List Rat->Prop)
  (OV:∀j a b c,Q j a b c->Q j b a c)
  (fB:∀j a b,Nl j a->Nl j b->(bf a=true\/bf b=true)->Q j a b [])
  (uo:∀j p q,Q j [p] [q] [p*q])
  (AZ:∀j a b c,Nl j a->Nl j b->Q j a b c->Q (j+1) a b c)
  (acu:∀j a b c d,a.length=2^(j+1)->Nl j b->Q j (a.take (2^j)) b c->Q j (a.drop (2^j)) b d->Q (j+1) a b (fP c d (2^j)))
  (acv:∀j a b c1 c2 c3 c4 c5,a.length=2^(j+1)->b.length=2^(j+1)->Q j (a.take (2^j)) (b.take (2^j)) c1->Q j (a.drop (2^j)) (b.drop (2^j)) c2 ->
   Q j c2 (ts.getD j []) c3->Q j (a.take (2^j)) (b.drop (2^j)) c4->Q j (a.drop (2^j)) (b.take (2^j)) c5->Q (j+1) a b (fP (dT c1 c3) (dT c4 c5) (2^j)))
  (cJ:∀j a b c,Q j a b c->Nl j c) (m:Nat) (hr:∀j,j<m->Nl j (ts.getD j [])) :
  ∀(j k:Nat)(a b:List Rat),j<=m->j<=k->Nl j a->Nl j b->Q j a b (pT ts k a b):=by
 intro j
 induction j with
 |zero =>
  intro k a b _ _ ha hb;have pU:=ha.le;have fK:=hb.le
  have key:∀a b:List Rat,Nl 0 a->Nl 0 b->¬a.length<b.length->Q 0 a b (pT ts k a b):=by
   intro a b ha hb hlt;have pU:=ha.le;have fK:=hb.le;unfold pT;simp only[ais hlt];split
   ·rename_i h;rw[aio]at h;exact fB 0 a b ha hb h
   ·rename_i h;simp only [aio,not_or,Bool.not_eq_true] at h;have h1:a ≠ []:=fun h'=>by rw [h'] at h; cases h.1
    have h2:b≠[]:=fun h'=>by rw[h']at h;cases h.2
    obtain⟨p,rfl⟩:∃p,a=[p]:=afc.1 (by have:=aez.2 h1;omega);obtain⟨q,rfl⟩:∃q,b=[q]:=afc.1 (by have:=aez.2 h2;omega);simp only[ahx,ah9,if_true];exact uo 0 p q
  by_cases hlt:a.length<b.length
  ·rw[E4 ts k a b hlt];exact OV _ _ _ _ (key b a hb ha oz)
  ·exact key a b ha hb hlt
 |succ j ih =>
  intro k a b OW uq ha hb
  have key:∀a b:List Rat,Nl (j+1) a->Nl (j+1) b->¬a.length<b.length->Q (j+1) a b (pT ts k a b):=by
   intro a b ha hb hlt
   by_cases hs:Nl j a
   ·have k8:Nl j b:=by
     rcases hb with rfl |⟨i,hi,h⟩
     ·exact .inl rfl
     ·by_cases dH:i<=j
      ·exact .inr ⟨i,dH,h⟩
      ·have h1:=hs.le;have h2:2^(j+1)<=2^i:=ad8 oz oz;rw[ado]at h2;have:=aej j;omega
    exact AZ j a b _ hs k8 (ih k a b oz oz hs k8)
   ·have bg:a.length=2^(j+1):=by
     rcases ha with rfl |⟨i,hi,h⟩
     ·exact aiz (.inl rfl) hs
     ·by_cases dH:i<=j
      ·exact aiz (.inr ⟨i,dH,h⟩) hs
      ·rw[h,show i=j+1 by omega]
    obtain⟨k,rfl⟩:∃k',k=k'+1:=⟨k-1,by omega⟩
    have h2j:=aej j;have hx:Nl j (a.take (2^j)):=.inr ⟨j,ahr _,kq bg⟩;have hy:Nl j (a.drop (2^j)):=.inr ⟨j,ahr _,lr bg⟩;unfold pT;simp only[ais hlt];split
    ·rename_i h;rw[aio]at h;exact fB _ a b ha hb h
    ·rename_i h;simp only [aio,not_or,Bool.not_eq_true] at h;rw [ais (by rw [bg,ado]; omega)];simp only [bg,l8,Nu];split
     ·rename_i xr
      have k8:Nl j b:=by
       rcases hb with rfl |⟨i,hi,h'⟩
       ·exact .inl rfl
       ·by_cases dH:i<=j
        ·exact .inr ⟨i,dH,h'⟩
        ·have h2:2^(j+1)<=2^i:=ad8 oz oz;rw[ado]at h2;omega
      exact acu j a b _ _ bg k8 (ih k _ _ oz oz hx k8) (ih k _ _ oz oz hy k8)
     ·rename_i xr
      have FX:b.length=2^(j+1):=by
       rcases hb with rfl |⟨i,hi,h'⟩
       ·simp at xr
       ·by_cases dH:i<=j
        ·have:2^i<=2^j:=ad8 oz dH;omega
        ·rw[h',show i=j+1 by omega]
      have hu:Nl j (b.take (2^j)):=.inr ⟨j,ahr _,kq FX⟩;have hv:Nl j (b.drop (2^j)):=.inr ⟨j,ahr _,lr FX⟩;have h2:=ih k _ _ oz oz hy hv;exact acv j a b _ _ _ _ _ bg FX (ih k _ _ oz oz hx hu) h2 (ih k _ _ oz oz (cJ _ _ _ _ h2) (hr j oz)) (ih k _ _ oz oz hx hv) (ih k _ _ oz oz hy hu)
  by_cases hlt:a.length<b.length
  ·rw[E4 ts k a b hlt];exact OV _ _ _ _ (key b a hb ha oz)
  ·exact key a b ha hb hlt
theorem i6(ts:LL)(m:Nat)(hr:∀j,j<m->Nl j (ts.getD j []))(j k:Nat)(a b:List Rat)(hj:j<=m)(hk:j<=k)(ha:Nl j a)(hb:Nl j b) :
  Nl j (pT ts k a b)/\ao j (pT ts k a b)=T.mul (aD ts) j (ao j a) (ao j b):=by
 refine Lu ts (fun j a b c=>Nl j c/\ao j c=T.mul (aD ts) j (ao j a) (ao j b)) ?_ ?_ ?_ ?_ ?_ ?_ (fun _ _ _ _ h=>h.1) m hr j k a b hj hk ha hb
 ·intro j a b c h;exact⟨h.1,by rw[h.2,T.mul_comm]⟩
 ·intro j a b ha hb h;refine⟨.inl rfl,?_⟩;rw[oB];rcases h with h |h
  ·rw[CM h,T.zero_mul]
  ·rw[CM h,T.mul_zero]
 ·intro j p q;exact⟨.inr ⟨0,ahv _,rfl⟩,by rw[rc,rc,rc,T.mul_ofQ]⟩
 ·intro j a b c ha hb h;refine⟨h.1.mono oz,?_⟩;rw[kG ha.le,kG hb.le,kG h.1.le,T.mul_low,h.2]
 ·intro j a b c d ha hb hc hd;refine⟨.inr ⟨j+1,ahr _,?_⟩,?_⟩
  ·rw[r9 hc.1.le hd.1.le,ado];omega
  ·rw[DE hc.1.le,kG hb.le,hc.2,hd.2];simp only[ao];rw[T.mul_half]
 ·intro j a b c1 c2 c3 c4 c5 ha hb h1 h2 h3 h4 h5;refine⟨.inr ⟨j+1,ahr _,?_⟩,?_⟩
  ·have l1:=h1.1.le;have l3:=h3.1.le;have l4:=h4.1.le;have l5:=h5.1.le;rw[r9 (by rw[gy];omega) (by rw[gy];omega),ado];omega
  ·have l1:=h1.1.le;have l3:=h3.1.le;rw[DE (by rw[gy];omega),qf,qf,h1.2,h3.2,h4.2,h5.2,h2.2];rfl
def fv:Nat->List Rat->List Rat
  |0,a=>if bf a then[]else a
  |j+1,a=>if bf (a.drop (2^j))then fv j (a.take (2^j))else a
def T.isZ:(k:Nat)->T k->Bool
  |0,q=>decide ((q:Rat)=0)
  |k+1,x=>isZ k x.1&&isZ k x.2
theorem T.isZ_iff:∀(k:Nat)(x:T k),T.isZ k x=true↔x=T.zero k
 |0,x=>by simp only[T.isZ,aiu];rfl
 |k+1,x=>by
  simp only[T.isZ,ahj,T.isZ_iff k,T.zero];constructor
  ·intro h;exact Prod.ext h.1 h.2
  ·intro h;rw[h];exact⟨rfl,rfl⟩
def enc:(k:Nat)->T k->List Rat
  |0,q=>[q]
  |k+1,x=>enc k x.1++enc k x.2
def sh:(k:Nat)->T k->List Rat
  |0,q=>if(q:Rat)=0 then[]else[q]
  |k+1,x=>if T.isZ k x.2 then sh k x.1 else enc k x.1++enc k x.2
theorem oR:∀(k:Nat)(x:T k),(enc k x).length=2^k
 |0,x=>rfl
 |k+1,x=>by simp only[enc,aid,oR k];rw[ado];omega
theorem zG:∀(k:Nat)(x:T k),ao k (enc k x)=x
 |0,x=>rfl
 |k+1,x=>by
  simp only[enc,ao]
  rw [aff (by rw [oR]; exact ahr _), ah1 (by rw [oR]; exact ahr _), ae9 (by rw [oR]; exact ahr _),
   aib (by rw[oR];exact ahr _),nil_append,zG k,zG k]
theorem so:∀(k:Nat)(a:List Rat),a.length=2^k->enc k (ao k a)=a
 |0,a,h=>by
  obtain⟨p,rfl⟩:=afc.1 h;rfl
 |k+1,a,h=>by
  simp only[enc,ao];rw[so k _ (kq h),so k _ (lr h),ae1]
theorem aa8{k:Nat}{a:List Rat}(h:a.length<=2^k):bf a=T.isZ k (ao k a):=by
 rw[ags,T.isZ_iff];constructor
 ·exact CM
 ·intro h0;have h1:enc k (ao k (bt a (2^k)))=bt a (2^k):=so k _ (gX h);rw[Js,h0]at h1
  have h2:∀k,bf (enc k (T.zero k))=true:=by
   intro k
   induction k with
   |zero=>rfl
   |succ k ih=>simp only[enc,T.zero,bf,all_append,ahj]at ih ⊢;exact⟨ih,ih⟩
  have h3:=h2 k;rw[h1]at h3;simp only[bf,bt,all_append,ahj]at h3;exact h3.1
theorem EF:∀(k:Nat){a:List Rat},Nl k a->fv k a=sh k (ao k a)
 |0,a,h=>by
  have hl:=h.le;simp only[fv,sh]
  match a,hl with
  |[],_=>rfl
  |[p],_=>simp[bf,ao]
 |k+1,a,h=>by
  have hl:=h.le;have h1:(a.drop (2^k)).length<=2^k:=by simp;rw[ado]at hl;omega
  have e1:fv (k+1) a=if bf (a.drop (2^k))=true then fv k (a.take (2^k))else a:=rfl;have e2:∀x y:T k,sh (k+1) (x,y)=if T.isZ k y=true then sh k x else enc k x++enc k y:=fun _ _=>rfl
  rw[e1,show ao (k+1) a=(ao k (a.take (2^k)),ao k (a.drop (2^k)))from rfl,e2,aa8 h1]
  by_cases hz:T.isZ k (ao k (a.drop (2^k)))=true
  ·rw[ait hz,ait hz];refine EF k ?_;rcases h with rfl |⟨j,hj,h⟩
   ·exact .inl (by simp)
   ·by_cases uq:j<=k
    ·rw[ah1 (by rw[h];exact ad8 oz uq)];exact .inr ⟨j,uq,h⟩
    ·exact .inr ⟨k,ahr _,kq (by rw[h,show j=k+1 by omega])⟩
  ·rw[ais hz,ais hz]
   have ch:a.length=2^(k+1):=by
    rcases h with rfl |⟨j,hj,h⟩
    ·exfalso;apply hz
     rw[List.drop_nil,T.isZ_iff,oB]
    ·by_cases uq:j<=k
     ·exfalso;apply hz
      rw[aib (by rw[h];exact ad8 oz uq),T.isZ_iff,oB]
     ·rw[h,show j=k+1 by omega]
   rw[so k _ (kq ch),so k _ (lr ch),ae1]
theorem iH:∀(k:Nat)(x:T k),Nl k (sh k x)
 |0,q=>by
  simp only[sh];split
  ·exact .inl rfl
  ·exact .inr ⟨0,ahr _,rfl⟩
 |k+1,x=>by
  simp only[sh];split
  ·exact(iH k x.1).mono oz
  ·exact .inr ⟨k+1,ahr _,by rw[aid,oR,oR,ado];omega⟩
theorem dY:∀(k:Nat)(x:T k),ao k (sh k x)=x
 |0,q=>by
  simp only[sh];split
  ·rename_i h;exact h.symm
  ·rfl
 |k+1,x=>by
  simp only[sh];split
  ·rename_i h;rw[T.isZ_iff]at h;rw[kG (iH k x.1).le,dY k,<- h]
  ·exact zG (k+1) x
theorem Xu{k:Nat}{x:T (k+1)}(h:T.isZ k x.2=false):(sh (k+1) x).length=2^(k+1):=by
 simp only[sh,h,agv,if_false,aid,oR];rw[ado];omega
def Cd(D N:Nat)(l:List Rat):Prop:=0<D/\∀q∈l,∃n:Int,q*((D:Int):Rat)=(n:Rat)/\n.natAbs<=N
theorem Cd.mono{D N N':Nat}{l:List Rat}(h:Cd D N l)(hn:N<=N'):Cd D N' l :=
 ⟨h.1,fun q hq=>by obtain⟨n,h1,h2⟩:=h.2 q hq;exact⟨n,h1,by omega⟩⟩
theorem Cd.sub{D N:Nat}{l l':List Rat}(h:Cd D N l)(hs:∀q∈l',q∈l):Cd D N l':=⟨h.1,fun q hq=>h.2 q (hs q hq)⟩
theorem Cd.scale{D N c:Nat}{l:List Rat}(h:Cd D N l)(hc:0<c):Cd (D*c) (N*c) l:=by
 refine⟨adw h.1 hc,fun q hq=>?_⟩;obtain⟨n,h1,h2⟩:=h.2 q hq;refine⟨n*c,?_,?_⟩
 ·rw[Int.natCast_mul,agd,<- Rat.mul_assoc,h1,agd]
 ·rw[af6,aif];exact ah0 _ h2
theorem Cd.nil{D N:Nat}(h:0<D):Cd D N []:=⟨h,fun q hq=>by cases hq⟩
theorem Cd.app{D N:Nat}{a b:List Rat}(h:Cd D N a)(h':Cd D N b):Cd D N (a++b) :=
 ⟨h.1,fun q hq=>by rcases ahn.1 hq with hq |hq;exact h.2 q hq;exact h'.2 q hq⟩
theorem Cd.zeros{D N n:Nat}(h:0<D):Cd D N (afq n 0) :=
 ⟨h,fun q hq=>⟨0,by rw[(List.mem_replicate.1 hq).2,Rat.zero_mul];rfl,by simp⟩⟩
theorem Cd.wide{D N n:Nat}{a:List Rat}(h:Cd D N a):Cd D N (bt a n):=h.app (Cd.zeros h.1)
theorem Cd.join{D N n:Nat}{a b:List Rat}(h:Cd D N a)(h':Cd D N b):Cd D N (fP a b n):=h.wide.app h'.wide
theorem Cd.minus{D N:Nat}{a:List Rat}(h:Cd D N a):Cd D N (fj a):=by
 refine⟨h.1,fun q hq=>?_⟩;obtain⟨p,hp,rfl⟩:=aft.1 hq;obtain⟨n,h1,h2⟩:=h.2 p hp;refine⟨-n,?_,by omega⟩;rw[Rat.intCast_neg,<- h1,Rat.neg_mul]
theorem Cd.plus{D N N':Nat}{a b:List Rat}(h:Cd D N a)(h':Cd D N' b):Cd D (N+N') (dT a b):=by
 refine⟨h.1,fun q hq=>?_⟩;have h1:Cd D N (bt a (max a.length b.length)):=h.wide;have h2:Cd D N' (bt b (max a.length b.length)):=h'.wide;unfold dT at hq;obtain⟨i,hi,rfl⟩:=afa.1 hq;rw[List.getElem_zipWith];obtain⟨n,e1,e2⟩:=h1.2 _ (aey (by simp at hi;omega:i<(bt a (max a.length b.length)).length));obtain⟨m,e3,e4⟩:=h2.2 _ (aey (by simp at hi;omega:i<(bt b (max a.length b.length)).length));refine⟨n+m,?_,by have:=Int.natAbs_add_le n m;omega⟩;rw[Rat.add_mul,e1,e3,Rat.intCast_add]
theorem Cd.mul1{D N D' N':Nat}{p q:Rat}(h:Cd D N [p])(h':Cd D' N' [q]):Cd (D*D') (N*N') [p*q]:=by
 refine⟨adw h.1 h'.1,fun x hx=>?_⟩;rw[ae4.1 hx];obtain⟨n,e1,e2⟩:=h.2 p (by simp);obtain⟨m,e3,e4⟩:=h'.2 q (by simp);refine⟨n*m,?_,by rw[af6];exact adv e2 e4⟩;rw[agd,<- e1,<- e3,Int.natCast_mul,agd];grind
theorem Cd.qb{D N e:Nat}{l:List Rat}(h:Cd D N l)(hD:D<2^e)(hN:N<2^e){q:Rat}(hq:q∈l):Qb e q:=by
 obtain⟨n,h1,h2⟩:=h.2 q hq
 have hD0:((D:Int):Rat)≠0:=by
  intro h0;have:(D:Int)=0:=agf.1 h0;have:=h.1;omega
 have mV:q=agl n D:=by
  rw[Rat.divInt_eq_div,<- h1,Rat.mul_div_cancel hD0]
 have h0:=h.1;obtain⟨e1,e2⟩:=Ek (n:=n) (d:=(D:Int)) oz;rw[mV];refine⟨by omega,by rw[aif]at e2;omega⟩
def rR(D:Nat):Nat->Nat
  |0=>1
  |j+1=>rR D j*rR D j*D
def rM(D N:Nat):Nat->Nat
  |0=>1
  |j+1=>2*(rM D N j*rM D N j*(D+N))
theorem m7{D:Nat}(h:0<D):∀j,0<rR D j
 |0=>by simp[rR]
 |j+1=>adw (adw (m7 h j) (m7 h j)) h
theorem qc(D N:Nat):∀j,rR D j<=rM D N j
 |0=>ahr _
 |j+1=>by
  have h1:=adv (adv (qc D N j) (qc D N j)) (adt D N);simp only[rR,rM];omega
theorem We(ts:LL)(m D N:Nat)(OX:∀j,j<m->Nl j (ts.getD j [])/\Cd D N (ts.getD j []))(hD:0<D)(j k:Nat)(a b:List Rat)(hj:j<=m)(hk:j<=k)(ha:Nl j a)(hb:Nl j b)
  {Da Na Db Nb:Nat} (ca:Cd Da Na a) (cb:Cd Db Nb b):Cd (Da*Db*rR D j) (Na*Nb*rM D N j) (pT ts k a b):=by
 have key:=Lu ts (fun j a b c=>Nl j c/\(j<=m->∀Da Na Db Nb:Nat,Cd Da Na a->Cd Db Nb b->Cd (Da*Db*rR D j) (Na*Nb*rM D N j) c)) ?_ ?_ ?_ ?_ ?_ ?_ (fun _ _ _ _ h=>h.1) m (fun j hj=>(OX j hj).1) j k a b hj hk ha hb
 ·exact key.2 hj _ _ _ _ ca cb
 ·intro j a b c h;refine⟨h.1,fun hj Da Na Db Nb ca cb=>?_⟩;rw[aef Da,aef Na];exact h.2 hj _ _ _ _ cb ca
 ·intro j a b ha hb h;exact⟨.inl rfl,fun hj Da Na Db Nb ca cb=>Cd.nil (adw (adw ca.1 cb.1) (m7 hD j))⟩
 ·intro j p q;refine⟨.inr ⟨0,ahv _,rfl⟩,fun hj Da Na Db Nb ca cb=>?_⟩;have h1:=(ca.mul1 cb).scale (m7 hD j);exact h1.mono (ahu _ (qc D N j))
 ·intro j a b c ha hb h;refine ⟨h.1.mono oz,fun hj Da Na Db Nb ca cb=>?_⟩;have h1:=(h.2 oz _ _ _ _ ca cb).scale (adw (m7 hD j) hD);have e1:Da * Db * rR D j * (rR D j * D) = Da * Db * rR D (j + 1):=by simp only [rR]; grind
  rw[e1]at h1;refine h1.mono ?_;have h2:=ahu (rM D N j) (adv (qc D N j) (adt D N));have h3:rM D N j*(rR D j*D)<=rM D N (j+1):=by simp only[rM,ad0]at *;omega
  rw[ad0 (Na*Nb)];exact ahu _ h3
 ·intro j a b c d ha hb hc hd;refine ⟨.inr ⟨j + 1,ahr _,by rw [r9 hc.1.le hd.1.le,ado]; omega⟩,fun hj Da Na Db Nb ca cb=>?_⟩;have ca1:Cd Da Na (a.take (2 ^ j)):=ca.sub (fun q hq=>aes hq);have ca2:Cd Da Na (a.drop (2 ^ j)):=ca.sub (fun q hq=>aeu hq);have h1:=((hc.2 oz _ _ _ _ ca1 cb).join (hd.2 oz _ _ _ _ ca2 cb) (n:=2 ^ j)).scale (adw (m7 hD j) hD);have e1:Da * Db * rR D j * (rR D j * D) = Da * Db * rR D (j + 1):=by simp only [rR]; grind
  rw[e1]at h1;refine h1.mono ?_;have h2:=ahu (rM D N j) (adv (qc D N j) (adt D N));have h3:rM D N j*(rR D j*D)<=rM D N (j+1):=by simp only[rM,ad0]at *;omega
  rw[ad0 (Na*Nb)];exact ahu _ h3
 ·intro j a b c1 c2 c3 c4 c5 ha hb h1 h2 h3 h4 h5;refine⟨.inr ⟨j+1,ahr _,?_⟩,fun hj Da Na Db Nb ca cb=>?_⟩
  ·have l1:=h1.1.le;have l3:=h3.1.le;have l4:=h4.1.le;have l5:=h5.1.le;rw[r9 (by rw[gy];omega) (by rw[gy];omega),ado];omega
  have ca1:Cd Da Na (a.take (2^j)):=ca.sub (fun q hq=>aes hq);have ca2:Cd Da Na (a.drop (2^j)):=ca.sub (fun q hq=>aeu hq);have cb1:Cd Db Nb (b.take (2^j)):=cb.sub (fun q hq=>aes hq);have cb2:Cd Db Nb (b.drop (2^j)):=cb.sub (fun q hq=>aeu hq);have k2:=h2.2 oz _ _ _ _ ca2 cb2;have k3:=h3.2 oz _ _ _ _ k2 (OX j oz).2;have k1:=(h1.2 oz _ _ _ _ ca1 cb1).scale (adw (m7 hD j) hD);have k4:=(h4.2 oz _ _ _ _ ca1 cb2).scale (adw (m7 hD j) hD);have k5:=(h5.2 oz _ _ _ _ ca2 cb1).scale (adw (m7 hD j) hD);have e1:Da*Db*rR D j*(rR D j*D)=Da*Db*rR D (j+1):=by simp only[rR];grind
  have e3:Da*Db*rR D j*D*rR D j=Da*Db*rR D (j+1):=by simp only[rR];grind
  rw[e1]at k1 k4 k5;rw[e3]at k3;have b1:rM D N j*(rR D j*D)<=rM D N j*rM D N j*D:=by rw[ad0];exact ahu _ (ah0 _ (qc D N j))
  have b2:∀x,Na*Nb*rM D N j*(rR D j*D)+Na*Nb*x<=Na*Nb*(rM D N j*rM D N j*D+x):=by
   intro x;rw[ael,ad0 (Na*Nb)];exact Nat.add_le_add_right (ahu _ b1) _
  refine Cd.join (Cd.mono (k1.plus k3) ?_) (Cd.mono (k4.plus k5) ?_)
  ·have e4 : Na * Nb * rM D N j * N * rM D N j = Na * Nb * (rM D N j * rM D N j * N) := by grind
   rw[e4];refine ah8 (b2 _) (ahu _ ?_);simp only[rM];rw[<- ael];omega
  ·have e4 : Na * Nb * rM D N j * (rR D j * D) <= Na * Nb * (rM D N j * rM D N j * D) := by rw [ad0 (Na * Nb)]; exact ahu _ b1
   refine ah8 (Nat.add_le_add e4 e4) ?_;rw[<- ael];refine ahu _ ?_;simp only[rM];have:=ahu (rM D N j*rM D N j) (adt D N);omega
def eB(r:Nat):Nat->Nat
  |0=>0
  |j+1=>2*eB r j+r+2
theorem BX{D N r:Nat}(hD:D<=2^r)(hN:N<=2^r):∀j,rM D N j<=2^eB r j
 |0=>ahr _
 |j+1=>by
  have h1:=BX hD hN j;have h2:=adv (adv h1 h1) (Nat.add_le_add hD hN);simp only[rM,eB]
  have e:2^(2*eB r j+r+2)=2*(2^eB r j*2^eB r j*(2^r+2^r)):=by
   rw[ail,ail,Nat.two_mul,ail];grind
  rw[e];exact ahu _ h2
def Cb(e:Nat)(l:List Rat):Prop:=∃D N,Cd D N l/\D<=2^e/\N<=2^e
def RB(r:Nat)(ts:LL):Prop:=∃D N,0<D/\(∀d∈ts,Cd D N d)/\D<=2^r/\N<=2^r
theorem d7{a b:Nat}(h:a<=b):2^a<=2^b:=ad8 oz h
theorem Cb.mono{e f:Nat}{l:List Rat}(h:Cb e l)(hf:e<=f):Cb f l:=by
 obtain⟨D,N,h1,h2,h3⟩:=h;exact⟨D,N,h1,ah8 h2 (d7 hf),ah8 h3 (d7 hf)⟩
theorem Cb.sub{e:Nat}{l l':List Rat}(h:Cb e l)(hs:∀q∈l',q∈l):Cb e l':=by
 obtain⟨D,N,h1,h2,h3⟩:=h;exact⟨D,N,h1.sub hs,h2,h3⟩
theorem Cb.take{e n:Nat}{l:List Rat}(h:Cb e l):Cb e (l.take n):=h.sub (fun q hq=>aes hq)
theorem Cb.drop{e n:Nat}{l:List Rat}(h:Cb e l):Cb e (l.drop n):=h.sub (fun q hq=>aeu hq)
theorem Cb.nil:Cb 0 []:=⟨1,1,Cd.nil oz,by simp,by simp⟩
theorem Cb.wide{e n:Nat}{a:List Rat}(h:Cb e a):Cb e (bt a n):=by
 obtain⟨D,N,h1,h2,h3⟩:=h;exact⟨D,N,h1.wide,h2,h3⟩
theorem Cb.minus{e:Nat}{a:List Rat}(h:Cb e a):Cb e (fj a):=by
 obtain⟨D,N,h1,h2,h3⟩:=h;exact⟨D,N,h1.minus,h2,h3⟩
theorem Cb.plus{e f:Nat}{a b:List Rat}(h:Cb e a)(h':Cb f b):Cb (e+f+1) (dT a b):=by
 obtain⟨D,N,h1,h2,h3⟩:=h;obtain⟨D',N',h4,h5,h6⟩:=h';have k1:=h1.scale h4.1;have k2:=h4.scale h1.1;rw[aef D']at k2;refine⟨_,_,k1.plus k2,?_,?_⟩
 ·rw[ado,ail];have:=adv h2 h5;omega
 ·rw[ado,ail];have e1:=adv h3 h5;have e2:=adv h6 h2;rw[aef (2^f)]at e2;omega
theorem Cb.qb{e:Nat}{l:List Rat}(h:Cb e l){q:Rat}(hq:q∈l):Qb (e+1) q:=by
 obtain⟨D,N,h1,h2,h3⟩:=h;have:=aej e;exact h1.qb (by rw[ado];omega) (by rw[ado];omega) hq
theorem Cb.qs{e:Nat}{l:List Rat}(h:Cb e l)(he:e<4398046511104){q:Rat}(hq:q∈l):Qs q:=(h.qb hq).qs he
def nU(ts:LL)(m r:Nat):Prop:=(∀j,j<m->Nl j (ts.getD j []))/\RB r ts
theorem RB.get{r:Nat}{ts:LL}(h:RB r ts):∃D N,0<D/\(∀j,Cd D N (ts.getD j []))/\D<=2^r/\N<=2^r:=by
 obtain⟨D,N,h0,h1,h2,h3⟩:=h;refine⟨D,N,h0,fun j=>?_,h2,h3⟩;rw[ahh];cases hx:ts[j]? with
 |none=>exact Cd.nil h0
 |some d=>exact h1 d (ahg hx)
theorem RB.cb{r:Nat}{ts:LL}(h:RB r ts)(j:Nat):Cb r (ts.getD j []):=by
 obtain⟨D,N,h0,h1,h2,h3⟩:=h.get;exact⟨D,N,h1 j,h2,h3⟩
theorem Cb.mul{ts:LL}{m r:Nat}(ht:nU ts m r){j k e f:Nat}{a b:List Rat}(hj:j<=m)(hk:j<=k)(ha:Nl j a)(hb:Nl j b)(ca:Cb e a)(cb:Cb f b) :
  Cb (e+f+eB r j) (pT ts k a b):=by
 obtain⟨D,N,h0,h1,h2,h3⟩:=ht.2.get;obtain⟨Da,Na,a1,a2,a3⟩:=ca;obtain⟨Db,Nb,b1,b2,b3⟩:=cb;refine⟨_,_,We ts m D N (fun j hj=>⟨ht.1 j hj,h1 j⟩) h0 j k a b hj hk ha hb a1 b1,?_,?_⟩
 ·rw[ail,ail];exact adv (adv a2 b2) (ah8 (qc D N j) (BX h2 h3 j))
 ·rw[ail,ail];exact adv (adv a3 b3) (BX h2 h3 j)
theorem U9(r:Nat):∀j,eB r j<=eB r (j+1):=fun j=>by simp only[eB];omega
def sB(r:Nat):Nat->Nat->Nat
  |0,e=>e
  |j+1,e=>sB r j (4*e+3*eB r j+r+1)
theorem uE(r:Nat):∀j e,e<=sB r j e
 |0,e=>ahr _
 |j+1,e=>by have:=uE r j (4*e+3*eB r j+r+1);simp only[sB];omega
theorem vP(r:Nat):∀j {e f:Nat},e<=f->sB r j e<=sB r j f
 |0,e,f,h=>h
 |j+1,e,f,h=>by simp only[sB];exact vP r j oz
theorem S2(r j e:Nat):sB r j e<=sB r (j+1) e:=by simp only[sB];exact vP r j oz
theorem Aw(r e:Nat){i j:Nat}(h:i<=j):sB r i e<=sB r j e:=by
  induction j with
  | zero => have : i = 0 := by omega
            subst this;exact ahr _
  |succ j ih =>
    by_cases dH:i=j+1
    · rw[dH];exact ahr _
    · exact ah8 (ih oz) (S2 r j e)
theorem PT(r e:Nat){j:Nat}(h:j<=2):sB r j e<=16*e+17*r+29:=by
 refine ah8 (Aw r e h) ?_;simp only[sB,eB];omega
theorem ZS(r e:Nat){j:Nat}(h:j<=3):sB r j e<=64*e+177*r+333:=by
 refine ah8 (Aw r e h) ?_;simp only[sB,eB];omega
def lm(n:Nat):Nat:=if n<=2 then 200000000000 else 50000000000
theorem WI(n:Nat):lm n<=200000000000:=by unfold lm;split <;> omega
theorem Lv(n:Nat):50000000000<=lm n:=by unfold lm;split <;> omega
def nA(l:List Rat):AV:=.lst 3 (l.map qA)
def nR(l:List Rt):AV:=.lst 3 (l.map Rt.av)
def jX(ts:LL):AV:=.agg [.lst 1 (ts.map nA)]
def M5(ts:List (List Rt)):AV:=.agg [.lst 1 (ts.map nR)]
def tZ(n:Nat):Nat:=if n<=1 then 0 else(n-1).log2+1
theorem Mm{n k:Nat}(h1:∀j,j<k->2^j<n)(h2:n<=2^k):tZ n=k:=by
 unfold tZ;split
 ·rename_i h;cases k with
  |zero=>rfl
  |succ k=>have:=h1 0 oz;omega
 ·rename_i h;cases k with
  |zero=>simp at h2;omega
  |succ k =>
   have h3:=h1 k oz;congr 1;rw[Nat.log2_eq_iff oz];omega
def kM(n:Nat):Int:=if 2^tZ n=n then(tZ n:Int)else -1
theorem Wz(j:Nat):tZ (2^j)=j:=Mm (fun i hi=>ad6 oz hi) (ahr _)
theorem vM(j:Nat):kM (2^j)=j:=by unfold kM;rw[Wz,ait rfl]
theorem ab5{n:Nat}(h:0<=kM n):∃j:Nat,n=2^j/\kM n=(j:Int):=by
 unfold kM at h ⊢;split at h
 ·rename_i h1;exact⟨tZ n,h1.symm,by rw[ait h1]⟩
 ·omega
theorem K6{k:Nat}(hk:k<=62):IntKind.i64.wrap ((1:Int)*2^(min (k:Int).toNat IntKind.i64.bits))=((2^k:Nat):Int):=by
 have h1:min (k:Int).toNat IntKind.i64.bits=k:=by simp[IntKind.bits];omega
 have h2:2^k<=2^62:=d7 hk;have h3:(2:Nat)^62=4611686018427387904:=by decide
 have h4:((2:Int)^k)=((2^k:Nat):Int):=by simp
 rw[h1,Int.one_mul,h4];generalize 2^k=x at *;exact i64_in oz
def iY(m:Nat)(a:List Rt):Nat:=if a≠[]/\(kM a.length<0\/(m:Int)<kM a.length)then 10 else if a.all Rt.valid then 0 else 2
theorem It{m:Nat}{a:List Rt}(h:iY m a=0)(bc:∀r∈a,r.ok):a=(a.map Rt.q).map rt/\Nl m (a.map Rt.q):=by
 unfold iY at h;split at h
 ·cases h
 ·rename_i h1;split at h
  ·rename_i h2;rw[ahs]at h2;refine⟨?_,?_⟩
   ·rw[map_map];refine(List.map_id _).symm.trans ?_;exact afg (fun r hr=>Rt.eq_rt (bc r hr) (h2 r hr))
   ·by_cases h0:a=[]
    ·subst h0;exact .inl rfl
    ·have h3:0<=kM a.length/\kM a.length<=m:=by
      constructor
      ·exact Int.not_lt.1 (fun h=>h1 ⟨h0,.inl h⟩)
      ·exact Int.not_lt.1 (fun h=>h1 ⟨h0,.inr h⟩)
     obtain⟨j,e1,e2⟩:=ab5 h3.1;exact .inr ⟨j,by omega,by rw[ahk,e1]⟩
  ·cases h
theorem GU(l:List Rat):nR (l.map rt)=nA l:=by
 unfold nR nA;rw[map_map];rfl
theorem Nl.len5{k:Nat}{a:List Rat}(h:Nl k a)(hk:k<=5):a.length<=32:=ah8 h.le (d7 (b:=5) hk)
theorem qZ:i7 (.agg [.v (.bool false),.v (.slice none 0 0),.v (.slice none 0 0)]) (qA 0):=by
 refine⟨rfl,?_⟩;intro j x y hx hy
 match j,hx,hy with
 |0,hx,hy=>cases hx;cases hy;exact⟨rfl,.refl _⟩
 |1,hx,hy=>cases hx;cases hy;exact⟨rfl,.nil _ _ _⟩
 |2,hx,hy=>cases hx;cases hy;exact⟨rfl,.nil _ _ _⟩
theorem i7.refl{e:AV}(h:∀c∈e.cells,c.one=true):i7 e e :=
 ⟨rfl,fun j x y hx hy=>by rw[hx]at hy;cases hy;exact⟨h x (ahg hx),.refl _⟩⟩
theorem XX(q:Rat):∀c∈(qA q).cells,c.one=true:=by
 intro c hc;have:c=bl (rt q).neg\/c=ws (rt q).num\/c=ws (rt q).den:=by simpa[qA,Rt.av,AV.cells]using hc
 rcases this with rfl |rfl |rfl <;> rfl
theorem Ju(a:List Rat)(n:Nat)(h:a.length<=n) :
  BlkSub (.row 3 (a.map qA++(afq n (.agg [.v (.bool false),.v (.slice none 0 0),.v (.slice none 0 0)])).drop (a.map qA).length)) (.row 3 ((bt a n).map qA)):=by
 refine .row ?_ ?_
 ·simp only[bt,aid,ahk,afi,ah7]
 ·intro i e e' he he'
  by_cases hi:i<a.length
  ·rw[ah4 (by simpa using hi)]at he;simp only[bt,aih]at he';rw[ah4 (by simpa using hi),he]at he';cases he';simp only[aho,ahl]at he;obtain⟨q,_,rfl⟩:=he;exact i7.refl (XX q)
  ·rw [ahz (by simpa using hi), List.drop_replicate, aia] at he;simp only [bt,aih] at he';rw [ahz (by simpa using hi),aik,aia] at he';split at he
   ·cases he;split at he'
    ·cases he';exact qZ
    ·cases he'
   ·cases he
theorem H3{p w:List Rat}{i:Nat}{s:Rat}(hl:p.length=w.length)(hi:i<p.length)(hs:p[i]=s) :
  ((p.take i++w.drop i).map qA).set i (qA s)=(p.take (i+1)++w.drop (i+1)).map qA:=by
 rw[<- ain];congr 1;subst hs;rw[List.set_append_right i _ (by simp;omega)];have h1:i-(p.take i).length=0:=by simp;omega
 rw[h1,ae7 oz,List.set_cons_zero,ae0 hi,aip];rfl
theorem Rb{a b:List Rat}{i:Nat}(hi:i<(dT a b).length) :
  (dT a b)[i]=(bt a (max a.length b.length)).getD i 0+(bt b (max a.length b.length)).getD i 0:=by
 have h:=Jl (a:=a) (b:=b) (i:=i);rw[ahh,ahm hi,ahe]at h;rw[h,ra,ra]
theorem getD_some{l:List Rat}{i:Nat}(h:i<l.length):l[i]?=some (l.getD i 0):=by
 rw[ahh,ahm h];rfl
theorem BY{l:List Rat}{i:Nat}(h:i<l.length):l.getD i 0∈l:=by
 rw[ahh,ahm h];exact aey h
theorem L9{p w:List Rat}{i:Nat}(hl:p.length=w.length)(hi:i<p.length):(p.take i++w.drop i)[i]?=some (w.getD i 0):=by
 rw[ahz (by simp;omega),aii];have:i+(i-(p.take i).length)=i:=by simp;omega
 rw[this];exact getD_some oz
theorem gB{α:Type}{l:List α}{i:Nat}{x:α}(h:l[i]?=some x):l.take (i+1)=l.take i++[x]:=by
 obtain⟨hi,rfl⟩:=afh.1 h;exact ae0 hi
theorem Fb{q:Rat}(h:a7 q=0):q=0:=by
 unfold a7 at h;split at h
 ·cases h
 ·split at h
  ·cases h
  ·grind
theorem abf:rt 0=⟨false,[],[]⟩:=rfl
theorem Qa{q:Rat}(h:cond (cond (rt q).neg true (aa .gtr ((rt q).num.length:Int) 0)) true (aa .gtr ((rt q).den.length:Int) 0)=true):q≠0:=by
 intro h0;rw[h0,abf]at h;cases h
theorem RN{q:Rat}(h:cond (cond (rt q).neg true (aa .gtr ((rt q).num.length:Int) 0)) true (aa .gtr ((rt q).den.length:Int) 0)=false):q=0:=by
 cases hn:(rt q).neg
 ·rw[hn]at h;cases hm:aa .gtr ((rt q).num.length:Int) 0
  ·have h1:(rt q).num=[]:=by
    cases hl:(rt q).num with
    |nil=>rfl
    |cons x l=>rw[hl]at hm;simp[aa]at hm
   rw[<- bG q];exact Rt.zero (fun h=>h.2 h1)
  ·rw[hm]at h;cases h
 ·rw[hn]at h;cases h
theorem qQ{n:Nat}(h:n<=281474976710656):IntKind.i64.wrap ((n:Int).tdiv 2)=((n/2:Nat):Int):=by
 rw[show((n:Int).tdiv 2)=((n/2:Nat):Int)from(Int.ofNat_tdiv n 2).symm];exact i64_in oz
theorem Oo{m j:Nat}{a:List Rat}(h:a.length<=2^j)(hj:j<=m):fv m a=fv j a:=by
  induction m with
  | zero => have : j = 0 := by omega
            subst this;rfl
  |succ m ih =>
    by_cases OW:j=m+1
    · rw[OW]
    · have h1:a.length<=2^m:=ah8 h (d7 oz)
      have h2:fv (m+1) a=if bf (a.drop (2^m))=true then fv m (a.take (2^m))else a:=rfl;rw[h2,aib h1,ait XY,ah1 h1];exact ih oz
def ow(a:List Rat)(n:Nat):Prop:=(n=0/\a=[])\/∃i,n=2^i/\i<=5/\n<=a.length/\fv 5 a=fv i (a.take n)
theorem Um{a:List Rat}(h:Nl 5 a):ow a a.length:=by
 rcases h with rfl |⟨j,hj,h⟩
 ·exact .inl ⟨rfl,rfl⟩
 ·exact .inr ⟨j,h,hj,ahr _,by rw[ahw];exact Oo oz hj⟩
theorem GR{a:List Rat}{i:Nat}:(a.drop (2^i)).take (2^(i+1)-2^i)=(a.take (2^(i+1))).drop (2^i):=by
 rw[List.drop_take]
theorem Uv{a:List Rat}{n:Nat}(h:ow a n)(h1:1<n)(hz:bf ((a.drop (n/2)).take (n-n/2))=true):ow a (n/2):=by
 rcases h with⟨h,_⟩ |⟨i,rfl,hi,hl,hs⟩
 ·omega
 ·cases i with
  |zero=>simp at h1
  |succ i =>
   rw[l8]at hz ⊢;rw[GR]at hz;have h2:fv (i+1) (a.take (2^(i+1)))=if bf ((a.take (2^(i+1))).drop (2^i))=true then fv i ((a.take (2^(i+1))).take (2^i))else a.take (2^(i+1)):=rfl;rw[h2,ait hz,afr,adi (d7 oz)]at hs;exact .inr ⟨i,rfl,by omega,ah8 (d7 oz) hl,hs⟩
theorem aaw{a:List Rat}(h:ow a 1)(hz:bf (a.take 1)=true):fv 5 a=[]:=by
 rcases h with⟨h,_⟩ |⟨i,h0,hi,hl,hs⟩
 ·omega
 ·have:i=0:=by
   cases i with
   |zero=>rfl
   |succ i=>rw[ado]at h0;omega
  subst this;rw[hs];show(if bf (a.take 1)=true then[]else _)=_;rw[ait hz]
theorem YE{a:List Rat}{n:Nat}(h:ow a n)(h1:1<n->bf ((a.drop (n/2)).take (n-n/2))=false)(h2:n=1->bf (a.take 1)=false):fv 5 a=a.take n:=by
 rcases h with⟨rfl,rfl⟩ |⟨i,rfl,hi,hl,hs⟩
 ·rfl
 ·cases i with
  |zero =>
   rw[hs];show(if bf (a.take 1)=true then[]else _)=_;rw[h2 rfl];rfl
  |succ i =>
   have h3:=h1 (by have:=aej i;rw[ado];omega);rw[l8,GR]at h3;rw[hs];have h4:fv (i+1) (a.take (2^(i+1)))=if bf ((a.take (2^(i+1))).drop (2^i))=true then fv i ((a.take (2^(i+1))).take (2^i))else a.take (2^(i+1)):=rfl;rw[h4,h3];rfl
theorem ow.le{a:List Rat}{n:Nat}(h:ow a n):n<=a.length:=by
 rcases h with⟨rfl,rfl⟩ |⟨i,rfl,hi,hl,hs⟩
 ·exact ahr _
 ·exact hl
theorem EZ(a:List Rat)(l m:Nat):AV.lst 3 (((a.map qA).drop l).take m)=nA ((a.drop l).take m):=by
 unfold nA;rw[map_take,afk]
theorem WX{n:Nat}{a:List Rat}(h:Nl n a)(hn:n<=5):fv 5 a=sh n (ao n a):=by
 rw[Oo h.le hn,EF n h]
theorem BlkSub.of_{x y z:Blk}(h:BlkSub x y)(e:z=x):BlkSub z y:=e▸h
theorem Wj{a:List Rat}{i:Nat}(hi:i<(fj a).length):(fj a)[i]=-(a.getD i 0):=by
 have h:=IG (a:=a) (i:=i);rw[ahh,ahm hi,ahe]at h;exact h
theorem XP{ts:LL}{k:Nat}{x y:List Rat}(hl:y.length<=x.length)(h:bf x=true\/bf y=true):pT ts k x y=[]:=by
 unfold pT;simp only[ais (show ¬x.length<y.length by omega)];rw[ait (by rw[aio];exact h)]
theorem So{ts:LL}{k:Nat}{p q:Rat}(h:¬(bf [p]=true\/bf [q]=true)):pT ts k [p] [q]=[p*q]:=by
 unfold pT;simp only[ahx,ah9,Nat.lt_irrefl,if_false];rw[ais (by rw[aio];exact h)];simp
theorem aa9{ts:LL}{k i:Nat}{x y:List Rat}(hx:x.length=2^(i+1))(hl:y.length<=2^i)(h:¬(bf x=true\/bf y=true)) :
  pT ts (k+1) x y=fP (pT ts k (x.take (2^i)) y) (pT ts k (x.drop (2^i)) y) (2^i):=by
 have h2:=aej i;have hlt:¬x.length<y.length:=by rw[hx,ado];omega
 conv=>lhs;unfold pT
 simp only[ais hlt];rw[ais (by rw[aio];exact h),ais (by rw[hx,ado];omega)];simp only[hx,l8];rw[ait hl]
theorem VT{ts:LL}{k i:Nat}{x y:List Rat}(hx:x.length=2^(i+1))(hl:¬y.length<=2^i)(A0:y.length<=x.length)(h:¬(bf x=true\/bf y=true)) :
  pT ts (k+1) x y=fP (dT (pT ts k (x.take (2^i)) (y.take (2^i))) (pT ts k (pT ts k (x.drop (2^i)) (y.drop (2^i))) (ts.getD i [])))
   (dT (pT ts k (x.take (2^i)) (y.drop (2^i))) (pT ts k (x.drop (2^i)) (y.take (2^i)))) (2^i):=by
 conv=>lhs;unfold pT
 simp only[ais (show ¬x.length<y.length by omega)];have h2:=aej i;rw[ais (by rw[aio];exact h),ais (by rw[hx,ado];omega)];simp only[hx,l8,Nu];rw[ais hl]
theorem q7(r:Nat){i j:Nat}(h:i<=j):eB r i<=eB r j:=by
  induction j with
  | zero => have : i = 0 := by omega
            subst this;exact ahr _
  |succ j ih =>
    by_cases dH:i=j+1
    · rw[dH];exact ahr _
    · exact ah8 (ih oz) (U9 r j)
theorem E3{j:Nat}{x:List Rat}(h:Nl j x):x.length=0\/x.length=1\/∃i,i+1<=j/\x.length=2^(i+1):=by
 rcases h with rfl |⟨i,hi,h⟩
 ·exact .inl rfl
 ·cases i with
  |zero=>exact .inr (.inl h)
  |succ i=>exact .inr (.inr ⟨i,hi,h⟩)
theorem S7{j i:Nat}{x:List Rat}(h:Nl j x)(hl:x.length<=2^i):Nl i x:=by
 rcases h with rfl |⟨l,hl',h⟩
 ·exact .inl rfl
 ·refine .inr ⟨l,?_,h⟩;rcases ahq i l with h1 |h1
  ·have:=ad6 (a:=2) oz h1;omega
  ·exact h1
theorem VH{j i:Nat}{x:List Rat}(h:Nl j x)(hl:¬x.length<=2^i)(hu:x.length<=2^(i+1)):x.length=2^(i+1):=by
 rcases h with rfl |⟨l,hl',h⟩
 ·simp at hl
 ·rcases ahq i l with h1 |h1
  ·rcases ahq (i+1) l with h2 |h2
   ·have:=ad6 (a:=2) oz h2;omega
   ·rw[h,show l=i+1 by omega]
  ·have:=d7 h1;omega
theorem Fj{ts:LL}{j:Nat}(h:j<ts.length):(ts.map nA)[j]?=some (nA (ts.getD j [])):=by
 rw[aho,ahh,ahm h];rfl
theorem r5(x:List Rat)(n:Nat):AV.lst 3 (((x.map qA).drop 0).take (n-0))=nA (x.take n):=by
 rw[Nat.sub_zero,aim,<- map_take];rfl
theorem wG(x:List Rat)(n:Nat):AV.lst 3 (((x.map qA).drop n).take ((x.map qA).length-n))=nA (x.drop n):=by
 rw[<- afk,ah1 (by simp)];rfl
def ja(ts:LL)(i:Nat)(a:List Rat):List Rat :=
  dT (pT ts i (a.take (2^i)) (a.take (2^i))) (fj (pT ts i (pT ts i (a.drop (2^i)) (a.drop (2^i))) (ts.getD i [])))
theorem z4{ts:LL}{m r:Nat}(ht:nU ts m r){i e:Nat}{a:List Rat}(hi:i+1<=m)(ha:a.length=2^(i+1))(ca:Cb e a) :
  Nl i (ja ts i a)/\ao i (ja ts i a)=T.norm (aD ts) i (ao (i+1) a)/\Cb (4*e+3*eB r i+r+1) (ja ts i a):=by
 have n1:Nl i (a.take (2^i)):=.inr ⟨i,ahr _,kq ha⟩;have n2:Nl i (a.drop (2^i)):=.inr ⟨i,ahr _,lr ha⟩;have s1:=i6 ts m ht.1 i i _ _ oz oz n1 n1;have s2:=i6 ts m ht.1 i i _ _ oz oz n2 n2;have s3:=i6 ts m ht.1 i i _ _ oz oz s2.1 (ht.1 i oz);have c1:=Cb.mul ht (k:=i) (show i<=m by omega) oz n1 n1 ca.take ca.take;have c2:=Cb.mul ht (k:=i) (show i<=m by omega) oz n2 n2 ca.drop ca.drop;have c3:=Cb.mul ht (k:=i) (show i<=m by omega) oz s2.1 (ht.1 i oz) c2 (ht.2.cb i);refine⟨?_,?_,?_⟩
 ·have l1:=s1.1.le;have l3:=s3.1.le;rcases s1.1 with h1 |⟨j1,ur,h1⟩ <;> rcases s3.1 with h3 |⟨j3,hj3,h3⟩
  ·refine .inl ?_;apply afn;unfold ja;rw[gy,lO,h1,h3];rfl
  ·refine .inr ⟨j3,hj3,?_⟩;unfold ja;rw[gy,lO,h1,h3];simp
  ·refine .inr ⟨j1,ur,?_⟩;unfold ja;rw[gy,lO,h1,h3];simp
  ·refine .inr ⟨max j1 j3, by omega, ?_⟩;unfold ja;rw [gy,lO,h1,h3];rcases Nat.le_total j1 j3 with h | h
   ·rw[adh h,adh (d7 h)]
   ·rw[ad1 h,ad1 (d7 h)]
 ·unfold ja T.norm;rw[qf,zP,s1.2,s3.2,s2.2];rfl
 ·exact(c1.plus c3.minus).mono oz
theorem T.sgn_ofQ(r:(k:Nat)->T k):∀(k:Nat)(q:Rat),T.sgn r k (T.ofQ k q)=a7 q
 |0,q=>rfl
 |k+1,q=>by simp only[T.ofQ];rw[T.sgn_low,T.sgn_ofQ r k]
theorem yd(r:(k:Nat)->T k){i j:Nat}{a:List Rat}(h:a.length<=2^i)(dH:i<=j):T.sgn r j (ao j a)=T.sgn r i (ao i a):=by
  induction j with
  | zero => have : i = 0 := by omega
            subst this;rfl
  |succ j ih =>
    by_cases h':i=j+1
    · rw[h']
    · rw[kG (ah8 h (d7 oz)),T.sgn_low]
      exact ih oz
theorem Ml:∀(k:Nat){a:List Rat}{q:Rat},q∈fv k a->q∈a
 |0,a,q,h=>by
  have e:fv 0 a=if bf a=true then[]else a:=rfl;rw[e]at h;split at h
  ·cases h
  ·exact h
 |k+1,a,q,h=>by
  have e:fv (k+1) a=if bf (a.drop (2^k))=true then fv k (a.take (2^k))else a:=rfl;rw[e]at h;split at h
  ·exact aes (Ml k h)
  ·exact h
theorem Cb.sh{e k:Nat}{a:List Rat}(h:Cb e a)(hn:Nl k a):Cb e (sh k (ao k a)):=by
 rw[<- EF k hn];exact Cb.sub h (fun q hq=>Ml k hq)
theorem QW{x y:Int}(hx:x=-1\/x=0\/x=1)(hy:y=-1\/y=0\/y=1):IntKind.i64.wrap (fu .mul x y)=x*y:=by
 apply Md;rcases hx with rfl |rfl |rfl <;> rcases hy with rfl |rfl |rfl <;> simp
theorem Xk{x y z w:Int}(h:cond (aa .eql x y) true (aa .eql z w)=true):x=y\/z=w:=by
 cases hx:aa .eql x y
 ·rw[hx]at h;exact .inr (by simpa[aa]using h)
 ·exact .inl (by simpa[aa]using hx)
theorem SH{x y z w:Int}(h:cond (aa .eql x y) true (aa .eql z w)=false):¬(x=y\/z=w):=by
 cases hx:aa .eql x y
 ·rw [hx] at h;have h1:x ≠ y:=by simpa [aa] using hx
  have h2:z≠w:=by simpa[aa]using h
  exact fun h=>h.elim h1 h2
 ·rw[hx]at h;cases h
abbrev lq(a:List Rt):List Rat:=a.map Rt.q
abbrev llq(rs:List (List Rt)):LL:=rs.map lq
def rm(rs:List (List Rt)):Nat->Nat->Nat
  |0,_=>0
  |f+1,k=>if(rs.getD k []).length≠2^k then 10 else if iY k (rs.getD k [])≠0 then iY k (rs.getD k [])
    else if T.sgn (aD (llq rs)) k (aD (llq rs) k)<0 then 3 else rm rs f (k+1)
def fg(rs:List (List Rt)):Nat:=if 5<rs.length then 4 else rm rs rs.length 0
def ii:List Nat->Nat
  |[]=>0
  |e::l=>if e≠0 then e else ii l
def oO(rs:List (List Rt))(xs:List (List Rt)):Nat:=if fg rs≠0 then fg rs else ii (xs.map (iY rs.length))
theorem T.mul_congr{r r':(k:Nat)->T k}:∀(k:Nat),(∀j,j<k->r j=r' j)->∀x y,T.mul r k x y=T.mul r' k x y
 |0,_,x,y=>rfl
 |k+1,h,x,y=>by
  have ih:=T.mul_congr k (fun j hj=>h j oz);simp only[T.mul,ih,h k oz]
theorem T.sgn_congr{r r':(k:Nat)->T k}:∀(k:Nat),(∀j,j<k->r j=r' j)->∀x,T.sgn r k x=T.sgn r' k x
 |0,_,x=>rfl
 |k+1,h,x=>by
  have ih:=T.sgn_congr k (fun j hj=>h j oz);have im:=T.mul_congr k (fun j hj=>h j oz);simp only[T.sgn,T.norm,ih,im,h k oz]
theorem Mn(rs:List (List Rt))(k:Nat):(llq rs).getD k []=lq (rs.getD k []):=by
 simp only[ahh,aho];cases rs[k]? <;> rfl
def uS(rs:List (List Rt))(k:Nat):Prop:=(rs.getD k []).length=2^k/\iY k (rs.getD k [])=0/\0<=T.sgn (aD (llq rs)) k (aD (llq rs) k)
theorem Tb{rs:List (List Rt)}{f k:Nat}(h:uS rs k):rm rs (f+1) k=rm rs f (k+1):=by
 obtain⟨h1,h2,h3⟩:=h;show(if _ then _ else _)=_;rw[ais (by rw[h1];simp),ais (by rw[h2];simp),ais oz]
theorem NK:∀{f k:Nat}{rs:List (List Rt)},rm rs f k=0->∀j,k<=j->j<k+f->uS rs j
 |0,k,rs,_,j,h1,h2=>by omega
 |f+1,k,rs,h,j,h1,h2=>by
  have h':(if(rs.getD k []).length≠2^k then 10 else if iY k (rs.getD k [])≠0 then iY k (rs.getD k [])
   else if T.sgn (aD (llq rs)) k (aD (llq rs) k)<0 then 3 else rm rs f (k+1))=0:=h
  split at h'
  ·cases h'
  ·rename_i e1;split at h'
   ·rename_i e2;exact aiz h' e2
   ·rename_i e2;split at h'
    ·cases h'
    ·rename_i e3
     by_cases hj:j=k
     ·subst hj;exact⟨ahf.1 e1,ahf.1 e2,by omega⟩
     ·exact NK h' j oz oz
theorem IB:∀{f k:Nat}{rs:List (List Rt)},(∀j,k<=j->j<k+f->uS rs j)->rm rs f k=0
 |0,k,rs,_=>rfl
 |f+1,k,rs,h=>by
  rw[Tb (h k oz oz)];exact IB (fun j h1 h2=>h j oz oz)
theorem YH{rs:List (List Rt)}(bc:∀d∈rs,∀x∈d,x.ok){k:Nat}(hk:k<=rs.length)(h:∀j,j<k->iY j (rs.getD j [])=0):(rs.take k).map nR=((llq rs).take k).map nA:=by
 apply List.ext_getElem?;intro j;simp only[aho,aie]
 by_cases hj:j<k
 ·rw [ait hj, ait hj];have A4:j < rs.length:=by omega
  have h1:=h j hj;rw[ahh,ahm A4,ahe]at h1;rw[ahm A4];simp only[ahd];congr 1;have:=(It h1 (fun x hx=>bc _ (aey A4) x hx)).1;rw[<- GU,<- this]
 ·rw[ais hj,ais hj];rfl
theorem uS.nl{rs:List (List Rt)}{k:Nat}(h:uS rs k):Nl k ((llq rs).getD k []):=by
 rw[Mn];exact .inr ⟨k,ahr _,by rw[ahk,h.1]⟩
structure Tw(ts:LL)(r:Nat):Prop where
  three:ts.length<=3
  len:∀j,j<ts.length->(ts.getD j []).length=2^j
  pos:∀j,j<ts.length->0<=T.sgn (aD ts) j (aD ts j)
  rb:RB r ts
  le:r<=5000000000
theorem Tw.five{ts:LL}{r:Nat}(h:Tw ts r):ts.length<=5:=ah8 h.three oz
theorem Tw.ok{ts:LL}{r:Nat}(h:Tw ts r):nU ts ts.length r :=
 ⟨fun j hj=>.inr ⟨j,ahr _,h.len j hj⟩,h.rb⟩
structure TR(rs:List (List Rt))(r:Nat):Prop where
  ok:∀d∈rs,∀x∈d,x.ok
  len:∀d∈rs,d.length<=281474976710656
  ll:rs.length<=281474976710656
  rb:RB r (llq rs)
  le:r<=5000000000
  three:rs.length<=3\/5<rs.length
theorem LS{rs:List (List Rt)}{r:Nat}(h:TR rs r)(hc:fg rs=0):Tw (llq rs) r/\M5 rs=jX (llq rs):=by
 unfold fg at hc;split at hc
 ·cases hc
 ·rename_i h5;have hk:=NK hc;have hl:(llq rs).length = rs.length:=ahk _;refine ⟨⟨by have:=h.three; rw [hl]; omega,fun j hj=>?_,fun j hj=>?_,h.rb,h.le⟩,?_⟩
  ·rw[Mn,ahk];exact(hk j oz oz).1
  ·exact(hk j oz oz).2.2
  ·unfold M5 jX;have:=YH h.ok (ahr rs.length) (fun j hj=>(hk j oz oz).2.1);rw[ahw,ah1 oz]at this;rw[this]
theorem rQ{m:Nat}{a:List Rat}(h:Nl m a):iY m (a.map rt)=0:=by
 unfold iY;rw[ais,ait]
 ·rw[ahs];intro x hx;obtain⟨q,_,rfl⟩:=aft.1 hx;exact An q
 ·rintro⟨h0,h1⟩;rw[ahk]at h1;rcases h with rfl |⟨j,hj,h⟩
  ·exact h0 rfl
  ·rw[h,vM]at h1;omega
theorem Mv(a:List Rat):lq (a.map rt)=a:=by
 unfold lq;rw[map_map];refine(afg (fun q _=>bG q)).trans (List.map_id _)
theorem EX(ts:LL):llq (ts.map (List.map rt))=ts:=by
 unfold llq;rw[map_map];refine(afg (fun a _=>Mv a)).trans (List.map_id _)
theorem Tw.chk{ts:LL}{r:Nat}(h:Tw ts r):fg (ts.map (List.map rt))=0:=by
 unfold fg;rw[ahk,ais (by have:=h.five;omega)];refine IB (fun j _ hj=>?_)
 have e1:(ts.map (List.map rt)).getD j []=(ts.getD j []).map rt:=by
  simp only[ahh,aho];cases ts[j]? <;> rfl
 refine⟨?_,?_,?_⟩
 ·rw[e1,ahk];exact h.len j oz
 ·rw[e1];exact rQ (.inr ⟨j,ahr _,h.len j oz⟩)
 ·rw[EX];exact h.pos j oz
theorem RB.qs{r:Nat}{ts:LL}(h:RB r ts)(hr:r<=5000000000):∀d∈ts,∀q∈d,Qs q:=by
 obtain⟨D,N,h0,h1,h2,h3⟩:=h;intro d hd q hq;exact Cb.qs ⟨D,N,h1 d hd,h2,h3⟩ oz hq
theorem Tw.tr{ts:LL}{r:Nat}(h:Tw ts r):TR (ts.map (List.map rt)) r:=by
 refine⟨?_,?_,by rw[ahk];have:=h.five;omega,by rw[EX];exact h.rb,h.le,by rw[ahk];exact .inl h.three⟩
 ·intro d hd x hx;obtain⟨a,ha,rfl⟩:=aft.1 hd;obtain⟨q,hq,rfl⟩:=aft.1 hx;exact(h.rb.qs h.le a ha q hq).ok
 ·intro d hd;obtain⟨a,ha,rfl⟩:=aft.1 hd;obtain⟨j,hj,rfl⟩:=afa.1 ha;have:=h.len j hj;rw[ahh,ahm hj,ahe]at this;rw[ahk,this];have:=h.five;have:2^j<=2^5:=d7 oz;omega
theorem r8:∀{l:List Nat},ii l=0->∀e∈l,e=0
 |[],_,e,he=>by cases he
 |x::l,h,e,he=>by
  have h':(if x≠0 then x else ii l)=0:=h;split at h'
  ·rename_i hx;exact aiz h' hx
  ·rename_i hx;rcases ah3.1 he with rfl |he
   ·exact ahf.1 hx
   ·exact r8 h' e he
theorem yn:∀{l:List Nat},(∀e∈l,e=0)->ii l=0
 |[],_=>rfl
 |x::l,h=>by
  show(if x≠0 then x else ii l)=0;rw[ais (by rw[h x (by simp)];simp)];exact yn (fun e he=>h e (by simp[he]))
theorem HC:∀(l l':List Nat),ii l=0->ii (l++l')=ii l'
 |[],l',_=>rfl
 |x::l,l',h=>by
  have h0:=r8 h x (by simp);show(if x≠0 then x else ii (l++l'))=_;rw[ais (by rw[h0];simp)];exact HC l l' (yn (fun e he=>r8 h e (by simp[he])))
theorem QJ{rs xs:List (List Rt)}(h:oO rs xs=0):fg rs=0/\∀a∈xs,iY rs.length a=0:=by
 unfold oO at h;split at h
 ·rename_i h1;exact aiz h h1
 ·rename_i h1;exact⟨ahf.1 h1,fun a ha=>r8 h _ (aft.2 ⟨a,ha,rfl⟩)⟩
structure NR(a:List Rt)(e:Nat):Prop where
  ok:∀x∈a,x.ok
  len:a.length<=281474976710656
  cb:Cb e (lq a)
theorem NR.num{a:List Rt}{e m:Nat}(h:NR a e)(hn:iY m a=0):nR a=nA (lq a)/\Nl m (lq a):=by
 obtain⟨h1,h2⟩:=It hn h.ok;refine⟨?_,h2⟩;rw[<- GU,<- h1]
theorem Wn{r j n e:Nat}(hj:j<=n)(h3:n<=3)(hr:r<=5000000000)(he:e<=lm n):sB r j e<4398046511104:=by
 unfold lm at he;split at he
 ·have:=PT r e (j:=j) oz;omega
 ·have:=ZS r e (j:=j) oz;omega
theorem Ku{n:Nat}{a:List Rat}(h:Nl n a):Nl n (fj a):=by
 rcases h with rfl |⟨j,hj,h⟩
 ·exact .inl rfl
 ·exact .inr ⟨j,hj,by rw[lO,h]⟩
theorem Ij{n:Nat}{a b:List Rat}(h:Nl n a)(h':Nl n b):Nl n (dT a b):=by
 rcases h with rfl |⟨j,hj,h⟩ <;> rcases h' with rfl |⟨i,hi,h'⟩
 ·exact .inl (afn (by rw[gy];rfl))
 ·exact .inr ⟨i,hi,by rw[gy,h'];simp⟩
 ·exact .inr ⟨j,hj,by rw[gy,h];simp⟩
 ·refine .inr ⟨max j i, by omega, ?_⟩;rw [gy,h,h'];rcases Nat.le_total j i with g | g
  ·rw[adh g,adh (d7 g)]
  ·rw[ad1 g,ad1 (d7 g)]
theorem NX{x:Rt}:x.q+(rt 0).q=x.q:=by rw[bG,Rat.add_zero]
theorem wa{e:Nat}(h:aa .neq (e:Int) 0=true):e≠0:=by
 have:(e:Int)≠0:=by simpa[aa]using h
 omega
theorem wh{e:Nat}(h:aa .neq (e:Int) 0=false):e=0:=by
 have:(e:Int)=0:=by simpa[aa]using h
 omega
structure Tn where
  t:Rt
  half:Bool
namespace Tn
def av(x:Tn):AV:=.agg [bl x.t.neg,ws x.t.num,ws x.t.den,bl x.half]
def err(x:Tn):Nat:=if x.t.valid=true/\(x.half=true->x.t.q=0)then 0 else 2
end Tn
def Fh(half:Bool)(t:Rat):Rat:=if half then -1 else(1-t*t)/(1+t*t)
def ER(half:Bool)(t:Rat):Rat:=if half then 0 else(t+t)/(1+t*t)
structure Plc where
  x:Rt
  y:Rt
def Plc.av(p:Plc):AV:=.agg [bl p.x.neg,ws p.x.num,ws p.x.den,bl p.y.neg,ws p.y.num,ws p.y.den]
structure Pse where
  turn:Tn
  at_:Plc
def Pse.av(p:Pse):AV:=.agg [bl p.turn.t.neg,ws p.turn.t.num,ws p.turn.t.den,bl p.turn.half,bl p.at_.x.neg,ws p.at_.x.num,ws p.at_.x.den,bl p.at_.y.neg,ws p.at_.y.num,ws p.at_.y.den]
def Pse.ok(p:Pse):Bool:=decide (p.turn.err=0)&&p.at_.x.valid&&p.at_.y.valid
theorem me(a b:Bool):cond a b false=(a&&b):=by cases a <;> rfl
theorem Te{x:Blk}(hx:x.nm=[]){k:Nat}(h:x.Names k):False:=by
 have:=h.mem;rw[hx]at this;cases this
theorem MF{ext:Nat->Prop}{k d:Nat}{x:Blk}{m m2:Nat->Option Nat}{w:ai6}(hx:x.nm=[])(h:m2 d=m k)(hr:HeapRel ext [(k,some x)] m w):HeapRel ext [(d,some x)] m2 w:=by
 refine⟨?_,?_,?_⟩
 ·intro k' z hz;obtain⟨rfl,h9⟩:=gY hz;cases h9;have h1:=hr.blk k _ (by rw[aA,ait rfl]);rw[mg h (y:=x) (x:=x)];exact BlkRep.mono (w:=w) (fun _ _ h=>h) (fun _ _ h=>h) (fun _ _ hn=>(Te hx hn).elim) h (fun _ _=>rfl) h1
 ·intro k1 k2 z z' b h1 h2 _ _;rw[(gY h1).1,(gY h2).1]
 ·intro k' z b hz hb;obtain⟨rfl,h9⟩:=gY hz;cases h9;exact hr.sep k _ b (by rw[aA,ait rfl]) (h▸hb)
theorem Con.rekeyB{P:ai5}{f:FuncId}{k off:Nat}{x x':Blk}{xs:List AV}{r:AV}(d:Nat)(hx:x.nm=[])(hx':x'.nm=[])(jK:(xs.all fun x=>x.nm.isEmpty)=true)(hr:r.nm=[])
  (h:Con P f (.ptr k off::xs) [(k,some x)] r [(k,some x')]):Con P f (.ptr d off::xs) [(d,some x)] r [(d,some x')]:=by
 refine⟨h.ok,?_⟩;intro ext m w vs hext bW c9 dj
 have h1 := h.ret ext (fun _ => m d) w vs hext (MF (k := d) hx rfl bW) (by simpa using c9) (by
  intro j v y hv hy;rw[mg (d:=k) (k:=d) (y:=x) (x:=x) (m2:=fun _=>m d) (m:=m) rfl]
  match j,hy with
  |0,hy =>
   cases hy;have h2:=dj 0 v _ hv rfl;cases h2 with
   |ptr hm=>exact .ptr hm
  |j+1,hy =>
   have h2:=dj (j+1) v y hv hy;refine nO ?_ h2;have:=ahs.1 jK y (ahg hy);simpa using this)
 refine Calls.mono h1 ?_;rintro e w' ⟨v,m',rfl,hf,hh,hn,hk,aR⟩
 have ho:aO [(k,some x)] (fun _=>m d)=aO [(d,some x)] m:=by
  funext b;apply propext;rw[mO,mO]
 refine⟨v,fun _=>m' k,rfl,ho▸hf,MF (k:=k) hx' rfl hh,?_,?_,?_⟩
 ·intro k' x b hx hb;rw[<- ho];exact hn k _ b (by rw[aA,ait rfl]) hb
 ·intro k' x y hx hy;obtain⟨rfl,_⟩:=gY hx;exact hk k _ _ (by rw[aA,ait rfl]) (by rw[aA,ait rfl])
 ·rw[mg (d:=d) (k:=k) (y:=x') (x:=x') (m2:=fun _=>m' k) (m:=m') rfl];exact nO hr aR
structure Nm(n e:Nat)(l:List Rat):Prop where
  five:n<=5
  nl:Nl n l
  cb:Cb e l
theorem Nm.mono{n e f:Nat}{l:List Rat}(h:Nm n e l)(hf:e<=f):Nm n f l:=⟨h.five,h.nl,h.cb.mono hf⟩
theorem Nm.rt{n e:Nat}{l:List Rat}(h:Nm n e l)(he:e<=lm n):NR (l.map Go.Lw.rt) e:=by
 have hlm:=WI n;refine⟨?_,by have:=h.nl.len5 h.five;rw[ahk];omega,by rw[Mv];exact h.cb⟩;intro x hx;obtain⟨q,hq,rfl⟩:=aft.1 hx;exact(h.cb.qs oz hq).ok
theorem Nm.chk{n e:Nat}{l:List Rat}(h:Nm n e l):iY n (l.map Go.Lw.rt)=0:=rQ h.nl
theorem Nm.add{n e f:Nat}{a b:List Rat}(ha:Nm n e a)(hb:Nm n f b):Nm n (e+f+1) (sh n (T.add n (ao n a) (ao n b))):=by
 refine⟨ha.five,iH _ _,?_⟩;rw[<- qf];exact(ha.cb.plus hb.cb).sh (Ij ha.nl hb.nl)
theorem Nm.neg{n e:Nat}{a:List Rat}(ha:Nm n e a):Nm n e (sh n (T.neg n (ao n a))):=by
 refine⟨ha.five,iH _ _,?_⟩;rw[<- zP];exact ha.cb.minus.sh (Ku ha.nl)
theorem Nm.sub{n e f:Nat}{a b:List Rat}(ha:Nm n e a)(hb:Nm n f b):Nm n (e+f+1) (sh n (T.add n (ao n a) (T.neg n (ao n b)))):=by
 refine⟨ha.five,iH _ _,?_⟩;rw[<- zP,<- qf];exact(ha.cb.plus hb.cb.minus).sh (Ij ha.nl (Ku hb.nl))
abbrev kB(r n:Nat):Nat:=eB r n
theorem Nm.mul{ts:LL}{r n e f:Nat}(tw:Tw ts r)(hn:n=ts.length){a b:List Rat}(ha:Nm n e a)(hb:Nm n f b):Nm n (e+f+kB r n) (sh n (T.mul (aD ts) n (ao n a) (ao n b))):=by
 subst hn;refine⟨ha.five,iH _ _,?_⟩;have h1:=i6 ts ts.length tw.ok.1 ts.length ts.length a b (ahr _) (ahr _) ha.nl hb.nl;have h2:=Cb.mul tw.ok (k:=ts.length) (ahr ts.length) (ahr _) ha.nl hb.nl ha.cb hb.cb;rw[<- h1.2];exact h2.sh h1.1
theorem Nm.ofQ{n e:Nat}(hn:n<=5){q:Rat}(h:Cb e [q]):Nm n e (sh 0 (q:Rat)):=by
 refine⟨hn,(iH 0 q).mono (ahv _),?_⟩;have:=h.sh (k:=0) (.inr ⟨0,ahr _,rfl⟩);exact this
theorem Cb.one{e:Nat}{q:Rat}(h:Qb e q):Cb e [q]:=by
 refine⟨q.den,q.num.natAbs,⟨by have:=q.den_nz;omega,?_⟩,aea h.2,aea h.1⟩;intro x hx;rw[ae4.1 hx];refine⟨q.num,?_,ahr _⟩
 have hd:((q.den:Int):Rat)≠0:=by
  intro h0;have:(q.den:Int)=0:=agf.1 h0;have:=q.den_nz;omega
 have hq:q=(q.num:Rat)/((q.den:Int):Rat):=by
  rw[<- Rat.divInt_eq_div,agm]
 have h1:(q.num:Rat)/((q.den:Int):Rat)*((q.den:Int):Rat)=(q.num:Rat):=Rat.div_mul_cancel hd;rw[<- hq]at h1;exact h1
theorem tJ(n:Nat)(q:Rat):ao n (sh 0 (q:Rat))=T.ofQ n q:=by
 show ao n (if q=0 then[]else[q])=_;split
 ·rename_i h;subst h;rw[oB]
  induction n with
  |zero=>rfl
  |succ n ih=>simp only[T.zero,T.ofQ,ih]
 ·exact rc n q
def My(x y:List Rat):AV:=.agg [nA x,nA y]
theorem d6{s:AS}{k:Nat}{x:Blk}(h:lk s.hp k=some x):∀k' z,lk [(k,some x)] k'=some z->lk s.hp k'=some z:=by
 intro k' z hz;obtain⟨rfl,h9⟩:=gY hz;cases h9;exact h
def CW(ts:LL)(a b c d:T ts.length):T ts.length:=T.add ts.length (T.mul (aD ts) ts.length a c) (T.mul (aD ts) ts.length b d)
def Cc(ts:LL)(a b c d:T ts.length):T ts.length:=T.add ts.length (T.mul (aD ts) ts.length a d) (T.neg ts.length (T.mul (aD ts) ts.length b c))
theorem Vt{ts:LL}{a b c d:T ts.length}:T.add ts.length (ao ts.length (sh ts.length (T.mul (aD ts) ts.length a c))) (ao ts.length (sh ts.length (T.mul (aD ts) ts.length b d)))=CW ts a b c d:=by
 rw[dY,dY];rfl
theorem WU{ts:LL}{a b c d:T ts.length}:T.add ts.length (ao ts.length (sh ts.length (T.mul (aD ts) ts.length a d))) (T.neg ts.length (ao ts.length (sh ts.length (T.mul (aD ts) ts.length b c))))=Cc ts a b c d:=by
 rw[dY,dY];rfl
abbrev subT(ts:LL)(x y:T ts.length):T ts.length:=T.add ts.length x (T.neg ts.length y)
theorem YC{ts:LL}{r e f:Nat}(tw:Tw ts r){a b c d:List Rat}(ha:Nm ts.length e a)(hb:Nm ts.length e b)(hc:Nm ts.length f c)(hd:Nm ts.length f d) :
  Nm ts.length (2*(e+f+kB r ts.length)+1) (sh ts.length (CW ts (ao ts.length a) (ao ts.length b) (ao ts.length c) (ao ts.length d))):=by
 have h:=(ha.mul tw rfl hc).add (hb.mul tw rfl hd);rw[Vt]at h;exact h.mono oz
theorem UG{ts:LL}{r e f:Nat}(tw:Tw ts r){a b c d:List Rat}(ha:Nm ts.length e a)(hb:Nm ts.length e b)(hc:Nm ts.length f c)(hd:Nm ts.length f d) :
  Nm ts.length (2*(e+f+kB r ts.length)+1) (sh ts.length (Cc ts (ao ts.length a) (ao ts.length b) (ao ts.length c) (ao ts.length d))):=by
 have h:=(ha.mul tw rfl hd).sub (hb.mul tw rfl hc);rw[WU]at h;exact h.mono oz
def Bu(ts:LL)(cos sin x y:T ts.length):T ts.length:=Cc ts cos sin y x
def Ff(ts:LL)(cos sin x y:T ts.length):T ts.length:=CW ts sin cos x y
theorem WC{ts:LL}{r e f:Nat}(tw:Tw ts r){a b c d:List Rat}(ha:Nm ts.length e a)(hb:Nm ts.length e b)(hc:Nm ts.length f c)(hd:Nm ts.length f d) :
  Nm ts.length (2*(e+f+kB r ts.length)+1) (sh ts.length (Bu ts (ao ts.length a) (ao ts.length b) (ao ts.length c) (ao ts.length d))):=UG tw ha hb hd hc
theorem YK{ts:LL}{r e f:Nat}(tw:Tw ts r){a b c d:List Rat}(ha:Nm ts.length e a)(hb:Nm ts.length e b)(hc:Nm ts.length f c)(hd:Nm ts.length f d) :
  Nm ts.length (2*(e+f+kB r ts.length)+1) (sh ts.length (Ff ts (ao ts.length a) (ao ts.length b) (ao ts.length c) (ao ts.length d))):=YC tw hb ha hc hd
def GP(ts:LL)(cos sin X:T ts.length)(x y:Rat):T ts.length:=T.add ts.length (Bu ts cos sin (T.ofQ ts.length x) (T.ofQ ts.length y)) X
def JI(ts:LL)(cos sin Y:T ts.length)(x y:Rat):T ts.length:=T.add ts.length (Ff ts cos sin (T.ofQ ts.length x) (T.ofQ ts.length y)) Y
theorem UI{ts:LL}{cos sin X:T ts.length}{x y:Rat}:T.add ts.length (ao ts.length (sh ts.length (Bu ts cos sin (ao ts.length (sh 0 (x:Rat))) (ao ts.length (sh 0 (y:Rat)))))) X=GP ts cos sin X x y:=by
 rw[dY,tJ,tJ];rfl
theorem Zn{ts:LL}{cos sin Y:T ts.length}{x y:Rat}:T.add ts.length (ao ts.length (sh ts.length (Ff ts cos sin (ao ts.length (sh 0 (x:Rat))) (ao ts.length (sh 0 (y:Rat)))))) Y=JI ts cos sin Y x y:=by
 rw[dY,tJ,tJ];rfl
def AC(ts:LL)(x y:T ts.length):Bool:=decide (T.sgn (aD ts) ts.length (subT ts x y)=0)
theorem BB{n:Int}(h:-9223372036854775808<=n/\n<=9223372036854775807):Qs ((n:Rat)):=by
 refine⟨2,by unfold fy;omega,?_,?_⟩
 ·unfold Lz;simp only[Rat.num_intCast,Nat.reducePow];omega
 ·unfold Lz;simp only[Rat.den_intCast];decide
def dU(s:ByteArray)(i:Nat):Nat:=(s.data.getD i 0).toNat
def eV(c:Nat):Bool:=decide (97<=c/\c<=122)||decide (65<=c/\c<=90)
def tI(c:Nat):Bool:=decide (48<=c/\c<=57)
def lN(c:Nat):Bool:=eV c||tI c||decide (c=95)
def pF(s:ByteArray):Nat->Nat->Bool
  |_,0=>true
  |i,n+1=>lN (dU s i)&&pF s (i+1) n
def jc(s:ByteArray):Bool:=decide (0<s.size/\s.size<=24)&&eV (dU s 0)&&pF s 0 s.size
def fF(s:ByteArray):Nat->Nat->Nat
  |i,0=>i
  |i,n+1=>if lN (dU s i)then fF s (i+1) n else i
theorem MB(s:ByteArray):∀(n i:Nat),i<=fF s i n/\fF s i n<=i+n
 |0,i=>⟨ahr _,ahr _⟩
 |n+1,i=>by
  simp only[fF];split
  ·have:=MB s n (i+1);omega
  ·omega
theorem C8(s:ByteArray):∀(n i:Nat),fF s i n=i+n↔pF s i n=true
 |0,i=>by simp[fF,pF]
 |n+1,i=>by
  simp only[fF,pF,ahj];split
  ·rename_i h;rw[<- C8 s n (i+1),show i+(n+1)=i+1+n by omega];simp[h]
  ·rename_i h;constructor
   ·intro h';omega
   ·intro h';exact aiz h'.1 h
theorem ZR{c:Nat}(h:eV c=true):lN c=true:=by unfold lN;rw[h];rfl
def fx(s:ByteArray):Nat:=if 0<s.size/\eV (dU s 0)=true then fF s 1 (s.size-1)else 0
theorem VP(s:ByteArray):jc s=decide (0<fx s/\fx s=s.size/\fx s<=24):=by
 unfold jc fx;rw[ags];simp only[ahj,aiu]
 by_cases h:0<s.size/\eV (dU s 0)=true
 ·rw[ait h];obtain⟨h1,h2⟩:=h;have h3:=C8 s (s.size-1) 1
  have h4:pF s 0 s.size=pF s 1 (s.size-1):=by
   obtain⟨n,hn⟩:∃n,s.size=n+1:=⟨s.size-1,by omega⟩
   rw[hn];simp only[pF,ZR h2,agu,aeq]
  have h5:=MB s (s.size-1) 1;rw[h4,<- h3];constructor
  ·rintro⟨⟨h6,h7⟩,h8⟩;omega
  ·rintro⟨h6,h7,h8⟩;exact⟨⟨by omega,h2⟩,by omega⟩
 ·rw[ais h];constructor
  ·rintro⟨⟨h1,h2⟩,h3⟩;exact aiz ⟨h1.1,h2⟩ h
  ·rintro⟨h1,_⟩;omega
theorem QP(s:ByteArray)(h0:0<s.size)(h24:s.size<=24):jc s=decide ((if eV (dU s 0)then fF s 0 s.size else 0)=s.size):=by
 unfold jc;rw[ags];simp only[ahj,aiu];have h3:=C8 s s.size 0;rw[aeg]at h3
 by_cases h:eV (dU s 0)=true
 ·rw[ait h,h3];exact⟨fun h=>h.2,fun h'=>⟨⟨⟨h0,h24⟩,h⟩,h'⟩⟩
 ·rw[ais h];exact⟨fun h'=>aiz h'.1.2 h,fun h'=>by omega⟩
def dw(a b:ByteArray):Bool:=a.toList==b.toList
def ew(n:Nat)(err:Nat->Nat):Nat:=ii ((List.range n).map err)
theorem d5{n i:Nat}{err:Nat->Nat}(hi:i<n)(h:∀j,j<i->err j=0)(he:err i≠0):ew n err=err i:=by
 unfold ew
 have e:List.range n=List.range i++(i::(List.range' (i+1) (n-(i+1)))):=by
  obtain⟨d,rfl⟩:∃d,n=i+(d+1):=⟨n-i-1,by omega⟩
  rw[List.range_eq_range',List.range_eq_range',<- List.range'_append_1,aeg,List.range'_succ,show i+(d+1)-(i+1)=d by omega]
 rw[e,aih,HC _ _ (yn (fun x hx=>by
  obtain⟨j,hj,rfl⟩:=aft.1 hx;exact h j (afu.1 hj)))]
 show(if err i≠0 then err i else _)=_;rw[ait he]
theorem ph{n:Nat}{err:Nat->Nat}(h:∀j,j<n->err j=0):ew n err=0 :=
 yn (fun x hx=>by obtain⟨j,hj,rfl⟩:=aft.1 hx;exact h j (afu.1 hj))
theorem wi{n:Nat}{err:Nat->Nat}(h:ew n err=0):∀j,j<n->err j=0:=fun j hj =>
 r8 h _ (aft.2 ⟨j,afu.2 hj,rfl⟩)
structure Mk where
  name:ByteArray
  x:Rt
  y:Rt
instance:Inhabited Mk:=⟨⟨default,⟨false,[],[]⟩,⟨false,[],[]⟩⟩⟩
def Mk.av(m:Mk):AV:=.agg [.v (.string m.name),bl m.x.neg,ws m.x.num,ws m.x.den,bl m.y.neg,ws m.y.num,ws m.y.den]
structure Bd where
  name:ByteArray
  pts:List Mk
instance:Inhabited Bd:=⟨⟨default,[]⟩⟩
def Bd.av(b:Bd):AV:=.agg [.v (.string b.name),.lst 7 (b.pts.map Mk.av)]
structure Jt where
  name:ByteArray
  kind:Int
  a:Int
  point:Int
  b:Int
  on:Int
  to:Int
instance:Inhabited Jt:=⟨⟨default,0,0,0,0,0,0⟩⟩
def Jt.av(j:Jt):AV:=.agg [.v (.string j.name),i64 j.kind,i64 j.a,i64 j.point,i64 j.b,i64 j.on,i64 j.to]
structure Dr where
  name:ByteArray
  body:Int
instance:Inhabited Dr:=⟨⟨default,0⟩⟩
def Dr.av(d:Dr):AV:=.agg [.v (.string d.name),i64 d.body]
structure Li where
  name:ByteArray
  bo:List Bd
  jo:List Jt
  drivers:List Dr
def Li.av(l:Li):AV:=.agg [.v (.string l.name),.lst 2 (l.bo.map Bd.av),.lst 7 (l.jo.map Jt.av),.lst 2 (l.drivers.map Dr.av)]
structure Mk.ok(m:Mk):Prop where
  x:m.x.ok
  y:m.y.ok
  qx:Qb 1000 m.x.q
  qy:Qb 1000 m.y.q
structure Bd.ok(b:Bd):Prop where
  pts:∀m∈b.pts,m.ok
  names:∀m∈b.pts,m.name.size<=281474976710656
  ll:b.pts.length<=281474976710656
  name:b.name.size<=281474976710656
structure Li.ok(l:Li):Prop where
  name:l.name.size<=281474976710656
  bo:∀b∈l.bo,b.ok
  jnames:∀j∈l.jo,j.name.size<=281474976710656
  dnames:∀d∈l.drivers,d.name.size<=281474976710656
  lb:l.bo.length<=281474976710656
  lj:l.jo.length<=281474976710656
  ld:l.drivers.length<=281474976710656
def fQ(l:List ByteArray)(i:Nat):Bool:=(l.take i).any (fun n=>dw n (l.getD i default))
def dK(ps:List Mk)(i:Nat):Nat :=
  if jc (ps.getD i default).name=false then 5 else if fQ (ps.map Mk.name) i=true then 6
  else if(ps.getD i default).x.valid=true/\(ps.getD i default).y.valid=true then 0 else 3
def dZ(bs:List Bd)(i:Nat):Nat :=
  if jc (bs.getD i default).name=false then 5 else if fQ (bs.map Bd.name) i=true then 6
  else if 8<(bs.getD i default).pts.length then 4 else ew (bs.getD i default).pts.length (dK (bs.getD i default).pts)
def aV(i:Int)(n:Nat):Bool:=decide (0<=i/\i<n)
def bV(l:Li)(i:Int):List Mk:=(l.bo.getD i.toNat default).pts
def ek(l:Li)(j:Jt):Nat :=
  if j.kind≠0/\j.kind≠1 then 7
  else if aV j.a l.bo.length=false\/aV j.b l.bo.length=false then 9
  else if j.a=j.b then 13
  else if aV j.point (bV l j.a).length=false\/aV j.on (bV l j.b).length=false then 9
  else if j.kind=0 then(if j.to≠0 then 2 else 0)
  else if aV j.to (bV l j.b).length=false then 9
  else if((bV l j.b).getD j.on.toNat default).x.q=((bV l j.b).getD j.to.toNat default).x.q/\((bV l j.b).getD j.on.toNat default).y.q=((bV l j.b).getD j.to.toNat default).y.q then 8
  else 0
def f6(l:Li)(i:Nat):Nat :=
  if jc (l.jo.getD i default).name=false then 5 else if fQ (l.jo.map Jt.name) i=true then 6 else ek l (l.jo.getD i default)
def dq(l:Li)(i:Nat):Nat :=
  if jc (l.drivers.getD i default).name=false then 5 else if fQ (l.drivers.map Dr.name) i=true then 6
  else if aV (l.drivers.getD i default).body l.bo.length=false then 9
  else if(l.drivers.getD i default).body=0 then 7
  else if(l.drivers.take i).any (fun d=>decide (d.body=(l.drivers.getD i default).body))=true then 6 else 0
def hO(l:Li):Nat:=ew l.bo.length (dZ l.bo)
def et(l:Li):Nat:=if 16<l.jo.length then 4 else ew l.jo.length (f6 l)
def gG(l:Li):Nat:=if 2<l.drivers.length then 4 else ew l.drivers.length (dq l)
def ax(l:Li):Nat :=
  if jc l.name=false then 5 else if l.bo.length=0 then 10 else if 8<l.bo.length then 4
  else if hO l≠0 then hO l else if et l≠0 then et l else gG l
theorem aQ{α:Type}{l:List α}{i:Nat}{x d:α}(h:l[i]?=some x):l.getD i d=x:=by rw[ahh,h];rfl
theorem pa{α:Type}(f:α->ByteArray){l:List α}{i:Nat}{x:α}(h:l[i]?=some x):fQ (l.map f) i=(l.take i).any (fun y=>dw (f y) (f x)):=by
 unfold fQ;have h1:(l.map f).getD i default=f x:=aQ (by rw[aho,h];rfl);rw[h1,<- map_take,List.any_map];rfl
theorem lE{α:Type}{p:α->Bool}{l:List α}{k:Nat}{x:α}(h:l[k]?=some x)(hn:(l.take k).any p=false)(hp:p x=false):(l.take (k+1)).any p=false:=by
 rw[gB h,List.any_append,hn];simp[hp]
theorem mM{α:Type}{p:α->Bool}{l:List α}{k i:Nat}{x:α}(h:l[k]?=some x)(hk:k<i)(hp:p x=true):(l.take i).any p=true:=by
 rw[List.any_eq_true];exact⟨x,ahg (by rw[aie,ait hk];exact h),hp⟩
theorem IM(s:ByteArray):(s.toList==ByteArray.toList ⟨#[]⟩)=decide (s.size=0):=by
 have e:ByteArray.toList ⟨#[]⟩=[]:=Go.ByteArray.toList_eq _;have h:s.toList.length=s.size:=by rw[Go.ByteArray.toList_eq];cases s;rfl
 rw[e,ags,beq_iff_eq,aiu];constructor
 ·intro h';rw[h']at h;simpa using h.symm
 ·intro h';exact afn oz
theorem Kd{s:ByteArray}(h:(s.toList==ByteArray.toList ⟨#[]⟩)=false):0<s.size:=by
 rw[IM,decide_eq_false_iff_not]at h;omega
theorem aK{a b:Nat}(h:aa .lss (a:Int) (b:Int)=true):a<b:=by
 have:(a:Int)<b:=aiv h;omega
theorem uZ{a b:Nat}(h:aa .lss (a:Int) (b:Int)=false):b<=a:=by
 have:¬(a:Int)<b:=aiw h;omega
theorem aa7{a b:Nat}{p:Bool}(h:cond (aa .lss (a:Int) (b:Int)) p false=true):a<b/\p=true:=by
 cases h1:aa .lss (a:Int) (b:Int)
 ·rw[h1]at h;cases h
 ·rw[h1]at h;exact⟨aK h1,h⟩
theorem Va{a b:Nat}{p:Bool}(h:cond (aa .lss (a:Int) (b:Int)) p false=false):a<b->p=false:=by
 intro h0;have h1:aa .lss (a:Int) (b:Int)=true:=aix (by omega:(a:Int)<b);rw[h1]at h;exact h
theorem SX{s:ByteArray}(h:cond (s.toList==ByteArray.toList ⟨#[]⟩) true (!eV (dU s 0))=true):fx s=0:=by
 unfold fx;rw[ais];rintro⟨h1,h2⟩;rw[IM,aiy oz,h2]at h;cases h
theorem P8{s:ByteArray}(h:cond (s.toList==ByteArray.toList ⟨#[]⟩) true (!eV (dU s 0))=false):0<s.size/\eV (dU s 0)=true:=by
 cases h1:(s.toList==ByteArray.toList ⟨#[]⟩)
 ·rw[h1]at h;exact⟨Kd h1,by simpa using h⟩
 ·rw[h1]at h;cases h
theorem HW{s:ByteArray}{i:Nat}(h:s.size<=i):dU s i=0:=by
 unfold dU;have:s.data.size<=i:=h;simp[ahp,agw this]
theorem abu(s:ByteArray):cond (cond (aa .gtr (fx s:Int) 0) (aa .eql (fx s:Int) (s.size:Int)) false) (aa .leq (fx s:Int) 24) false=jc s:=by
 rw[VP,ags,aiu];cases h1:aa .gtr (fx s:Int) 0
 ·have:¬(fx s:Int)>0:=aiw h1;simp;omega
 ·have h1:(fx s:Int)>0:=aiv h1;cases h2:aa .eql (fx s:Int) (s.size:Int)
  ·have : (fx s : Int) ≠ s.size := by simpa [aa] using h2
   simp;omega
  ·have h2:(fx s:Int)=s.size:=eq_of_beq h2
   have h3:aa .leq (fx s:Int) 24=true↔fx s<=24:=by
    show decide ((fx s:Int)<=24)=true↔_;rw[aiu];omega
   simp only[cond_true,h3];omega
theorem Xn(s:ByteArray):cond (cond (aa .gtr (s.size:Int) 0) (aa .leq (s.size:Int) 24) false) (aa .eql (((if eV (dU s 0)then fF s 0 s.size else 0:Nat)):Int) (s.size:Int)) false=jc s:=by
 cases h1:aa .gtr (s.size:Int) 0
 ·have h1:¬(s.size:Int)>0:=aiw h1;unfold jc;rw[aiy (show ¬(0<s.size/\s.size<=24) by omega)];rfl
 ·have h1:(s.size:Int)>0:=aiv h1;cases h2:aa .leq (s.size:Int) 24
  ·have h2:¬(s.size:Int)<=24:=aiw h2;unfold jc;rw[aiy (show ¬(0<s.size/\s.size<=24) by omega)];rfl
  ·have h2:(s.size:Int)<=24:=aiv h2;rw[QP s oz oz];simp only[cond_true];rw[ags,aiu];generalize(if eV (dU s 0)=true then fF s 0 s.size else 0)=m;show(((m:Int)==(s.size:Int))=true)↔_;rw[beq_iff_eq];omega
theorem wO{α:Type}(sz:Nat)(f:α->AV)(l:List α)(n:Nat):AV.lst sz (((l.map f).drop 0).take (n-0))=.lst sz ((l.take n).map f):=by
 rw[Nat.sub_zero,aim,map_take]
theorem wK{α:Type}{l:List α}{i k:Nat}{x:α}(h:(l.take i)[k]?=some x):l[k]?=some x/\k<i:=by
 rw[aie]at h;split at h
 ·rename_i hk;exact⟨h,hk⟩
 ·cases h
theorem H2(i:Int)(n:Nat):cond (aa .geq i 0) (aa .lss i (n:Int)) false=aV i n:=by
 unfold aV;rw[ags,aiu];cases h:aa .geq i 0
 ·have:¬i>=0:=aiw h;simp;omega
 ·have h:i>=0:=aiv h;show decide (i<(n:Int))=true↔_;rw[aiu];omega
theorem dJ{i:Int}{n:Nat}(h:aV i n=true):0<=i/\i<n:=aiv h
theorem qw{p q:Bool}(h:cond (!p) true (!q)=true):p=false\/q=false:=by cases p <;> cases q <;> simp_all
theorem p8{p q:Bool}(h:cond (!p) true (!q)=false):p=true/\q=true:=by cases p <;> cases q <;> simp_all
theorem dS{p:Bool}(h:(!p)=true):p=false:=by cases p <;> simp_all
theorem eJ{p:Bool}(h:(!p)=false):p=true:=by cases p <;> simp_all
theorem dN{a b:Nat}(h:aa .gtr (a:Int) (b:Int)=true):b<a:=by
 have:(a:Int)>b:=aiv h;omega
theorem jU{a b:Nat}(h:aa .gtr (a:Int) (b:Int)=false):a<=b:=by
 have:¬(a:Int)>b:=aiw h;omega
theorem aW{a b:Nat}(bA:a<=b)(h:aa .lss (a:Int) (b:Int)=false):a=b:=by have:=uZ h;omega
theorem dV{x y:Int}(h:aa .eql x y=true):x=y:=by simpa[aa]using h
theorem dC{x y:Int}(h:aa .eql x y=false):x≠y:=by simpa[aa]using h
theorem yM{x y:Int}(h:aa .neq x y=true):x≠y:=by simpa[aa]using h
theorem On{x y:Int}(h:aa .neq x y=false):x=y:=by simpa[aa]using h
theorem Gu{k:Int}(h:cond (aa .neq k 0) (aa .neq k 1) false=true):k≠0/\k≠1:=by
 cases h1:aa .neq k 0
 ·rw[h1]at h;cases h
 ·rw[h1]at h;exact⟨yM h1,yM h⟩
theorem GX{k:Int}(h:cond (aa .neq k 0) (aa .neq k 1) false=false):¬(k≠0/\k≠1):=by
 rintro⟨h1,h2⟩;have e1:aa .neq k 0=true:=by simpa[aa]using h1
 have e2:aa .neq k 1=true:=by simpa[aa]using h2
 rw[e1,e2]at h;cases h
theorem NH{p q r s:Rat}(h:cond (aa .eql (a7 (p-q)) 0) (aa .eql (a7 (r-s)) 0) false=true):p=q/\r=s:=by
 cases h1:aa .eql (a7 (p-q)) 0
 ·rw[h1]at h;cases h
 ·rw[h1]at h;have e1:=Fb (dV h1);have e2:=Fb (dV h);exact⟨by grind,by grind⟩
theorem HT{p q r s:Rat}(h:cond (aa .eql (a7 (p-q)) 0) (aa .eql (a7 (r-s)) 0) false=false):¬(p=q/\r=s):=by
 rintro⟨rfl,rfl⟩;rw[Rat.sub_self,Rat.sub_self]at h;cases h
theorem sH{l:Li}{i:Int}(h:aV i l.bo.length=true):∃b,l.bo[i.toNat]?=some b/\bV l i=b.pts/\b∈l.bo/\0<=i:=by
 have h1:=dJ h;obtain⟨b,hb⟩:=aB (l:=l.bo) (i:=i.toNat) oz;exact⟨b,hb,by unfold bV;rw[aQ hb],ahg hb,h1.1⟩
theorem wA{ps:List Mk}{i:Int}(h:aV i ps.length=true):∃m,ps[i.toNat]?=some m/\ps.getD i.toNat default=m/\m∈ps/\0<=i:=by
 have h1:=dJ h;obtain⟨m,hm⟩:=aB (l:=ps) (i:=i.toNat) oz;exact⟨m,hm,aQ hm,ahg hm,h1.1⟩
theorem s9{x y:Int}:aa .eql x y=decide (x=y):=by
 show(x==y)=decide (x=y);rw[ags,beq_iff_eq,aiu]
theorem LT{n:Nat}(h:aa .eql (n:Int) 0=true):n=0:=by have:=dV h;omega
theorem Jr{n:Nat}(h:aa .eql (n:Int) 0=false):n≠0:=by have:=dC h;omega
theorem Sn{p q r s:Rat}:cond (aa .eql (a7 (p-q)) 0) (aa .eql (a7 (r-s)) 0) false=decide (p=q/\r=s):=by
 cases h:cond (aa .eql (a7 (p-q)) 0) (aa .eql (a7 (r-s)) 0) false
 ·exact(aiy (HT h)).symm
 ·exact(aix (NH h)).symm
def Rt.wok(r:Rt):Prop:=Ws r.num/\Ws r.den
theorem Rt.wok.ok{r:Rt}{k:Nat}(h:r.wok)(hn:r.num.length<=k)(hd:r.den.length<=k)(hk:k<=100):r.ok:=⟨h.1,h.2,by unfold fy;omega,by unfold fy;omega⟩
theorem Rt.ok.wok{r:Rt}(h:r.ok):r.wok:=⟨h.1,h.2.1⟩
def qC(l:List (List Rt)):Prop:=∀x∈l,(∀r∈x,r.wok)/\x.length<=281474976710656
theorem qC.app{a b:List (List Rt)}(ha:qC a)(hb:qC b):qC (a++b):=fun x hx=>by
 rcases ahn.1 hx with h |h
 ·exact ha x h
 ·exact hb x h
structure Pl where
  c:List Rt
  s:List Rt
  x:List Rt
  y:List Rt
instance:Inhabited Pl:=⟨⟨[],[],[],[]⟩⟩
def Pl.av(p:Pl):AV:=.agg [nR p.c,nR p.s,nR p.x,nR p.y]
def Pl.l(p:Pl):List (List Rt):=[p.c,p.s,p.x,p.y]
structure As where
  rs:List (List Rt)
  bs:List Pl
  ms:List Int
def As.av(a:As):AV:=.agg [.lst 1 (a.rs.map nR),.lst 4 (a.bs.map Pl.av),.lst 1 (a.ms.map i64)]
structure As.ok(a:As):Prop where
  rs:qC a.rs
  rl:a.rs.length<=281474976710656
  bs:∀b∈a.bs,qC b.l
  bl:a.bs.length<=281474976710656
structure AB(a:As):Prop where
  tr:TR a.rs 400000000
  nr:∀b∈a.bs,∀x∈b.l,NR x 50000000000
  ll:a.rs.length<=8
  bl:a.bs.length<=30
theorem RB.mono{r r':Nat}{ts:LL}(h:RB r ts)(hr:r<=r'):RB r' ts:=by
 obtain⟨D,N,h0,h1,h2,h3⟩:=h;exact⟨D,N,h0,h1,ah8 h2 (d7 hr),ah8 h3 (d7 hr)⟩
theorem TR.mono{rs:List (List Rt)}{r r':Nat}(h:TR rs r)(hr:r<=r')(hl:r'<=5000000000):TR rs r':=⟨h.ok,h.len,h.ll,h.rb.mono hr,hl,h.three⟩
theorem NR.mono{x:List Rt}{e f:Nat}(h:NR x e)(hf:e<=f):NR x f:=⟨h.ok,h.len,h.cb.mono hf⟩
theorem tp{α:Type}{l:List α}{p:α->Bool}{i:Nat}{x:α}(h:(l.take i).all p=true)(hx:l[i]?=some x)(hp:p x=true):(l.take (i+1)).all p=true:=by
 rw[gB hx,all_append,h];simp[hp]
theorem wz{α:Type}{l:List α}{p:α->Bool}{i:Nat}{x:α}(hx:l[i]?=some x)(hp:p x=false):l.all p=false:=by
 refine agn.2 (fun h=>?_);rw[ahs]at h;rw[h x (ahg hx)]at hp;cases hp
theorem ss{α:Type}{l:List α}{p:α->Bool}{i:Nat}(hi:i=l.length)(h:(l.take i).all p=true):l.all p=true:=by
 rw[hi,ahw]at h;exact h
structure Li.okw(l:Li):Prop where
  name:l.name.size<=281474976710656
  pts:∀b∈l.bo,b.name.size<=281474976710656/\b.pts.length<=281474976710656/\∀m∈b.pts,m.name.size<=281474976710656/\m.x.wok/\m.y.wok
  jnames:∀j∈l.jo,j.name.size<=281474976710656
  dnames:∀d∈l.drivers,d.name.size<=281474976710656
  lb:l.bo.length<=281474976710656
  lj:l.jo.length<=281474976710656
  ld:l.drivers.length<=281474976710656
def z3(m:Mk):Bool:=decide (m.x.num.length<=4/\m.x.den.length<=4/\m.y.num.length<=4/\m.y.den.length<=4)
def Ay(b:Bd):Bool:=decide (b.pts.length<=30)&&b.pts.all z3
def Ea(l:Li):Bool:=l.bo.all Ay&&decide (l.bo.length<=30/\l.jo.length<=60/\l.drivers.length<=30)
theorem Qd{m:Mk}(h:z3 m=true)(hx':m.x.wok)(hy':m.y.wok):m.ok:=by
 unfold z3 at h;rw[aiu]at h;have hx:=hx'.ok h.1 h.2.1 oz;have hy:=hy'.ok h.2.2.1 h.2.2.2 oz;exact⟨hx,hy,(Rt.qb hx (k:=4) oz h.1 h.2.1).mono oz,(Rt.qb hy (k:=4) oz h.2.2.1 h.2.2.2).mono oz⟩
theorem C2{l:Li}(h:Ea l=true)(ho:l.okw):l.ok:=by
 unfold Ea at h;rw[ahj,ahs]at h;refine⟨ho.name,fun b hb=>?_,ho.jnames,ho.dnames,ho.lb,ho.lj,ho.ld⟩;have h1:=h.1 b hb;unfold Ay at h1;rw[ahj,ahs]at h1;obtain⟨o1,o2,o3⟩:=ho.pts b hb;exact⟨fun m hm=>Qd (h1.2 m hm) (o3 m hm).2.1 (o3 m hm).2.2,fun m hm=>(o3 m hm).1,o2,o1⟩
structure Pse.wok(p:Pse):Prop where
  t:p.turn.t.wok
  x:p.at_.x.wok
  y:p.at_.y.wok
theorem Pse.wok.rs{p:Pse}(h:p.wok):qC [[p.turn.t,p.at_.x],[p.at_.y]]:=by
 intro x hx;simp only[ah3,ahy,or_false]at hx;rcases hx with rfl |rfl
 ·refine ⟨fun r hr => ?_, by show 2 <= _; omega⟩;simp only [ah3,ahy,or_false] at hr;rcases hr with rfl | rfl
  ·exact h.t
  ·exact h.x
 ·refine⟨fun r hr => ?_,by show 1<=_;omega⟩;simp only[ah3,ahy,or_false]at hr;subst hr;exact h.y
theorem DW(a b:Bool):cond a true b=(a||b):=by cases a <;> rfl
open Go.Proofs
theorem UQ{m:List Nat}{n:Nat}(hm:Ws m)(hn:n<=m.length)(hv:val (m.take n)=val m)(h0:n≠0)(hw:aj m (n-1)≠0) :
  AV.fz 24 1 ([]++((m.map u32).drop 0).take (n-0)) (.ms 24 1 0 (0+(((m.map u32).drop 0).take (n-0)).length))=ws (ofNat (val m)):=by
 have h1:m.take n=ofNat (val m):=by
  refine GZ (fun x hx=>hm x (aes hx)) ?_ hv;intro x hx;rw[ae6,ah5,adi hn,aie,ait oz,jQ oz]at hx;cases hx;exact hw
 rw[qD (by simp),<- h1,ws];simp[map_take,adi hn,afr]
theorem Yn(b:Bool)(n:Nat):AV.agg [bl (bif b then aa BinOp.gtr (↑(ofNat n).length) 0 else false),ws (ofNat n)]=zA (sgn b n):=by
 have h1:(sgn b n).natAbs=n:=by unfold sgn;split <;> omega
 unfold zA ofInt Wh.av;dsimp only;rw[h1];congr 3
 have h2:(ofNat n).length=0↔n=0:=by
  rw[afp];constructor
  ·intro h;have:=bI n;rw[h]at this;exact this.symm
  ·intro h;rw[h];rfl
 cases b with
 |false=>simp[sgn]
 |true=>simp[sgn,aa];omega
theorem rU(m:List Nat)(i:Nat)(hm:Ws m):FP 314 [ws m,i64 i] (u64 (aj m i)):=by
 refine ak func314 ?_;refine gl ?_;refine gC (fun z=>?_) (fun z=>?_)
 ·simp[aa]at z;have:=bu hm i;refine gi (bP (i:=i) z) ?_;refine gv (u64_in oz) ?_;refine ah ?_;rfl
 simp[aa]at z;refine ah ?_;simp[u64,tt z]
theorem nJ(m:List Nat)(hm:Ws m)(hb:m.length<=aw):FP 222 [ws m] (ws (ofNat (val m))):=by
 refine ak func222 ?_ (0,0);refine uK (t:=0) rfl (fun hl=>?_);refine go ?_;refine gl ?_;refine aL [0] [] (fun(n:Nat)=>[pP 3 (i64 n)]) (fun _=>[]) (fun n=>n<=m.length/\val (m.take n)=val m) (fun n=>n) m.length ⟨ahr _,by rw[ahw]⟩ ?_;rintro n ⟨hn,hv⟩ K1 J1;refine kD (fun h=>(gM (by simp[aa]at h;omega) oz)) ?_;refine mh (fun h=>(bP (i:=n-1) (by simp[aa]at h;omega))) ?_;refine gC (fun t15=>?_) (fun t15=>?_)
 ·have t15 : 0 < n /\ aj m (n - 1) = 0 := by simpa [aa] using t15
  refine ga (gM oz oz) ?_;exact aE J1 (n-1) ⟨by omega,by have h:=@cU m (n-1);rw[show n-1+1=n by omega,t15.2]at h;simp at h;omega⟩
 have t15:0<n->aj m (n-1)≠0:=by simpa[aa]using t15
 refine gC (fun z=>?_) (fun z=>?_)
 ·have h0 : n = 0 := by simpa [aa] using z
  subst h0;refine gR ?_;exact mb (by rw[show val m=0 from hv.symm.trans rfl];exact Sub.nil _ _ _)
 have h0:n≠0:=by simpa[aa]using z
 refine gs (qS T42 rfl T87 rfl rfl rfl) ?_;refine gs (eF (.tmp rfl) (.none _) (.some _ (.tmp rfl) oz) T42 rfl T87 rfl oz (by simp;omega) rfl) ?_;refine gs (eD (.tmp rfl) rfl rfl (.tmp rfl) T42 rfl T87 rfl rfl (by unfold aw at hb;simp only[ah5,afi,ahk];omega) rfl rfl) ?_ (77777,0);refine gW (Wk.freeze (k:=24) rfl) ?_;refine go ?_;refine gR ?_;exact GQ (UQ hm hn hv h0 (t15 oz))
theorem zo(w:Wh)(h:w.ok):FP 203 [w.av] (bl w.valid):=by
 have hl:w.mag.length<=az:=h.2;refine ak func203 ?_;refine gl ?_;refine gC (fun z=>?_) (fun z=>?_)
 ·have h0 : w.mag = [] := by simpa [aa] using z
  refine ah ?_;simp[bl,Wh.valid,h0]
 have h0:w.mag.length≠0:=by simpa[aa]using z
 refine gl ?_;refine ga (gM oz oz) ?_;refine gi (bP (i:=w.mag.length-1) oz) ?_;refine ah ?_;have h1:w.mag≠[]:=fun h=>h0 (by rw[h];rfl)
 simp only[bl,Wh.valid,ais h1,ae6,jQ (show w.mag.length-1<w.mag.length by omega),aa];congr 2;generalize aj w.mag _=x;rw[ags];simp
theorem kr(w:Wh)(h:w.ok):FP 160 [w.av] (ws w.m):=by
 refine ak func160 ?_;refine gc (zo w h) ?_;refine gC (fun z=>?_) (fun z=>?_)
 ·have h0 : w.valid = false := by simpa [aa] using z
  refine gR ?_;exact mb (by rw[show w.m=[] by simp[Wh.m,h0]];exact Sub.nil _ _ _)
 have h0:w.valid=true:=by simpa[aa]using z
 refine ah ?_;simp only[Wh.m,h0];rfl
theorem jB(w:Wh)(h:w.ok):FP 216 [w.av] (bl w.n):=by
 refine ak func216 ?_;refine gc (zo w h) ?_;refine ah ?_;simp only[Wh.n,bl];cases w.valid <;> rfl
theorem kt(b:Bool)(m:List Nat)(hm:Ws m)(hb:m.length<=aw):FP 121 [bl b,ws m] (zA (sgn b (val m))):=by
 refine ak func121 ?_;refine gc (nJ m hm hb) ?_;refine cm ?_;refine ah ?_;exact Yn b (val m)
theorem Em(a b:List Nat)(ha:Ws a)(hb:Ws b)(na:Nz a)(nb:Nz b):FP 218 [ws a,ws b] (i64 (if val a<val b then -1 else if val b<val a then 1 else 0)):=by
 refine ak func218 ?_ (0,0);refine uK (t:=0) rfl (fun pU=>?_);refine uK (t:=1) rfl (fun fK=>?_);unfold az at pU fK;refine go ?_;refine gl ?_;refine gl ?_;refine gC (fun z=>?_) (fun z=>?_)
 ·have h0 : a.length ≠ b.length := by simpa [aa, af3] using z
  refine gl ?_;refine gl ?_;refine gC (fun z=>?_) (fun z=>?_)
  ·have h1 : a.length < b.length := by simpa [aa] using z
   have h2:=wg ha nb h1;refine ah ?_;simp[i64,h2]
  have h1:b.length<=a.length:=by simpa[aa]using z
  have h2:=wg hb na (show b.length<a.length by omega);refine ah ?_;simp[i64,h2,Nat.lt_asymm h2]
 have h0:a.length=b.length:=by simpa[aa,af3]using z
 refine gl ?_;refine ga (el oz) ?_;refine aL [0,1] [] (fun(n:Nat)=>[pP 5 (i64 ((n:Int)-1))]) (fun _=>[]) (fun n=>n<=a.length/\a.drop n=b.drop n) (fun n=>n) a.length ⟨ahr _,by rw[afb,h0,afb]⟩ ?_ (h1:=(.cons rfl (Sub.int rfl) .nil));rintro n ⟨hn,hd⟩ K1 J1;refine gC (fun z=>?_) (fun z=>?_)
 ·have k9 : 1 <= n := by have := z; simp [aa] at this; omega
  refine gi (ic (n:=n-1) oz (by first |omega |(simp;omega))) ?_;refine gi (ic (n:=n-1) oz (by first |omega |(simp;omega))) ?_;refine gD ?_;refine gC (fun z=>?_) (fun z=>?_)
  ·have h3 : aj a (n - 1) ≠ aj b (n - 1) := by simpa [aa, af3] using z
   refine gi (ic (n:=n-1) oz (by first |omega |(simp;omega))) ?_;refine gi (ic (n:=n-1) oz (by first |omega |(simp;omega))) ?_;refine gD ?_;refine gC (fun z=>?_) (fun z=>?_)
   ·have h4 : aj a (n - 1) < aj b (n - 1) := by simpa [aa] using z
    have h5:=Mh ha h0 oz (by rw[aeo k9];exact hd) h4;refine ah ?_;simp[i64,h5]
   have h4:aj b (n-1)<aj a (n-1):=by have:aj b (n-1)<=aj a (n-1):=(by simpa[aa]using z);omega
   have h5:=Mh hb h0.symm oz (by rw[aeo k9];exact hd.symm) h4;refine ah ?_;simp[i64,h5,Nat.lt_asymm h5]
  have h3:aj a (n-1)=aj b (n-1):=by simpa[aa,af3]using z
  refine ga (el oz) ?_;exact aE J1 (n-1) ⟨by omega,by rw[ae7 (show n-1<a.length by omega),ae7 (show n-1<b.length by omega),aeo k9,hd];congr 1;exact RV oz oz h3⟩
 have k9:n=0:=by have:=z;simp[aa]at this;omega
 subst k9;refine ah ?_;simp at hd;simp[i64,hd]
theorem H5(a b:List Nat)(ha:Ws a)(hb:Ws b)(la:a.length<aw)(lb:b.length<aw):FP 217 [ws a,ws b] (ws (ofNat (val a+val b))):=by
 unfold aw at la lb;obtain⟨n,hn⟩:∃n,n=max a.length b.length+1:=⟨_,rfl⟩
 refine ak func217 ?_;refine gl ?_;refine gl ?_;refine gs (ri (.tmp rfl) (.tmp rfl) rfl) ?_;refine ga (show _=(n:Int) by rw[cO oz];omega) ?_;refine gs (gh (.tmp rfl) T42 rfl T87 rfl rfl oz (by dsimp only;omega) rfl) ?_;refine iW [0,1,16] [] (fun(out:List Nat)(c i:Nat)=>[pP 5 (.ms 14 1 0 n),pP 6 (u64 c),pP 17 (i64 i)]) (fun out _ _=>[pP 14 (.row 1 (out.map u32))]) (fun out c i=>out.length=n/\i<=n/\Ws out/\c<=1/\val (out.take i)+c*4294967296^i=val (a.take i)+val (b.take i)) (fun _ _ i=>n-i) (afq n 0) 0 0 ⟨by simp,by omega,mL n,by omega,by simp[val]⟩ ?_ (h2:=(.cons rfl (.of (by rw[aik];rfl)) .nil))
 rintro out c i ⟨ho,hi,hw,hc,hv⟩ K1 J1;refine gC (fun z=>?_) (fun z=>?_) (st2:=(10,0))
 ·have af : i < n := by simpa [aa] using z
  have h1:=bu ha i;have h2:=bu hb i;refine gc (by apply rU <;> assumption) ?_;refine gc (by apply rU <;> assumption) ?_;refine ga (jD oz) ?_;refine ga (jD oz) ?_;refine gv (dg _) ?_;refine gs (br (n:=i) (.tmp rfl) (.tmp rfl) T42 rfl T87 rfl oz (by first |omega |(simp;omega)) rfl) ?_;refine gs (dc (.tmp rfl) rfl (bP (i:=i) oz) rfl (.tmp rfl) rfl rfl T87 rfl rfl) ?_;refine gs (eW (.tmp rfl) (.const _) oz (io _ 32 oz) rfl) ?_;refine ga (cO oz) ?_;exact ia J1 (out.set i ((c+(aj a i+aj b i))%4294967296)) ((c+(aj a i+aj b i))/4294967296) (i+1) ⟨by simp[ho],by omega,gK hw oz,by omega,by rw[mf oz,cU,cU,ado];exact DS hv⟩ (hw:=Wk.of aY (.cons rfl (.of (by rw[ain];rfl)) .nil))
 have af:i=n:=by have:n<=i:=(by simpa[aa]using z);omega
 refine gW ((Wk.freeze (k:=14) rfl).trans<|Wk.of (sl:=[pP 5 (ws out)]) (hp:=[]) (.cons rfl (.of (cf (by simp[ho]))) .nil) .nil) ?_;refine gc (nJ out hw (by unfold aw;omega)) ?_;refine ah ?_;rw[KD ha hb hn ho (af▸hv)]
theorem D4(a b:List Nat)(ha:Ws a)(hb:Ws b)(la:a.length<=aw)(lb:b.length<=a.length)(bA:val b<=val a):FP 219 [ws a,ws b] (ws (ofNat (val a-val b))):=by
 have la':=la;unfold aw at la;obtain⟨n,hn⟩:∃n,n=a.length:=⟨_,rfl⟩
 refine ak func219 ?_;refine gl ?_;refine gs (gh (.tmp rfl) T42 rfl T87 rfl rfl oz (by dsimp only;omega) rfl) ?_;refine iW [0,1,13] [] (fun(out:List Nat)(c i:Nat)=>[pP 5 (.ms 11 1 0 a.length),pP 6 (u64 c),pP 14 (i64 i)]) (fun out _ _=>[pP 11 (.row 1 (out.map u32))]) (fun out c i=>out.length=a.length/\i<=a.length/\Ws out/\c<=1/\val (out.take i)+val (b.take i)=val (a.take i)+c*4294967296^i) (fun _ _ i=>a.length-i) (afq a.length 0) 0 0 ⟨by simp,by omega,mL _,by omega,by simp[val]⟩ ?_ (h2:=(.cons rfl (.of (by rw[aik];rfl)) .nil))
 rintro out c i ⟨ho,hi,hw,hc,hv⟩ K1 J1;refine gC (fun z=>?_) (fun z=>?_) (st2:=(10,0))
 ·have af : i < a.length := by simpa [aa] using z
  have h1:=bu ha i;have h2:=bu hb i;have h3:=Hx h1 h2 hc hv;obtain⟨d,hd⟩:∃d,d=if aj b i+c<=aj a i then aj a i-aj b i-c else aj a i+18446744073709551616-aj b i-c:=⟨_,rfl⟩
  rw[<- hd]at h3;have fL:d<18446744073709551616:=by rw[hd];split <;> omega
  refine gi (ic (n:=i) oz (by first |omega |(simp;omega))) ?_;refine gv (u64_in oz) ?_;refine gc (by apply rU <;> assumption) ?_;refine ga (lD oz oz) ?_;refine ga (show _=(d:Int) by rw[lD (by split <;> omega) oz,hd];congr 1;(repeat' split) <;> omega) ?_;refine gD ?_;refine gv (dg _) ?_;refine gs (br (n:=i) (.tmp rfl) (.tmp rfl) T42 rfl T87 rfl oz (by first |omega |(simp;omega)) rfl) ?_;refine gs (dc (.tmp rfl) rfl (bP (i:=i) oz) rfl (.tmp rfl) rfl rfl T87 rfl rfl) ?_;refine gs (eW (.tmp rfl) (.const _) oz (io _ 63 oz) rfl) ?_;refine ga (cO oz) ?_;exact ia J1 (out.set i (d%4294967296)) (d/2^63) (i+1) ⟨by simp[ho],by omega,gK hw oz,by omega,by rw[mf oz,cU,cU,ado];exact h3⟩ (hw:=Wk.of aY (.cons rfl (.of (by rw[ain];rfl)) .nil))
 have af:i=a.length:=by have:a.length<=i:=(by simpa[aa]using z);omega
 refine gW ((Wk.freeze (k:=11) rfl).trans<|Wk.of (sl:=[pP 5 (ws out)]) (hp:=[]) (.cons rfl (.of (cf (by simp[ho]))) .nil) .nil) ?_;refine gc (nJ out hw (by rw[ho];exact la')) ?_;refine ah ?_;rw[aba hw ho bA lb (af▸hv)]
theorem ab0(a b:List Nat)(ha:Ws a)(hb:Ws b)(la:a.length+b.length<=aw):FP 220 [ws a,ws b] (ws (ofNat (val a*val b))):=by
 have la':=la;unfold aw at la;refine ak func220 ?_;refine gl ?_;refine gl ?_;refine ga (fw (by unfold az;omega) (by unfold az;omega)) ?_;refine gs (gh (.tmp rfl) T42 rfl T87 rfl rfl oz (by dsimp only;omega) rfl) ?_;refine gl ?_;refine fH [0,1,17,18] [] (fun(out:List Nat)(i:Nat)=>[pP 5 (.ms 16 1 0 (a.length+b.length)),pP 19 (i64 i)]) (fun out _=>[pP 16 (.row 1 (out.map u32))]) (fun out i=>out.length=a.length+b.length/\i<=a.length/\Ws out/\val (out.take (i+b.length))=val (a.take i)*val b) (fun _ i=>a.length-i) (afq (a.length+b.length) 0) 0 ⟨by simp,by omega,mL _,by simp[val,ze]⟩ ?_ (h2:=(.cons rfl (.of (by rw[aik];rfl)) .nil))
 rintro out i ⟨ho,hi,hw,hv⟩ K1 J1;refine gC (fun z=>?_) (fun z=>?_) (st2:=(15,0))
 ·have af : i < a.length := by simpa [aa] using z
  have h1:=bu ha i;refine gi (ic (n:=i) oz (by first |omega |(simp;omega))) ?_;refine gl ?_;refine iW [0,1,17,18,19,6,7,24,25] [] (fun(o:List Nat)(c k:Nat)=>[pP 5 (.ms 16 1 0 (a.length+b.length)),pP 8 (u64 c),pP 26 (i64 k)]) (fun o _ _=>[pP 16 (.row 1 (o.map u32))]) (fun o c k=>o.length=a.length+b.length/\k<=b.length/\Ws o/\c<4294967296/\val (o.take (i+b.length))+c*4294967296^(i+k)=val (out.take (i+b.length))+4294967296^i*(aj a i*val (b.take k))) (fun _ _ k=>b.length-k) out 0 0 ⟨ho,by omega,hw,by omega,by simp[val]⟩ ?_
  rintro o c k ⟨iz,hk,lX,hc,jl⟩ K2 J2;refine gC (fun z=>?_) (fun z=>?_)
  ·have aT : k < b.length := by simpa [aa] using z
   have h2:=bu hb k;have h3:=bu lX (i+k);have h4:=zN h1 h2;have h5:=Nc (x:=(c+(aj a i*aj b k+aj o (i+k)))%4294967296) (show i+k<o.length by omega) (show i+k<i+b.length by omega);have h6:=MZ h5 rfl jl;refine gi (ic (n:=k) oz (by first |omega |(simp;omega))) ?_;refine gv (u64_in oz) ?_;refine gv (u64_in oz) ?_;refine ga (yQ oz) ?_;refine ga (fw (by unfold az;omega) (by unfold az;omega)) ?_;refine gs (br (n:=i+k) (.tmp rfl) (.tmp rfl) T42 rfl T87 rfl oz (by first |omega |(simp;omega)) rfl) ?_;refine gs (dx (.tmp rfl) rfl (bP (i:=i+k) oz) T87 rfl rfl rfl) ?_;refine gv (u64_in oz) ?_;refine ga (jD oz) ?_;refine ga (jD oz) ?_;refine ga (fw (by unfold az;omega) (by unfold az;omega)) ?_;refine gv (dg _) ?_;refine gs (br (n:=i+k) (.tmp rfl) (.tmp rfl) T42 rfl T87 rfl oz (by first |omega |(simp;omega)) rfl) ?_;refine gs (dc (.tmp rfl) rfl (bP (i:=i+k) oz) rfl (.tmp rfl) rfl rfl T87 rfl rfl) ?_;refine gs (eW (.tmp rfl) (.const _) oz (io _ 32 oz) rfl) ?_;refine ga (cO oz) ?_;exact ia J2 (o.set (i+k) ((c+(aj a i*aj b k+aj o (i+k)))%4294967296)) ((c+(aj a i*aj b k+aj o (i+k)))/4294967296) (k+1) ⟨by simp[iz],by omega,gK lX oz,by omega,by rw[show i+(k+1)=(i+k)+1 from rfl,ado,h6,cU];simp only[ail];grind⟩ (hw:=Wk.of aY (.cons rfl (.of (by rw[ain];rfl)) .nil))
  have aT:k=b.length:=by have:b.length<=k:=(by simpa[aa]using z);omega
  subst aT;have h5:=mf (x:=c) (show i+b.length<o.length by omega);rw[ahw]at jl;refine gl ?_;refine ga (fw (by unfold az;omega) (by unfold az;omega)) ?_;refine gv ((dg c).trans (by rw[ad5 hc])) ?_;refine gs (br (n:=i+b.length) (.tmp rfl) (.tmp rfl) T42 rfl T87 rfl oz (by first |omega |(simp;omega)) rfl) ?_;refine gs (dc (.tmp rfl) rfl (bP (i:=i+b.length) oz) rfl (.tmp rfl) rfl rfl T87 rfl rfl) ?_;refine ga (cO oz) ?_;exact fE J1 (o.set (i+b.length) c) (i+1) ⟨by simp[iz],by omega,gK lX hc,by rw[show i+1+b.length=i+b.length+1 by omega,h5,cU];simp only[ail]at *;grind⟩ (hw:=Wk.of aY (.cons rfl (.of (by rw[ain];rfl)) .nil))
 have af:i=a.length:=by have:a.length<=i:=(by simpa[aa]using z);omega
 subst af;rw[ahw,eO oz]at hv;refine gW ((Wk.freeze (k:=16) rfl).trans<|Wk.of (sl:=[pP 5 (ws out)]) (hp:=[]) (.cons rfl (.of (cf (by simp[ho]))) .nil) .nil) ?_;refine gc (nJ out hw oz) ?_;refine ah ?_;rw[hv]
theorem QF(a:List Nat)(w:Nat)(ha:Ws a)(la:a.length<=aw)(FY:0<w)(hwB:w<4294967296):FP 315 [ws a,u32 w] (.tup [ws (ofNat (val a/w)),u32 (val a%w)]):=by
 have la':=la;unfold aw at la;refine ak func315 ?_;refine gl ?_;refine gs (gh (.tmp rfl) T42 rfl T87 rfl rfl oz (by dsimp only;omega) rfl) ?_;refine gl ?_;refine ga (el oz) ?_;refine iW [0,1] [] (fun(out:List Nat)(r i:Nat)=>[pP 6 (.ms 11 1 0 a.length),pP 7 (u64 r),pP 8 (i64 ((i:Int)-1))]) (fun out _ _=>[pP 11 (.row 1 (out.map u32))]) (fun out r i=>out.length=a.length/\i<=a.length/\Ws out/\r<w/\val (a.drop i)=w*val (out.drop i)+r) (fun _ _ i=>i) (afq a.length 0) 0 a.length ⟨by simp,by omega,mL _,by omega,by simp[val]⟩ ?_ (h2:=(.cons rfl (.of (by rw[aik];rfl)) .nil))
 rintro out r i ⟨ho,hi,hw,hr,hv⟩ K1 J1;refine gC (fun z=>?_) (fun z=>?_) (st2:=(9,0))
 ·have k9 : 1 <= i := by have := z; simp [aa] at this; omega
  obtain⟨k,rfl⟩:∃k,i=k+1:=⟨i-1,by omega⟩
  have h1:=bu ha k;have h2:=SU hr h1;refine gs (mr (.tmp rfl) (.const _) oz (tg (n:=32) oz oz) rfl) ?_;refine gi (ic (n:=k) oz (by first |omega |(simp;omega))) ?_;refine gv (u64_in oz) ?_;refine gs (jR (.tmp rfl) (.tmp rfl) rfl ((vU oz oz).trans (by rw[vC oz])) rfl) ?_;refine gv (u64_in oz) ?_;refine gs (ls (.tmp rfl) (.tmp rfl) oz (MC oz) rfl) ?_;refine gv ((dg _).trans (by rw[ad5 h2])) ?_;refine gs (br (n:=k) (.tmp rfl) (.tmp rfl) T42 rfl T87 rfl oz (by first |omega |(simp;omega)) rfl) ?_;refine gs (dc (.tmp rfl) rfl (bP (i:=k) oz) rfl (.tmp rfl) rfl rfl T87 rfl rfl) ?_;refine gv (u64_in oz) ?_;refine gs (zH (.tmp rfl) (.tmp rfl) oz Kb rfl) ?_;refine ga (el oz) ?_;exact ia J1 (out.set k ((r*2^32+aj a k)/w)) ((r*2^32+aj a k)%w) k ⟨by simp[ho],by omega,gK hw h2,adn _ FY,WL oz oz hv⟩ (hw:=Wk.of aY (.cons rfl (.of (by rw[ain];rfl)) .nil))
 have af:i=0:=by have:=z;simp[aa]at this;omega
 subst af;obtain⟨h3,h4⟩:=xQ hv hr;simp only[aim]at h3 h4;refine gW ((Wk.freeze (k:=11) rfl).trans<|Wk.of (sl:=[pP 6 (ws out),pP 7 (u64 r)]) (hp:=[]) (.cons rfl (.of (cf (by simp[ho]))) (.k .nil)) .nil) ?_;refine gc (nJ out hw oz) ?_;refine gv ((dg _).trans (by rw[ad5 oz])) ?_;refine bZ ?_;rw[h3,h4];rfl
theorem Lh(d:Nat)(hd:aem d 1000=true)(a:List Nat)(n:Nat)(ha:Ws a)(la:a.length<aw)(hn:n<32):Con prog 317 [ws a,i64 n] [] (.ms d 1 0 (a.length+1)) [(d,some (.row 1 ((aS (a.length+1) (2^n*val a)).map u32)))]:=by
 have la':=la;unfold aw at la;refine gF func317 (fun k z h=>by cases h) ?_;refine gl ?_;refine ga (fw (y:=1) (by unfold az;omega) (by unfold az;omega)) ?_;refine gs (gh (.tmp rfl) T42 rfl T87 rfl rfl oz (by dsimp only;omega) rfl) ?_;refine gl ?_;refine fH [0,1,13,14] [] (fun(out:List Nat)(i:Nat)=>[pP 5 (.ms 12 1 0 (a.length+1)),pP 15 (i64 i)]) (fun out _=>[pP 12 (.row 1 (out.map u32))]) (fun out i=>out.length=a.length+1/\i<=a.length/\Ws out/\aj out i<2^n/\val (out.take (i+1))=2^n*val (a.take i)) (fun _ i=>a.length-i) (afq (a.length+1) 0) 0 ⟨by simp,by omega,mL _,by simp[aj,ad7],by simp[val,List.replicate_succ]⟩ ?_ (h2:=(.cons rfl (.of (by rw[aik];rfl)) .nil))
 rintro out i ⟨ho,hi,hw,hr,hv⟩ K1 J1;refine gC (fun u=>?_) (fun u=>?_)
 ·have af : i < a.length := by simpa [aa] using u
  have h1:=bu ha i;have h2:=aaa (a:=a) (i:=i) (n:=n) (show i+1<out.length by omega) hv;have h3:=ZJ (x:=aj a i) hn hr;have h4:=Yg (n:=n) h1;have h5:2^n<=2^31:=qB oz;have h6:aj a i*2^n<=aj a i*2^31:=ahu _ h5;have h7:=bu hw i;refine gi (ic (n:=i) oz (by first |omega |(simp;omega))) ?_;refine gv (u64_in oz) ?_;refine gs (mr (.tmp rfl) (.tmp rfl) oz (tg oz oz) rfl) ?_;refine gs (br (n:=i) (.tmp rfl) (.tmp rfl) T42 rfl T87 rfl oz (by first |omega |(simp;omega)) rfl) ?_;refine gs (dx (.tmp rfl) rfl (bP (i:=i) oz) T87 rfl rfl rfl) ?_;refine gv (dg _) ?_;refine gs (jR (.tmp rfl) (.tmp rfl) rfl ((Eo oz oz).trans (by rw[TL hn hr])) rfl) ?_;refine gs (br (n:=i) (.tmp rfl) (.tmp rfl) T42 rfl T87 rfl oz (by first |omega |(simp;omega)) rfl) ?_;refine gs (dc (.tmp rfl) rfl (bP (i:=i) oz) rfl (.tmp rfl) rfl rfl T87 rfl rfl) ?_;refine ga (fw (y:=1) (by unfold az;omega) (by unfold az;omega)) ?_;refine gs (eW (.tmp rfl) (.const _) oz (io _ 32 oz) rfl) ?_;refine gv ((dg _).trans (by rw[ad5 (show aj a i*2^n/2^32<4294967296 by omega)])) ?_;refine gs (br (n:=i+1) (.tmp rfl) (.tmp rfl) T42 rfl T87 rfl oz (by first |omega |(simp;omega)) rfl) ?_;refine gs (dc (.tmp rfl) rfl (by rw[List.getElem?_set_ne oz];exact bP (i:=i+1) oz) rfl (.tmp rfl) rfl rfl T87 rfl rfl) ?_;refine ga (cO oz) ?_;exact fE J1 ((out.set i (aj out i+aj a i*2^n%4294967296)).set (i+1) (aj a i*2^n/4294967296)) (i+1) ⟨by simp[ho],by omega,gK (gK hw oz) oz,by rw[R5 (by simp;omega)];exact h4,h2⟩ (hw:=Wk.of aY (.cons rfl (.of (by rw[ain,ain];rfl)) .nil))
 have af:i=a.length:=by have:a.length<=i:=(by simpa[aa]using u);omega
 subst af;rw[ahw,eO oz]at hv;refine gR ?_;exact aI.own1 rfl hd (by rw[zc hw ho hv])
theorem Xa(a:List Nat)(n:Nat)(ha:Ws a)(la:a.length<=aw)(hn:n<32):FP 320 [ws a,i64 n] (ws (ofNat (val a/2^n))):=by
 have la':=la;unfold aw at la;refine ak func320 ?_;refine gl ?_;refine gs (gh (.tmp rfl) T42 rfl T87 rfl rfl oz (by dsimp only;omega) rfl) ?_;refine gl ?_;refine fH [0,1,11] [] (fun(out:List Nat)(i:Nat)=>[pP 5 (.ms 9 1 0 a.length),pP 12 (i64 i)]) (fun out _=>[pP 9 (.row 1 (out.map u32))]) (fun out i=>out.length=a.length/\i<=a.length/\Ws out/\val (out.take i)=val a/2^n%4294967296^i) (fun _ i=>a.length-i) (afq a.length 0) 0 ⟨by simp,by omega,mL _,by simp[val,Nat.mod_one]⟩ ?_ (h2:=(.cons rfl (.of (by rw[aik];rfl)) .nil))
 rintro out i ⟨ho,hi,hw,hv⟩ K1 J1;refine gC (fun z=>?_) (fun z=>?_) (st2:=(7,0))
 ·have af : i < a.length := by simpa [aa] using z
  have h1:=bu ha i;have h2:=bu ha (i+1);have h3:=NE ha af (show i<out.length by omega) (show n<=32 by omega) hv;refine gi (ic (n:=i) oz (by first |omega |(simp;omega))) ?_;refine gv (u64_in oz) ?_;refine ga (fw (y:=1) (by unfold az;omega) (by unfold az;omega)) ?_;refine gc (rU a (i+1) ha) ?_;refine gs (mr (.tmp rfl) (.const _) oz (tg (n:=32) oz oz) rfl) ?_;refine gs (jR (.tmp rfl) (.tmp rfl) rfl ((vU oz oz).trans (by rw[Dk oz])) rfl) ?_;refine gs (eW (.tmp rfl) (.tmp rfl) oz (io _ _ oz) rfl) ?_;refine gv (dg _) ?_;refine gs (br (n:=i) (.tmp rfl) (.tmp rfl) T42 rfl T87 rfl oz (by first |omega |(simp;omega)) rfl) ?_;refine gs (dc (.tmp rfl) rfl (bP (i:=i) oz) rfl (.tmp rfl) rfl rfl T87 rfl rfl) ?_;refine gD ?_;refine ga (cO oz) ?_;exact fE J1 (out.set i ((aj a i+aj a (i+1)*2^32)/2^n%4294967296)) (i+1) ⟨by simp[ho],by omega,gK hw oz,h3⟩ (hw:=Wk.of aY (.cons rfl (.of (by rw[ain];rfl)) .nil))
 have af:i=a.length:=by have:a.length<=i:=(by simpa[aa]using z);omega
 refine gW ((Wk.freeze (k:=9) rfl).trans<|Wk.of (sl:=[pP 5 (ws out)]) (hp:=[]) (.cons rfl (.of (cf (by simp[ho]))) .nil) .nil) ?_;refine gc (nJ out hw oz) ?_;refine ah ?_;rw[ab4 ha ho (af▸hv)]
theorem V5{b:Nat}{p:Prop}[Decidable p](h:b=1↔p):dD [AV.v (Value.bool (aa BinOp.eql (b:Int) 1))]=bl (decide p):=by
 have:((b:Int)==1)=decide (b=1):=by rw[ags];simp;omega
 simp only[dD,aa,this,bl];rw[decide_eq_decide.2 h]
theorem ab8(u v:List Nat)(off len n:Nat)(hu:Ws u)(hv:Ws v)(lV:v.length+1<=len)(hj:off+len<=u.length)(hn:n<4294967296)(lu:u.length<=az) :
  Con prog 318 [.ms 1000 1 off len,ws v,u64 n] [pP 1000 (.row 1 (u.map u32))] (bl (decide (val (a5 u off len)<n*val v)))
   [pP 1000 (.row 1 ((wr u off (aS len (kI n (val v) (val (a5 u off len)) len))).map u32))]:=by
 unfold az at lu;refine gF func318 (fun k z h=>eQ h) ?_;refine Ng [1,2,12] [] (fun(o:List Nat)(c b lo i:Nat)=>[pP 0 (.ms 1000 1 off len),pP 7 (u64 c),pP 8 (u64 b),pP 13 (i64 i)]) (fun o _ _ _ _=>[pP 1000 (.row 1 (o.map u32))]) (fun o c b lo i=>o.length=u.length/\i<=len/\Ws o/\c<4294967296/\b<=1/\o.take off=u.take off/\o.drop (off+i)=u.drop (off+i)/\lo+c*4294967296^i=n*val (v.take i)/\val (a5 o off i)+lo=val (a5 u off i)+b*4294967296^i) (fun _ _ _ _ i=>len-i) u 0 0 0 0 ⟨rfl,by omega,hu,by omega,by omega,rfl,rfl,by simp[val],by simp[]⟩ ?_
 rintro o c b lo i ⟨ho,hi,hw,hc,hb,fL,lW,ut,jl⟩ K1 J1;refine gC (fun y=>?_) (fun y=>?_)
 ·have af : i < len := by simpa [aa] using y
  have h1:=bu hu (off+i);have h2:=bu hv i;have h0:=tW lW;have h4:=zN hn h2;obtain⟨c1,eL⟩:∃c1,c1=c+n*aj v i:=⟨_,rfl⟩
  have h3:=Hx h1 (show c1%4294967296<4294967296 by omega) hb jl;obtain⟨d,hd⟩:∃d,d=if c1%4294967296+b<=aj u (off+i)then aj u (off+i)-c1%4294967296-b else aj u (off+i)+18446744073709551616-c1%4294967296-b:=⟨_,rfl⟩
  rw[<- hd]at h3;have hd3:d<18446744073709551616:=by rw[hd];split <;> omega
  have h5:=WY (w:=aj v i) ut;refine gc (by apply rU <;> assumption) ?_;refine ga (yQ oz) ?_;refine ga ((jD oz).trans (by rw[<- eL])) ?_;refine gs (o9 (n:=i) (.tmp rfl) (.tmp rfl) T42 rfl T87 rfl oz (by first |omega |(simp;omega)) rfl) ?_;refine gs (dx (.tmp rfl) rfl (by rw[bP (show off+i<o.length by omega),h0]) T87 rfl rfl rfl) ?_;refine gv (u64_in oz) ?_;refine gv (dg _) ?_;refine gv (u64_in oz) ?_;refine ga (lD oz oz) ?_;refine ga (show _=(d:Int) by rw[lD (by split <;> omega) oz,hd];congr 1;(repeat' split) <;> omega) ?_;refine gv (dg _) ?_;refine gs (o9 (n:=i) (.tmp rfl) (.tmp rfl) T42 rfl T87 rfl oz (by first |omega |(simp;omega)) rfl) ?_;refine gs (dc (.tmp rfl) rfl (bP (i:=off+i) oz) rfl (.tmp rfl) rfl rfl T87 rfl rfl) ?_;refine gs (eW (.tmp rfl) (.const _) oz (io _ 63 oz) rfl) ?_;refine gs (eW (.tmp rfl) (.const _) oz (io _ 32 oz) rfl) ?_;refine ga (cO oz) ?_;exact He J1 (o.set (off+i) (d%4294967296)) (c1/4294967296) (d/2^63) (lo+4294967296^i*(c1%4294967296)) (i+1) ⟨by simp[ho],by omega,gK hw oz,by omega,by omega,by rw[List.take_set_of_le oz];exact fL,vo lW,by rw[cU,ado,eL];exact h5,by rw[I6 oz,L1,ado];exact h3⟩ (hw:=Wk.of aY (.cons rfl (.of (by rw[ain];rfl)) .nil))
 have af:i=len:=by have:len<=i:=(by simpa[aa]using y);omega
 subst af;obtain⟨h6,h7⟩:=PL hu hw ho hj hv lV hn fL lW hb ut jl;refine gR ?_;exact aI.own2 rfl (by rw[<- h6]) (V5 h7)
theorem Rj(u v:List Nat)(off len:Nat)(hu:Ws u)(hv:Ws v)(lV:v.length<=len)(hj:off+len<=u.length)(lu:u.length<=az) :
  Con prog 319 [.ms 1000 1 off len,ws v] [pP 1000 (.row 1 (u.map u32))] (.tup [])
   [pP 1000 (.row 1 ((wr u off (aS len ((val (a5 u off len)+val v)%4294967296^len))).map u32))]:=by
 unfold az at lu;refine gF func319 (fun k z h=>eQ h) ?_;refine iW [1,7] [] (fun(o:List Nat)(c i:Nat)=>[pP 0 (.ms 1000 1 off len),pP 4 (u64 c),pP 8 (i64 i)]) (fun o _ _=>[pP 1000 (.row 1 (o.map u32))]) (fun o c i=>o.length=u.length/\i<=len/\Ws o/\c<=1/\o.take off=u.take off/\o.drop (off+i)=u.drop (off+i)/\val (a5 o off i)+c*4294967296^i=val (a5 u off i)+val (v.take i)) (fun _ _ i=>len-i) u 0 0 ⟨rfl,by omega,hu,by omega,rfl,rfl,by simp[val]⟩ ?_
 rintro o c i ⟨ho,hi,hw,hc,fL,lW,jl⟩ K1 J1;refine gC (fun y=>?_) (fun y=>?_)
 ·have af : i < len := by simpa [aa] using y
  have h1:=bu hu (off+i);have h2:=bu hv i;have h0:=tW lW;have h3:=DS (u:=aj u (off+i)) (w:=aj v i) jl;refine gs (o9 (n:=i) (.tmp rfl) (.tmp rfl) T42 rfl T87 rfl oz (by first |omega |(simp;omega)) rfl) ?_;refine gs (dx (.tmp rfl) rfl (by rw[bP (show off+i<o.length by omega),h0]) T87 rfl rfl rfl) ?_;refine gv (u64_in oz) ?_;refine gc (by apply rU <;> assumption) ?_;refine ga (jD oz) ?_;refine ga (jD oz) ?_;refine gD ?_;refine gv (dg _) ?_;refine gs (o9 (n:=i) (.tmp rfl) (.tmp rfl) T42 rfl T87 rfl oz (by first |omega |(simp;omega)) rfl) ?_;refine gs (dc (.tmp rfl) rfl (bP (i:=off+i) oz) rfl (.tmp rfl) rfl rfl T87 rfl rfl) ?_;refine gs (eW (.tmp rfl) (.const _) oz (io _ 32 oz) rfl) ?_;refine ga (cO oz) ?_;exact ia J1 (o.set (off+i) ((c+(aj u (off+i)+aj v i))%4294967296)) ((c+(aj u (off+i)+aj v i))/4294967296) (i+1) ⟨by simp[ho],by omega,gK hw oz,by omega,by rw[List.take_set_of_le oz];exact fL,vo lW,by rw[I6 oz,L1,cU,ado];exact h3⟩ (hw:=Wk.of aY (.cons rfl (.of (by rw[ain];rfl)) .nil))
 have af:i=len:=by have:len<=i:=(by simpa[aa]using y);omega
 subst af;have h6:=abh hw ho hj lV fL lW jl;refine gR ?_;exact aI.own2 rfl (by rw[<- h6]) rfl
theorem SR(x:Nat)(hx:x<4294967296):FP 331 [u32 x] (i64 (aM x)):=by
 refine ak func331 ?_;refine gC (fun u=>?_) (fun u=>?_)
 ·obtain ⟨y, hy, h2, h3⟩ : ∃ y, y = x / 2 ^ 16 /\ y < 65536 /\ aM x = 16 + aM y := ⟨_, rfl, by omega, wV (by have := u; simp [aa] at this; omega)⟩
  refine gs (eW (.tmp rfl) (.const _) oz ((tU x 16 oz).trans (by rw[<- hy])) rfl) ?_;refine gC (fun t8=>?_) (fun t8=>?_)
  ·have h5 : 2 ^ 8 <= y := by simp [aa] at t8; omega
   obtain⟨z,hz,h6,h7⟩:∃z,z=y/2^8/\z<256/\aM x=(aM x-aM y)+8+aM z:=⟨_,rfl,by omega,by have:=wV h5;omega⟩
   refine gs (eW (.tmp rfl) (.const _) oz ((tU _ 8 oz).trans (show _=(z:Int) by first |(rw[hz];done) |(rw[hz,hy];done))) rfl) ?_;refine ga (cO oz) ?_;refine gv (show IntKind.u8.wrap _=(z:Int) by first |exact kp h6 |(rw[hz];exact kp oz) |(rw[hz,hy];exact kp oz)) ?_;refine gs (AM (y:=z) (.const _) (.tmp rfl) T9 rfl (by kernel_rfl) (by first |rfl |omega) oz rfl) ?_;refine gv (i64_in (by have:=kF h6;omega)) ?_;refine ga (cO (by have:=kF h6;omega)) ?_;refine ah ?_;simp only[i64];congr 2;have:=kF h6;omega
  have h5:y<2^8:=by simp[aa]at t8;omega
  obtain⟨z,hz,h6,h7⟩:∃z,z=y/\z<256/\aM x=(aM x-aM y)+aM z:=⟨_,rfl,by omega,by omega⟩
  refine gv (show IntKind.u8.wrap _=(z:Int) by first |exact kp h6 |(rw[hz];exact kp oz) |(rw[hz,hy];exact kp oz)) ?_;refine gs (AM (y:=z) (.const _) (.tmp rfl) T9 rfl (by kernel_rfl) (by first |rfl |omega) oz rfl) ?_;refine gv (i64_in (by have:=kF h6;omega)) ?_;refine ga (cO (by have:=kF h6;omega)) ?_;refine ah ?_;simp only[i64];congr 2;have:=kF h6;omega
 obtain⟨y,hy,h2,h3⟩:∃y,y=x/\y<65536/\aM x=0+aM y:=⟨_,rfl,by have:=u;simp[aa]at this;omega,by omega⟩
 refine gC (fun t8=>?_) (fun t8=>?_)
 ·have h5 : 2 ^ 8 <= y := by simp [aa] at t8; omega
  obtain⟨z,hz,h6,h7⟩:∃z,z=y/2^8/\z<256/\aM x=(aM x-aM y)+8+aM z:=⟨_,rfl,by omega,by have:=wV h5;omega⟩
  refine gs (eW (.tmp rfl) (.const _) oz ((tU _ 8 oz).trans (show _=(z:Int) by first |(rw[hz];done) |(rw[hz,hy];done))) rfl) ?_;refine ga (cO oz) ?_;refine gv (show IntKind.u8.wrap _=(z:Int) by first |exact kp h6 |(rw[hz];exact kp oz) |(rw[hz,hy];exact kp oz)) ?_;refine gs (AM (y:=z) (.const _) (.tmp rfl) T9 rfl (by kernel_rfl) (by first |rfl |omega) oz rfl) ?_;refine gv (i64_in (by have:=kF h6;omega)) ?_;refine ga (cO (by have:=kF h6;omega)) ?_;refine ah ?_;simp only[i64];congr 2;have:=kF h6;omega
 have h5:y<2^8:=by simp[aa]at t8;omega
 obtain⟨z,hz,h6,h7⟩:∃z,z=y/\z<256/\aM x=(aM x-aM y)+aM z:=⟨_,rfl,by omega,by omega⟩
 refine gv (show IntKind.u8.wrap _=(z:Int) by first |exact kp h6 |(rw[hz];exact kp oz) |(rw[hz,hy];exact kp oz)) ?_;refine gs (AM (y:=z) (.const _) (.tmp rfl) T9 rfl (by kernel_rfl) (by first |rfl |omega) oz rfl) ?_;refine gv (i64_in (by have:=kF h6;omega)) ?_;refine ga (cO (by have:=kF h6;omega)) ?_;refine ah ?_;simp only[i64];congr 2;have:=kF h6;omega
theorem Vm(x:Nat)(hx:x<4294967296):FP 316 [u32 x] (i64 (32-aM x:Nat)):=by
 have h1:aM x<=32:=by
  by_cases h:x=0
  ·subst h;decide
  ·exact(ET h hx).1
 refine ak func316 ?_;refine gc (SR x hx) ?_;refine ga (i64_in (by simp only[fu];omega)) ?_;refine ah ?_;simp only[i64,fu];congr 2;omega
theorem KB(a b:List Nat)(ha:Ws a)(hb:Ws b)(na:Nz a)(nb:Nz b)(iA:b≠[])(la:a.length<aw)(lb:b.length<aw) :
  FP 221 [ws a,ws b] (.tup [ws (ofNat (val a/val b)),ws (ofNat (val a%val b))]):=by
 have la':=la;unfold aw at la lb;refine ak func221 ?_;refine gc (Em a b ha hb na nb) ?_;refine gC (fun t22=>?_) (fun t22=>?_)
 ·have h1:val a<val b:=by
   simp only[aa]at t22;split at t22
   ·assumption
   ·split at t22 <;> simp at t22
  refine gc (nJ a ha oz) ?_;refine gR ?_;exact QA (by rw[aeb h1];exact Sub.nil _ _ _) (by rw[ad5 h1];exact Sub.refl _)
 have h1:val b<=val a:=by
  simp only[aa]at t22;split at t22
  ·simp at t22
  ·omega
 refine gl ?_;refine gC (fun z=>?_) (fun z=>?_)
 ·have hl : b.length = 1 := by have := z; simp [aa] at this; omega
  obtain⟨x,rfl⟩:∃x,b=[x]:=afc.1 hl;have hx:x≠0:=nb x rfl;have hxB:x<4294967296:=hb x (by simp);have hv:val [x]=x:=by simp[val]
  have hm:=adn (val a) (show 0<x by omega);refine gi (show _=some (u32 x)from rfl) ?_;refine gc (QF a x ha oz oz hxB) ?_;refine gc (nJ [val a%x] (vn oz) (by simp[aw])) ?_;refine bZ ?_;rw[hv];simp[val]
 have hl:b.length≠1:=by have:=z;simp[aa]at this;omega
 obtain⟨n,hn⟩:∃n,b.length=n+2:=⟨b.length-2,by have:=aez.2 iA;omega⟩
 obtain⟨sh,v,kX,xt,hv,wv,lv,vv,hvt,htop,AW⟩:=PS hb nb hn
 have hab:b.length<=a.length:=by
  rcases ahq a.length b.length with h2 |h2
  ·have:=wg ha nb h2;omega
  ·exact h2
 obtain⟨lq,OY⟩:∃lq,a.length+1=lq+(n+2):=⟨a.length+1-(n+2),by omega⟩
 have A5:=bu hb (n+1);refine gl ?_;refine ga (show _=((n+1:Nat):Int) by rw[el oz];omega) ?_;refine gi (ic (n:=n+1) oz (by first |omega |(simp;omega))) ?_;refine gc (show jv _ _ _ (i64 (sh:Nat)) by rw[kX];exact Vm _ A5) ?_;refine gt (bq (Lh 900 rfl b sh hb (by unfold aw;omega) xt) (cV rfl rfl) bU rfl rfl) ?_;refine gl ?_;refine gs (qN (.tmp rfl) (.none _) (.some _ (.tmp rfl) oz) T42 rfl T87 rfl oz oz rfl) ?_;refine gt (bq (Lh 901 rfl a sh ha (by unfold aw;omega) xt) (cV rfl rfl) bU rfl rfl) ?_;refine gD ?_ (8,0);refine gW ((Wk.freeze (k:=900) rfl).trans<|Wk.of (sl:=[pP 0 (ws a),pP 1 (ws b),pP 8 (i64 sh),pP 9 (ws v),pP 10 (.ms 901 1 0 (a.length+1))]) (hp:=[pP 901 (.row 1 ((aS (a.length+1) (2^sh*val a)).map u32))]) (.k (.k (.k (.cons rfl (.of (TH hn hv)) (.k .nil))))) (.k .nil)) ?_;refine gl ?_;refine ga (show _=(lq:Int) by rw[lv,el oz];omega) ?_;refine gs (gh (.tmp rfl) T42 rfl T87 rfl rfl oz (by dsimp only;omega) rfl) ?_;refine gl ?_;refine ga (show _=((n+1:Nat):Int) by rw[lv,el oz];omega) ?_;refine gi (ic (n:=n+1) oz (by first |omega |(simp;omega))) ?_;refine gv (u64_in (by have:=bu wv (n+1);omega)) ?_;refine gl ?_;refine ga (show _=(n:Int) by rw[lv,el oz];omega) ?_;refine gi (ic (n:=n) oz (by first |omega |(simp;omega))) ?_;refine gv (u64_in (by have:=bu wv n;omega)) ?_;refine gD ?_;refine ga (el oz) ?_;refine iW [8,9,12,13] [] (fun(q u:List Nat)(j:Nat)=>[pP 10 (.ms 901 1 0 (a.length+1)),pP 11 (.ms 61 1 0 lq),pP 14 (i64 ((j:Int)-1))]) (fun q u _=>[pP 901 (.row 1 (u.map u32)),pP 61 (.row 1 (q.map u32))]) (fun q u j=>q.length=lq/\u.length=a.length+1/\Ws q/\Ws u/\j<=lq/\val (u.drop j)<val v/\2^sh*val a=val v*(4294967296^j*val (q.drop j))+val u) (fun _ _ j=>j) (afq lq 0) (aS (a.length+1) (2^sh*val a)) lq ⟨by simp,fh _ _,mL _,ku _ _,ahr _,by rw[vv];exact(MQ ha xt OY AW).2,by rw[(MQ ha xt OY AW).1];simp[val]⟩ ?_ (h2:=(.k (.cons rfl (.of (by rw[aik];rfl)) .nil)))
 rintro q u j ⟨rI,uu,wq,wu,hj,hlt,hU⟩ K1 J1;refine gC (fun z=>?_) (fun z=>?_) (st2:=(23,0))
 ·have pV : 1 <= j := by have := z; simp [aa] at this; omega
  obtain⟨k,rfl⟩:∃k,j=k+1:=⟨j-1,by omega⟩
  obtain⟨W,hW⟩:∃W,W=val (a5 u k (n+3)):=⟨_,rfl⟩
  have OU:val v<4294967296^(n+2):=by have:=bF v wv;rwa [lv]at this
  obtain⟨e1,e2,e3⟩:=Qp (u:=u) (q:=q) (k:=k) (lv:=n+2) wu oz oz OU hlt hU;simp only[show n+2+1=n+3 from rfl]at e1 e2 e3;have lY:=W8 wv (pH wu k (n+3)) lv (qY oz) hvt e1;rw[<- hW]at e1 e2 e3 lY;have wp:=pH wu k (n+3);have b1:=bu wp n;have b2:=bu wp (n+1);have b3:=bu wp (n+2);have b4:=lY.htop;have b5:=lY.htopB;have b6:=lY.hnext;obtain⟨top,OZ⟩:∃top,top=aj v (n+1):=⟨_,rfl⟩
  obtain⟨nx,O0⟩:∃nx,nx=aj v n:=⟨_,rfl⟩
  obtain⟨hd,O1⟩:∃hd,hd=aj (a5 u k (n+3)) (n+2)*4294967296+aj (a5 u k (n+3)) (n+1):=⟨_,rfl⟩
  obtain⟨th,A6⟩:∃th,th=aj (a5 u k (n+3)) n:=⟨_,rfl⟩
  rw[<- OZ,<- O0,<- O1,<- A6]at lY;rw[<- OZ]at b4 b5 ⊢;rw[<- O0]at b6 ⊢;rw[<- A6]at b1;have hdB:hd<18446744073709551616:=by omega
  refine gl ?_;refine ga (show _=((k+n+2:Nat):Int) by rw[lv,cO oz];omega) ?_;refine ga (show _=((k+n+3:Nat):Int) by rw[cO oz];omega) ?_;refine gs (qN (.tmp rfl) (.some _ (.tmp rfl) oz) (.some _ (.tmp rfl) oz) T42 rfl T87 rfl oz oz rfl) ?_ (14,0);refine gW (Wk.of (sl:=[pP 8 (i64 sh),pP 9 (ws v),pP 10 (.ms 901 1 0 (a.length+1)),pP 11 (.ms 61 1 0 lq),pP 12 (u64 top),pP 13 (u64 nx),pP 14 (i64 k),pP 15 (.ms 901 1 k (n+3))]) (hp:=[pP 901 (.row 1 (u.map u32)),pP 61 (.row 1 (q.map u32))]) (.k (.k (.k (.k (.k (.k (.cons rfl (Sub.int oz) (.cons rfl (.of (by congr 1 <;> omega)) .nil)))))))) (.k (.k .nil))) ?_
  refine gl ?_;refine gs (o9 (n:=n+2) (.tmp rfl) (.tmp rfl) T42 rfl T87 rfl oz oz rfl) ?_;refine gs (dx (.tmp rfl) rfl (CT (n:=n+3) (i:=n+2) oz oz) T87 rfl rfl rfl) ?_;refine gv (u64_in oz) ?_;refine gs (mr (.tmp rfl) (.const _) oz (tg (n:=32) oz oz) rfl) ?_;refine gl ?_;refine ga (show _=((n+1:Nat):Int) by rw[lv,el oz];omega) ?_;refine gs (o9 (n:=n+1) (.tmp rfl) (.tmp rfl) T42 rfl T87 rfl oz oz rfl) ?_;refine gs (dx (.tmp rfl) rfl (CT (n:=n+3) (i:=n+1) oz oz) T87 rfl rfl rfl) ?_;refine gv (u64_in oz) ?_;refine gs (jR (.tmp rfl) (.tmp rfl) rfl ((vU oz oz).trans (show _=(hd:Int) by rw[vC oz,O1])) rfl) ?_;refine gD ?_;refine gs (ls (.tmp rfl) (.tmp rfl) oz (MC hdB) rfl) ?_;refine gs (zH (.tmp rfl) (.tmp rfl) oz Kb rfl) ?_;refine gD ?_;refine fH [8,9,12,13,14] [901,61] (fun(g r:Nat)=>[pP 10 (.ms 901 1 0 (a.length+1)),pP 11 (.ms 61 1 0 lq),pP 15 (.ms 901 1 k (n+3)),pP 17 (u64 g),pP 18 (u64 r)]) (fun _ _=>[]) (fun g r=>W/val v<=g/\g*top+r=hd/\g<18446744073709551616/\r<8589934592) (fun g _=>g) (hd/top) (hd%top) ⟨lY.first,by rw[aef];exact adz _ _,by have:=aeh hd top;omega,by have:=adn hd (show 0<top by omega);omega⟩ ?_
  rintro g r ⟨hg,gT,hgB,hrB⟩ K2 J2;refine kD (fun⟨h,h2⟩=>(yQ (by simp[aa]at h2;have:=zN (x:=g) (y:=nx) oz b6;omega))) ?_;refine gs (rx rfl rfl rfl (fun h h2=>mr (.opt rfl (o2 h h2)) (.const _) oz (tg (n:=32) oz (by simp[aa]at h;omega)) rfl)) ?_;refine cm ?_;refine kD (fun _=>(show _=(n:Int) by rw[lv,el oz];omega)) ?_;refine gs (rx rfl rfl rfl (fun h h2=>o9 (n:=n) (.opt rfl (o2 h h2)) (.opt rfl (o2 h h2)) T42 rfl T87 rfl oz oz rfl)) ?_;refine gs (rx rfl rfl rfl (fun h h2=>dx (.opt rfl (o2 h h2)) rfl (CT (n:=n+3) (i:=n) oz oz) T87 rfl rfl rfl)) ?_;refine Uj (fun _=>(u64_in oz)) ?_;refine gs (rx rfl rfl rfl (fun h h2=>jR (.opt rfl (o2 h h2)) (.opt rfl (o2 h h2)) rfl ((vU (by simp[aa]at h;omega) oz).trans (by rw[vC oz])) rfl)) ?_;refine gC (fun t133=>?_) (fun t133=>?_)
  ·have hc:r<4294967296/\(4294967296<=g\/r*4294967296+th<g*nx):=by
    rw[A6];have h9:=Of.1 t133
    rwa [show r*2^32=r*4294967296 from rfl]at h9
   have oa:=lY.step hg gT hc.2;have n8:1<=g:=Nat.succ_le_of_lt (aic (ahv _) oa);refine ga (MH oz oz) ?_;refine ga (jD oz) ?_;exact fE J2 (g-1) (r+top) ⟨Nat.le_sub_one_of_lt oa,by rw[Nat.sub_mul];have:=ah0 top (show 1<=g by omega);omega,by omega,by omega⟩
  have hc:¬(r<4294967296/\(4294967296<=g\/r*4294967296+th<g*nx)):=by
   rw[A6];intro hh;rw[show r*4294967296=r*2^32 from rfl]at hh;exact agn.1 t133 (Of.2 hh)
  obtain⟨acw,hgq⟩:=lY.last gT hc;have FW:=lY.vpos;have O2:val (a5 u k (n+3))<4294967296^(n+3):=by have:=bF _ wp;rwa [qY oz]at this
  obtain⟨p1,p2⟩:=VJ FW (show val v<=4294967296^(n+3) by have:=ad8 (show 0<4294967296 by omega) (show n+2<=n+3 by omega);omega) (hW▸O2) hg hgq;have FZ:k+(n+3)<=u.length:=by omega
  have ul:(wr u k (aS (n+3) (kI g (val v) W (n+3)))).length=a.length+1:=by rw[nk (by rw[fh];omega),uu]
  refine gt (bq (Con.rk 901 rfl rfl (ab8 u v k (n+3) g wu wv oz FZ acw (by unfold az;omega))) (a6 rfl rfl rfl) bU rfl rfl) ?_;refine gC (fun z=>?_) (fun z=>?_)
  ·have AX : W < g * val v := by rw [hW]; simpa using z
   obtain⟨q1,q2,q3⟩:=p1 AX;have xu:kI g (val v) W (n+3)<4294967296^(n+3):=by unfold kI;rw[ais oz];rw[<- hW]at O2;omega
   refine ga (MH oz oz) ?_;refine gt (bq (Con.rk 901 rfl rfl (Rj (wr u k (aS (n+3) (kI g (val v) (val (a5 u k (n+3))) (n+3)))) v k (n+3) (uc wu (ku _ _)) wv oz (by rw[<- hW,ul];omega) (by rw[<- hW,ul];unfold az;omega))) (cV rfl rfl) bU rfl rfl) ?_;refine gv ((dg _).trans (by rw[ad5 oz])) ?_;refine gs (br (n:=k) (.tmp rfl) (.tmp rfl) T42 rfl T87 rfl oz oz rfl) ?_;refine gs (dc (.tmp rfl) rfl (bP (i:=k) oz) rfl (.tmp rfl) rfl rfl T87 rfl rfl) ?_;refine ga (el oz) ?_;exact ia J1 (q.set k (W/val v)) (wr u k (aS (n+3) (W%val v))) k ⟨by simp[rI],by rw[nk (by rw[fh];omega),uu],gK wq lY.q_lt,uc wu (ku _ _),by omega,e2,e3⟩ (hw:=Wk.of aY (.cons rfl (.of (by rw[<- hW];first |(rw[q1];done) |(rw[J9 (r:=W%val v) FZ (fh _ _) (by rw[mi _ _ xu];exact q1)];done))) (.cons rfl (.of (by rw[ain,q2];rfl)) .nil)))
  have AX:¬W<g*val v:=by rw[hW];simpa using z
  obtain⟨q1,q2⟩:=p2 AX;refine gv ((dg _).trans (by rw[ad5 oz])) ?_;refine gs (br (n:=k) (.tmp rfl) (.tmp rfl) T42 rfl T87 rfl oz oz rfl) ?_;refine gs (dc (.tmp rfl) rfl (bP (i:=k) oz) rfl (.tmp rfl) rfl rfl T87 rfl rfl) ?_;refine ga (el oz) ?_;exact ia J1 (q.set k (W/val v)) (wr u k (aS (n+3) (W%val v))) k ⟨by simp[rI],by rw[nk (by rw[fh];omega),uu],gK wq lY.q_lt,uc wu (ku _ _),by omega,e2,e3⟩ (hw:=Wk.of aY (.cons rfl (.of (by rw[<- hW];first |(rw[q1];done) |(rw[J9 (r:=W%val v) FZ (fh _ _) (by rw[mi _ _ xu];exact q1)];done))) (.cons rfl (.of (by rw[ain,q2];rfl)) .nil)))
 have pV:j=0:=by have:=z;simp[aa]at this;omega
 subst pV;have hU':2^sh*val a=2^sh*val b*val q+val u:=by rw[<- vv];simpa using hU
 obtain⟨hQ,hR⟩:=Sx hU' (by rw[<- vv];simpa using hlt);refine gW ((Wk.freeze (k:=61) rfl).trans<|(Wk.freeze (k:=901) rfl).trans<|Wk.of (sl:=[pP 8 (i64 sh),pP 10 (ws u),pP 11 (ws q)]) (hp:=[]) (.k (.cons rfl (.of (cf (by simp[uu]))) (.cons rfl (.of (by rw[show AV.fz 61 1 (q.map u32) (.ms 61 1 0 lq)=ws q from cf (by simp[rI])];rfl)) .nil))) .nil) ?_;refine gc (nJ q wq (by unfold aw;omega)) ?_;refine gc (Xa u sh wu (by unfold aw;omega) xt) ?_;refine bZ ?_;rw[<- hQ,<- hR]
theorem AH{b:Bool}{n:Nat}:(cond b (aa .gtr ((ofNat n).length:Int) 0) false)=true↔(b=true/\0<n):=by
 have h:aa .gtr ((ofNat n).length:Int) 0=true↔0<n:=by
  simp only[aa,aiu];constructor
  ·intro h;rcases adm n with h1 |h1;(subst h1;simp[Zo]at h);exact h1
  ·intro h;have:ofNat n ≠ []:=by intro h1; have:=bI n; rw [h1] at this; simp [val] at this; omega
   have:=aez.2 this;omega
 cases b with
 |false=>simp
 |true=>exact⟨fun h1=>⟨rfl,h.1 h1⟩,fun h1=>h.2 h1.2⟩
theorem Fa(a:Wh)(ha:a.ok):FP 73 [a.av] (i64 a.z.sign):=by
 obtain⟨e1,e2,e3⟩:=Mq ha;refine ak func73 ?_;refine gc (kr a ha) ?_;refine gl ?_;refine gC (fun z=>?_) (fun z=>?_)
 ·have h0 : a.m.length = 0 := by simpa [aa] using z
  refine ah ?_;rw[e1 h0];rfl
 have h0:a.m.length≠0:=by simpa[aa]using z
 refine gC (fun z=>?_) (fun z=>?_)
 ·refine ah ?_;rw[e2 h0 z];rfl
 refine ah ?_;rw[e3 h0 z];rfl
theorem aa6(a b:Wh)(ha:a.ok)(hb:b.ok):FP 204 [a.av,b.av] (i64 (ig a.z b.z)):=by
 refine ak func204 ?_;refine gc (Fa a ha) ?_;refine gc (Fa b hb) ?_;refine gD ?_;refine gC (fun z=>?_) (fun z=>?_)
 ·have h0 : a.z.sign ≠ b.z.sign := by simpa [aa] using z
  obtain⟨e1,e2⟩:=ZC h0;refine gC (fun z=>?_) (fun z=>?_)
  ·have h1 : a.z.sign < b.z.sign := by simpa [aa] using z
   refine ah ?_;rw[e1 h1];rfl
  have h1:¬a.z.sign<b.z.sign:=by simpa[aa]using z
  refine ah ?_;rw[e2 h1];rfl
 have h0:a.z.sign=b.z.sign:=by simpa[aa]using z
 have e1:=XM h0;refine gc (kr a ha) ?_;refine gc (kr b hb) ?_;refine gc (Em a.m b.m (Wh.ws ha) (Wh.ws hb) a.nz b.nz) ?_;refine gD ?_;refine gc (jB a ha) ?_;refine gC (fun z=>?_) (fun z=>?_)
 ·rw[z,ait rfl]at e1;refine gs (yr (.tmp rfl) rfl) ?_;refine ah ?_;rw[e1];split
  ·rfl
  ·split <;> rfl
 rw[z,ais Bool.false_ne_true]at e1;refine ah ?_
 first |(rw[e1];done) |(rw[e1];rfl)
theorem Sy(a:Wh)(ha:a.ok)(la:a.mag.length<aw):FP 118 [a.av] (zA (-a.z)):=by
 refine ak func118 ?_;refine gc (jB a ha) ?_;refine gc (kr a ha) ?_;refine gc (kt _ a.m (Wh.ws ha) (aea (Wh.small ha la))) ?_;refine gD ?_;refine ah ?_;rw[Wh.z_eq,<- IS];rfl
theorem Yb(a b:Wh)(ha:a.ok)(hb:b.ok)(la:a.mag.length+b.mag.length<=aw):FP 117 [a.av,b.av] (zA (a.z*b.z)):=by
 have h1:=Wh.m_le (w:=a);have h2:=Wh.m_le (w:=b);have h3:(ofNat (val a.m*val b.m)).length<=a.m.length+b.m.length:=ft (by rw[ail];exact ad4 (bF _ (Wh.ws ha)) (bF _ (Wh.ws hb)));refine ak func117 ?_;refine gc (jB a ha) ?_;refine gc (jB b hb) ?_;refine gc (kr a ha) ?_;refine gc (kr b hb) ?_;refine gc (ab0 a.m b.m (Wh.ws ha) (Wh.ws hb) oz) ?_;refine gc (kt _ _ (cT _) oz) ?_;refine gD ?_;refine ah ?_;rw[bI,Hz];rfl
theorem Zh(a b:Wh)(ha:a.ok)(hb:b.ok)(la:a.mag.length<aw)(lb:b.mag.length<aw):FP 116 [a.av,b.av] (zA (a.z+b.z)):=by
 have h1:=Wh.m_le (w:=a);have h2:=Wh.m_le (w:=b);have pU:val a.m<4294967296^(max a.m.length b.m.length):=ah2 (bF _ (Wh.ws ha)) (ad8 oz oz);have fK:val b.m<4294967296^(max a.m.length b.m.length):=ah2 (bF _ (Wh.ws hb)) (ad8 oz oz);have h3:(ofNat (val a.m+val b.m)).length<=max a.m.length b.m.length+1:=ft (by rw[ado];omega);have h4:(ofNat (val a.m-val b.m)).length<=max a.m.length b.m.length:=ft oz;have h5:(ofNat (val b.m-val a.m)).length<=max a.m.length b.m.length:=ft oz;refine ak func116 ?_;refine gc (kr a ha) ?_;refine gc (kr b hb) ?_;refine gD ?_;refine gc (jB a ha) ?_;refine gc (jB b hb) ?_;refine gD ?_;refine gC (fun z=>?_) (fun z=>?_)
 ·have h0 : a.n = b.n := by simpa using z
  refine gc (jB a ha) ?_;refine gc (H5 a.m b.m (Wh.ws ha) (Wh.ws hb) oz oz) ?_;refine gc (kt _ _ (cT _) oz) ?_;refine ah ?_;rw[bI,N9 h0];rfl
 have h0:a.n≠b.n:=by simpa using z
 refine gc (Em a.m b.m (Wh.ws ha) (Wh.ws hb) a.nz b.nz) ?_;refine gC (fun t23=>?_) (fun t23=>?_)
 ·have h6:val b.m<=val a.m:=by
   rcases ahq (val a.m) (val b.m)with h |h
   ·rw[ait h]at t23;cases t23
   ·exact h
  refine gc (jB a ha) ?_;refine gc (D4 a.m b.m (Wh.ws ha) (Wh.ws hb) oz (by rcases ahq a.m.length b.m.length with h |h;(have:=wg (Wh.ws ha) b.nz h;omega);exact h) h6) ?_;refine gc (kt _ _ (cT _) oz) ?_;refine ah ?_;rw[bI,D0 h0 h6];rfl
 have h6:val a.m<val b.m:=by
  rcases ahq (val a.m) (val b.m)with h |h
  ·exact h
  ·rw[ais oz]at t23;split at t23 <;> cases t23
 refine gc (jB b hb) ?_;refine gc (D4 b.m a.m (Wh.ws hb) (Wh.ws ha) oz (by rcases ahq b.m.length a.m.length with h |h;(have:=wg (Wh.ws hb) a.nz h;omega);exact h) oz) ?_;refine gc (kt _ _ (cT _) oz) ?_;refine ah ?_;rw[bI,IP h0 oz];rfl
theorem Kg(a b:Wh)(ha:a.ok)(hb:b.ok)(la:a.mag.length<aw)(lb:b.mag.length<aw):FP 119 [a.av,b.av] (zA (af1 a.z b.z)):=by
 refine ak func119 ?_;refine gc (kr a ha) ?_;refine gc (kr b hb) ?_;refine gD ?_;refine fH [4] [4] (fun(x y:List Nat)=>[pP 5 (ws x),pP 6 (ws y)]) (fun _ _=>[]) (fun x y=>Ws x/\Ws y/\Nz x/\Nz y/\x.length<aw/\y.length<aw/\aed (val x) (val y)=af1 a.z b.z) (fun _ y=>val y) a.m b.m ⟨Wh.ws ha,Wh.ws hb,a.nz,b.nz,Wh.small ha la,Wh.small hb lb,by rw[af1,Wh.abs,Wh.abs]⟩ ?_;rintro x y ⟨wx,wy,nx,ny,lx,ly,hg⟩ K1 J1;refine gl ?_;refine gC (fun t15=>?_) (fun t15=>?_)
 ·have hy : y ≠ [] := by intro h; subst h; simp [aa] at t15
  have hy0:=qJ ny hy;have hm:=adn (val x) hy0;refine gc (KB x y wx wy nx ny hy lx ly) ?_;exact fE J1 y (ofNat (val x%val y)) ⟨wy,cT _,ny,sj _,ly,aic (ft (Nat.lt_trans hm (bF y wy))) ly,by rw[bI,<- hg,adj (val x) (val y),adj (val y) (val x%val y)];exact(Nat.gcd_rec _ _).symm⟩ (by show val (ofNat _)<val y;rw[bI];exact hm)
 have hy:y=[]:=by
  cases y with
  |nil=>rfl
  |cons c l=>simp[aa]at t15
 subst hy;have hg':val x=af1 a.z b.z:=by rw[<- hg];simp[val]
 refine gc (kt false x wx (aea lx)) ?_;refine ah ?_;rw[hg'];rfl
theorem WH(a b:Wh)(ha:a.ok)(hb:b.ok)(la:a.mag.length+1<aw)(lb:b.mag.length<aw)(h0:b.z≠0):FP 120 [a.av,b.av] (.tup [zA (a.z/b.z),zA (a.z%b.z),.v .nilIface]):=by
 have f0:=Wh.m_le (w:=a);have jJ:=Wh.m_le (w:=b);have bn:val b.m≠0:=by have:=Wh.abs (w:=b);omega
 have a8:b.m≠[]:=fun h=>bn (by rw[h];rfl)
 have pM:(ofNat (val a.m/val b.m)).length<=a.m.length:=ft (aic (aeh _ _) (bF _ (Wh.ws ha)));have xg:=adn (val a.m) (show 0<val b.m by omega);have pX:(ofNat (val a.m%val b.m)).length<=b.m.length:=ft (Nat.lt_trans xg (bF _ (Wh.ws hb)));have hl3:(ofNat (val a.m/val b.m+1)).length<=a.m.length+1:=ft (by have h7:=aic (aeh (val a.m) (val b.m)) (bF _ (Wh.ws ha));rw[ado];generalize val a.m/val b.m=m at *;omega);have hl4:(ofNat (val b.m-val a.m%val b.m)).length<=b.m.length:=ft (by have:=bF _ (Wh.ws hb);omega);have ut:val [1]=1:=rfl;refine ak func120 ?_;refine gc (kr b hb) ?_;refine gl ?_;refine gC (fun z=>?_) (fun z=>?_) (st1:=(3,0));exact aiz (afp.1 (by simpa[aa]using z)) a8;refine gc (kr a ha) ?_;refine gc (KB a.m b.m (Wh.ws ha) (Wh.ws hb) a.nz b.nz a8 oz oz) ?_;refine gc (jB a ha) ?_;refine cm ?_;refine gC (fun z=>?_) (fun z=>?_)
 ·have h1:a.n = true /\ 0 < val a.m % val b.m:=AH.1 z;obtain ⟨e1,e2⟩:=HZ bn h1.1 h1.2;refine gc (H5 (ofNat (val a.m / val b.m)) [1] (cT _) (vn oz) oz (by unfold aw; simp)) ?_;refine gc (D4 b.m (ofNat (val a.m % val b.m)) (Wh.ws hb) (cT _) oz pX (by rw [bI]; omega)) ?_ (7,0);refine gW (Wk.of (sl:=[pP 2 (.ptr 2 0),pP 3 (.ptr 3 0),pP 4 (.ptr 4 0),pP 5 (.ptr 5 0),pP 8 (ws (ofNat (val a.m / val b.m + 1))),pP 9 (ws (ofNat (val b.m - val a.m % val b.m)))]) (hp:=[pP 2 (.box [bl a.neg,ws a.mag]),pP 3 (.box [bl b.neg,ws b.mag]),pP 4 (.box [.v (.bool false),nS]),pP 5 (.box [.v (.bool false),nS])]) (.k (.k (.k (.k (.cons rfl (.of (by rw [bI,ut])) (.cons rfl (.of (by rw [bI])) .nil)))))) (.k (.k (.k (.k .nil))))) ?_
  refine gc (jB a ha) ?_;refine gc (jB b hb) ?_;refine gc (by apply kt _ _ (cT _) oz) ?_;refine gc (by apply kt _ _ (cT _) oz) ?_;refine gD ?_;refine gR ?_;exact uV (by rw[bI,bI,e1,show sgn false _=_ from e2];rfl)
 have h1:¬(a.n=true/\0<val a.m%val b.m):=fun h=>agn.1 z (AH.2 h)
 obtain⟨e1,e2⟩:=Kk bn h1;refine gc (jB a ha) ?_;refine gc (jB b hb) ?_;refine gc (by apply kt _ _ (cT _) oz) ?_;refine gc (by apply kt _ _ (cT _) oz) ?_;refine gD ?_;refine gR ?_;exact uV (by rw[bI,bI,e1,show sgn false _=_ from e2];rfl)
theorem yc{N:Nat}(h:N<18446744073709551616):val [N%4294967296,N/2^32]=N:=by
 simp only[val];omega
theorem yL{N:Nat}(h:N<18446744073709551616):Ws [N%4294967296,N/2^32]:=by
 intro x hx;simp only[ah3,ahy,or_false]at hx;rcases hx with rfl |rfl <;> omega
theorem zV(n:Int)(h:-9223372036854775808<=n/\n<=9223372036854775807):FP 47 [i64 n] (zA n):=by
 obtain⟨N,hN⟩:∃N,N=n.natAbs:=⟨_,rfl⟩
 have oc:N<18446744073709551616:=by omega
 refine ak func47 ?_;refine gv (show IntKind.u64.wrap n=((n%18446744073709551616:Int)) by simp only[IntKind.wrap,IntKind.signed,IntKind.bits,agq,if_false,agv];omega) ?_;refine gC (fun z=>?_) (fun z=>?_) (st2:=(77777,0))
 ·have hn : n < 0 := by simpa [aa] using z
  refine gs (yr (.tmp rfl) rfl) ?_ (4,0);refine gW (Wk.of (sl:=[pP 0 (i64 n),pP 2 (.ptr 2 0),pP 3 (u64 N)]) (hp:=[pP 2 (.box [.v (.bool false),nS])]) (.k (.k (.cons rfl (Sub.int (by simp only[IntKind.wrap,IntKind.signed,IntKind.bits,agq,if_false,agv];omega)) .nil))) (.k .nil)) ?_;refine gv (dg _) ?_;refine gs (eW (.tmp rfl) (.const _) oz (io _ 32 oz) rfl) ?_;refine gv ((dg _).trans (by rw[ad5 (show N/2^32<4294967296 by omega)])) ?_;refine gc (kt (aa .lss n 0) [N%4294967296,N/2^32] (yL oc) (by unfold aw;simp)) ?_;refine ah ?_;rw[yc oc,show sgn (aa .lss n 0) N=n by simp only[sgn,aa,aiu];split <;> omega];rfl
 have hn:¬n<0:=by simpa[aa]using z
 refine gW (Wk.of (sl:=[pP 0 (i64 n),pP 2 (.ptr 2 0),pP 3 (u64 N)]) (hp:=[pP 2 (.box [.v (.bool false),nS])]) (.k (.k (.cons rfl (Sub.int oz) .nil))) (.k .nil)) ?_;refine gv (dg _) ?_;refine gs (eW (.tmp rfl) (.const _) oz (io _ 32 oz) rfl) ?_;refine gv ((dg _).trans (by rw[ad5 (show N/2^32<4294967296 by omega)])) ?_;refine gc (kt (aa .lss n 0) [N%4294967296,N/2^32] (yL oc) (by unfold aw;simp)) ?_;refine ah ?_;rw[yc oc,show sgn (aa .lss n 0) N=n by simp only[sgn,aa,aiu];split <;> omega];rfl
theorem BD:∀(j k v:Nat),j<=k->(aS k v).take j=aS j v
 |0,_,_,_=>by simp[aS]
 |j+1,0,_,h=>by omega
 |j+1,k+1,v,h=>by
  rw[aS,aS,List.take_succ_cons,BD j k _ oz]
theorem KH{m:List Nat}(h:Ws m):(ofNat (val m)).length<=m.length:=ft (bF m h)
theorem JF{m:List Nat}(h:Ws m):m.take (ofNat (val m)).length=ofNat (val m):=by
 have h1:=w9 m h;have h2:=w9 (ofNat (val m)) (cT _);rw[bI]at h2;have h3:=BD _ _ (val m) (KH h);rw[<- h1,<- h2]at h3;exact h3
theorem Mu{m:List Nat}{n:Nat}(h:Ws m)(hn:n<=m.length)(hv:val (m.take n)=val m)(h0:n=0\/aj m (n-1)≠0):n=(ofNat (val m)).length:=by
 have h1:m.take n=ofNat (val m):=by
  refine GZ (gO h n) ?_ hv;intro x hx;rcases h0 with h0 |h0
  ·subst h0;simp at hx
  ·have k9 : n ≠ 0 := by intro h3; subst h3; simp at hx
   rw[ae6,ah5,adi hn,aie,ait oz,jQ oz]at hx;cases hx;exact h0
 rw[<- h1,ah5,adi hn]
theorem Br(l:List Nat)(i:Nat):val l=val (l.take i)+4294967296^i*val (l.drop i):=by
 rcases ahq i l.length with h |h
 ·exact DO oz
 ·rw[eO h,aib h];simp[val]
theorem wL(l:List Nat)(i:Nat):val (l.drop i)=aj l i+4294967296*val (l.drop (i+1)):=by
 rcases ahq i l.length with h |h
 ·exact sf h
 ·rw[tt h,aib h,aib oz];rfl
theorem NA{a b:List Nat}{i:Nat}(ha:Ws a)(he:val (a.drop (i+1))=val (b.drop (i+1)))(hx:aj a i<aj b i):val a<val b:=by
 rw[Br a (i+1),Br b (i+1),he];have:=Ki ha hx;omega
theorem Tg{xs ys:List AV}(hl:xs.length=ys.length)(h1:∀(j:Nat)(y:AV),ys[j]?=some y->y.one=true)(h:∀(j:Nat)(x y:AV),xs[j]?=some x->ys[j]?=some y->Sub x y):Sub (.agg xs) (.agg ys):=by
 intro g S m v hr;cases hr with
 |agg hn h2 hr =>
  refine .agg (hn.trans hl) h1 ?_;intro j u c hu hc
  have hj:j<xs.length:=by
   rw[hl];rcases ahq j ys.length with h |h
   ·exact h
   ·rw[aht h]at hc;cases hc
  exact h j _ c (ahm hj) hc _ _ _ _ (hr j u _ hu (ahm hj))
theorem XF:Sub (.agg [.v (.bool false),.v (.slice none 0 0)]) (zA 0):=by
 show Sub (.agg [.v (.bool false),.v (.slice none 0 0)]) (.agg [bl false,ws []]);refine Tg rfl ?_ ?_
 ·intro j y hy
  match j,hy with
  |0,hy=>cases hy;rfl
  |1,hy=>cases hy;rfl
 ·intro j x y hx hy
  match j,hx,hy with
  |0,hx,hy=>cases hx;cases hy;exact Sub.refl _
  |1,hx,hy=>cases hx;cases hy;exact Sub.nil _ _ _
theorem M1{out:List Nat}{i x:Nat}(h:out.length=i):val (out++[x])=val out+4294967296^i*x:=by
 rw[tv,h];simp[val]
theorem NN{o c P x y u w:Nat}(hu:u<4294967296)(hw:w<4294967296)(hc:c<=1)(h:o+y=x+c*P) :
  (o+P*((4294967296+u-w-c)%4294967296))+(y+P*w)=(x+P*u)+(1-(4294967296+u-w-c)/2^32)*(P*4294967296):=by
 have h0:(4294967296+u-w-c)%4294967296+w+c=u+(1-(4294967296+u-w-c)/2^32)*4294967296:=by omega
 generalize(1-(4294967296+u-w-c)/2^32)=q at *;generalize(4294967296+u-w-c)%4294967296=r at *;grind
theorem Ks{a b out:List Nat}{c:Nat}(ha:Ws a)(hw:Ws out)(ho:out.length=a.length)(bA:val b<=val a)
  (h:val out+val (b.take a.length)=val (a.take a.length)+c*4294967296^a.length):val out=val a-val b:=by
 have hb:=Br b a.length;have h2:=bF a ha
 have h3:val (b.drop a.length)=0:=by
  rcases adm (val (b.drop a.length))with h4 |h4
  ·exact h4
  ·have:=ahu (4294967296^a.length) h4;omega
 rw[h3,Nat.mul_zero,aep]at hb;rw[<- hb,ahw]at h;have h1:=bF out hw;rw[ho]at h1;cases c with
 |zero=>omega
 |succ c=>rw[adp]at h;omega
theorem Nv{z:Int}{k:Nat}(h:Lz k z)(hk:k<=az):(ofInt z).ok:=⟨cT _,ah8 h.len hk⟩
theorem Lm{z:Int}{k:Nat}(h:Lz k z):(ofInt z).mag.length<=k:=h.len
theorem aar(x y:Int):(x-y).sign=ig x y:=by
 unfold ig;have h:=Ep (x-y)
 (repeat' split) <;> omega
theorem mn(m:List Nat)(i:Nat)(hm:Ws m):FP 401 [ws m,i64 i] (u64 (aj m i)):=by
 refine ak func401 ?_;refine gl ?_;refine gC (fun z=>?_) (fun z=>?_)
 ·simp[aa]at z;have:=bu hm i;refine gi (bP (i:=i) z) ?_;refine gv (u64_in oz) ?_;refine ah ?_;rfl
 simp[aa]at z;refine ah ?_;simp[u64,tt z]
theorem ID(w:Wh)(h:w.ok):FP 372 [w.av] (bl w.valid):=by
 have hl:w.mag.length<=az:=h.2;refine ak func372 ?_;refine gl ?_;refine gC (fun z=>?_) (fun z=>?_)
 ·have h0 : w.mag = [] := by simpa [aa] using z
  refine ah ?_;simp[bl,Wh.valid,h0]
 have h0:w.mag.length≠0:=by simpa[aa]using z
 refine gl ?_;refine ga (gM oz oz) ?_;refine gi (bP (i:=w.mag.length-1) oz) ?_;refine ah ?_;have h1:w.mag≠[]:=fun h=>h0 (by rw[h];rfl)
 simp only[bl,Wh.valid,ais h1,ae6,jQ (show w.mag.length-1<w.mag.length by omega),aa];congr 2;generalize aj w.mag _=x;rw[ags];simp
theorem lP(w:Wh)(h:w.ok):FP 303 [w.av] (ws w.m):=by
 refine ak func303 ?_;refine gc (ID w h) ?_;refine gC (fun z=>?_) (fun z=>?_)
 ·have h0 : w.valid = false := by simpa [aa] using z
  refine gR ?_;exact mb (by rw[show w.m=[] by simp[Wh.m,h0]];exact Sub.nil _ _ _)
 have h0:w.valid=true:=by simpa[aa]using z
 refine ah ?_;simp only[Wh.m,h0];rfl
theorem jr(w:Wh)(h:w.ok):FP 301 [w.av] (bl w.n):=by
 refine ak func301 ?_;refine gc (ID w h) ?_;refine ah ?_;simp only[Wh.n,bl];cases w.valid <;> rfl
theorem Dy(d:Nat)(hd:aem d 1000=true)(m:List Nat)(hm:Ws m)(hb:m.length<=aw) :
  Con prog 365 [ws m] [] (.ms d 1 0 (ofNat (val m)).length) [(d,some (.row 1 (m.map u32)))]:=by
 have hb':=hb;unfold aw at hb;refine gF func365 (fun k z h=>by cases h) ?_;refine gs (qS T42 rfl T87 rfl rfl rfl) ?_;refine gs (eD (.tmp rfl) rfl rfl (.tmp rfl) T42 rfl T87 rfl rfl (by simp only[ahk];omega) rfl rfl) ?_;refine aL [] [6] (fun(n:Nat)=>[pP 3 (.ms 6 1 0 n)]) (fun _=>[]) (fun n=>n<=m.length/\val (m.take n)=val m) (fun n=>n) m.length ⟨ahr _,by rw[ahw]⟩ ?_ (h1:=(.cons rfl (.of (by rw[ahk,aeg])) .nil));rintro n ⟨hn,hv⟩ K1 J1;refine kD (fun h=>(gM (by simp[aa]at h;omega) (by unfold az;omega))) ?_;refine gs (fT rfl rfl rfl (fun h=>br (n:=n-1) (.opt rfl (o1 h)) (.opt rfl (o1 h)) T42 rfl T87 rfl oz (by simp[aa]at h;omega) rfl)) ?_;refine gs (fT rfl rfl rfl (fun h=>dx (.opt rfl (o1 h)) rfl (bP (i:=n-1) (by simp[aa]at h;omega)) T87 rfl rfl rfl)) ?_;refine gC (fun t18=>?_) (fun t18=>?_)
 ·have t18 : 0 < n /\ aj m (n - 1) = 0 := by simpa [aa] using t18
  refine ga (gM oz (by unfold az;omega)) ?_;refine gs (qN (.tmp rfl) (.none _) (.some _ (.tmp rfl) oz) T42 rfl T87 rfl oz oz rfl) ?_;exact aE J1 (n-1) ⟨by omega,by have h:=@cU m (n-1);rw[show n-1+1=n by omega,t18.2]at h;simp at h;omega⟩ (hw:=Wk.of (.cons rfl (.of (by congr 1)) .nil) (.k .nil))
 have t18:0<n->aj m (n-1)≠0:=by simpa[aa]using t18
 have iR:=Mu hm hn hv (by rcases adm n with h |h;(exact .inl h);exact .inr (t18 h));subst iR;refine gR ?_;exact aI.own1 rfl hd rfl
theorem sZ(m:List Nat)(hm:Ws m)(hb:m.length<=aw):FP 365 [ws m] (ws (ofNat (val m))):=by
 have h:=Con.freeze (by rw[ahk,aeg];exact KH hm) (Dy 0 rfl m hm hb)
 rwa [aim,<- map_take,JF hm]at h
theorem kK(b:Bool)(m:List Nat)(hm:Ws m)(hb:m.length<=aw):FP 282 [bl b,ws m] (zA (sgn b (val m))):=by
 refine ak func282 ?_;refine gc (sZ m hm hb) ?_;refine gl ?_;refine gC (fun t9=>?_) (fun t9=>?_)
 ·have h0:val m=0:=by
   have:=bI (val m);have h9:ofNat (val m)=[]:=afp.1 (by simpa[aa]using t9);rw[h9]at this;exact this.symm
  refine gR ?_;exact mb (by rw[h0,show sgn b 0=0 by cases b <;> rfl];exact XF)
 have h0:val m≠0:=by
  intro h;rw[h]at t9;cases t9
 refine ah ?_
 rw[show zA (sgn b (val m))=.agg [bl b,ws (ofNat (val m))] by
  unfold zA ofInt Wh.av;rw[show(sgn b (val m)).natAbs=val m by unfold sgn;split <;> omega,show decide (sgn b (val m)<0)=b by cases b <;> simp[sgn] <;> omega]]
theorem BO(a b:List Nat)(ha:Ws a)(hb:Ws b):FP 370 [ws a,ws b] (i64 (if val a<val b then -1 else if val b<val a then 1 else 0)):=by
 refine ak func370 ?_ (0,0);refine uK (t:=0) rfl (fun pU=>?_);refine uK (t:=1) rfl (fun fK=>?_);unfold az at pU fK;refine go ?_;refine gl ?_;refine gl ?_;refine gs (ri (.tmp rfl) (.tmp rfl) rfl) ?_;refine ga (el oz) ?_;refine aL [0,1] [] (fun(n:Nat)=>[pP 5 (i64 ((n:Int)-1))]) (fun _=>[]) (fun n=>n<=281474976710656/\val (a.drop n)=val (b.drop n)) (fun n=>n) (max a.length b.length) ⟨by omega,by rw[aib oz,aib oz]⟩ ?_ (h1:=(.cons rfl (Sub.int oz) .nil));rintro n ⟨hn,hd⟩ K1 J1;refine gC (fun z=>?_) (fun z=>?_)
 ·have k9 : 1 <= n := by have := z; simp [aa] at this; omega
  obtain⟨k,rfl⟩:∃k,n=k+1:=⟨n-1,by omega⟩
  have hk:((k+1:Nat):Int)-1=(k:Int):=by omega
  rw[hk];refine gc (mn a k ha) ?_;refine gc (mn b k hb) ?_;refine gC (fun z=>?_) (fun z=>?_)
  ·have h3 : aj a k ≠ aj b k := by simpa [aa, af3] using z
   refine gc (mn a k ha) ?_;refine gc (mn b k hb) ?_;refine gC (fun z=>?_) (fun z=>?_)
   ·have h4 : aj a k < aj b k := by simpa [aa] using z
    have h5:=NA ha hd h4;refine ah ?_;simp[i64,h5]
   have h4:aj b k<aj a k:=by have:aj b k<=aj a k:=(by simpa[aa]using z);omega
   have h5:=NA hb hd.symm h4;refine ah ?_;simp[i64,h5,Nat.lt_asymm h5]
  have h3:aj a k=aj b k:=by simpa[aa,af3]using z
  refine ga (el oz) ?_;exact aE J1 k ⟨by omega,by rw[wL a,wL b,hd,h3]⟩
 have k9:n=0:=by have:=z;simp[aa]at this;omega
 subst k9;refine ah ?_;simp at hd;simp[i64,hd]
end Go.Lw
