/- WholeCam: for any cam, shift and position whose reading holds at most 1048576 values the law returns true and leaves its arguments as they were. No other condition. Part 3 of 7: what the later parts need -/
import Derived.Test.YtikogaemdeibaaaGreatXb
set_option linter.unusedVariables false
open List (drop_drop map_take)
open List renaming mem_of_getElem? → ZR, mem_cons_of_mem → Z8, mem_append → ZY, mem_cons → aai, length_cons → Z7, mem_cons_self → aaa, length_nil → aan, getD_eq_getElem?_getD → ZS, getElem?_eq_none → Z5, all_eq_true → Z6, getElem?_take → aak, getElem?_map → ZZ, append_assoc → aay, getElem?_eq_getElem → ZV, drop_eq_nil_of_le → aal, map_append → aas, length_take → aao, take_of_length_le → aag, length_map → ZU, drop_zero → aax, take_length → aab, map_replicate → aau, map_set → aaw, not_mem_nil → aap, drop_eq_getElem_cons → Yd, mem_of_mem_take → Yk, take_take → Yn, length_eq_zero_iff → Yo, mem_map → Yr, getElem?_eq_some_iff → YA, getLast?_eq_getElem? → YF, mem_of_mem_drop → YI, length_eq_one_iff → YJ, nil_append → YK, length_pos_iff → YL, take_append_of_le_length → YM, take_append_drop → YN, replicate → YO, mem_range → YR
open Nat renaming eq_of_beq_eq_true → ZT, le_refl → Z0, lt_of_lt_of_le → Z9, lt_or_ge → Z2, le_trans → aaj, mul_le_mul_right → aad, mul_le_mul_left → Z4, zero_le → aaf, pow_add → aat, lt_of_le_of_lt → aam, mod_eq_of_lt → Xr, pow_le_pow_right → Xt, le_of_lt → Xu, le_of_dvd → Xv, pow_pos → Xx, mul_add → Xy, add_mul_mod_self_left → Xz, eq_zero_or_pos → XC, succ_mul → XD, div_eq_of_lt → XE, zero_add → XF, div_div_eq_div_mul → XI, mul_assoc → XJ, beq → XK, sub_add_cancel → XL, div_lt_iff_lt_mul → XM, add_mul → XN, gcd_comm → XO, mul_lt_mul'' → XQ, pow_mul → XR, add_mul_div_left → XT, blt → XU, le_div_iff_mul_le → XV, add_zero → XW, div_le_self → XX, mul_div_cancel_left → XY, mul_le_mul → XZ, pow_succ → X0, mul_lt_mul_left → X1, gcd → X3, lt_of_mul_lt_mul_left → X5, mul_comm → X6, min_eq_left → X7, mod_lt → X8, div_add_mod → X9
open Bool renaming and_eq_true → ZW, false_eq_true → Zm, eq_false_iff → Zn, false_and → Zo, eq_iff_iff → Zq
open Array renaming getD_eq_getD_getElem? → Z1, length_toList → ZI, getElem?_toList → ZM
open Int renaming natAbs_natCast → aaq, sign_trichotomy → YW, gcd_pos_of_ne_zero_left → YX, sign_eq_one_iff_pos → YY, sign_eq_neg_one_iff_neg → YZ, lt_trichotomy → Y0, mul_ne_zero → Y1, natAbs_mul → Y2, natCast_nonneg → Y3, ofNat_inj → Y4, sign_nonneg_iff → Y5, natCast_ediv → Y6, sign_eq_zero_iff_zero → Y7, gcd → Y8, gcd_dvd_natAbs_left → Za
open Rat renaming divInt → Zd, num_eq_zero → Ze, le_refl → Zf, num_divInt_den → Zg, zero_divInt → Zh, sub_eq_add_neg → Zj
open Go renaming Operand → abb, Value → abc, TypeId → abd, Program → abe
open Go.Proofs.Tryz
namespace Go.Lw
def aD:Nat->Nat->List Nat
  |0,_=>[]
  |k+1,v=>v%4294967296::aD k (v/4294967296)
theorem dz:∀k v,(aD k v).length=k
 |0,_=>rfl
 |k+1,v=>by simp[aD,dz k]
theorem iB:∀k v,Ws (aD k v)
 |0,_=>qj
 |k+1,v=>by
  intro x hx;rcases aai.1 hx with h |h
  ·omega
  ·exact iB k _ x h
theorem jX:∀k v,v<4294967296^k->val (aD k v)=v
 |0,v,h=>by simp at h;subst h;rfl
 |k+1,v,h=>by
  rw[X0]at h;simp only[aD,val];rw[jX k _ oz];omega
theorem rF:∀(l:List Nat),Ws l->l=aD l.length (val l)
 |[],_=>rfl
 |x::l,h=>by
  have hx:=h x (by simp);have ih:=rF l (fun y hy=>h y (by simp[hy]));simp only[Z7,aD,val];rw[show(x+4294967296*val l)%4294967296=x by omega,show(x+4294967296*val l)/4294967296=val l by omega,<- ih]
theorem uZ{l:List Nat}{k v:Nat}(h:Ws l)(hk:l.length=k)(hv:val l=v):l=aD k v:=by
 subst hk;subst hv;exact rF l h
theorem uC{l:List Nat}(h:Ws l)(i:Nat)(hi:i<=l.length):val l/4294967296^i=val (l.drop i):=by
 rw[ry l i,X7 hi];have h1:=bg (l.take i) (eJ h i);rw[aao,X7 hi]at h1;rw[XT _ _ oz,XE h1,XF]
theorem vp{n k:Nat}(h:n<=k):2^k=2^(k-n)*2^n:=by rw[<- aat];congr 1;omega
theorem PO{x w n:Nat}(hn:n<32)(hw:w<2^n):w ||| x*2^n%4294967296=w+x*2^n%4294967296:=by
 have h1:x*2^n%4294967296=(x%2^(32-n))*2^n:=by
  rw[show 4294967296=2^32 from rfl,vp (show n<=32 by omega),Nat.mul_mod_mul_right]
 rw[h1];exact zK hw
theorem Mh{x n:Nat}(hx:x<4294967296):x*2^n/4294967296<2^n:=by
 rw[XM oz,X6];exact Nat.mul_lt_mul_of_pos_left hx (Xx oz)
theorem m8{n k:Nat}(h:n<=k):2^n<=2^k:=Xt oz h
theorem Ra{x w n:Nat}(hn:n<32)(hw:w<2^n):w+x*2^n%4294967296<4294967296:=by
 have h1:x*2^n%4294967296=(x%2^(32-n))*2^n:=by
  rw[show 4294967296=2^32 from rfl,vp (show n<=32 by omega),Nat.mul_mod_mul_right]
 have h2:x%2^(32-n)+1<=2^(32-n):=X8 _ (Xx oz);have h3:=aad (2^n) h2;rw[<- vp (show n<=32 by omega),XN]at h3;omega
theorem Of{a out:List Nat}{i n:Nat}(hi:i+1<out.length)(h:val (out.take (i+1))=2^n*val (a.take i)) :
  val (((out.set i (ah out i+ah a i*2^n%4294967296)).set (i+1) (ah a i*2^n/4294967296)).take (i+1+1))=2^n*val (a.take (i+1)):=by
 rw[jJ (by simpa using hi),jJ oz,bY (l:=a)];rw[bY]at h;have:=X9 (ah a i*2^n) 4294967296;generalize ah a i*2^n%4294967296=r at *;generalize ah a i*2^n/4294967296=q at *;rw[X0];grind
theorem Tq{a:List Nat}{i n:Nat}(h:Ws a)(hi:i<a.length)(hn:n<=32) :
  (ah a i+ah a (i+1)*2^32)/2^n%4294967296=(val a/2^n/4294967296^i)%4294967296:=by
 rw[XI,X6 (2^n),<- XI,uC h i oz,oe hi]
 have h1:val (a.drop (i+1))=ah a (i+1)+4294967296*val (a.drop (i+2)):=by
  rcases Z2 (i+1) a.length with h |h
  ·exact oe h
  ·rw[o5 h,aal oz,aal oz];rfl
 rw[h1];generalize val (a.drop (i+2))=R
 have h2:ah a i+4294967296*(ah a (i+1)+4294967296*R)=(ah a i+ah a (i+1)*2^32)+2^n*(2^(32-n)*R*4294967296):=by
  have h3:=vp hn;rw[show(2:Nat)^n*(2^(32-n)*R*4294967296)=(2^(32-n)*2^n)*R*4294967296 by grind,<- h3];omega
 rw[h2,XT _ _ (Xx oz),Nat.add_mul_mod_self_right]
theorem CD{a out:List Nat}{i n:Nat}(h:Ws a)(hi:i<a.length)(ho:i<out.length)(hn:n<=32)(hv:val (out.take i)=val a/2^n%4294967296^i) :
  val ((out.set i ((ah a i+ah a (i+1)*2^32)/2^n%4294967296)).take (i+1))=val a/2^n%4294967296^(i+1):=by
 rw[jJ ho,Tq h hi hn,X0,Nat.mod_mul,hv]
theorem Mn{a out:List Nat}{n:Nat}(h:Ws a)(ho:out.length=a.length)(hv:val (out.take a.length)=val a/2^n%4294967296^a.length):val out=val a/2^n:=by
 rw[dk oz]at hv;rw[hv,Xr];exact aam (XX _ _) (bg a h)
theorem QR{a o:List Nat}{i r w:Nat}(hi:i<a.length)(ho:i<o.length)(h:val (a.drop (i+1))=w*val (o.drop (i+1))+r) :
  val (a.drop i)=w*val ((o.set i ((r*2^32+ah a i)/w)).drop i)+(r*2^32+ah a i)%w:=by
 rw[GN ho,oe hi,h];have:=X9 (r*2^32+ah a i) w;generalize(r*2^32+ah a i)%w=r' at *;generalize(r*2^32+ah a i)/w=q at *;grind
theorem Nx{r w x:Nat}(hr:r<w)(hx:x<4294967296):(r*2^32+x)/w<4294967296:=by
 rw[XM oz];have:=Z4 4294967296 (show r+1<=w from hr);omega
theorem vG{a q w r:Nat}(h:a=w*q+r)(hr:r<w):a/w=q/\a%w=r:=by
 subst h;rw[Nat.mul_add_div oz,Nat.mul_add_mod,XE hr,Xr hr];simp
theorem PP{l:List Nat}{i x:Nat}(h:i<l.length):ah (l.set i x) i=x:=by simp[ah,h]
theorem aM.own2{s:AS}{k:Nat}{y z:Blk}{x r:AV}(h:lk s.hp k=some y)(hz:y=z)(hx:x=r):aM s x r [(k,some z)]:=by
 subst hz;subst hx
 refine aM.keep ?_;intro k' z' h';rw[aq]at h';split at h'
 ·rename_i e;cases h';rw[e];exact h
 ·cases h'
def aL(u:List Nat)(j n:Nat):List Nat:=(u.drop j).take n
def wr(u:List Nat)(j:Nat)(l:List Nat):List Nat:=u.take j++l++u.drop (j+l.length)
theorem zQ{u o:List Nat}{j n:Nat}(h1:o.take j=u.take j)(h2:o.drop (j+n)=u.drop (j+n))(hn:j+n<=o.length):o=wr u j (aL o j n):=by
 have hl:(aL o j n).length=n:=by simp[aL];omega
 unfold wr;rw[hl,<- h1,<- h2]
 conv=>lhs;rw[<- YN j o]
 rw[aay];congr 1;unfold aL
 conv=>lhs;rw[<- YN n (o.drop j)]
 rw[drop_drop]
theorem kO{u l:List Nat}{j:Nat}(h:j+l.length<=u.length):(wr u j l).length=u.length:=by simp[wr];omega
theorem vr{a b:List Nat}(ha:Ws a)(hb:Ws b):Ws (a++b):=fun x hx=>(ZY.1 hx).elim (ha x) (hb x)
theorem DG{l:List Nat}(h:Ws l)(n:Nat):Ws (l.drop n):=fun x hx=>h x (YI hx)
theorem lO{l:List Nat}(h:Ws l)(i n:Nat):Ws (aL l i n):=eJ (DG h i) n
theorem oi{u l:List Nat}{j:Nat}(hu:Ws u)(hl:Ws l):Ws (wr u j l):=vr (vr (eJ hu _) hl) (DG hu _)
theorem nu{u:List Nat}{j n:Nat}(h:j+n<=u.length):(aL u j n).length=n:=by simp[aL];omega
theorem QK{u l:List Nat}{j:Nat}(h:j+l.length<=u.length):val ((wr u j l).drop j)=val l+4294967296^l.length*val (u.drop (j+l.length)):=by
 unfold wr;rw[aay,List.drop_append_of_le_length (by simp;omega),aal (by simp;omega),YK,oW]
theorem Ge{u:List Nat}{j n:Nat}(h:j+n<=u.length):val (u.drop j)=val (aL u j n)+4294967296^n*val (u.drop (j+n)):=by
 rw[ry (u.drop j) n,drop_drop,X7 (by simp;omega)];rfl
theorem wA{u:List Nat}{j:Nat}(h:j<=u.length):val u=val (u.take j)+4294967296^j*val (u.drop j):=by
 rw[ry u j,X7 h]
theorem Hv{u l:List Nat}{j:Nat}(h:j<=u.length):(wr u j l).take j=u.take j:=by
 unfold wr;rw[aay,YM (by simp;omega),aag (by simp;omega)]
theorem Ku{u l:List Nat}{j:Nat}(h:j<=u.length):(wr u j l).drop (j+l.length)=u.drop (j+l.length):=by
 unfold wr;rw[List.drop_append,aal (by simp;omega)];simp[X7 h]
theorem tY{l:List Nat}{j i:Nat}:ah (l.drop j) i=ah l (j+i):=by simp[ah]
theorem oV{u o:List Nat}{k:Nat}(h:o.drop k=u.drop k):ah o k=ah u k:=by
 have h1:=tY (l:=o) (j:=k) (i:=0);have h2:=tY (l:=u) (j:=k) (i:=0);rw[h]at h1;simpa using h1.symm.trans h2
theorem qu{u o:List Nat}{k x:Nat}(h:o.drop k=u.drop k):(o.set k x).drop (k+1)=u.drop (k+1):=by
 rw[List.drop_set_of_lt oz];have h1:(o.drop k).drop 1=(u.drop k).drop 1:=by rw[h]
 rwa [drop_drop,drop_drop]at h1
theorem EN{o:List Nat}{j i x:Nat}(h:j+i<o.length):val (aL (o.set (j+i) x) j (i+1))=val (aL o j i)+4294967296^i*x:=by
 unfold aL;rw[List.drop_set,aa1 oz,Nat.add_sub_cancel_left,jJ (by simp;omega)]
theorem DE{u:List Nat}{j i:Nat}:val (aL u j (i+1))=val (aL u j i)+4294967296^i*ah u (j+i):=by
 unfold aL;rw[bY,tY]
theorem Kf{lo c P n V w:Nat}(h:lo+c*P=n*V):(lo+P*((c+n*w)%4294967296))+((c+n*w)/4294967296)*(P*4294967296)=n*(V+P*w):=by
 have:=X9 (c+n*w) 4294967296;generalize(c+n*w)%4294967296=r at *;generalize(c+n*w)/4294967296=q at *;grind
def iP(n V W len:Nat):Nat:=if n*V<=W then W-n*V else W+4294967296^len-n*V
theorem P6{u o v:List Nat}{off len n c b lo:Nat}(hu:Ws u)(ho:Ws o)(hl:o.length=u.length)(hj:off+len<=u.length)(hv:Ws v)(jt:v.length+1<=len)(hn:n<4294967296)
  (h1:o.take off=u.take off) (h2:o.drop (off+len)=u.drop (off+len)) (hb:b<=1) (h3:lo+c*4294967296^len=n*val (v.take len))
  (h4:val (aL o off len)+lo=val (aL u off len)+b*4294967296^len) :
  o=wr u off (aD len (iP n (val v) (val (aL u off len)) len))/\(b=1↔val (aL u off len)<n*val v):=by
 rw[dk oz]at h3
 have hV:n*val v<4294967296^len:=by
  have h5:=bg v hv;have h6:4294967296^(v.length+1)<=4294967296^len:=Xt oz jt;rw[X0,X6]at h6;exact Z9 (XQ hn h5) h6
 have hc:c=0:=by
  cases c with
  |zero=>rfl
  |succ c=>rw[XD]at h3;omega
 subst hc;rw[Nat.zero_mul,XW]at h3;subst h3;have ho':=bg (aL o off len) (lO ho _ _);have hu':=bg (aL u off len) (lO hu _ _);rw[nu oz]at ho' hu';have hb':b=0\/b=1:=by omega
 refine⟨?_,?_⟩
 ·have h7:aL o off len=aD len (iP n (val v) (val (aL u off len)) len):=by
   refine uZ (lO ho _ _) (nu oz) ?_;unfold iP;rcases hb' with rfl |rfl
   ·rw[aa2 oz];omega
   ·rw[aa1 oz];omega
  rw[<- h7];exact zQ h1 h2 oz
 ·rcases hb' with rfl |rfl <;> omega
theorem NW{u o v:List Nat}{off len c:Nat}(ho:Ws o)(hl:o.length=u.length)(hj:off+len<=u.length)(jt:v.length<=len)
  (h1:o.take off=u.take off) (h2:o.drop (off+len)=u.drop (off+len)) 
  (h4:val (aL o off len)+c*4294967296^len=val (aL u off len)+val (v.take len)) :
  o=wr u off (aD len ((val (aL u off len)+val v)%4294967296^len)):=by
 rw[dk oz]at h4;have ho':=bg (aL o off len) (lO ho _ _);rw[nu oz]at ho'
 have h7:aL o off len=aD len ((val (aL u off len)+val v)%4294967296^len):=by
  refine uZ (lO ho _ _) (nu oz) ?_;rw[<- h4,Nat.add_mul_mod_self_right,Xr ho']
 rw[<- h7];exact zQ h1 h2 oz
def ax(x:Nat):Nat:=if x=0 then 0 else x.log2+1
theorem gV{x:Nat}(h:x<256):IntKind.u8.wrap (x:Int)=(x:Int):=by
 simp only[IntKind.wrap,IntKind.signed,IntKind.bits,Zo,if_false,Zm];omega
theorem tT{x:Nat}:x<2^ax x:=by
 unfold ax;split
 ·next h=>subst h;decide
 ·exact Nat.lt_log2_self
theorem sU{x:Nat}(h:x≠0):2^(ax x-1)<=x:=by
 unfold ax;rw[aa1 h,Nat.add_sub_cancel];exact Nat.log2_self_le h
theorem NG{x k:Nat}(h1:2^k<=x)(h2:x<2^(k+1)):ax x=k+1:=by
 have hx:x≠0:=by intro h;subst h;have:=Xx (n:=k) (show 0<2 by omega);omega
 unfold ax;rw[aa1 hx,(Nat.log2_eq_iff hx).2 ⟨h1,h2⟩]
theorem qQ{x k:Nat}(h:2^k<=x):ax x=k+ax (x/2^k):=by
 have h0:x/2^k≠0:=by
  have:=Nat.div_pos h (Xx oz);omega
 have h1:=sU h0;have h2:=tT (x:=x/2^k);have h3:1<=ax (x/2^k):=by unfold ax;rw[aa1 h0];omega
 generalize ax (x/2^k)=m at *;obtain⟨n,rfl⟩:∃n,m=n+1:=⟨m-1,by omega⟩
 rw[Nat.add_sub_cancel]at h1;rw[XV (Xx oz),<- aat]at h1;rw[XM (Xx oz),<- aat]at h2;rw[show k+(n+1)=(n+k)+1 by omega];exact NG h1 (by rw[show n+k+1=n+1+k by omega];exact h2)
theorem zP{x:Nat}(h:x≠0)(hx:x<4294967296):ax x<=32/\1<=ax x/\2147483648<=2^(32-ax x)*x/\2^(32-ax x)*x<4294967296:=by
 have h1:=sU h;have h2:=tT (x:=x);have h3:1<=ax x:=by unfold ax;rw[aa1 h];omega
 have h4:ax x<=32:=by
  rcases Z2 32 (ax x)with h5 |h5
  ·have:2^32<=2^(ax x-1):=m8 oz;omega
  ·exact h5
 refine⟨h4,h3,?_,?_⟩
 ·have:=Z4 (2^(32-ax x)) h1;rw[<- aat,show 32-ax x+(ax x-1)=31 by omega]at this;omega
 ·have:=(X1 (a:=2^(32-ax x)) (Xx oz)).2 h2;rw[<- aat,show 32-ax x+ax x=32 by omega]at this;omega
def EB(b:ByteArray):Bool:=XK b.data.toList.length 256&&(List.range 256).all fun y=>XK (b.data.toList.getD y 0).toNat (ax y)
theorem qH{P:abe}{N:Nat}{R:Array Oper}{s:AS}{d:Nat}{x ix:abb}{kk:IntKind}{i:Int}{y:Nat}{b:ByteArray}{T t:abd}{ti:TI}{pos:String}{after:Array Edge}
  (hx:Ev s x (.v (.string b))) (hi:Ev s ix (.v (.int kk i))) (hT:ak P T=some ti) (hk:ti.k=.string)
  (hb:EB b=true) (h0:i=(y:Int)) (hy:y<256) (hN:XU d N=true) :
  Step P N R s ⟨some d,.index T x ix,t,pos,after,none⟩ ⟨some (.v (.int .u8 (ax y))),[],ae x++ae ix,[]⟩:=by
 subst h0;simp only[EB,ZW,Z6,YR]at hb;have hs:b.size=256:=by have:=ZT hb.1;rw[ZI]at this;exact this
 have h1:=ZT (hb.2 y hy);have:=tR (R:=R) (N:=N) (t:=t) (pos:=pos) (after:=after) hx hi hT hk oz oz hN;rw[Int.toNat_natCast]at this;rw[ZS,ZM,<- Z1]at h1
 rwa [h1]at this
theorem gu{x:Nat}(h:x<256):ax x<=8:=by
 rcases Z2 8 (ax x)with h5 |h5
 ·have h0 : x ≠ 0 := by intro h0; subst h0; simp [ax] at h5
  have h1:=sU h0;have:2^8<=2^(ax x-1):=m8 oz;omega
 ·exact h5
structure Dig(V W P V' W' top next third head:Nat):Prop where
  hV:V=V'+P*(next+4294967296*top)
  hW:W=W'+P*(third+4294967296*head)
  hV':V'<P
  hW':W'<P
  hnext:next<4294967296
  hthird:third<4294967296
  htop:2147483648<=top
  htopB:top<4294967296
  hlt:W<V*4294967296
namespace Dig
variable{V W P V' W' top next third head:Nat}
theorem vpos(h:Dig V W P V' W' top next third head):0<V:=by
 have:=h.hlt;omega
theorem q_lt(h:Dig V W P V' W' top next third head):W/V<4294967296:=by
 rw[XM h.vpos,X6];exact h.hlt
theorem mul_le(h:Dig V W P V' W' top next third head){q:Nat}(hq:q*V<=W):q*(next+4294967296*top)<=third+4294967296*head:=by
 have h1:q*(P*(next+4294967296*top))<=q*V:=Z4 _ (by have:=h.hV;omega);have h2:=h.hW;have h3:=h.hW'
 have h4:P*(q*(next+4294967296*top))<P*(third+4294967296*head+1):=by
  rw[Xy P _ 1,Nat.mul_one];have:P*(q*(next+4294967296*top))=q*(P*(next+4294967296*top)):=by grind
  omega
 have:=X5 h4;omega
theorem up(h:Dig V W P V' W' top next third head){q:Nat}(hq:q*V<=W):q*top<=head:=by
 have h1:=h.mul_le hq;have h2:=h.hthird;rw[Xy,show q*(4294967296*top)=4294967296*(q*top) by grind]at h1;omega
theorem first(h:Dig V W P V' W' top next third head):W/V<=head/top:=by
 have:=h.htop;rw[XV oz];exact h.up (Nat.div_mul_le_self W V)
theorem head_le(h:Dig V W P V' W' top next third head):head<=4294967296*top+next:=by
 have h1:=h.hlt;have h2:=h.hV;have h3:=h.hW;have h4:=h.hV'
 have h5:P*(third+4294967296*head)<P*(4294967296*(next+4294967296*top+1)):=by
  have:V*4294967296<P*(4294967296*(next+4294967296*top+1)):=by
   rw[h2,XN,show P*(next+4294967296*top)*4294967296=P*(4294967296*(next+4294967296*top)) by grind,Xy 4294967296 _ 1,Xy P];omega
  omega
 have:=X5 h5;omega
theorem step(h:Dig V W P V' W' top next third head){g r:Nat}(hg:W/V<=g)(he:g*top+r=head)(hc:4294967296<=g\/r*4294967296+third<g*next):W/V<g:=by
 rcases hc with hc |hc
 ·have:=h.q_lt;omega
 ·refine Nat.lt_of_le_of_ne hg ?_;intro hq;have h1:=h.mul_le (Nat.div_mul_le_self W V);rw[hq,<- he,Xy,Xy,show g*(4294967296*top)=4294967296*(g*top) by grind]at h1;omega
theorem last(h:Dig V W P V' W' top next third head){g r:Nat}(he:g*top+r=head)(hc:¬(r<4294967296/\(4294967296<=g\/r*4294967296+third<g*next))) :
  g<4294967296/\g<=W/V+1:=by
 have hh:=h.head_le;have hn:=h.hnext;have htop:=h.htop
 have hg:g<4294967296/\g*next<=r*4294967296+third:=by
  rcases Z2 r 4294967296 with hr |hr
  ·have h1:¬(4294967296<=g\/r*4294967296+third<g*next):=fun h'=>hc ⟨hr,h'⟩
   omega
  ·have h1:g<4294967296:=by
    rcases Z2 g 4294967296 with h2 |h2
    ·exact h2
    ·have:=aad top h2;omega
   refine⟨h1,?_⟩;have h2:g*next<=4294967296*4294967296:=XZ oz oz;have h3:4294967296*4294967296<=r*4294967296:=aad _ hr;omega
 refine⟨hg.1,?_⟩
 have h1:g*(next+4294967296*top)<=third+4294967296*head:=by
  rw[<- he,Xy,Xy,show g*(4294967296*top)=4294967296*(g*top) by grind];omega
 have h2:g*V<=W+V:=by
  have h3:g*V'<=4294967296*P:=XZ oz (by have:=h.hV';omega);have h4:P*(g*(next+4294967296*top))<=P*(third+4294967296*head):=Z4 _ h1;have h5:P*4294967296<=P*(next+4294967296*top):=Z4 _ oz;have h6:=h.hV;have h7:=h.hW;have h8:g*V=g*V'+P*(g*(next+4294967296*top)):=by rw[h6];grind
  omega
 have h9:(g-1)*V<=W:=by rw[Nat.sub_mul];omega
 have:=(XV h.vpos).2 h9;omega
end Dig
theorem DX{l:List Nat}{n:Nat}:val (l.take (n+2))=val (l.take n)+4294967296^n*(ah l n+4294967296*ah l (n+1)):=by
 rw[bY,bY,X0];grind
theorem Rh{l:List Nat}{n:Nat}:val (l.take (n+3))=val (l.take n)+4294967296^n*(ah l n+4294967296*(ah l (n+2)*4294967296+ah l (n+1))):=by
 rw[bY,DX,aat];grind
theorem mX{l:List Nat}(h:Ws l)(n:Nat):val (l.take n)<4294967296^n:=by
 have h1:=bg (l.take n) (eJ h n);exact Z9 h1 (Xt oz (by simp;omega))
theorem JI{v p:List Nat}{n:Nat}(hv:Ws v)(hp:Ws p)(hl:v.length=n+2)(fg:p.length=n+3)(ht:2147483648<=ah v (n+1))(h:val p<val v*4294967296) :
  Dig (val v) (val p) (4294967296^n) (val (v.take n)) (val (p.take n)) (ah v (n+1)) (ah v n) (ah p n) (ah p (n+2)*4294967296+ah p (n+1)) where
 hV:=by rw[<- DX,dk oz]
 hW:=by rw[<- Rh,dk oz]
 hV':=mX hv n
 hW':=mX hp n
 hnext:=a7 hv n
 hthird:=a7 hp n
 htop:=ht
 htopB:=a7 hv (n+1)
 hlt:=h
theorem Ut{u l:List Nat}{j:Nat}(h:j<=u.length):aL (wr u j l) j l.length=l:=by
 unfold aL wr;rw[aay,List.drop_append,aal (by simp;omega)];simp[X7 h]
theorem Qx{u l l':List Nat}{j:Nat}(h:j<=u.length)(hl:l.length=l'.length):wr (wr u j l) j l'=wr u j l':=by
 have h1:=Hv (l:=l) h;have h2:=Ku (l:=l) h;rw[hl]at h2;rw[wr,h1,h2,<- wr]
theorem N9{W V g len:Nat}(hV:0<V)(IA:V<=4294967296^len)(hW:W<4294967296^len)(h1:W/V<=g)(h2:g<=W/V+1) :
  (W<g*V->(iP g V W len+V)%4294967296^len=W%V/\g-1=W/V/\1<=g)/\(¬W<g*V->iP g V W len=W%V/\g=W/V):=by
 have h3:=X9 W V;have h4:=X8 W hV;generalize W/V=q at *;generalize W%V=r at *;have h5:V*q=q*V:=X6 _ _;refine⟨fun h=>?_,fun h=>?_⟩
 ·have hg:g=q+1:=by
   rcases Z2 q g with h6 |h6
   ·omega
   ·have : g = q := by omega
    subst this;omega
  subst hg;rw[XD]at h;refine⟨?_,by omega,by omega⟩;unfold iP;rw[XD,aa1 oz,show W+4294967296^len-(q*V+V)+V=r+4294967296^len by omega,Nat.add_mod_right,Xr oz]
 ·have hg:g=q:=by
   rcases Z2 q g with h6 |h6
   ·have : g = q + 1 := by omega
    subst this;rw[XD]at h;omega
   ·omega
  subst hg;refine⟨?_,rfl⟩;unfold iP;rw[aa2 oz];omega
theorem Ka{u q:List Nat}{k lv V U:Nat}(hu:Ws u)(hk:k+lv+1<=u.length)(hq:k<q.length)(hV:V<4294967296^lv)(h1:val (u.drop (k+1))<V)(h2:U=V*(4294967296^(k+1)*val (q.drop (k+1)))+val u) :
  val (aL u k (lv+1))<V*4294967296/\val ((wr u k (aD (lv+1) (val (aL u k (lv+1))%V))).drop k)<V /\
  U=V*(4294967296^k*val ((q.set k (val (aL u k (lv+1))/V)).drop k))+val (wr u k (aD (lv+1) (val (aL u k (lv+1))%V))):=by
 have h0:val (u.drop (k+(lv+1)))=0:=by
  have h3:=Ge (u:=u) (j:=k+1) (n:=lv) oz;rw[show k+1+lv=k+(lv+1) by omega]at h3;rcases XC (val (u.drop (k+(lv+1))))with h4 |h4
  ·exact h4
  ·have:=Z4 (4294967296^lv) h4;omega
 have hd:=Ge (u:=u) (j:=k) (n:=lv+1) oz;rw[h0,Nat.mul_zero,XW]at hd;have hw:=a7 hu k;have ju:=oe (l:=u) (i:=k) oz;have hW:val (aL u k (lv+1))<V*4294967296:=by rw[<- hd,ju];omega
 have AB:0<V:=by omega
 have hr:=X8 (val (aL u k (lv+1))) AB;have hm:=X9 (val (aL u k (lv+1))) V;have a6:(aD (lv+1) (val (aL u k (lv+1))%V)).length=lv+1:=dz _ _;have hx:val (aL u k (lv+1))%V<4294967296^(lv+1):=by rw[X0];omega
 have VL:val ((wr u k (aD (lv+1) (val (aL u k (lv+1))%V))).drop k)=val (aL u k (lv+1))%V:=by
  rw[QK oz,a6,h0,jX _ _ hx];omega
 refine⟨hW,by omega,?_⟩;rw[wA (u:=wr u k _) (j:=k) (by rw[kO oz];omega),Hv oz,VL,GN hq,h2,wA (u:=u) (j:=k) oz,hd];generalize val (aL u k (lv+1))%V=r at *;generalize val (aL u k (lv+1))/V=d at *;rw[<- hm,X0];grind
theorem JC{A Bv n Q R:Nat}(h:2^n*A=2^n*Bv*Q+R)(hR:R<2^n*Bv):Q=A/Bv/\R/2^n=A%Bv:=by
 obtain⟨h1,h2⟩:=vG h hR;rw[Nat.mul_div_mul_left _ _ (Xx oz)]at h1;rw[Nat.mul_mod_mul_left]at h2;rw[<- h1,<- h2,XY _ (Xx oz)];exact⟨rfl,rfl⟩
end Go.Lw
namespace Go.Lw
theorem D7:∀k v,(aD (k+1) v).take k=aD k v
 |0,_=>by simp[aD]
 |k+1,v=>by
  rw[aD,List.take_succ_cons,D7 k];rfl
theorem OH{u:List Nat}{j n i:Nat}(h:i<n):ah (aL u j n) i=ah u (j+i):=by
 rw[<- tY];simp[aL,ah,h]
theorem zr{u:List Nat}{j n i:Nat}(h:i<n)(h2:j+n<=u.length):(u.map u32)[j+i]?=some (u32 (ah (aL u j n) i)):=by
 rw[OH h];exact bn oz
theorem Uj{b:List Nat}{n:Nat}(hb:Ws b)(nb:Nz b)(hl:b.length=n+2) :
  ∃sh v,sh=32-ax (ah b (n+1))/\sh<32/\v=aD (n+2) (2^sh*val b)/\Ws v/\v.length=n+2/\val v=2^sh*val b/\2147483648<=ah v (n+1)/\ah b (n+1)≠0 /\
   4294967296^(n+1)<=val b:=by
 have ht:ah b (n+1)≠0:=by
  refine nb _ ?_;rw[YF,hl];exact gM oz
 have VM:=a7 hb (n+1);obtain⟨h1,h2,h3,h4⟩:=zP ht VM;have h5:=tT (x:=ah b (n+1))
 have hv:val b=val (b.take (n+1))+4294967296^(n+1)*ah b (n+1):=by
  rw[<- bY,dk oz]
 have hlt:=mX hb (n+1)
 have VN:2^(32-ax (ah b (n+1)))*(ah b (n+1)+1)<=4294967296:=by
  have:=Z4 (2^(32-ax (ah b (n+1)))) (show ah b (n+1)+1<=2^ax (ah b (n+1))from h5);rw[<- aat,show 32-ax (ah b (n+1))+ax (ah b (n+1))=32 by omega]at this;exact this
 have pS:4294967296^(n+1)<=val b:=by
  have:=Z4 (4294967296^(n+1)) (show 1<=ah b (n+1) by omega);omega
 generalize AC:32-ax (ah b (n+1))=sh at *
 have hX:2^sh*val b<4294967296^(n+2):=by
  have e1:val b<4294967296^(n+1)*(ah b (n+1)+1):=by rw[Xy];omega
  have e2:2^sh*val b<2^sh*(4294967296^(n+1)*(ah b (n+1)+1)):=(X1 (Xx oz)).2 e1;have e3:2^sh*(4294967296^(n+1)*(ah b (n+1)+1))=4294967296^(n+1)*(2^sh*(ah b (n+1)+1)):=by grind
  have e4:=Z4 (4294967296^(n+1)) VN;rw[<- X0]at e4;rw[e3]at e2;exact Z9 e2 e4
 refine⟨sh,_,rfl,by omega,rfl,iB _ _,dz _ _,jX _ _ hX,?_,ht,pS⟩
 have fi:val (aD (n+2) (2^sh*val b))=val ((aD (n+2) (2^sh*val b)).take (n+1))+4294967296^(n+1)*ah (aD (n+2) (2^sh*val b)) (n+1):=by
  rw[<- bY,dk (by rw[dz];omega)]
 rw[jX _ _ hX]at fi;have vL:=mX (iB (n+2) (2^sh*val b)) (n+1)
 have e5:4294967296^(n+1)*(2^sh*ah b (n+1))<=2^sh*val b:=by
  have:=Z4 (2^sh) (show 4294967296^(n+1)*ah b (n+1)<=val b by omega);have e6:2^sh*(4294967296^(n+1)*ah b (n+1))=4294967296^(n+1)*(2^sh*ah b (n+1)):=by grind
  omega
 have e7:4294967296^(n+1)*(2^sh*ah b (n+1))<4294967296^(n+1)*(ah (aD (n+2) (2^sh*val b)) (n+1)+1):=by rw[Xy (4294967296^(n+1)) _ 1];omega
 have:=X5 e7;omega
theorem Hy{a:List Nat}{sh lq n Bv:Nat}(ha:Ws a)(AC:sh<32)(hl:a.length+1=lq+(n+2))(hB:4294967296^(n+1)<=Bv) :
  val (aD (a.length+1) (2^sh*val a))=2^sh*val a/\val ((aD (a.length+1) (2^sh*val a)).drop lq)<2^sh*Bv:=by
 have h1:=bg a ha;have h2:2^sh<=2^31:=m8 oz;have hp:0<2^sh:=Xx oz;have h3:2^sh*val a<2^sh*4294967296^a.length:=(X1 hp).2 h1
 have hX:2^sh*val a<4294967296^(a.length+1):=by
  have:=aad (4294967296^a.length) (show 2^sh<=4294967296 by omega);rw[X0];omega
 refine⟨jX _ _ hX,?_⟩;have h4:=uC (iB (a.length+1) (2^sh*val a)) lq (by rw[dz];omega);rw[jX _ _ hX]at h4;rw[<- h4,XM (Xx oz)];have h5:a.length=(n+1)+lq:=by omega
 rw[h5,aat]at h3;have h6:=Z4 (2^sh) (aad (4294967296^lq) hB);rw[XJ];omega
theorem Np{s:AS}:∀(k:Nat)(z:Blk),lk ([]:Hp) k=some z->s.blk k=some z:=fun _ _ h=>by cases h
theorem Q1{s:AS}{k0:Nat}{x:Blk}(h:s.blk k0=some x):∀(k:Nat)(z:Blk),lk [(k0,some x)] k=some z->s.blk k=some z:=by
 intro k z hz;rw[aq]at hz;split at hz
 ·rename_i e;cases hz;rw[e];exact h
 ·cases hz
theorem Dc{s:AS}{x y x' y':AV}(h:Sub x x')(h':Sub y y'):aM s (ck [x,y]) (.tup [x',y']) []:=by
 refine aM.pure.sub ?_;intro g S m v hr;cases hr with
 |tup hn hr =>
  refine .tup (by simpa using hn) ?_;intro j u c hu hc
  match j,hc with
  |0,hc=>cases hc;exact h _ _ _ _ (hr 0 u x hu rfl)
  |1,hc=>cases hc;exact h' _ _ _ _ (hr 1 u y hu rfl)
theorem PM{b v:List Nat}{n X:Nat}(hn:b.length=n+2)(h:v=aD (n+2) X) :
  AV.fz 900 1 ((aD (b.length+1) X).map u32) (.ms 900 1 0 b.length)=ws v:=by
 rw[uk (by simp[dz]),h,<- hn,aax,<- map_take,D7,ws]
theorem HK{x:Nat}(h:1<=x)(hx:x<18446744073709551616):IntKind.u64.wrap (dV .sub (x:Int) 1)=((x-1:Nat):Int):=by
 have h1:=jm (x:=x) (y:=1) hx oz;rw[aa2 h]at h1;exact h1
theorem GQ{r g G R:Nat}:(cond (aa .lss (r:Int) 4294967296) (cond (aa .geq (g:Int) 4294967296) true (aa .gtr (G:Int) (R:Int))) false)=true ↔
  (r<4294967296/\(4294967296<=g\/R<G)):=by
 have e1:aa .lss (r:Int) 4294967296=decide (r<4294967296):=by rw[Zq];simp only[aa,aa3];omega
 have e2:aa .geq (g:Int) 4294967296=decide (4294967296<=g):=by rw[Zq];simp only[aa,aa3];omega
 have e3:aa .gtr (G:Int) (R:Int)=decide (R<G):=by rw[Zq];simp only[aa,aa3];omega
 rw[e1,e2,e3]
 by_cases h1:r<4294967296
 ·by_cases h2:4294967296<=g
  ·rw[aa6 h1,aa6 h2];exact⟨fun _=>⟨h1,.inl h2⟩,fun _=>rfl⟩
  ·rw[aa6 h1,aa7 h2];show decide (R<G)=true↔_;rw[aa3];exact⟨fun h=>⟨h1,.inr h⟩,fun h=>h.2.resolve_left h2⟩
 ·rw[aa7 h1];constructor
  ·intro h;exact Bool.noConfusion h
  ·intro h;exact aa8 h.1 h1
theorem Cq{u:List Nat}{k n V r:Nat}{l:List Nat}(hk:k+n<=u.length)(hl:l.length=n)(h:(val l+V)%4294967296^n=r) :
  wr (wr u k l) k (aD n ((val (aL (wr u k l) k n)+V)%4294967296^n))=wr u k (aD n r):=by
 subst hl;rw[Qx oz (by rw[dz]),Ut oz,h]
theorem LX{s:AS}{k1 k2:Nat}{x1 x2:Blk}(h1:s.blk k1=some x1)(h2:s.blk k2=some x2):∀(k:Nat)(z:Blk),lk [(k1,some x1),(k2,some x2)] k=some z->s.blk k=some z:=by
 intro k z hz;rw[aq]at hz;split at hz
 ·rename_i e;cases hz;rw[e];exact h1
 ·rw[aq]at hz;split at hz
  ·rename_i e;cases hz;rw[e];exact h2
  ·cases hz
theorem bW{p:Prop}(h:p:=by first |exact Np |exact Q1 rfl |exact LX rfl rfl):p:=h
def e8(x y:Int):Int:=if x<y then -1 else if y<x then 1 else 0
theorem EJ(b:Bool)(n:Nat):sgn (!b) n=-(sgn b n):=by cases b <;> simp[sgn]
theorem Wh.small{w:Wh}(h:w.ok)(hl:w.mag.length<al):w.m.length<al:=aam Wh.m_le hl
theorem B7{w:Wh}(h:w.ok):(w.m.length=0->w.z.sign=0)/\(w.m.length≠0->w.neg=true->w.z.sign=-1)/\(w.m.length≠0->w.neg=false->w.z.sign=1):=by
 have h1:w.m.length≠0->w.valid=true:=by
  intro h0;unfold Wh.m at h0;split at h0
  ·assumption
  ·exact aa8 rfl h0
 refine⟨?_,?_,?_⟩
 ·intro h0;have h2:w.m = []:=Yo.1 h0;have h3:val w.m = 0:=by rw [h2]; rfl
  have:w.z=0:=by unfold Wh.z;rw[h3];split <;> rfl
  rw[this];rfl
 ·intro h0 hn;have h2:w.n = true:=by unfold Wh.n; rw [h1 h0,hn]; rfl
  have h3:=Wh.n_val h2;rw[YZ];unfold Wh.z;rw[aa2 h2];omega
 ·intro h0 hn;have h2:w.n = false:=by unfold Wh.n; rw [h1 h0,hn]; rfl
  have h3:=mW w.nz (fun h=>h0 (by rw[h];rfl));rw[YY];unfold Wh.z;rw[h2];simp;omega
theorem H3{a b:Wh}(h:a.n=b.n):sgn a.n (val a.m+val b.m)=a.z+b.z:=by
 rw[Wh.z_eq,Wh.z_eq,<- h];unfold sgn;split <;> omega
theorem xQ{a b:Wh}(h:a.n≠b.n)(hl:val b.m<=val a.m):sgn a.n (val a.m-val b.m)=a.z+b.z:=by
 rw[Wh.z_eq,Wh.z_eq];cases ha:a.n <;> cases hb:b.n <;> simp_all [sgn] <;> omega
theorem HN{a b:Wh}(h:a.n≠b.n)(hl:val a.m<=val b.m):sgn b.n (val b.m-val a.m)=a.z+b.z:=by
 rw[Int.add_comm];exact xQ (fun h'=>h h'.symm) hl
theorem EC{a b:Wh}:sgn (a.n != b.n) (val a.m*val b.m)=a.z*b.z:=by
 rw[Wh.z_eq,Wh.z_eq];cases a.n <;> cases b.n <;> simp[sgn,Int.neg_mul,Int.mul_neg]
theorem zt(z:Int):(z.sign=1/\0<z)\/(z.sign=0/\z=0)\/(z.sign=-1/\z<0):=by
 rcases Y0 z 0 with h |h |h
 ·exact .inr (.inr ⟨YZ.2 h,h⟩)
 ·subst h;exact .inr (.inl ⟨rfl,rfl⟩)
 ·exact .inl ⟨YY.2 h,h⟩
theorem SF{a b:Wh}(h:a.z.sign≠b.z.sign):(a.z.sign<b.z.sign->e8 a.z b.z=-1)/\(¬a.z.sign<b.z.sign->e8 a.z b.z=1):=by
 have h1:=zt a.z;have h2:=zt b.z;unfold e8;generalize a.z.sign=s at *;generalize b.z.sign=t at *;generalize a.z=x at *;generalize b.z=y at *;constructor <;> intro h3 <;> (repeat' split) <;> omega
theorem Kv{a b:Wh}(h:a.z.sign=b.z.sign):e8 a.z b.z=(if a.n then -(if val a.m<val b.m then -1 else if val b.m<val a.m then 1 else 0:Int)else if val a.m<val b.m then -1 else if val b.m<val a.m then 1 else 0):=by
 have ha:=Wh.n_eq (w:=a);have hb:=Wh.n_eq (w:=b);have h1:=YW a.z;have dX:=Wh.z_eq (w:=a);have k8:=Wh.z_eq (w:=b)
 have hn:a.n=b.n:=by
  rw[ha,hb,decide_eq_decide,<- YZ,<- YZ,h]
 rw[<- hn]at k8;unfold e8;rw[dX,k8];cases a.n <;> simp only[sgn,if_true,if_false,Zm] <;> (repeat' split) <;> omega
theorem F4{a b q r:Int}(hb:b≠0)(h:a=b*q+r)(h0:0<=r)(h1:r<b.natAbs):a/b=q/\a%b=r:=by
 have h2:=Int.mul_ediv_add_emod a b;have h3:=Int.emod_nonneg a hb;have h4:=Int.emod_lt a hb;have h5:b*(a/b-q)=r-a%b:=by rw[Int.mul_sub];omega
 have h6:a/b-q=0:=by
  rcases Y0 (a/b-q) 0 with h |h |h
  ·exfalso;have:b.natAbs <= (r - a % b).natAbs:=by rw [<- h5,Y2]; exact Nat.le_mul_of_pos_right _ oz
   omega
  ·exact h
  ·exfalso;have:b.natAbs <= (r - a % b).natAbs:=by rw [<- h5,Y2]; exact Nat.le_mul_of_pos_right _ oz
   omega
 rw[h6,Int.mul_zero]at h5;omega
theorem FB{a b:Wh}(hb:val b.m≠0)(h:¬(a.n=true/\0<val a.m%val b.m)) :
  sgn (a.n != b.n) (val a.m/val b.m)=a.z/b.z/\(val a.m%val b.m:Nat)=a.z%b.z:=by
 have h1:=X9 (val a.m) (val b.m);have h2:=X8 (val a.m) (show 0<val b.m by omega);have hz:=Wh.abs (w:=b);have eQ:b.z≠0:=by omega
 obtain⟨e1,e2⟩:=F4 (a:=a.z) (b:=b.z) (q:=sgn (a.n != b.n) (val a.m/val b.m)) (r:=(val a.m%val b.m:Nat)) eQ (by
  rw[Wh.z_eq,Wh.z_eq];generalize val a.m/val b.m=q at *;generalize val a.m%val b.m=r at *;rw[<- h1]
  have h9:a.n=true->r=0:=fun h3=>by
   rcases XC r with h4 |h4
   ·exact h4
   ·exact aa8 ⟨h3,h4⟩ h
  cases ha:a.n with
  |false=>cases nU:b.n <;> simp[sgn] <;> grind
  |true=>have:=h9 ha;subst this;cases nU:b.n <;> simp[sgn] <;> grind) oz oz
 exact⟨e1.symm,e2.symm⟩
theorem CQ{a b:Wh}(hb:val b.m≠0)(ha:a.n=true)(hr:0<val a.m%val b.m) :
  sgn (a.n != b.n) (val a.m/val b.m+1)=a.z/b.z/\((val b.m-val a.m%val b.m:Nat):Int)=a.z%b.z:=by
 have h1:=X9 (val a.m) (val b.m);have h2:=X8 (val a.m) (show 0<val b.m by omega);have hz:=Wh.abs (w:=b);have eQ:b.z≠0:=by omega
 obtain⟨e1,e2⟩:=F4 (a:=a.z) (b:=b.z) (q:=sgn (a.n != b.n) (val a.m/val b.m+1)) (r:=(val b.m-val a.m%val b.m:Nat)) eQ (by
  rw[Wh.z_eq,Wh.z_eq];generalize val a.m/val b.m=q at *;generalize val a.m%val b.m=r at *;rw[<- h1,ha];cases nU:b.n <;> simp[sgn] <;> rw[Int.ofNat_sub oz] <;> grind) oz oz
 exact⟨e1.symm,e2.symm⟩
abbrev dj:Nat:=137438953472
def Zs(z:Int):Prop:=∃k,k<=274877906945/\Lz k z
theorem Zs.ok{z:Int}(h:Zs z):(ofInt z).ok:=by
 obtain⟨k,hk,hz⟩:=h;refine⟨b7 _,?_⟩;have:=hz.len;unfold an;show(ofNat z.natAbs).length<=_;omega
theorem Zs.len{z:Int}(h:Zs z):(ofInt z).mag.length<=274877906945:=by
 obtain⟨k,hk,hz⟩:=h;have:=hz.len;show(ofNat z.natAbs).length<=_;omega
theorem Zs.neg{z:Int}(h:Zs z):Zs (-z):=by
 obtain⟨k,hk,hz⟩:=h;exact⟨k,hk,hz.neg⟩
theorem Zs.of_le{x y:Int}(h:Zs x)(h':y.natAbs<=x.natAbs):Zs y:=by
 obtain⟨k,hk,hz⟩:=h;exact⟨k,hk,hz.of_le h'⟩
structure Rt where
  neg:Bool
  num:List Nat
  den:List Nat
namespace Rt
def av(r:Rt):AV:=.agg [bl r.neg,ws r.num,ws r.den]
def n0(r:Rt):Wh:=⟨false,r.num⟩
def d0(r:Rt):Wh:=⟨false,r.den⟩
def valid(r:Rt):Bool :=
  if r.num=[]/\r.den=[]then !r.neg
  else if r.num=[]\/r.den=[]then false
  else r.n0.valid&&r.d0.valid&&decide (X3 (val r.num) (val r.den)=1)
def q(r:Rt):Rat:=if r.valid=true/\r.num≠[]then mkRat (sgn r.neg (val r.num)) (val r.den)else 0
def ok(r:Rt):Prop:=Ws r.num/\Ws r.den/\r.num.length<=dj/\r.den.length<=dj
end Rt
def rt(q:Rat):Rt:=⟨decide (q.num<0),ofNat q.num.natAbs,if q.num=0 then[]else ofNat q.den⟩
def qA(q:Rat):AV:=(rt q).av
def Qs(q:Rat):Prop:=∃k,k<=dj/\Lz k q.num/\Lz k (q.den:Int)
theorem Qs.ok{q:Rat}(h:Qs q):(rt q).ok:=by
 obtain⟨k,hk,h1,h2⟩:=h;have h3:=h1.len;have h4:=h2.len;simp only[aaq]at h4;refine⟨b7 _,?_,by show(ofNat q.num.natAbs).length<=_;omega,?_⟩
 ·show Ws (if q.num=0 then[]else ofNat q.den);split
  ·exact qj
  ·exact b7 _
 ·show(if q.num=0 then[]else ofNat q.den).length<=_;split
  ·simp
  ·omega
theorem zR{n:Nat}:ofNat n=[]↔n=0:=by
 constructor
 ·intro h;have:=bi n;rw[h]at this;exact this.symm
 ·intro h;rw[h];rfl
theorem DQ{l:List Nat}(h:l≠[])(hz:Nz l):(⟨false,l⟩:Wh).valid=true:=by
 unfold Wh.valid;dsimp only;rw[aa1 h];cases hl:l.getLast? with
 |none=>rfl
 |some x=>have:=hz x hl;simp[this]
theorem Fo{l:List Nat}{b:Bool}(h:l≠[])(hv:(⟨b,l⟩:Wh).valid=true):Nz l:=by
 unfold Wh.valid at hv;dsimp only at hv;rw[aa1 h]at hv;intro x hx iZ;rw[hx,iZ]at hv;simp at hv
theorem tv(q:Rat):(rt q).valid=true:=by
 unfold rt Rt.valid Rt.n0 Rt.d0;dsimp only
 by_cases h:q.num=0
 ·rw[aa2 h,h];rfl
 ·rw [aa1 h];have h1:ofNat q.num.natAbs ≠ []:=fun h'=>h (by have:=zR.1 h'; omega)
  have h2:ofNat q.den≠[]:=fun h'=>q.den_nz (zR.1 h')
  rw[aa1 (fun h'=>h1 h'.1),aa1 (by simp[h1,h2]),DQ h1 (ou _),DQ h2 (ou _),bi,bi];have:=q.reduced;unfold Nat.Coprime at this;simp[this]
theorem bQ(q:Rat):(rt q).q=q:=by
 unfold Rt.q
 by_cases h:q.num=0
 ·rw[aa1]
  ·exact(Ze.1 h).symm
  ·intro h';exact h'.2 (by show ofNat _=[];rw[h];rfl)
 ·have h1 : ofNat q.num.natAbs ≠ [] := fun h' => h (by have := zR.1 h'; omega)
  rw[aa2 ⟨tv q,h1⟩];show mkRat (sgn (decide (q.num<0)) (val (ofNat q.num.natAbs))) (val (if q.num=0 then[]else ofNat q.den))=q;rw[aa1 h,bi,bi]
  have:sgn (decide (q.num<0)) q.num.natAbs=q.num:=by
   unfold sgn;generalize q.num=z
   by_cases h2:z<0
   ·rw[aa2 (aa6 h2)];omega
   ·rw[aa1 (by rw[aa3];exact h2)];omega
  rw[this,Rat.mkRat_self]
theorem Rt.parts{r:Rt}(h:r.ok)(hv:r.valid=true)(h0:r.num≠[]) :
  r.q.num=sgn r.neg (val r.num)/\r.q.den=val r.den/\ofNat (val r.num)=r.num/\ofNat (val r.den)=r.den/\val r.num≠0/\val r.den≠0:=by
 have hv':=hv;unfold Rt.valid at hv;rw[aa1 (fun h'=>h0 h'.1)]at hv;split at hv
 ·cases hv
 ·rename_i h1;simp only[ZW,aa3]at hv;obtain⟨⟨hn,hd⟩,hg⟩:=hv;have h2:r.den≠[]:=fun h'=>h1 (.inr h')
  have nn:=Fo h0 hn;have nd:=Fo h2 hd;have pn:=mW nn h0;have pd:=mW nd h2;have hq:r.q=mkRat (sgn r.neg (val r.num)) (val r.den):=by unfold Rt.q;rw[aa2 ⟨hv',h0⟩]
  have hs:(sgn r.neg (val r.num)).natAbs=val r.num:=by unfold sgn;split <;> omega
  have i3 : r.q = ⟨sgn r.neg (val r.num), val r.den, by omega, by unfold Nat.Coprime; rw [hs]; exact hg⟩ := by
   rw[hq];exact(Rat.mk_eq_mkRat _ _ _ _).symm
  refine⟨by rw[i3],by rw[i3],oO h.1 nn,oO h.2.1 nd,by omega,by omega⟩
theorem Rt.zero{r:Rt}(h:¬(r.valid=true/\r.num≠[])):r.q=0:=by unfold Rt.q;rw[aa1 h]
theorem Rt.eq_rt{r:Rt}(h:r.ok)(hv:r.valid=true):r=rt r.q:=by
 by_cases h0:r.num=[]
 ·have hq:=Rt.zero (r:=r) (fun h'=>h'.2 h0);rw[hq];unfold Rt.valid at hv
  by_cases h1:r.den=[]
  ·rw[aa2 ⟨h0,h1⟩]at hv;obtain⟨n,a,b⟩:=r;dsimp only at *;subst h0;subst h1
   cases n
   ·rfl
   ·cases hv
  ·rw[aa1 (fun h'=>h1 h'.2),aa2 (.inl h0)]at hv;cases hv
 ·obtain ⟨h1, h2, h3, h4, h5, h6⟩:=Rt.parts h hv h0;unfold rt;have hn:r.q.num ≠ 0:=by rw [h1]; unfold sgn; split <;> omega
  rw[aa1 hn,h2,h4];have h7:r.q.num.natAbs=val r.num:=by rw[h1];unfold sgn;split <;> omega
  have h8:decide (r.q.num<0)=r.neg:=by rw[h1];unfold sgn;cases r.neg <;> simp <;> omega
  rw[h7,h3,h8]
theorem Rt.ok.qs{r:Rt}(h:r.ok):Qs r.q:=by
 by_cases h0:r.valid=true/\r.num≠[]
 ·obtain ⟨h1, h2, h3, h4, h5, h6⟩:=Rt.parts h h0.1 h0.2;refine ⟨max r.num.length r.den.length,by have:=h.2.2; omega,?_,?_⟩
  ·unfold Lz;have:r.q.num.natAbs = val r.num:=by rw [h1]; unfold sgn; split <;> omega
   rw[this];exact Z9 (bg _ h.1) (Xt oz oz)
  ·unfold Lz;rw[h2];exact Z9 (bg _ h.2.1) (Xt oz oz)
 ·rw[Rt.zero h0];exact⟨1,by unfold dj;omega,by unfold Lz;decide,by unfold Lz;decide⟩
theorem Qs.num{q:Rat}(h:Qs q):Zs q.num:=by
 obtain⟨k,hk,h1,h2⟩:=h;exact⟨k,by unfold dj at hk;omega,h1⟩
theorem Qs.den{q:Rat}(h:Qs q):Zs q.den:=by
 obtain⟨k,hk,h1,h2⟩:=h;exact⟨k,by unfold dj at hk;omega,h2⟩
theorem Qs.mul{p q:Rat}(h:Qs p)(h':Qs q):Zs (p.num*q.den)/\Zs (p.num*q.num)/\Zs ((p.den:Int)*q.den)/\Zs ((p.den:Int)*q.num):=by
 obtain⟨k,hk,h1,h2⟩:=h;obtain⟨l,hl,h3,h4⟩:=h';unfold dj at *;exact⟨⟨k+l,by omega,h1.mul h4⟩,⟨k+l,by omega,h1.mul h3⟩,⟨k+l,by omega,h2.mul h4⟩,⟨k+l,by omega,h2.mul h3⟩⟩
theorem Qs.cross{p q:Rat}(h:Qs p)(h':Qs q):Zs (p.num*q.den+q.num*p.den):=by
 obtain⟨k,hk,h1,h2⟩:=h;obtain⟨l,hl,h3,h4⟩:=h';unfold dj at *;have:=(h1.mul h4).add (h3.mul h2);exact⟨_,by omega,this⟩
theorem Qs.neg{p:Rat}(h:Qs p):Qs (-p):=by
 obtain⟨k,hk,h1,h2⟩:=h;refine⟨k,hk,?_,?_⟩
 ·rw[Rat.neg_num];exact h1.neg
 ·rw[Rat.neg_den];exact h2
theorem Qs.zero:Qs 0:=⟨1,by unfold dj;omega,by unfold Lz;decide,by unfold Lz;decide⟩
theorem Rt.ok.n0{r:Rt}(h:r.ok):r.n0.ok:=⟨h.1,by have:=h.2.2.1;unfold dj at this;unfold an;exact aaj this oz⟩
theorem Rt.ok.d0{r:Rt}(h:r.ok):r.d0.ok:=⟨h.2.1,by have:=h.2.2.2;unfold dj at this;unfold an;exact aaj this oz⟩
theorem Rt.ok.n0l{r:Rt}(h:r.ok):r.n0.mag.length<al:=by have:=h.2.2.1;unfold dj at this;unfold al;exact aam this oz
theorem Rt.ok.d0l{r:Rt}(h:r.ok):r.d0.mag.length<al:=by have:=h.2.2.2;unfold dj at this;unfold al;exact aam this oz
theorem tQ:Zs 1:=⟨1,by omega,by unfold Lz;decide⟩
theorem Rt.gcd_zs{r:Rt}(h:r.ok):Zs (Y8 r.n0.z r.d0.z):=by
 have h1:=Wh.lz h.n0;have h2:=Wh.lz h.d0;have h3:r.n0.mag.length<=137438953472:=h.2.2.1;have h4:r.d0.mag.length<=137438953472:=h.2.2.2
 by_cases h0:r.n0.z=0
 ·rw[h0,Int.gcd_zero_left];exact⟨r.d0.mag.length,by omega,by unfold Lz at *;simpa using h2⟩
 ·refine⟨r.n0.mag.length,by omega,h1.of_le ?_⟩;simp only[aaq];exact Xv oz (Za _ _)
theorem Tp{n:Nat}:e8 (n:Int) 1=0↔n=1:=by
 unfold e8;split
 ·constructor <;> intro h <;> omega
 ·split <;> constructor <;> intro h <;> omega
theorem BM{l:List Nat}(h:(⟨false,l⟩:Wh).valid=true):(⟨false,l⟩:Wh).z=val l:=by
 unfold Wh.z Wh.n Wh.m;simp[h]
theorem xm{r:Rt}(h0:¬(r.num=[]/\r.den=[]))
  (h:cond (cond (cond (aa .eql (r.num.length:Int) 0) true (aa .eql (r.den.length:Int) 0)) true (!r.n0.valid)) true (!r.d0.valid)=true):r.valid=false:=by
 unfold Rt.valid;rw[aa1 h0];split
 ·rfl
 ·next h1 =>
  have hn:r.num≠[]:=fun h=>h1 (.inl h)
  have hd:r.den≠[]:=fun h=>h1 (.inr h)
  have e1:aa .eql (r.num.length:Int) 0=false:=by simp[aa,hn]
  have e2:aa .eql (r.den.length:Int) 0=false:=by simp[aa,hd]
  rw[e1,e2]at h;cases hv:r.n0.valid <;> cases hw:r.d0.valid <;> simp_all
theorem HH{r:Rt}(h0:¬(r.num=[]/\r.den=[]))
  (h:cond (cond (cond (aa .eql (r.num.length:Int) 0) true (aa .eql (r.den.length:Int) 0)) true (!r.n0.valid)) true (!r.d0.valid)=false) :
  r.valid=aa .eql (e8 (Y8 r.n0.z r.d0.z) 1) 0:=by
 unfold Rt.valid;rw[aa1 h0];cases e1:aa .eql (r.num.length:Int) 0
 ·cases e2:aa .eql (r.den.length:Int) 0
  ·have hn : r.num ≠ [] := by simpa [aa] using e1
   have hd:r.den≠[]:=by simpa[aa]using e2
   rw[e1,e2]at h;cases hv:r.n0.valid <;> cases hw:r.d0.valid <;> simp[hv,hw]at h
   rw[aa1 (by simp[hn,hd])];have z1:r.n0.z=val r.num:=BM hv;have z2:r.d0.z=val r.den:=BM hw;rw[z1,z2];show(true&&true&&decide _)=decide _;simp only[Bool.and_self,Bool.true_and];rw[Zq];simp only[aa3];exact Tp.symm
  ·rw[e1,e2]at h;simp at h
 ·rw[e1]at h;simp at h
theorem A8{b:Bool}{num den:List Nat}(e3:ofNat (val num)=num)(e4:ofNat (val den)=den)(e5:val num≠0) :
  AV.tup [.agg [bl b,ws num],.agg [bl false,ws den]]=.tup [zA (sgn b (val num)),zA ((val den:Nat):Int)]:=by
 unfold zA ofInt Wh.av;have h1:(sgn b (val num)).natAbs=val num:=by unfold sgn;split <;> omega
 have h2:decide (sgn b (val num)<0)=b:=by unfold sgn;cases b <;> simp <;> omega
 have h3:decide (((val den:Nat):Int)<0)=false:=by simp
 dsimp only;rw[h1,h2,h3,e3,aaq,e4]
inductive SubL:List AV->List AV->Prop
  |nil:SubL [] []
  |cons {x y:AV} {l l':List AV} (h:Sub x y) (hl:SubL l l'):SubL (x::l) (y::l')
theorem SubL.len{l l':List AV}(h:SubL l l'):l.length=l'.length:=by induction h with |nil=>rfl |cons _ _ ih=>simp[ih]
theorem SubL.get{l l':List AV}(h:SubL l l'):∀(j:Nat)(x y:AV),l[j]?=some x->l'[j]?=some y->Sub x y:=by
 induction h with
 |nil=>intro j x y h;simp at h
 |cons h _ ih =>
  intro j x y hx hy;cases j with
  |zero=>simp at hx hy;subst hx;subst hy;exact h
  |succ j=>simp at hx hy;exact ih j x y hx hy
theorem Sub.tup{l l':List AV}(h:SubL l l'):Sub (.tup l) (.tup l'):=by
 intro g S m v hv;cases hv with
 |tup hn hr =>
  refine .tup (by rw[hn,h.len]) (fun j u y hu hy=>?_);obtain⟨x,hx⟩:=f8 h.len.symm hy;exact h.get j x y hx hy _ _ _ _ (hr j u x hu hx)
theorem Sub.agg{l l':List AV}(h:SubL l l')(ho:l'.all AV.one=true):Sub (.agg l) (.agg l'):=by
 intro g S m v hv;cases hv with
 |agg hn h1 hr =>
  refine .agg (by rw[hn,h.len]) (fun j c hc=>Z6.1 ho c (ZR hc)) (fun j u y hu hy=>?_);obtain⟨x,hx⟩:=f8 h.len.symm hy;exact h.get j x y hx hy _ _ _ _ (hr j u x hu hx)
theorem BlkSub.bL{l l':List AV}(h:SubL l l')(ho:l'.all AV.one=true):BlkSub (.box l) (.box l') :=
 .box h.len (fun j c hc=>Z6.1 ho c (ZR hc)) (fun j x y hx hy=>h.get j x y hx hy)
theorem Hm:Sub (.agg [.v (.bool false),.v (.slice none 0 0)]) (zA 0):=.agg (.cons (.refl _) (.cons (.nil _ _ _) .nil)) rfl
theorem mH:Sub (.agg [.v (.bool false),.v (.slice none 0 0),.v (.slice none 0 0)]) (qA 0):=.agg (.cons (.refl _) (.cons (.nil _ _ _) (.cons (.nil _ _ _) .nil))) rfl
theorem EI{n d:Int}(hd:0<d)(hn:n≠0) :
  (Zd n d).num=n/(Y8 n d:Int)/\(Zd n d).den=d.natAbs/Y8 n d:=by
 constructor
 ·rw[Rat.num_divInt,Int.sign_eq_one_of_pos hd,Int.one_mul,Int.gcd_comm]
 ·rw[Rat.den_divInt,aa1 oz,Int.gcd_comm]
theorem Lu{n d:Int}(hd:0<d)(hn:n≠0) :
  AV.agg [bl (decide (n<0)),ws (ofNat (((n.natAbs:Int)/(Y8 n d:Int)).natAbs)),ws (ofNat ((d/(Y8 n d:Int)).natAbs))]=qA (Zd n d):=by
 obtain⟨h1,h2⟩:=EI hd hn;obtain⟨g,hg⟩:∃g,g=Y8 n d:=⟨_,rfl⟩
 have IB:0<g:=by rw[hg];exact YX _ hn
 have VO:(g:Int)∣n:=by rw[hg];exact Int.gcd_dvd_left ..
 rw[<- hg]at h1 h2 ⊢;clear hg;obtain⟨k,hk⟩:=VO;have mC:n/(g:Int)=k:=by rw[hk];exact Int.mul_ediv_cancel_left _ oz
 have sq:k≠0:=by intro h;rw[h]at hk;simp at hk;exact hn hk
 have hs:decide (n<0)=decide (k<0):=by
  rw[decide_eq_decide,hk];constructor
  ·intro h;rcases Y0 k 0 with h' |h' |h'
   ·exact h'
   ·exact aa8 h' sq
   ·exact aa8 (Int.mul_nonneg (Y3 g) (Int.le_of_lt h')) oz
  ·intro h;exact Int.mul_neg_of_pos_of_neg oz h
 have vK:((n.natAbs:Int)/(g:Int)).natAbs=k.natAbs:=by
  rw[hk,Y2,aaq];rw[show((g*k.natAbs:Nat):Int)/(g:Int)=((g*k.natAbs/g:Nat):Int) by exact(Y6 _ _).symm];rw[XY _ IB];omega
 have VP:(d/(g:Int)).natAbs=d.natAbs/g:=by
  have:d=(d.natAbs:Int):=by omega
  rw[this,<- Y6,aaq,aaq]
 unfold qA rt Rt.av;rw[h1,h2,mC,vK,VP,hs];dsimp only;rw[aa1 sq]
theorem Ea(n d:Int):Zd (-n) (-d)=Zd n d:=Rat.neg_divInt_neg n d
theorem z6(p q:Rat):Zd (p.num*q.den+q.num*p.den) ((p.den:Int)*q.den)=p+q:=by
 rw[<- Rat.divInt_add_divInt _ _ (by have:=p.den_nz;omega) (by have:=q.den_nz;omega),Zg,Zg]
theorem E4(p q:Rat):Zd (p.num*q.num) ((p.den:Int)*q.den)=p*q:=by
 rw[<- Rat.divInt_mul_divInt,Zg,Zg]
theorem Fv(p:Rat):Zd (-p.num) p.den=-p:=by
 rw[<- Rat.neg_num,<- Rat.neg_den,Zg]
theorem UT(p q:Rat):Zd (p.num*q.den) ((p.den:Int)*q.num)=p/q:=by
 rw[Rat.div_def,<- Rat.divInt_mul_divInt,Zg];congr 1;rw[<- Rat.inv_divInt,Zg]
theorem Ns(p:Rat):p.num<0↔p<0:=by
 rw[Rat.lt_iff];simp
theorem Rj(p:Rat):0<p.num↔0<p:=by
 rw[Rat.lt_iff];simp
def asQ(p:Rat):Int:=if p<0 then -1 else if 0<p then 1 else 0
theorem Fi(p:Rat):p.num.sign=asQ p:=by
 unfold asQ
 by_cases h:p<0
 ·rw[aa2 h];exact YZ.2 ((Ns p).2 h)
 ·rw[aa1 h]
  by_cases h':0<p
  ·rw[aa2 h'];exact YY.2 ((Rj p).2 h')
  ·rw [aa1 h'];have:p = 0:=by grind
   rw[this];rfl
theorem So(p q:Rat):asQ (p-q)=if p<q then -1 else if q<p then 1 else 0:=by
 unfold asQ
 by_cases h:p<q
 ·rw[aa2 h,aa2 (by grind)]
 ·rw [aa1 h, aa1 (by grind)]
  by_cases h':q<p
  ·rw[aa2 h',aa2 (by grind)]
  ·rw[aa1 h',aa1 (by grind)]
theorem Km(p q:Rat):e8 (p.num*q.den) (q.num*p.den)=asQ (p-q):=by
 rw[So];unfold e8;simp only[Rat.lt_iff]
theorem JK{n d:Int}(hd:0<d)(hn:n≠0) :
  AV.agg [bl (decide (n/(Y8 n d:Int)<0)),ws (ofNat ((n/(Y8 n d:Int)).natAbs)),ws (ofNat ((d/(Y8 n d:Int)).natAbs))]=qA (Zd n d):=by
 obtain⟨h1,h2⟩:=EI hd hn
 have h3:(d/(Y8 n d:Int)).natAbs=d.natAbs/Y8 n d:=by
  have:d=(d.natAbs:Int):=by omega
  generalize Y8 n d=g;rw[this,<- Y6,aaq,aaq]
 have h4:n/(Y8 n d:Int)≠0:=by
  rw[<- h1];intro h
  have h5:=Ze.1 h;have h6:=(Rat.divInt_eq_divInt_iff (show d≠0 by omega) (show(1:Int)≠0 by decide)).1 (h5.trans (Zh 1).symm);omega
 unfold qA rt Rt.av;rw[h1,h2,h3];dsimp only;rw[aa1 h4]
def Qb(e:Nat)(q:Rat):Prop:=q.num.natAbs<2^e/\q.den<2^e
theorem Qb.mono{e f:Nat}{q:Rat}(h:Qb e q)(hf:e<=f):Qb f q :=
 ⟨Z9 h.1 (Xt oz hf),Z9 h.2 (Xt oz hf)⟩
theorem Qb.qs{e:Nat}{q:Rat}(h:Qb e q)(he:e<=4398046511104):Qs q:=by
 have h2:(4294967296:Nat)=2^32:=by decide
 have h3:∀x,x<2^e->x<4294967296^(e/32+1):=by
  intro x hx;rw[h2,<- XR];exact Z9 hx (Xt oz oz)
 by_cases h4:e=4398046511104
 ·obtain⟨k,hk⟩:∃k,k=137438953472:=⟨_,rfl⟩
  refine⟨k,by unfold dj;omega,?_,?_⟩
  ·unfold Lz;have:=h.1;rw[h2,<- XR];exact Z9 this (Xt oz oz)
  ·unfold Lz;have:=h.2;rw[h2,<- XR];exact Z9 this (Xt oz oz)
 ·exact⟨e/32+1,by unfold dj;omega,h3 _ h.1,h3 _ h.2⟩
theorem Qb.neg{e:Nat}{q:Rat}(h:Qb e q):Qb e (-q):=by
 refine⟨?_,?_⟩
 ·rw[Rat.neg_num,Int.natAbs_neg];exact h.1
 ·rw[Rat.neg_den];exact h.2
theorem ym{n d:Int}(h0:d≠0):(Zd n d).num.natAbs<=n.natAbs/\(Zd n d).den<=d.natAbs:=by
 constructor
 ·rw[Rat.num_divInt]
  have h1:(d.sign*n).natAbs=n.natAbs:=by
   rw[Y2,Int.natAbs_sign_of_ne_zero h0,Nat.one_mul]
  rw[<- h1];exact Int.natAbs_ediv_le_natAbs _ _
 ·rw[Rat.den_divInt,aa1 h0];exact XX _ _
theorem Qb.mul{e f:Nat}{p q:Rat}(h:Qb e p)(h':Qb f q):Qb (e+f) (p*q):=by
 rw[<- E4];have h0:((p.den:Int)*q.den)≠0:=Y1 (by have:=p.den_nz;omega) (by have:=q.den_nz;omega);obtain⟨h1,h2⟩:=ym (n:=p.num*q.num) h0;refine⟨aam h1 ?_,aam h2 ?_⟩
 ·rw[Y2,aat];exact XQ h.1 h'.1
 ·rw[Y2,aat,aaq,aaq];exact XQ h.2 h'.2
theorem Qb.add{e f:Nat}{p q:Rat}(h:Qb e p)(h':Qb f q):Qb (e+f+1) (p+q):=by
 rw[<- z6];have h0:((p.den:Int)*q.den)≠0:=Y1 (by have:=p.den_nz;omega) (by have:=q.den_nz;omega);obtain⟨h1,h2⟩:=ym (n:=p.num*q.den+q.num*p.den) h0;refine⟨aam h1 ?_,aam h2 ?_⟩
 ·have h3:=Int.natAbs_add_le (p.num*q.den) (q.num*p.den);rw[Y2,Y2,aaq,aaq]at h3;have h4:=XQ h.1 h'.2;have h5:=XQ h'.1 h.2;rw[X0,aat];rw[X6 (2^f)]at h5;omega
 ·rw[Y2,aaq,aaq,X0,aat];have:=XQ h.2 h'.2;omega
theorem Qb.sub{e f:Nat}{p q:Rat}(h:Qb e p)(h':Qb f q):Qb (e+f+1) (p-q):=by
 rw[Zj];exact h.add h'.neg
theorem Qb.zero:Qb 1 0:=⟨by decide,by decide⟩
theorem Qb.one:Qb 1 1:=⟨by decide,by decide⟩
theorem Rt.qb{r:Rt}{k:Nat}(h:r.ok)(hk:1<=k)(hn:r.num.length<=k)(hd:r.den.length<=k):Qb (32*k) r.q:=by
 have hB:∀{l:List Nat},Ws l->l.length<=k->val l<2^(32*k):=by
  intro l hw hl;have h1:=bg l hw;have h2:(4294967296:Nat)=2^32:=by decide
  rw[h2,<- XR]at h1;exact Z9 h1 (Xt oz oz)
 by_cases h0:r.valid=true/\r.num≠[]
 ·obtain⟨h1,h2,h3,h4,h5,h6⟩:=Rt.parts h h0.1 h0.2;refine⟨?_,?_⟩
  ·have : r.q.num.natAbs = val r.num := by rw [h1]; unfold sgn; split <;> omega
   rw[this];exact hB h.1 hn
  ·rw[h2];exact hB h.2.1 hd
 ·rw[Rt.zero h0];exact Qb.zero.mono oz
theorem Qu{r:Rt}(h0:¬(r.num=[]/\r.den=[])) :
  r.valid=cond (cond (!decide (r.num=[])&&(⟨false,r.num⟩:Wh).valid) (!decide (r.den=[])&&(⟨false,r.den⟩:Wh).valid) false) (aa .eql (e8 (Y8 r.n0.z r.d0.z) 1) 0) false:=by
 by_cases h1:r.num=[]
 ·unfold Rt.valid;rw[aa1 h0,aa2 (.inl h1)];simp[h1]
 ·by_cases h2:r.den=[]
  ·unfold Rt.valid;rw[aa1 h0,aa2 (.inr h2)];simp[h2]
  ·have e1 : aa .eql (r.num.length : Int) 0 = false := by simp [aa, h1]
   have e2:aa .eql (r.den.length:Int) 0=false:=by simp[aa,h2]
   have n0:(⟨false,r.num⟩:Wh)=r.n0:=rfl;have d0:(⟨false,r.den⟩:Wh)=r.d0:=rfl;rw[n0,d0];cases hv:r.n0.valid
   ·rw[xm h0 (by simp[hv,e1,e2])];simp
   ·cases hw:r.d0.valid
    ·rw[xm h0 (by simp[hv,hw,e1,e2])];simp
    ·rw[HH h0 (by simp[hv,hw,e1,e2])];simp[h1,h2]
theorem Con.sA{P:abe}{f:FuncId}{args args':List AV}{H H':Hp}{r:AV}(h:SubL args' args)(hc:Con P f args H r H'):Con P f args' H r H':=by
 refine⟨hc.ok,?_⟩;intro ext m w vs hext bw cM dP;refine hc.ret ext m w vs hext bw (by rw[cM,h.len]) (fun j v x hv hx=>?_);obtain⟨y,hy⟩:=f8 h.len.symm hx;exact h.get j y x hy hx _ _ _ _ (dP j v y hv hy)
def au:List Rat->Rat->Rat
  |[],_=>0
  |c::p,t=>c+t*au p t
def ptr:List Rat->List Rat
  |[]=>[]
  |c::p=>if ptr p=[]/\c=0 then[]else c::ptr p
def cS(p:List Rat):Prop:=ptr p=p
theorem lS:∀(p:List Rat)(t:Rat),au (ptr p) t=au p t
 |[],t=>rfl
 |c::p,t=>by
  have ih:=lS p t;unfold ptr;split
  ·rename_i h;rw[h.1]at ih;show 0=c+t*au p t;rw[<- ih,h.2];show(0:Rat)=0+t*0;grind
  ·show c+t*au (ptr p) t=c+t*au p t;rw[ih]
theorem BN:∀p:List Rat,ptr (ptr p)=ptr p
 |[]=>rfl
 |c::p=>by
  have ih:=BN p
  by_cases h:ptr p=[]/\c=0
  ·rw[show ptr (c::p)=[]from aa2 h];rfl
  ·rw[show ptr (c::p)=c::ptr p from aa1 h];show(if ptr (ptr p)=[]/\c=0 then[]else c::ptr (ptr p))=c::ptr p;rw[ih,aa1 h]
theorem o7(p:List Rat):cS (ptr p):=BN p
theorem cS.tail{c:Rat}{p:List Rat}(h:cS (c::p)):cS p:=by
 unfold cS ptr at h;split at h
 ·cases h
 ·exact(List.cons.inj h).2
theorem cS.ne{c:Rat}{p:List Rat}(h:cS (c::p))(hp:p=[]):c≠0:=by
 subst hp;intro hc;unfold cS ptr at h;rw[aa2 ⟨rfl,hc⟩]at h;cases h
theorem uH:∀{p:List Rat},ptr p=[]↔∀c∈p,c=0
 |[]=>⟨fun _=>fun c h=>(by cases h),fun _=>rfl⟩
 |c::p=>by
  have ih:=uH (p:=p);constructor
  ·intro h d hd;unfold ptr at h;split at h
   ·rename_i h1;rcases aai.1 hd with rfl |h2
    ·exact h1.2
    ·exact ih.1 h1.1 d h2
   ·cases h
  ·intro h;unfold ptr;rw[aa2 ⟨ih.2 (fun d hd=>h d (Z8 _ hd)),h c (aaa ..)⟩]
theorem m5:∀p:List Rat,(ptr p).length<=p.length
 |[]=>Z0 _
 |c::p=>by
  have ih:=m5 p;unfold ptr;split
  ·exact aaf _
  ·simp only[Z7];omega
theorem FZ:∀{p:List Rat}{c:Rat},c∈ptr p->c∈p
 |d::p,c,h=>by
  unfold ptr at h;split at h
  ·cases h
  ·rcases aai.1 h with rfl |h
   ·exact aaa ..
   ·exact Z8 _ (FZ h)
theorem zd{a b c:Rat}(h:a<=b)(hc:0<=c):c*a<=c*b:=Rat.mul_le_mul_of_nonneg_left h hc
theorem GA:∀(p:List Rat),ptr p≠[]->∃T δ:Rat,1<=T/\0<δ/\∀t,T<=t->δ<=au p t\/au p t <= -δ
 |[],h=>aa8 rfl h
 |c::p,h=>by
  by_cases hp:ptr p=[]
  ·have hc : c ≠ 0 := fun hc => h (by unfold ptr; rw [aa2 ⟨hp, hc⟩])
   have e:∀t,au (c::p) t=c:=fun t=>by
    show c+t*au p t=c;rw[<- lS p,hp];show c+t*0=c;grind
   rcases(Rat.le_total (a:=0) (b:=c))with h1 |h1
   ·exact⟨1,c,Zf,by grind,fun t _=>.inl (by rw[e];exact Zf)⟩
   ·exact⟨1,-c,Zf,by grind,fun t _=>.inr (by rw[e];grind)⟩
  ·obtain⟨T,δ,hT,hδ,hb⟩:=GA p hp
   obtain⟨M,h0,h1,h2⟩:∃M:Rat,0<=M/\c<=M /\ -c<=M:=by
    rcases(Rat.le_total (a:=0) (b:=c))with h1 |h1
    ·exact⟨c,h1,Zf,by grind⟩
    ·exact⟨-c,by grind,by grind,Zf⟩
   have hi:0<=M/δ:=by
    rw[Rat.div_def];exact Rat.mul_nonneg h0 (Rat.le_of_lt (Rat.inv_pos.2 hδ))
   have he:M/δ*δ=M:=Rat.div_mul_cancel (by grind);refine⟨T+1+M/δ,δ,by grind,hδ,fun t ht=>?_⟩;have VQ:T<=t:=by grind
   have h3:δ+M<=t*δ:=by
    have h4:δ*(1+M/δ)<=δ*t:=zd (by grind) (Rat.le_of_lt hδ);grind
   have IC:0<=t:=by grind
   show δ<=c+t*au p t\/c+t*au p t <= -δ;rcases hb t VQ with h5 |h5
   ·left;have h6:=zd h5 IC;grind
   ·right;have h6:=zd h5 IC;grind
theorem BQ{p:List Rat}(h:∀t,au p t=0):ptr p=[]:=by
 refine Decidable.byContradiction fun hp=>?_
 obtain⟨T,δ,_,hδ,hb⟩:=GA p hp;have h1:=hb T Zf;rw[h T]at h1;rcases h1 with h1 |h1 <;> grind
def fK:List Rat->List Rat->Rat->List Rat
  |[],q,c=>q.map fun x=>c*x
  |a::p,[],_=>a::p
  |a::p,b::q,c=>(a+c*b)::fK p q c
theorem Cr(c t:Rat):∀q:List Rat,au (q.map fun x=>c*x) t=c*au q t
 |[]=>by show(0:Rat)=c*0;grind
 |b::q=>by
  have ih:=Cr c t q;show c*b+t*au (q.map fun x=>c*x) t=c*(b+t*au q t);rw[ih];grind
theorem tl(c t:Rat):∀p q:List Rat,au (fK p q c) t=au p t+c*au q t
 |[],q=>by
  show au (q.map fun x=>c*x) t=0+c*au q t;rw[Cr];grind
 |a::p,[]=>by
  show a+t*au p t=a+t*au p t+c*0;grind
 |a::p,b::q=>by
  have ih:=tl c t p q;show(a+c*b)+t*au (fK p q c) t=a+t*au p t+c*(b+t*au q t);rw[ih];grind
theorem rv(c:Rat):∀p q:List Rat,(fK p q c).length=max p.length q.length
 |[],q=>by show(q.map _).length=_;rw[ZU];simp
 |a::p,[]=>by show(a::p).length=max (a::p).length 0;omega
 |a::p,b::q=>by
  have ih:=rv c p q;show(fK p q c).length+1=max (p.length+1) (q.length+1);omega
theorem G4(c:Rat):∀(p q:List Rat)(i:Nat),(fK p q c).getD i 0=p.getD i 0+c*q.getD i 0
 |[],q,i=>by
  show(q.map fun x=>c*x).getD i 0=0+c*q.getD i 0;rw[ZS,ZS,ZZ];cases q[i]? with
  |none=>show(0:Rat)=0+c*0;grind
  |some x=>show c*x=0+c*x;grind
 |a::p,[],i=>by show(a::p).getD i 0=(a::p).getD i 0+c*0;grind
 |a::p,b::q,0=>rfl
 |a::p,b::q,i+1=>G4 c p q i
theorem DJ:∀{p q:List Rat},cS p->cS q->(∀c∈fK p q (-1),c=0)->p=q
 |[],q,hp,hq,h=>by
  have h1:∀c∈q,c=0:=fun c hc=>by
   have:=h (-1*c) (Yr.2 ⟨c,hc,rfl⟩);grind
  have h2:=uH.2 h1;rw[hq]at h2;exact h2.symm
 |a::p,[],hp,hq,h=>by
  have h2:=uH.2 h;rw[show fK (a::p) [] (-1)=a::p from rfl,hp]at h2;exact h2
 |a::p,b::q,hp,hq,h=>by
  have h1:=h (a+-1*b) (aaa ..);have h2:=DJ hp.tail hq.tail (fun c hc=>h c (Z8 _ hc));rw[h2,show a=b by grind]
theorem wg{p q:List Rat}(hp:cS p)(hq:cS q)(h:∀t,au p t=au q t):p=q:=by
 refine DJ hp hq (uH.1 (BQ fun t=>?_));rw[tl,h];grind
def kV(p q:List Rat)(c:Rat):List Rat:=ptr (fK p q c)
theorem RJ(p q:List Rat)(c t:Rat):au (kV p q c) t=au p t+c*au q t:=by unfold kV;rw[lS,tl]
def jW:List Rat->List Rat->List Rat
  |[],_=>[]
  |a::p,q=>fK (0::jW p q) q a
def ij(p q:List Rat):List Rat:=ptr (jW p q)
theorem yZ(t:Rat):∀p q:List Rat,au (jW p q) t=au p t*au q t
 |[],q=>by show(0:Rat)=0*au q t;grind
 |a::p,q=>by
  have ih:=yZ t p q;show au (fK (0::jW p q) q a) t=(a+t*au p t)*au q t;rw[tl];show 0+t*au (jW p q) t+a*au q t=_;rw[ih];grind
theorem Fm(p q:List Rat)(t:Rat):au (ij p q) t=au p t*au q t:=by unfold ij;rw[lS,yZ]
theorem Fp(p:List Rat):ij p []=[]:=BQ fun t=>by rw[yZ];show au p t*0=0;grind
theorem DH:∀p q:List Rat,q≠[]->p≠[]->(jW p q).length+1=p.length+q.length
 |[],q,hq,hp=>aa8 rfl hp
 |[a],q,hq,_=>by
  show(fK (0::[]) q a).length+1=1+q.length;rw[rv];have:=YL.2 hq;simp only[Z7,aan];omega
 |a::b::p,q,hq,_=>by
  have ih:=DH (b::p) q hq (by simp);show(fK (0::jW (b::p) q) q a).length+1=_;rw[rv];simp only[Z7]at ih ⊢;omega
theorem ol{c:Rat}{p:List Rat}(hp:cS p)(h:p=[]->c≠0):cS (c::p):=by
 unfold cS ptr;rw[hp];split
 ·rename_i h1;exact aa8 h1.2 (h h1.1)
 ·rfl
def Pb(e:Nat)(p:List Rat):Prop:=∀c∈p,Qb e c
theorem Pb.mono{e f:Nat}{p:List Rat}(h:Pb e p)(hf:e<=f):Pb f p:=fun c hc=>(h c hc).mono hf
theorem Pb.tr{e:Nat}{p:List Rat}(h:Pb e p):Pb e (ptr p):=fun c hc=>h c (FZ hc)
theorem Pb.map{e k:Nat}{c:Rat}{p:List Rat}(h:Pb e p)(hc:Qb k c):Pb (k+e) (p.map fun x=>c*x):=fun x hx=>by
 obtain⟨y,hy,rfl⟩:=Yr.1 hx;exact hc.mul (h y hy)
theorem Pb.lin{e f k:Nat}{c:Rat}(hc:Qb k c):∀{p q:List Rat},Pb e p->Pb f q->Pb (e+(k+f)+1) (fK p q c)
 |[],q,_,hq=>(hq.map hc).mono oz
 |a::p,[],hp,_=>hp.mono oz
 |a::p,b::q,hp,hq=>fun x hx=>by
  rcases aai.1 hx with rfl |h
  ·exact(hp a (aaa ..)).add (hc.mul (hq b (aaa ..)))
  ·exact Pb.lin hc (p:=p) (q:=q) (fun y hy=>hp y (Z8 _ hy)) (fun y hy=>hq y (Z8 _ hy)) x h
theorem Pb.add{e f k:Nat}{c:Rat}{p q:List Rat}(hc:Qb k c)(hp:Pb e p)(hq:Pb f q):Pb (e+(k+f)+1) (kV p q c):=(hp.lin hc hq).tr
theorem Pb.mulL{e f:Nat}:∀{p q:List Rat},Pb e p->Pb f q->Pb (p.length*(e+f+1)+1) (jW p q)
 |[],q,_,_=>fun x hx=>by cases hx
 |a::p,q,hp,hq=>by
  have ih:=Pb.mulL (p:=p) (fun y hy=>hp y (Z8 _ hy)) hq
  have h0:Pb (p.length*(e+f+1)+1) (0::jW p q):=fun x hx=>by
   rcases aai.1 hx with rfl |h
   ·exact Qb.zero.mono oz
   ·exact ih x h
  have h1:=h0.lin (hp a (aaa ..)) hq;refine h1.mono ?_;rw[Z7,XN];omega
theorem Pb.mul{e f:Nat}{p q:List Rat}(hp:Pb e p)(hq:Pb f q):Pb (p.length*(e+f+1)+1) (ij p q):=(hp.mulL hq).tr
theorem KH(p q:List Rat)(c:Rat):(kV p q c).length<=max p.length q.length:=aaj (m5 _) (Nat.le_of_eq (rv c p q))
theorem FC(p q:List Rat):(ij p q).length<=p.length+q.length-1:=by
 by_cases hp:p=[]
 ·subst hp;exact aaf _
 by_cases hq:q=[]
 ·subst hq;rw[Fp];exact aaf _
 have h:=DH p q hq hp;have h2:=m5 (jW p q);unfold ij;omega
theorem QQ(n:Nat)(t:Rat):au (YO n 0) t=0:=by
 induction n with
 |zero=>rfl
 |succ n ih =>
  rw[List.replicate_succ];show 0+t*au (YO n 0) t=0;rw[ih];grind
theorem Fn(v t:Rat):∀(l:List Rat)(j:Nat),j<l.length->au (l.set j v) t=au l t+(v-l.getD j 0)*t^j
 |[],j,h=>by simp at h
 |c::l,0,_=>by
  show v+t*au l t=c+t*au l t+(v-c)*t^0;rw[Rat.pow_zero];grind
 |c::l,j+1,h=>by
  have ih:=Fn v t l j (by simpa using h);show c+t*au (l.set j v) t=c+t*au l t+(v-l.getD j 0)*t^(j+1);rw[ih,Rat.pow_succ];grind
theorem yT(t:Rat):∀{l:List Rat}{n:Nat}{c:Rat},l[n]?=some c->au (l.take (n+1)) t=au (l.take n) t+t^n*c
 |[],n,c,h=>by simp at h
 |d::l,0,c,h=>by
  simp at h;subst h;show d+t*0=0+t^0*d;rw[Rat.pow_zero];grind
 |d::l,n+1,c,h=>by
  have ih:=yT t (l:=l) (n:=n) (c:=c) (by simpa using h);show d+t*au (l.take (n+1)) t=d+t*au (l.take n) t+t^(n+1)*c;rw[ih,Rat.pow_succ];grind
theorem L3(t:Rat){l:List Rat}{n:Nat}{c:Rat}(h:l[n]?=some c):au (l.drop n) t=c+t*au (l.drop (n+1)) t:=by
 rw[Yd (YA.1 h).1,(YA.1 h).2];rfl
theorem dD{l:List Rat}{i:Nat}(h:i<l.length):l[i]?=some (l.getD i 0):=by
 rw[ZS,ZV h];rfl
theorem NT{l:List Rat}{i:Nat}(h:l.length<=i):l.getD i 0=0:=by rw[ZS,Z5 h];rfl
theorem vd(l:List Rat)(i j:Nat)(v:Rat)(h:i<l.length):(l.set i v).getD j 0=if j=i then v else l.getD j 0:=by
 rw[ZS,ZS,List.getElem?_set]
 by_cases e:i=j
 ·rw[aa2 e,aa2 e.symm,aa2 h];rfl
 ·rw[aa1 e,aa1 (fun h=>e h.symm)]
theorem Gs{e:Nat}{p:List Rat}(h:Pb e p)(i:Nat):Qb (e+1) (p.getD i 0):=by
 by_cases hi:i<p.length
 ·exact(h _ (ZR (dD hi))).mono oz
 ·rw[NT oz];exact Qb.zero.mono oz
theorem Kc{e:Nat}{p:List Rat}(h:∀i,Qb e (p.getD i 0)):Pb e p:=fun c hc=>by
 obtain⟨i,hi⟩:=List.getElem?_of_mem hc;have h1:=h i;rw[ZS,hi]at h1;exact h1
theorem uy{e:Nat}{p:List Rat}(h:Pb e p)(he:e<=1000000000000)(i:Nat):Qs (p.getD i 0):=(Gs h i).qs oz
open Go.Proofs
theorem L6{m:List Nat}{n:Nat}(hm:Ws m)(hn:n<=m.length)(hv:val (m.take n)=val m)(h0:n≠0)(hw:ah m (n-1)≠0) :
  AV.fz 24 1 ([]++((m.map u32).drop 0).take (n-0)) (.ms 24 1 0 (0+(((m.map u32).drop 0).take (n-0)).length))=ws (ofNat (val m)):=by
 have h1:m.take n=ofNat (val m):=by
  refine HS (fun x hx=>hm x (Yk hx)) ?_ hv;intro x hx;rw[YF,aao,X7 hn,aak,aa2 oz,gM oz]at hx;cases hx;exact hw
 rw[uk (by simp),<- h1,ws];simp[map_take,X7 hn,Yn]
theorem M3(b:Bool)(n:Nat):AV.agg [bl (bif b then aa BinOp.gtr (↑(ofNat n).length) 0 else false),ws (ofNat n)]=zA (sgn b n):=by
 have h1:(sgn b n).natAbs=n:=by unfold sgn;split <;> omega
 unfold zA ofInt Wh.av;dsimp only;rw[h1];congr 3
 have h2:(ofNat n).length=0↔n=0:=by
  rw[Yo];constructor
  ·intro h;have:=bi n;rw[h]at this;exact this.symm
  ·intro h;rw[h];rfl
 cases b with
 |false=>simp[sgn]
 |true=>simp[sgn,aa];omega
theorem pi(m:List Nat)(i:Nat)(hm:Ws m):FP 207 [ws m,i64 i] (u64 (ah m i)):=by
 refine ai func207 ?_;refine gl ?_;refine gC (fun z=>?_) (fun z=>?_)
 ·simp[aa]at z;have:=a7 hm i;refine gi (bn (i:=i) z) ?_;refine gv (u64_in oz) ?_;refine af ?_;rfl
 simp[aa]at z;refine af ?_;simp[u64,o5 z]
theorem ku(m:List Nat)(hm:Ws m)(hb:m.length<=al):FP 145 [ws m] (ws (ofNat (val m))):=by
 refine ai func145 ?_ (0,0);refine qC (t:=0) rfl (fun hl=>?_);refine go ?_;refine gl ?_;refine aK [0] [] (fun(n:Nat)=>[pP 3 (i64 n)]) (fun _=>[]) (fun n=>n<=m.length/\val (m.take n)=val m) (fun n=>n) m.length ⟨Z0 _,by rw[aab]⟩ ?_;rintro n ⟨hn,hv⟩ K1 J1;refine fD (fun h=>(bZ (by simp[aa]at h;omega) oz)) ?_;refine fL (fun h=>(bn (i:=n-1) (by simp[aa]at h;omega))) ?_;refine gC (fun t15=>?_) (fun t15=>?_)
 ·have t15 : 0 < n /\ ah m (n - 1) = 0 := by simpa [aa] using t15
  refine ga (bZ oz oz) ?_;exact aG J1 (n-1) ⟨by omega,by have h:=@bY m (n-1);rw[show n-1+1=n by omega,t15.2]at h;simp at h;omega⟩
 have t15:0<n->ah m (n-1)≠0:=by simpa[aa]using t15
 refine gC (fun z=>?_) (fun z=>?_)
 ·have h0 : n = 0 := by simpa [aa] using z
  subst h0;refine gR ?_;exact jD (by rw[show val m=0 from hv.symm.trans rfl];exact Sub.nil _ _ _)
 have h0:n≠0:=by simpa[aa]using z
 refine gs (kP T22 rfl T142 rfl rfl rfl) ?_;refine gs (d6 (.tmp rfl) (.none _) (.some _ (.tmp rfl) oz) T22 rfl T142 rfl oz (by simp;omega) rfl) ?_;refine gs (cU (.tmp rfl) rfl rfl (.tmp rfl) T22 rfl T142 rfl rfl (by unfold al at hb;simp only[aao,List.length_drop,ZU];omega) rfl rfl) ?_ (77777,0);refine gW (Wk.freeze (k:=24) rfl) ?_;refine go ?_;refine gR ?_;exact C0 (L6 hm hn hv h0 (t15 oz))
theorem ux(w:Wh)(h:w.ok):FP 27 [w.av] (bl w.valid):=by
 have hl:w.mag.length<=an:=h.2;refine ai func27 ?_;refine gl ?_;refine gC (fun z=>?_) (fun z=>?_)
 ·have h0 : w.mag = [] := by simpa [aa] using z
  refine af ?_;simp[bl,Wh.valid,h0]
 have h0:w.mag.length≠0:=by simpa[aa]using z
 refine gl ?_;refine ga (bZ oz oz) ?_;refine gi (bn (i:=w.mag.length-1) oz) ?_;refine af ?_;have h1:w.mag≠[]:=fun h=>h0 (by rw[h];rfl)
 simp only[bl,Wh.valid,aa1 h1,YF,gM (show w.mag.length-1<w.mag.length by omega),aa];congr 2;generalize ah w.mag _=x;rw[Zq];simp
theorem iQ(w:Wh)(h:w.ok):FP 81 [w.av] (ws w.m):=by
 refine ai func81 ?_;refine gc (ux w h) ?_;refine gC (fun z=>?_) (fun z=>?_)
 ·have h0 : w.valid = false := by simpa [aa] using z
  refine gR ?_;exact jD (by rw[show w.m=[] by simp[Wh.m,h0]];exact Sub.nil _ _ _)
 have h0:w.valid=true:=by simpa[aa]using z
 refine af ?_;simp only[Wh.m,h0];rfl
theorem gp(w:Wh)(h:w.ok):FP 82 [w.av] (bl w.n):=by
 refine ai func82 ?_;refine gc (ux w h) ?_;refine af ?_;simp only[Wh.n,bl];cases w.valid <;> rfl
theorem iE(b:Bool)(m:List Nat)(hm:Ws m)(hb:m.length<=al):FP 84 [bl b,ws m] (zA (sgn b (val m))):=by
 refine ai func84 ?_;refine gc (ku m hm hb) ?_;refine cu ?_;refine af ?_;exact M3 b (val m)
theorem xO(a b:List Nat)(ha:Ws a)(hb:Ws b)(na:Nz a)(nb:Nz b):FP 80 [ws a,ws b] (i64 (if val a<val b then -1 else if val b<val a then 1 else 0)):=by
 refine ai func80 ?_ (0,0);refine qC (t:=0) rfl (fun gK=>?_);refine qC (t:=1) rfl (fun fj=>?_);unfold an at gK fj;refine go ?_;refine gl ?_;refine gl ?_;refine gC (fun z=>?_) (fun z=>?_)
 ·have h0 : a.length ≠ b.length := by simpa [aa, Y4] using z
  refine gl ?_;refine gl ?_;refine gC (fun z=>?_) (fun z=>?_)
  ·have h1 : a.length < b.length := by simpa [aa] using z
   have h2:=rW ha nb h1;refine af ?_;simp[i64,h2]
  have h1:b.length<=a.length:=by simpa[aa]using z
  have h2:=rW hb na (show b.length<a.length by omega);refine af ?_;simp[i64,h2,Nat.lt_asymm h2]
 have h0:a.length=b.length:=by simpa[aa,Y4]using z
 refine gl ?_;refine ga (co oz) ?_;refine aK [0,1] [] (fun(n:Nat)=>[pP 5 (i64 ((n:Int)-1))]) (fun _=>[]) (fun n=>n<=a.length/\a.drop n=b.drop n) (fun n=>n) a.length ⟨Z0 _,by rw[List.drop_length,h0,List.drop_length]⟩ ?_ (h1:=(.cons rfl (Sub.int rfl) .nil));rintro n ⟨hn,hd⟩ K1 J1;refine gC (fun z=>?_) (fun z=>?_)
 ·have d5 : 1 <= n := by have := z; simp [aa] at this; omega
  refine gi (d9 (n:=n-1) oz (by first |omega |(simp;omega))) ?_;refine gi (d9 (n:=n-1) oz (by first |omega |(simp;omega))) ?_;refine gD ?_;refine gC (fun z=>?_) (fun z=>?_)
  ·have h3 : ah a (n - 1) ≠ ah b (n - 1) := by simpa [aa, Y4] using z
   refine gi (d9 (n:=n-1) oz (by first |omega |(simp;omega))) ?_;refine gi (d9 (n:=n-1) oz (by first |omega |(simp;omega))) ?_;refine gD ?_;refine gC (fun z=>?_) (fun z=>?_)
   ·have h4 : ah a (n - 1) < ah b (n - 1) := by simpa [aa] using z
    have h5:=Dn ha h0 oz (by rw[XL d5];exact hd) h4;refine af ?_;simp[i64,h5]
   have h4:ah b (n-1)<ah a (n-1):=by have:ah b (n-1)<=ah a (n-1):=(by simpa[aa]using z);omega
   have h5:=Dn hb h0.symm oz (by rw[XL d5];exact hd.symm) h4;refine af ?_;simp[i64,h5,Nat.lt_asymm h5]
  have h3:ah a (n-1)=ah b (n-1):=by simpa[aa,Y4]using z
  refine ga (co oz) ?_;exact aG J1 (n-1) ⟨by omega,by rw[Yd (show n-1<a.length by omega),Yd (show n-1<b.length by omega),XL d5,hd];congr 1;exact Ql oz oz h3⟩
 have d5:n=0:=by have:=z;simp[aa]at this;omega
 subst d5;refine af ?_;simp at hd;simp[i64,hd]
theorem CS(a b:List Nat)(ha:Ws a)(hb:Ws b)(la:a.length<al)(lb:b.length<al):FP 152 [ws a,ws b] (ws (ofNat (val a+val b))):=by
 unfold al at la lb;obtain⟨n,hn⟩:∃n,n=max a.length b.length+1:=⟨_,rfl⟩
 refine ai func152 ?_;refine gl ?_;refine gl ?_;refine gs (qo (.tmp rfl) (.tmp rfl) rfl) ?_;refine ga (show _=(n:Int) by rw[cf oz];omega) ?_;refine gs (fW (.tmp rfl) T22 rfl T142 rfl rfl oz (by dsimp only;omega) rfl) ?_;refine io [0,1,16] [] (fun(out:List Nat)(c i:Nat)=>[pP 5 (.ms 14 1 0 n),pP 6 (u64 c),pP 17 (i64 i)]) (fun out _ _=>[pP 14 (.row 1 (out.map u32))]) (fun out c i=>out.length=n/\i<=n/\Ws out/\c<=1/\val (out.take i)+c*4294967296^i=val (a.take i)+val (b.take i)) (fun _ _ i=>n-i) (YO n 0) 0 0 ⟨by simp,by omega,jC n,by omega,by simp[val]⟩ ?_ (h2:=(.cons rfl (.of (by rw[aau];rfl)) .nil))
 rintro out c i ⟨ho,hi,hw,hc,hv⟩ K1 J1;refine gC (fun z=>?_) (fun z=>?_) (st2:=(10,0))
 ·have ab : i < n := by simpa [aa] using z
  have h1:=a7 ha i;have h2:=a7 hb i;refine gc (by apply pi <;> assumption) ?_;refine gc (by apply pi <;> assumption) ?_;refine ga (gk oz) ?_;refine ga (gk oz) ?_;refine gv (cm _) ?_;refine gs (aP (n:=i) (.tmp rfl) (.tmp rfl) T22 rfl T142 rfl oz (by first |omega |(simp;omega)) rfl) ?_;refine gs (bJ (.tmp rfl) rfl (bn (i:=i) oz) rfl (.tmp rfl) rfl rfl T142 rfl rfl) ?_;refine gs (dg (.tmp rfl) (.const _) oz (fd _ 32 oz) rfl) ?_;refine ga (cf oz) ?_;exact fa J1 (out.set i ((c+(ah a i+ah b i))%4294967296)) ((c+(ah a i+ah b i))/4294967296) (i+1) ⟨by simp[ho],by omega,eG hw oz,by omega,by rw[jJ oz,bY,bY,X0];exact yP hv⟩ (hw:=Wk.of aI (.cons rfl (.of (by rw[aaw];rfl)) .nil))
 have ab:i=n:=by have:n<=i:=(by simpa[aa]using z);omega
 refine gW ((Wk.freeze (k:=14) rfl).trans<|Wk.of (sl:=[pP 5 (ws out)]) (hp:=[]) (.cons rfl (.of (bH (by simp[ho]))) .nil) .nil) ?_;refine gc (ku out hw (by unfold al;omega)) ?_;refine af ?_;rw[CW ha hb hn ho (ab▸hv)]
theorem zC(a b:List Nat)(ha:Ws a)(hb:Ws b)(la:a.length<=al)(lb:b.length<=a.length)(aU:val b<=val a):FP 153 [ws a,ws b] (ws (ofNat (val a-val b))):=by
 have la':=la;unfold al at la;obtain⟨n,hn⟩:∃n,n=a.length:=⟨_,rfl⟩
 refine ai func153 ?_;refine gl ?_;refine gs (fW (.tmp rfl) T22 rfl T142 rfl rfl oz (by dsimp only;omega) rfl) ?_;refine io [0,1,13] [] (fun(out:List Nat)(c i:Nat)=>[pP 5 (.ms 11 1 0 a.length),pP 6 (u64 c),pP 14 (i64 i)]) (fun out _ _=>[pP 11 (.row 1 (out.map u32))]) (fun out c i=>out.length=a.length/\i<=a.length/\Ws out/\c<=1/\val (out.take i)+val (b.take i)=val (a.take i)+c*4294967296^i) (fun _ _ i=>a.length-i) (YO a.length 0) 0 0 ⟨by simp,by omega,jC _,by omega,by simp[val]⟩ ?_ (h2:=(.cons rfl (.of (by rw[aau];rfl)) .nil))
 rintro out c i ⟨ho,hi,hw,hc,hv⟩ K1 J1;refine gC (fun z=>?_) (fun z=>?_) (st2:=(10,0))
 ·have ab : i < a.length := by simpa [aa] using z
  have h1:=a7 ha i;have h2:=a7 hb i;have h3:=Ee h1 h2 hc hv;obtain⟨d,hd⟩:∃d,d=if ah b i+c<=ah a i then ah a i-ah b i-c else ah a i+18446744073709551616-ah b i-c:=⟨_,rfl⟩
  rw[<- hd]at h3;have pU:d<18446744073709551616:=by rw[hd];split <;> omega
  refine gi (d9 (n:=i) oz (by first |omega |(simp;omega))) ?_;refine gv (u64_in oz) ?_;refine gc (by apply pi <;> assumption) ?_;refine ga (jm oz oz) ?_;refine ga (show _=(d:Int) by rw[jm (by split <;> omega) oz,hd];congr 1;(repeat' split) <;> omega) ?_;refine gD ?_;refine gv (cm _) ?_;refine gs (aP (n:=i) (.tmp rfl) (.tmp rfl) T22 rfl T142 rfl oz (by first |omega |(simp;omega)) rfl) ?_;refine gs (bJ (.tmp rfl) rfl (bn (i:=i) oz) rfl (.tmp rfl) rfl rfl T142 rfl rfl) ?_;refine gs (dg (.tmp rfl) (.const _) oz (fd _ 63 oz) rfl) ?_;refine ga (cf oz) ?_;exact fa J1 (out.set i (d%4294967296)) (d/2^63) (i+1) ⟨by simp[ho],by omega,eG hw oz,by omega,by rw[jJ oz,bY,bY,X0];exact h3⟩ (hw:=Wk.of aI (.cons rfl (.of (by rw[aaw];rfl)) .nil))
 have ab:i=a.length:=by have:a.length<=i:=(by simpa[aa]using z);omega
 refine gW ((Wk.freeze (k:=11) rfl).trans<|Wk.of (sl:=[pP 5 (ws out)]) (hp:=[]) (.cons rfl (.of (bH (by simp[ho]))) .nil) .nil) ?_;refine gc (ku out hw (by rw[ho];exact la')) ?_;refine af ?_;rw[Uf hw ho aU lb (ab▸hv)]
theorem TX(a b:List Nat)(ha:Ws a)(hb:Ws b)(la:a.length+b.length<=al):FP 103 [ws a,ws b] (ws (ofNat (val a*val b))):=by
 have la':=la;unfold al at la;refine ai func103 ?_;refine gl ?_;refine gl ?_;refine ga (eY (by unfold an;omega) (by unfold an;omega)) ?_;refine gs (fW (.tmp rfl) T22 rfl T142 rfl rfl oz (by dsimp only;omega) rfl) ?_;refine gl ?_;refine ek [0,1,17,18] [] (fun(out:List Nat)(i:Nat)=>[pP 5 (.ms 16 1 0 (a.length+b.length)),pP 19 (i64 i)]) (fun out _=>[pP 16 (.row 1 (out.map u32))]) (fun out i=>out.length=a.length+b.length/\i<=a.length/\Ws out/\val (out.take (i+b.length))=val (a.take i)*val b) (fun _ i=>a.length-i) (YO (a.length+b.length) 0) 0 ⟨by simp,by omega,jC _,by simp[val,uS]⟩ ?_ (h2:=(.cons rfl (.of (by rw[aau];rfl)) .nil))
 rintro out i ⟨ho,hi,hw,hv⟩ K1 J1;refine gC (fun z=>?_) (fun z=>?_) (st2:=(15,0))
 ·have ab : i < a.length := by simpa [aa] using z
  have h1:=a7 ha i;refine gi (d9 (n:=i) oz (by first |omega |(simp;omega))) ?_;refine gl ?_;refine io [0,1,17,18,19,6,7,24,25] [] (fun(o:List Nat)(c k:Nat)=>[pP 5 (.ms 16 1 0 (a.length+b.length)),pP 8 (u64 c),pP 26 (i64 k)]) (fun o _ _=>[pP 16 (.row 1 (o.map u32))]) (fun o c k=>o.length=a.length+b.length/\k<=b.length/\Ws o/\c<4294967296/\val (o.take (i+b.length))+c*4294967296^(i+k)=val (out.take (i+b.length))+4294967296^i*(ah a i*val (b.take k))) (fun _ _ k=>b.length-k) out 0 0 ⟨ho,by omega,hw,by omega,by simp[val]⟩ ?_
  rintro o c k ⟨fh,hk,iv,hc,fi⟩ K2 J2;refine gC (fun z=>?_) (fun z=>?_)
  ·have bP : k < b.length := by simpa [aa] using z
   have h2:=a7 hb k;have h3:=a7 iv (i+k);have h4:=vz h1 h2;have h5:=GJ (x:=(c+(ah a i*ah b k+ah o (i+k)))%4294967296) (show i+k<o.length by omega) (show i+k<i+b.length by omega);have h6:=GR h5 rfl fi;refine gi (d9 (n:=k) oz (by first |omega |(simp;omega))) ?_;refine gv (u64_in oz) ?_;refine gv (u64_in oz) ?_;refine ga (uc oz) ?_;refine ga (eY (by unfold an;omega) (by unfold an;omega)) ?_;refine gs (aP (n:=i+k) (.tmp rfl) (.tmp rfl) T22 rfl T142 rfl oz (by first |omega |(simp;omega)) rfl) ?_;refine gs (ay (.tmp rfl) rfl (bn (i:=i+k) oz) T142 rfl rfl rfl) ?_;refine gv (u64_in oz) ?_;refine ga (gk oz) ?_;refine ga (gk oz) ?_;refine ga (eY (by unfold an;omega) (by unfold an;omega)) ?_;refine gv (cm _) ?_;refine gs (aP (n:=i+k) (.tmp rfl) (.tmp rfl) T22 rfl T142 rfl oz (by first |omega |(simp;omega)) rfl) ?_;refine gs (bJ (.tmp rfl) rfl (bn (i:=i+k) oz) rfl (.tmp rfl) rfl rfl T142 rfl rfl) ?_;refine gs (dg (.tmp rfl) (.const _) oz (fd _ 32 oz) rfl) ?_;refine ga (cf oz) ?_;exact fa J2 (o.set (i+k) ((c+(ah a i*ah b k+ah o (i+k)))%4294967296)) ((c+(ah a i*ah b k+ah o (i+k)))/4294967296) (k+1) ⟨by simp[fh],by omega,eG iv oz,by omega,by rw[show i+(k+1)=(i+k)+1 from rfl,X0,h6,bY];simp only[aat];grind⟩ (hw:=Wk.of aI (.cons rfl (.of (by rw[aaw];rfl)) .nil))
  have bP:k=b.length:=by have:b.length<=k:=(by simpa[aa]using z);omega
  subst bP;have h5:=jJ (x:=c) (show i+b.length<o.length by omega);rw[aab]at fi;refine gl ?_;refine ga (eY (by unfold an;omega) (by unfold an;omega)) ?_;refine gv ((cm c).trans (by rw[Xr hc])) ?_;refine gs (aP (n:=i+b.length) (.tmp rfl) (.tmp rfl) T22 rfl T142 rfl oz (by first |omega |(simp;omega)) rfl) ?_;refine gs (bJ (.tmp rfl) rfl (bn (i:=i+b.length) oz) rfl (.tmp rfl) rfl rfl T142 rfl rfl) ?_;refine ga (cf oz) ?_;exact dt J1 (o.set (i+b.length) c) (i+1) ⟨by simp[fh],by omega,eG iv hc,by rw[show i+1+b.length=i+b.length+1 by omega,h5,bY];simp only[aat]at *;grind⟩ (hw:=Wk.of aI (.cons rfl (.of (by rw[aaw];rfl)) .nil))
 have ab:i=a.length:=by have:a.length<=i:=(by simpa[aa]using z);omega
 subst ab;rw[aab,dk oz]at hv;refine gW ((Wk.freeze (k:=16) rfl).trans<|Wk.of (sl:=[pP 5 (ws out)]) (hp:=[]) (.cons rfl (.of (bH (by simp[ho]))) .nil) .nil) ?_;refine gc (ku out hw oz) ?_;refine af ?_;rw[hv]
theorem JD(a:List Nat)(w:Nat)(ha:Ws a)(la:a.length<=al)(AD:0<w)(VR:w<4294967296):FP 146 [ws a,u32 w] (.tup [ws (ofNat (val a/w)),u32 (val a%w)]):=by
 have la':=la;unfold al at la;refine ai func146 ?_;refine gl ?_;refine gs (fW (.tmp rfl) T22 rfl T142 rfl rfl oz (by dsimp only;omega) rfl) ?_;refine gl ?_;refine ga (co oz) ?_;refine io [0,1] [] (fun(out:List Nat)(r i:Nat)=>[pP 6 (.ms 11 1 0 a.length),pP 7 (u64 r),pP 8 (i64 ((i:Int)-1))]) (fun out _ _=>[pP 11 (.row 1 (out.map u32))]) (fun out r i=>out.length=a.length/\i<=a.length/\Ws out/\r<w/\val (a.drop i)=w*val (out.drop i)+r) (fun _ _ i=>i) (YO a.length 0) 0 a.length ⟨by simp,by omega,jC _,by omega,by simp[val]⟩ ?_ (h2:=(.cons rfl (.of (by rw[aau];rfl)) .nil))
 rintro out r i ⟨ho,hi,hw,hr,hv⟩ K1 J1;refine gC (fun z=>?_) (fun z=>?_) (st2:=(9,0))
 ·have d5 : 1 <= i := by have := z; simp [aa] at this; omega
  obtain⟨k,rfl⟩:∃k,i=k+1:=⟨i-1,by omega⟩
  have h1:=a7 ha k;have h2:=Nx hr h1;refine gs (jk (.tmp rfl) (.const _) oz (ox (n:=32) oz oz) rfl) ?_;refine gi (d9 (n:=k) oz (by first |omega |(simp;omega))) ?_;refine gv (u64_in oz) ?_;refine gs (il (.tmp rfl) (.tmp rfl) rfl ((qU oz oz).trans (by rw[rK oz])) rfl) ?_;refine gv (u64_in oz) ?_;refine gs (kt (.tmp rfl) (.tmp rfl) oz (FI oz) rfl) ?_;refine gv ((cm _).trans (by rw[Xr h2])) ?_;refine gs (aP (n:=k) (.tmp rfl) (.tmp rfl) T22 rfl T142 rfl oz (by first |omega |(simp;omega)) rfl) ?_;refine gs (bJ (.tmp rfl) rfl (bn (i:=k) oz) rfl (.tmp rfl) rfl rfl T142 rfl rfl) ?_;refine gv (u64_in oz) ?_;refine gs (tP (.tmp rfl) (.tmp rfl) oz Dw rfl) ?_;refine ga (co oz) ?_;exact fa J1 (out.set k ((r*2^32+ah a k)/w)) ((r*2^32+ah a k)%w) k ⟨by simp[ho],by omega,eG hw h2,X8 _ AD,QR oz oz hv⟩ (hw:=Wk.of aI (.cons rfl (.of (by rw[aaw];rfl)) .nil))
 have ab:i=0:=by have:=z;simp[aa]at this;omega
 subst ab;obtain⟨h3,h4⟩:=vG hv hr;simp only[aax]at h3 h4;refine gW ((Wk.freeze (k:=11) rfl).trans<|Wk.of (sl:=[pP 6 (ws out),pP 7 (u64 r)]) (hp:=[]) (.cons rfl (.of (bH (by simp[ho]))) (.k .nil)) .nil) ?_;refine gc (ku out hw oz) ?_;refine gv ((cm _).trans (by rw[Xr oz])) ?_;refine bh ?_;rw[h3,h4];rfl
theorem Hn(d:Nat)(hd:XU d 1000=true)(a:List Nat)(n:Nat)(ha:Ws a)(la:a.length<al)(hn:n<32):Con prog 148 [ws a,i64 n] [] (.ms d 1 0 (a.length+1)) [(d,some (.row 1 ((aD (a.length+1) (2^n*val a)).map u32)))]:=by
 have la':=la;unfold al at la;refine gF func148 (fun k z h=>by cases h) ?_;refine gl ?_;refine ga (eY (y:=1) (by unfold an;omega) (by unfold an;omega)) ?_;refine gs (fW (.tmp rfl) T22 rfl T142 rfl rfl oz (by dsimp only;omega) rfl) ?_;refine gl ?_;refine ek [0,1,13,14] [] (fun(out:List Nat)(i:Nat)=>[pP 5 (.ms 12 1 0 (a.length+1)),pP 15 (i64 i)]) (fun out _=>[pP 12 (.row 1 (out.map u32))]) (fun out i=>out.length=a.length+1/\i<=a.length/\Ws out/\ah out i<2^n/\val (out.take (i+1))=2^n*val (a.take i)) (fun _ i=>a.length-i) (YO (a.length+1) 0) 0 ⟨by simp,by omega,jC _,by simp[ah,Xx],by simp[val,List.replicate_succ]⟩ ?_ (h2:=(.cons rfl (.of (by rw[aau];rfl)) .nil))
 rintro out i ⟨ho,hi,hw,hr,hv⟩ K1 J1;refine gC (fun u=>?_) (fun u=>?_)
 ·have ab : i < a.length := by simpa [aa] using u
  have h1:=a7 ha i;have h2:=Of (a:=a) (i:=i) (n:=n) (show i+1<out.length by omega) hv;have h3:=Ra (x:=ah a i) hn hr;have h4:=Mh (n:=n) h1;have h5:2^n<=2^31:=m8 oz;have h6:ah a i*2^n<=ah a i*2^31:=Z4 _ h5;have h7:=a7 hw i;refine gi (d9 (n:=i) oz (by first |omega |(simp;omega))) ?_;refine gv (u64_in oz) ?_;refine gs (jk (.tmp rfl) (.tmp rfl) oz (ox oz oz) rfl) ?_;refine gs (aP (n:=i) (.tmp rfl) (.tmp rfl) T22 rfl T142 rfl oz (by first |omega |(simp;omega)) rfl) ?_;refine gs (ay (.tmp rfl) rfl (bn (i:=i) oz) T142 rfl rfl rfl) ?_;refine gv (cm _) ?_;refine gs (il (.tmp rfl) (.tmp rfl) rfl ((wD oz oz).trans (by rw[PO hn hr])) rfl) ?_;refine gs (aP (n:=i) (.tmp rfl) (.tmp rfl) T22 rfl T142 rfl oz (by first |omega |(simp;omega)) rfl) ?_;refine gs (bJ (.tmp rfl) rfl (bn (i:=i) oz) rfl (.tmp rfl) rfl rfl T142 rfl rfl) ?_;refine ga (eY (y:=1) (by unfold an;omega) (by unfold an;omega)) ?_;refine gs (dg (.tmp rfl) (.const _) oz (fd _ 32 oz) rfl) ?_;refine gv ((cm _).trans (by rw[Xr (show ah a i*2^n/2^32<4294967296 by omega)])) ?_;refine gs (aP (n:=i+1) (.tmp rfl) (.tmp rfl) T22 rfl T142 rfl oz (by first |omega |(simp;omega)) rfl) ?_;refine gs (bJ (.tmp rfl) rfl (by rw[List.getElem?_set_ne oz];exact bn (i:=i+1) oz) rfl (.tmp rfl) rfl rfl T142 rfl rfl) ?_;refine ga (cf oz) ?_;exact dt J1 ((out.set i (ah out i+ah a i*2^n%4294967296)).set (i+1) (ah a i*2^n/4294967296)) (i+1) ⟨by simp[ho],by omega,eG (eG hw oz) oz,by rw[PP (by simp;omega)];exact h4,h2⟩ (hw:=Wk.of aI (.cons rfl (.of (by rw[aaw,aaw];rfl)) .nil))
 have ab:i=a.length:=by have:a.length<=i:=(by simpa[aa]using u);omega
 subst ab;rw[aab,dk oz]at hv;refine gR ?_;exact aM.own1 rfl hd (by rw[uZ hw ho hv])
theorem O5(a:List Nat)(n:Nat)(ha:Ws a)(la:a.length<=al)(hn:n<32):FP 151 [ws a,i64 n] (ws (ofNat (val a/2^n))):=by
 have la':=la;unfold al at la;refine ai func151 ?_;refine gl ?_;refine gs (fW (.tmp rfl) T22 rfl T142 rfl rfl oz (by dsimp only;omega) rfl) ?_;refine gl ?_;refine ek [0,1,11] [] (fun(out:List Nat)(i:Nat)=>[pP 5 (.ms 9 1 0 a.length),pP 12 (i64 i)]) (fun out _=>[pP 9 (.row 1 (out.map u32))]) (fun out i=>out.length=a.length/\i<=a.length/\Ws out/\val (out.take i)=val a/2^n%4294967296^i) (fun _ i=>a.length-i) (YO a.length 0) 0 ⟨by simp,by omega,jC _,by simp[val,Nat.mod_one]⟩ ?_ (h2:=(.cons rfl (.of (by rw[aau];rfl)) .nil))
 rintro out i ⟨ho,hi,hw,hv⟩ K1 J1;refine gC (fun z=>?_) (fun z=>?_) (st2:=(7,0))
 ·have ab : i < a.length := by simpa [aa] using z
  have h1:=a7 ha i;have h2:=a7 ha (i+1);have h3:=CD ha ab (show i<out.length by omega) (show n<=32 by omega) hv;refine gi (d9 (n:=i) oz (by first |omega |(simp;omega))) ?_;refine gv (u64_in oz) ?_;refine ga (eY (y:=1) (by unfold an;omega) (by unfold an;omega)) ?_;refine gc (pi a (i+1) ha) ?_;refine gs (jk (.tmp rfl) (.const _) oz (ox (n:=32) oz oz) rfl) ?_;refine gs (il (.tmp rfl) (.tmp rfl) rfl ((qU oz oz).trans (by rw[zK oz])) rfl) ?_;refine gs (dg (.tmp rfl) (.tmp rfl) oz (fd _ _ oz) rfl) ?_;refine gv (cm _) ?_;refine gs (aP (n:=i) (.tmp rfl) (.tmp rfl) T22 rfl T142 rfl oz (by first |omega |(simp;omega)) rfl) ?_;refine gs (bJ (.tmp rfl) rfl (bn (i:=i) oz) rfl (.tmp rfl) rfl rfl T142 rfl rfl) ?_;refine gD ?_;refine ga (cf oz) ?_;exact dt J1 (out.set i ((ah a i+ah a (i+1)*2^32)/2^n%4294967296)) (i+1) ⟨by simp[ho],by omega,eG hw oz,h3⟩ (hw:=Wk.of aI (.cons rfl (.of (by rw[aaw];rfl)) .nil))
 have ab:i=a.length:=by have:a.length<=i:=(by simpa[aa]using z);omega
 refine gW ((Wk.freeze (k:=9) rfl).trans<|Wk.of (sl:=[pP 5 (ws out)]) (hp:=[]) (.cons rfl (.of (bH (by simp[ho]))) .nil) .nil) ?_;refine gc (ku out hw oz) ?_;refine af ?_;rw[Mn ha ho (ab▸hv)]
theorem N2{b:Nat}{p:Prop}[Decidable p](h:b=1↔p):ck [AV.v (Value.bool (aa BinOp.eql (b:Int) 1))]=bl (decide p):=by
 have:((b:Int)==1)=decide (b=1):=by rw[Zq];simp;omega
 simp only[ck,aa,this,bl];rw[decide_eq_decide.2 h]
theorem NS(u v:List Nat)(off len n:Nat)(hu:Ws u)(hv:Ws v)(jt:v.length+1<=len)(hj:off+len<=u.length)(hn:n<4294967296)(lu:u.length<=an) :
  Con prog 149 [.ms 1000 1 off len,ws v,u64 n] [pP 1000 (.row 1 (u.map u32))] (bl (decide (val (aL u off len)<n*val v)))
   [pP 1000 (.row 1 ((wr u off (aD len (iP n (val v) (val (aL u off len)) len))).map u32))]:=by
 unfold an at lu;refine gF func149 (fun k z h=>ja h) ?_;refine Gu [1,2,12] [] (fun(o:List Nat)(c b lo i:Nat)=>[pP 0 (.ms 1000 1 off len),pP 7 (u64 c),pP 8 (u64 b),pP 13 (i64 i)]) (fun o _ _ _ _=>[pP 1000 (.row 1 (o.map u32))]) (fun o c b lo i=>o.length=u.length/\i<=len/\Ws o/\c<4294967296/\b<=1/\o.take off=u.take off/\o.drop (off+i)=u.drop (off+i)/\lo+c*4294967296^i=n*val (v.take i)/\val (aL o off i)+lo=val (aL u off i)+b*4294967296^i) (fun _ _ _ _ i=>len-i) u 0 0 0 0 ⟨rfl,by omega,hu,by omega,by omega,rfl,rfl,by simp[val],by simp[]⟩ ?_
 rintro o c b lo i ⟨ho,hi,hw,hc,hb,pU,ju,pV,fi⟩ K1 J1;refine gC (fun y=>?_) (fun y=>?_)
 ·have ab : i < len := by simpa [aa] using y
  have h1:=a7 hu (off+i);have h2:=a7 hv i;have h0:=oV ju;have h4:=vz hn h2;obtain⟨c1,ff⟩:∃c1,c1=c+n*ah v i:=⟨_,rfl⟩
  have h3:=Ee h1 (show c1%4294967296<4294967296 by omega) hb fi;obtain⟨d,hd⟩:∃d,d=if c1%4294967296+b<=ah u (off+i)then ah u (off+i)-c1%4294967296-b else ah u (off+i)+18446744073709551616-c1%4294967296-b:=⟨_,rfl⟩
  rw[<- hd]at h3;have W0:d<18446744073709551616:=by rw[hd];split <;> omega
  have h5:=Kf (w:=ah v i) pV;refine gc (by apply pi <;> assumption) ?_;refine ga (uc oz) ?_;refine ga ((gk oz).trans (by rw[<- ff])) ?_;refine gs (f6 (n:=i) (.tmp rfl) (.tmp rfl) T22 rfl T142 rfl oz (by first |omega |(simp;omega)) rfl) ?_;refine gs (ay (.tmp rfl) rfl (by rw[bn (show off+i<o.length by omega),h0]) T142 rfl rfl rfl) ?_;refine gv (u64_in oz) ?_;refine gv (cm _) ?_;refine gv (u64_in oz) ?_;refine ga (jm oz oz) ?_;refine ga (show _=(d:Int) by rw[jm (by split <;> omega) oz,hd];congr 1;(repeat' split) <;> omega) ?_;refine gv (cm _) ?_;refine gs (f6 (n:=i) (.tmp rfl) (.tmp rfl) T22 rfl T142 rfl oz (by first |omega |(simp;omega)) rfl) ?_;refine gs (bJ (.tmp rfl) rfl (bn (i:=off+i) oz) rfl (.tmp rfl) rfl rfl T142 rfl rfl) ?_;refine gs (dg (.tmp rfl) (.const _) oz (fd _ 63 oz) rfl) ?_;refine gs (dg (.tmp rfl) (.const _) oz (fd _ 32 oz) rfl) ?_;refine ga (cf oz) ?_;exact Hq J1 (o.set (off+i) (d%4294967296)) (c1/4294967296) (d/2^63) (lo+4294967296^i*(c1%4294967296)) (i+1) ⟨by simp[ho],by omega,eG hw oz,by omega,by omega,by rw[List.take_set_of_le oz];exact pU,qu ju,by rw[bY,X0,ff];exact h5,by rw[EN oz,DE,X0];exact h3⟩ (hw:=Wk.of aI (.cons rfl (.of (by rw[aaw];rfl)) .nil))
 have ab:i=len:=by have:len<=i:=(by simpa[aa]using y);omega
 subst ab;obtain⟨h6,h7⟩:=P6 hu hw ho hj hv jt hn pU ju hb pV fi;refine gR ?_;exact aM.own2 rfl (by rw[<- h6]) (N2 h7)
theorem NL(u v:List Nat)(off len:Nat)(hu:Ws u)(hv:Ws v)(jt:v.length<=len)(hj:off+len<=u.length)(lu:u.length<=an) :
  Con prog 150 [.ms 1000 1 off len,ws v] [pP 1000 (.row 1 (u.map u32))] (.tup [])
   [pP 1000 (.row 1 ((wr u off (aD len ((val (aL u off len)+val v)%4294967296^len))).map u32))]:=by
 unfold an at lu;refine gF func150 (fun k z h=>ja h) ?_;refine io [1,7] [] (fun(o:List Nat)(c i:Nat)=>[pP 0 (.ms 1000 1 off len),pP 4 (u64 c),pP 8 (i64 i)]) (fun o _ _=>[pP 1000 (.row 1 (o.map u32))]) (fun o c i=>o.length=u.length/\i<=len/\Ws o/\c<=1/\o.take off=u.take off/\o.drop (off+i)=u.drop (off+i)/\val (aL o off i)+c*4294967296^i=val (aL u off i)+val (v.take i)) (fun _ _ i=>len-i) u 0 0 ⟨rfl,by omega,hu,by omega,rfl,rfl,by simp[val]⟩ ?_
 rintro o c i ⟨ho,hi,hw,hc,pU,ju,fi⟩ K1 J1;refine gC (fun y=>?_) (fun y=>?_)
 ·have ab : i < len := by simpa [aa] using y
  have h1:=a7 hu (off+i);have h2:=a7 hv i;have h0:=oV ju;have h3:=yP (u:=ah u (off+i)) (w:=ah v i) fi;refine gs (f6 (n:=i) (.tmp rfl) (.tmp rfl) T22 rfl T142 rfl oz (by first |omega |(simp;omega)) rfl) ?_;refine gs (ay (.tmp rfl) rfl (by rw[bn (show off+i<o.length by omega),h0]) T142 rfl rfl rfl) ?_;refine gv (u64_in oz) ?_;refine gc (by apply pi <;> assumption) ?_;refine ga (gk oz) ?_;refine ga (gk oz) ?_;refine gD ?_;refine gv (cm _) ?_;refine gs (f6 (n:=i) (.tmp rfl) (.tmp rfl) T22 rfl T142 rfl oz (by first |omega |(simp;omega)) rfl) ?_;refine gs (bJ (.tmp rfl) rfl (bn (i:=off+i) oz) rfl (.tmp rfl) rfl rfl T142 rfl rfl) ?_;refine gs (dg (.tmp rfl) (.const _) oz (fd _ 32 oz) rfl) ?_;refine ga (cf oz) ?_;exact fa J1 (o.set (off+i) ((c+(ah u (off+i)+ah v i))%4294967296)) ((c+(ah u (off+i)+ah v i))/4294967296) (i+1) ⟨by simp[ho],by omega,eG hw oz,by omega,by rw[List.take_set_of_le oz];exact pU,qu ju,by rw[EN oz,DE,bY,X0];exact h3⟩ (hw:=Wk.of aI (.cons rfl (.of (by rw[aaw];rfl)) .nil))
 have ab:i=len:=by have:len<=i:=(by simpa[aa]using y);omega
 subst ab;have h6:=NW hw ho hj jt pU ju fi;refine gR ?_;exact aM.own2 rfl (by rw[<- h6]) rfl
theorem PH(x:Nat)(hx:x<4294967296):FP 162 [u32 x] (i64 (ax x)):=by
 refine ai func162 ?_;refine gC (fun u=>?_) (fun u=>?_)
 ·obtain ⟨y, hy, h2, h3⟩ : ∃ y, y = x / 2 ^ 16 /\ y < 65536 /\ ax x = 16 + ax y := ⟨_, rfl, by omega, qQ (by have := u; simp [aa] at this; omega)⟩
  refine gs (dg (.tmp rfl) (.const _) oz ((oS x 16 oz).trans (by rw[<- hy])) rfl) ?_;refine gC (fun t8=>?_) (fun t8=>?_)
  ·have h5 : 2 ^ 8 <= y := by simp [aa] at t8; omega
   obtain⟨z,hz,h6,h7⟩:∃z,z=y/2^8/\z<256/\ax x=(ax x-ax y)+8+ax z:=⟨_,rfl,by omega,by have:=qQ h5;omega⟩
   refine gs (dg (.tmp rfl) (.const _) oz ((oS _ 8 oz).trans (show _=(z:Int) by first |(rw[hz];done) |(rw[hz,hy];done))) rfl) ?_;refine ga (cf oz) ?_;refine gv (show IntKind.u8.wrap _=(z:Int) by first |exact gV h6 |(rw[hz];exact gV oz) |(rw[hz,hy];exact gV oz)) ?_;refine gs (qH (y:=z) (.const _) (.tmp rfl) T9 rfl (by kernel_rfl) (by first |rfl |omega) oz rfl) ?_;refine gv (i64_in (by have:=gu h6;omega)) ?_;refine ga (cf (by have:=gu h6;omega)) ?_;refine af ?_;simp only[i64];congr 2;have:=gu h6;omega
  have h5:y<2^8:=by simp[aa]at t8;omega
  obtain⟨z,hz,h6,h7⟩:∃z,z=y/\z<256/\ax x=(ax x-ax y)+ax z:=⟨_,rfl,by omega,by omega⟩
  refine gv (show IntKind.u8.wrap _=(z:Int) by first |exact gV h6 |(rw[hz];exact gV oz) |(rw[hz,hy];exact gV oz)) ?_;refine gs (qH (y:=z) (.const _) (.tmp rfl) T9 rfl (by kernel_rfl) (by first |rfl |omega) oz rfl) ?_;refine gv (i64_in (by have:=gu h6;omega)) ?_;refine ga (cf (by have:=gu h6;omega)) ?_;refine af ?_;simp only[i64];congr 2;have:=gu h6;omega
 obtain⟨y,hy,h2,h3⟩:∃y,y=x/\y<65536/\ax x=0+ax y:=⟨_,rfl,by have:=u;simp[aa]at this;omega,by omega⟩
 refine gC (fun t8=>?_) (fun t8=>?_)
 ·have h5 : 2 ^ 8 <= y := by simp [aa] at t8; omega
  obtain⟨z,hz,h6,h7⟩:∃z,z=y/2^8/\z<256/\ax x=(ax x-ax y)+8+ax z:=⟨_,rfl,by omega,by have:=qQ h5;omega⟩
  refine gs (dg (.tmp rfl) (.const _) oz ((oS _ 8 oz).trans (show _=(z:Int) by first |(rw[hz];done) |(rw[hz,hy];done))) rfl) ?_;refine ga (cf oz) ?_;refine gv (show IntKind.u8.wrap _=(z:Int) by first |exact gV h6 |(rw[hz];exact gV oz) |(rw[hz,hy];exact gV oz)) ?_;refine gs (qH (y:=z) (.const _) (.tmp rfl) T9 rfl (by kernel_rfl) (by first |rfl |omega) oz rfl) ?_;refine gv (i64_in (by have:=gu h6;omega)) ?_;refine ga (cf (by have:=gu h6;omega)) ?_;refine af ?_;simp only[i64];congr 2;have:=gu h6;omega
 have h5:y<2^8:=by simp[aa]at t8;omega
 obtain⟨z,hz,h6,h7⟩:∃z,z=y/\z<256/\ax x=(ax x-ax y)+ax z:=⟨_,rfl,by omega,by omega⟩
 refine gv (show IntKind.u8.wrap _=(z:Int) by first |exact gV h6 |(rw[hz];exact gV oz) |(rw[hz,hy];exact gV oz)) ?_;refine gs (qH (y:=z) (.const _) (.tmp rfl) T9 rfl (by kernel_rfl) (by first |rfl |omega) oz rfl) ?_;refine gv (i64_in (by have:=gu h6;omega)) ?_;refine ga (cf (by have:=gu h6;omega)) ?_;refine af ?_;simp only[i64];congr 2;have:=gu h6;omega
theorem Jz(x:Nat)(hx:x<4294967296):FP 147 [u32 x] (i64 (32-ax x:Nat)):=by
 have h1:ax x<=32:=by
  by_cases h:x=0
  ·subst h;decide
  ·exact(zP h hx).1
 refine ai func147 ?_;refine gc (PH x hx) ?_;refine ga (i64_in (by simp only[dV];omega)) ?_;refine af ?_;simp only[i64,dV];congr 2;omega
theorem BL(a b:List Nat)(ha:Ws a)(hb:Ws b)(na:Nz a)(nb:Nz b)(eQ:b≠[])(la:a.length<al)(lb:b.length<al) :
  FP 83 [ws a,ws b] (.tup [ws (ofNat (val a/val b)),ws (ofNat (val a%val b))]):=by
 have la':=la;unfold al at la lb;refine ai func83 ?_;refine gc (xO a b ha hb na nb) ?_;refine gC (fun t22=>?_) (fun t22=>?_)
 ·have h1:val a<val b:=by
   simp only[aa]at t22;split at t22
   ·assumption
   ·split at t22 <;> simp at t22
  refine gc (ku a ha oz) ?_;refine gR ?_;exact Dc (by rw[XE h1];exact Sub.nil _ _ _) (by rw[Xr h1];exact Sub.refl _)
 have h1:val b<=val a:=by
  simp only[aa]at t22;split at t22
  ·simp at t22
  ·omega
 refine gl ?_;refine gC (fun z=>?_) (fun z=>?_)
 ·have hl : b.length = 1 := by have := z; simp [aa] at this; omega
  obtain⟨x,rfl⟩:∃x,b=[x]:=YJ.1 hl;have hx:x≠0:=nb x rfl;have VS:x<4294967296:=hb x (by simp);have hv:val [x]=x:=by simp[val]
  have hm:=X8 (val a) (show 0<x by omega);refine gi (show _=some (u32 x)from rfl) ?_;refine gc (JD a x ha oz oz VS) ?_;refine gc (ku [val a%x] (r4 oz) (by simp[al])) ?_;refine bh ?_;rw[hv];simp[val]
 have hl:b.length≠1:=by have:=z;simp[aa]at this;omega
 obtain⟨n,hn⟩:∃n,b.length=n+2:=⟨b.length-2,by have:=YL.2 eQ;omega⟩
 obtain⟨sh,v,AC,sC,hv,wv,lv,vv,VT,htop,pS⟩:=Uj hb nb hn
 have vM:b.length<=a.length:=by
  rcases Z2 a.length b.length with h2 |h2
  ·have:=rW ha nb h2;omega
  ·exact h2
 obtain⟨lq,ID⟩:∃lq,a.length+1=lq+(n+2):=⟨a.length+1-(n+2),by omega⟩
 have vN:=a7 hb (n+1);refine gl ?_;refine ga (show _=((n+1:Nat):Int) by rw[co oz];omega) ?_;refine gi (d9 (n:=n+1) oz (by first |omega |(simp;omega))) ?_;refine gc (show gh _ _ _ (i64 (sh:Nat)) by rw[AC];exact Jz _ vN) ?_;refine gt (bF (Hn 900 rfl b sh hb (by unfold al;omega) sC) (fJ rfl rfl) bW rfl rfl) ?_;refine gl ?_;refine gs (od (.tmp rfl) (.none _) (.some _ (.tmp rfl) oz) T22 rfl T142 rfl oz oz rfl) ?_;refine gt (bF (Hn 901 rfl a sh ha (by unfold al;omega) sC) (fJ rfl rfl) bW rfl rfl) ?_;refine gD ?_ (8,0);refine gW ((Wk.freeze (k:=900) rfl).trans<|Wk.of (sl:=[pP 0 (ws a),pP 1 (ws b),pP 8 (i64 sh),pP 9 (ws v),pP 10 (.ms 901 1 0 (a.length+1))]) (hp:=[pP 901 (.row 1 ((aD (a.length+1) (2^sh*val a)).map u32))]) (.k (.k (.k (.cons rfl (.of (PM hn hv)) (.k .nil))))) (.k .nil)) ?_;refine gl ?_;refine ga (show _=(lq:Int) by rw[lv,co oz];omega) ?_;refine gs (fW (.tmp rfl) T22 rfl T142 rfl rfl oz (by dsimp only;omega) rfl) ?_;refine gl ?_;refine ga (show _=((n+1:Nat):Int) by rw[lv,co oz];omega) ?_;refine gi (d9 (n:=n+1) oz (by first |omega |(simp;omega))) ?_;refine gv (u64_in (by have:=a7 wv (n+1);omega)) ?_;refine gl ?_;refine ga (show _=(n:Int) by rw[lv,co oz];omega) ?_;refine gi (d9 (n:=n) oz (by first |omega |(simp;omega))) ?_;refine gv (u64_in (by have:=a7 wv n;omega)) ?_;refine gD ?_;refine ga (co oz) ?_;refine io [8,9,12,13] [] (fun(q u:List Nat)(j:Nat)=>[pP 10 (.ms 901 1 0 (a.length+1)),pP 11 (.ms 61 1 0 lq),pP 14 (i64 ((j:Int)-1))]) (fun q u _=>[pP 901 (.row 1 (u.map u32)),pP 61 (.row 1 (q.map u32))]) (fun q u j=>q.length=lq/\u.length=a.length+1/\Ws q/\Ws u/\j<=lq/\val (u.drop j)<val v/\2^sh*val a=val v*(4294967296^j*val (q.drop j))+val u) (fun _ _ j=>j) (YO lq 0) (aD (a.length+1) (2^sh*val a)) lq ⟨by simp,dz _ _,jC _,iB _ _,Z0 _,by rw[vv];exact(Hy ha sC ID pS).2,by rw[(Hy ha sC ID pS).1];simp[val]⟩ ?_ (h2:=(.k (.cons rfl (.of (by rw[aau];rfl)) .nil)))
 rintro q u j ⟨nV,vO,wq,wu,hj,hlt,hU⟩ K1 J1;refine gC (fun z=>?_) (fun z=>?_) (st2:=(23,0))
 ·have fH : 1 <= j := by have := z; simp [aa] at this; omega
  obtain⟨k,rfl⟩:∃k,j=k+1:=⟨j-1,by omega⟩
  obtain⟨W,hW⟩:∃W,W=val (aL u k (n+3)):=⟨_,rfl⟩
  have IA:val v<4294967296^(n+2):=by have:=bg v wv;rwa [lv]at this
  obtain⟨e1,e2,e3⟩:=Ka (u:=u) (q:=q) (k:=k) (lv:=n+2) wu oz oz IA hlt hU;simp only[show n+2+1=n+3 from rfl]at e1 e2 e3;have jv:=JI wv (lO wu k (n+3)) lv (nu oz) VT e1;rw[<- hW]at e1 e2 e3 jv;have wp:=lO wu k (n+3);have b1:=a7 wp n;have b2:=a7 wp (n+1);have b3:=a7 wp (n+2);have b4:=jv.htop;have b5:=jv.htopB;have b6:=jv.hnext;obtain⟨top,IE⟩:∃top,top=ah v (n+1):=⟨_,rfl⟩
  obtain⟨nx,gL⟩:∃nx,nx=ah v n:=⟨_,rfl⟩
  obtain⟨hd,IF⟩:∃hd,hd=ah (aL u k (n+3)) (n+2)*4294967296+ah (aL u k (n+3)) (n+1):=⟨_,rfl⟩
  obtain⟨th,vP⟩:∃th,th=ah (aL u k (n+3)) n:=⟨_,rfl⟩
  rw[<- IE,<- gL,<- IF,<- vP]at jv;rw[<- IE]at b4 b5 ⊢;rw[<- gL]at b6 ⊢;rw[<- vP]at b1;have VU:hd<18446744073709551616:=by omega
  refine gl ?_;refine ga (show _=((k+n+2:Nat):Int) by rw[lv,cf oz];omega) ?_;refine ga (show _=((k+n+3:Nat):Int) by rw[cf oz];omega) ?_;refine gs (od (.tmp rfl) (.some _ (.tmp rfl) oz) (.some _ (.tmp rfl) oz) T22 rfl T142 rfl oz oz rfl) ?_ (14,0);refine gW (Wk.of (sl:=[pP 8 (i64 sh),pP 9 (ws v),pP 10 (.ms 901 1 0 (a.length+1)),pP 11 (.ms 61 1 0 lq),pP 12 (u64 top),pP 13 (u64 nx),pP 14 (i64 k),pP 15 (.ms 901 1 k (n+3))]) (hp:=[pP 901 (.row 1 (u.map u32)),pP 61 (.row 1 (q.map u32))]) (.k (.k (.k (.k (.k (.k (.cons rfl (Sub.int oz) (.cons rfl (.of (by congr 1 <;> omega)) .nil)))))))) (.k (.k .nil))) ?_
  refine gl ?_;refine gs (f6 (n:=n+2) (.tmp rfl) (.tmp rfl) T22 rfl T142 rfl oz oz rfl) ?_;refine gs (ay (.tmp rfl) rfl (zr (n:=n+3) (i:=n+2) oz oz) T142 rfl rfl rfl) ?_;refine gv (u64_in oz) ?_;refine gs (jk (.tmp rfl) (.const _) oz (ox (n:=32) oz oz) rfl) ?_;refine gl ?_;refine ga (show _=((n+1:Nat):Int) by rw[lv,co oz];omega) ?_;refine gs (f6 (n:=n+1) (.tmp rfl) (.tmp rfl) T22 rfl T142 rfl oz oz rfl) ?_;refine gs (ay (.tmp rfl) rfl (zr (n:=n+3) (i:=n+1) oz oz) T142 rfl rfl rfl) ?_;refine gv (u64_in oz) ?_;refine gs (il (.tmp rfl) (.tmp rfl) rfl ((qU oz oz).trans (show _=(hd:Int) by rw[rK oz,IF])) rfl) ?_;refine gD ?_;refine gs (kt (.tmp rfl) (.tmp rfl) oz (FI VU) rfl) ?_;refine gs (tP (.tmp rfl) (.tmp rfl) oz Dw rfl) ?_;refine gD ?_;refine ek [8,9,12,13,14] [901,61] (fun(g r:Nat)=>[pP 10 (.ms 901 1 0 (a.length+1)),pP 11 (.ms 61 1 0 lq),pP 15 (.ms 901 1 k (n+3)),pP 17 (u64 g),pP 18 (u64 r)]) (fun _ _=>[]) (fun g r=>W/val v<=g/\g*top+r=hd/\g<18446744073709551616/\r<8589934592) (fun g _=>g) (hd/top) (hd%top) ⟨jv.first,by rw[X6];exact X9 _ _,by have:=XX hd top;omega,by have:=X8 hd (show 0<top by omega);omega⟩ ?_
  rintro g r ⟨hg,eP,W1,W3⟩ K2 J2;refine fD (fun⟨h,h2⟩=>(uc (by simp[aa]at h2;have:=vz (x:=g) (y:=nx) oz b6;omega))) ?_;refine gs (nF rfl rfl rfl (fun h h2=>jk (.opt rfl (o2 h h2)) (.const _) oz (ox (n:=32) oz (by simp[aa]at h;omega)) rfl)) ?_;refine cu ?_;refine fD (fun _=>(show _=(n:Int) by rw[lv,co oz];omega)) ?_;refine gs (nF rfl rfl rfl (fun h h2=>f6 (n:=n) (.opt rfl (o2 h h2)) (.opt rfl (o2 h h2)) T22 rfl T142 rfl oz oz rfl)) ?_;refine gs (nF rfl rfl rfl (fun h h2=>ay (.opt rfl (o2 h h2)) rfl (zr (n:=n+3) (i:=n) oz oz) T142 rfl rfl rfl)) ?_;refine JA (fun _=>(u64_in oz)) ?_;refine gs (nF rfl rfl rfl (fun h h2=>il (.opt rfl (o2 h h2)) (.opt rfl (o2 h h2)) rfl ((qU (by simp[aa]at h;omega) oz).trans (by rw[rK oz])) rfl)) ?_;refine gC (fun t133=>?_) (fun t133=>?_)
  ·have hc:r<4294967296/\(4294967296<=g\/r*4294967296+th<g*nx):=by
    rw[vP];have h9:=GQ.1 t133
    rwa [show r*2^32=r*4294967296 from rfl]at h9
   have lF:=jv.step hg eP hc.2;have IB:1<=g:=Nat.succ_le_of_lt (aam (aaf _) lF);refine ga (HK oz oz) ?_;refine ga (gk oz) ?_;exact dt J2 (g-1) (r+top) ⟨Nat.le_sub_one_of_lt lF,by rw[Nat.sub_mul];have:=aad top (show 1<=g by omega);omega,by omega,by omega⟩
  have hc:¬(r<4294967296/\(4294967296<=g\/r*4294967296+th<g*nx)):=by
   rw[vP];intro hh;rw[show r*4294967296=r*2^32 from rfl]at hh;exact Zn.1 t133 (GQ.2 hh)
  obtain⟨VV,VW⟩:=jv.last eP hc;have AB:=jv.vpos;have IG:val (aL u k (n+3))<4294967296^(n+3):=by have:=bg _ wp;rwa [nu oz]at this
  obtain⟨p1,p2⟩:=N9 AB (show val v<=4294967296^(n+3) by have:=Xt (show 0<4294967296 by omega) (show n+2<=n+3 by omega);omega) (hW▸IG) hg VW;have AE:k+(n+3)<=u.length:=by omega
  have pL:(wr u k (aD (n+3) (iP g (val v) W (n+3)))).length=a.length+1:=by rw[kO (by rw[dz];omega),vO]
  refine gt (bF (Con.rk 901 rfl rfl (NS u v k (n+3) g wu wv oz AE VV (by unfold an;omega))) (xP rfl rfl rfl) bW rfl rfl) ?_;refine gC (fun z=>?_) (fun z=>?_)
  ·have vL : W < g * val v := by rw [hW]; simpa using z
   obtain⟨q1,q2,q3⟩:=p1 vL;have sD:iP g (val v) W (n+3)<4294967296^(n+3):=by unfold iP;rw[aa1 oz];rw[<- hW]at IG;omega
   refine ga (HK oz oz) ?_;refine gt (bF (Con.rk 901 rfl rfl (NL (wr u k (aD (n+3) (iP g (val v) (val (aL u k (n+3))) (n+3)))) v k (n+3) (oi wu (iB _ _)) wv oz (by rw[<- hW,pL];omega) (by rw[<- hW,pL];unfold an;omega))) (fJ rfl rfl) bW rfl rfl) ?_;refine gv ((cm _).trans (by rw[Xr oz])) ?_;refine gs (aP (n:=k) (.tmp rfl) (.tmp rfl) T22 rfl T142 rfl oz oz rfl) ?_;refine gs (bJ (.tmp rfl) rfl (bn (i:=k) oz) rfl (.tmp rfl) rfl rfl T142 rfl rfl) ?_;refine ga (co oz) ?_;exact fa J1 (q.set k (W/val v)) (wr u k (aD (n+3) (W%val v))) k ⟨by simp[nV],by rw[kO (by rw[dz];omega),vO],eG wq jv.q_lt,oi wu (iB _ _),by omega,e2,e3⟩ (hw:=Wk.of aI (.cons rfl (.of (by rw[<- hW];first |(rw[q1];done) |(rw[Cq (r:=W%val v) AE (dz _ _) (by rw[jX _ _ sD];exact q1)];done))) (.cons rfl (.of (by rw[aaw,q2];rfl)) .nil)))
  have vL:¬W<g*val v:=by rw[hW];simpa using z
  obtain⟨q1,q2⟩:=p2 vL;refine gv ((cm _).trans (by rw[Xr oz])) ?_;refine gs (aP (n:=k) (.tmp rfl) (.tmp rfl) T22 rfl T142 rfl oz oz rfl) ?_;refine gs (bJ (.tmp rfl) rfl (bn (i:=k) oz) rfl (.tmp rfl) rfl rfl T142 rfl rfl) ?_;refine ga (co oz) ?_;exact fa J1 (q.set k (W/val v)) (wr u k (aD (n+3) (W%val v))) k ⟨by simp[nV],by rw[kO (by rw[dz];omega),vO],eG wq jv.q_lt,oi wu (iB _ _),by omega,e2,e3⟩ (hw:=Wk.of aI (.cons rfl (.of (by rw[<- hW];first |(rw[q1];done) |(rw[Cq (r:=W%val v) AE (dz _ _) (by rw[jX _ _ sD];exact q1)];done))) (.cons rfl (.of (by rw[aaw,q2];rfl)) .nil)))
 have fH:j=0:=by have:=z;simp[aa]at this;omega
 subst fH;have hU':2^sh*val a=2^sh*val b*val q+val u:=by rw[<- vv];simpa using hU
 obtain⟨hQ,hR⟩:=JC hU' (by rw[<- vv];simpa using hlt);refine gW ((Wk.freeze (k:=61) rfl).trans<|(Wk.freeze (k:=901) rfl).trans<|Wk.of (sl:=[pP 8 (i64 sh),pP 10 (ws u),pP 11 (ws q)]) (hp:=[]) (.k (.cons rfl (.of (bH (by simp[vO]))) (.cons rfl (.of (by rw[show AV.fz 61 1 (q.map u32) (.ms 61 1 0 lq)=ws q from bH (by simp[nV])];rfl)) .nil))) .nil) ?_;refine gc (ku q wq (by unfold al;omega)) ?_;refine gc (O5 u sh wu (by unfold al;omega) sC) ?_;refine bh ?_;rw[<- hQ,<- hR]
theorem vc{b:Bool}{n:Nat}:(cond b (aa .gtr ((ofNat n).length:Int) 0) false)=true↔(b=true/\0<n):=by
 have h:aa .gtr ((ofNat n).length:Int) 0=true↔0<n:=by
  simp only[aa,aa3];constructor
  ·intro h;rcases XC n with h1 |h1;(subst h1;simp[LW]at h);exact h1
  ·intro h;have:ofNat n ≠ []:=by intro h1; have:=bi n; rw [h1] at this; simp [val] at this; omega
   have:=YL.2 this;omega
 cases b with
 |false=>simp
 |true=>exact⟨fun h1=>⟨rfl,h.1 h1⟩,fun h1=>h.2 h1.2⟩
theorem xo(a:Wh)(ha:a.ok):FP 61 [a.av] (i64 a.z.sign):=by
 obtain⟨e1,e2,e3⟩:=B7 ha;refine ai func61 ?_;refine gc (iQ a ha) ?_;refine gl ?_;refine gC (fun AF=>?_) (fun AF=>?_)
 ·have h0 : a.m.length = 0 := by simpa [aa] using AF
  refine af ?_;rw[e1 h0];rfl
 have h0:a.m.length≠0:=by simpa[aa]using AF
 refine gC (fun z=>?_) (fun z=>?_)
 ·refine af ?_;rw[e2 h0 z];rfl
 refine af ?_;rw[e3 h0 z];rfl
theorem NC(a b:Wh)(ha:a.ok)(hb:b.ok):FP 28 [a.av,b.av] (i64 (e8 a.z b.z)):=by
 refine ai func28 ?_;refine gc (xo a ha) ?_;refine gc (xo b hb) ?_;refine gD ?_;refine gC (fun z=>?_) (fun z=>?_)
 ·have h0 : a.z.sign ≠ b.z.sign := by simpa [aa] using z
  obtain⟨e1,e2⟩:=SF h0;refine gC (fun z=>?_) (fun z=>?_)
  ·have h1 : a.z.sign < b.z.sign := by simpa [aa] using z
   refine af ?_;rw[e1 h1];rfl
  have h1:¬a.z.sign<b.z.sign:=by simpa[aa]using z
  refine af ?_;rw[e2 h1];rfl
 have h0:a.z.sign=b.z.sign:=by simpa[aa]using z
 have e1:=Kv h0;refine gc (iQ a ha) ?_;refine gc (iQ b hb) ?_;refine gc (xO a.m b.m (Wh.ws ha) (Wh.ws hb) a.nz b.nz) ?_;refine gD ?_;refine gc (gp a ha) ?_;refine gC (fun z=>?_) (fun z=>?_)
 ·rw[z,aa2 rfl]at e1;refine gs (un (.tmp rfl) rfl) ?_;refine af ?_;rw[e1];split
  ·rfl
  ·split <;> rfl
 rw[z,aa1 Bool.false_ne_true]at e1;refine af ?_
 first |(rw[e1];done) |(rw[e1];rfl)
theorem MW(a:Wh)(ha:a.ok)(la:a.mag.length<al):FP 112 [a.av] (zA (-a.z)):=by
 refine ai func112 ?_;refine gc (gp a ha) ?_;refine gc (iQ a ha) ?_;refine gc (iE _ a.m (Wh.ws ha) (Xu (Wh.small ha la))) ?_;refine gD ?_;refine af ?_;rw[Wh.z_eq,<- EJ];rfl
theorem Js(a b:Wh)(ha:a.ok)(hb:b.ok)(la:a.mag.length+b.mag.length<=al):FP 50 [a.av,b.av] (zA (a.z*b.z)):=by
 have h1:=Wh.m_le (w:=a);have h2:=Wh.m_le (w:=b);have h3:(ofNat (val a.m*val b.m)).length<=a.m.length+b.m.length:=dM (by rw[aat];exact XQ (bg _ (Wh.ws ha)) (bg _ (Wh.ws hb)));refine ai func50 ?_;refine gc (gp a ha) ?_;refine gc (gp b hb) ?_;refine gc (iQ a ha) ?_;refine gc (iQ b hb) ?_;refine gc (TX a.m b.m (Wh.ws ha) (Wh.ws hb) oz) ?_;refine gc (iE _ _ (b7 _) oz) ?_;refine gD ?_;refine af ?_;rw[bi,EC];rfl
theorem MU(a b:Wh)(ha:a.ok)(hb:b.ok)(la:a.mag.length<al)(lb:b.mag.length<al):FP 87 [a.av,b.av] (zA (a.z+b.z)):=by
 have h1:=Wh.m_le (w:=a);have h2:=Wh.m_le (w:=b);have gK:val a.m<4294967296^(max a.m.length b.m.length):=Z9 (bg _ (Wh.ws ha)) (Xt oz oz);have fj:val b.m<4294967296^(max a.m.length b.m.length):=Z9 (bg _ (Wh.ws hb)) (Xt oz oz);have h3:(ofNat (val a.m+val b.m)).length<=max a.m.length b.m.length+1:=dM (by rw[X0];omega);have h4:(ofNat (val a.m-val b.m)).length<=max a.m.length b.m.length:=dM oz;have h5:(ofNat (val b.m-val a.m)).length<=max a.m.length b.m.length:=dM oz;refine ai func87 ?_;refine gc (iQ a ha) ?_;refine gc (iQ b hb) ?_;refine gD ?_;refine gc (gp a ha) ?_;refine gc (gp b hb) ?_;refine gD ?_;refine gC (fun z=>?_) (fun z=>?_)
 ·have h0 : a.n = b.n := by simpa using z
  refine gc (gp a ha) ?_;refine gc (CS a.m b.m (Wh.ws ha) (Wh.ws hb) oz oz) ?_;refine gc (iE _ _ (b7 _) oz) ?_;refine af ?_;rw[bi,H3 h0];rfl
 have h0:a.n≠b.n:=by simpa using z
 refine gc (xO a.m b.m (Wh.ws ha) (Wh.ws hb) a.nz b.nz) ?_;refine gC (fun t23=>?_) (fun t23=>?_)
 ·have h6:val b.m<=val a.m:=by
   rcases Z2 (val a.m) (val b.m)with h |h
   ·rw[aa2 h]at t23;cases t23
   ·exact h
  refine gc (gp a ha) ?_;refine gc (zC a.m b.m (Wh.ws ha) (Wh.ws hb) oz (by rcases Z2 a.m.length b.m.length with h |h;(have:=rW (Wh.ws ha) b.nz h;omega);exact h) h6) ?_;refine gc (iE _ _ (b7 _) oz) ?_;refine af ?_;rw[bi,xQ h0 h6];rfl
 have h6:val a.m<val b.m:=by
  rcases Z2 (val a.m) (val b.m)with h |h
  ·exact h
  ·rw[aa1 oz]at t23;split at t23 <;> cases t23
 refine gc (gp b hb) ?_;refine gc (zC b.m a.m (Wh.ws hb) (Wh.ws ha) oz (by rcases Z2 b.m.length a.m.length with h |h;(have:=rW (Wh.ws hb) a.nz h;omega);exact h) oz) ?_;refine gc (iE _ _ (b7 _) oz) ?_;refine af ?_;rw[bi,HN h0 oz];rfl
theorem Cs(a b:Wh)(ha:a.ok)(hb:b.ok)(la:a.mag.length<al)(lb:b.mag.length<al):FP 29 [a.av,b.av] (zA (Y8 a.z b.z)):=by
 refine ai func29 ?_;refine gc (iQ a ha) ?_;refine gc (iQ b hb) ?_;refine gD ?_;refine ek [4] [4] (fun(x y:List Nat)=>[pP 5 (ws x),pP 6 (ws y)]) (fun _ _=>[]) (fun x y=>Ws x/\Ws y/\Nz x/\Nz y/\x.length<al/\y.length<al/\X3 (val x) (val y)=Y8 a.z b.z) (fun _ y=>val y) a.m b.m ⟨Wh.ws ha,Wh.ws hb,a.nz,b.nz,Wh.small ha la,Wh.small hb lb,by rw[Y8,Wh.abs,Wh.abs]⟩ ?_;rintro x y ⟨wx,wy,nx,ny,lx,ly,hg⟩ K1 J1;refine gl ?_;refine gC (fun t15=>?_) (fun t15=>?_)
 ·have hy : y ≠ [] := by intro h; subst h; simp [aa] at t15
  have VX:=mW ny hy;have hm:=X8 (val x) VX;refine gc (BL x y wx wy nx ny hy lx ly) ?_;exact dt J1 y (ofNat (val x%val y)) ⟨wy,b7 _,ny,ou _,ly,aam (dM (Nat.lt_trans hm (bg y wy))) ly,by rw[bi,<- hg,XO (val x) (val y),XO (val y) (val x%val y)];exact(Nat.gcd_rec _ _).symm⟩ (by show val (ofNat _)<val y;rw[bi];exact hm)
 have hy:y=[]:=by
  cases y with
  |nil=>rfl
  |cons c l=>simp[aa]at t15
 subst hy;have hg':val x=Y8 a.z b.z:=by rw[<- hg];simp[val]
 refine gc (iE false x wx (Xu lx)) ?_;refine af ?_;rw[hg'];rfl
theorem SJ(a b:Wh)(ha:a.ok)(hb:b.ok)(la:a.mag.length+1<al)(lb:b.mag.length<al)(h0:b.z≠0):FP 113 [a.av,b.av] (.tup [zA (a.z/b.z),zA (a.z%b.z),.v .nilIface]):=by
 have en:=Wh.m_le (w:=a);have gG:=Wh.m_le (w:=b);have aN:val b.m≠0:=by have:=Wh.abs (w:=b);omega
 have aH:b.m≠[]:=fun h=>aN (by rw[h];rfl)
 have lA:(ofNat (val a.m/val b.m)).length<=a.m.length:=dM (aam (XX _ _) (bg _ (Wh.ws ha)));have sf:=X8 (val a.m) (show 0<val b.m by omega);have lG:(ofNat (val a.m%val b.m)).length<=b.m.length:=dM (Nat.lt_trans sf (bg _ (Wh.ws hb)));have VY:(ofNat (val a.m/val b.m+1)).length<=a.m.length+1:=dM (by have h7:=aam (XX (val a.m) (val b.m)) (bg _ (Wh.ws ha));rw[X0];generalize val a.m/val b.m=m at *;omega);have VZ:(ofNat (val b.m-val a.m%val b.m)).length<=b.m.length:=dM (by have:=bg _ (Wh.ws hb);omega);have pV:val [1]=1:=rfl;refine ai func113 ?_;refine gc (iQ b hb) ?_;refine gl ?_;refine gC (fun z=>?_) (fun z=>?_) (st1:=(3,0));exact aa8 (Yo.1 (by simpa[aa]using z)) aH;refine gc (iQ a ha) ?_;refine gc (BL a.m b.m (Wh.ws ha) (Wh.ws hb) a.nz b.nz aH oz oz) ?_;refine gc (gp a ha) ?_;refine cu ?_;refine gC (fun z=>?_) (fun z=>?_)
 ·have h1:a.n = true /\ 0 < val a.m % val b.m:=vc.1 z;obtain ⟨e1,e2⟩:=CQ aN h1.1 h1.2;refine gc (CS (ofNat (val a.m / val b.m)) [1] (b7 _) (r4 oz) oz (by unfold al; simp)) ?_;refine gc (zC b.m (ofNat (val a.m % val b.m)) (Wh.ws hb) (b7 _) oz lG (by rw [bi]; omega)) ?_ (7,0);refine gW (Wk.of (sl:=[pP 2 (.ptr 2 0),pP 3 (.ptr 3 0),pP 4 (.ptr 4 0),pP 5 (.ptr 5 0),pP 8 (ws (ofNat (val a.m / val b.m + 1))),pP 9 (ws (ofNat (val b.m - val a.m % val b.m)))]) (hp:=[pP 2 (.box [bl a.neg,ws a.mag]),pP 3 (.box [bl b.neg,ws b.mag]),pP 4 (.box [.v (.bool false),nS]),pP 5 (.box [.v (.bool false),nS])]) (.k (.k (.k (.k (.cons rfl (.of (by rw [bi,pV])) (.cons rfl (.of (by rw [bi])) .nil)))))) (.k (.k (.k (.k .nil))))) ?_
  refine gc (gp a ha) ?_;refine gc (gp b hb) ?_;refine gc (by apply iE _ _ (b7 _) oz) ?_;refine gc (by apply iE _ _ (b7 _) oz) ?_;refine gD ?_;refine gR ?_;exact vt (by rw[bi,bi,e1,show sgn false _=_ from e2];rfl)
 have h1:¬(a.n=true/\0<val a.m%val b.m):=fun h=>Zn.1 z (vc.2 h)
 obtain⟨e1,e2⟩:=FB aN h1;refine gc (gp a ha) ?_;refine gc (gp b hb) ?_;refine gc (by apply iE _ _ (b7 _) oz) ?_;refine gc (by apply iE _ _ (b7 _) oz) ?_;refine gD ?_;refine gR ?_;exact vt (by rw[bi,bi,e1,show sgn false _=_ from e2];rfl)
theorem uq{N:Nat}(h:N<18446744073709551616):val [N%4294967296,N/2^32]=N:=by
 simp only[val];omega
theorem tu{N:Nat}(h:N<18446744073709551616):Ws [N%4294967296,N/2^32]:=by
 intro x hx;simp only[aai,aap,or_false]at hx;rcases hx with rfl |rfl <;> omega
theorem ve(n:Int)(h:-9223372036854775808<=n/\n<=9223372036854775807):FP 63 [i64 n] (zA n):=by
 obtain⟨N,hN⟩:∃N,N=n.natAbs:=⟨_,rfl⟩
 have lH:N<18446744073709551616:=by omega
 refine ai func63 ?_;refine gv (show IntKind.u64.wrap n=((n%18446744073709551616:Int)) by simp only[IntKind.wrap,IntKind.signed,IntKind.bits,Zo,if_false,Zm];omega) ?_;refine gC (fun z=>?_) (fun z=>?_) (st2:=(77777,0))
 ·have hn : n < 0 := by simpa [aa] using z
  refine gs (un (.tmp rfl) rfl) ?_ (4,0);refine gW (Wk.of (sl:=[pP 0 (i64 n),pP 2 (.ptr 2 0),pP 3 (u64 N)]) (hp:=[pP 2 (.box [.v (.bool false),nS])]) (.k (.k (.cons rfl (Sub.int (by simp only[IntKind.wrap,IntKind.signed,IntKind.bits,Zo,if_false,Zm];omega)) .nil))) (.k .nil)) ?_;refine gv (cm _) ?_;refine gs (dg (.tmp rfl) (.const _) oz (fd _ 32 oz) rfl) ?_;refine gv ((cm _).trans (by rw[Xr (show N/2^32<4294967296 by omega)])) ?_;refine gc (iE (aa .lss n 0) [N%4294967296,N/2^32] (tu lH) (by unfold al;simp)) ?_;refine af ?_;rw[uq lH,show sgn (aa .lss n 0) N=n by simp only[sgn,aa,aa3];split <;> omega];rfl
 have hn:¬n<0:=by simpa[aa]using z
 refine gW (Wk.of (sl:=[pP 0 (i64 n),pP 2 (.ptr 2 0),pP 3 (u64 N)]) (hp:=[pP 2 (.box [.v (.bool false),nS])]) (.k (.k (.cons rfl (Sub.int oz) .nil))) (.k .nil)) ?_;refine gv (cm _) ?_;refine gs (dg (.tmp rfl) (.const _) oz (fd _ 32 oz) rfl) ?_;refine gv ((cm _).trans (by rw[Xr (show N/2^32<4294967296 by omega)])) ?_;refine gc (iE (aa .lss n 0) [N%4294967296,N/2^32] (tu lH) (by unfold al;simp)) ?_;refine af ?_;rw[uq lH,show sgn (aa .lss n 0) N=n by simp only[sgn,aa,aa3];split <;> omega];rfl
theorem yy:∀(j k v:Nat),j<=k->(aD k v).take j=aD j v
 |0,_,_,_=>by simp[aD]
 |j+1,0,_,h=>by omega
 |j+1,k+1,v,h=>by
  rw[aD,aD,List.take_succ_cons,yy j k _ oz]
theorem Gi{m:List Nat}(h:Ws m):(ofNat (val m)).length<=m.length:=dM (bg m h)
theorem Fh{m:List Nat}(h:Ws m):m.take (ofNat (val m)).length=ofNat (val m):=by
 have h1:=rF m h;have h2:=rF (ofNat (val m)) (b7 _);rw[bi]at h2;have h3:=yy _ _ (val m) (Gi h);rw[<- h1,<- h2]at h3;exact h3
theorem EL{m:List Nat}{n:Nat}(h:Ws m)(hn:n<=m.length)(hv:val (m.take n)=val m)(h0:n=0\/ah m (n-1)≠0):n=(ofNat (val m)).length:=by
 have h1:m.take n=ofNat (val m):=by
  refine HS (eJ h n) ?_ hv;intro x hx;rcases h0 with h0 |h0
  ·subst h0;simp at hx
  ·have d5 : n ≠ 0 := by intro h3; subst h3; simp at hx
   rw[YF,aao,X7 hn,aak,aa2 oz,gM oz]at hx;cases hx;exact h0
 rw[<- h1,aao,X7 hn]
theorem xg(l:List Nat)(i:Nat):val l=val (l.take i)+4294967296^i*val (l.drop i):=by
 rcases Z2 i l.length with h |h
 ·exact wA oz
 ·rw[dk h,aal h];simp[val]
theorem qN(l:List Nat)(i:Nat):val (l.drop i)=ah l i+4294967296*val (l.drop (i+1)):=by
 rcases Z2 i l.length with h |h
 ·exact oe h
 ·rw[o5 h,aal h,aal oz];rfl
theorem Hf{a b:List Nat}{i:Nat}(ha:Ws a)(he:val (a.drop (i+1))=val (b.drop (i+1)))(hx:ah a i<ah b i):val a<val b:=by
 rw[xg a (i+1),xg b (i+1),he];have:=Fa ha hx;omega
theorem TS{xs ys:List AV}(hl:xs.length=ys.length)(h1:∀(j:Nat)(y:AV),ys[j]?=some y->y.one=true)(h:∀(j:Nat)(x y:AV),xs[j]?=some x->ys[j]?=some y->Sub x y):Sub (.agg xs) (.agg ys):=by
 intro g S m v hr;cases hr with
 |agg hn h2 hr =>
  refine .agg (hn.trans hl) h1 ?_;intro j u c hu hc
  have hj:j<xs.length:=by
   rw[hl];rcases Z2 j ys.length with h |h
   ·exact h
   ·rw[Z5 h]at hc;cases hc
  exact h j _ c (ZV hj) hc _ _ _ _ (hr j u _ hu (ZV hj))
theorem S4:Sub (.agg [.v (.bool false),.v (.slice none 0 0)]) (zA 0):=by
 show Sub (.agg [.v (.bool false),.v (.slice none 0 0)]) (.agg [bl false,ws []]);refine TS rfl ?_ ?_
 ·intro j y hy
  match j,hy with
  |0,hy=>cases hy;rfl
  |1,hy=>cases hy;rfl
 ·intro j x y hx hy
  match j,hx,hy with
  |0,hx,hy=>cases hx;cases hy;exact Sub.refl _
  |1,hx,hy=>cases hx;cases hy;exact Sub.nil _ _ _
theorem F8{out:List Nat}{i x:Nat}(h:out.length=i):val (out++[x])=val out+4294967296^i*x:=by
 rw[oW,h];simp[val]
theorem D8{o c P x y u w:Nat}(hu:u<4294967296)(hw:w<4294967296)(hc:c<=1)(h:o+y=x+c*P) :
  (o+P*((4294967296+u-w-c)%4294967296))+(y+P*w)=(x+P*u)+(1-(4294967296+u-w-c)/2^32)*(P*4294967296):=by
 have h0:(4294967296+u-w-c)%4294967296+w+c=u+(1-(4294967296+u-w-c)/2^32)*4294967296:=by omega
 generalize(1-(4294967296+u-w-c)/2^32)=q at *;generalize(4294967296+u-w-c)%4294967296=r at *;grind
theorem G7{a b out:List Nat}{c:Nat}(ha:Ws a)(hw:Ws out)(ho:out.length=a.length)(aU:val b<=val a)
  (h:val out+val (b.take a.length)=val (a.take a.length)+c*4294967296^a.length):val out=val a-val b:=by
 have hb:=xg b a.length;have h2:=bg a ha
 have h3:val (b.drop a.length)=0:=by
  rcases XC (val (b.drop a.length))with h4 |h4
  ·exact h4
  ·have:=Z4 (4294967296^a.length) h4;omega
 rw[h3,Nat.mul_zero,XW]at hb;rw[<- hb,aab]at h;have h1:=bg out hw;rw[ho]at h1;cases c with
 |zero=>omega
 |succ c=>rw[XD]at h;omega
theorem Bp{z:Int}{k:Nat}(h:Lz k z)(hk:k<=an):(ofInt z).ok:=⟨b7 _,aaj h.len hk⟩
theorem Ga{z:Int}{k:Nat}(h:Lz k z):(ofInt z).mag.length<=k:=h.len
theorem Tb(x y:Int):(x-y).sign=e8 x y:=by
 unfold e8;have h:=zt (x-y)
 (repeat' split) <;> omega
theorem jN(m:List Nat)(i:Nat)(hm:Ws m):FP 260 [ws m,i64 i] (u64 (ah m i)):=by
 refine ai func260 ?_;refine gl ?_;refine gC (fun z=>?_) (fun z=>?_)
 ·simp[aa]at z;have:=a7 hm i;refine gi (bn (i:=i) z) ?_;refine gv (u64_in oz) ?_;refine af ?_;rfl
 simp[aa]at z;refine af ?_;simp[u64,o5 z]
theorem EG(w:Wh)(h:w.ok):FP 203 [w.av] (bl w.valid):=by
 have hl:w.mag.length<=an:=h.2;refine ai func203 ?_;refine gl ?_;refine gC (fun z=>?_) (fun z=>?_)
 ·have h0 : w.mag = [] := by simpa [aa] using z
  refine af ?_;simp[bl,Wh.valid,h0]
 have h0:w.mag.length≠0:=by simpa[aa]using z
 refine gl ?_;refine ga (bZ oz oz) ?_;refine gi (bn (i:=w.mag.length-1) oz) ?_;refine af ?_;have h1:w.mag≠[]:=fun h=>h0 (by rw[h];rfl)
 simp only[bl,Wh.valid,aa1 h1,YF,gM (show w.mag.length-1<w.mag.length by omega),aa];congr 2;generalize ah w.mag _=x;rw[Zq];simp
theorem jj(w:Wh)(h:w.ok):FP 139 [w.av] (ws w.m):=by
 refine ai func139 ?_;refine gc (EG w h) ?_;refine gC (fun z=>?_) (fun z=>?_)
 ·have h0 : w.valid = false := by simpa [aa] using z
  refine gR ?_;exact jD (by rw[show w.m=[] by simp[Wh.m,h0]];exact Sub.nil _ _ _)
 have h0:w.valid=true:=by simpa[aa]using z
 refine af ?_;simp only[Wh.m,h0];rfl
theorem gd(w:Wh)(h:w.ok):FP 140 [w.av] (bl w.n):=by
 refine ai func140 ?_;refine gc (EG w h) ?_;refine af ?_;simp only[Wh.n,bl];cases w.valid <;> rfl
theorem yD(d:Nat)(hd:XU d 1000=true)(m:List Nat)(hm:Ws m)(hb:m.length<=al) :
  Con prog 197 [ws m] [] (.ms d 1 0 (ofNat (val m)).length) [(d,some (.row 1 (m.map u32)))]:=by
 have hb':=hb;unfold al at hb;refine gF func197 (fun k z h=>by cases h) ?_;refine gs (kP T22 rfl T142 rfl rfl rfl) ?_;refine gs (cU (.tmp rfl) rfl rfl (.tmp rfl) T22 rfl T142 rfl rfl (by simp only[ZU];omega) rfl rfl) ?_;refine aK [] [6] (fun(n:Nat)=>[pP 3 (.ms 6 1 0 n)]) (fun _=>[]) (fun n=>n<=m.length/\val (m.take n)=val m) (fun n=>n) m.length ⟨Z0 _,by rw[aab]⟩ ?_ (h1:=(.cons rfl (.of (by rw[ZU,XF])) .nil));rintro n ⟨hn,hv⟩ K1 J1;refine fD (fun h=>(bZ (by simp[aa]at h;omega) (by unfold an;omega))) ?_;refine gs (bB rfl rfl rfl (fun h=>aP (n:=n-1) (.opt rfl (o1 h)) (.opt rfl (o1 h)) T22 rfl T142 rfl oz (by simp[aa]at h;omega) rfl)) ?_;refine gs (bB rfl rfl rfl (fun h=>ay (.opt rfl (o1 h)) rfl (bn (i:=n-1) (by simp[aa]at h;omega)) T142 rfl rfl rfl)) ?_;refine gC (fun t18=>?_) (fun t18=>?_)
 ·have t18 : 0 < n /\ ah m (n - 1) = 0 := by simpa [aa] using t18
  refine ga (bZ oz (by unfold an;omega)) ?_;refine gs (od (.tmp rfl) (.none _) (.some _ (.tmp rfl) oz) T22 rfl T142 rfl oz oz rfl) ?_;exact aG J1 (n-1) ⟨by omega,by have h:=@bY m (n-1);rw[show n-1+1=n by omega,t18.2]at h;simp at h;omega⟩ (hw:=Wk.of (.cons rfl (.of (by congr 1)) .nil) (.k .nil))
 have t18:0<n->ah m (n-1)≠0:=by simpa[aa]using t18
 have gB:=EL hm hn hv (by rcases XC n with h |h;(exact .inl h);exact .inr (t18 h));subst gB;refine gR ?_;exact aM.own1 rfl hd rfl
theorem pE(m:List Nat)(hm:Ws m)(hb:m.length<=al):FP 197 [ws m] (ws (ofNat (val m))):=by
 have h:=Con.freeze (by rw[ZU,XF];exact Gi hm) (yD 0 rfl m hm hb)
 rwa [aax,<- map_take,Fh hm]at h
theorem iJ(b:Bool)(m:List Nat)(hm:Ws m)(hb:m.length<=al):FP 137 [bl b,ws m] (zA (sgn b (val m))):=by
 refine ai func137 ?_;refine gc (pE m hm hb) ?_;refine gl ?_;refine gC (fun t9=>?_) (fun t9=>?_)
 ·have h0:val m=0:=by
   have:=bi (val m);have h9:ofNat (val m)=[]:=Yo.1 (by simpa[aa]using t9);rw[h9]at this;exact this.symm
  refine gR ?_;exact jD (by rw[h0,show sgn b 0=0 by cases b <;> rfl];exact S4)
 have h0:val m≠0:=by
  intro h;rw[h]at t9;cases t9
 refine af ?_
 rw[show zA (sgn b (val m))=.agg [bl b,ws (ofNat (val m))] by
  unfold zA ofInt Wh.av;rw[show(sgn b (val m)).natAbs=val m by unfold sgn;split <;> omega,show decide (sgn b (val m)<0)=b by cases b <;> simp[sgn] <;> omega]]
theorem xx(a b:List Nat)(ha:Ws a)(hb:Ws b):FP 199 [ws a,ws b] (i64 (if val a<val b then -1 else if val b<val a then 1 else 0)):=by
 refine ai func199 ?_ (0,0);refine qC (t:=0) rfl (fun gK=>?_);refine qC (t:=1) rfl (fun fj=>?_);unfold an at gK fj;refine go ?_;refine gl ?_;refine gl ?_;refine gs (qo (.tmp rfl) (.tmp rfl) rfl) ?_;refine ga (co oz) ?_;refine aK [0,1] [] (fun(n:Nat)=>[pP 5 (i64 ((n:Int)-1))]) (fun _=>[]) (fun n=>n<=281474976710656/\val (a.drop n)=val (b.drop n)) (fun n=>n) (max a.length b.length) ⟨by omega,by rw[aal oz,aal oz]⟩ ?_ (h1:=(.cons rfl (Sub.int oz) .nil));rintro n ⟨hn,hd⟩ K1 J1;refine gC (fun z=>?_) (fun z=>?_)
 ·have d5 : 1 <= n := by have := z; simp [aa] at this; omega
  obtain⟨k,rfl⟩:∃k,n=k+1:=⟨n-1,by omega⟩
  have hk:((k+1:Nat):Int)-1=(k:Int):=by omega
  rw[hk];refine gc (jN a k ha) ?_;refine gc (jN b k hb) ?_;refine gC (fun z=>?_) (fun z=>?_)
  ·have h3 : ah a k ≠ ah b k := by simpa [aa, Y4] using z
   refine gc (jN a k ha) ?_;refine gc (jN b k hb) ?_;refine gC (fun z=>?_) (fun z=>?_)
   ·have h4 : ah a k < ah b k := by simpa [aa] using z
    have h5:=Hf ha hd h4;refine af ?_;simp[i64,h5]
   have h4:ah b k<ah a k:=by have:ah b k<=ah a k:=(by simpa[aa]using z);omega
   have h5:=Hf hb hd.symm h4;refine af ?_;simp[i64,h5,Nat.lt_asymm h5]
  have h3:ah a k=ah b k:=by simpa[aa,Y4]using z
  refine ga (co oz) ?_;exact aG J1 k ⟨by omega,by rw[qN a,qN b,hd,h3]⟩
 have d5:n=0:=by have:=z;simp[aa]at this;omega
 subst d5;refine af ?_;simp at hd;simp[i64,hd]
theorem wX(a b:List Nat)(ha:Ws a)(hb:Ws b)(la:a.length<al)(lb:b.length<al):FP 202 [ws a,ws b] (ws (ofNat (val a+val b))):=by
 unfold al at la lb;obtain⟨n,hn⟩:∃n,n=max a.length b.length+1:=⟨_,rfl⟩
 refine ai func202 ?_;refine gl ?_;refine gl ?_;refine gs (qo (.tmp rfl) (.tmp rfl) rfl) ?_;refine ga (show _=(n:Int) by rw[cf oz];omega) ?_;refine gW (Wk.virt 900 1 rfl) ?_;refine io [0,1,14] [] (fun(out:List Nat)(c i:Nat)=>[pP 5 (.ms 900 1 0 i),pP 6 (u64 c),pP 15 (i64 i)]) (fun out _ _=>[pP 900 (.row 1 (out.map u32))]) (fun out c i=>out.length=i/\i<=n/\Ws out/\c<=1/\val out+c*4294967296^i=val (a.take i)+val (b.take i)) (fun _ _ i=>n-i) ([]) 0 0 ⟨rfl,by omega,qj,by omega,by simp[val]⟩ ?_;rintro out c i ⟨ho,hi,hw,hc,hv⟩ K1 J1;refine gC (fun z=>?_) (fun z=>?_) (st2:=(9,0))
 ·have ab : i < n := by simpa [aa] using z
  have h1:=a7 ha i;have h2:=a7 hb i;obtain⟨s,hs⟩:∃s,s=c+(ah a i+ah b i):=⟨_,rfl⟩
  have h3:=yP (u:=ah a i) (w:=ah b i) hv;rw[<- hs]at h3;refine gc (by apply jN <;> assumption) ?_;refine gc (by apply jN <;> assumption) ?_;refine ga (gk oz) ?_;refine ga ((gk oz).trans (show _=(s:Int) by congr 1;omega)) ?_;refine gv (cm _) ?_;refine gs (cU (.tmp rfl) rfl (by rw[ZU,ho]) (.tmp rfl) T22 rfl T142 rfl rfl (by simp;omega) rfl rfl) ?_;refine gs (dg (.tmp rfl) (.const _) oz (fd _ 32 oz) rfl) ?_ (8,0);refine gW (Wk.of (sl:=[pP 0 (ws a),pP 1 (ws b),pP 5 (.ms 31 1 0 (i+1)),pP 6 (u64 (s/2^32)),pP 14 (i64 n),pP 15 (i64 i)]) (hp:=[pP 31 (.row 1 ((out++[s%4294967296]).map u32))]) aI (.cons rfl (.of (by rw[aas];rfl)) .nil)) ?_ (8,0);refine gW (Wk.rk (k:=31) (d:=900) rfl rfl) ?_;refine ga (cf oz) ?_;exact fa J1 (out++[s%4294967296]) (s/2^32) (i+1) ⟨by simp[ho],by omega,vr hw (r4 oz),by omega,by rw[F8 ho,bY,bY,X0];exact h3⟩
 have ab:i=n:=by have:n<=i:=(by simpa[aa]using z);omega
 refine gW ((Wk.freeze (k:=900) rfl).trans<|Wk.of (sl:=[pP 5 (ws out)]) (hp:=[]) (.cons rfl (.of (bH (by simp[ho]))) .nil) .nil) ?_;refine gc (pE out hw (by unfold al;omega)) ?_;refine af ?_;subst ab;rw[CW ha hb hn ho (by rw[dk (l:=out) oz];exact hv)]
theorem Aa(a b:List Nat)(ha:Ws a)(hb:Ws b)(la:a.length<al)(aU:val b<=val a):FP 206 [ws a,ws b] (ws (ofNat (val a-val b))):=by
 unfold al at la;obtain⟨n,hn⟩:∃n,n=a.length:=⟨_,rfl⟩
 refine ai func206 ?_;refine gl ?_;refine gW (Wk.virt 900 1 rfl) ?_;refine io [0,1] [] (fun(out:List Nat)(c i:Nat)=>[pP 5 (.ms 900 1 0 i),pP 6 (u64 c),pP 10 (i64 n),pP 11 (i64 i)]) (fun out _ _=>[pP 900 (.row 1 (out.map u32))]) (fun out c i=>out.length=i/\i<=n/\Ws out/\c<=1/\val out+val (b.take i)=val (a.take i)+c*4294967296^i) (fun _ _ i=>n-i) ([]) 0 0 ⟨rfl,by omega,qj,by omega,by simp[val]⟩ ?_ (h1:=(.k (.k (.cons rfl (Sub.int (by rw[hn])) (.k .nil)))))
 rintro out c i ⟨ho,hi,hw,hc,hv⟩ K1 J1;refine gC (fun z=>?_) (fun z=>?_) (st2:=(9,0))
 ·have ab : i < n := by simpa [aa] using z
  have h1:=a7 ha i;have h2:=a7 hb i;obtain⟨s,hs⟩:∃s,s=4294967296+ah a i-ah b i-c:=⟨_,rfl⟩
  have h3:=D8 h1 h2 hc hv;rw[<- hs]at h3;refine gc (by apply jN <;> assumption) ?_;refine ga ((gk (x:=4294967296) oz)) ?_;refine gc (by apply jN <;> assumption) ?_;refine ga ((jm oz oz).trans (by rw[aa2 oz])) ?_;refine ga ((jm oz oz).trans (show _=(s:Int) by rw[aa2 oz];congr 1;omega)) ?_;refine gv (cm _) ?_;refine gs (cU (.tmp rfl) rfl (by rw[ZU,ho]) (.tmp rfl) T22 rfl T142 rfl rfl (by simp;omega) rfl rfl) ?_;refine gs (dg (.tmp rfl) (.const _) oz (fd _ 32 oz) rfl) ?_;refine ga ((jm (x:=1) oz oz).trans (by rw[aa2 oz])) ?_ (8,0);refine gW (Wk.of (sl:=[pP 0 (ws a),pP 1 (ws b),pP 5 (.ms 28 1 0 (i+1)),pP 6 (u64 (1-s/2^32:Nat)),pP 10 (i64 n),pP 11 (i64 i)]) (hp:=[pP 28 (.row 1 ((out++[s%4294967296]).map u32))]) aI (.cons rfl (.of (by rw[aas];rfl)) .nil)) ?_ (8,0);refine gW (Wk.rk (k:=28) (d:=900) rfl rfl) ?_;refine ga (cf oz) ?_;exact fa J1 (out++[s%4294967296]) (1-s/2^32) (i+1) ⟨by simp[ho],by omega,vr hw (r4 oz),by omega,by rw[F8 ho,bY,bY,X0];exact h3⟩
 have ab:i=n:=by have:n<=i:=(by simpa[aa]using z);omega
 refine gW ((Wk.freeze (k:=900) rfl).trans<|Wk.of (sl:=[pP 5 (ws out)]) (hp:=[]) (.cons rfl (.of (bH (by simp[ho]))) .nil) .nil) ?_;refine gc (pE out hw (by unfold al;omega)) ?_;refine af ?_;subst ab;subst hn;rw[G7 ha hw ho aU hv]
theorem TO(a b:List Nat)(ha:Ws a)(hb:Ws b)(la:a.length+b.length<=al):FP 261 [ws a,ws b] (ws (ofNat (val a*val b))):=by
 have la':=la;unfold al at la;refine ai func261 ?_;refine gl ?_;refine gl ?_;refine ga (eY (by unfold an;omega) (by unfold an;omega)) ?_;refine gs (fW (.tmp rfl) T22 rfl T142 rfl rfl oz (by dsimp only;omega) rfl) ?_;refine gl ?_;refine ek [0,1,17] [] (fun(out:List Nat)(i:Nat)=>[pP 5 (.ms 15 1 0 (a.length+b.length)),pP 18 (i64 i)]) (fun out _=>[pP 15 (.row 1 (out.map u32))]) (fun out i=>out.length=a.length+b.length/\i<=a.length/\Ws out/\val (out.take (i+b.length))=val (a.take i)*val b) (fun _ i=>a.length-i) (YO (a.length+b.length) 0) 0 ⟨by simp,by omega,jC _,by simp[val,uS]⟩ ?_ (h2:=(.cons rfl (.of (by rw[aau];rfl)) .nil))
 rintro out i ⟨ho,hi,hw,hv⟩ K1 J1;refine gC (fun z=>?_) (fun z=>?_) (st2:=(14,0))
 ·have ab : i < a.length := by simpa [aa] using z
  have h1:=a7 ha i;refine gl ?_;refine io [0,1,17,18,6,22] [] (fun(o:List Nat)(c k:Nat)=>[pP 5 (.ms 15 1 0 (a.length+b.length)),pP 7 (u64 c),pP 23 (i64 k)]) (fun o _ _=>[pP 15 (.row 1 (o.map u32))]) (fun o c k=>o.length=a.length+b.length/\k<=b.length/\Ws o/\c<4294967296/\val (o.take (i+b.length))+c*4294967296^(i+k)=val (out.take (i+b.length))+4294967296^i*(ah a i*val (b.take k))) (fun _ _ k=>b.length-k) out 0 0 ⟨ho,by omega,hw,by omega,by simp[val]⟩ ?_
  rintro o c k ⟨fh,hk,iv,hc,fi⟩ K2 J2;refine gC (fun z=>?_) (fun z=>?_)
  ·have bP : k < b.length := by simpa [aa] using z
   have h2:=a7 hb k;have h3:=a7 iv (i+k);have h4:=vz h1 h2;obtain⟨s,hs⟩:∃s,s=c+(ah a i*ah b k+ah o (i+k)):=⟨_,rfl⟩
   have h5:=GJ (x:=s%4294967296) (show i+k<o.length by omega) (show i+k<i+b.length by omega);have h6:=GR h5 hs fi;refine gi (d9 (n:=i) oz (by first |omega |(simp;omega))) ?_;refine gv (u64_in oz) ?_;refine gi (d9 (n:=k) oz (by first |omega |(simp;omega))) ?_;refine gv (u64_in oz) ?_;refine ga (uc oz) ?_;refine ga (eY (by unfold an;omega) (by unfold an;omega)) ?_;refine gs (aP (n:=i+k) (.tmp rfl) (.tmp rfl) T22 rfl T142 rfl oz (by first |omega |(simp;omega)) rfl) ?_;refine gs (ay (.tmp rfl) rfl (bn (i:=i+k) oz) T142 rfl rfl rfl) ?_;refine gv (u64_in oz) ?_;refine ga (gk oz) ?_;refine ga ((gk oz).trans (show _=(s:Int) by congr 1;omega)) ?_;refine gD ?_;refine ga (eY (by unfold an;omega) (by unfold an;omega)) ?_;refine gv (cm _) ?_;refine gs (dg (.tmp rfl) (.const _) oz (fd _ 32 oz) rfl) ?_;refine gs (aP (n:=i+k) (.tmp rfl) (.tmp rfl) T22 rfl T142 rfl oz (by first |omega |(simp;omega)) rfl) ?_;refine gs (bJ (.tmp rfl) rfl (bn (i:=i+k) oz) rfl (.tmp rfl) rfl rfl T142 rfl rfl) ?_;refine ga (cf oz) ?_;exact fa J2 (o.set (i+k) (s%4294967296)) (s/2^32) (k+1) ⟨by simp[fh],by omega,eG iv oz,by omega,by rw[show i+(k+1)=(i+k)+1 from rfl,show s/2^32=s/4294967296 from rfl,X0,h6,bY];simp only[aat];grind⟩ (hw:=Wk.of aI (.cons rfl (.of (by rw[aaw];rfl)) .nil))
  have bP:k=b.length:=by have:b.length<=k:=(by simpa[aa]using z);omega
  subst bP;have h5:=jJ (x:=c) (show i+b.length<o.length by omega);rw[aab]at fi;refine gl ?_;refine ga (eY (by unfold an;omega) (by unfold an;omega)) ?_;refine gv ((cm c).trans (by rw[Xr hc])) ?_;refine gs (aP (n:=i+b.length) (.tmp rfl) (.tmp rfl) T22 rfl T142 rfl oz (by first |omega |(simp;omega)) rfl) ?_;refine gs (bJ (.tmp rfl) rfl (bn (i:=i+b.length) oz) rfl (.tmp rfl) rfl rfl T142 rfl rfl) ?_;refine ga (cf oz) ?_;exact dt J1 (o.set (i+b.length) c) (i+1) ⟨by simp[fh],by omega,eG iv hc,by rw[show i+1+b.length=i+b.length+1 by omega,h5,bY];simp only[aat]at *;grind⟩ (hw:=Wk.of aI (.cons rfl (.of (by rw[aaw];rfl)) .nil))
 have ab:i=a.length:=by have:a.length<=i:=(by simpa[aa]using z);omega
 subst ab;rw[aab,dk oz]at hv;refine gW ((Wk.freeze (k:=15) rfl).trans<|Wk.of (sl:=[pP 5 (ws out)]) (hp:=[]) (.cons rfl (.of (bH (by simp[ho]))) .nil) .nil) ?_;refine gc (pE out hw oz) ?_;refine af ?_;rw[hv]
theorem zB(a:Wh)(ha:a.ok):FP 76 [a.av] (i64 a.z.sign):=by
 obtain⟨e1,e2,e3⟩:=B7 ha;refine ai func76 ?_;refine gc (jj a ha) ?_;refine gl ?_;refine gC (fun z=>?_) (fun z=>?_)
 ·have h0 : a.m.length = 0 := by simpa [aa] using z
  refine af ?_;rw[e1 h0];rfl
 have h0:a.m.length≠0:=by simpa[aa]using z
 have eN:a.valid=true:=by
  unfold Wh.m at h0;split at h0
  ·assumption
  ·exact aa8 rfl h0
 refine gc (gd a ha) ?_;refine gC (fun z=>?_) (fun z=>?_)
 ·have h1 : a.neg = true := by unfold Wh.n at z; rw [eN] at z; simpa using z
  refine af ?_;rw[e2 h0 h1];rfl
 have h1:a.neg=false:=by unfold Wh.n at z;rw[eN]at z;simpa using z
 refine af ?_;rw[e3 h0 h1];rfl
theorem BX(a:Wh)(ha:a.ok)(la:a.mag.length<al):FP 143 [a.av] (zA (-a.z)):=by
 refine ai func143 ?_;refine gc (gd a ha) ?_;refine gc (jj a ha) ?_;refine gc (iJ _ a.m (Wh.ws ha) (Xu (Wh.small ha la))) ?_;refine gD ?_;refine af ?_;rw[Wh.z_eq,<- EJ];rfl
theorem TW(a b:Wh)(ha:a.ok)(hb:b.ok)(la:a.mag.length+b.mag.length<=al):FP 204 [a.av,b.av] (zA (a.z*b.z)):=by
 have h1:=Wh.m_le (w:=a);have h2:=Wh.m_le (w:=b);have h3:(ofNat (val a.m*val b.m)).length<=a.m.length+b.m.length:=dM (by rw[aat];exact XQ (bg _ (Wh.ws ha)) (bg _ (Wh.ws hb)));refine ai func204 ?_;refine gc (gd a ha) ?_;refine gc (gd b hb) ?_;refine gc (jj a ha) ?_;refine gc (jj b hb) ?_;refine gc (TO a.m b.m (Wh.ws ha) (Wh.ws hb) oz) ?_;refine gc (iJ _ _ (b7 _) oz) ?_;refine gD ?_;refine af ?_;rw[bi,EC];rfl
theorem EE(a b:Wh)(ha:a.ok)(hb:b.ok)(la:a.mag.length<al)(lb:b.mag.length<al):FP 196 [a.av,b.av] (zA (a.z+b.z)):=by
 have h1:=Wh.m_le (w:=a);have h2:=Wh.m_le (w:=b);have gK:val a.m<4294967296^(max a.m.length b.m.length):=Z9 (bg _ (Wh.ws ha)) (Xt oz oz);have fj:val b.m<4294967296^(max a.m.length b.m.length):=Z9 (bg _ (Wh.ws hb)) (Xt oz oz);have h3:(ofNat (val a.m+val b.m)).length<=max a.m.length b.m.length+1:=dM (by rw[X0];omega);have h4:(ofNat (val a.m-val b.m)).length<=max a.m.length b.m.length:=dM oz;have h5:(ofNat (val b.m-val a.m)).length<=max a.m.length b.m.length:=dM oz;refine ai func196 ?_;refine gc (jj a ha) ?_;refine gc (jj b hb) ?_;refine gD ?_;refine gc (gd a ha) ?_;refine gc (gd b hb) ?_;refine gD ?_;refine gC (fun z=>?_) (fun z=>?_)
 ·have h0 : a.n = b.n := by simpa using z
  refine gc (gd a ha) ?_;refine gc (wX a.m b.m (Wh.ws ha) (Wh.ws hb) oz oz) ?_;refine gc (iJ _ _ (b7 _) oz) ?_;refine af ?_;rw[bi,H3 h0];rfl
 have h0:a.n≠b.n:=by simpa using z
 refine gc (xx a.m b.m (Wh.ws ha) (Wh.ws hb)) ?_;refine gC (fun t25=>?_) (fun t25=>?_)
 ·have h6:val b.m<=val a.m:=by
   rcases Z2 (val a.m) (val b.m)with h |h
   ·rw[aa2 h]at t25;cases t25
   ·exact h
  refine gc (gd a ha) ?_;refine gc (Aa a.m b.m (Wh.ws ha) (Wh.ws hb) oz oz) ?_;refine gc (iJ _ _ (b7 _) oz) ?_;refine af ?_;rw[bi,xQ h0 h6];rfl
 have h6:val a.m<val b.m:=by
  rcases Z2 (val a.m) (val b.m)with h |h
  ·exact h
  ·rw[aa1 oz]at t25;split at t25 <;> cases t25
 refine gc (gd b hb) ?_;refine gc (Aa b.m a.m (Wh.ws hb) (Wh.ws ha) oz oz) ?_;refine gc (iJ _ _ (b7 _) oz) ?_;refine af ?_;rw[bi,HN h0 oz];rfl
theorem Gh(n:Int)(h:-9223372036854775808<=n/\n<=9223372036854775807):FP 79 [i64 n] (zA n):=by
 obtain⟨N,hN⟩:∃N,N=n.natAbs:=⟨_,rfl⟩
 have lH:N<18446744073709551616:=by omega
 refine ai func79 ?_;refine gv (show IntKind.u64.wrap n=((n%18446744073709551616:Int)) by simp only[IntKind.wrap,IntKind.signed,IntKind.bits,Zo,if_false,Zm];omega) ?_;refine gC (fun z=>?_) (fun z=>?_) (st2:=(77777,0))
 ·have hn : n < 0 := by simpa [aa] using z
  refine gs (un (.tmp rfl) rfl) ?_ (4,0);refine gW (Wk.of (sl:=[pP 0 (i64 n),pP 2 (.ptr 2 0),pP 3 (u64 N)]) (hp:=[pP 2 (.box [.v (.bool false),nS])]) (.k (.k (.cons rfl (Sub.int (by simp only[IntKind.wrap,IntKind.signed,IntKind.bits,Zo,if_false,Zm];omega)) .nil))) (.k .nil)) ?_;refine gv (cm _) ?_;refine gs (dg (.tmp rfl) (.const _) oz (fd _ 32 oz) rfl) ?_;refine gv ((cm _).trans (by rw[Xr (show N/2^32<4294967296 by omega)])) ?_;refine gc (iJ (aa .lss n 0) [N%4294967296,N/2^32] (tu lH) (by unfold al;simp)) ?_;refine af ?_;rw[uq lH,show sgn (aa .lss n 0) N=n by simp only[sgn,aa,aa3];split <;> omega];rfl
 have hn:¬n<0:=by simpa[aa]using z
 refine gW (Wk.of (sl:=[pP 0 (i64 n),pP 2 (.ptr 2 0),pP 3 (u64 N)]) (hp:=[pP 2 (.box [.v (.bool false),nS])]) (.k (.k (.cons rfl (Sub.int oz) .nil))) (.k .nil)) ?_;refine gv (cm _) ?_;refine gs (dg (.tmp rfl) (.const _) oz (fd _ 32 oz) rfl) ?_;refine gv ((cm _).trans (by rw[Xr (show N/2^32<4294967296 by omega)])) ?_;refine gc (iJ (aa .lss n 0) [N%4294967296,N/2^32] (tu lH) (by unfold al;simp)) ?_;refine af ?_;rw[uq lH,show sgn (aa .lss n 0) N=n by simp only[sgn,aa,aa3];split <;> omega];rfl
theorem NK(a b:Wh)(ha:a.ok)(hb:b.ok)(la:a.mag.length<al)(lb:b.mag.length<al):FP 136 [a.av,b.av] (zA (a.z-b.z)):=by
 have h1:=(Wh.lz hb).neg;have h2:=Ga h1;refine ai func136 ?_;refine gc (BX b hb lb) ?_;refine gc (EE a (ofInt (-b.z)) ha (Bp h1 hb.2) la oz) ?_;refine gD ?_;refine af ?_;rw[cB,<- Int.sub_eq_add_neg];rfl
theorem Tc(a b:Wh)(ha:a.ok)(hb:b.ok)(la:a.mag.length<al)(lb:b.mag.length<al):FP 72 [a.av,b.av] (i64 (e8 a.z b.z)):=by
 have h1:=(Wh.lz ha).sub (Wh.lz hb);have h2:=Ga h1;refine ai func72 ?_;refine gc (NK a b ha hb la lb) ?_;refine gc (zB (ofInt (a.z-b.z)) (Bp h1 (by unfold an;unfold al at la lb;omega))) ?_;refine af ?_;rw[cB,Tb]
theorem ov{A:List Nat}{n:Nat}:AV.lst 1 (((A.map u32).drop 0).take n)=ws (A.take n):=by
 rw[aax,<- map_take];rfl
theorem B2(A:List Nat):(Blk.row 1 (A.map u32)).sc=true:=by
 simp only[Blk.sc,List.all_map];rw[Z6];intro x _;rfl
theorem mL{A:List Nat}{n i:Nat}(h:i<n):ah (A.take n) i=ah A i:=by
 simp[ah,h]
theorem EY{A:List Nat}{n i:Nat}(h:n<=i):ah (A.take n) i=0:=o5 (by simp;omega)
theorem Sq{x:Nat}(h:0<x):ax x=ax (x/2)+1:=by
 rcases Z2 x 2 with h1 |h1
 ·have : x = 1 := by omega
  subst this;decide
 ·have:=qQ (x:=x) (k:=1) oz;rw[show x/2^1=x/2 from rfl]at this;omega
theorem KT{a:List Nat}{n:Nat}(ha:Ws a)(na:Nz a)(hl:a.length=n+1):ax (val a)=32*n+ax (ah a n):=by
 have ht:ah a n≠0:=by
  refine na _ ?_;rw[YF,hl];exact gM oz
 have hv:val a=val (a.take n)+4294967296^n*ah a n:=by rw[<- bY,dk oz]
 have hlt:=mX ha n;have hp:(4294967296:Nat)^n=2^(32*n):=by rw[XR]
 rw[hp]at hv hlt
 have h1:val a/2^(32*n)=ah a n:=by
  rw[hv,XT _ _ (Xx oz),XE hlt,XF]
 have h2:2^(32*n)<=val a:=by
  have:=Z4 (2^(32*n)) (show 1<=ah a n by omega);omega
 rw[qQ h2,h1]
theorem Eh{o A:List Nat}{n v:Nat}(ho:Ws o)(hl:o.length=A.length)(hn:n<=A.length)(hd:o.drop n=A.drop n)(hv:val (o.take n)=v):o=wr A 0 (aD n v):=by
 have h1:aL o 0 n=aD n v:=uZ (lO ho _ _) (nu oz) (by rw[aL,aax,hv]);rw[<- h1];exact zQ (by simp) (by rw[XF];exact hd) oz
theorem zW(k:Nat)(A:List Nat)(n i:Nat)(hA:Ws A)(hn:n<=A.length) :
  Con prog 260 [.ms k 1 0 n,i64 i] [(k,some (.row 1 (A.map u32)))] (u64 (ah (A.take n) i)) [(k,some (.row 1 (A.map u32)))]:=by
 refine Con.borrow (args:=[ws (A.take n),i64 i]) k 1 (A.map u32) rfl rfl rfl ?_ rfl (fun k' x h=>by cases h) (jN (A.take n) i (eJ hA n));intro j x' hj
 match j,hj with
 |0,hj=>cases hj;exact .inr ⟨0,n,rfl,by simpa using hn,by rw[ov];rfl⟩
 |1,hj=>cases hj;exact .inl rfl
theorem LC(k1 k2:Nat)(hk:k1≠k2)(A D:List Nat)(n p:Nat)(hA:Ws A)(hD:Ws D)(hn:n<=A.length)(hp:p<=D.length) :
  Con prog 199 [.ms k1 1 0 n,.ms k2 1 0 p] [(k1,some (.row 1 (A.map u32))),(k2,some (.row 1 (D.map u32)))]
   (i64 (if val (A.take n)<val (D.take p)then -1 else if val (D.take p)<val (A.take n)then 1 else 0)) [(k1,some (.row 1 (A.map u32))),(k2,some (.row 1 (D.map u32)))]:=by
 have h1:Con prog 199 [ws (A.take n),.ms k2 1 0 p] [(k2,some (.row 1 (D.map u32)))]
   (i64 (if val (A.take n)<val (D.take p)then -1 else if val (D.take p)<val (A.take n)then 1 else 0)) [(k2,some (.row 1 (D.map u32)))]:=by
  refine Con.borrow (args:=[ws (A.take n),ws (D.take p)]) k2 1 (D.map u32) rfl rfl rfl ?_ rfl (fun k' x h=>by cases h) (xx (A.take n) (D.take p) (eJ hA n) (eJ hD p));intro j x' hj
  match j,hj with
  |0,hj=>cases hj;exact .inl rfl
  |1,hj=>cases hj;exact .inr ⟨0,p,rfl,by simpa using hp,by rw[ov];rfl⟩
 refine Con.borrow (args:=[ws (A.take n),.ms k2 1 0 p]) k1 1 (A.map u32) ?_ ?_ rfl ?_ rfl ?_ h1
 ·rw[aq,aa1 hk];rfl
 ·rw[aq,aa1 hk];rfl
 ·intro j x' hj
  match j,hj with
  |0,hj=>cases hj;exact .inr ⟨0,n,rfl,by simpa using hn,by rw[ov];rfl⟩
  |1,hj=>cases hj;exact .inl rfl
 ·intro k' x h;obtain⟨_,h⟩:=kA h;cases h;exact B2 D
theorem Jn(k:Nat)(A b:List Nat)(n:Nat)(hA:Ws A)(hb:Ws b)(hn:n<=A.length) :
  Con prog 199 [.ms k 1 0 n,ws b] [(k,some (.row 1 (A.map u32)))]
   (i64 (if val (A.take n)<val b then -1 else if val b<val (A.take n)then 1 else 0)) [(k,some (.row 1 (A.map u32)))]:=by
 refine Con.borrow (args:=[ws (A.take n),ws b]) k 1 (A.map u32) rfl rfl rfl ?_ rfl (fun k' x h=>by cases h) (xx (A.take n) b (eJ hA n) hb);intro j x' hj
 match j,hj with
 |0,hj=>cases hj;exact .inr ⟨0,n,rfl,by simpa using hn,by rw[ov];rfl⟩
 |1,hj=>cases hj;exact .inl rfl
theorem SU(a:List Nat)(ha:Ws a)(na:Nz a)(la:a.length<=al):FP 262 [ws a] (i64 (ax (val a))):=by
 unfold al at la;refine ai func262 ?_;refine gl ?_;refine gC (fun z=>?_) (fun z=>?_)
 ·have h0 : a=[] := Yo.1 (by simpa[aa]using z);refine af ?_;subst h0;rfl
 have h0:a.length≠0:=by simpa[aa]using z
 obtain⟨n,hn⟩:∃n,a.length=n+1:=⟨a.length-1,by omega⟩
 have hB:=KT ha na hn;have ht:=a7 ha n;refine gl ?_;refine ga (show _=(n:Int) by rw[co oz];omega) ?_;refine ga (show _=((32*n:Nat):Int) by rw[Bn oz];omega) ?_;refine gl ?_;refine ga (show _=(n:Int) by rw[co oz];omega) ?_;refine gi (d9 (n:=n) oz (by first |omega |(simp;omega))) ?_;refine ek [] [] (fun(x c:Nat)=>[pP 3 (i64 c),pP 4 (u32 x)]) (fun _ _=>[]) (fun x c=>x<4294967296/\c<=281474976710656/\c+ax x=ax (val a)) (fun x _=>x) (ah a n) (32*n) ⟨ht,by omega,hB.symm⟩ ?_;rintro x c ⟨hx,hc,hv⟩ K1 J1;refine gC (fun z=>?_) (fun z=>?_)
 ·have iZ : 0 < x := by simpa [aa] using z
  have h2:=Sq iZ
  have h3:ax (val a)<=32*n+32:=by
   have:=(zP (x:=ah a n)  (by
    refine na _ ?_;rw[YF,hn];exact gM oz) ht).1
   omega
  refine ga (show _=((c+1:Nat):Int) by rw[cf oz];omega) ?_;refine gs (dg (.tmp rfl) (.const _) oz (oS x 1 oz) rfl) ?_;exact dt J1 (x/2^1) (c+1) ⟨by omega,by omega,by rw[show x/2^1=x/2 from rfl];omega⟩
 have iZ:x=0:=by have:x<=0:=(by simpa[aa]using z);omega
 subst iZ;refine af ?_;rw[<- hv];rfl
theorem yA(A:List Nat)(n:Nat)(hA:Ws A)(hn:n<=A.length)(la:A.length<=al) :
  Con prog 201 [.ms 1000 1 0 n] [pP 1000 (.row 1 (A.map u32))] (.ms 1000 1 0 (ofNat (val (A.take n))).length) [pP 1000 (.row 1 (A.map u32))]:=by
 unfold al at la;refine gF func201 (fun k z h=>ja h) ?_;refine aK [] [1000] (fun(j:Nat)=>[pP 0 (.ms 1000 1 0 j)]) (fun _=>[]) (fun j=>j<=n/\val (A.take j)=val (A.take n)) (fun j=>j) n ⟨Z0 _,rfl⟩ ?_;rintro j ⟨hj,hv⟩ K1 J1;refine fD (fun h=>(bZ (by simp[aa]at h;omega) (by unfold an;omega))) ?_;refine gs (bB rfl rfl rfl (fun h=>aP (n:=j-1) (.opt rfl (o1 h)) (.opt rfl (o1 h)) T22 rfl T142 rfl oz (by simp[aa]at h;omega) rfl)) ?_;refine gs (bB rfl rfl rfl (fun h=>ay (.opt rfl (o1 h)) rfl (bn (i:=j-1) (by simp[aa]at h;omega)) T142 rfl rfl rfl)) ?_;refine gC (fun t14=>?_) (fun t14=>?_)
 ·have t14 : 0 < j /\ ah A (j - 1) = 0 := by simpa [aa] using t14
  refine ga (bZ oz (by unfold an;omega)) ?_;refine gs (od (.tmp rfl) (.none _) (.some _ (.tmp rfl) oz) T22 rfl T142 rfl oz oz rfl) ?_;exact aG J1 (j-1) ⟨by omega,by have h:=@bY A (j-1);rw[show j-1+1=j by omega,t14.2]at h;simp at h;omega⟩ (hw:=Wk.of (.cons rfl (.of (by congr 1)) .nil) (.k .nil))
 have t14:0<j->ah A (j-1)≠0:=by simpa[aa]using t14
 have gB := EL (m := A.take n) (n := j) (eJ hA n) (by simp; omega) (by rw [Yn, X7 hj]; exact hv) (by
  rcases XC j with h |h
  ·exact .inl h
  ·exact .inr (by rw[mL oz];exact t14 h))
 subst gB;refine gR ?_;exact aM.own2 rfl rfl rfl
theorem um(A:List Nat)(n:Nat)(hA:Ws A)(hn:n<=A.length)(la:A.length<=al) :
  Con prog 198 [.ms 1000 1 0 n] [pP 1000 (.row 1 (A.map u32))] (.ms 1000 1 0 (ofNat (val (A.take n)/2)).length) [pP 1000 (.row 1 ((wr A 0 (aD n (val (A.take n)/2))).map u32))]:=by
 have la':=la;unfold al at la;refine gF func198 (fun k z h=>ja h) ?_;refine ek [5] [] (fun(o:List Nat)(i:Nat)=>[pP 0 (.ms 1000 1 0 n),pP 6 (i64 i)]) (fun o _=>[pP 1000 (.row 1 (o.map u32))]) (fun o i=>o.length=A.length/\i<=n/\Ws o/\o.drop i=A.drop i/\val (o.take i)=val (A.take n)/2^1%4294967296^i) (fun _ i=>n-i) A 0 ⟨rfl,by omega,hA,rfl,by simp[val,Nat.mod_one]⟩ ?_;rintro o i ⟨ho,hi,hw,hd,hv⟩ K1 J1;refine gC (fun u=>?_) (fun u=>?_)
 ·have ab : i < n := by simpa [aa] using u
  have e1:ah (o.take n) i=ah (A.take n) i:=by rw[mL ab,mL ab];exact oV hd
  have ju:o.drop (i+1)=A.drop (i+1):=by
   have h1:(o.drop i).drop 1=(A.drop i).drop 1:=by rw[hd]
   rwa [drop_drop,drop_drop]at h1
  have e2:ah (o.take n) (i+1)=ah (A.take n) (i+1):=by
   rcases Z2 (i+1) n with h |h
   ·rw[mL h,mL h];exact oV ju
   ·rw[EY h,EY h]
  have b1:=a7 (eJ hA n) i;have b2:=a7 (eJ hA n) (i+1);have h3:=CD (n:=1) (eJ hA n) (show i<(A.take n).length by simp;omega) (show i<o.length by omega) oz hv;refine gt (bF (zW 1000 o n i hw oz) (fJ rfl rfl) bW rfl rfl) ?_;refine gs (dg (.tmp rfl) (.const _) oz ((fd _ 1 oz).trans (by rw[e1])) rfl) ?_;refine ga (eY (y:=1) (by unfold an;omega) (by unfold an;omega)) ?_;refine gt (bF (zW 1000 o n (i+1) hw oz) (fJ rfl rfl) bW rfl rfl) ?_;refine gs (jk (.tmp rfl) (.const _) oz ((ox (n:=31) oz oz).trans (by rw[e2])) rfl) ?_;refine gs (il (.tmp rfl) (.tmp rfl) rfl ((qU oz oz).trans (by rw[zK oz])) rfl) ?_;refine gv ((cm _).trans (show _=(((ah (A.take n) i+ah (A.take n) (i+1)*2^32)/2^1%4294967296:Nat):Int) by congr 1;omega)) ?_;refine gs (aP (n:=i) (.tmp rfl) (.tmp rfl) T22 rfl T142 rfl oz (by first |omega |(simp;omega)) rfl) ?_;refine gs (bJ (.tmp rfl) rfl (bn (i:=i) oz) rfl (.tmp rfl) rfl rfl T142 rfl rfl) ?_;refine ga (cf oz) ?_;exact dt J1 (o.set i ((ah (A.take n) i+ah (A.take n) (i+1)*2^32)/2^1%4294967296)) (i+1) ⟨by simp[ho],by omega,eG hw oz,qu hd,h3⟩ (hw:=Wk.of aI (.cons rfl (.of (by rw[aaw];rfl)) .nil))
 have ab:i=n:=by have:n<=i:=(by simpa[aa]using u);omega
 subst ab;have hlt:=mX hA i;have hv':val (o.take i)=val (A.take i)/2:=by rw[hv,Xr oz]
 have h9:=Eh hw ho hn hd hv';refine gt (bF (yA o i hw oz oz) (gn rfl) bW rfl rfl) ?_;refine gR ?_;exact aM.own2 rfl (by rw[<- h9]) (by rw[hv'];rfl)
theorem Hi(A b:List Nat)(n:Nat)(hA:Ws A)(hb:Ws b)(hn:n<=A.length)(la:A.length<=al)(aU:val b<=val (A.take n)) :
  Con prog 200 [.ms 1000 1 0 n,ws b] [pP 1000 (.row 1 (A.map u32))] (.tup []) [pP 1000 (.row 1 ((wr A 0 (aD n (val (A.take n)-val b))).map u32))]:=by
 unfold al at la;refine gF func200 (fun k z h=>ja h) ?_;refine io [1,8] [] (fun(o:List Nat)(c i:Nat)=>[pP 0 (.ms 1000 1 0 n),pP 4 (u64 c),pP 9 (i64 i)]) (fun o _ _=>[pP 1000 (.row 1 (o.map u32))]) (fun o c i=>o.length=A.length/\i<=n/\Ws o/\c<=1/\o.drop i=A.drop i/\val (o.take i)+val (b.take i)=val (A.take i)+c*4294967296^i) (fun _ _ i=>n-i) A 0 0 ⟨rfl,by omega,hA,by omega,rfl,by simp[val]⟩ ?_;rintro o c i ⟨ho,hi,hw,hc,hd,hv⟩ K1 J1;refine gC (fun y=>?_) (fun y=>?_)
 ·have ab : i < n := by simpa [aa] using y
  have e1:ah (o.take n) i=ah A i:=by rw[mL ab];exact oV hd
  have h1:=a7 hA i;have h2:=a7 hb i;obtain⟨s,hs⟩:∃s,s=4294967296+ah A i-ah b i-c:=⟨_,rfl⟩
  have h3:=D8 h1 h2 hc hv;rw[<- hs]at h3;refine gt (bF (zW 1000 o n i hw oz) (fJ rfl rfl) bW rfl rfl) ?_;refine ga ((gk (x:=4294967296) oz).trans (by rw[e1])) ?_;refine gc (jN b i hb) ?_;refine ga ((jm oz oz).trans (by rw[aa2 oz])) ?_;refine ga ((jm oz oz).trans (show _=(s:Int) by rw[aa2 oz];congr 1;omega)) ?_;refine gv (cm _) ?_;refine gs (dg (.tmp rfl) (.const _) oz (fd _ 32 oz) rfl) ?_;refine ga ((jm (x:=1) oz oz).trans (by rw[aa2 oz])) ?_;refine gs (aP (n:=i) (.tmp rfl) (.tmp rfl) T22 rfl T142 rfl oz (by first |omega |(simp;omega)) rfl) ?_;refine gs (bJ (.tmp rfl) rfl (bn (i:=i) oz) rfl (.tmp rfl) rfl rfl T142 rfl rfl) ?_;refine ga (cf oz) ?_;exact fa J1 (o.set i (s%4294967296)) (1-s/2^32) (i+1) ⟨by simp[ho],by omega,eG hw oz,by omega,qu hd,by rw[jJ oz,bY,bY,X0];exact h3⟩ (hw:=Wk.of aI (.cons rfl (.of (by rw[aaw];rfl)) .nil))
 have ab:i=n:=by have:n<=i:=(by simpa[aa]using y);omega
 subst ab;have hl:(A.take i).length=i:=by simp;omega
 have h4:=G7 (a:=A.take i) (b:=b) (out:=o.take i) (eJ hA i) (eJ hw i) (by simp;omega) aU (by rw[hl,aag (show(A.take i).length<=i by omega)];exact hv);have h9:=Eh hw ho hn hd h4;refine gR ?_;exact aM.own2 rfl (by rw[<- h9]) rfl
theorem A4{x:Nat}(h:x<=9223372036854775807):IntKind.i64.wrap ((x:Int).tdiv 32)=((x/32:Nat):Int):=by
 rw[show(32:Int)=((32:Nat):Int)from rfl,<- Int.ofNat_tdiv];exact i64_in oz
theorem GK{x:Nat}:(x:Int).tmod 32=((x%32:Nat):Int):=(Int.ofNat_tmod _ _).symm
theorem rr(i:Nat):(4294967296:Nat)^i=2^(32*i):=by rw[XR]
theorem SK{a:List Nat}(ha:Ws a){k:Nat}(hk:k/32<a.length):ah a (k/32)/2^(k%32)%2=val a/2^k%2:=by
 have h1:val a/2^k=(val a/4294967296^(k/32))/2^(k%32):=by
  rw[rr,XI,<- aat];congr 2;omega
 rw[h1,uC ha _ oz,qN];generalize val (a.drop (k/32+1))=R
 have h2:4294967296*R=2^(k%32)*(2*(2^(31-k%32)*R)):=by
  have:(4294967296:Nat)=2^(k%32)*(2*2^(31-k%32)):=by
   rw[<- Nat.pow_succ',<- aat,show k%32+(31-k%32).succ=32 by omega]
  conv=>lhs;rw[this]
  grind
 rw[h2,XT _ _ (Xx oz),Xz]
theorem QF{w c:Nat}(hc:c<=1):w*2^1%4294967296 ||| c=w*2^1%4294967296+c:=by
 have h:w*2^1%4294967296=(w%2147483648)*2^1:=by omega
 rw[h];exact rK oz
theorem SP{o c P rt w bit:Nat}(hw:w<4294967296)(h:o+c*P=2*rt+bit) :
  (o+P*(w*2^1%4294967296+c))+(w/2^31)*(P*4294967296)=2*(rt+P*w)+bit:=by
 have h0:w*2^1%4294967296+(w/2^31)*4294967296=2*w:=by omega
 generalize w*2^1%4294967296=r at *;generalize w/2^31=q at *;grind
theorem Qh{q:List Nat}(hq:Ws q){k Y:Nat}(hk:k/32<q.length)(h:val q=2^(k+1)*Y) :
  ah q (k/32) ||| 2^(k%32)=ah q (k/32)+2^(k%32)/\ah q (k/32)+2^(k%32)<4294967296:=by
 have h1:=uC hq (k/32) oz;rw[qN,h,rr,show k+1=32*(k/32)+(k%32+1) by omega,aat,XJ,XY _ (Xx oz)]at h1;have hw:=a7 hq (k/32);generalize ah q (k/32)=w at *;generalize val (q.drop (k/32+1))=R at *
 have hB:(4294967296:Nat)=2^(k%32+1)*2^(31-k%32):=by
  rw[<- aat,show k%32+1+(31-k%32)=32 by omega]
 have h2:w%2^(k%32+1)=0:=by
  have h3:(w+4294967296*R)%2^(k%32+1)=0:=by rw[<- h1];exact Nat.mul_mod_right _ _
  rw[hB,XJ,Xz]at h3;exact h3
 have h4:w=2^(k%32+1)*(w/2^(k%32+1)):=by
  have:=X9 w (2^(k%32+1));omega
 have h5:2^(k%32)<2^(k%32+1):=by rw[X0];have:=Xx (n:=k%32) (show 0<2 by omega);omega
 constructor
 ·rw[h4];exact(Nat.two_pow_add_eq_or_of_lt h5 _).symm
 ·have h6:w/2^(k%32+1)<2^(31-k%32):=by
   rw[XM (Xx oz),X6,<- hB];exact hw
  have h7:=Z4 (2^(k%32+1)) (show w/2^(k%32+1)+1<=2^(31-k%32)from h6);rw[<- hB,Xy,<- h4]at h7;omega
theorem Ob{q:List Nat}(hq:Ws q){k Y:Nat}(hk:k/32<q.length)(h:val q=2^(k+1)*Y) :
  val (q.set (k/32) (ah q (k/32)+2^(k%32)))=2^k*(2*Y+1):=by
 have h1:=z8 (x:=ah q (k/32)+2^(k%32)) hk;rw[Xy]at h1;have h2:4294967296^(k/32)*2^(k%32)=2^k:=by rw[rr,<- aat];congr 1;omega
 rw[h2,h,X0]at h1;grind
theorem OG{V Bv k:Nat}(hB:0<Bv) :
  (Bv<=2*(V/2^(k+1)%Bv)+V/2^k%2->V/2^k%Bv=2*(V/2^(k+1)%Bv)+V/2^k%2-Bv/\V/2^k/Bv=2*(V/2^(k+1)/Bv)+1) /\
  (2*(V/2^(k+1)%Bv)+V/2^k%2<Bv->V/2^k%Bv=2*(V/2^(k+1)%Bv)+V/2^k%2/\V/2^k/Bv=2*(V/2^(k+1)/Bv)):=by
 have h1:V/2^(k+1)=V/2^k/2:=by rw[X0,XI]
 rw[h1];generalize V/2^k=X;have h2:=X9 X 2;have h3:=X9 (X/2) Bv;have h4:=X8 (X/2) hB;have h5:=X8 X (show 0<2 by omega);generalize X/2%Bv=r at *;generalize X/2/Bv=q at *;generalize X%2=b at *;generalize X/2=Y at *;constructor
 ·intro h;have:=vG (a:=X) (w:=Bv) (q:=2*q+1) (r:=2*r+b-Bv) (by rw[Xy,Nat.mul_one,show Bv*(2*q)=2*(Bv*q) by grind];omega) oz;exact⟨this.2,this.1⟩
 ·intro h;have:=vG (a:=X) (w:=Bv) (q:=2*q) (r:=2*r+b) (by rw[show Bv*(2*q)=2*(Bv*q) by grind];omega) oz;exact⟨this.2,this.1⟩
theorem Uc{A l:List Nat}(h:l.length=A.length):wr A 0 l=l:=by
 unfold wr;rw[aal oz];simp
theorem Bq{V:Nat}:V/2^ax V=0:=XE tT
theorem Du{a:List Nat}(ha:Ws a){k:Nat}(h:k<ax (val a)):k/32<a.length:=by
 rcases Z2 (k/32) a.length with h1 |h1
 ·exact h1
 ·exfalso;have h2:=bg a ha;rw [rr] at h2;have h3:val a ≠ 0:=by intro h0; rw [h0] at h; simp [ax] at h
  have h4:=sU h3;have h5:2^(32*a.length)<=2^(ax (val a)-1):=m8 oz;omega
theorem Qw(a b:List Nat)(ha:Ws a)(hb:Ws b)(na:Nz a)(eQ:val b≠0)(la:a.length<al)(lb:b.length<al) :
  FP 205 [ws a,ws b] (.tup [ws (ofNat (val a/val b)),ws (ofNat (val a%val b))]):=by
 have la':=la;have lb':=lb;unfold al at la lb;obtain⟨V,hV⟩:∃V,V=val a:=⟨_,rfl⟩
 obtain⟨Bv,vQ⟩:∃Bv,Bv=val b:=⟨_,rfl⟩
 have AG:0<Bv:=by omega
 have W4:2*Bv<=4294967296^(b.length+1):=by have:=bg b hb;rw[X0];omega
 have i4:ax V<=32*a.length:=by
  rcases XC (ax V)with h |h
  ·omega
  ·have := Du ha (k := ax V-1) (by rw[<- hV];omega);omega
 rw[<- hV,<- vQ];refine ai func205 ?_;refine gl ?_;refine gs (fW (.tmp rfl) T22 rfl T142 rfl rfl oz (by dsimp only;omega) rfl) ?_;refine gl ?_;refine ga (eY (y:=1) (by unfold an;omega) (by unfold an;omega)) ?_;refine gs (fW (.tmp rfl) T22 rfl T142 rfl rfl oz (by dsimp only;omega) rfl) ?_;refine gc (hV▸SU a ha na oz) ?_;refine ga (co oz) ?_;refine io [0,1] [] (fun(q r:List Nat)(i:Nat)=>[pP 6 (.ms 13 1 0 a.length),pP 7 (.ms 17 1 0 (b.length+1)),pP 8 (i64 ((i:Int)-1))]) (fun q r _=>[pP 13 (.row 1 (q.map u32)),pP 17 (.row 1 (r.map u32))]) (fun q r i=>q.length=a.length/\r.length=b.length+1/\Ws q/\Ws r/\i<=ax V/\val r=V/2^i%Bv/\val q=2^i*(V/2^i/Bv)) (fun _ _ i=>i) (YO a.length 0) (YO (b.length+1) 0) (ax V) ⟨by simp,by simp,jC _,jC _,Z0 _,by rw[uS,Bq,Nat.zero_mod],by rw[uS,Bq,Nat.zero_div,Nat.mul_zero]⟩ ?_ (h2:=(.cons rfl (.of (by rw[aau];rfl)) (.cons rfl (.of (by rw[aau];rfl)) .nil)))
 rintro q r i ⟨nV,sD,wq,wr',hi,hr,hq⟩ K1 J1;refine gC (fun z=>?_) (fun z=>?_) (st2:=(15,0))
 ·have pW : 1 <= i := by have := z; simp [aa] at this; omega
  obtain⟨k,rfl⟩:∃k,i=k+1:=⟨i-1,by omega⟩
  rw[show((k+1:Nat):Int)-1=(k:Int) by omega];have V0:=Du ha (k:=k) (by rw[<- hV];omega);have IH:=SK ha V0;have VR:=a7 ha (k/32);rw[<- hV]at IH;obtain⟨bit,vN⟩:∃bit,bit=V/2^k%2:=⟨_,rfl⟩
  have aN:bit<=1:=by omega
  have W5:=X8 (V/2^(k+1)) AG;have W6:ah a (k/32)/2^(k%32)<=ah a (k/32):=XX _ _;refine gs (kt (.tmp rfl) (.const _) oz (A4 oz) rfl) ?_;refine gi (d9 (n:=k/32) oz (by first |omega |(simp;omega))) ?_;refine gs (tP (.tmp rfl) (.const _) oz GK rfl) ?_;refine gs (dg (.tmp rfl) (.tmp rfl) oz (oS _ (k%32) oz) rfl) ?_;refine gs (il (.tmp rfl) (.const _) rfl ((Co (y:=1) oz oz).trans (show _=(bit:Int) by rw[Nat.and_one_is_mod,IH,vN])) rfl) ?_;refine io [0,1,8,35] [13] (fun(o:List Nat)(c j:Nat)=>[pP 6 (.ms 13 1 0 a.length),pP 7 (.ms 17 1 0 (b.length+1)),pP 9 (u32 c),pP 36 (i64 j)]) (fun o _ _=>[pP 17 (.row 1 (o.map u32))]) (fun o c j=>o.length=b.length+1/\Ws o/\j<=b.length+1/\c<=1/\o.drop j=r.drop j/\val (o.take j)+c*4294967296^j=2*val (r.take j)+bit) (fun _ _ j=>b.length+1-j) r bit 0 ⟨sD,wr',by omega,aN,rfl,by simp[val]⟩ ?_
  rintro o c j ⟨ir,wo,hj,hc,hd,hv⟩ K2 J2;refine gC (fun z=>?_) (fun z=>?_)
  ·have eR : j < b.length + 1 := by have := z; simp [aa] at this; omega
   have e1:ah o j=ah r j:=oV hd;have h1:=a7 wr' j;have h3:=SP (w:=ah r j) h1 hv;refine gs (aP (n:=j) (.tmp rfl) (.tmp rfl) T22 rfl T142 rfl oz (by first |omega |(simp;omega)) rfl) ?_;refine gs (ay (.tmp rfl) rfl (by rw[bn (show j<o.length by omega),e1]) T142 rfl rfl rfl) ?_;refine gs (jk (.tmp rfl) (.const _) oz (Bk (n:=1) oz) rfl) ?_;refine gs (il (.tmp rfl) (.tmp rfl) rfl ((wD oz oz).trans (by rw[QF hc])) rfl) ?_;refine gs (aP (n:=j) (.tmp rfl) (.tmp rfl) T22 rfl T142 rfl oz (by first |omega |(simp;omega)) rfl) ?_;refine gs (ay (.tmp rfl) rfl (by rw[bn (show j<o.length by omega),e1]) T142 rfl rfl rfl) ?_;refine gs (dg (.tmp rfl) (.const _) oz (oS _ 31 oz) rfl) ?_;refine gs (aP (n:=j) (.tmp rfl) (.tmp rfl) T22 rfl T142 rfl oz (by first |omega |(simp;omega)) rfl) ?_;refine gs (bJ (.tmp rfl) rfl (bn (i:=j) oz) rfl (.tmp rfl) rfl rfl T142 rfl rfl) ?_;refine gD ?_;refine ga (cf oz) ?_;exact fa J2 (o.set j (ah r j*2^1%4294967296+c)) (ah r j/2^31) (j+1) ⟨by simp[ir],eG wo oz,by omega,by omega,qu hd,by rw[jJ oz,bY];rw[show 4294967296^(j+1)=4294967296^j*4294967296 from X0 _ _];exact h3⟩ (hw:=Wk.of aI (.cons rfl (.of (by rw[aaw];rfl)) (.k .nil)))
  have eR:j=b.length+1:=by have:b.length+1<=j:=(by have:=z;simp[aa]at this;omega);omega
  subst eR;rw[dk (l:=r) oz,dk (l:=o) oz,hr]at hv
  have AA:c=0:=by
   cases c with
   |zero=>rfl
   |succ c=>rw[XD]at hv;omega
  subst AA;rw[Nat.zero_mul,XW]at hv;have AH:o.take (b.length+1)=o:=aag oz;obtain⟨d1,d2⟩:=OG (V:=V) (k:=k) AG;rw[<- vN]at d1 d2;have II:=Jn 17 o b (b.length+1) wo hb oz;rw[AH,<- vQ,hv]at II;have vR:k/32<q.length:=by omega
  obtain⟨w1,w2⟩:=Qh wq vR hq;have w3:=Ob wq vR hq;refine gt (bF II (fJ rfl rfl) bW rfl rfl) ?_;refine gC (fun t58=>?_) (fun t58=>?_)
  ·have hge:Bv<=2*(V/2^(k+1)%Bv)+bit:=by
    rcases Z2 (2*(V/2^(k+1)%Bv)+bit) Bv with h |h
    ·rw[aa2 h]at t58;cases t58
    ·exact h
   obtain⟨d3,d4⟩:=d1 hge;have IJ:=Hi o b (b.length+1) wo hb oz (by unfold al;omega) (by rw[AH,<- vQ,hv];exact hge);rw[AH,<- vQ,hv,<- d3,Uc (by rw[dz,ir])]at IJ;have lw:V/2^k%Bv<4294967296^(b.length+1):=by have:=X8 (V/2^k) AG;omega
   refine gt (bF (Con.rk 17 rfl rfl IJ) (fJ rfl rfl) bW rfl rfl) ?_;refine gs (kt (.tmp rfl) (.const _) oz (A4 oz) rfl) ?_;refine gs (aP (n:=k/32) (.tmp rfl) (.tmp rfl) T22 rfl T142 rfl oz oz rfl) ?_;refine gs (ay (.tmp rfl) rfl (bn (i:=k/32) vR) T142 rfl rfl rfl) ?_;refine gs (tP (.tmp rfl) (.const _) oz GK rfl) ?_;refine gs (jk (.const _) (.tmp rfl) oz ((Bk (x:=1) (n:=k%32) oz).trans (show _=((2^(k%32):Nat):Int) by rw[Nat.one_mul,Xr (aam (Nat.le_add_left _ _) w2)])) rfl) ?_;refine gs (il (.tmp rfl) (.tmp rfl) rfl ((wD (a7 wq _) (aam (Nat.le_add_left _ _) w2)).trans (by rw[w1])) rfl) ?_;refine gs (aP (n:=k/32) (.tmp rfl) (.tmp rfl) T22 rfl T142 rfl oz oz rfl) ?_;refine gs (bJ (.tmp rfl) rfl (bn (i:=k/32) vR) rfl (.tmp rfl) rfl rfl T142 rfl rfl) ?_;refine gD ?_;refine ga (co oz) ?_;exact fa J1 (q.set (k/32) (ah q (k/32)+2^(k%32))) (aD (b.length+1) (V/2^k%Bv)) k ⟨by simp[nV],dz _ _,eG wq w2,iB _ _,by omega,jX _ _ lw,by rw[w3,d4]⟩ (hw:=Wk.of aI (.cons rfl (.of (by first |rfl |(rw[aaw];rfl))) (.k .nil)))
  have hge:2*(V/2^(k+1)%Bv)+bit<Bv:=by
   rcases Z2 (2*(V/2^(k+1)%Bv)+bit) Bv with h |h
   ·exact h
   ·rw[aa1 oz]at t58;split at t58 <;> cases t58
  obtain⟨d3,d4⟩:=d2 hge;refine ga (co oz) ?_;exact fa J1 q o k ⟨nV,ir,wq,wo,by omega,by rw[hv,d3],by rw[hq,d4,X0,XJ]⟩ (hw:=Wk.of aI (.cons rfl (.of (by first |rfl |(rw[aaw];rfl))) (.k .nil)))
 have pW:i=0:=by have:=z;simp[aa]at this;omega
 subst pW;refine gW ((Wk.freeze (k:=13) rfl).trans<|(Wk.freeze (k:=17) rfl).trans<|Wk.of (sl:=[pP 6 (ws q),pP 7 (ws r)]) (hp:=[]) (.cons rfl (.of (by rw[show AV.fz 13 1 (q.map u32) (.ms 13 1 0 a.length)=ws q from bH (by simp[nV])];rfl)) (.cons rfl (.of (bH (by simp[sD]))) .nil)) .nil) ?_;refine gc (pE q wq oz) ?_;refine gc (pE r wr' (by unfold al;omega)) ?_;refine bh ?_;rw[hr,hq];simp[]
def fO(L:Nat)(A:List Nat)(n:Nat):Prop:=Ws A/\n<=A.length/\A.length<=L/\n=(ofNat (val (A.take n))).length
theorem Lh(v:Nat):ofNat v=aD (ofNat v).length v:=by
 have h:=rF (ofNat v) (b7 _)
 rwa [bi]at h
theorem gY{L:Nat}{A:List Nat}{n v:Nat}(h:fO L A n)(hv:v<=val (A.take n)) :
  fO L (wr A 0 (aD n v)) (ofNat v).length/\val ((wr A 0 (aD n v)).take (ofNat v).length)=v/\val ((wr A 0 (aD n v)).take n)=v:=by
 obtain⟨hw,hn,hl,hN⟩:=h;have hlt:=mX hw n;have jt:v<4294967296^n:=by omega
 have aU:(ofNat v).length<=n:=dM jt
 have ht:(wr A 0 (aD n v)).take n=aD n v:=by
  unfold wr;rw[List.take_zero,YK,YM (by rw[dz];omega),aag (by rw[dz];omega)]
 have IK:(wr A 0 (aD n v)).take (ofNat v).length=ofNat v:=by
  have h1:((wr A 0 (aD n v)).take n).take (ofNat v).length=(wr A 0 (aD n v)).take (ofNat v).length:=by rw[Yn,X7 aU]
  rw[<- h1,ht,yy _ _ _ aU,<- Lh]
 have a6:(wr A 0 (aD n v)).length=A.length:=kO (by rw[dz];omega);refine⟨⟨oi hw (iB _ _),by omega,by omega,by rw[IK,bi]⟩,by rw[IK,bi],by rw[ht,jX _ _ jt]⟩
theorem fq{L:Nat}{A:List Nat}{n:Nat}(h:fO L A n)(hx:0<val (A.take n)):0<n/\val (A.take n)%2=ah A 0%2:=by
 have hn:0<n:=by
  rcases XC n with h0 |h0
  ·subst h0;simp[val]at hx
  ·exact h0
 refine⟨hn,?_⟩;have:=qN (A.take n) 0;rw[aax,mL hn]at this;omega
theorem Ki{L:Nat}{A:List Nat}{n:Nat}(h:fO L A n):A.take n=ofNat (val (A.take n)):=by
 obtain⟨hw,hn,hl,hN⟩:=h;have h1:=Fh (eJ hw n);rw[<- hN,Yn,Nat.min_self]at h1;exact h1
theorem D9{L:Nat}{A:List Nat}{n:Nat}(h:fO L A n):n=0↔val (A.take n)=0:=by
 constructor
 ·intro h0;subst h0;rfl
 ·intro h0;have h1:=h.2.2.2;rw[h0]at h1;exact h1
theorem Lp{x y:Nat}(hx:x%2=0)(hy:y%2=0):X3 x y=2*X3 (x/2) (y/2):=by
 rw[<- Nat.gcd_mul_left,Nat.mul_div_cancel' (Nat.dvd_of_mod_eq_zero hx),Nat.mul_div_cancel' (Nat.dvd_of_mod_eq_zero hy)]
theorem Ed{x y:Nat}(hx:x%2=0)(hy:y%2=1):X3 (x/2) y=X3 x y:=by
 have h1:x=2*(x/2):=by omega
 have h2:Nat.Coprime 2 y:=by
  rw[Nat.Coprime,Nat.gcd_rec,hy];rfl
 conv=>rhs;rw[h1]
 exact(Nat.Coprime.gcd_mul_left_cancel _ h2).symm
theorem ES{x y:Nat}(h:y<=x):X3 (x-y) y=X3 x y:=Nat.gcd_sub_self_left h
theorem Cj{t L g V:Nat}(hg:0<g)(h:2^t*g<=V)(hV:V<4294967296^L):t<32*L:=by
 rw[rr]at hV;have h1:=Z4 (2^t) (show 1<=g from hg);rcases Z2 t (32*L)with h2 |h2
 ·exact h2
 ·have:=m8 h2;omega
theorem FG(A D:List Nat)(n p:Nat)(hA:Ws A)(hD:Ws D)(hn:n<=A.length)(hp:p<=D.length)(la:A.length<=al)(aU:val (D.take p)<=val (A.take n)) :
  Con prog 200 [.ms 901 1 0 n,.ms 902 1 0 p] [pP 902 (.row 1 (D.map u32)),pP 901 (.row 1 (A.map u32))] (.tup [])
   [pP 902 (.row 1 (D.map u32)),pP 901 (.row 1 ((wr A 0 (aD n (val (A.take n)-val (D.take p)))).map u32))]:=by
 have h1:=Con.rk 901 rfl rfl (Hi A (D.take p) n hA (eJ hD p) hn la aU);refine Con.borrow (args:=[.ms 901 1 0 n,ws (D.take p)]) 902 1 (D.map u32) rfl rfl rfl ?_ rfl ?_ h1
 ·intro j x' hj
  match j,hj with
  |0,hj=>cases hj;exact .inl rfl
  |1,hj=>cases hj;exact .inr ⟨0,p,rfl,by simpa using hp,by rw[ov];rfl⟩
 ·intro k' x h;obtain⟨_,h⟩:=kA h;cases h;exact B2 _
theorem uO{A:List Nat}(hA:Ws A){i:Nat}:kS .and .u32 (ah A i:Int) 1=((ah A i%2:Nat):Int) :=
 (Co (y:=1) (a7 hA i) oz).trans (by rw[Nat.and_one_is_mod])
theorem KP(a b:List Nat)(ha:Ws a)(hb:Ws b)(na:Nz a)(nb:Nz b)(la:a.length+b.length<al):FP 138 [ws a,ws b] (ws (ofNat (X3 (val a) (val b)))):=by
 have la':=la;unfold al at la;have ea:=oO ha na;have eb:=oO hb nb;obtain⟨L,hL⟩:∃L,L=a.length+b.length:=⟨_,rfl⟩
 obtain⟨G,hG⟩:∃G,G=X3 (val a) (val b):=⟨_,rfl⟩
 rw[<- hG];refine ai func138 ?_;refine gt (bF (yD 901 rfl a ha (by unfold al;omega)) (gn rfl) bW rfl rfl) ?_;refine gt (bF (yD 902 rfl b hb (by unfold al;omega)) (gn rfl) bW rfl rfl) ?_ (2,0);refine gW (Wk.of (sl:=[pP 0 (.ms 901 1 0 a.length),pP 1 (.ms 902 1 0 b.length)]) (hp:=[pP 901 (.row 1 (a.map u32)),pP 902 (.row 1 (b.map u32))]) (.cons rfl (.of (by rw[ea])) (.cons rfl (.of (by rw[eb])) .nil)) (.k (.k .nil))) ?_;refine gC (fun z=>?_) (fun z=>?_) (st1:=(3,0))
 ·have h0 : a=[] := Yo.1 (by simpa[aa]using z);refine gW ((Wk.freeze (k:=902) rfl).trans<|Wk.of (sl:=[pP 1 (ws b)]) (hp:=[]) (.cons rfl (.of (bH (by simp))) .nil) .nil) ?_;refine af ?_;rw[hG,h0];simp[val,eb]
 have h0:a≠[]:=fun h=>by rw[h]at z;simp[aa]at z
 refine gC (fun z=>?_) (fun z=>?_) (st1:=(5,0))
 ·have h1 : b=[] := Yo.1 (by simpa[aa]using z);refine gW ((Wk.freeze (k:=901) rfl).trans<|Wk.of (sl:=[pP 0 (ws a)]) (hp:=[]) (.cons rfl (.of (bH (by simp))) .nil) .nil) ?_;refine af ?_;rw[hG,h1];simp[val,ea]
 have h1:b≠[]:=fun h=>by rw[h]at z;simp[aa]at z
 have va:=mW na h0;have vb:=mW nb h1;have W7:0<G:=by rw[hG];exact Nat.gcd_pos_of_pos_left _ va
 have IL:G<=val a:=by rw[hG];exact Nat.gcd_le_left _ va
 have vla:=bg a ha;refine Gu [] [] (fun(A D:List Nat)(n p t:Nat)=>[pP 0 (.ms 901 1 0 n),pP 1 (.ms 902 1 0 p),pP 5 (i64 t)]) (fun A D _ _ _=>[pP 901 (.row 1 (A.map u32)),pP 902 (.row 1 (D.map u32))]) (fun A D n p t=>fO L A n/\fO L D p/\0<val (A.take n)/\0<val (D.take p)/\G=2^t*X3 (val (A.take n)) (val (D.take p))) (fun A _ n _ _=>val (A.take n)) a b a.length b.length 0 ⟨⟨ha,Z0 _,by omega,by rw[aab,ea]⟩,⟨hb,Z0 _,by omega,by rw[aab,eb]⟩,by rw[aab];exact va,by rw[aab];exact vb,by rw[aab,aab,hG];simp⟩ ?_
 rintro A D n p t ⟨gA,gD,pA,pD,hg⟩ K1 J1;refine gs (aP (n:=0) (.tmp rfl) (.const _) T22 rfl T142 rfl oz (by have:=(fq gA pA).1;omega) rfl) ?_;refine gs (ay (.tmp rfl) rfl (bn (i:=0) (by have:=(fq gA pA).1;have:=gA.2.1;omega)) T142 rfl rfl rfl) ?_;refine gs (il (.tmp rfl) (.const _) rfl (uO gA.1) rfl) ?_;refine gs (bB rfl rfl rfl (fun h=>aP (n:=0) (.opt rfl (o1 h)) (.const _) T22 rfl T142 rfl oz (by have:=(fq gD pD).1;omega) rfl)) ?_;refine gs (bB rfl rfl rfl (fun h=>ay (.opt rfl (o1 h)) rfl (bn (i:=0) (by have:=(fq gD pD).1;have:=gD.2.1;omega)) T142 rfl rfl rfl)) ?_;refine gs (bB rfl rfl rfl (fun h=>il (.opt rfl (o1 h)) (.const _) rfl (uO gD.1) rfl)) ?_;refine gC (fun t29=>?_) (fun t29=>?_)
 ·have eA:ah A 0%2=0/\ah D 0%2=0:=by
   have:=t29;simp[aa]at this;omega
  have xA:val (A.take n)%2=0:=by rw[(fq gA pA).2];exact eA.1
  have xD:val (D.take p)%2=0:=by rw[(fq gD pD).2];exact eA.2
  obtain⟨k1,k2,k3⟩:=gY gA (v:=val (A.take n)/2) oz;obtain⟨m1,m2,m3⟩:=gY gD (v:=val (D.take p)/2) oz;have ht:t<32*a.length:=Cj (Nat.gcd_pos_of_pos_left _ pA) (by rw[<- hg];exact IL) vla;refine gt (bF (Con.rekeyR 901 rfl (um A n gA.1 gA.2.1 (by have:=gA.2.2.1;unfold al;omega))) (gn rfl) bW rfl rfl) ?_;refine gt (bF (Con.rekeyR 902 rfl (um D p gD.1 gD.2.1 (by have:=gD.2.2.1;unfold al;omega))) (gn rfl) bW rfl rfl) ?_;refine ga (show _=((t+1:Nat):Int) by rw[cf oz];omega) ?_;exact Hq J1 (wr A 0 (aD n (val (A.take n)/2))) (wr D 0 (aD p (val (D.take p)/2))) ((ofNat (val (A.take n)/2)).length) ((ofNat (val (D.take p)/2)).length) (t+1) ⟨k1,m1,by rw[k2];omega,by rw[m2];omega,by rw[k2,m2,hg,Lp xA xD,X0];grind⟩ (by rw[k2];omega)
 have V2:val (A.take n)%2=1\/val (D.take p)%2=1:=by
  rw[(fq gA pA).2,(fq gD pD).2];have:=t29;simp[aa]at this;omega
 refine P2 [5] [] (fun(A1 D1:List Nat)(n1 p1:Nat)=>[pP 0 (.ms 901 1 0 n1),pP 1 (.ms 902 1 0 p1)]) (fun A1 D1 _ _=>[pP 901 (.row 1 (A1.map u32)),pP 902 (.row 1 (D1.map u32))]) (fun A1 D1 n1 p1=>fO L A1 n1/\fO L D1 p1/\0<val (D1.take p1)/\(val (A1.take n1)%2=1\/val (D1.take p1)%2=1)/\G=2^t*X3 (val (A1.take n1)) (val (D1.take p1))) (fun A1 D1 n1 p1=>val (A1.take n1)+val (D1.take p1)) A D n p ⟨gA,gD,pD,V2,hg⟩ ?_
 rintro A1 D1 n1 p1 ⟨gA1,gD1,pD1,V3,lF⟩ K2 J2;refine gC (fun t38=>?_) (fun t38=>?_) (st2:=(19,0))
 ·have pA1:0<val (A1.take n1):=by
   have h3:n1≠0:=by have:=t38;simp[aa]at this;omega
   exact Nat.pos_of_ne_zero (fun h=>h3 ((D9 gA1).2 h))
  refine ek [5] [902] (fun(A2:List Nat)(n2:Nat)=>[pP 0 (.ms 901 1 0 n2),pP 1 (.ms 902 1 0 p1)]) (fun A2 _=>[pP 901 (.row 1 (A2.map u32))]) (fun A2 n2=>fO L A2 n2/\0<val (A2.take n2)/\val (A2.take n2)<=val (A1.take n1)/\(val (A2.take n2)%2=1\/val (D1.take p1)%2=1)/\X3 (val (A2.take n2)) (val (D1.take p1))=X3 (val (A1.take n1)) (val (D1.take p1))) (fun A2 n2=>val (A2.take n2)) A1 n1 ⟨gA1,pA1,Z0 _,V3,rfl⟩ ?_
  rintro A2 n2 ⟨gA2,pA2,lA2,W8,nW⟩ K3 J3;refine gs (aP (n:=0) (.tmp rfl) (.const _) T22 rfl T142 rfl oz (by have:=(fq gA2 pA2).1;omega) rfl) ?_;refine gs (ay (.tmp rfl) rfl (bn (i:=0) (by have:=(fq gA2 pA2).1;have:=gA2.2.1;omega)) T142 rfl rfl rfl) ?_;refine gs (il (.tmp rfl) (.const _) rfl (uO gA2.1) rfl) ?_;refine gC (fun t43=>?_) (fun t43=>?_)
  ·have xA2:val (A2.take n2)%2=0:=by
    rw[(fq gA2 pA2).2];have:=t43;simp[aa]at this;omega
   obtain⟨k1,k2,k3⟩:=gY gA2 (v:=val (A2.take n2)/2) oz;refine gt (bF (Con.rekeyR 901 rfl (um A2 n2 gA2.1 gA2.2.1 (by have:=gA2.2.2.1;unfold al;omega))) (gn rfl) bW rfl rfl) ?_;exact dt J3 (wr A2 0 (aD n2 (val (A2.take n2)/2))) ((ofNat (val (A2.take n2)/2)).length) ⟨k1,by rw[k2];omega,by rw[k2];omega,.inr oz,by rw[k2,Ed xA2 oz,nW]⟩ (by rw[k2];omega)
  have xA2:val (A2.take n2)%2=1:=by
   rw[(fq gA2 pA2).2];have:=t43;simp[aa]at this;omega
  refine ek [5] [901] (fun(D2:List Nat)(p2:Nat)=>[pP 0 (.ms 901 1 0 n2),pP 1 (.ms 902 1 0 p2)]) (fun D2 _=>[pP 902 (.row 1 (D2.map u32))]) (fun D2 p2=>fO L D2 p2/\0<val (D2.take p2)/\val (D2.take p2)<=val (D1.take p1)/\X3 (val (A2.take n2)) (val (D2.take p2))=X3 (val (A2.take n2)) (val (D1.take p1))) (fun D2 p2=>val (D2.take p2)) D1 p1 ⟨gD1,pD1,Z0 _,rfl⟩ ?_;rintro D2 p2 ⟨gD2,pD2,lD2,AI⟩ K4 J4;refine gs (aP (n:=0) (.tmp rfl) (.const _) T22 rfl T142 rfl oz (by have:=(fq gD2 pD2).1;omega) rfl) ?_;refine gs (ay (.tmp rfl) rfl (bn (i:=0) (by have:=(fq gD2 pD2).1;have:=gD2.2.1;omega)) T142 rfl rfl rfl) ?_;refine gs (il (.tmp rfl) (.const _) rfl (uO gD2.1) rfl) ?_;refine gC (fun t50=>?_) (fun t50=>?_)
  ·have xD2:val (D2.take p2)%2=0:=by
    rw[(fq gD2 pD2).2];have:=t50;simp[aa]at this;omega
   obtain⟨k1,k2,k3⟩:=gY gD2 (v:=val (D2.take p2)/2) oz;refine gt (bF (Con.rekeyR 902 rfl (um D2 p2 gD2.1 gD2.2.1 (by have:=gD2.2.2.1;unfold al;omega))) (gn rfl) bW rfl rfl) ?_;exact dt J4 (wr D2 0 (aD p2 (val (D2.take p2)/2))) ((ofNat (val (D2.take p2)/2)).length) ⟨k1,by rw[k2];omega,by rw[k2];omega,by rw[k2,XO,Ed xD2 xA2,XO,AI]⟩ (by rw[k2];omega)
  have xD2:val (D2.take p2)%2=1:=by
   rw[(fq gD2 pD2).2];have:=t50;simp[aa]at this;omega
  refine gt (bF (LC 901 902 oz A2 D2 n2 p2 gA2.1 gD2.1 gA2.2.1 gD2.2.1) (fJ rfl rfl) bW rfl rfl) ?_;refine gC (fun t56=>?_) (fun t56=>?_) (st1:=(17,0)) (st2:=(77777,0))
  ·have hlt:val (A2.take n2)<val (D2.take p2):=by
    rcases Z2 (val (A2.take n2)) (val (D2.take p2))with h |h
    ·exact h
    ·rw[aa1 oz]at t56;split at t56 <;> cases t56
   refine gW (Wk.o (sl:=[pP 0 (.ms 902 1 0 p2),pP 1 (.ms 901 1 0 n2),pP 5 (i64 t)]) (hp:=[pP 901 (.row 1 (A2.map u32)),pP 902 (.row 1 (D2.map u32))])) ?_ (17,0);refine gW (Wk.rk (k:=901) (d:=903) rfl rfl) ?_ (17,0);refine gW (Wk.rk (k:=902) (d:=901) rfl rfl) ?_ (17,0);refine gW (Wk.rk (k:=903) (d:=902) rfl rfl) ?_ (17,0);refine gW (Wk.of (sl:=[pP 0 (.ms 901 1 0 p2),pP 1 (.ms 902 1 0 n2),pP 5 (i64 t)]) (hp:=[pP 901 (.row 1 (D2.map u32)),pP 902 (.row 1 (A2.map u32))]) (.cons rfl (Sub.refl _) (.cons rfl (Sub.refl _) (.cons rfl (Sub.refl _) .nil))) (.k (.k .nil))) ?_ (17,0);obtain⟨A3,D3,n3,p3,gA3,gD3,xA3,xD3,sE,AJ,V4,e1,e2,e3,e4⟩:∃A3 D3 n3 p3,fO L A3 n3/\fO L D3 p3/\val (A3.take n3)%2=1/\val (D3.take p3)%2=1/\val (D3.take p3)<=val (A3.take n3)/\X3 (val (A3.take n3)) (val (D3.take p3))=X3 (val (A2.take n2)) (val (D2.take p2))/\val (A3.take n3)+val (D3.take p3)=val (A2.take n2)+val (D2.take p2)/\A3=D2/\n3=p2/\D3=A2/\p3=n2:=⟨D2,A2,p2,n2,gD2,gA2,xD2,xA2,by omega,XO _ _,Nat.add_comm _ _,rfl,rfl,rfl,rfl⟩
   rw[<- e1,<- e2,<- e3,<- e4];refine go ?_;refine gt (bF (FG A3 D3 n3 p3 gA3.1 gD3.1 gA3.2.1 gD3.2.1 (by have:=gA3.2.2.1;unfold al;omega) sE) (fJ rfl rfl) bW rfl rfl) ?_;refine gt (bF (Con.rekeyR 901 rfl (yA (wr A3 0 (aD n3 (val (A3.take n3)-val (D3.take p3)))) n3 (oi gA3.1 (iB _ _)) (by rw[kO (by rw[dz];have:=gA3.2.1;omega)];exact gA3.2.1) (by rw[kO (by rw[dz];have:=gA3.2.1;omega)];have:=gA3.2.2.1;unfold al;omega))) (gn rfl) bW rfl rfl) ?_;exact GW J2 (wr A3 0 (aD n3 (val (A3.take n3)-val (D3.take p3)))) D3 ((ofNat (val (A3.take n3)-val (D3.take p3))).length) p3 ⟨(gY gA3 oz).1,gD3,by omega,.inr xD3,by rw[(gY gA3 (v:=val (A3.take n3)-val (D3.take p3)) oz).2.1,ES sE,AJ,AI,nW,lF]⟩ (by rw[(gY gA3 (v:=val (A3.take n3)-val (D3.take p3)) oz).2.1];omega) (hw:=Wk.of (.cons rfl (.of (by rw[(gY gA3 (v:=val (A3.take n3)-val (D3.take p3)) oz).2.2])) (.k (.k .nil))) (.k (.k .nil)))
  have hlt:val (D2.take p2)<=val (A2.take n2):=by
   rcases Z2 (val (A2.take n2)) (val (D2.take p2))with h |h
   ·rw[aa2 h]at t56;cases t56
   ·exact h
  refine gW (Wk.o (sl:=[pP 0 (.ms 901 1 0 n2),pP 1 (.ms 902 1 0 p2),pP 5 (i64 t)]) (hp:=[pP 901 (.row 1 (A2.map u32)),pP 902 (.row 1 (D2.map u32))])) ?_ (77777,0);obtain⟨A3,D3,n3,p3,gA3,gD3,xA3,xD3,sE,AJ,V4,e1,e2,e3,e4⟩:∃A3 D3 n3 p3,fO L A3 n3/\fO L D3 p3/\val (A3.take n3)%2=1/\val (D3.take p3)%2=1/\val (D3.take p3)<=val (A3.take n3)/\X3 (val (A3.take n3)) (val (D3.take p3))=X3 (val (A2.take n2)) (val (D2.take p2))/\val (A3.take n3)+val (D3.take p3)=val (A2.take n2)+val (D2.take p2)/\A3=A2/\n3=n2/\D3=D2/\p3=p2:=⟨A2,D2,n2,p2,gA2,gD2,xA2,xD2,hlt,rfl,rfl,rfl,rfl,rfl,rfl⟩
  rw[<- e1,<- e2,<- e3,<- e4];obtain⟨k1,k2,k3⟩:=gY gA3 (v:=val (A3.take n3)-val (D3.take p3)) oz;refine go ?_;refine gt (bF (FG A3 D3 n3 p3 gA3.1 gD3.1 gA3.2.1 gD3.2.1 (by have:=gA3.2.2.1;unfold al;omega) sE) (fJ rfl rfl) bW rfl rfl) ?_;refine gt (bF (Con.rekeyR 901 rfl (yA (wr A3 0 (aD n3 (val (A3.take n3)-val (D3.take p3)))) n3 (oi gA3.1 (iB _ _)) (by rw[kO (by rw[dz];have:=gA3.2.1;omega)];exact gA3.2.1) (by rw[kO (by rw[dz];have:=gA3.2.1;omega)];have:=gA3.2.2.1;unfold al;omega))) (gn rfl) bW rfl rfl) ?_;exact GW J2 (wr A3 0 (aD n3 (val (A3.take n3)-val (D3.take p3)))) D3 ((ofNat (val (A3.take n3)-val (D3.take p3))).length) p3 ⟨(gY gA3 oz).1,gD3,by omega,.inr xD3,by rw[(gY gA3 (v:=val (A3.take n3)-val (D3.take p3)) oz).2.1,ES sE,AJ,AI,nW,lF]⟩ (by rw[(gY gA3 (v:=val (A3.take n3)-val (D3.take p3)) oz).2.1];omega) (hw:=Wk.of (.cons rfl (.of (by rw[(gY gA3 (v:=val (A3.take n3)-val (D3.take p3)) oz).2.2])) (.k (.k .nil))) (.k (.k .nil)))
 have zA1:val (A1.take n1)=0:=by
  have h3:n1=0:=by have:=t38;simp[aa]at this;omega
  exact(D9 gA1).1 h3
 rw[zA1,Nat.gcd_zero_left]at lF;refine gW ((Wk.freeze (k:=902) rfl).trans<|Wk.of (sl:=[pP 1 (ws (ofNat (val (D1.take p1)))),pP 5 (i64 t)]) (hp:=[]) (.cons rfl (.of (by rw[uk (by rw[ZU];have:=gD1.2.1;omega),ov,<- Ki gD1])) (.k .nil)) .nil) ?_;refine aK [64] [] (fun(i:Nat)=>[pP 1 (ws (ofNat (2^i*val (D1.take p1)))),pP 65 (i64 i)]) (fun _=>[]) (fun i=>i<=t) (fun i=>t-i) 0 (aaf _) ?_ (h1:=(.cons rfl (.of (by rw[Nat.pow_zero,Nat.one_mul])) (.k .nil)));rintro i hit K5 J5;refine gC (fun z=>?_) (fun z=>?_)
 ·have ab : i < t := by simpa [aa] using z
  have h3:2^i*val (D1.take p1)<=G:=by rw[lF];exact aad _ (m8 oz)
  have h4:(ofNat (2^i*val (D1.take p1))).length<=a.length:=dM oz;have ht:t<32*a.length:=Cj pD1 (by rw[<- lF];exact IL) vla;refine gc (wX _ _ (b7 _) (b7 _) (by unfold al;omega) (by unfold al;omega)) ?_;refine ga (cf oz) ?_;exact aG J5 (i+1) ab (hw:=Wk.of (.cons rfl (.of (by rw[bi,X0];congr 2;grind)) (.k (.k .nil))) .nil)
 have ab:i=t:=by have:t<=i:=(by simpa[aa]using z);omega
 subst ab;refine af ?_;rw[lF]
theorem Cu(a b:Wh)(ha:a.ok)(hb:b.ok)(la:a.mag.length+b.mag.length<al):FP 73 [a.av,b.av] (zA (Y8 a.z b.z)):=by
 have h1:=Wh.m_le (w:=a);have h2:=Wh.m_le (w:=b);have h3:Y8 a.z b.z=X3 (val a.m) (val b.m):=by rw[Y8,Wh.abs,Wh.abs]
 have h4:(ofNat (X3 (val a.m) (val b.m))).length<=a.m.length+b.m.length:=by
  rcases XC (val a.m)with h |h
  ·rw[h,Nat.gcd_zero_left,Wh.ofNat_m hb];omega
  ·exact aaj (dM (aam (Nat.gcd_le_left _ h) (bg _ (Wh.ws ha)))) oz
 refine ai func73 ?_;refine gc (jj a ha) ?_;refine gc (jj b hb) ?_;refine gc (KP a.m b.m (Wh.ws ha) (Wh.ws hb) a.nz b.nz oz) ?_;refine gc (iJ false _ (b7 _) oz) ?_;refine gD ?_;refine af ?_;rw[bi,h3];rfl
theorem Sb(a b:Wh)(ha:a.ok)(hb:b.ok)(la:a.mag.length+1<al)(lb:b.mag.length<al)(h0:b.z≠0):FP 144 [a.av,b.av] (.tup [zA (a.z/b.z),zA (a.z%b.z),i64 0]):=by
 have en:=Wh.m_le (w:=a);have gG:=Wh.m_le (w:=b);have aN:val b.m≠0:=by have:=Wh.abs (w:=b);omega
 have lA:(ofNat (val a.m/val b.m)).length<=a.m.length:=dM (aam (XX _ _) (bg _ (Wh.ws ha)));have sf:=X8 (val a.m) (show 0<val b.m by omega);have lG:(ofNat (val a.m%val b.m)).length<=b.m.length:=dM (Nat.lt_trans sf (bg _ (Wh.ws hb)));have VY:(ofNat (val a.m/val b.m+1)).length<=a.m.length+1:=dM (by have h7:=aam (XX (val a.m) (val b.m)) (bg _ (Wh.ws ha));rw[X0];generalize val a.m/val b.m=m at *;omega);have VZ:(ofNat (val b.m-val a.m%val b.m)).length<=b.m.length:=dM (by have:=bg _ (Wh.ws hb);omega);have pV:val [1]=1:=rfl;refine ai func144 ?_;refine gc (zB b hb) ?_;refine gC (fun z=>?_) (fun z=>?_) (st1:=(2,0));exact aa8 (Y7.1 (by simpa[aa]using z)) h0;refine gc (jj a ha) ?_;refine gc (jj b hb) ?_;refine gc (Qw a.m b.m (Wh.ws ha) (Wh.ws hb) a.nz aN oz oz) ?_;refine gD ?_;refine gc (gd a ha) ?_;refine cu ?_;refine gC (fun z=>?_) (fun z=>?_)
 ·have h1:a.n = true /\ 0 < val a.m % val b.m:=vc.1 z;obtain ⟨e1,e2⟩:=CQ aN h1.1 h1.2;refine gc (wX (ofNat (val a.m / val b.m)) [1] (b7 _) (r4 oz) oz (by unfold al; simp)) ?_;refine gc (jj b hb) ?_;refine gc (Aa b.m (ofNat (val a.m % val b.m)) (Wh.ws hb) (b7 _) oz (by rw [bi]; omega)) ?_;refine gD ?_ (6,0);refine gW (Wk.of (sl:=[pP 2 (.ptr 2 0),pP 3 (.ptr 3 0),pP 4 (.ptr 4 0),pP 5 (.ptr 5 0),pP 7 (ws (ofNat (val a.m / val b.m + 1))),pP 8 (ws (ofNat (val b.m - val a.m % val b.m)))]) (hp:=[pP 2 (.box [bl a.neg,ws a.mag]),pP 3 (.box [bl b.neg,ws b.mag]),pP 4 (.box [.v (.bool false),nS]),pP 5 (.box [.v (.bool false),nS])]) (.k (.k (.k (.k (.cons rfl (.of (by rw [bi,pV])) (.cons rfl (.of (by rw [bi])) .nil)))))) (.k (.k (.k (.k .nil))))) ?_
  refine gc (gd a ha) ?_;refine gc (gd b hb) ?_;refine gc (by apply iJ _ _ (b7 _) oz) ?_;refine gc (by apply iJ _ _ (b7 _) oz) ?_;refine gD ?_;refine gR ?_;exact vt (by rw[bi,bi,e1,show sgn false _=_ from e2];rfl)
 have h1:¬(a.n=true/\0<val a.m%val b.m):=fun h=>Zn.1 z (vc.2 h)
 obtain⟨e1,e2⟩:=FB aN h1;refine gc (gd a ha) ?_;refine gc (gd b hb) ?_;refine gc (by apply iJ _ _ (b7 _) oz) ?_;refine gc (by apply iJ _ _ (b7 _) oz) ?_;refine gD ?_;refine gR ?_;exact vt (by rw[bi,bi,e1,show sgn false _=_ from e2];rfl)
theorem rP{x:Int}(hx:Zs x):FP 61 [zA x] (i64 x.sign):=by
 have h:=xo (ofInt x) hx.ok;rw[cB]at h;exact h
theorem uz{x:Int}(hx:Zs x):FP 112 [zA x] (zA (-x)):=by
 have h:=MW (ofInt x) hx.ok (by have:=hx.len;unfold al;omega);rw[cB]at h;exact h
theorem FW{x y:Int}(hx:Zs x)(hy:Zs y):FP 28 [zA x,zA y] (i64 (e8 x y)):=by
 have h:=NC (ofInt x) (ofInt y) hx.ok hy.ok;rw[cB,cB]at h;exact h
theorem MD{x y:Int}(hx:Zs x)(hy:Zs y):FP 87 [zA x,zA y] (zA (x+y)):=by
 have h:=MU (ofInt x) (ofInt y) hx.ok hy.ok (by have:=hx.len;unfold al;omega) (by have:=hy.len;unfold al;omega);rw[cB,cB]at h;exact h
theorem kp{x y:Int}(hx:Zs x)(hy:Zs y):FP 50 [zA x,zA y] (zA (x*y)):=by
 have h:=Js (ofInt x) (ofInt y) hx.ok hy.ok (by have:=hx.len;have:=hy.len;unfold al;omega);rw[cB,cB]at h;exact h
theorem TZ{x y:Int}(hx:Zs x)(hy:Zs y):FP 29 [zA x,zA y] (zA (Y8 x y)):=by
 have h:=Cs (ofInt x) (ofInt y) hx.ok hy.ok (by have:=hx.len;unfold al;omega) (by have:=hy.len;unfold al;omega);rw[cB,cB]at h;exact h
theorem yM{x y:Int}(hx:Zs x)(hy:Zs y)(h0:y≠0):FP 113 [zA x,zA y] (.tup [zA (x/y),zA (x%y),.v .nilIface]):=by
 have h:=SJ (ofInt x) (ofInt y) hx.ok hy.ok (by have:=hx.len;unfold al;omega) (by have:=hy.len;unfold al;omega) (by rw[cB];exact h0);rw[cB,cB]at h;exact h
theorem zF{x:Int}(hx:Zs x):FP 76 [zA x] (i64 x.sign):=by
 have h:=zB (ofInt x) hx.ok;rw[cB]at h;exact h
theorem zT{x:Int}(hx:Zs x):FP 143 [zA x] (zA (-x)):=by
 have h:=BX (ofInt x) hx.ok (by have:=hx.len;unfold al;omega);rw[cB]at h;exact h
theorem Pv{x y:Int}(hx:Zs x)(hy:Zs y):FP 72 [zA x,zA y] (i64 (e8 x y)):=by
 have h:=Tc (ofInt x) (ofInt y) hx.ok hy.ok (by have:=hx.len;unfold al;omega) (by have:=hy.len;unfold al;omega);rw[cB,cB]at h;exact h
theorem Mt{x y:Int}(hx:Zs x)(hy:Zs y):FP 196 [zA x,zA y] (zA (x+y)):=by
 have h:=EE (ofInt x) (ofInt y) hx.ok hy.ok (by have:=hx.len;unfold al;omega) (by have:=hy.len;unfold al;omega);rw[cB,cB]at h;exact h
theorem zE{x y:Int}(hx:Zs x)(hy:Zs y):FP 204 [zA x,zA y] (zA (x*y)):=by
 have h:=TW (ofInt x) (ofInt y) hx.ok hy.ok (by have:=hx.len;have:=hy.len;unfold al;omega);rw[cB,cB]at h;exact h
theorem Ux{x y:Int}(hx:Zs x)(hy:Zs y):FP 73 [zA x,zA y] (zA (Y8 x y)):=by
 have h:=Cu (ofInt x) (ofInt y) hx.ok hy.ok (by have:=hx.len;have:=hy.len;unfold al;omega);rw[cB,cB]at h;exact h
theorem C8{x y:Int}(hx:Zs x)(hy:Zs y)(h0:y≠0):FP 144 [zA x,zA y] (.tup [zA (x/y),zA (x%y),i64 0]):=by
 have h:=Sb (ofInt x) (ofInt y) hx.ok hy.ok (by have:=hx.len;unfold al;omega) (by have:=hy.len;unfold al;omega) (by rw[cB];exact h0);rw[cB,cB]at h;exact h
def jg(e:Nat):abc:=match e with |0=>.nilIface |e+1=>.iface 55 (.int .i64 ((e+1:Nat):Int))
def be(e:Nat):AV:=.v (jg e)
theorem U1(e:Nat):jg e=.nilIface\/∃T u,jg e=.iface T u:=by cases e;exact .inl rfl;exact .inr ⟨_,_,rfl⟩
theorem HY(e:Nat):eH (jg e)=decide (e=0):=by cases e <;> simp[jg,eH]
theorem Ub{e:Nat}(h:eH (jg e)=true):e=0:=by rw[HY]at h;exact aa4 h
theorem NN{e:Nat}(h:eH (jg e)=false):e≠0:=by rw[HY]at h;exact aa5 h
theorem fX{e:Nat}(h:(!eH (jg e))=true):e≠0:=NN (by cases h':eH (jg e) <;> simp_all)
theorem f7{e:Nat}(h:(!eH (jg e))=false):e=0:=Ub (by cases h':eH (jg e) <;> simp_all)
theorem yo:FP 30 [] (zA 1):=by
 refine ai func30 ?_;refine gc (ve 1 oz) ?_;refine af ?_
 first |rfl |(simp;done)
theorem kD(r:Rt)(h:r.ok):FP 7 [r.av] (bl r.valid):=by
 have hn:=h.n0;have hd:=h.d0;refine ai func7 ?_;refine gl ?_;refine cu ?_;refine gC (fun t14=>?_) (fun t14=>?_)
 ·have h0 : r.num = [] /\ r.den = [] := by simpa [aa] using t14
  refine af ?_;unfold Rt.valid;rw[aa2 h0];rfl
 have h0:¬(r.num=[]/\r.den=[]):=by
  have:=t14;simp[aa]at this;exact fun h=>this h.1 h.2
 refine gD ?_;refine gl ?_;refine cu ?_;refine aO (fun _=>(ux r.n0 hn)) ?_;refine aO (fun _=>(ux r.d0 hd)) ?_;refine gC (fun z=>?_) (fun z=>?_)
 ·have h1:r.valid=false:=xm h0 z;refine af ?_;rw[h1];rfl
 have h1:=HH h0 z;refine gc (Cs r.n0 r.d0 hn hd h.n0l h.d0l) ?_;refine gc (by apply yo) ?_;refine gc (FW (Rt.gcd_zs h) tQ) ?_;refine af ?_;rw[h1];rfl
theorem i6(r:Rt)(h:r.ok):FP 49 [r.av] (.tup [zA r.q.num,zA r.q.den]):=by
 have lA:r.num.length<=137438953472:=h.2.2.1;have lG:r.den.length<=137438953472:=h.2.2.2;refine ai func49 ?_;refine gc (kD r h) ?_;refine cu ?_;refine gC (fun t12=>?_) (fun t12=>?_)
 ·have h0:¬(r.valid=true/\r.num≠[]):=by
   have:=t12;intro h';simp[aa,h'.1,h'.2]at this
  refine gc yo ?_;refine gR ?_;exact kK (by rw[Rt.zero h0];exact Sub.tup (.cons Hm (.cons (.refl _) .nil)))
 have h0:r.valid=true/\r.num≠[]:=by
  have:=t12;cases hv:r.valid
  ·rw[hv]at this;cases this
  ·rw[hv]at this;exact⟨rfl,by simpa[aa]using this⟩
 obtain⟨e1,e2,e3,e4,e5,e6⟩:=Rt.parts h h0.1 h0.2;refine gs (kP T22 rfl T142 rfl rfl rfl) ?_;refine gs (cU (.tmp rfl) rfl rfl (.tmp rfl) T22 rfl T142 rfl rfl (by simp only[ZU];omega) rfl rfl) ?_;refine gD ?_ (4,0);refine gW ((Wk.freeze (k:=20) rfl).trans<|Wk.of (sl:=[pP 1 (.ptr 1 0),pP 2 (.ptr 2 0),pP 3 (.ptr 3 0)]) (hp:=[pP 1 (.box [bl r.neg,ws r.num,ws r.den]),pP 2 (.box [bl r.neg,ws r.num]),pP 3 (.box [bl false,nS])]) aI (.k (.cons rfl (BlkSub.bL (.cons (.refl _) (.cons (.of (bH (by simp))) .nil)) rfl) (.k .nil)))) ?_;refine gs (kP T22 rfl T142 rfl rfl rfl) ?_;refine gs (cU (.tmp rfl) rfl rfl (.tmp rfl) T22 rfl T142 rfl rfl (by simp only[ZU];omega) rfl rfl) ?_;refine gD ?_ (77777,0);refine gW ((Wk.freeze (k:=26) rfl).trans<|Wk.of (sl:=[pP 2 (.ptr 2 0),pP 3 (.ptr 3 0)]) (hp:=[pP 2 (.box [bl r.neg,ws r.num]),pP 3 (.box [bl false,ws r.den])]) aI (.k (.cons rfl (BlkSub.bL (.cons (.refl _) (.cons (.of (bH (by simp))) .nil)) rfl) .nil))) ?_;refine bh ?_;rw[e1,e2];exact A8 e3 e4 e5
theorem pC{n d:Int}(hn:Zs n)(hd:Zs d)(h0:d≠0):FP 62 [zA n,zA d] (qA (Zd n d)):=by
 refine ai func62 ?_;refine gc (rP hn) ?_;refine gC (fun z=>?_) (fun z=>?_)
 ·have e0 : n=0 := Y7.1 (by simpa[aa]using z);refine gR ?_;exact jD (by rw[e0,Zh];exact mH)
 have e0:n≠0:=fun h=>by rw[h]at z;cases z
 refine gc (rP hd) ?_;refine xX [2,3,4] [4] (fun(n1 d1:Int)=>[]) (fun n1 d1=>[pP 2 (.box (zA n1).cells),pP 3 (.box (zA d1).cells)]) (fun n1 d1=>0<d1/\n1≠0/\Zs n1/\Zs d1/\Zd n1 d1=Zd n d) ?_ ?_
 ·intro K1 J1;refine gC (fun t13=>?_) (fun t13=>?_)
  ·have e1 : d<0 := YZ.1 (by have := YW d;have h9 : d.sign<0 := (by simpa[aa]using t13);omega);refine gc (uz hn) ?_;refine gc (uz hd) ?_;refine gD ?_;exact oE J1 (-n) (-d) ⟨by omega,by omega,hn.neg,hd.neg,Ea n d⟩
  have e1:0<d:=by
   have h9:0<=d.sign:=by simpa[aa]using t13
   have:=Y5.1 h9;omega
  exact oE J1 n d ⟨e1,e0,hn,hd,rfl⟩
 rintro n1 d1 ⟨f1,f2,f3,f4,f5⟩;refine gc (TZ f3 f4) ?_;refine gc (rP f3) ?_;refine OQ [2,3,4,5] [3,4,5] (fun(n2:Int)=>[pP 6 (bl (decide (n1<0)))]) (fun n2=>[pP 2 (.box (zA n2).cells)]) (fun n2=>n2=(n1.natAbs:Int)) ?_ ?_
 ·intro K2 J2;refine gC (fun t24=>?_) (fun t24=>?_)
  ·have e2 : n1<0 := YZ.1 (by have := YW n1;have h9 : n1.sign<0 := (by simpa[aa]using t24);omega);refine gc (uz f3) ?_;exact Dj J2 (-n1) oz (hw:=Wk.of (.cons rfl (.of (by rw[show aa .lss n1.sign 0=true from t24,aa6 e2];rfl)) (.k (.k (.k (.k .nil))))) (.k (.k (.k (.k .nil)))))
  have e2:0<n1:=by
   have h9:0<=n1.sign:=by simpa[aa]using t24
   have:=Y5.1 h9;omega
  exact Dj J2 n1 oz (hw:=Wk.of (.cons rfl (.of (by rw[show aa .lss n1.sign 0=false from t24,aa7 oz];rfl)) (.k (.k (.k (.k .nil))))) (.k (.k (.k (.k .nil)))))
 rintro n2 g1;have g2:Zs (Y8 n1 d1:Int):=f3.of_le (by rw[aaq];exact Xv oz (Za _ _));have g3:(Y8 n1 d1:Int)≠0:=by have:=YX d1 f2;omega
 have g4:Zs n2:=f3.of_le oz;refine gc (yM g4 g2 g3) ?_;refine gc (yM f4 g2 g3) ?_;refine af ?_;rw[<- f5,<- Lu f1 f2,<- g1];rfl
theorem zN{n d:Int}(hn:Zs n)(hd:Zs d):FP 88 [zA n,zA d] (.tup [qA (Zd n d),be (if d=0 then 8 else 0)]):=by
 refine ai func88 ?_;refine gc (rP hd) ?_;refine gC (fun z=>?_) (fun z=>?_)
 ·have h0 : d=0 := Y7.1 (by simpa[aa]using z);refine gR ?_;exact kK (by rw[aa2 h0,h0,Rat.divInt_zero];exact Sub.tup (.cons mH (.cons (.refl _) .nil)))
 have h0:d≠0:=fun h=>by rw[h]at z;cases z
 refine gc (pC hn hd h0) ?_;refine bh ?_;rw[aa1 h0];rfl
theorem pH(n:Int)(h:-9223372036854775808<=n/\n<=9223372036854775807):FP 18 [i64 n] (qA n):=by
 have hz:Zs n:=⟨2,by omega,by unfold Lz;simp only[Nat.reducePow];omega⟩
 refine ai func18 ?_;refine gc (ve n h) ?_;refine gc yo ?_;refine gc (pC hz tQ oz) ?_;refine af ?_;exact aa9 qA (Zg (n:Rat))
theorem yq(a:Rt)(ha:a.ok):FP 94 [a.av] (qA (-a.q)):=by
 have za:=ha.qs;refine ai func94 ?_;refine gc (i6 a ha) ?_;refine gc (uz za.num) ?_;refine gc (pC za.num.neg za.den (by have:=a.q.den_nz;omega)) ?_;refine gD ?_;refine af ?_;rw[Fv];rfl
theorem yh(a:Rt)(ha:a.ok):FP 17 [a.av] (i64 (asQ a.q)):=by
 refine ai func17 ?_;refine gc (i6 a ha) ?_;refine gc (rP ha.qs.num) ?_;refine af ?_;rw[Fi]
theorem yg(a b:Rt)(ha:a.ok)(hb:b.ok):FP 13 [a.av,b.av] (i64 (asQ (a.q-b.q))):=by
 have za:=ha.qs;have zb:=hb.qs;have m1:=za.mul zb;have m2:=zb.mul za;refine ai func13 ?_;refine gc (i6 a ha) ?_;refine gc (i6 b hb) ?_;refine gc (kp za.num zb.den) ?_;refine gc (kp zb.num za.den) ?_;refine gc (FW m1.1 m2.1) ?_;refine gD ?_;refine af ?_;rw[Km]
theorem ru(a b:Rt)(ha:a.ok)(hb:b.ok):FP 33 [a.av,b.av] (qA (a.q+b.q)):=by
 have za:=ha.qs;have zb:=hb.qs;have m1:=za.mul zb;have m2:=zb.mul za;refine ai func33 ?_;refine gc (i6 a ha) ?_;refine gc (i6 b hb) ?_;refine gc (kp za.num zb.den) ?_;refine gc (kp zb.num za.den) ?_;refine gc (MD m1.1 m2.1) ?_;refine gc (kp za.den zb.den) ?_;refine gc (pC (za.cross zb) m1.2.2.1 (Y1 (by have:=a.q.den_nz;omega) (by have:=b.q.den_nz;omega))) ?_;refine gD ?_;refine af ?_;rw[z6];rfl
theorem Nh(a b:Rt)(ha:a.ok)(hb:b.ok):FP 39 [a.av,b.av] (qA (a.q-b.q)):=by
 refine ai func39 ?_;refine gc (yq b hb) ?_;refine gc (ru a (rt (-b.q)) ha hb.qs.neg.ok) ?_;refine gD ?_;refine af ?_;rw[bQ,<- Zj];rfl
theorem C7(a b:Rt)(ha:a.ok)(hb:b.ok):FP 55 [a.av,b.av] (qA (a.q*b.q)):=by
 have za:=ha.qs;have zb:=hb.qs;have m1:=za.mul zb;refine ai func55 ?_;refine gc (i6 a ha) ?_;refine gc (i6 b hb) ?_;refine gc (kp za.num zb.num) ?_;refine gc (kp za.den zb.den) ?_;refine gc (pC m1.2.1 m1.2.2.1 (Y1 (by have:=a.q.den_nz;omega) (by have:=b.q.den_nz;omega))) ?_;refine gD ?_;refine af ?_;rw[E4];rfl
theorem O4(a b:Rt)(ha:a.ok)(hb:b.ok):FP 56 [a.av,b.av] (.tup [qA (a.q/b.q),be (if b.q=0 then 8 else 0)]):=by
 have za:=ha.qs;have zb:=hb.qs;have m1:=za.mul zb;refine ai func56 ?_;refine gc (i6 a ha) ?_;refine gc (i6 b hb) ?_;refine gc (kp za.num zb.den) ?_;refine gc (kp za.den zb.num) ?_;refine gc (zN m1.1 m1.2.2.2) ?_;refine gD ?_;refine bh ?_
 have e1:((a.q.den:Int)*b.q.num=0)=(b.q=0):=by
  apply propext;rw[<- Ze,Int.mul_eq_zero];exact⟨fun h=>h.resolve_left (by have:=a.q.den_nz;omega),.inr⟩
 simp only[UT,e1];rfl
theorem E9(m:List Nat)(hm:Ws m)(hl:m.length<=dj):FP 71 [ws m] (bl (!decide (m=[])&&(⟨false,m⟩:Wh).valid)):=by
 refine ai func71 ?_;refine gl ?_;refine cu ?_;refine fD (fun h=>(bZ (by simp[aa]at h;omega) (by unfold dj at hl;unfold an;exact aaj hl oz))) ?_;refine fL (fun h=>(bn (i:=m.length-1) (by simp[aa]at h;omega))) ?_;refine af ?_
 by_cases h:m=[]
 ·subst h;rfl
 ·have h1:0 < m.length:=YL.2 h;have h2:aa .gtr (m.length:Int) 0 = true:=by simp [aa,h1]
  simp only[bl,h,decide_false,Bool.not_false,Bool.true_and,Wh.valid,YF,gM (show m.length-1<m.length by omega),aa];congr 2;generalize ah m _=x;rw[Zq];simp[h1]
theorem yc:FP 74 [] (zA 1):=by
 refine ai func74 ?_;refine gc (Gh 1 oz) ?_;refine af ?_
 first |rfl |(simp;done)
theorem tO(r:Rt)(h:r.ok):FP 22 [r.av] (bl r.valid):=by
 have hr:=h;have hn:=h.n0;have hd:=h.d0;have lA:r.num.length<=137438953472:=h.2.2.1;have lG:r.den.length<=137438953472:=h.2.2.2;refine ai func22 ?_;refine gl ?_;refine cu ?_;refine gC (fun t12=>?_) (fun t12=>?_)
 ·have h0 : r.num = [] /\ r.den = [] := by simpa [aa] using t12
  refine af ?_;unfold Rt.valid;rw[aa2 h0];rfl
 have h0:¬(r.num=[]/\r.den=[]):=by
  have:=t12;simp[aa]at this;exact fun h=>this h.1 h.2
 refine gc (E9 r.num hr.1 hr.2.2.1) ?_;refine aO (fun _=>(E9 r.den hr.2.1 hr.2.2.2)) ?_;refine aO (fun _=>(Cu r.n0 r.d0 hn hd (by show r.num.length+r.den.length<_;unfold al;omega))) ?_;refine aO (fun _=>yc) ?_;refine aO (fun _=>(Pv (Rt.gcd_zs hr) tQ)) ?_;refine af ?_;exact aa9 bl (Qu h0).symm
theorem tV(r:Rt)(h:r.ok):FP 75 [r.av] (.tup [zA r.q.num,zA r.q.den]):=by
 have lA:r.num.length<=137438953472:=h.2.2.1;have lG:r.den.length<=137438953472:=h.2.2.2;refine ai func75 ?_;refine gc (tO r h) ?_;refine cu ?_;refine gC (fun t12=>?_) (fun t12=>?_)
 ·have h0:¬(r.valid=true/\r.num≠[]):=by
   have:=t12;intro h';simp[aa,h'.1,h'.2]at this
  refine gc yc ?_;refine gR ?_;exact kK (by rw[Rt.zero h0];exact Sub.tup (.cons Hm (.cons (.refl _) .nil)))
 have h0:r.valid=true/\r.num≠[]:=by
  have:=t12;cases hv:r.valid
  ·rw[hv]at this;cases this
  ·rw[hv]at this;exact⟨rfl,by simpa[aa]using this⟩
 obtain⟨e1,e2,e3,e4,e5,e6⟩:=Rt.parts h h0.1 h0.2;refine gD ?_;refine bh ?_;rw[e1,e2];exact A8 e3 e4 e5
theorem yn{n d:Int}(hn:Zs n)(hd:Zs d)(h0:d≠0):FP 78 [zA n,zA d] (qA (Zd n d)):=by
 refine ai func78 ?_;refine gc (zF hn) ?_;refine gC (fun z=>?_) (fun z=>?_)
 ·have e0 : n=0 := Y7.1 (by simpa[aa]using z);refine gR ?_;exact jD (by rw[e0,Zh];exact mH)
 have e0:n≠0:=fun h=>by rw[h]at z;cases z
 refine gc (zF hd) ?_;refine xX [2,3,4] [4] (fun(n1 d1:Int)=>[]) (fun n1 d1=>[pP 2 (.box (zA n1).cells),pP 3 (.box (zA d1).cells)]) (fun n1 d1=>0<d1/\n1≠0/\Zs n1/\Zs d1/\Zd n1 d1=Zd n d) ?_ ?_
 ·intro K1 J1;refine gC (fun t18=>?_) (fun t18=>?_)
  ·have e1 : d<0 := YZ.1 (by have := YW d;have h9 : d.sign<0 := (by simpa[aa]using t18);omega);refine gc (zT hn) ?_;refine gc (zT hd) ?_;refine gD ?_;exact oE J1 (-n) (-d) ⟨by omega,by omega,hn.neg,hd.neg,Ea n d⟩
  have e1:0<d:=by
   have h9:0<=d.sign:=by simpa[aa]using t18
   have:=Y5.1 h9;omega
  exact oE J1 n d ⟨e1,e0,hn,hd,rfl⟩
 rintro n1 d1 ⟨f1,f2,f3,f4,f5⟩;have g2:Zs (Y8 n1 d1:Int):=f3.of_le (by rw[aaq];exact Xv oz (Za _ _));have g3:(Y8 n1 d1:Int)≠0:=by have:=YX d1 f2;omega
 refine gc (Ux f3 f4) ?_;refine gc (C8 f3 g2 g3) ?_;refine gc (C8 f4 g2 g3) ?_;refine af ?_;rw[<- f5,<- JK f1 f2];rfl
theorem AZ(n:Int)(h:-9223372036854775808<=n/\n<=9223372036854775807):FP 25 [i64 n] (qA n):=by
 have hz:Zs n:=⟨2,by omega,by unfold Lz;simp only[Nat.reducePow];omega⟩
 refine ai func25 ?_;refine gc (Gh n h) ?_;refine gc yc ?_;refine gc (yn hz tQ oz) ?_;refine af ?_;exact aa9 qA (Zg (n:Rat))
theorem P4(a:Rt)(ha:a.ok):FP 142 [a.av] (qA (-a.q)):=by
 have za:=ha.qs;refine ai func142 ?_;refine gc (tV a ha) ?_;refine gc (zT za.num) ?_;refine gc (yn za.num.neg za.den (by have:=a.q.den_nz;omega)) ?_;refine gD ?_;refine af ?_;rw[Fv];rfl
theorem qv(a:Rt)(ha:a.ok):FP 23 [a.av] (i64 (asQ a.q)):=by
 refine ai func23 ?_;refine gc (tV a ha) ?_;refine gc (zF ha.qs.num) ?_;refine af ?_;rw[Fi]
theorem M0(a b:Rt)(ha:a.ok)(hb:b.ok):FP 141 [a.av,b.av] (qA (a.q+b.q)):=by
 have za:=ha.qs;have zb:=hb.qs;have m1:=za.mul zb;have m2:=zb.mul za;refine ai func141 ?_;refine gc (tV a ha) ?_;refine gc (tV b hb) ?_;refine gc (zE za.num zb.den) ?_;refine gc (zE zb.num za.den) ?_;refine gc (Mt m1.1 m2.1) ?_;refine gc (zE za.den zb.den) ?_;refine gc (yn (za.cross zb) m1.2.2.1 (Y1 (by have:=a.q.den_nz;omega) (by have:=b.q.den_nz;omega))) ?_;refine gD ?_;refine af ?_;rw[z6];rfl
theorem Ru(a b:Rt)(ha:a.ok)(hb:b.ok):FP 77 [a.av,b.av] (qA (a.q-b.q)):=by
 refine ai func77 ?_;refine gc (P4 b hb) ?_;refine gc (M0 a (rt (-b.q)) ha hb.qs.neg.ok) ?_;refine gD ?_;refine af ?_;rw[bQ,<- Zj];rfl
theorem Cw(a b:Rt)(ha:a.ok)(hb:b.ok)(hs:Qs (a.q-b.q)):FP 24 [a.av,b.av] (i64 (asQ (a.q-b.q))):=by
 refine ai func24 ?_;refine gc (Ru a b ha hb) ?_;refine gc (qv (rt (a.q-b.q)) hs.ok) ?_;refine af ?_;rw[bQ]
end Go.Lw
