/- SingularMirrored: for any linkage and any turns the law returns true and leaves its arguments as they were. No other condition. Part 3 of 8: what the later parts need -/
import Derived.Test.YtpdiojikejnehaaGreatRb
import Derived.Laws.Strings
set_option linter.unusedVariables false
open List (mem_append nil_append drop_drop map_take map_map map_id)
open List renaming mem_of_getElem? → Xx, mem_cons_of_mem → X8, mem_cons → X6, length_cons → XK, mem_cons_self → X7, length_append → XZ, length_nil → XM, getD_eq_getElem?_getD → Xy, getElem?_append_left → XU, getElem?_eq_none → XN, all_eq_true → X9, getElem?_take → X0, getElem?_drop → Ya, getElem?_map → XE, append_assoc → Ye, getElem?_append_right → XT, getElem?_eq_getElem → XC, drop_eq_nil_of_le → X2, getElem?_replicate → X1, map_append → XQ, length_take → XO, take_of_length_le → XR, drop_zero → Yh, take_length → XP, not_mem_nil → XV, length_map → XA, length_replicate → X5, map_replicate → Yc, map_set → Yg
open Nat renaming eq_of_beq_eq_true → XG, le_refl → XD, lt_of_lt_of_le → XS, lt_or_ge → XH, le_trans → XW, mul_le_mul_right → XY, mul_le_mul_left → XL, zero_le → XJ, pow_add → Yb, lt_of_le_of_lt → XX
open Option renaming map_eq_some_iff → XB
open Bool renaming and_eq_true → XF, or_eq_true → Yf
open Array renaming getD_eq_getD_getElem? → XI
open Int renaming toNat_natCast → X3, natAbs_natCast → X4
open Go.Proofs.Tryz
namespace Go.Lw
def bm:Nat->Nat->List Nat
  |0,_=>[]
  |k+1,v=>v%4294967296::bm k (v/4294967296)
theorem eY:∀k v,(bm k v).length=k
 |0,_=>rfl
 |k+1,v=>by simp[bm,eY k]
theorem ke:∀k v,Ws (bm k v)
 |0,_=>ss
 |k+1,v=>by
  intro x hx;rcases List.mem_cons.1 hx with h |h
  ·omega
  ·exact ke k _ x h
theorem k8:∀k v,v<4294967296^k->val (bm k v)=v
 |0,v,h=>by simp at h;subst h;rfl
 |k+1,v,h=>by
  rw[Nat.pow_succ]at h;simp only[bm,val];rw[k8 k _ oz];omega
theorem tz:∀(l:List Nat),Ws l->l=bm l.length (val l)
 |[],_=>rfl
 |x::l,h=>by
  have hx:=h x (by simp);have ih:=tz l (fun y hy=>h y (by simp[hy]));simp only[XK,bm,val];rw[show(x+4294967296*val l)%4294967296=x by omega,show(x+4294967296*val l)/4294967296=val l by omega,<- ih]
theorem vB{l:List Nat}{k v:Nat}(h:Ws l)(hk:l.length=k)(hv:val l=v):l=bm k v:=by
 subst hk;subst hv;exact tz l h
theorem wU{l:List Nat}(h:Ws l)(i:Nat)(hi:i<=l.length):val l/4294967296^i=val (l.drop i):=by
 rw[tJ l i,Nat.min_eq_left hi];have h1:=b9 (l.take i) (fT h i);rw[XO,Nat.min_eq_left hi]at h1;rw[Nat.add_mul_div_left _ _ oz,Nat.div_eq_of_lt h1,Nat.zero_add]
theorem wS{n k:Nat}(h:n<=k):2^k=2^(k-n)*2^n:=by rw[<- Yb];congr 1;omega
theorem Nr{x w n:Nat}(hn:n<32)(hw:w<2^n):w ||| x*2^n%4294967296=w+x*2^n%4294967296:=by
 have h1:x*2^n%4294967296=(x%2^(32-n))*2^n:=by
  rw[show 4294967296=2^32 from rfl,wS (show n<=32 by omega),Nat.mul_mod_mul_right]
 rw[h1];exact zQ hw
theorem Qm{x n:Nat}(hx:x<4294967296):x*2^n/4294967296<2^n:=by
 rw[Nat.div_lt_iff_lt_mul oz,Nat.mul_comm];exact Nat.mul_lt_mul_of_pos_left hx (Nat.pow_pos oz)
theorem pb{n k:Nat}(h:n<=k):2^n<=2^k:=Nat.pow_le_pow_right oz h
theorem WH{x w n:Nat}(hn:n<32)(hw:w<2^n):w+x*2^n%4294967296<4294967296:=by
 have h1:x*2^n%4294967296=(x%2^(32-n))*2^n:=by
  rw[show 4294967296=2^32 from rfl,wS (show n<=32 by omega),Nat.mul_mod_mul_right]
 have h2:x%2^(32-n)+1<=2^(32-n):=Nat.mod_lt _ (Nat.pow_pos oz);have h3:=XY (2^n) h2;rw[<- wS (show n<=32 by omega),Nat.add_mul]at h3;omega
theorem KB{a out:List Nat}{i n:Nat}(hi:i+1<out.length)(h:val (out.take (i+1))=2^n*val (a.take i)) :
  val (((out.set i (ah out i+ah a i*2^n%4294967296)).set (i+1) (ah a i*2^n/4294967296)).take (i+1+1))=2^n*val (a.take (i+1)):=by
 rw[lO (by simpa using hi),lO oz,dj (l:=a)];rw[dj]at h;have:=Nat.div_add_mod (ah a i*2^n) 4294967296;generalize ah a i*2^n%4294967296=r at *;generalize ah a i*2^n/4294967296=q at *;rw[Nat.pow_succ];grind
theorem UQ{a:List Nat}{i n:Nat}(h:Ws a)(hi:i<a.length)(hn:n<=32) :
  (ah a i+ah a (i+1)*2^32)/2^n%4294967296=(val a/2^n/4294967296^i)%4294967296:=by
 rw[Nat.div_div_eq_div_mul,Nat.mul_comm (2^n),<- Nat.div_div_eq_div_mul,wU h i oz,pj hi]
 have h1:val (a.drop (i+1))=ah a (i+1)+4294967296*val (a.drop (i+2)):=by
  rcases XH (i+1) a.length with h |h
  ·exact pj h
  ·rw[p6 h,X2 oz,X2 oz];rfl
 rw[h1];generalize val (a.drop (i+2))=R
 have h2:ah a i+4294967296*(ah a (i+1)+4294967296*R)=(ah a i+ah a (i+1)*2^32)+2^n*(2^(32-n)*R*4294967296):=by
  have h3:=wS hn;rw[show(2:Nat)^n*(2^(32-n)*R*4294967296)=(2^(32-n)*2^n)*R*4294967296 by grind,<- h3];omega
 rw[h2,Nat.add_mul_div_left _ _ (Nat.pow_pos oz),Nat.add_mul_mod_self_right]
theorem IX{a out:List Nat}{i n:Nat}(h:Ws a)(hi:i<a.length)(ho:i<out.length)(hn:n<=32)(hv:val (out.take i)=val a/2^n%4294967296^i) :
  val ((out.set i ((ah a i+ah a (i+1)*2^32)/2^n%4294967296)).take (i+1))=val a/2^n%4294967296^(i+1):=by
 rw[lO ho,UQ h hi hn,Nat.pow_succ,Nat.mod_mul,hv]
theorem LD{a out:List Nat}{n:Nat}(h:Ws a)(ho:out.length=a.length)(hv:val (out.take a.length)=val a/2^n%4294967296^a.length):val out=val a/2^n:=by
 rw[eT oz]at hv;rw[hv,Nat.mod_eq_of_lt];exact XX (Nat.div_le_self _ _) (b9 a h)
theorem LB{a o:List Nat}{i r w:Nat}(hi:i<a.length)(ho:i<o.length)(h:val (a.drop (i+1))=w*val (o.drop (i+1))+r) :
  val (a.drop i)=w*val ((o.set i ((r*2^32+ah a i)/w)).drop i)+(r*2^32+ah a i)%w:=by
 rw[Dv ho,pj hi,h];have:=Nat.div_add_mod (r*2^32+ah a i) w;generalize(r*2^32+ah a i)%w=r' at *;generalize(r*2^32+ah a i)/w=q at *;grind
theorem U2{r w x:Nat}(hr:r<w)(hx:x<4294967296):(r*2^32+x)/w<4294967296:=by
 rw[Nat.div_lt_iff_lt_mul oz];have:=XL 4294967296 (show r+1<=w from hr);omega
theorem xx{a q w r:Nat}(h:a=w*q+r)(hr:r<w):a/w=q/\a%w=r:=by
 subst h;rw[Nat.mul_add_div oz,Nat.mul_add_mod,Nat.div_eq_of_lt hr,Nat.mod_eq_of_lt hr];simp
theorem NM{l:List Nat}{i x:Nat}(h:i<l.length):ah (l.set i x) i=x:=by simp[ah,h]
theorem az.own2{s:AS}{k:Nat}{y z:Blk}{x r:AV}(h:lk s.hp k=some y)(hz:y=z)(hx:x=r):az s x r [(k,some z)]:=by
 subst hz;subst hx
 refine az.keep ?_;intro k' z' h';rw[aT]at h';split at h'
 ·rename_i e;cases h';rw[e];exact h
 ·cases h'
def bw(u:List Nat)(j n:Nat):List Nat:=(u.drop j).take n
def wr(u:List Nat)(j:Nat)(l:List Nat):List Nat:=u.take j++l++u.drop (j+l.length)
theorem yE{u o:List Nat}{j n:Nat}(h1:o.take j=u.take j)(h2:o.drop (j+n)=u.drop (j+n))(hn:j+n<=o.length):o=wr u j (bw o j n):=by
 have hl:(bw o j n).length=n:=by simp[bw];omega
 unfold wr;rw[hl,<- h1,<- h2]
 conv=>lhs;rw[<- List.take_append_drop j o]
 rw[Ye];congr 1;unfold bw
 conv=>lhs;rw[<- List.take_append_drop n (o.drop j)]
 rw[drop_drop]
theorem ma{u l:List Nat}{j:Nat}(h:j+l.length<=u.length):(wr u j l).length=u.length:=by simp[wr];omega
theorem uS{a b:List Nat}(ha:Ws a)(hb:Ws b):Ws (a++b):=fun x hx=>(List.mem_append.1 hx).elim (ha x) (hb x)
theorem IF{l:List Nat}(h:Ws l)(n:Nat):Ws (l.drop n):=fun x hx=>h x (List.mem_of_mem_drop hx)
theorem mS{l:List Nat}(h:Ws l)(i n:Nat):Ws (bw l i n):=fT (IF h i) n
theorem qu{u l:List Nat}{j:Nat}(hu:Ws u)(hl:Ws l):Ws (wr u j l):=uS (uS (fT hu _) hl) (IF hu _)
theorem n7{u:List Nat}{j n:Nat}(h:j+n<=u.length):(bw u j n).length=n:=by simp[bw];omega
theorem TS{u l:List Nat}{j:Nat}(h:j+l.length<=u.length):val ((wr u j l).drop j)=val l+4294967296^l.length*val (u.drop (j+l.length)):=by
 unfold wr;rw[Ye,List.drop_append_of_le_length (by simp;omega),X2 (by simp;omega),nil_append,qF]
theorem Hv{u:List Nat}{j n:Nat}(h:j+n<=u.length):val (u.drop j)=val (bw u j n)+4294967296^n*val (u.drop (j+n)):=by
 rw[tJ (u.drop j) n,drop_drop,Nat.min_eq_left (by simp;omega)];rfl
theorem z5{u:List Nat}{j:Nat}(h:j<=u.length):val u=val (u.take j)+4294967296^j*val (u.drop j):=by
 rw[tJ u j,Nat.min_eq_left h]
theorem EK{u l:List Nat}{j:Nat}(h:j<=u.length):(wr u j l).take j=u.take j:=by
 unfold wr;rw[Ye,List.take_append_of_le_length (by simp;omega),XR (by simp;omega)]
theorem LW{u l:List Nat}{j:Nat}(h:j<=u.length):(wr u j l).drop (j+l.length)=u.drop (j+l.length):=by
 unfold wr;rw[List.drop_append,X2 (by simp;omega)];simp[Nat.min_eq_left h]
theorem wF{l:List Nat}{j i:Nat}:ah (l.drop j) i=ah l (j+i):=by simp[ah]
theorem p8{u o:List Nat}{k:Nat}(h:o.drop k=u.drop k):ah o k=ah u k:=by
 have h1:=wF (l:=o) (j:=k) (i:=0);have h2:=wF (l:=u) (j:=k) (i:=0);rw[h]at h1;simpa using h1.symm.trans h2
theorem rX{u o:List Nat}{k x:Nat}(h:o.drop k=u.drop k):(o.set k x).drop (k+1)=u.drop (k+1):=by
 rw[List.drop_set_of_lt oz];have h1:(o.drop k).drop 1=(u.drop k).drop 1:=by rw[h]
 rwa [drop_drop,drop_drop]at h1
theorem IQ{o:List Nat}{j i x:Nat}(h:j+i<o.length):val (bw (o.set (j+i) x) j (i+1))=val (bw o j i)+4294967296^i*x:=by
 unfold bw;rw[List.drop_set,Yk oz,Nat.add_sub_cancel_left,lO (by simp;omega)]
theorem I6{u:List Nat}{j i:Nat}:val (bw u j (i+1))=val (bw u j i)+4294967296^i*ah u (j+i):=by
 unfold bw;rw[dj,wF]
theorem Ra{lo c P n V w:Nat}(h:lo+c*P=n*V):(lo+P*((c+n*w)%4294967296))+((c+n*w)/4294967296)*(P*4294967296)=n*(V+P*w):=by
 have:=Nat.div_add_mod (c+n*w) 4294967296;generalize(c+n*w)%4294967296=r at *;generalize(c+n*w)/4294967296=q at *;grind
def j8(n V W len:Nat):Nat:=if n*V<=W then W-n*V else W+4294967296^len-n*V
theorem LP{u o v:List Nat}{off len n c b lo:Nat}(hu:Ws u)(ho:Ws o)(hl:o.length=u.length)(hj:off+len<=u.length)(hv:Ws v)(hvl:v.length+1<=len)(hn:n<4294967296)
  (h1:o.take off=u.take off) (h2:o.drop (off+len)=u.drop (off+len)) (hb:b<=1) (h3:lo+c*4294967296^len=n*val (v.take len))
  (h4:val (bw o off len)+lo=val (bw u off len)+b*4294967296^len) :
  o=wr u off (bm len (j8 n (val v) (val (bw u off len)) len))/\(b=1↔val (bw u off len)<n*val v):=by
 rw[eT oz]at h3
 have hV:n*val v<4294967296^len:=by
  have h5:=b9 v hv;have h6:4294967296^(v.length+1)<=4294967296^len:=Nat.pow_le_pow_right oz hvl;rw[Nat.pow_succ,Nat.mul_comm]at h6;exact XS (Nat.mul_lt_mul'' hn h5) h6
 have hc:c=0:=by
  cases c with
  |zero=>rfl
  |succ c=>rw[Nat.succ_mul]at h3;omega
 subst hc;rw[Nat.zero_mul,Nat.add_zero]at h3;subst h3;have ho':=b9 (bw o off len) (mS ho _ _);have hu':=b9 (bw u off len) (mS hu _ _);rw[n7 oz]at ho' hu';have hb':b=0\/b=1:=by omega
 refine⟨?_,?_⟩
 ·have h7:bw o off len=bm len (j8 n (val v) (val (bw u off len)) len):=by
   refine vB (mS ho _ _) (n7 oz) ?_;unfold j8;rcases hb' with rfl |rfl
   ·rw[Yl oz];omega
   ·rw[Yk oz];omega
  rw[<- h7];exact yE h1 h2 oz
 ·rcases hb' with rfl |rfl <;> omega
theorem Vv{u o v:List Nat}{off len c:Nat}(ho:Ws o)(hl:o.length=u.length)(hj:off+len<=u.length)(hvl:v.length<=len)
  (h1:o.take off=u.take off) (h2:o.drop (off+len)=u.drop (off+len)) 
  (h4:val (bw o off len)+c*4294967296^len=val (bw u off len)+val (v.take len)) :
  o=wr u off (bm len ((val (bw u off len)+val v)%4294967296^len)):=by
 rw[eT oz]at h4;have ho':=b9 (bw o off len) (mS ho _ _);rw[n7 oz]at ho'
 have h7:bw o off len=bm len ((val (bw u off len)+val v)%4294967296^len):=by
  refine vB (mS ho _ _) (n7 oz) ?_;rw[<- h4,Nat.add_mul_mod_self_right,Nat.mod_eq_of_lt ho']
 rw[<- h7];exact yE h1 h2 oz
def ba(x:Nat):Nat:=if x=0 then 0 else x.log2+1
theorem jv{x:Nat}(h:x<256):IntKind.u8.wrap (x:Int)=(x:Int):=by
 simp only[IntKind.wrap,IntKind.signed,IntKind.bits,Bool.false_and,if_false,Bool.false_eq_true];omega
theorem xa{x:Nat}:x<2^ba x:=by
 unfold ba;split
 ·next h=>subst h;decide
 ·exact Nat.lt_log2_self
theorem vh{x:Nat}(h:x≠0):2^(ba x-1)<=x:=by
 unfold ba;rw[Yk h,Nat.add_sub_cancel];exact Nat.log2_self_le h
theorem Sb{x k:Nat}(h1:2^k<=x)(h2:x<2^(k+1)):ba x=k+1:=by
 have hx:x≠0:=by intro h;subst h;have:=Nat.pow_pos (n:=k) (show 0<2 by omega);omega
 unfold ba;rw[Yk hx,(Nat.log2_eq_iff hx).2 ⟨h1,h2⟩]
theorem sJ{x k:Nat}(h:2^k<=x):ba x=k+ba (x/2^k):=by
 have h0:x/2^k≠0:=by
  have:=Nat.div_pos h (Nat.pow_pos oz);omega
 have h1:=vh h0;have h2:=xa (x:=x/2^k);have h3:1<=ba (x/2^k):=by unfold ba;rw[Yk h0];omega
 generalize ba (x/2^k)=m at *;obtain⟨n,rfl⟩:∃n,m=n+1:=⟨m-1,by omega⟩
 rw[Nat.add_sub_cancel]at h1;rw[Nat.le_div_iff_mul_le (Nat.pow_pos oz),<- Yb]at h1;rw[Nat.div_lt_iff_lt_mul (Nat.pow_pos oz),<- Yb]at h2;rw[show k+(n+1)=(n+k)+1 by omega];exact Sb h1 (by rw[show n+k+1=n+1+k by omega];exact h2)
theorem zw{x:Nat}(h:x≠0)(hx:x<4294967296):ba x<=32/\1<=ba x/\2147483648<=2^(32-ba x)*x/\2^(32-ba x)*x<4294967296:=by
 have h1:=vh h;have h2:=xa (x:=x);have h3:1<=ba x:=by unfold ba;rw[Yk h];omega
 have h4:ba x<=32:=by
  rcases XH 32 (ba x)with h5 |h5
  ·have:2^32<=2^(ba x-1):=pb oz;omega
  ·exact h5
 refine⟨h4,h3,?_,?_⟩
 ·have:=XL (2^(32-ba x)) h1;rw[<- Yb,show 32-ba x+(ba x-1)=31 by omega]at this;omega
 ·have:=(Nat.mul_lt_mul_left (a:=2^(32-ba x)) (Nat.pow_pos oz)).2 h2;rw[<- Yb,show 32-ba x+ba x=32 by omega]at this;omega
def HA(b:ByteArray):Bool:=Nat.beq b.data.toList.length 256&&(List.range 256).all fun y=>Nat.beq (b.data.toList.getD y 0).toNat (ba y)
theorem tj{P:Program}{N:Nat}{R:Array Oper}{s:AS}{d:Nat}{x ix:Operand}{kk:IntKind}{i:Int}{y:Nat}{b:ByteArray}{T t:TypeId}{ti:TI}{pos:String}{after:Array Edge}
  (hx:Ev s x (.v (.string b))) (hi:Ev s ix (.v (.int kk i))) (hT:aC P T=some ti) (hk:ti.k=.string)
  (hb:HA b=true) (h0:i=(y:Int)) (hy:y<256) (hN:Nat.blt d N=true) :
  Step P N R s ⟨some d,.index T x ix,t,pos,after,none⟩ ⟨some (.v (.int .u8 (ba y))),[],au x++au ix,[]⟩:=by
 subst h0;simp only[HA,XF,X9,List.mem_range]at hb;have hs:b.size=256:=by have:=XG hb.1;rw[Array.length_toList]at this;exact this
 have h1:=XG (hb.2 y hy);have:=uP (R:=R) (N:=N) (t:=t) (pos:=pos) (after:=after) hx hi hT hk oz oz hN;rw[X3]at this;rw[Xy,Array.getElem?_toList,<- XI]at h1
 rwa [h1]at this
theorem iX{x:Nat}(h:x<256):ba x<=8:=by
 rcases XH 8 (ba x)with h5 |h5
 ·have h0 : x ≠ 0 := by intro h0; subst h0; simp [ba] at h5
  have h1:=vh h0;have:2^8<=2^(ba x-1):=pb oz;omega
 ·exact h5
structure Dig(V W P V' W' top next third head:Nat):Prop where
  hV:V=V'+P*(next+4294967296*top)
  hW:W=W'+P*(third+4294967296*head)
  hV':V'<P
  hW':W'<P
  hnext:next<4294967296
  hthird:third<4294967296
  htop:2147483648<=top
  htopB:top<4294967296
  hlt:W<V*4294967296
namespace Dig
variable{V W P V' W' top next third head:Nat}
theorem vpos(h:Dig V W P V' W' top next third head):0<V:=by
 have:=h.hlt;omega
theorem q_lt(h:Dig V W P V' W' top next third head):W/V<4294967296:=by
 rw[Nat.div_lt_iff_lt_mul h.vpos,Nat.mul_comm];exact h.hlt
theorem mul_le(h:Dig V W P V' W' top next third head){q:Nat}(hq:q*V<=W):q*(next+4294967296*top)<=third+4294967296*head:=by
 have h1:q*(P*(next+4294967296*top))<=q*V:=XL _ (by have:=h.hV;omega);have h2:=h.hW;have h3:=h.hW'
 have h4:P*(q*(next+4294967296*top))<P*(third+4294967296*head+1):=by
  rw[Nat.mul_add P _ 1,Nat.mul_one];have:P*(q*(next+4294967296*top))=q*(P*(next+4294967296*top)):=by grind
  omega
 have:=Nat.lt_of_mul_lt_mul_left h4;omega
theorem up(h:Dig V W P V' W' top next third head){q:Nat}(hq:q*V<=W):q*top<=head:=by
 have h1:=h.mul_le hq;have h2:=h.hthird;rw[Nat.mul_add,show q*(4294967296*top)=4294967296*(q*top) by grind]at h1;omega
theorem first(h:Dig V W P V' W' top next third head):W/V<=head/top:=by
 have:=h.htop;rw[Nat.le_div_iff_mul_le oz];exact h.up (Nat.div_mul_le_self W V)
theorem head_le(h:Dig V W P V' W' top next third head):head<=4294967296*top+next:=by
 have h1:=h.hlt;have h2:=h.hV;have h3:=h.hW;have h4:=h.hV'
 have h5:P*(third+4294967296*head)<P*(4294967296*(next+4294967296*top+1)):=by
  have:V*4294967296<P*(4294967296*(next+4294967296*top+1)):=by
   rw[h2,Nat.add_mul,show P*(next+4294967296*top)*4294967296=P*(4294967296*(next+4294967296*top)) by grind,Nat.mul_add 4294967296 _ 1,Nat.mul_add P];omega
  omega
 have:=Nat.lt_of_mul_lt_mul_left h5;omega
theorem step(h:Dig V W P V' W' top next third head){g r:Nat}(hg:W/V<=g)(he:g*top+r=head)(hc:4294967296<=g\/r*4294967296+third<g*next):W/V<g:=by
 rcases hc with hc |hc
 ·have:=h.q_lt;omega
 ·refine Nat.lt_of_le_of_ne hg ?_;intro hq;have h1:=h.mul_le (Nat.div_mul_le_self W V);rw[hq,<- he,Nat.mul_add,Nat.mul_add,show g*(4294967296*top)=4294967296*(g*top) by grind]at h1;omega
theorem last(h:Dig V W P V' W' top next third head){g r:Nat}(he:g*top+r=head)(hc:¬(r<4294967296/\(4294967296<=g\/r*4294967296+third<g*next))) :
  g<4294967296/\g<=W/V+1:=by
 have hh:=h.head_le;have hn:=h.hnext;have htop:=h.htop
 have hg:g<4294967296/\g*next<=r*4294967296+third:=by
  rcases XH r 4294967296 with hr |hr
  ·have h1:¬(4294967296<=g\/r*4294967296+third<g*next):=fun h'=>hc ⟨hr,h'⟩
   omega
  ·have h1:g<4294967296:=by
    rcases XH g 4294967296 with h2 |h2
    ·exact h2
    ·have:=XY top h2;omega
   refine⟨h1,?_⟩;have h2:g*next<=4294967296*4294967296:=Nat.mul_le_mul oz oz;have h3:4294967296*4294967296<=r*4294967296:=XY _ hr;omega
 refine⟨hg.1,?_⟩
 have h1:g*(next+4294967296*top)<=third+4294967296*head:=by
  rw[<- he,Nat.mul_add,Nat.mul_add,show g*(4294967296*top)=4294967296*(g*top) by grind];omega
 have h2:g*V<=W+V:=by
  have h3:g*V'<=4294967296*P:=Nat.mul_le_mul oz (by have:=h.hV';omega);have h4:P*(g*(next+4294967296*top))<=P*(third+4294967296*head):=XL _ h1;have h5:P*4294967296<=P*(next+4294967296*top):=XL _ oz;have h6:=h.hV;have h7:=h.hW;have h8:g*V=g*V'+P*(g*(next+4294967296*top)):=by rw[h6];grind
  omega
 have h9:(g-1)*V<=W:=by rw[Nat.sub_mul];omega
 have:=(Nat.le_div_iff_mul_le h.vpos).2 h9;omega
end Dig
theorem Dc{l:List Nat}{n:Nat}:val (l.take (n+2))=val (l.take n)+4294967296^n*(ah l n+4294967296*ah l (n+1)):=by
 rw[dj,dj,Nat.pow_succ];grind
theorem Q1{l:List Nat}{n:Nat}:val (l.take (n+3))=val (l.take n)+4294967296^n*(ah l n+4294967296*(ah l (n+2)*4294967296+ah l (n+1))):=by
 rw[dj,Dc,Yb];grind
theorem oc{l:List Nat}(h:Ws l)(n:Nat):val (l.take n)<4294967296^n:=by
 have h1:=b9 (l.take n) (fT h n);exact XS h1 (Nat.pow_le_pow_right oz (by simp;omega))
theorem VX{v p:List Nat}{n:Nat}(hv:Ws v)(hp:Ws p)(hl:v.length=n+2)(hpl:p.length=n+3)(ht:2147483648<=ah v (n+1))(h:val p<val v*4294967296) :
  Dig (val v) (val p) (4294967296^n) (val (v.take n)) (val (p.take n)) (ah v (n+1)) (ah v n) (ah p n) (ah p (n+2)*4294967296+ah p (n+1)) where
 hV:=by rw[<- Dc,eT oz]
 hW:=by rw[<- Q1,eT oz]
 hV':=oc hv n
 hW':=oc hp n
 hnext:=bW hv n
 hthird:=bW hp n
 htop:=ht
 htopB:=bW hv (n+1)
 hlt:=h
theorem Wi{u l:List Nat}{j:Nat}(h:j<=u.length):bw (wr u j l) j l.length=l:=by
 unfold bw wr;rw[Ye,List.drop_append,X2 (by simp;omega)];simp[Nat.min_eq_left h]
theorem Lp{u l l':List Nat}{j:Nat}(h:j<=u.length)(hl:l.length=l'.length):wr (wr u j l) j l'=wr u j l':=by
 have h1:=EK (l:=l) h;have h2:=LW (l:=l) h;rw[hl]at h2;rw[wr,h1,h2,<- wr]
theorem J8{W V g len:Nat}(hV:0<V)(hVl:V<=4294967296^len)(hW:W<4294967296^len)(h1:W/V<=g)(h2:g<=W/V+1) :
  (W<g*V->(j8 g V W len+V)%4294967296^len=W%V/\g-1=W/V/\1<=g)/\(¬W<g*V->j8 g V W len=W%V/\g=W/V):=by
 have h3:=Nat.div_add_mod W V;have h4:=Nat.mod_lt W hV;generalize W/V=q at *;generalize W%V=r at *;have h5:V*q=q*V:=Nat.mul_comm _ _;refine⟨fun h=>?_,fun h=>?_⟩
 ·have hg:g=q+1:=by
   rcases XH q g with h6 |h6
   ·omega
   ·have : g = q := by omega
    subst this;omega
  subst hg;rw[Nat.succ_mul]at h;refine⟨?_,by omega,by omega⟩;unfold j8;rw[Nat.succ_mul,Yk oz,show W+4294967296^len-(q*V+V)+V=r+4294967296^len by omega,Nat.add_mod_right,Nat.mod_eq_of_lt oz]
 ·have hg:g=q:=by
   rcases XH q g with h6 |h6
   ·have : g = q + 1 := by omega
    subst this;rw[Nat.succ_mul]at h;omega
   ·omega
  subst hg;refine⟨?_,rfl⟩;unfold j8;rw[Yl oz];omega
theorem Lc{u q:List Nat}{k lv V U:Nat}(hu:Ws u)(hk:k+lv+1<=u.length)(hq:k<q.length)(hV:V<4294967296^lv)(h1:val (u.drop (k+1))<V)(h2:U=V*(4294967296^(k+1)*val (q.drop (k+1)))+val u) :
  val (bw u k (lv+1))<V*4294967296/\val ((wr u k (bm (lv+1) (val (bw u k (lv+1))%V))).drop k)<V /\
  U=V*(4294967296^k*val ((q.set k (val (bw u k (lv+1))/V)).drop k))+val (wr u k (bm (lv+1) (val (bw u k (lv+1))%V))):=by
 have h0:val (u.drop (k+(lv+1)))=0:=by
  have h3:=Hv (u:=u) (j:=k+1) (n:=lv) oz;rw[show k+1+lv=k+(lv+1) by omega]at h3;rcases Nat.eq_zero_or_pos (val (u.drop (k+(lv+1))))with h4 |h4
  ·exact h4
  ·have:=XL (4294967296^lv) h4;omega
 have hd:=Hv (u:=u) (j:=k) (n:=lv+1) oz;rw[h0,Nat.mul_zero,Nat.add_zero]at hd;have hw:=bW hu k;have hd2:=pj (l:=u) (i:=k) oz;have hW:val (bw u k (lv+1))<V*4294967296:=by rw[<- hd,hd2];omega
 have hVp:0<V:=by omega
 have hr:=Nat.mod_lt (val (bw u k (lv+1))) hVp;have hm:=Nat.div_add_mod (val (bw u k (lv+1))) V;have hlen:(bm (lv+1) (val (bw u k (lv+1))%V)).length=lv+1:=eY _ _;have hx:val (bw u k (lv+1))%V<4294967296^(lv+1):=by rw[Nat.pow_succ];omega
 have hwd:val ((wr u k (bm (lv+1) (val (bw u k (lv+1))%V))).drop k)=val (bw u k (lv+1))%V:=by
  rw[TS oz,hlen,h0,k8 _ _ hx];omega
 refine⟨hW,by omega,?_⟩;rw[z5 (u:=wr u k _) (j:=k) (by rw[ma oz];omega),EK oz,hwd,Dv hq,h2,z5 (u:=u) (j:=k) oz,hd];generalize val (bw u k (lv+1))%V=r at *;generalize val (bw u k (lv+1))/V=d at *;rw[<- hm,Nat.pow_succ];grind
theorem Rb{A Bv n Q R:Nat}(h:2^n*A=2^n*Bv*Q+R)(hR:R<2^n*Bv):Q=A/Bv/\R/2^n=A%Bv:=by
 obtain⟨h1,h2⟩:=xx h hR;rw[Nat.mul_div_mul_left _ _ (Nat.pow_pos oz)]at h1;rw[Nat.mul_mod_mul_left]at h2;rw[<- h1,<- h2,Nat.mul_div_cancel_left _ (Nat.pow_pos oz)];exact⟨rfl,rfl⟩
end Go.Lw
namespace Go.Lw
theorem DH:∀k v,(bm (k+1) v).take k=bm k v
 |0,_=>by simp[bm]
 |k+1,v=>by
  rw[bm,List.take_succ_cons,DH k];rfl
theorem Oq{u:List Nat}{j n i:Nat}(h:i<n):ah (bw u j n) i=ah u (j+i):=by
 rw[<- wF];simp[bw,ah,h]
theorem Bw{u:List Nat}{j n i:Nat}(h:i<n)(h2:j+n<=u.length):(u.map u32)[j+i]?=some (u32 (ah (bw u j n) i)):=by
 rw[Oq h];exact ci oz
theorem Kn{b:List Nat}{n:Nat}(hb:Ws b)(nb:Nz b)(hl:b.length=n+2) :
  ∃sh v,sh=32-ba (ah b (n+1))/\sh<32/\v=bm (n+2) (2^sh*val b)/\Ws v/\v.length=n+2/\val v=2^sh*val b/\2147483648<=ah v (n+1)/\ah b (n+1)≠0 /\
   4294967296^(n+1)<=val b:=by
 have ht:ah b (n+1)≠0:=by
  refine nb _ ?_;rw[List.getLast?_eq_getElem?,hl];exact iY oz
 have htB:=bW hb (n+1);obtain⟨h1,h2,h3,h4⟩:=zw ht htB;have h5:=xa (x:=ah b (n+1))
 have hv:val b=val (b.take (n+1))+4294967296^(n+1)*ah b (n+1):=by
  rw[<- dj,eT oz]
 have hlt:=oc hb (n+1)
 have hmul:2^(32-ba (ah b (n+1)))*(ah b (n+1)+1)<=4294967296:=by
  have:=XL (2^(32-ba (ah b (n+1)))) (show ah b (n+1)+1<=2^ba (ah b (n+1))from h5);rw[<- Yb,show 32-ba (ah b (n+1))+ba (ah b (n+1))=32 by omega]at this;exact this
 have hlo:4294967296^(n+1)<=val b:=by
  have:=XL (4294967296^(n+1)) (show 1<=ah b (n+1) by omega);omega
 generalize hsh:32-ba (ah b (n+1))=sh at *
 have hX:2^sh*val b<4294967296^(n+2):=by
  have e1:val b<4294967296^(n+1)*(ah b (n+1)+1):=by rw[Nat.mul_add];omega
  have e2:2^sh*val b<2^sh*(4294967296^(n+1)*(ah b (n+1)+1)):=(Nat.mul_lt_mul_left (Nat.pow_pos oz)).2 e1;have e3:2^sh*(4294967296^(n+1)*(ah b (n+1)+1))=4294967296^(n+1)*(2^sh*(ah b (n+1)+1)):=by grind
  have e4:=XL (4294967296^(n+1)) hmul;rw[<- Nat.pow_succ]at e4;rw[e3]at e2;exact XS e2 e4
 refine⟨sh,_,rfl,by omega,rfl,ke _ _,eY _ _,k8 _ _ hX,?_,ht,hlo⟩
 have hv2:val (bm (n+2) (2^sh*val b))=val ((bm (n+2) (2^sh*val b)).take (n+1))+4294967296^(n+1)*ah (bm (n+2) (2^sh*val b)) (n+1):=by
  rw[<- dj,eT (by rw[eY];omega)]
 rw[k8 _ _ hX]at hv2;have hlt2:=oc (ke (n+2) (2^sh*val b)) (n+1)
 have e5:4294967296^(n+1)*(2^sh*ah b (n+1))<=2^sh*val b:=by
  have:=XL (2^sh) (show 4294967296^(n+1)*ah b (n+1)<=val b by omega);have e6:2^sh*(4294967296^(n+1)*ah b (n+1))=4294967296^(n+1)*(2^sh*ah b (n+1)):=by grind
  omega
 have e7:4294967296^(n+1)*(2^sh*ah b (n+1))<4294967296^(n+1)*(ah (bm (n+2) (2^sh*val b)) (n+1)+1):=by rw[Nat.mul_add (4294967296^(n+1)) _ 1];omega
 have:=Nat.lt_of_mul_lt_mul_left e7;omega
theorem JD{a:List Nat}{sh lq n Bv:Nat}(ha:Ws a)(hsh:sh<32)(hl:a.length+1=lq+(n+2))(hB:4294967296^(n+1)<=Bv) :
  val (bm (a.length+1) (2^sh*val a))=2^sh*val a/\val ((bm (a.length+1) (2^sh*val a)).drop lq)<2^sh*Bv:=by
 have h1:=b9 a ha;have h2:2^sh<=2^31:=pb oz;have hp:0<2^sh:=Nat.pow_pos oz;have h3:2^sh*val a<2^sh*4294967296^a.length:=(Nat.mul_lt_mul_left hp).2 h1
 have hX:2^sh*val a<4294967296^(a.length+1):=by
  have:=XY (4294967296^a.length) (show 2^sh<=4294967296 by omega);rw[Nat.pow_succ];omega
 refine⟨k8 _ _ hX,?_⟩;have h4:=wU (ke (a.length+1) (2^sh*val a)) lq (by rw[eY];omega);rw[k8 _ _ hX]at h4;rw[<- h4,Nat.div_lt_iff_lt_mul (Nat.pow_pos oz)];have h5:a.length=(n+1)+lq:=by omega
 rw[h5,Yb]at h3;have h6:=XL (2^sh) (XY (4294967296^lq) hB);rw[Nat.mul_assoc];omega
theorem OM{s:AS}:∀(k:Nat)(z:Blk),lk ([]:Hp) k=some z->s.blk k=some z:=fun _ _ h=>by cases h
theorem L9{s:AS}{k0:Nat}{x:Blk}(h:s.blk k0=some x):∀(k:Nat)(z:Blk),lk [(k0,some x)] k=some z->s.blk k=some z:=by
 intro k z hz;rw[aT]at hz;split at hz
 ·rename_i e;cases hz;rw[e];exact h
 ·cases hz
theorem vr{s:AS}{x y x' y':AV}(h:Sub x x')(h':Sub y y'):az s (d7 [x,y]) (.tup [x',y']) []:=by
 refine az.pure.sub ?_;intro g S m v hr;cases hr with
 |tup hn hr =>
  refine .tup (by simpa using hn) ?_;intro j u c hu hc
  match j,hc with
  |0,hc=>cases hc;exact h _ _ _ _ (hr 0 u x hu rfl)
  |1,hc=>cases hc;exact h' _ _ _ _ (hr 1 u y hu rfl)
theorem UD{b v:List Nat}{n X:Nat}(hn:b.length=n+2)(h:v=bm (n+2) X) :
  AV.fz 900 1 ((bm (b.length+1) X).map u32) (.ms 900 1 0 b.length)=ws v:=by
 rw[uR (by simp[eY]),h,<- hn,Yh,<- map_take,DH,ws]
theorem IK{x:Nat}(h:1<=x)(hx:x<18446744073709551616):IntKind.u64.wrap (fN .sub (x:Int) 1)=((x-1:Nat):Int):=by
 have h1:=kL (x:=x) (y:=1) hx oz;rw[Yl h]at h1;exact h1
theorem CA{r g G R:Nat}:(cond (aa .lss (r:Int) 4294967296) (cond (aa .geq (g:Int) 4294967296) true (aa .gtr (G:Int) (R:Int))) false)=true ↔
  (r<4294967296/\(4294967296<=g\/R<G)):=by
 have e1:aa .lss (r:Int) 4294967296=decide (r<4294967296):=by rw[Bool.eq_iff_iff];simp only[aa,decide_eq_true_eq];omega
 have e2:aa .geq (g:Int) 4294967296=decide (4294967296<=g):=by rw[Bool.eq_iff_iff];simp only[aa,decide_eq_true_eq];omega
 have e3:aa .gtr (G:Int) (R:Int)=decide (R<G):=by rw[Bool.eq_iff_iff];simp only[aa,decide_eq_true_eq];omega
 rw[e1,e2,e3]
 by_cases h1:r<4294967296
 ·by_cases h2:4294967296<=g
  ·rw[decide_eq_true h1,decide_eq_true h2];exact⟨fun _=>⟨h1,.inl h2⟩,fun _=>rfl⟩
  ·rw[decide_eq_true h1,decide_eq_false h2];show decide (R<G)=true↔_;rw[decide_eq_true_eq];exact⟨fun h=>⟨h1,.inr h⟩,fun h=>h.2.resolve_left h2⟩
 ·rw[decide_eq_false h1];constructor
  ·intro h;exact Bool.noConfusion h
  ·intro h;exact absurd h.1 h1
theorem E2{u:List Nat}{k n V r:Nat}{l:List Nat}(hk:k+n<=u.length)(hl:l.length=n)(h:(val l+V)%4294967296^n=r) :
  wr (wr u k l) k (bm n ((val (bw (wr u k l) k n)+V)%4294967296^n))=wr u k (bm n r):=by
 subst hl;rw[Lp oz (by rw[eY]),Wi oz,h]
theorem LA{s:AS}{k1 k2:Nat}{x1 x2:Blk}(h1:s.blk k1=some x1)(h2:s.blk k2=some x2):∀(k:Nat)(z:Blk),lk [(k1,some x1),(k2,some x2)] k=some z->s.blk k=some z:=by
 intro k z hz;rw[aT]at hz;split at hz
 ·rename_i e;cases hz;rw[e];exact h1
 ·rw[aT]at hz;split at hz
  ·rename_i e;cases hz;rw[e];exact h2
  ·cases hz
theorem aI{p:Prop}(h:p:=by first |exact OM |exact L9 rfl |exact LA rfl rfl):p:=h
def gp(x y:Int):Int:=if x<y then -1 else if y<x then 1 else 0
theorem GW(b:Bool)(n:Nat):sgn (!b) n=-(sgn b n):=by cases b <;> simp[sgn]
theorem Wh.small{w:Wh}(h:w.ok)(hl:w.mag.length<aD):w.m.length<aD:=XX Wh.m_le hl
theorem Fe{w:Wh}(h:w.ok):(w.m.length=0->w.z.sign=0)/\(w.m.length≠0->w.neg=true->w.z.sign=-1)/\(w.m.length≠0->w.neg=false->w.z.sign=1):=by
 have h1:w.m.length≠0->w.valid=true:=by
  intro h0;unfold Wh.m at h0;split at h0
  ·assumption
  ·exact absurd rfl h0
 refine⟨?_,?_,?_⟩
 ·intro h0;have h2:w.m = []:=List.length_eq_zero_iff.1 h0;have h3:val w.m = 0:=by rw [h2]; rfl
  have:w.z=0:=by unfold Wh.z;rw[h3];split <;> rfl
  rw[this];rfl
 ·intro h0 hn;have h2:w.n = true:=by unfold Wh.n; rw [h1 h0,hn]; rfl
  have h3:=Wh.n_val h2;rw[Int.sign_eq_neg_one_iff_neg];unfold Wh.z;rw[Yl h2];omega
 ·intro h0 hn;have h2:w.n = false:=by unfold Wh.n; rw [h1 h0,hn]; rfl
  have h3:=nW w.nz (fun h=>h0 (by rw[h];rfl));rw[Int.sign_eq_one_iff_pos];unfold Wh.z;rw[h2];simp;omega
theorem Cm{a b:Wh}(h:a.n=b.n):sgn a.n (val a.m+val b.m)=a.z+b.z:=by
 rw[Wh.z_eq,Wh.z_eq,<- h];unfold sgn;split <;> omega
theorem BV{a b:Wh}(h:a.n≠b.n)(hl:val b.m<=val a.m):sgn a.n (val a.m-val b.m)=a.z+b.z:=by
 rw[Wh.z_eq,Wh.z_eq];cases ha:a.n <;> cases hb:b.n <;> simp_all [sgn] <;> omega
theorem I4{a b:Wh}(h:a.n≠b.n)(hl:val a.m<=val b.m):sgn b.n (val b.m-val a.m)=a.z+b.z:=by
 rw[Int.add_comm];exact BV (fun h'=>h h'.symm) hl
theorem Cv{a b:Wh}:sgn (a.n != b.n) (val a.m*val b.m)=a.z*b.z:=by
 rw[Wh.z_eq,Wh.z_eq];cases a.n <;> cases b.n <;> simp[sgn,Int.neg_mul,Int.mul_neg]
theorem yH(z:Int):(z.sign=1/\0<z)\/(z.sign=0/\z=0)\/(z.sign=-1/\z<0):=by
 rcases Int.lt_trichotomy z 0 with h |h |h
 ·exact .inr (.inr ⟨Int.sign_eq_neg_one_iff_neg.2 h,h⟩)
 ·subst h;exact .inr (.inl ⟨rfl,rfl⟩)
 ·exact .inl ⟨Int.sign_eq_one_iff_pos.2 h,h⟩
theorem Wr{a b:Wh}(h:a.z.sign≠b.z.sign):(a.z.sign<b.z.sign->gp a.z b.z=-1)/\(¬a.z.sign<b.z.sign->gp a.z b.z=1):=by
 have h1:=yH a.z;have h2:=yH b.z;unfold gp;generalize a.z.sign=s at *;generalize b.z.sign=t at *;generalize a.z=x at *;generalize b.z=y at *;constructor <;> intro h3 <;> (repeat' split) <;> omega
theorem Pk{a b:Wh}(h:a.z.sign=b.z.sign):gp a.z b.z=(if a.n then -(if val a.m<val b.m then -1 else if val b.m<val a.m then 1 else 0:Int)else if val a.m<val b.m then -1 else if val b.m<val a.m then 1 else 0):=by
 have ha:=Wh.n_eq (w:=a);have hb:=Wh.n_eq (w:=b);have h1:=Int.sign_trichotomy a.z;have hz1:=Wh.z_eq (w:=a);have hz2:=Wh.z_eq (w:=b)
 have hn:a.n=b.n:=by
  rw[ha,hb,decide_eq_decide,<- Int.sign_eq_neg_one_iff_neg,<- Int.sign_eq_neg_one_iff_neg,h]
 rw[<- hn]at hz2;unfold gp;rw[hz1,hz2];cases a.n <;> simp only[sgn,if_true,if_false,Bool.false_eq_true] <;> (repeat' split) <;> omega
theorem He{a b q r:Int}(hb:b≠0)(h:a=b*q+r)(h0:0<=r)(h1:r<b.natAbs):a/b=q/\a%b=r:=by
 have h2:=Int.mul_ediv_add_emod a b;have h3:=Int.emod_nonneg a hb;have h4:=Int.emod_lt a hb;have h5:b*(a/b-q)=r-a%b:=by rw[Int.mul_sub];omega
 have h6:a/b-q=0:=by
  rcases Int.lt_trichotomy (a/b-q) 0 with h |h |h
  ·exfalso;have:b.natAbs <= (r - a % b).natAbs:=by rw [<- h5,Int.natAbs_mul]; exact Nat.le_mul_of_pos_right _ oz
   omega
  ·exact h
  ·exfalso;have:b.natAbs <= (r - a % b).natAbs:=by rw [<- h5,Int.natAbs_mul]; exact Nat.le_mul_of_pos_right _ oz
   omega
 rw[h6,Int.mul_zero]at h5;omega
theorem Fq{a b:Wh}(hb:val b.m≠0)(h:¬(a.n=true/\0<val a.m%val b.m)) :
  sgn (a.n != b.n) (val a.m/val b.m)=a.z/b.z/\(val a.m%val b.m:Nat)=a.z%b.z:=by
 have h1:=Nat.div_add_mod (val a.m) (val b.m);have h2:=Nat.mod_lt (val a.m) (show 0<val b.m by omega);have hz:=Wh.abs (w:=b);have hb0:b.z≠0:=by omega
 obtain⟨e1,e2⟩:=He (a:=a.z) (b:=b.z) (q:=sgn (a.n != b.n) (val a.m/val b.m)) (r:=(val a.m%val b.m:Nat)) hb0 (by
  rw[Wh.z_eq,Wh.z_eq];generalize val a.m/val b.m=q at *;generalize val a.m%val b.m=r at *;rw[<- h1]
  have h9:a.n=true->r=0:=fun h3=>by
   rcases Nat.eq_zero_or_pos r with h4 |h4
   ·exact h4
   ·exact absurd ⟨h3,h4⟩ h
  cases ha:a.n with
  |false=>cases hbn:b.n <;> simp[sgn] <;> grind
  |true=>have:=h9 ha;subst this;cases hbn:b.n <;> simp[sgn] <;> grind) oz oz
 exact⟨e1.symm,e2.symm⟩
theorem E6{a b:Wh}(hb:val b.m≠0)(ha:a.n=true)(hr:0<val a.m%val b.m) :
  sgn (a.n != b.n) (val a.m/val b.m+1)=a.z/b.z/\((val b.m-val a.m%val b.m:Nat):Int)=a.z%b.z:=by
 have h1:=Nat.div_add_mod (val a.m) (val b.m);have h2:=Nat.mod_lt (val a.m) (show 0<val b.m by omega);have hz:=Wh.abs (w:=b);have hb0:b.z≠0:=by omega
 obtain⟨e1,e2⟩:=He (a:=a.z) (b:=b.z) (q:=sgn (a.n != b.n) (val a.m/val b.m+1)) (r:=(val b.m-val a.m%val b.m:Nat)) hb0 (by
  rw[Wh.z_eq,Wh.z_eq];generalize val a.m/val b.m=q at *;generalize val a.m%val b.m=r at *;rw[<- h1,ha];cases hbn:b.n <;> simp[sgn] <;> rw[Int.ofNat_sub oz] <;> grind) oz oz
 exact⟨e1.symm,e2.symm⟩
abbrev fH:Nat:=137438953472
def Zs(z:Int):Prop:=∃k,k<=274877906945/\Lz k z
theorem Zs.ok{z:Int}(h:Zs z):(ofInt z).ok:=by
 obtain⟨k,hk,hz⟩:=h;refine⟨dk _,?_⟩;have:=hz.len;unfold a8;show(ofNat z.natAbs).length<=_;omega
theorem Zs.len{z:Int}(h:Zs z):(ofInt z).mag.length<=274877906945:=by
 obtain⟨k,hk,hz⟩:=h;have:=hz.len;show(ofNat z.natAbs).length<=_;omega
theorem Zs.neg{z:Int}(h:Zs z):Zs (-z):=by
 obtain⟨k,hk,hz⟩:=h;exact⟨k,hk,hz.neg⟩
theorem Zs.of_le{x y:Int}(h:Zs x)(h':y.natAbs<=x.natAbs):Zs y:=by
 obtain⟨k,hk,hz⟩:=h;exact⟨k,hk,hz.of_le h'⟩
structure Rt where
  neg:Bool
  num:List Nat
  den:List Nat
namespace Rt
def av(r:Rt):AV:=.agg [bl r.neg,ws r.num,ws r.den]
def n0(r:Rt):Wh:=⟨false,r.num⟩
def d0(r:Rt):Wh:=⟨false,r.den⟩
def valid(r:Rt):Bool :=
  if r.num=[]/\r.den=[]then !r.neg
  else if r.num=[]\/r.den=[]then false
  else r.n0.valid&&r.d0.valid&&decide (Nat.gcd (val r.num) (val r.den)=1)
def q(r:Rt):Rat:=if r.valid=true/\r.num≠[]then mkRat (sgn r.neg (val r.num)) (val r.den)else 0
def ok(r:Rt):Prop:=Ws r.num/\Ws r.den/\r.num.length<=fH/\r.den.length<=fH
end Rt
def rt(q:Rat):Rt:=⟨decide (q.num<0),ofNat q.num.natAbs,if q.num=0 then[]else ofNat q.den⟩
def qA(q:Rat):AV:=(rt q).av
def Qs(q:Rat):Prop:=∃k,k<=fH/\Lz k q.num/\Lz k (q.den:Int)
theorem Qs.ok{q:Rat}(h:Qs q):(rt q).ok:=by
 obtain⟨k,hk,h1,h2⟩:=h;have h3:=h1.len;have h4:=h2.len;simp only[X4]at h4;refine⟨dk _,?_,by show(ofNat q.num.natAbs).length<=_;omega,?_⟩
 ·show Ws (if q.num=0 then[]else ofNat q.den);split
  ·exact ss
  ·exact dk _
 ·show(if q.num=0 then[]else ofNat q.den).length<=_;split
  ·simp
  ·omega
theorem BD{n:Nat}:ofNat n=[]↔n=0:=by
 constructor
 ·intro h;have:=cg n;rw[h]at this;exact this.symm
 ·intro h;rw[h];rfl
theorem CL{l:List Nat}(h:l≠[])(hz:Nz l):(⟨false,l⟩:Wh).valid=true:=by
 unfold Wh.valid;dsimp only;rw[Yk h];cases hl:l.getLast? with
 |none=>rfl
 |some x=>have:=hz x hl;simp[this]
theorem In{l:List Nat}{b:Bool}(h:l≠[])(hv:(⟨b,l⟩:Wh).valid=true):Nz l:=by
 unfold Wh.valid at hv;dsimp only at hv;rw[Yk h]at hv;intro x hx hx0;rw[hx,hx0]at hv;simp at hv
theorem rJ(q:Rat):(rt q).valid=true:=by
 unfold rt Rt.valid Rt.n0 Rt.d0;dsimp only
 by_cases h:q.num=0
 ·rw[Yl h,h];rfl
 ·rw [Yk h];have h1:ofNat q.num.natAbs ≠ []:=fun h'=>h (by have:=BD.1 h'; omega)
  have h2:ofNat q.den≠[]:=fun h'=>q.den_nz (BD.1 h')
  rw[Yk (fun h'=>h1 h'.1),Yk (by simp[h1,h2]),CL h1 (qT _),CL h2 (qT _),cg,cg];have:=q.reduced;unfold Nat.Coprime at this;simp[this]
theorem bV(q:Rat):(rt q).q=q:=by
 unfold Rt.q
 by_cases h:q.num=0
 ·rw[Yk]
  ·exact(Rat.num_eq_zero.1 h).symm
  ·intro h';exact h'.2 (by show ofNat _=[];rw[h];rfl)
 ·have h1 : ofNat q.num.natAbs ≠ [] := fun h' => h (by have := BD.1 h'; omega)
  rw[Yl ⟨rJ q,h1⟩];show mkRat (sgn (decide (q.num<0)) (val (ofNat q.num.natAbs))) (val (if q.num=0 then[]else ofNat q.den))=q;rw[Yk h,cg,cg]
  have:sgn (decide (q.num<0)) q.num.natAbs=q.num:=by
   unfold sgn;generalize q.num=z
   by_cases h2:z<0
   ·rw[Yl (decide_eq_true h2)];omega
   ·rw[Yk (by rw[decide_eq_true_eq];exact h2)];omega
  rw[this,Rat.mkRat_self]
theorem Rt.parts{r:Rt}(h:r.ok)(hv:r.valid=true)(h0:r.num≠[]) :
  r.q.num=sgn r.neg (val r.num)/\r.q.den=val r.den/\ofNat (val r.num)=r.num/\ofNat (val r.den)=r.den/\val r.num≠0/\val r.den≠0:=by
 have hv':=hv;unfold Rt.valid at hv;rw[Yk (fun h'=>h0 h'.1)]at hv;split at hv
 ·cases hv
 ·rename_i h1;simp only[XF,decide_eq_true_eq]at hv;obtain⟨⟨hn,hd⟩,hg⟩:=hv;have h2:r.den≠[]:=fun h'=>h1 (.inr h')
  have nn:=In h0 hn;have nd:=In h2 hd;have pn:=nW nn h0;have pd:=nW nd h2;have hq:r.q=mkRat (sgn r.neg (val r.num)) (val r.den):=by unfold Rt.q;rw[Yl ⟨hv',h0⟩]
  have hs:(sgn r.neg (val r.num)).natAbs=val r.num:=by unfold sgn;split <;> omega
  have hq2 : r.q = ⟨sgn r.neg (val r.num), val r.den, by omega, by unfold Nat.Coprime; rw [hs]; exact hg⟩ := by
   rw[hq];exact(Rat.mk_eq_mkRat _ _ _ _).symm
  refine⟨by rw[hq2],by rw[hq2],pZ h.1 nn,pZ h.2.1 nd,by omega,by omega⟩
theorem Rt.zero{r:Rt}(h:¬(r.valid=true/\r.num≠[])):r.q=0:=by unfold Rt.q;rw[Yk h]
theorem Rt.eq_rt{r:Rt}(h:r.ok)(hv:r.valid=true):r=rt r.q:=by
 by_cases h0:r.num=[]
 ·have hq:=Rt.zero (r:=r) (fun h'=>h'.2 h0);rw[hq];unfold Rt.valid at hv
  by_cases h1:r.den=[]
  ·rw[Yl ⟨h0,h1⟩]at hv;obtain⟨n,a,b⟩:=r;dsimp only at *;subst h0;subst h1
   cases n
   ·rfl
   ·cases hv
  ·rw[Yk (fun h'=>h1 h'.2),Yl (.inl h0)]at hv;cases hv
 ·obtain ⟨h1, h2, h3, h4, h5, h6⟩:=Rt.parts h hv h0;unfold rt;have hn:r.q.num ≠ 0:=by rw [h1]; unfold sgn; split <;> omega
  rw[Yk hn,h2,h4];have h7:r.q.num.natAbs=val r.num:=by rw[h1];unfold sgn;split <;> omega
  have h8:decide (r.q.num<0)=r.neg:=by rw[h1];unfold sgn;cases r.neg <;> simp <;> omega
  rw[h7,h3,h8]
theorem Rt.ok.qs{r:Rt}(h:r.ok):Qs r.q:=by
 by_cases h0:r.valid=true/\r.num≠[]
 ·obtain ⟨h1, h2, h3, h4, h5, h6⟩:=Rt.parts h h0.1 h0.2;refine ⟨max r.num.length r.den.length,by have:=h.2.2; omega,?_,?_⟩
  ·unfold Lz;have:r.q.num.natAbs = val r.num:=by rw [h1]; unfold sgn; split <;> omega
   rw[this];exact XS (b9 _ h.1) (Nat.pow_le_pow_right oz oz)
  ·unfold Lz;rw[h2];exact XS (b9 _ h.2.1) (Nat.pow_le_pow_right oz oz)
 ·rw[Rt.zero h0];exact⟨1,by unfold fH;omega,by unfold Lz;decide,by unfold Lz;decide⟩
theorem Qs.num{q:Rat}(h:Qs q):Zs q.num:=by
 obtain⟨k,hk,h1,h2⟩:=h;exact⟨k,by unfold fH at hk;omega,h1⟩
theorem Qs.den{q:Rat}(h:Qs q):Zs q.den:=by
 obtain⟨k,hk,h1,h2⟩:=h;exact⟨k,by unfold fH at hk;omega,h2⟩
theorem Qs.mul{p q:Rat}(h:Qs p)(h':Qs q):Zs (p.num*q.den)/\Zs (p.num*q.num)/\Zs ((p.den:Int)*q.den)/\Zs ((p.den:Int)*q.num):=by
 obtain⟨k,hk,h1,h2⟩:=h;obtain⟨l,hl,h3,h4⟩:=h';unfold fH at *;exact⟨⟨k+l,by omega,h1.mul h4⟩,⟨k+l,by omega,h1.mul h3⟩,⟨k+l,by omega,h2.mul h4⟩,⟨k+l,by omega,h2.mul h3⟩⟩
theorem Qs.cross{p q:Rat}(h:Qs p)(h':Qs q):Zs (p.num*q.den+q.num*p.den):=by
 obtain⟨k,hk,h1,h2⟩:=h;obtain⟨l,hl,h3,h4⟩:=h';unfold fH at *;have:=(h1.mul h4).add (h3.mul h2);exact⟨_,by omega,this⟩
theorem Qs.neg{p:Rat}(h:Qs p):Qs (-p):=by
 obtain⟨k,hk,h1,h2⟩:=h;refine⟨k,hk,?_,?_⟩
 ·rw[Rat.neg_num];exact h1.neg
 ·rw[Rat.neg_den];exact h2
theorem Qs.zero:Qs 0:=⟨1,by unfold fH;omega,by unfold Lz;decide,by unfold Lz;decide⟩
theorem Rt.ok.n0{r:Rt}(h:r.ok):r.n0.ok:=⟨h.1,by have:=h.2.2.1;unfold fH at this;unfold a8;exact XW this oz⟩
theorem Rt.ok.d0{r:Rt}(h:r.ok):r.d0.ok:=⟨h.2.1,by have:=h.2.2.2;unfold fH at this;unfold a8;exact XW this oz⟩
theorem Rt.ok.n0l{r:Rt}(h:r.ok):r.n0.mag.length<aD:=by have:=h.2.2.1;unfold fH at this;unfold aD;exact XX this oz
theorem Rt.ok.d0l{r:Rt}(h:r.ok):r.d0.mag.length<aD:=by have:=h.2.2.2;unfold fH at this;unfold aD;exact XX this oz
theorem ve:Zs 1:=⟨1,by omega,by unfold Lz;decide⟩
theorem Rt.gcd_zs{r:Rt}(h:r.ok):Zs (Int.gcd r.n0.z r.d0.z):=by
 have h1:=Wh.lz h.n0;have h2:=Wh.lz h.d0;have h3:r.n0.mag.length<=137438953472:=h.2.2.1;have h4:r.d0.mag.length<=137438953472:=h.2.2.2
 by_cases h0:r.n0.z=0
 ·rw[h0,Int.gcd_zero_left];exact⟨r.d0.mag.length,by omega,by unfold Lz at *;simpa using h2⟩
 ·refine⟨r.n0.mag.length,by omega,h1.of_le ?_⟩;simp only[X4];exact Nat.le_of_dvd oz (Int.gcd_dvd_natAbs_left _ _)
theorem UG{n:Nat}:gp (n:Int) 1=0↔n=1:=by
 unfold gp;split
 ·constructor <;> intro h <;> omega
 ·split <;> constructor <;> intro h <;> omega
theorem Hj{l:List Nat}(h:(⟨false,l⟩:Wh).valid=true):(⟨false,l⟩:Wh).z=val l:=by
 unfold Wh.z Wh.n Wh.m;simp[h]
theorem BJ{r:Rt}(h0:¬(r.num=[]/\r.den=[]))
  (h:cond (cond (cond (aa .eql (r.num.length:Int) 0) true (aa .eql (r.den.length:Int) 0)) true (!r.n0.valid)) true (!r.d0.valid)=true):r.valid=false:=by
 unfold Rt.valid;rw[Yk h0];split
 ·rfl
 ·next h1 =>
  have hn:r.num≠[]:=fun h=>h1 (.inl h)
  have hd:r.den≠[]:=fun h=>h1 (.inr h)
  have e1:aa .eql (r.num.length:Int) 0=false:=by simp[aa,hn]
  have e2:aa .eql (r.den.length:Int) 0=false:=by simp[aa,hd]
  rw[e1,e2]at h;cases hv:r.n0.valid <;> cases hw:r.d0.valid <;> simp_all
theorem F4{r:Rt}(h0:¬(r.num=[]/\r.den=[]))
  (h:cond (cond (cond (aa .eql (r.num.length:Int) 0) true (aa .eql (r.den.length:Int) 0)) true (!r.n0.valid)) true (!r.d0.valid)=false) :
  r.valid=aa .eql (gp (Int.gcd r.n0.z r.d0.z) 1) 0:=by
 unfold Rt.valid;rw[Yk h0];cases e1:aa .eql (r.num.length:Int) 0
 ·cases e2:aa .eql (r.den.length:Int) 0
  ·have hn : r.num ≠ [] := by simpa [aa] using e1
   have hd:r.den≠[]:=by simpa[aa]using e2
   rw[e1,e2]at h;cases hv:r.n0.valid <;> cases hw:r.d0.valid <;> simp[hv,hw]at h
   rw[Yk (by simp[hn,hd])];have z1:r.n0.z=val r.num:=Hj hv;have z2:r.d0.z=val r.den:=Hj hw;rw[z1,z2];show(true&&true&&decide _)=decide _;simp only[Bool.and_self,Bool.true_and];rw[Bool.eq_iff_iff];simp only[decide_eq_true_eq];exact UG.symm
  ·rw[e1,e2]at h;simp at h
 ·rw[e1]at h;simp at h
theorem Gq{b:Bool}{num den:List Nat}(e3:ofNat (val num)=num)(e4:ofNat (val den)=den)(e5:val num≠0) :
  AV.tup [.agg [bl b,ws num],.agg [bl false,ws den]]=.tup [zA (sgn b (val num)),zA ((val den:Nat):Int)]:=by
 unfold zA ofInt Wh.av;have h1:(sgn b (val num)).natAbs=val num:=by unfold sgn;split <;> omega
 have h2:decide (sgn b (val num)<0)=b:=by unfold sgn;cases b <;> simp <;> omega
 have h3:decide (((val den:Nat):Int)<0)=false:=by simp
 dsimp only;rw[h1,h2,h3,e3,X4,e4]
inductive SubL:List AV->List AV->Prop
  |nil:SubL [] []
  |cons {x y:AV} {l l':List AV} (h:Sub x y) (hl:SubL l l'):SubL (x::l) (y::l')
theorem SubL.len{l l':List AV}(h:SubL l l'):l.length=l'.length:=by induction h with |nil=>rfl |cons _ _ ih=>simp[ih]
theorem SubL.get{l l':List AV}(h:SubL l l'):∀(j:Nat)(x y:AV),l[j]?=some x->l'[j]?=some y->Sub x y:=by
 induction h with
 |nil=>intro j x y h;simp at h
 |cons h _ ih =>
  intro j x y hx hy;cases j with
  |zero=>simp at hx hy;subst hx;subst hy;exact h
  |succ j=>simp at hx hy;exact ih j x y hx hy
theorem Sub.tup{l l':List AV}(h:SubL l l'):Sub (.tup l) (.tup l'):=by
 intro g S m v hv;cases hv with
 |tup hn hr =>
  refine .tup (by rw[hn,h.len]) (fun j u y hu hy=>?_);obtain⟨x,hx⟩:=it h.len.symm hy;exact h.get j x y hx hy _ _ _ _ (hr j u x hu hx)
theorem Sub.agg{l l':List AV}(h:SubL l l')(ho:l'.all AV.one=true):Sub (.agg l) (.agg l'):=by
 intro g S m v hv;cases hv with
 |agg hn h1 hr =>
  refine .agg (by rw[hn,h.len]) (fun j c hc=>List.all_eq_true.1 ho c (Xx hc)) (fun j u y hu hy=>?_);obtain⟨x,hx⟩:=it h.len.symm hy;exact h.get j x y hx hy _ _ _ _ (hr j u x hu hx)
theorem BlkSub.bL{l l':List AV}(h:SubL l l')(ho:l'.all AV.one=true):BlkSub (.box l) (.box l') :=
 .box h.len (fun j c hc=>List.all_eq_true.1 ho c (Xx hc)) (fun j x y hx hy=>h.get j x y hx hy)
theorem I5:Sub (.agg [.v (.bool false),.v (.slice none 0 0)]) (zA 0):=.agg (.cons (.refl _) (.cons (.nil _ _ _) .nil)) rfl
theorem jx:Sub (.agg [.v (.bool false),.v (.slice none 0 0),.v (.slice none 0 0)]) (qA 0):=.agg (.cons (.refl _) (.cons (.nil _ _ _) (.cons (.nil _ _ _) .nil))) rfl
theorem C1{n d:Int}(hd:0<d)(hn:n≠0) :
  (Rat.divInt n d).num=n/(Int.gcd n d:Int)/\(Rat.divInt n d).den=d.natAbs/Int.gcd n d:=by
 constructor
 ·rw[Rat.num_divInt,Int.sign_eq_one_of_pos hd,Int.one_mul,Int.gcd_comm]
 ·rw[Rat.den_divInt,Yk oz,Int.gcd_comm]
theorem LU{n d:Int}(hd:0<d)(hn:n≠0) :
  AV.agg [bl (decide (n<0)),ws (ofNat (((n.natAbs:Int)/(Int.gcd n d:Int)).natAbs)),ws (ofNat ((d/(Int.gcd n d:Int)).natAbs))]=qA (Rat.divInt n d):=by
 obtain⟨h1,h2⟩:=C1 hd hn;obtain⟨g,hg⟩:∃g,g=Int.gcd n d:=⟨_,rfl⟩
 have hg0:0<g:=by rw[hg];exact Int.gcd_pos_of_ne_zero_left _ hn
 have hgn:(g:Int)∣n:=by rw[hg];exact Int.gcd_dvd_left ..
 rw[<- hg]at h1 h2 ⊢;clear hg;obtain⟨k,hk⟩:=hgn;have hk1:n/(g:Int)=k:=by rw[hk];exact Int.mul_ediv_cancel_left _ oz
 have hk0:k≠0:=by intro h;rw[h]at hk;simp at hk;exact hn hk
 have hs:decide (n<0)=decide (k<0):=by
  rw[decide_eq_decide,hk];constructor
  ·intro h;rcases Int.lt_trichotomy k 0 with h' |h' |h'
   ·exact h'
   ·exact absurd h' hk0
   ·exact absurd (Int.mul_nonneg (Int.natCast_nonneg g) (Int.le_of_lt h')) oz
  ·intro h;exact Int.mul_neg_of_pos_of_neg oz h
 have hna:((n.natAbs:Int)/(g:Int)).natAbs=k.natAbs:=by
  rw[hk,Int.natAbs_mul,X4];rw[show((g*k.natAbs:Nat):Int)/(g:Int)=((g*k.natAbs/g:Nat):Int) by exact(Int.natCast_ediv _ _).symm];rw[Nat.mul_div_cancel_left _ hg0];omega
 have hda:(d/(g:Int)).natAbs=d.natAbs/g:=by
  have:d=(d.natAbs:Int):=by omega
  rw[this,<- Int.natCast_ediv,X4,X4]
 unfold qA rt Rt.av;rw[h1,h2,hk1,hna,hda,hs];dsimp only;rw[Yk hk0]
theorem Fa(n d:Int):Rat.divInt (-n) (-d)=Rat.divInt n d:=Rat.neg_divInt_neg n d
theorem BH(p q:Rat):Rat.divInt (p.num*q.den+q.num*p.den) ((p.den:Int)*q.den)=p+q:=by
 rw[<- Rat.divInt_add_divInt _ _ (by have:=p.den_nz;omega) (by have:=q.den_nz;omega),Rat.num_divInt_den,Rat.num_divInt_den]
theorem CB(p q:Rat):Rat.divInt (p.num*q.num) ((p.den:Int)*q.den)=p*q:=by
 rw[<- Rat.divInt_mul_divInt,Rat.num_divInt_den,Rat.num_divInt_den]
theorem II(p:Rat):Rat.divInt (-p.num) p.den=-p:=by
 rw[<- Rat.neg_num,<- Rat.neg_den,Rat.num_divInt_den]
theorem Jj(p q:Rat):Rat.divInt (p.num*q.den) ((p.den:Int)*q.num)=p/q:=by
 rw[Rat.div_def,<- Rat.divInt_mul_divInt,Rat.num_divInt_den];congr 1;rw[<- Rat.inv_divInt,Rat.num_divInt_den]
theorem QM(p:Rat):p.num<0↔p<0:=by
 rw[Rat.lt_iff];simp
theorem Rr(p:Rat):0<p.num↔0<p:=by
 rw[Rat.lt_iff];simp
def bK(p:Rat):Int:=if p<0 then -1 else if 0<p then 1 else 0
theorem Is(p:Rat):p.num.sign=bK p:=by
 unfold bK
 by_cases h:p<0
 ·rw[Yl h];exact Int.sign_eq_neg_one_iff_neg.2 ((QM p).2 h)
 ·rw[Yk h]
  by_cases h':0<p
  ·rw[Yl h'];exact Int.sign_eq_one_iff_pos.2 ((Rr p).2 h')
  ·rw [Yk h'];have:p = 0:=by grind
   rw[this];rfl
theorem SR(p q:Rat):bK (p-q)=if p<q then -1 else if q<p then 1 else 0:=by
 unfold bK
 by_cases h:p<q
 ·rw[Yl h,Yl (by grind)]
 ·rw [Yk h, Yk (by grind)]
  by_cases h':q<p
  ·rw[Yl h',Yl (by grind)]
  ·rw[Yk h',Yk (by grind)]
theorem MJ(p q:Rat):gp (p.num*q.den) (q.num*p.den)=bK (p-q):=by
 rw[SR];unfold gp;simp only[Rat.lt_iff]
theorem Mg{n d:Int}(hd:0<d)(hn:n≠0) :
  AV.agg [bl (decide (n/(Int.gcd n d:Int)<0)),ws (ofNat ((n/(Int.gcd n d:Int)).natAbs)),ws (ofNat ((d/(Int.gcd n d:Int)).natAbs))]=qA (Rat.divInt n d):=by
 obtain⟨h1,h2⟩:=C1 hd hn
 have h3:(d/(Int.gcd n d:Int)).natAbs=d.natAbs/Int.gcd n d:=by
  have:d=(d.natAbs:Int):=by omega
  generalize Int.gcd n d=g;rw[this,<- Int.natCast_ediv,X4,X4]
 have h4:n/(Int.gcd n d:Int)≠0:=by
  rw[<- h1];intro h
  have h5:=Rat.num_eq_zero.1 h;have h6:=(Rat.divInt_eq_divInt_iff (show d≠0 by omega) (show(1:Int)≠0 by decide)).1 (h5.trans (Rat.zero_divInt 1).symm);omega
 unfold qA rt Rt.av;rw[h1,h2,h3];dsimp only;rw[Yk h4]
def Qb(e:Nat)(q:Rat):Prop:=q.num.natAbs<2^e/\q.den<2^e
theorem Qb.mono{e f:Nat}{q:Rat}(h:Qb e q)(hf:e<=f):Qb f q :=
 ⟨XS h.1 (Nat.pow_le_pow_right oz hf),XS h.2 (Nat.pow_le_pow_right oz hf)⟩
theorem Qb.qs{e:Nat}{q:Rat}(h:Qb e q)(he:e<=4398046511104):Qs q:=by
 have h2:(4294967296:Nat)=2^32:=by decide
 have h3:∀x,x<2^e->x<4294967296^(e/32+1):=by
  intro x hx;rw[h2,<- Nat.pow_mul];exact XS hx (Nat.pow_le_pow_right oz oz)
 by_cases h4:e=4398046511104
 ·obtain⟨k,hk⟩:∃k,k=137438953472:=⟨_,rfl⟩
  refine⟨k,by unfold fH;omega,?_,?_⟩
  ·unfold Lz;have:=h.1;rw[h2,<- Nat.pow_mul];exact XS this (Nat.pow_le_pow_right oz oz)
  ·unfold Lz;have:=h.2;rw[h2,<- Nat.pow_mul];exact XS this (Nat.pow_le_pow_right oz oz)
 ·exact⟨e/32+1,by unfold fH;omega,h3 _ h.1,h3 _ h.2⟩
theorem Qb.neg{e:Nat}{q:Rat}(h:Qb e q):Qb e (-q):=by
 refine⟨?_,?_⟩
 ·rw[Rat.neg_num,Int.natAbs_neg];exact h.1
 ·rw[Rat.neg_den];exact h.2
theorem vi{n d:Int}(h0:d≠0):(Rat.divInt n d).num.natAbs<=n.natAbs/\(Rat.divInt n d).den<=d.natAbs:=by
 constructor
 ·rw[Rat.num_divInt]
  have h1:(d.sign*n).natAbs=n.natAbs:=by
   rw[Int.natAbs_mul,Int.natAbs_sign_of_ne_zero h0,Nat.one_mul]
  rw[<- h1];exact Int.natAbs_ediv_le_natAbs _ _
 ·rw[Rat.den_divInt,Yk h0];exact Nat.div_le_self _ _
theorem Qb.mul{e f:Nat}{p q:Rat}(h:Qb e p)(h':Qb f q):Qb (e+f) (p*q):=by
 rw[<- CB];have h0:((p.den:Int)*q.den)≠0:=Int.mul_ne_zero (by have:=p.den_nz;omega) (by have:=q.den_nz;omega);obtain⟨h1,h2⟩:=vi (n:=p.num*q.num) h0;refine⟨XX h1 ?_,XX h2 ?_⟩
 ·rw[Int.natAbs_mul,Yb];exact Nat.mul_lt_mul'' h.1 h'.1
 ·rw[Int.natAbs_mul,Yb,X4,X4];exact Nat.mul_lt_mul'' h.2 h'.2
theorem Qb.add{e f:Nat}{p q:Rat}(h:Qb e p)(h':Qb f q):Qb (e+f+1) (p+q):=by
 rw[<- BH];have h0:((p.den:Int)*q.den)≠0:=Int.mul_ne_zero (by have:=p.den_nz;omega) (by have:=q.den_nz;omega);obtain⟨h1,h2⟩:=vi (n:=p.num*q.den+q.num*p.den) h0;refine⟨XX h1 ?_,XX h2 ?_⟩
 ·have h3:=Int.natAbs_add_le (p.num*q.den) (q.num*p.den);rw[Int.natAbs_mul,Int.natAbs_mul,X4,X4]at h3;have h4:=Nat.mul_lt_mul'' h.1 h'.2;have h5:=Nat.mul_lt_mul'' h'.1 h.2;rw[Nat.pow_succ,Yb];rw[Nat.mul_comm (2^f)]at h5;omega
 ·rw[Int.natAbs_mul,X4,X4,Nat.pow_succ,Yb];have:=Nat.mul_lt_mul'' h.2 h'.2;omega
theorem Qb.sub{e f:Nat}{p q:Rat}(h:Qb e p)(h':Qb f q):Qb (e+f+1) (p-q):=by
 rw[Rat.sub_eq_add_neg];exact h.add h'.neg
theorem Qb.div{e f:Nat}{p q:Rat}(h:Qb e p)(h':Qb f q):Qb (e+f) (p/q):=by
 by_cases h0:q=0
 ·subst h0;rw[Rat.div_def,Rat.inv_zero,Rat.mul_zero];have h1:0<2^e:=Nat.two_pow_pos e;have h2:=h.2;have h3:=p.den_nz;refine⟨?_,?_⟩
  ·exact Nat.two_pow_pos _
  ·show 1<2^(e+f);have:2^e<=2^(e+f):=Nat.pow_le_pow_right oz oz;omega
 ·rw [<- Jj];have h0':((p.den:Int) * q.num) ≠ 0:=Int.mul_ne_zero (by have:=p.den_nz; omega) (fun h=>h0 (Rat.num_eq_zero.1 h));obtain ⟨h1,h2⟩:=vi (n:=p.num * q.den) h0';refine ⟨XX h1 ?_,XX h2 ?_⟩
  ·rw[Int.natAbs_mul,Yb,X4];exact Nat.mul_lt_mul'' h.1 h'.2
  ·rw[Int.natAbs_mul,Yb,X4];exact Nat.mul_lt_mul'' h.2 h'.1
theorem Qb.zero:Qb 1 0:=⟨by decide,by decide⟩
theorem Qb.one:Qb 1 1:=⟨by decide,by decide⟩
theorem Rt.qb{r:Rt}{k:Nat}(h:r.ok)(hk:1<=k)(hn:r.num.length<=k)(hd:r.den.length<=k):Qb (32*k) r.q:=by
 have hB:∀{l:List Nat},Ws l->l.length<=k->val l<2^(32*k):=by
  intro l hw hl;have h1:=b9 l hw;have h2:(4294967296:Nat)=2^32:=by decide
  rw[h2,<- Nat.pow_mul]at h1;exact XS h1 (Nat.pow_le_pow_right oz oz)
 by_cases h0:r.valid=true/\r.num≠[]
 ·obtain⟨h1,h2,h3,h4,h5,h6⟩:=Rt.parts h h0.1 h0.2;refine⟨?_,?_⟩
  ·have : r.q.num.natAbs = val r.num := by rw [h1]; unfold sgn; split <;> omega
   rw[this];exact hB h.1 hn
  ·rw[h2];exact hB h.2.1 hd
 ·rw[Rt.zero h0];exact Qb.zero.mono oz
theorem We{r:Rt}(h0:¬(r.num=[]/\r.den=[])) :
  r.valid=cond (cond (!decide (r.num=[])&&(⟨false,r.num⟩:Wh).valid) (!decide (r.den=[])&&(⟨false,r.den⟩:Wh).valid) false) (aa .eql (gp (Int.gcd r.n0.z r.d0.z) 1) 0) false:=by
 by_cases h1:r.num=[]
 ·unfold Rt.valid;rw[Yk h0,Yl (.inl h1)];simp[h1]
 ·by_cases h2:r.den=[]
  ·unfold Rt.valid;rw[Yk h0,Yl (.inr h2)];simp[h2]
  ·have e1 : aa .eql (r.num.length : Int) 0 = false := by simp [aa, h1]
   have e2:aa .eql (r.den.length:Int) 0=false:=by simp[aa,h2]
   have n0:(⟨false,r.num⟩:Wh)=r.n0:=rfl;have d0:(⟨false,r.den⟩:Wh)=r.d0:=rfl;rw[n0,d0];cases hv:r.n0.valid
   ·rw[BJ h0 (by simp[hv,e1,e2])];simp
   ·cases hw:r.d0.valid
    ·rw[BJ h0 (by simp[hv,hw,e1,e2])];simp
    ·rw[F4 h0 (by simp[hv,hw,e1,e2])];simp[h1,h2]
theorem Con.sA{P:Program}{f:FuncId}{args args':List AV}{H H':Hp}{r:AV}(h:SubL args' args)(hc:Con P f args H r H'):Con P f args' H r H':=by
 refine⟨hc.ok,?_⟩;intro ext m w vs hext hheap hvs hrep;refine hc.ret ext m w vs hext hheap (by rw[hvs,h.len]) (fun j v x hv hx=>?_);obtain⟨y,hy⟩:=it h.len.symm hx;exact h.get j y x hy hx _ _ _ _ (hrep j v y hv hy)
@[reducible] def T:Nat->Type
  |0=>Rat
  |k+1=>T k×T k
namespace T
def zero:(k:Nat)->T k
  |0=>(0:Rat)
  |k+1=>(zero k,zero k)
def ofQ:(k:Nat)->Rat->T k
  |0,q=>q
  |k+1,q=>(ofQ k q,zero k)
def add:(k:Nat)->T k->T k->T k
  |0,x,y=>Rat.add x y
  |k+1,x,y=>(add k x.1 y.1,add k x.2 y.2)
def neg:(k:Nat)->T k->T k
  |0,x=>Rat.neg x
  |k+1,x=>(neg k x.1,neg k x.2)
def mul(r:(k:Nat)->T k):(k:Nat)->T k->T k->T k
  |0,x,y=>Rat.mul x y
  |k+1,x,y=>(add k (mul r k x.1 y.1) (mul r k (mul r k x.2 y.2) (r k)),add k (mul r k x.1 y.2) (mul r k x.2 y.1))
def norm(r:(k:Nat)->T k)(k:Nat)(x:T (k+1)):T k:=add k (mul r k x.1 x.1) (neg k (mul r k (mul r k x.2 x.2) (r k)))
def sgn3(sx sy sd sn:Int):Int:=if sd=0 then sx else if sx=sy\/sy=0 then sx else if sx=0 then sy else sx*sn
def sgn(r:(k:Nat)->T k):(k:Nat)->T k->Int
  |0,x=>bK x
  |k+1,x=>sgn3 (sgn r k x.1) (sgn r k x.2) (sgn r k (r k)) (sgn r k (norm r k x))
theorem add_zero:∀(k:Nat)(x:T k),add k x (zero k)=x
 |0,x=>Rat.add_zero x
 |k+1,x=>by simp only[add,zero,add_zero k]
theorem zero_add:∀(k:Nat)(x:T k),add k (zero k) x=x
 |0,x=>Rat.zero_add x
 |k+1,x=>by simp only[add,zero,zero_add k]
theorem add_comm:∀(k:Nat)(x y:T k),add k x y=add k y x
 |0,x,y=>Rat.add_comm x y
 |k+1,x,y=>by simp only[add,add_comm k x.1,add_comm k x.2]
theorem add_assoc:∀(k:Nat)(x y z:T k),add k (add k x y) z=add k x (add k y z)
 |0,x,y,z=>Rat.add_assoc x y z
 |k+1,x,y,z=>by simp only[add,add_assoc k]
theorem neg_zero:∀(k:Nat),neg k (zero k)=zero k
 |0=>by show -(0:Rat)=0;grind
 |k+1=>by simp only[neg,zero,neg_zero k]
theorem add_neg:∀(k:Nat)(x:T k),add k x (neg k x)=zero k
 |0,x=>by show(x:Rat)+-x=0;grind
 |k+1,x=>by simp only[add,neg,zero,add_neg k]
theorem zero_mul(r:(k:Nat)->T k):∀(k:Nat)(x:T k),mul r k (zero k) x=zero k
 |0,x=>Rat.zero_mul x
 |k+1,x=>by simp only[mul,zero,zero_mul r k,add_zero]
theorem mul_zero(r:(k:Nat)->T k):∀(k:Nat)(x:T k),mul r k x (zero k)=zero k
 |0,x=>Rat.mul_zero x
 |k+1,x=>by
  simp only[mul,zero,mul_zero r k,add_zero]
  have h:mul r k (zero k) (r k)=zero k:=by
   have:=zero_mul r k (r k);exact this
  rw[h];simp only[add_zero]
theorem mul_comm(r:(k:Nat)->T k):∀(k:Nat)(x y:T k),mul r k x y=mul r k y x
 |0,x,y=>Rat.mul_comm x y
 |k+1,x,y=>by
  simp only[mul];rw[mul_comm r k x.1 y.1,mul_comm r k x.2 y.2,mul_comm r k x.1 y.2,mul_comm r k x.2 y.1,add_comm k (mul r k y.2 x.1)]
theorem sgn_zero(r:(k:Nat)->T k):∀k,sgn r k (zero k)=0
 |0=>rfl
 |k+1=>by
  simp only[sgn,zero,sgn_zero r k,sgn3];split
  ·rfl
  ·simp
theorem sgn_low(r:(k:Nat)->T k)(k:Nat)(x:T k):sgn r (k+1) (x,zero k)=sgn r k x:=by
 simp only[sgn,sgn_zero,sgn3];split
 ·rfl
 ·simp
theorem sgnQ_cases(q:Rat):bK q=-1\/bK q=0\/bK q=1:=by
 unfold bK;split
 ·exact .inl rfl
 ·split
  ·exact .inr (.inr rfl)
  ·exact .inr (.inl rfl)
theorem sgn_cases(r:(k:Nat)->T k):∀(k:Nat)(x:T k),sgn r k x=-1\/sgn r k x=0\/sgn r k x=1
 |0,x=>sgnQ_cases x
 |k+1,x=>by
  simp only[sgn,sgn3];have h1:=sgn_cases r k x.1;have h2:=sgn_cases r k x.2;have h4:=sgn_cases r k (norm r k x);split
  ·exact h1
  ·split
   ·exact h1
   ·split
    ·exact h2
    ·rcases h1 with h |h |h <;> rcases h4 with h' |h' |h' <;> rw[h,h'] <;> simp
end T
def ae:(k:Nat)->List Rat->T k
  |0,l=>l.getD 0 0
  |k+1,l=>(ae k (l.take (2^k)),ae k (l.drop (2^k)))
theorem kr{l:List Rat}{n i:Nat}:(l.take n).getD i 0=if i<n then l.getD i 0 else 0:=by
 simp only[Xy,X0];split <;> simp
theorem kz{l:List Rat}{n i:Nat}:(l.drop n).getD i 0=l.getD (n+i) 0:=by
 simp only[Xy,Ya]
theorem ov:∀(k:Nat){a b:List Rat},(∀i,i<2^k->a.getD i 0=b.getD i 0)->ae k a=ae k b
 |0,a,b,h=>h 0 (by decide)
 |k+1,a,b,h=>by
  have h1:=ov k (a:=a.take (2^k)) (b:=b.take (2^k)) (fun i hi=>by rw[kr,kr,Yl hi,Yl hi];exact h i (by rw[Nat.pow_succ];omega));have h2:=ov k (a:=a.drop (2^k)) (b:=b.drop (2^k)) (fun i hi=>by rw[kz,kz];exact h _ (by rw[Nat.pow_succ];omega));simp only[ae,h1,h2]
theorem B3:∀(k:Nat){a b c:List Rat},(∀i,i<2^k->c.getD i 0=a.getD i 0+b.getD i 0)->ae k c=T.add k (ae k a) (ae k b)
 |0,a,b,c,h=>h 0 (by decide)
 |k+1,a,b,c,h=>by
  have h1:=B3 k (a:=a.take (2^k)) (b:=b.take (2^k)) (c:=c.take (2^k)) (fun i hi=>by rw[kr,kr,kr,Yl hi,Yl hi,Yl hi];exact h i (by rw[Nat.pow_succ];omega));have h2:=B3 k (a:=a.drop (2^k)) (b:=b.drop (2^k)) (c:=c.drop (2^k)) (fun i hi=>by rw[kz,kz,kz];exact h _ (by rw[Nat.pow_succ];omega));simp only[ae,T.add,h1,h2]
theorem AP:∀(k:Nat){a c:List Rat},(∀i,i<2^k->c.getD i 0=-a.getD i 0)->ae k c=T.neg k (ae k a)
 |0,a,c,h=>h 0 (by decide)
 |k+1,a,c,h=>by
  have h1:=AP k (a:=a.take (2^k)) (c:=c.take (2^k)) (fun i hi=>by rw[kr,kr,Yl hi,Yl hi];exact h i (by rw[Nat.pow_succ];omega));have h2:=AP k (a:=a.drop (2^k)) (c:=c.drop (2^k)) (fun i hi=>by rw[kz,kz];exact h _ (by rw[Nat.pow_succ];omega));simp only[ae,T.neg,h1,h2]
theorem xk:∀(k:Nat){a:List Rat},(∀i,i<2^k->a.getD i 0=0)->ae k a=T.zero k
 |0,a,h=>h 0 (by decide)
 |k+1,a,h=>by
  have h1:=xk k (a:=a.take (2^k)) (fun i hi=>by rw[kr,Yl hi];exact h i (by rw[Nat.pow_succ];omega));have h2:=xk k (a:=a.drop (2^k)) (fun i hi=>by rw[kz];exact h _ (by rw[Nat.pow_succ];omega));simp only[ae,T.zero,h1,h2]
theorem A8{l:List Rat}{i:Nat}(h:l.length<=i):l.getD i 0=0:=by
 simp[Xy,XN h]
theorem iW(k:Nat):ae k []=T.zero k:=xk k (fun i _=>by simp)
theorem ip{k:Nat}{a:List Rat}(h:a.length<=2^k):ae (k+1) a=(ae k a,T.zero k):=by
 have h1:a.take (2^k)=a:=XR h;have h2:a.drop (2^k)=[]:=X2 h;simp only[ae,h1,h2,iW]
theorem kN(k:Nat)(q:Rat):ae k [q]=T.ofQ k q:=by
 induction k with
 |zero=>rfl
 |succ k ih=>rw[ip (by simp;exact Nat.one_le_two_pow),ih];rfl
def bT(a:List Rat)(n:Nat):List Rat:=a++List.replicate (n-a.length) 0
def dH(a b:List Rat):List Rat:=List.zipWith (·+·) (bT a (max a.length b.length)) (bT b (max a.length b.length))
def ee(a:List Rat):List Rat:=a.map (- ·)
def fy(a b:List Rat)(n:Nat):List Rat:=bT a n++bT b n
def bH(a:List Rat):Bool:=a.all (fun q=>decide (q=0))
theorem fS{a:List Rat}{n:Nat}(h:a.length<=n):(bT a n).length=n:=by simp[bT];omega
theorem fW{a b:List Rat}:(dH a b).length=max a.length b.length:=by
 simp only[dH,List.length_zipWith];rw[fS oz,fS oz];omega
theorem jD{a:List Rat}:(ee a).length=a.length:=by simp[ee]
theorem pP{a b:List Rat}{n:Nat}(h:a.length<=n)(h':b.length<=n):(fy a b n).length=n+n:=by simp[fy,fS h,fS h']
theorem n6{a:List Rat}{n i:Nat}:(bT a n).getD i 0=a.getD i 0:=by
 simp only[bT,Xy]
 by_cases h:i<a.length
 ·rw[XU h]
 ·rw[XT oz,XN (l:=a) oz,X1];split <;> rfl
theorem Fb{a b:List Rat}{i:Nat}:(dH a b).getD i 0=a.getD i 0+b.getD i 0:=by
 by_cases h:i<max a.length b.length
 ·have e:(dH a b).getD i 0=(bT a (max a.length b.length)).getD i 0+(bT b (max a.length b.length)).getD i 0:=by
   have ha:i<(bT a (max a.length b.length)).length:=by rw[fS oz];exact h
   have hb:i<(bT b (max a.length b.length)).length:=by rw[fS oz];exact h
   simp only[dH,Xy,List.getElem?_zipWith,XC ha,XC hb,Option.getD_some]
  rw[e,n6,n6]
 ·rw[A8 (by rw[fW];omega),A8 oz,A8 oz,Rat.add_zero]
theorem Hl{a:List Rat}{i:Nat}:(ee a).getD i 0=-a.getD i 0:=by
 simp only[ee,Xy,XE];cases a[i]? with
 |none=>show(0:Rat)=-0;grind
 |some x=>rfl
theorem Gz{a b:List Rat}{n i:Nat}(h:a.length<=n):(fy a b n).getD i 0=if i<n then a.getD i 0 else b.getD (i-n) 0:=by
 have hl:=fS h;simp only[fy];split
 ·rw[<- n6 (a:=a) (n:=n),Xy,Xy,XU oz]
 ·rw[<- n6 (a:=b) (n:=n),Xy,Xy,XT oz,hl]
theorem qM(k:Nat){a:List Rat}{n:Nat}:ae k (bT a n)=ae k a:=ov k (fun i _=>n6)
theorem kR(k:Nat){a b:List Rat}:ae k (dH a b)=T.add k (ae k a) (ae k b):=B3 k (fun i _=>Fb)
theorem nI(k:Nat){a:List Rat}:ae k (ee a)=T.neg k (ae k a):=AP k (fun i _=>Hl)
theorem xX{k:Nat}{a b:List Rat}(h:a.length<=2^k):ae (k+1) (fy a b (2^k))=(ae k a,ae k b):=by
 have h1:ae k ((fy a b (2^k)).take (2^k))=ae k a:=ov k (fun i hi=>by rw[kr,Yl hi,Gz h,Yl hi]);have h2:ae k ((fy a b (2^k)).drop (2^k))=ae k b:=ov k (fun i hi=>by rw[kz,Gz h,Yk oz];congr 1;omega);simp only[ae,h1,h2]
theorem yx{k:Nat}{a:List Rat}(h:bH a=true):ae k a=T.zero k:=by
 refine xk k (fun i _=>?_);rw[Xy];cases hx:a[i]? with
 |none=>rfl
 |some x =>
  have:=List.all_eq_true.1 h x (Xx hx);simpa using this
def Nl(k:Nat)(a:List Rat):Prop:=a=[]\/∃j,j<=k/\a.length=2^j
theorem Nl.le{k:Nat}{a:List Rat}(h:Nl k a):a.length<=2^k:=by
 rcases h with rfl |⟨j,hj,h⟩
 ·simp
 ·rw[h];exact Nat.pow_le_pow_right oz hj
theorem Nl.mono{k l:Nat}{a:List Rat}(h:Nl k a)(hl:k<=l):Nl l a:=by
 rcases h with h |⟨j,hj,h⟩
 ·exact .inl h
 ·exact .inr ⟨j,by omega,h⟩
def ax(ts:LL)(k:Nat):T k:=ae k (ts.getD k [])
def pT(ts:LL):Nat->List Rat->List Rat->List Rat
  |k,a,b =>
    let x:=if a.length<b.length then b else a
    let y:=if a.length<b.length then a else b
    if bH x||bH y then[]else if x.length=1 then[x.getD 0 0*y.getD 0 0]
    else match k with
      |0=>[]
      |k+1 =>
        if y.length<=x.length/2 then fy (pT ts k (x.take (x.length/2)) y) (pT ts k (x.drop (x.length/2)) y) (x.length/2)
        else fy (dH (pT ts k (x.take (x.length/2)) (y.take (x.length/2))) (pT ts k (pT ts k (x.drop (x.length/2)) (y.drop (x.length/2))) (ts.getD (x.length.log2-1) [])))
          (dH (pT ts k (x.take (x.length/2)) (y.drop (x.length/2))) (pT ts k (x.drop (x.length/2)) (y.take (x.length/2)))) (x.length/2)
theorem T.mul_low(r:(k:Nat)->T k)(k:Nat)(x u:T k):T.mul r (k+1) (x,T.zero k) (u,T.zero k)=(T.mul r k x u,T.zero k):=by
 simp only[T.mul,T.mul_zero,T.zero_mul,T.add_zero]
theorem T.mul_half(r:(k:Nat)->T k)(k:Nat)(x y u:T k):T.mul r (k+1) (x,y) (u,T.zero k)=(T.mul r k x u,T.mul r k y u):=by
 simp only[T.mul,T.mul_zero,T.zero_mul,T.add_zero,T.zero_add]
theorem T.mul_ofQ(r:(k:Nat)->T k):∀(k:Nat)(p q:Rat),T.mul r k (T.ofQ k p) (T.ofQ k q)=T.ofQ k (p*q)
 |0,p,q=>rfl
 |k+1,p,q=>by simp only[T.ofQ];rw[T.mul_low,T.mul_ofQ r k]
theorem Lt:bH []=true:=rfl
theorem Ff(j:Nat):(2^(j+1)).log2-1=j:=by rw[Nat.log2_two_pow];omega
theorem kg{j:Nat}{a:List Rat}(h:a.length=2^(j+1)):(a.take (2^j)).length=2^j:=by
 simp[h,Nat.pow_succ];omega
theorem kt{j:Nat}{a:List Rat}(h:a.length=2^(j+1)):(a.drop (2^j)).length=2^j:=by
 simp[h,Nat.pow_succ];omega
theorem lI(j:Nat):2^(j+1)/2=2^j:=by rw[Nat.pow_succ];omega
theorem AU(ts:LL)(k:Nat)(a b:List Rat)(h:a.length<b.length):pT ts k a b=pT ts k b a:=by
 unfold pT;simp only[Yl h,Yk (show ¬b.length<a.length by omega)]
theorem IP(ts:LL)(Q:Nat->List Rat->List Rat->List Rat->Prop)
  (hcomm:∀j a b c,Q j a b c->Q j b a c)
  (hzero:∀j a b,Nl j a->Nl j b->(bH a=true\/bH b=true)->Q j a b [])
  (hone:∀j p q,Q j [p] [q] [p*q])
  (hup:∀j a b c,Nl j a->Nl j b->Q j a b c->Q (j+1) a b c)
  (hhalf:∀j a b c d,a.length=2^(j+1)->Nl j b->Q j (a.take (2^j)) b c->Q j (a.drop (2^j)) b d->Q (j+1) a b (fy c d (2^j)))
  (hfull:∀j a b c1 c2 c3 c4 c5,a.length=2^(j+1)->b.length=2^(j+1)->Q j (a.take (2^j)) (b.take (2^j)) c1->Q j (a.drop (2^j)) (b.drop (2^j)) c2 ->
   Q j c2 (ts.getD j []) c3->Q j (a.take (2^j)) (b.drop (2^j)) c4->Q j (a.drop (2^j)) (b.take (2^j)) c5->Q (j+1) a b (fy (dH c1 c3) (dH c4 c5) (2^j)))
  (hnl:∀j a b c,Q j a b c->Nl j c) (m:Nat) (hr:∀j,j<m->Nl j (ts.getD j [])) :
  ∀(j k:Nat)(a b:List Rat),j<=m->j<=k->Nl j a->Nl j b->Q j a b (pT ts k a b):=by
 intro j
 induction j with
 |zero =>
  intro k a b _ _ ha hb;have hla:=ha.le;have hlb:=hb.le
  have key:∀a b:List Rat,Nl 0 a->Nl 0 b->¬a.length<b.length->Q 0 a b (pT ts k a b):=by
   intro a b ha hb hlt;have hla:=ha.le;have hlb:=hb.le;unfold pT;simp only[Yk hlt];split
   ·rename_i h;rw[Yf]at h;exact hzero 0 a b ha hb h
   ·rename_i h;simp only [Yf,not_or,Bool.not_eq_true] at h;have h1:a ≠ []:=fun h'=>by rw [h'] at h; cases h.1
    have h2:b≠[]:=fun h'=>by rw[h']at h;cases h.2
    obtain⟨p,rfl⟩:∃p,a=[p]:=List.length_eq_one_iff.1 (by have:=List.length_pos_iff.2 h1;omega);obtain⟨q,rfl⟩:∃q,b=[q]:=List.length_eq_one_iff.1 (by have:=List.length_pos_iff.2 h2;omega);simp only[XK,XM,if_true];exact hone 0 p q
  by_cases hlt:a.length<b.length
  ·rw[AU ts k a b hlt];exact hcomm _ _ _ _ (key b a hb ha oz)
  ·exact key a b ha hb hlt
 |succ j ih =>
  intro k a b hjm hjk ha hb
  have key:∀a b:List Rat,Nl (j+1) a->Nl (j+1) b->¬a.length<b.length->Q (j+1) a b (pT ts k a b):=by
   intro a b ha hb hlt
   by_cases hs:Nl j a
   ·have hbs:Nl j b:=by
     rcases hb with rfl |⟨i,hi,h⟩
     ·exact .inl rfl
     ·by_cases hij:i<=j
      ·exact .inr ⟨i,hij,h⟩
      ·have h1:=hs.le;have h2:2^(j+1)<=2^i:=Nat.pow_le_pow_right oz oz;rw[Nat.pow_succ]at h2;have:=Nat.two_pow_pos j;omega
    exact hup j a b _ hs hbs (ih k a b oz oz hs hbs)
   ·have hal:a.length=2^(j+1):=by
     rcases ha with rfl |⟨i,hi,h⟩
     ·exact absurd (.inl rfl) hs
     ·by_cases hij:i<=j
      ·exact absurd (.inr ⟨i,hij,h⟩) hs
      ·rw[h,show i=j+1 by omega]
    obtain⟨k,rfl⟩:∃k',k=k'+1:=⟨k-1,by omega⟩
    have h2j:=Nat.two_pow_pos j;have hx:Nl j (a.take (2^j)):=.inr ⟨j,XD _,kg hal⟩;have hy:Nl j (a.drop (2^j)):=.inr ⟨j,XD _,kt hal⟩;unfold pT;simp only[Yk hlt];split
    ·rename_i h;rw[Yf]at h;exact hzero _ a b ha hb h
    ·rename_i h;simp only [Yf,not_or,Bool.not_eq_true] at h;rw [Yk (by rw [hal,Nat.pow_succ]; omega)];simp only [hal,lI,Ff];split
     ·rename_i hbl
      have hbs:Nl j b:=by
       rcases hb with rfl |⟨i,hi,h'⟩
       ·exact .inl rfl
       ·by_cases hij:i<=j
        ·exact .inr ⟨i,hij,h'⟩
        ·have h2:2^(j+1)<=2^i:=Nat.pow_le_pow_right oz oz;rw[Nat.pow_succ]at h2;omega
      exact hhalf j a b _ _ hal hbs (ih k _ _ oz oz hx hbs) (ih k _ _ oz oz hy hbs)
     ·rename_i hbl
      have hbl':b.length=2^(j+1):=by
       rcases hb with rfl |⟨i,hi,h'⟩
       ·simp at hbl
       ·by_cases hij:i<=j
        ·have:2^i<=2^j:=Nat.pow_le_pow_right oz hij;omega
        ·rw[h',show i=j+1 by omega]
      have hu:Nl j (b.take (2^j)):=.inr ⟨j,XD _,kg hbl'⟩;have hv:Nl j (b.drop (2^j)):=.inr ⟨j,XD _,kt hbl'⟩;have h2:=ih k _ _ oz oz hy hv;exact hfull j a b _ _ _ _ _ hal hbl' (ih k _ _ oz oz hx hu) h2 (ih k _ _ oz oz (hnl _ _ _ _ h2) (hr j oz)) (ih k _ _ oz oz hx hv) (ih k _ _ oz oz hy hu)
  by_cases hlt:a.length<b.length
  ·rw[AU ts k a b hlt];exact hcomm _ _ _ _ (key b a hb ha oz)
  ·exact key a b ha hb hlt
theorem fY(ts:LL)(m:Nat)(hr:∀j,j<m->Nl j (ts.getD j []))(j k:Nat)(a b:List Rat)(hj:j<=m)(hk:j<=k)(ha:Nl j a)(hb:Nl j b) :
  Nl j (pT ts k a b)/\ae j (pT ts k a b)=T.mul (ax ts) j (ae j a) (ae j b):=by
 refine IP ts (fun j a b c=>Nl j c/\ae j c=T.mul (ax ts) j (ae j a) (ae j b)) ?_ ?_ ?_ ?_ ?_ ?_ (fun _ _ _ _ h=>h.1) m hr j k a b hj hk ha hb
 ·intro j a b c h;exact⟨h.1,by rw[h.2,T.mul_comm]⟩
 ·intro j a b ha hb h;refine⟨.inl rfl,?_⟩;rw[iW];rcases h with h |h
  ·rw[yx h,T.zero_mul]
  ·rw[yx h,T.mul_zero]
 ·intro j p q;exact⟨.inr ⟨0,XJ _,rfl⟩,by rw[kN,kN,kN,T.mul_ofQ]⟩
 ·intro j a b c ha hb h;refine⟨h.1.mono oz,?_⟩;rw[ip ha.le,ip hb.le,ip h.1.le,T.mul_low,h.2]
 ·intro j a b c d ha hb hc hd;refine⟨.inr ⟨j+1,XD _,?_⟩,?_⟩
  ·rw[pP hc.1.le hd.1.le,Nat.pow_succ];omega
  ·rw[xX hc.1.le,ip hb.le,hc.2,hd.2];simp only[ae];rw[T.mul_half]
 ·intro j a b c1 c2 c3 c4 c5 ha hb h1 h2 h3 h4 h5;refine⟨.inr ⟨j+1,XD _,?_⟩,?_⟩
  ·have l1:=h1.1.le;have l3:=h3.1.le;have l4:=h4.1.le;have l5:=h5.1.le;rw[pP (by rw[fW];omega) (by rw[fW];omega),Nat.pow_succ];omega
  ·have l1:=h1.1.le;have l3:=h3.1.le;rw[xX (by rw[fW];omega),kR,kR,h1.2,h3.2,h4.2,h5.2,h2.2];rfl
def fg:Nat->List Rat->List Rat
  |0,a=>if bH a then[]else a
  |j+1,a=>if bH (a.drop (2^j))then fg j (a.take (2^j))else a
def T.isZ:(k:Nat)->T k->Bool
  |0,q=>decide ((q:Rat)=0)
  |k+1,x=>isZ k x.1&&isZ k x.2
theorem T.isZ_iff:∀(k:Nat)(x:T k),T.isZ k x=true↔x=T.zero k
 |0,x=>by simp only[T.isZ,decide_eq_true_eq];rfl
 |k+1,x=>by
  simp only[T.isZ,XF,T.isZ_iff k,T.zero];constructor
  ·intro h;exact Prod.ext h.1 h.2
  ·intro h;rw[h];exact⟨rfl,rfl⟩
def enc:(k:Nat)->T k->List Rat
  |0,q=>[q]
  |k+1,x=>enc k x.1++enc k x.2
def sh:(k:Nat)->T k->List Rat
  |0,q=>if(q:Rat)=0 then[]else[q]
  |k+1,x=>if T.isZ k x.2 then sh k x.1 else enc k x.1++enc k x.2
theorem nF:∀(k:Nat)(x:T k),(enc k x).length=2^k
 |0,x=>rfl
 |k+1,x=>by simp only[enc,XZ,nF k];rw[Nat.pow_succ];omega
theorem wd:∀(k:Nat)(x:T k),ae k (enc k x)=x
 |0,x=>rfl
 |k+1,x=>by
  simp only[enc,ae]
  rw [List.take_append_of_le_length (by rw [nF]; exact XD _), XR (by rw [nF]; exact XD _), List.drop_append_of_le_length (by rw [nF]; exact XD _),
   X2 (by rw[nF];exact XD _),nil_append,wd k,wd k]
theorem qK:∀(k:Nat)(a:List Rat),a.length=2^k->enc k (ae k a)=a
 |0,a,h=>by
  obtain⟨p,rfl⟩:=List.length_eq_one_iff.1 h;rfl
 |k+1,a,h=>by
  simp only[enc,ae];rw[qK k _ (kg h),qK k _ (kt h),List.take_append_drop]
theorem J9{k:Nat}{a:List Rat}(h:a.length<=2^k):bH a=T.isZ k (ae k a):=by
 rw[Bool.eq_iff_iff,T.isZ_iff];constructor
 ·exact yx
 ·intro h0;have h1:enc k (ae k (bT a (2^k)))=bT a (2^k):=qK k _ (fS h);rw[qM,h0]at h1
  have h2:∀k,bH (enc k (T.zero k))=true:=by
   intro k
   induction k with
   |zero=>rfl
   |succ k ih=>simp only[enc,T.zero,bH,List.all_append,XF]at ih ⊢;exact⟨ih,ih⟩
  have h3:=h2 k;rw[h1]at h3;simp only[bH,bT,List.all_append,XF]at h3;exact h3.1
theorem zN:∀(k:Nat){a:List Rat},Nl k a->fg k a=sh k (ae k a)
 |0,a,h=>by
  have hl:=h.le;simp only[fg,sh]
  match a,hl with
  |[],_=>rfl
  |[p],_=>simp[bH,ae]
 |k+1,a,h=>by
  have hl:=h.le;have h1:(a.drop (2^k)).length<=2^k:=by simp;rw[Nat.pow_succ]at hl;omega
  have e1:fg (k+1) a=if bH (a.drop (2^k))=true then fg k (a.take (2^k))else a:=rfl;have e2:∀x y:T k,sh (k+1) (x,y)=if T.isZ k y=true then sh k x else enc k x++enc k y:=fun _ _=>rfl
  rw[e1,show ae (k+1) a=(ae k (a.take (2^k)),ae k (a.drop (2^k)))from rfl,e2,J9 h1]
  by_cases hz:T.isZ k (ae k (a.drop (2^k)))=true
  ·rw[Yl hz,Yl hz];refine zN k ?_;rcases h with rfl |⟨j,hj,h⟩
   ·exact .inl (by simp)
   ·by_cases hjk:j<=k
    ·rw[XR (by rw[h];exact Nat.pow_le_pow_right oz hjk)];exact .inr ⟨j,hjk,h⟩
    ·exact .inr ⟨k,XD _,kg (by rw[h,show j=k+1 by omega])⟩
  ·rw[Yk hz,Yk hz]
   have hlen:a.length=2^(k+1):=by
    rcases h with rfl |⟨j,hj,h⟩
    ·exfalso;apply hz
     rw[List.drop_nil,T.isZ_iff,iW]
    ·by_cases hjk:j<=k
     ·exfalso;apply hz
      rw[X2 (by rw[h];exact Nat.pow_le_pow_right oz hjk),T.isZ_iff,iW]
     ·rw[h,show j=k+1 by omega]
   rw[qK k _ (kg hlen),qK k _ (kt hlen),List.take_append_drop]
theorem eQ:∀(k:Nat)(x:T k),Nl k (sh k x)
 |0,q=>by
  simp only[sh];split
  ·exact .inl rfl
  ·exact .inr ⟨0,XD _,rfl⟩
 |k+1,x=>by
  simp only[sh];split
  ·exact(eQ k x.1).mono oz
  ·exact .inr ⟨k+1,XD _,by rw[XZ,nF,nF,Nat.pow_succ];omega⟩
theorem bg:∀(k:Nat)(x:T k),ae k (sh k x)=x
 |0,q=>by
  simp only[sh];split
  ·rename_i h;exact h.symm
  ·rfl
 |k+1,x=>by
  simp only[sh];split
  ·rename_i h;rw[T.isZ_iff]at h;rw[ip (eQ k x.1).le,bg k,<- h]
  ·exact wd (k+1) x
theorem KY{k:Nat}{x:T (k+1)}(h:T.isZ k x.2=false):(sh (k+1) x).length=2^(k+1):=by
 simp only[sh,h,Bool.false_eq_true,if_false,XZ,nF];rw[Nat.pow_succ];omega
def Cd(D N:Nat)(l:List Rat):Prop:=0<D/\∀q∈l,∃n:Int,q*((D:Int):Rat)=(n:Rat)/\n.natAbs<=N
theorem Cd.mono{D N N':Nat}{l:List Rat}(h:Cd D N l)(hn:N<=N'):Cd D N' l :=
 ⟨h.1,fun q hq=>by obtain⟨n,h1,h2⟩:=h.2 q hq;exact⟨n,h1,by omega⟩⟩
theorem Cd.sub{D N:Nat}{l l':List Rat}(h:Cd D N l)(hs:∀q∈l',q∈l):Cd D N l':=⟨h.1,fun q hq=>h.2 q (hs q hq)⟩
theorem Cd.scale{D N c:Nat}{l:List Rat}(h:Cd D N l)(hc:0<c):Cd (D*c) (N*c) l:=by
 refine⟨Nat.mul_pos h.1 hc,fun q hq=>?_⟩;obtain⟨n,h1,h2⟩:=h.2 q hq;refine⟨n*c,?_,?_⟩
 ·rw[Int.natCast_mul,Rat.intCast_mul,<- Rat.mul_assoc,h1,Rat.intCast_mul]
 ·rw[Int.natAbs_mul,X4];exact XY _ h2
theorem Cd.nil{D N:Nat}(h:0<D):Cd D N []:=⟨h,fun q hq=>by cases hq⟩
theorem Cd.app{D N:Nat}{a b:List Rat}(h:Cd D N a)(h':Cd D N b):Cd D N (a++b) :=
 ⟨h.1,fun q hq=>by rcases List.mem_append.1 hq with hq |hq;exact h.2 q hq;exact h'.2 q hq⟩
theorem Cd.zeros{D N n:Nat}(h:0<D):Cd D N (List.replicate n 0) :=
 ⟨h,fun q hq=>⟨0,by rw[(List.mem_replicate.1 hq).2,Rat.zero_mul];rfl,by simp⟩⟩
theorem Cd.wide{D N n:Nat}{a:List Rat}(h:Cd D N a):Cd D N (bT a n):=h.app (Cd.zeros h.1)
theorem Cd.join{D N n:Nat}{a b:List Rat}(h:Cd D N a)(h':Cd D N b):Cd D N (fy a b n):=h.wide.app h'.wide
theorem Cd.minus{D N:Nat}{a:List Rat}(h:Cd D N a):Cd D N (ee a):=by
 refine⟨h.1,fun q hq=>?_⟩;obtain⟨p,hp,rfl⟩:=List.mem_map.1 hq;obtain⟨n,h1,h2⟩:=h.2 p hp;refine⟨-n,?_,by omega⟩;rw[Rat.intCast_neg,<- h1,Rat.neg_mul]
theorem Cd.plus{D N N':Nat}{a b:List Rat}(h:Cd D N a)(h':Cd D N' b):Cd D (N+N') (dH a b):=by
 refine⟨h.1,fun q hq=>?_⟩;have h1:Cd D N (bT a (max a.length b.length)):=h.wide;have h2:Cd D N' (bT b (max a.length b.length)):=h'.wide;unfold dH at hq;obtain⟨i,hi,rfl⟩:=List.mem_iff_getElem.1 hq;rw[List.getElem_zipWith];obtain⟨n,e1,e2⟩:=h1.2 _ (List.getElem_mem (by simp at hi;omega:i<(bT a (max a.length b.length)).length));obtain⟨m,e3,e4⟩:=h2.2 _ (List.getElem_mem (by simp at hi;omega:i<(bT b (max a.length b.length)).length));refine⟨n+m,?_,by have:=Int.natAbs_add_le n m;omega⟩;rw[Rat.add_mul,e1,e3,Rat.intCast_add]
theorem Cd.mul1{D N D' N':Nat}{p q:Rat}(h:Cd D N [p])(h':Cd D' N' [q]):Cd (D*D') (N*N') [p*q]:=by
 refine⟨Nat.mul_pos h.1 h'.1,fun x hx=>?_⟩;rw[List.mem_singleton.1 hx];obtain⟨n,e1,e2⟩:=h.2 p (by simp);obtain⟨m,e3,e4⟩:=h'.2 q (by simp);refine⟨n*m,?_,by rw[Int.natAbs_mul];exact Nat.mul_le_mul e2 e4⟩;rw[Rat.intCast_mul,<- e1,<- e3,Int.natCast_mul,Rat.intCast_mul];grind
theorem Cd.qb{D N e:Nat}{l:List Rat}(h:Cd D N l)(hD:D<2^e)(hN:N<2^e){q:Rat}(hq:q∈l):Qb e q:=by
 obtain⟨n,h1,h2⟩:=h.2 q hq
 have hD0:((D:Int):Rat)≠0:=by
  intro h0;have:(D:Int)=0:=Rat.intCast_eq_zero_iff.1 h0;have:=h.1;omega
 have hq2:q=Rat.divInt n D:=by
  rw[Rat.divInt_eq_div,<- h1,Rat.mul_div_cancel hD0]
 have h0:=h.1;obtain⟨e1,e2⟩:=vi (n:=n) (d:=(D:Int)) oz;rw[hq2];refine⟨by omega,by rw[X4]at e2;omega⟩
def rR(D:Nat):Nat->Nat
  |0=>1
  |j+1=>rR D j*rR D j*D
def rM(D N:Nat):Nat->Nat
  |0=>1
  |j+1=>2*(rM D N j*rM D N j*(D+N))
theorem l7{D:Nat}(h:0<D):∀j,0<rR D j
 |0=>by simp[rR]
 |j+1=>Nat.mul_pos (Nat.mul_pos (l7 h j) (l7 h j)) h
theorem oL(D N:Nat):∀j,rR D j<=rM D N j
 |0=>XD _
 |j+1=>by
  have h1:=Nat.mul_le_mul (Nat.mul_le_mul (oL D N j) (oL D N j)) (Nat.le_add_right D N);simp only[rR,rM];omega
theorem RP(ts:LL)(m D N:Nat)(hts:∀j,j<m->Nl j (ts.getD j [])/\Cd D N (ts.getD j []))(hD:0<D)(j k:Nat)(a b:List Rat)(hj:j<=m)(hk:j<=k)(ha:Nl j a)(hb:Nl j b)
  {Da Na Db Nb:Nat} (ca:Cd Da Na a) (cb:Cd Db Nb b):Cd (Da*Db*rR D j) (Na*Nb*rM D N j) (pT ts k a b):=by
 have key:=IP ts (fun j a b c=>Nl j c/\(j<=m->∀Da Na Db Nb:Nat,Cd Da Na a->Cd Db Nb b->Cd (Da*Db*rR D j) (Na*Nb*rM D N j) c)) ?_ ?_ ?_ ?_ ?_ ?_ (fun _ _ _ _ h=>h.1) m (fun j hj=>(hts j hj).1) j k a b hj hk ha hb
 ·exact key.2 hj _ _ _ _ ca cb
 ·intro j a b c h;refine⟨h.1,fun hj Da Na Db Nb ca cb=>?_⟩;rw[Nat.mul_comm Da,Nat.mul_comm Na];exact h.2 hj _ _ _ _ cb ca
 ·intro j a b ha hb h;exact⟨.inl rfl,fun hj Da Na Db Nb ca cb=>Cd.nil (Nat.mul_pos (Nat.mul_pos ca.1 cb.1) (l7 hD j))⟩
 ·intro j p q;refine⟨.inr ⟨0,XJ _,rfl⟩,fun hj Da Na Db Nb ca cb=>?_⟩;have h1:=(ca.mul1 cb).scale (l7 hD j);exact h1.mono (XL _ (oL D N j))
 ·intro j a b c ha hb h;refine ⟨h.1.mono oz,fun hj Da Na Db Nb ca cb=>?_⟩;have h1:=(h.2 oz _ _ _ _ ca cb).scale (Nat.mul_pos (l7 hD j) hD);have e1:Da * Db * rR D j * (rR D j * D) = Da * Db * rR D (j + 1):=by simp only [rR]; grind
  rw[e1]at h1;refine h1.mono ?_;have h2:=XL (rM D N j) (Nat.mul_le_mul (oL D N j) (Nat.le_add_right D N));have h3:rM D N j*(rR D j*D)<=rM D N (j+1):=by simp only[rM,Nat.mul_assoc]at *;omega
  rw[Nat.mul_assoc (Na*Nb)];exact XL _ h3
 ·intro j a b c d ha hb hc hd;refine ⟨.inr ⟨j + 1,XD _,by rw [pP hc.1.le hd.1.le,Nat.pow_succ]; omega⟩,fun hj Da Na Db Nb ca cb=>?_⟩;have ca1:Cd Da Na (a.take (2 ^ j)):=ca.sub (fun q hq=>List.mem_of_mem_take hq);have ca2:Cd Da Na (a.drop (2 ^ j)):=ca.sub (fun q hq=>List.mem_of_mem_drop hq);have h1:=((hc.2 oz _ _ _ _ ca1 cb).join (hd.2 oz _ _ _ _ ca2 cb) (n:=2 ^ j)).scale (Nat.mul_pos (l7 hD j) hD);have e1:Da * Db * rR D j * (rR D j * D) = Da * Db * rR D (j + 1):=by simp only [rR]; grind
  rw[e1]at h1;refine h1.mono ?_;have h2:=XL (rM D N j) (Nat.mul_le_mul (oL D N j) (Nat.le_add_right D N));have h3:rM D N j*(rR D j*D)<=rM D N (j+1):=by simp only[rM,Nat.mul_assoc]at *;omega
  rw[Nat.mul_assoc (Na*Nb)];exact XL _ h3
 ·intro j a b c1 c2 c3 c4 c5 ha hb h1 h2 h3 h4 h5;refine⟨.inr ⟨j+1,XD _,?_⟩,fun hj Da Na Db Nb ca cb=>?_⟩
  ·have l1:=h1.1.le;have l3:=h3.1.le;have l4:=h4.1.le;have l5:=h5.1.le;rw[pP (by rw[fW];omega) (by rw[fW];omega),Nat.pow_succ];omega
  have ca1:Cd Da Na (a.take (2^j)):=ca.sub (fun q hq=>List.mem_of_mem_take hq);have ca2:Cd Da Na (a.drop (2^j)):=ca.sub (fun q hq=>List.mem_of_mem_drop hq);have cb1:Cd Db Nb (b.take (2^j)):=cb.sub (fun q hq=>List.mem_of_mem_take hq);have cb2:Cd Db Nb (b.drop (2^j)):=cb.sub (fun q hq=>List.mem_of_mem_drop hq);have k2:=h2.2 oz _ _ _ _ ca2 cb2;have k3:=h3.2 oz _ _ _ _ k2 (hts j oz).2;have k1:=(h1.2 oz _ _ _ _ ca1 cb1).scale (Nat.mul_pos (l7 hD j) hD);have k4:=(h4.2 oz _ _ _ _ ca1 cb2).scale (Nat.mul_pos (l7 hD j) hD);have k5:=(h5.2 oz _ _ _ _ ca2 cb1).scale (Nat.mul_pos (l7 hD j) hD);have e1:Da*Db*rR D j*(rR D j*D)=Da*Db*rR D (j+1):=by simp only[rR];grind
  have e3:Da*Db*rR D j*D*rR D j=Da*Db*rR D (j+1):=by simp only[rR];grind
  rw[e1]at k1 k4 k5;rw[e3]at k3;have b1:rM D N j*(rR D j*D)<=rM D N j*rM D N j*D:=by rw[Nat.mul_assoc];exact XL _ (XY _ (oL D N j))
  have b2:∀x,Na*Nb*rM D N j*(rR D j*D)+Na*Nb*x<=Na*Nb*(rM D N j*rM D N j*D+x):=by
   intro x;rw[Nat.mul_add,Nat.mul_assoc (Na*Nb)];exact Nat.add_le_add_right (XL _ b1) _
  refine Cd.join (Cd.mono (k1.plus k3) ?_) (Cd.mono (k4.plus k5) ?_)
  ·have e4 : Na * Nb * rM D N j * N * rM D N j = Na * Nb * (rM D N j * rM D N j * N) := by grind
   rw[e4];refine XW (b2 _) (XL _ ?_);simp only[rM];rw[<- Nat.mul_add];omega
  ·have e4 : Na * Nb * rM D N j * (rR D j * D) <= Na * Nb * (rM D N j * rM D N j * D) := by rw [Nat.mul_assoc (Na * Nb)]; exact XL _ b1
   refine XW (Nat.add_le_add e4 e4) ?_;rw[<- Nat.mul_add];refine XL _ ?_;simp only[rM];have:=XL (rM D N j*rM D N j) (Nat.le_add_right D N);omega
def eB(r:Nat):Nat->Nat
  |0=>0
  |j+1=>2*eB r j+r+2
theorem zK{D N r:Nat}(hD:D<=2^r)(hN:N<=2^r):∀j,rM D N j<=2^eB r j
 |0=>XD _
 |j+1=>by
  have h1:=zK hD hN j;have h2:=Nat.mul_le_mul (Nat.mul_le_mul h1 h1) (Nat.add_le_add hD hN);simp only[rM,eB]
  have e:2^(2*eB r j+r+2)=2*(2^eB r j*2^eB r j*(2^r+2^r)):=by
   rw[Yb,Yb,Nat.two_mul,Yb];grind
  rw[e];exact XL _ h2
def Cb(e:Nat)(l:List Rat):Prop:=∃D N,Cd D N l/\D<=2^e/\N<=2^e
def RB(r:Nat)(ts:LL):Prop:=∃D N,0<D/\(∀d∈ts,Cd D N d)/\D<=2^r/\N<=2^r
theorem cM{a b:Nat}(h:a<=b):2^a<=2^b:=Nat.pow_le_pow_right oz h
theorem Cb.mono{e f:Nat}{l:List Rat}(h:Cb e l)(hf:e<=f):Cb f l:=by
 obtain⟨D,N,h1,h2,h3⟩:=h;exact⟨D,N,h1,XW h2 (cM hf),XW h3 (cM hf)⟩
theorem Cb.sub{e:Nat}{l l':List Rat}(h:Cb e l)(hs:∀q∈l',q∈l):Cb e l':=by
 obtain⟨D,N,h1,h2,h3⟩:=h;exact⟨D,N,h1.sub hs,h2,h3⟩
theorem Cb.take{e n:Nat}{l:List Rat}(h:Cb e l):Cb e (l.take n):=h.sub (fun q hq=>List.mem_of_mem_take hq)
theorem Cb.drop{e n:Nat}{l:List Rat}(h:Cb e l):Cb e (l.drop n):=h.sub (fun q hq=>List.mem_of_mem_drop hq)
theorem Cb.nil:Cb 0 []:=⟨1,1,Cd.nil oz,by simp,by simp⟩
theorem Cb.wide{e n:Nat}{a:List Rat}(h:Cb e a):Cb e (bT a n):=by
 obtain⟨D,N,h1,h2,h3⟩:=h;exact⟨D,N,h1.wide,h2,h3⟩
theorem Cb.minus{e:Nat}{a:List Rat}(h:Cb e a):Cb e (ee a):=by
 obtain⟨D,N,h1,h2,h3⟩:=h;exact⟨D,N,h1.minus,h2,h3⟩
theorem Cb.plus{e f:Nat}{a b:List Rat}(h:Cb e a)(h':Cb f b):Cb (e+f+1) (dH a b):=by
 obtain⟨D,N,h1,h2,h3⟩:=h;obtain⟨D',N',h4,h5,h6⟩:=h';have k1:=h1.scale h4.1;have k2:=h4.scale h1.1;rw[Nat.mul_comm D']at k2;refine⟨_,_,k1.plus k2,?_,?_⟩
 ·rw[Nat.pow_succ,Yb];have:=Nat.mul_le_mul h2 h5;omega
 ·rw[Nat.pow_succ,Yb];have e1:=Nat.mul_le_mul h3 h5;have e2:=Nat.mul_le_mul h6 h2;rw[Nat.mul_comm (2^f)]at e2;omega
theorem Cb.qb{e:Nat}{l:List Rat}(h:Cb e l){q:Rat}(hq:q∈l):Qb (e+1) q:=by
 obtain⟨D,N,h1,h2,h3⟩:=h;have:=Nat.two_pow_pos e;exact h1.qb (by rw[Nat.pow_succ];omega) (by rw[Nat.pow_succ];omega) hq
theorem Cb.qs{e:Nat}{l:List Rat}(h:Cb e l)(he:e<4398046511104){q:Rat}(hq:q∈l):Qs q:=(h.qb hq).qs he
def kS(ts:LL)(m r:Nat):Prop:=(∀j,j<m->Nl j (ts.getD j []))/\RB r ts
theorem RB.get{r:Nat}{ts:LL}(h:RB r ts):∃D N,0<D/\(∀j,Cd D N (ts.getD j []))/\D<=2^r/\N<=2^r:=by
 obtain⟨D,N,h0,h1,h2,h3⟩:=h;refine⟨D,N,h0,fun j=>?_,h2,h3⟩;rw[Xy];cases hx:ts[j]? with
 |none=>exact Cd.nil h0
 |some d=>exact h1 d (Xx hx)
theorem RB.cb{r:Nat}{ts:LL}(h:RB r ts)(j:Nat):Cb r (ts.getD j []):=by
 obtain⟨D,N,h0,h1,h2,h3⟩:=h.get;exact⟨D,N,h1 j,h2,h3⟩
theorem Cb.mul{ts:LL}{m r:Nat}(ht:kS ts m r){j k e f:Nat}{a b:List Rat}(hj:j<=m)(hk:j<=k)(ha:Nl j a)(hb:Nl j b)(ca:Cb e a)(cb:Cb f b) :
  Cb (e+f+eB r j) (pT ts k a b):=by
 obtain⟨D,N,h0,h1,h2,h3⟩:=ht.2.get;obtain⟨Da,Na,a1,a2,a3⟩:=ca;obtain⟨Db,Nb,b1,b2,b3⟩:=cb;refine⟨_,_,RP ts m D N (fun j hj=>⟨ht.1 j hj,h1 j⟩) h0 j k a b hj hk ha hb a1 b1,?_,?_⟩
 ·rw[Yb,Yb];exact Nat.mul_le_mul (Nat.mul_le_mul a2 b2) (XW (oL D N j) (zK h2 h3 j))
 ·rw[Yb,Yb];exact Nat.mul_le_mul (Nat.mul_le_mul a3 b3) (zK h2 h3 j)
theorem Fh(r:Nat):∀j,eB r j<=eB r (j+1):=fun j=>by simp only[eB];omega
def sB(r:Nat):Nat->Nat->Nat
  |0,e=>e
  |j+1,e=>sB r j (4*e+3*eB r j+r+1)
theorem uq(r:Nat):∀j e,e<=sB r j e
 |0,e=>XD _
 |j+1,e=>by have:=uq r j (4*e+3*eB r j+r+1);simp only[sB];omega
theorem ut(r:Nat):∀j {e f:Nat},e<=f->sB r j e<=sB r j f
 |0,e,f,h=>h
 |j+1,e,f,h=>by simp only[sB];exact ut r j oz
theorem Tc(r j e:Nat):sB r j e<=sB r (j+1) e:=by simp only[sB];exact ut r j oz
theorem wj(r e:Nat){i j:Nat}(h:i<=j):sB r i e<=sB r j e:=by
  induction j with
  | zero => have : i = 0 := by omega
            subst this;exact XD _
  |succ j ih =>
    by_cases hij:i=j+1
    · rw[hij];exact XD _
    · exact XW (ih oz) (Tc r j e)
theorem Xl(r e:Nat){j:Nat}(h:j<=2):sB r j e<=16*e+17*r+29:=by
 refine XW (wj r e h) ?_;simp only[sB,eB];omega
theorem LK(r e:Nat){j:Nat}(h:j<=3):sB r j e<=64*e+177*r+333:=by
 refine XW (wj r e h) ?_;simp only[sB,eB];omega
def lm(n:Nat):Nat:=if n<=2 then 200000000000 else 50000000000
theorem lJ(n:Nat):lm n<=200000000000:=by unfold lm;split <;> omega
theorem kE(n:Nat):50000000000<=lm n:=by unfold lm;split <;> omega
theorem Vl(r:Nat){j:Nat}(h:j<=5):eB r j<=31*(r+2):=by
 have:∀i,eB r i<=eB r (i+1):=Fh r
 have h5:eB r j<=eB r 5:=by
  match j,h with
  |0,_=>simp only[eB];omega
  |1,_=>simp only[eB];omega
  |2,_=>simp only[eB];omega
  |3,_=>simp only[eB];omega
  |4,_=>simp only[eB];omega
  |5,_=>exact XD _
 refine XW h5 ?_;simp only[eB];omega
def nA(l:List Rat):AV:=.lst 3 (l.map qA)
def nR(l:List Rt):AV:=.lst 3 (l.map Rt.av)
def aY(ts:LL):AV:=.agg [.lst 1 (ts.map nA)]
def dI(ts:List (List Rt)):AV:=.agg [.lst 1 (ts.map nR)]
def pU(n:Nat):Nat:=if n<=1 then 0 else(n-1).log2+1
theorem EU{n k:Nat}(h1:∀j,j<k->2^j<n)(h2:n<=2^k):pU n=k:=by
 unfold pU;split
 ·rename_i h;cases k with
  |zero=>rfl
  |succ k=>have:=h1 0 oz;omega
 ·rename_i h;cases k with
  |zero=>simp at h2;omega
  |succ k =>
   have h3:=h1 k oz;congr 1;rw[Nat.log2_eq_iff oz];omega
def fE(n:Nat):Int:=if 2^pU n=n then(pU n:Int)else -1
theorem RY(j:Nat):pU (2^j)=j:=EU (fun i hi=>Nat.pow_lt_pow_right oz hi) (XD _)
theorem tY(j:Nat):fE (2^j)=j:=by unfold fE;rw[RY,Yl rfl]
theorem Np{n:Nat}(h:0<=fE n):∃j:Nat,n=2^j/\fE n=(j:Int):=by
 unfold fE at h ⊢;split at h
 ·rename_i h1;exact⟨pU n,h1.symm,by rw[Yl h1]⟩
 ·omega
theorem rW{k:Nat}(hk:k<=62):IntKind.i64.wrap ((1:Int)*2^(min (k:Int).toNat IntKind.i64.bits))=((2^k:Nat):Int):=by
 have h1:min (k:Int).toNat IntKind.i64.bits=k:=by simp[IntKind.bits];omega
 have h2:2^k<=2^62:=cM hk;have h3:(2:Nat)^62=4611686018427387904:=by decide
 have h4:((2:Int)^k)=((2^k:Nat):Int):=by simp
 rw[h1,Int.one_mul,h4];generalize 2^k=x at *;exact i64_in oz
def cG(m:Nat)(a:List Rt):Nat:=if a≠[]/\(fE a.length<0\/(m:Int)<fE a.length)then 10 else if a.all Rt.valid then 0 else 2
theorem yG{m:Nat}{a:List Rt}(h:cG m a=0)(hok:∀r∈a,r.ok):a=(a.map Rt.q).map rt/\Nl m (a.map Rt.q):=by
 unfold cG at h;split at h
 ·cases h
 ·rename_i h1;split at h
  ·rename_i h2;rw[X9]at h2;refine⟨?_,?_⟩
   ·rw[map_map];refine(map_id _).symm.trans ?_;exact List.map_congr_left (fun r hr=>Rt.eq_rt (hok r hr) (h2 r hr))
   ·by_cases h0:a=[]
    ·subst h0;exact .inl rfl
    ·have h3:0<=fE a.length/\fE a.length<=m:=by
      constructor
      ·exact Int.not_lt.1 (fun h=>h1 ⟨h0,.inl h⟩)
      ·exact Int.not_lt.1 (fun h=>h1 ⟨h0,.inr h⟩)
     obtain⟨j,e1,e2⟩:=Np h3.1;exact .inr ⟨j,by omega,by rw[XA,e1]⟩
  ·cases h
theorem eZ(l:List Rat):nR (l.map rt)=nA l:=by
 unfold nR nA;rw[map_map];rfl
theorem Nl.len5{k:Nat}{a:List Rat}(h:Nl k a)(hk:k<=5):a.length<=32:=XW h.le (cM (b:=5) hk)
theorem qZ:kC (.agg [.v (.bool false),.v (.slice none 0 0),.v (.slice none 0 0)]) (qA 0):=by
 refine⟨rfl,?_⟩;intro j x y hx hy
 match j,hx,hy with
 |0,hx,hy=>cases hx;cases hy;exact⟨rfl,.refl _⟩
 |1,hx,hy=>cases hx;cases hy;exact⟨rfl,.nil _ _ _⟩
 |2,hx,hy=>cases hx;cases hy;exact⟨rfl,.nil _ _ _⟩
theorem kC.refl{e:AV}(h:∀c∈e.cells,c.one=true):kC e e :=
 ⟨rfl,fun j x y hx hy=>by rw[hx]at hy;cases hy;exact⟨h x (Xx hx),.refl _⟩⟩
theorem F6(q:Rat):∀c∈(qA q).cells,c.one=true:=by
 intro c hc;have:c=bl (rt q).neg\/c=ws (rt q).num\/c=ws (rt q).den:=by simpa[qA,Rt.av,AV.cells]using hc
 rcases this with rfl |rfl |rfl <;> rfl
theorem Gg(a:List Rat)(n:Nat)(h:a.length<=n) :
  BlkSub (.row 3 (a.map qA++(List.replicate n (.agg [.v (.bool false),.v (.slice none 0 0),.v (.slice none 0 0)])).drop (a.map qA).length)) (.row 3 ((bT a n).map qA)):=by
 refine .row ?_ ?_
 ·simp only[bT,XZ,XA,List.length_drop,X5]
 ·intro i e e' he he'
  by_cases hi:i<a.length
  ·rw[XU (by simpa using hi)]at he;simp only[bT,XQ]at he';rw[XU (by simpa using hi),he]at he';cases he';simp only[XE,XB]at he;obtain⟨q,_,rfl⟩:=he;exact kC.refl (F6 q)
  ·rw [XT (by simpa using hi), List.drop_replicate, X1] at he;simp only [bT,XQ] at he';rw [XT (by simpa using hi),Yc,X1] at he';split at he
   ·cases he;split at he'
    ·cases he';exact qZ
    ·cases he'
   ·cases he
theorem Ee{p w:List Rat}{i:Nat}{s:Rat}(hl:p.length=w.length)(hi:i<p.length)(hs:p[i]=s) :
  ((p.take i++w.drop i).map qA).set i (qA s)=(p.take (i+1)++w.drop (i+1)).map qA:=by
 rw[<- Yg];congr 1;subst hs;rw[List.set_append_right i _ (by simp;omega)];have h1:i-(p.take i).length=0:=by simp;omega
 rw[h1,List.drop_eq_getElem_cons oz,List.set_cons_zero,List.take_succ_eq_append_getElem hi,Ye];rfl
theorem MI{a b:List Rat}{i:Nat}(hi:i<(dH a b).length) :
  (dH a b)[i]=(bT a (max a.length b.length)).getD i 0+(bT b (max a.length b.length)).getD i 0:=by
 have h:=Fb (a:=a) (b:=b) (i:=i);rw[Xy,XC hi,Option.getD_some]at h;rw[h,n6,n6]
theorem getD_some{l:List Rat}{i:Nat}(h:i<l.length):l[i]?=some (l.getD i 0):=by
 rw[Xy,XC h];rfl
theorem yN{l:List Rat}{i:Nat}(h:i<l.length):l.getD i 0∈l:=by
 rw[Xy,XC h];exact List.getElem_mem h
theorem El{p w:List Rat}{i:Nat}(hl:p.length=w.length)(hi:i<p.length):(p.take i++w.drop i)[i]?=some (w.getD i 0):=by
 rw[XT (by simp;omega),Ya];have:i+(i-(p.take i).length)=i:=by simp;omega
 rw[this];exact getD_some oz
theorem dR{α:Type}{l:List α}{i:Nat}{x:α}(h:l[i]?=some x):l.take (i+1)=l.take i++[x]:=by
 obtain⟨hi,rfl⟩:=List.getElem?_eq_some_iff.1 h;exact List.take_succ_eq_append_getElem hi
theorem qL{q:Rat}(h:bK q=0):q=0:=by
 unfold bK at h;split at h
 ·cases h
 ·split at h
  ·cases h
  ·grind
theorem PM:rt 0=⟨false,[],[]⟩:=rfl
theorem UP{q:Rat}(h:cond (cond (rt q).neg true (aa .gtr ((rt q).num.length:Int) 0)) true (aa .gtr ((rt q).den.length:Int) 0)=true):q≠0:=by
 intro h0;rw[h0,PM]at h;cases h
theorem MY{q:Rat}(h:cond (cond (rt q).neg true (aa .gtr ((rt q).num.length:Int) 0)) true (aa .gtr ((rt q).den.length:Int) 0)=false):q=0:=by
 cases hn:(rt q).neg
 ·rw[hn]at h;cases hm:aa .gtr ((rt q).num.length:Int) 0
  ·have h1:(rt q).num=[]:=by
    cases hl:(rt q).num with
    |nil=>rfl
    |cons x l=>rw[hl]at hm;simp[aa]at hm
   rw[<- bV q];exact Rt.zero (fun h=>h.2 h1)
  ·rw[hm]at h;cases h
 ·rw[hn]at h;cases h
theorem nU{n:Nat}(h:n<=281474976710656):IntKind.i64.wrap ((n:Int).tdiv 2)=((n/2:Nat):Int):=by
 rw[show((n:Int).tdiv 2)=((n/2:Nat):Int)from(Int.ofNat_tdiv n 2).symm];exact i64_in oz
theorem Cl{m j:Nat}{a:List Rat}(h:a.length<=2^j)(hj:j<=m):fg m a=fg j a:=by
  induction m with
  | zero => have : j = 0 := by omega
            subst this;rfl
  |succ m ih =>
    by_cases hjm:j=m+1
    · rw[hjm]
    · have h1:a.length<=2^m:=XW h (cM oz)
      have h2:fg (m+1) a=if bH (a.drop (2^m))=true then fg m (a.take (2^m))else a:=rfl;rw[h2,X2 h1,Yl Lt,XR h1];exact ih oz
def mG(a:List Rat)(n:Nat):Prop:=(n=0/\a=[])\/∃i,n=2^i/\i<=5/\n<=a.length/\fg 5 a=fg i (a.take n)
theorem Xk{a:List Rat}(h:Nl 5 a):mG a a.length:=by
 rcases h with rfl |⟨j,hj,h⟩
 ·exact .inl ⟨rfl,rfl⟩
 ·exact .inr ⟨j,h,hj,XD _,by rw[XP];exact Cl oz hj⟩
theorem Fu{a:List Rat}{i:Nat}:(a.drop (2^i)).take (2^(i+1)-2^i)=(a.take (2^(i+1))).drop (2^i):=by
 rw[List.drop_take]
theorem S6{a:List Rat}{n:Nat}(h:mG a n)(h1:1<n)(hz:bH ((a.drop (n/2)).take (n-n/2))=true):mG a (n/2):=by
 rcases h with⟨h,_⟩ |⟨i,rfl,hi,hl,hs⟩
 ·omega
 ·cases i with
  |zero=>simp at h1
  |succ i =>
   rw[lI]at hz ⊢;rw[Fu]at hz;have h2:fg (i+1) (a.take (2^(i+1)))=if bH ((a.take (2^(i+1))).drop (2^i))=true then fg i ((a.take (2^(i+1))).take (2^i))else a.take (2^(i+1)):=rfl;rw[h2,Yl hz,List.take_take,Nat.min_eq_left (cM oz)]at hs;exact .inr ⟨i,rfl,by omega,XW (cM oz) hl,hs⟩
theorem Ry{a:List Rat}(h:mG a 1)(hz:bH (a.take 1)=true):fg 5 a=[]:=by
 rcases h with⟨h,_⟩ |⟨i,h0,hi,hl,hs⟩
 ·omega
 ·have:i=0:=by
   cases i with
   |zero=>rfl
   |succ i=>rw[Nat.pow_succ]at h0;omega
  subst this;rw[hs];show(if bH (a.take 1)=true then[]else _)=_;rw[Yl hz]
theorem PI{a:List Rat}{n:Nat}(h:mG a n)(h1:1<n->bH ((a.drop (n/2)).take (n-n/2))=false)(h2:n=1->bH (a.take 1)=false):fg 5 a=a.take n:=by
 rcases h with⟨rfl,rfl⟩ |⟨i,rfl,hi,hl,hs⟩
 ·rfl
 ·cases i with
  |zero =>
   rw[hs];show(if bH (a.take 1)=true then[]else _)=_;rw[h2 rfl];rfl
  |succ i =>
   have h3:=h1 (by have:=Nat.two_pow_pos i;rw[Nat.pow_succ];omega);rw[lI,Fu]at h3;rw[hs];have h4:fg (i+1) (a.take (2^(i+1)))=if bH ((a.take (2^(i+1))).drop (2^i))=true then fg i ((a.take (2^(i+1))).take (2^i))else a.take (2^(i+1)):=rfl;rw[h4,h3];rfl
theorem mG.le{a:List Rat}{n:Nat}(h:mG a n):n<=a.length:=by
 rcases h with⟨rfl,rfl⟩ |⟨i,rfl,hi,hl,hs⟩
 ·exact XD _
 ·exact hl
theorem yz(a:List Rat)(l m:Nat):AV.lst 3 (((a.map qA).drop l).take m)=nA ((a.drop l).take m):=by
 unfold nA;rw[map_take,List.map_drop]
theorem O0{n:Nat}{a:List Rat}(h:Nl n a)(hn:n<=5):fg 5 a=sh n (ae n a):=by
 rw[Cl h.le hn,zN n h]
theorem BlkSub.of_{x y z:Blk}(h:BlkSub x y)(e:z=x):BlkSub z y:=e▸h
theorem Oa{a:List Rat}{i:Nat}(hi:i<(ee a).length):(ee a)[i]=-(a.getD i 0):=by
 have h:=Hl (a:=a) (i:=i);rw[Xy,XC hi,Option.getD_some]at h;exact h
theorem Tu{ts:LL}{k:Nat}{x y:List Rat}(hl:y.length<=x.length)(h:bH x=true\/bH y=true):pT ts k x y=[]:=by
 unfold pT;simp only[Yk (show ¬x.length<y.length by omega)];rw[Yl (by rw[Yf];exact h)]
theorem On{ts:LL}{k:Nat}{p q:Rat}(h:¬(bH [p]=true\/bH [q]=true)):pT ts k [p] [q]=[p*q]:=by
 unfold pT;simp only[XK,XM,Nat.lt_irrefl,if_false];rw[Yk (by rw[Yf];exact h)];simp
theorem Ur{ts:LL}{k i:Nat}{x y:List Rat}(hx:x.length=2^(i+1))(hl:y.length<=2^i)(h:¬(bH x=true\/bH y=true)) :
  pT ts (k+1) x y=fy (pT ts k (x.take (2^i)) y) (pT ts k (x.drop (2^i)) y) (2^i):=by
 have h2:=Nat.two_pow_pos i;have hlt:¬x.length<y.length:=by rw[hx,Nat.pow_succ];omega
 conv=>lhs;unfold pT
 simp only[Yk hlt];rw[Yk (by rw[Yf];exact h),Yk (by rw[hx,Nat.pow_succ];omega)];simp only[hx,lI];rw[Yl hl]
theorem NB{ts:LL}{k i:Nat}{x y:List Rat}(hx:x.length=2^(i+1))(hl:¬y.length<=2^i)(hyx:y.length<=x.length)(h:¬(bH x=true\/bH y=true)) :
  pT ts (k+1) x y=fy (dH (pT ts k (x.take (2^i)) (y.take (2^i))) (pT ts k (pT ts k (x.drop (2^i)) (y.drop (2^i))) (ts.getD i [])))
   (dH (pT ts k (x.take (2^i)) (y.drop (2^i))) (pT ts k (x.drop (2^i)) (y.take (2^i)))) (2^i):=by
 conv=>lhs;unfold pT
 simp only[Yk (show ¬x.length<y.length by omega)];have h2:=Nat.two_pow_pos i;rw[Yk (by rw[Yf];exact h),Yk (by rw[hx,Nat.pow_succ];omega)];simp only[hx,lI,Ff];rw[Yk hl]
theorem ig(r:Nat){i j:Nat}(h:i<=j):eB r i<=eB r j:=by
  induction j with
  | zero => have : i = 0 := by omega
            subst this;exact XD _
  |succ j ih =>
    by_cases hij:i=j+1
    · rw[hij];exact XD _
    · exact XW (ih oz) (Fh r j)
theorem Ad{j:Nat}{x:List Rat}(h:Nl j x):x.length=0\/x.length=1\/∃i,i+1<=j/\x.length=2^(i+1):=by
 rcases h with rfl |⟨i,hi,h⟩
 ·exact .inl rfl
 ·cases i with
  |zero=>exact .inr (.inl h)
  |succ i=>exact .inr (.inr ⟨i,hi,h⟩)
theorem QB{j i:Nat}{x:List Rat}(h:Nl j x)(hl:x.length<=2^i):Nl i x:=by
 rcases h with rfl |⟨l,hl',h⟩
 ·exact .inl rfl
 ·refine .inr ⟨l,?_,h⟩;rcases XH i l with h1 |h1
  ·have:=Nat.pow_lt_pow_right (a:=2) oz h1;omega
  ·exact h1
theorem S0{j i:Nat}{x:List Rat}(h:Nl j x)(hl:¬x.length<=2^i)(hu:x.length<=2^(i+1)):x.length=2^(i+1):=by
 rcases h with rfl |⟨l,hl',h⟩
 ·simp at hl
 ·rcases XH i l with h1 |h1
  ·rcases XH (i+1) l with h2 |h2
   ·have:=Nat.pow_lt_pow_right (a:=2) oz h2;omega
   ·rw[h,show l=i+1 by omega]
  ·have:=cM h1;omega
theorem z7{ts:LL}{j:Nat}(h:j<ts.length):(ts.map nA)[j]?=some (nA (ts.getD j [])):=by
 rw[XE,Xy,XC h];rfl
theorem qY(x:List Rat)(n:Nat):AV.lst 3 (((x.map qA).drop 0).take (n-0))=nA (x.take n):=by
 rw[Nat.sub_zero,Yh,<- map_take];rfl
theorem tD(x:List Rat)(n:Nat):AV.lst 3 (((x.map qA).drop n).take ((x.map qA).length-n))=nA (x.drop n):=by
 rw[<- List.map_drop,XR (by simp)];rfl
def ii(ts:LL)(i:Nat)(a:List Rat):List Rat :=
  dH (pT ts i (a.take (2^i)) (a.take (2^i))) (ee (pT ts i (pT ts i (a.drop (2^i)) (a.drop (2^i))) (ts.getD i [])))
theorem vj{ts:LL}{m r:Nat}(ht:kS ts m r){i e:Nat}{a:List Rat}(hi:i+1<=m)(ha:a.length=2^(i+1))(ca:Cb e a) :
  Nl i (ii ts i a)/\ae i (ii ts i a)=T.norm (ax ts) i (ae (i+1) a)/\Cb (4*e+3*eB r i+r+1) (ii ts i a):=by
 have n1:Nl i (a.take (2^i)):=.inr ⟨i,XD _,kg ha⟩;have n2:Nl i (a.drop (2^i)):=.inr ⟨i,XD _,kt ha⟩;have s1:=fY ts m ht.1 i i _ _ oz oz n1 n1;have s2:=fY ts m ht.1 i i _ _ oz oz n2 n2;have s3:=fY ts m ht.1 i i _ _ oz oz s2.1 (ht.1 i oz);have c1:=Cb.mul ht (k:=i) (show i<=m by omega) oz n1 n1 ca.take ca.take;have c2:=Cb.mul ht (k:=i) (show i<=m by omega) oz n2 n2 ca.drop ca.drop;have c3:=Cb.mul ht (k:=i) (show i<=m by omega) oz s2.1 (ht.1 i oz) c2 (ht.2.cb i);refine⟨?_,?_,?_⟩
 ·have l1:=s1.1.le;have l3:=s3.1.le;rcases s1.1 with h1 |⟨j1,hj1,h1⟩ <;> rcases s3.1 with h3 |⟨j3,hj3,h3⟩
  ·refine .inl ?_;apply List.eq_nil_of_length_eq_zero;unfold ii;rw[fW,jD,h1,h3];rfl
  ·refine .inr ⟨j3,hj3,?_⟩;unfold ii;rw[fW,jD,h1,h3];simp
  ·refine .inr ⟨j1,hj1,?_⟩;unfold ii;rw[fW,jD,h1,h3];simp
  ·refine .inr ⟨max j1 j3, by omega, ?_⟩;unfold ii;rw [fW,jD,h1,h3];rcases Nat.le_total j1 j3 with h | h
   ·rw[Nat.max_eq_right h,Nat.max_eq_right (cM h)]
   ·rw[Nat.max_eq_left h,Nat.max_eq_left (cM h)]
 ·unfold ii T.norm;rw[kR,nI,s1.2,s3.2,s2.2];rfl
 ·exact(c1.plus c3.minus).mono oz
theorem T.sgn_ofQ(r:(k:Nat)->T k):∀(k:Nat)(q:Rat),T.sgn r k (T.ofQ k q)=bK q
 |0,q=>rfl
 |k+1,q=>by simp only[T.ofQ];rw[T.sgn_low,T.sgn_ofQ r k]
theorem xm(r:(k:Nat)->T k){i j:Nat}{a:List Rat}(h:a.length<=2^i)(hij:i<=j):T.sgn r j (ae j a)=T.sgn r i (ae i a):=by
  induction j with
  | zero => have : i = 0 := by omega
            subst this;rfl
  |succ j ih =>
    by_cases h':i=j+1
    · rw[h']
    · rw[ip (XW h (cM oz)),T.sgn_low]
      exact ih oz
theorem Em:∀(k:Nat){a:List Rat}{q:Rat},q∈fg k a->q∈a
 |0,a,q,h=>by
  have e:fg 0 a=if bH a=true then[]else a:=rfl;rw[e]at h;split at h
  ·cases h
  ·exact h
 |k+1,a,q,h=>by
  have e:fg (k+1) a=if bH (a.drop (2^k))=true then fg k (a.take (2^k))else a:=rfl;rw[e]at h;split at h
  ·exact List.mem_of_mem_take (Em k h)
  ·exact h
theorem Cb.sh{e k:Nat}{a:List Rat}(h:Cb e a)(hn:Nl k a):Cb e (sh k (ae k a)):=by
 rw[<- zN k hn];exact Cb.sub h (fun q hq=>Em k hq)
theorem UN{x y:Int}(hx:x=-1\/x=0\/x=1)(hy:y=-1\/y=0\/y=1):IntKind.i64.wrap (fN .mul x y)=x*y:=by
 apply Bh;rcases hx with rfl |rfl |rfl <;> rcases hy with rfl |rfl |rfl <;> simp
theorem RN{x y z w:Int}(h:cond (aa .eql x y) true (aa .eql z w)=true):x=y\/z=w:=by
 cases hx:aa .eql x y
 ·rw[hx]at h;exact .inr (by simpa[aa]using h)
 ·exact .inl (by simpa[aa]using hx)
theorem U1{x y z w:Int}(h:cond (aa .eql x y) true (aa .eql z w)=false):¬(x=y\/z=w):=by
 cases hx:aa .eql x y
 ·rw [hx] at h;have h1:x ≠ y:=by simpa [aa] using hx
  have h2:z≠w:=by simpa[aa]using h
  exact fun h=>h.elim h1 h2
 ·rw[hx]at h;cases h
abbrev lq(a:List Rt):List Rat:=a.map Rt.q
abbrev llq(rs:List (List Rt)):LL:=rs.map lq
def mN(rs:List (List Rt)):Nat->Nat->Nat
  |0,_=>0
  |f+1,k=>if(rs.getD k []).length≠2^k then 10 else if cG k (rs.getD k [])≠0 then cG k (rs.getD k [])
    else if T.sgn (ax (llq rs)) k (ax (llq rs) k)<0 then 3 else mN rs f (k+1)
def bC(rs:List (List Rt)):Nat:=if 5<rs.length then 4 else mN rs rs.length 0
def eD:List Nat->Nat
  |[]=>0
  |e::l=>if e≠0 then e else eD l
def bN(rs:List (List Rt))(xs:List (List Rt)):Nat:=if bC rs≠0 then bC rs else eD (xs.map (cG rs.length))
theorem T.mul_congr{r r':(k:Nat)->T k}:∀(k:Nat),(∀j,j<k->r j=r' j)->∀x y,T.mul r k x y=T.mul r' k x y
 |0,_,x,y=>rfl
 |k+1,h,x,y=>by
  have ih:=T.mul_congr k (fun j hj=>h j oz);simp only[T.mul,ih,h k oz]
theorem T.sgn_congr{r r':(k:Nat)->T k}:∀(k:Nat),(∀j,j<k->r j=r' j)->∀x,T.sgn r k x=T.sgn r' k x
 |0,_,x=>rfl
 |k+1,h,x=>by
  have ih:=T.sgn_congr k (fun j hj=>h j oz);have im:=T.mul_congr k (fun j hj=>h j oz);simp only[T.sgn,T.norm,ih,im,h k oz]
theorem Mh{ts:LL}{k j:Nat}(h:j<k):ax (ts.take k) j=ax ts j:=by
 unfold ax;simp only[Xy,X0,Yl h]
theorem wQ(rs:List (List Rt))(k:Nat):(llq rs).getD k []=lq (rs.getD k []):=by
 simp only[Xy,XE];cases rs[k]? <;> rfl
def jM(rs:List (List Rt))(k:Nat):Prop:=(rs.getD k []).length=2^k/\cG k (rs.getD k [])=0/\0<=T.sgn (ax (llq rs)) k (ax (llq rs) k)
theorem D6{rs:List (List Rt)}{f k:Nat}(h:jM rs k):mN rs (f+1) k=mN rs f (k+1):=by
 obtain⟨h1,h2,h3⟩:=h;show(if _ then _ else _)=_;rw[Yk (by rw[h1];simp),Yk (by rw[h2];simp),Yk oz]
theorem EL:∀{f k:Nat}{rs:List (List Rt)},mN rs f k=0->∀j,k<=j->j<k+f->jM rs j
 |0,k,rs,_,j,h1,h2=>by omega
 |f+1,k,rs,h,j,h1,h2=>by
  have h':(if(rs.getD k []).length≠2^k then 10 else if cG k (rs.getD k [])≠0 then cG k (rs.getD k [])
   else if T.sgn (ax (llq rs)) k (ax (llq rs) k)<0 then 3 else mN rs f (k+1))=0:=h
  split at h'
  ·cases h'
  ·rename_i e1;split at h'
   ·rename_i e2;exact absurd h' e2
   ·rename_i e2;split at h'
    ·cases h'
    ·rename_i e3
     by_cases hj:j=k
     ·subst hj;exact⟨Decidable.not_not.1 e1,Decidable.not_not.1 e2,by omega⟩
     ·exact EL h' j oz oz
theorem Ie:∀{f k:Nat}{rs:List (List Rt)},(∀j,k<=j->j<k+f->jM rs j)->mN rs f k=0
 |0,k,rs,_=>rfl
 |f+1,k,rs,h=>by
  rw[D6 (h k oz oz)];exact Ie (fun j h1 h2=>h j oz oz)
theorem I1{rs:List (List Rt)}(hok:∀d∈rs,∀x∈d,x.ok){k:Nat}(hk:k<=rs.length)(h:∀j,j<k->cG j (rs.getD j [])=0):(rs.take k).map nR=((llq rs).take k).map nA:=by
 apply List.ext_getElem?;intro j;simp only[XE,X0]
 by_cases hj:j<k
 ·rw [Yl hj, Yl hj];have hjl:j < rs.length:=by omega
  have h1:=h j hj;rw[Xy,XC hjl,Option.getD_some]at h1;rw[XC hjl];simp only[Option.map_some];congr 1;have:=(yG h1 (fun x hx=>hok _ (List.getElem_mem hjl) x hx)).1;rw[<- eZ,<- this]
 ·rw[Yk hj,Yk hj];rfl
theorem jM.nl{rs:List (List Rt)}{k:Nat}(h:jM rs k):Nl k ((llq rs).getD k []):=by
 rw[wQ];exact .inr ⟨k,XD _,by rw[XA,h.1]⟩
theorem Of{ts:LL}{k r:Nat}(h:∀j,j<k->Nl j (ts.getD j []))(hr:RB r ts):kS (ts.take k) k r:=by
 refine⟨fun j hj=>?_,?_⟩
 ·have:=h j hj;simp only[Xy,X0,Yl hj]at this ⊢;exact this
 ·obtain⟨D,N,h0,h1,h2,h3⟩:=hr;exact⟨D,N,h0,fun d hd=>h1 d (List.mem_of_mem_take hd),h2,h3⟩
structure Tw(ts:LL)(r:Nat):Prop where
  three:ts.length<=3
  len:∀j,j<ts.length->(ts.getD j []).length=2^j
  pos:∀j,j<ts.length->0<=T.sgn (ax ts) j (ax ts j)
  rb:RB r ts
  le:r<=5000000000
theorem Tw.five{ts:LL}{r:Nat}(h:Tw ts r):ts.length<=5:=XW h.three oz
theorem Tw.ok{ts:LL}{r:Nat}(h:Tw ts r):kS ts ts.length r :=
 ⟨fun j hj=>.inr ⟨j,XD _,h.len j hj⟩,h.rb⟩
structure TR(rs:List (List Rt))(r:Nat):Prop where
  ok:∀d∈rs,∀x∈d,x.ok
  len:∀d∈rs,d.length<=281474976710656
  ll:rs.length<=281474976710656
  rb:RB r (llq rs)
  le:r<=5000000000
  three:rs.length<=3\/5<rs.length
theorem df{rs:List (List Rt)}{r:Nat}(h:TR rs r)(hc:bC rs=0):Tw (llq rs) r/\dI rs=aY (llq rs):=by
 unfold bC at hc;split at hc
 ·cases hc
 ·rename_i h5;have hk:=EL hc;have hl:(llq rs).length = rs.length:=XA _;refine ⟨⟨by have:=h.three; rw [hl]; omega,fun j hj=>?_,fun j hj=>?_,h.rb,h.le⟩,?_⟩
  ·rw[wQ,XA];exact(hk j oz oz).1
  ·exact(hk j oz oz).2.2
  ·unfold dI aY;have:=I1 h.ok (XD rs.length) (fun j hj=>(hk j oz oz).2.1);rw[XP,XR oz]at this;rw[this]
theorem o7{m:Nat}{a:List Rat}(h:Nl m a):cG m (a.map rt)=0:=by
 unfold cG;rw[Yk,Yl]
 ·rw[X9];intro x hx;obtain⟨q,_,rfl⟩:=List.mem_map.1 hx;exact rJ q
 ·rintro⟨h0,h1⟩;rw[XA]at h1;rcases h with rfl |⟨j,hj,h⟩
  ·exact h0 rfl
  ·rw[h,tY]at h1;omega
theorem eA(a:List Rat):lq (a.map rt)=a:=by
 unfold lq;rw[map_map];refine(List.map_congr_left (fun q _=>bV q)).trans (map_id _)
theorem rj(ts:LL):llq (ts.map (List.map rt))=ts:=by
 unfold llq;rw[map_map];refine(List.map_congr_left (fun a _=>eA a)).trans (map_id _)
theorem j7(ts:LL):dI (ts.map (List.map rt))=aY ts:=by
 unfold dI aY;rw[map_map];congr 3;exact List.map_congr_left (fun a _=>eZ a)
theorem Tw.chk{ts:LL}{r:Nat}(h:Tw ts r):bC (ts.map (List.map rt))=0:=by
 unfold bC;rw[XA,Yk (by have:=h.five;omega)];refine Ie (fun j _ hj=>?_)
 have e1:(ts.map (List.map rt)).getD j []=(ts.getD j []).map rt:=by
  simp only[Xy,XE];cases ts[j]? <;> rfl
 refine⟨?_,?_,?_⟩
 ·rw[e1,XA];exact h.len j oz
 ·rw[e1];exact o7 (.inr ⟨j,XD _,h.len j oz⟩)
 ·rw[rj];exact h.pos j oz
theorem RB.qs{r:Nat}{ts:LL}(h:RB r ts)(hr:r<=5000000000):∀d∈ts,∀q∈d,Qs q:=by
 obtain⟨D,N,h0,h1,h2,h3⟩:=h;intro d hd q hq;exact Cb.qs ⟨D,N,h1 d hd,h2,h3⟩ oz hq
theorem Tw.tr{ts:LL}{r:Nat}(h:Tw ts r):TR (ts.map (List.map rt)) r:=by
 refine⟨?_,?_,by rw[XA];have:=h.five;omega,by rw[rj];exact h.rb,h.le,by rw[XA];exact .inl h.three⟩
 ·intro d hd x hx;obtain⟨a,ha,rfl⟩:=List.mem_map.1 hd;obtain⟨q,hq,rfl⟩:=List.mem_map.1 hx;exact(h.rb.qs h.le a ha q hq).ok
 ·intro d hd;obtain⟨a,ha,rfl⟩:=List.mem_map.1 hd;obtain⟨j,hj,rfl⟩:=List.mem_iff_getElem.1 ha;have:=h.len j hj;rw[Xy,XC hj,Option.getD_some]at this;rw[XA,this];have:=h.five;have:2^j<=2^5:=cM oz;omega
theorem oa:∀{l:List Nat},eD l=0->∀e∈l,e=0
 |[],_,e,he=>by cases he
 |x::l,h,e,he=>by
  have h':(if x≠0 then x else eD l)=0:=h;split at h'
  ·rename_i hx;exact absurd h' hx
  ·rename_i hx;rcases List.mem_cons.1 he with rfl |he
   ·exact Decidable.not_not.1 hx
   ·exact oa h' e he
theorem nP:∀{l:List Nat},(∀e∈l,e=0)->eD l=0
 |[],_=>rfl
 |x::l,h=>by
  show(if x≠0 then x else eD l)=0;rw[Yk (by rw[h x (by simp)];simp)];exact nP (fun e he=>h e (by simp[he]))
theorem r6:∀(l l':List Nat),eD l=0->eD (l++l')=eD l'
 |[],l',_=>rfl
 |x::l,l',h=>by
  have h0:=oa h x (by simp);show(if x≠0 then x else eD (l++l'))=_;rw[Yk (by rw[h0];simp)];exact r6 l l' (nP (fun e he=>oa h e (by simp[he])))
theorem ox{rs xs:List (List Rt)}(h:bN rs xs=0):bC rs=0/\∀a∈xs,cG rs.length a=0:=by
 unfold bN at h;split at h
 ·rename_i h1;exact absurd h h1
 ·rename_i h1;exact⟨Decidable.not_not.1 h1,fun a ha=>oa h _ (List.mem_map.2 ⟨a,ha,rfl⟩)⟩
theorem vk{rs xs:List (List Rt)}(h1:bC rs=0)(h2:∀a∈xs,cG rs.length a=0):bN rs xs=0:=by
 unfold bN;rw[Yk (by rw[h1];simp)];refine nP (fun e he=>?_);obtain⟨a,ha,rfl⟩:=List.mem_map.1 he;exact h2 a ha
structure NR(a:List Rt)(e:Nat):Prop where
  ok:∀x∈a,x.ok
  len:a.length<=281474976710656
  cb:Cb e (lq a)
theorem NR.num{a:List Rt}{e m:Nat}(h:NR a e)(hn:cG m a=0):nR a=nA (lq a)/\Nl m (lq a):=by
 obtain⟨h1,h2⟩:=yG hn h.ok;refine⟨?_,h2⟩;rw[<- eZ,<- h1]
theorem pY{r j n e:Nat}(hj:j<=n)(h3:n<=3)(hr:r<=5000000000)(he:e<=lm n):sB r j e<4398046511104:=by
 unfold lm at he;split at he
 ·have:=Xl r e (j:=j) oz;omega
 ·have:=LK r e (j:=j) oz;omega
theorem ux{rs:List (List Rt)}(h5:rs.length<=5):∀{k:Nat},k<=rs.length->(∀j,j<k->jM rs j)->bC rs=mN rs (rs.length-k) k
 |0,_,_=>by unfold bC;rw[Yk oz];rfl
 |k+1,hk,h=>by
  rw[ux h5 (k:=k) oz (fun j hj=>h j oz),show rs.length-k=(rs.length-(k+1))+1 by omega,D6 (h k oz)]
theorem Uw{rs:List (List Rt)}(h5:rs.length<=5)(h:∀j,j<rs.length->jM rs j):bC rs=0:=by
 rw[ux h5 (XD _) h,Nat.sub_self];rfl
theorem M9{rs:List (List Rt)}(h5:rs.length<=5){k:Nat}{d:List Rt}(hd:rs[k]?=some d)(h:∀j,j<k->jM rs j)(hl:d.length≠2^k):bC rs=10:=by
 have hk:=(List.getElem?_eq_some_iff.1 hd).1;have e:rs.getD k []=d:=by rw[Xy,hd];rfl
 rw[ux h5 (k:=k) oz h,show rs.length-k=(rs.length-(k+1))+1 by omega];show(if _ then _ else _)=_;rw[e,Yl hl]
theorem RK{rs:List (List Rt)}(h5:rs.length<=5){k:Nat}{d:List Rt}(hd:rs[k]?=some d)(h:∀j,j<k->jM rs j)(hl:d.length=2^k)(hn:cG k d≠0):bC rs=cG k d:=by
 have hk:=(List.getElem?_eq_some_iff.1 hd).1;have e:rs.getD k []=d:=by rw[Xy,hd];rfl
 rw[ux h5 (k:=k) oz h,show rs.length-k=(rs.length-(k+1))+1 by omega];show(if _ then _ else _)=_;rw[e,Yk (by rw[hl];simp),Yl hn]
theorem GS{rs:List (List Rt)}{k:Nat}{d:List Rt}(hd:rs[k]?=some d):ax (llq rs) k=ae k (lq d):=by
 unfold ax;rw[wQ,Xy,hd];rfl
theorem Um{rs:List (List Rt)}(h5:rs.length<=5){k:Nat}{d:List Rt}(hd:rs[k]?=some d)(h:∀j,j<k->jM rs j)(hl:d.length=2^k)(hn:cG k d=0)
  (hs:T.sgn (ax (llq rs)) k (ae k (lq d))<0):bC rs=3:=by
 have hk:=(List.getElem?_eq_some_iff.1 hd).1;have e:rs.getD k []=d:=by rw[Xy,hd];rfl
 rw[ux h5 (k:=k) oz h,show rs.length-k=(rs.length-(k+1))+1 by omega];show(if _ then _ else _)=_;rw[e,Yk (by rw[hl];simp),Yk (by rw[hn];simp),GS hd,Yl hs]
theorem L5{rs:List (List Rt)}{k:Nat}{d:List Rt}(hd:rs[k]?=some d)(hl:d.length=2^k)(hn:cG k d=0)
  (hs:¬T.sgn (ax (llq rs)) k (ae k (lq d))<0):jM rs k:=by
 have e:rs.getD k []=d:=by rw[Xy,hd];rfl
 exact⟨by rw[e];exact hl,by rw[e];exact hn,by rw[GS hd];omega⟩
theorem K0{rs:List (List Rt)}(hok:∀d∈rs,∀x∈d,x.ok){k:Nat}(hk:k<=rs.length)(h:∀j,j<k->jM rs j):dI (rs.take k)=aY ((llq rs).take k):=by
 unfold dI aY;rw[I1 hok hk (fun j hj=>(h j hj).2.1)]
theorem LV{α:Type}(f:α->AV)(l:List α)(n:Nat):AV.lst 1 (((l.map f).drop 0).take (n-0))=.lst 1 ((l.take n).map f):=by
 rw[Nat.sub_zero,Yh,map_take]
theorem Pa{rs:List (List Rt)}(h:5<rs.length):bC rs=4:=by unfold bC;rw[Yl h]
theorem Sr{rs xs:List (List Rt)}(h:bC rs≠0):bN rs xs=bC rs:=by unfold bN;rw[Yl h]
theorem GK{rs xs:List (List Rt)}{i:Nat}{a:List Rt}(h:bC rs=0)(ha:xs[i]?=some a)(hb:∀x∈xs.take i,cG rs.length x=0)(hn:cG rs.length a≠0):bN rs xs=cG rs.length a:=by
 unfold bN;rw[Yk (by rw[h];simp)];have e:xs=xs.take i++xs.drop i:=(List.take_append_drop i xs).symm;have hi:=(List.getElem?_eq_some_iff.1 ha).1;rw[e,XQ,r6 _ _ (nP (fun e he=>by obtain⟨x,hx,rfl⟩:=List.mem_map.1 he;exact hb x hx)),List.drop_eq_getElem_cons hi];have ha':xs[i]=a:=by rw[XC hi]at ha;exact Option.some.inj ha
 rw[ha'];show(if _ then _ else _)=_;rw[Yl hn]
theorem ri{n:Nat}{a:List Rat}(h:Nl n a):Nl n (ee a):=by
 rcases h with rfl |⟨j,hj,h⟩
 ·exact .inl rfl
 ·exact .inr ⟨j,hj,by rw[jD,h]⟩
theorem uw{n:Nat}{a b:List Rat}(h:Nl n a)(h':Nl n b):Nl n (dH a b):=by
 rcases h with rfl |⟨j,hj,h⟩ <;> rcases h' with rfl |⟨i,hi,h'⟩
 ·exact .inl (List.eq_nil_of_length_eq_zero (by rw[fW];rfl))
 ·exact .inr ⟨i,hi,by rw[fW,h'];simp⟩
 ·exact .inr ⟨j,hj,by rw[fW,h];simp⟩
 ·refine .inr ⟨max j i, by omega, ?_⟩;rw [fW,h,h'];rcases Nat.le_total j i with g | g
  ·rw[Nat.max_eq_right g,Nat.max_eq_right (cM g)]
  ·rw[Nat.max_eq_left g,Nat.max_eq_left (cM g)]
theorem tm{a b:List Rt}{e f:Nat}(ha:NR a e)(hb:NR b f):∀x∈[a,b],(∀y∈x,y.ok)/\x.length<=281474976710656:=by
 intro x hx;simp only[X6,XV,or_false]at hx;rcases hx with rfl |rfl
 ·exact⟨ha.ok,ha.len⟩
 ·exact⟨hb.ok,hb.len⟩
theorem mJ{rs:List (List Rt)}(h:dI rs=aY (llq rs)):AV.lst 1 (rs.map nR)=.lst 1 ((llq rs).map nA):=by
 unfold dI aY at h
 injection h with h
 injection h
theorem rE{x:Rt}:x.q+(rt 0).q=x.q:=by rw[bV,Rat.add_zero]
theorem sZ{e:Nat}(h:aa .neq (e:Int) 0=true):e≠0:=by
 have:(e:Int)≠0:=by simpa[aa]using h
 omega
theorem qG{e:Nat}(h:aa .neq (e:Int) 0=false):e=0:=by
 have:(e:Int)=0:=by simpa[aa]using h
 omega
structure Tn where
  t:Rt
  half:Bool
namespace Tn
def av(x:Tn):AV:=.agg [bl x.t.neg,ws x.t.num,ws x.t.den,bl x.half]
def err(x:Tn):Nat:=if x.t.valid=true/\(x.half=true->x.t.q=0)then 0 else 2
end Tn
def de(half:Bool)(t:Rat):Rat:=if half then -1 else(1-t*t)/(1+t*t)
def db(half:Bool)(t:Rat):Rat:=if half then 0 else(t+t)/(1+t*t)
theorem Tn.err_yes{x:Tn}(h:cond (!x.t.valid) true (cond x.half (aa .neq (bK x.t.q) 0) false)=true):x.err=2:=by
 unfold Tn.err;rw[Yk];rintro⟨h1,h2⟩;rw[h1]at h;cases hh:x.half
 ·rw[hh]at h;cases h
 ·rw[hh,h2 hh]at h;cases h
theorem Tn.err_no{x:Tn}(h:cond (!x.t.valid) true (cond x.half (aa .neq (bK x.t.q) 0) false)=false):x.err=0:=by
 unfold Tn.err;rw[Yl];cases hv:x.t.valid
 ·rw[hv]at h;cases h
 ·rw [hv] at h;refine ⟨rfl,fun hh=>?_⟩;rw [hh] at h;have:bK x.t.q = 0:=by simpa [aa] using h
  exact qL this
theorem Tn.ok_valid{x:Tn}(h:x.err=0):x.t.valid=true:=by
 unfold Tn.err at h;split at h
 ·rename_i h1;exact h1.1
 ·cases h
theorem Qy(p:Rat):p/0=0:=by rw[Rat.div_def,Rat.inv_zero,Rat.mul_zero]
theorem SM{e:Nat}{t:Rat}(half:Bool)(h:Qb e t):Qb (4*e+6) (de half t):=by
 unfold de;split
 ·exact(Qb.one.neg).mono oz
 ·exact((Qb.one.sub (h.mul h)).div (Qb.one.add (h.mul h))).mono oz
theorem O3{e:Nat}{t:Rat}(half:Bool)(h:Qb e t):Qb (4*e+6) (db half t):=by
 unfold db;split
 ·exact Qb.zero.mono oz
 ·exact((h.add h).div (Qb.one.add (h.mul h))).mono oz
structure Plc where
  x:Rt
  y:Rt
def Plc.av(p:Plc):AV:=.agg [bl p.x.neg,ws p.x.num,ws p.x.den,bl p.y.neg,ws p.y.num,ws p.y.den]
structure Pse where
  turn:Tn
  at_:Plc
def Pse.av(p:Pse):AV:=.agg [bl p.turn.t.neg,ws p.turn.t.num,ws p.turn.t.den,bl p.turn.half,bl p.at_.x.neg,ws p.at_.x.num,ws p.at_.x.den,bl p.at_.y.neg,ws p.at_.y.num,ws p.at_.y.den]
def Pse.ok(p:Pse):Bool:=decide (p.turn.err=0)&&p.at_.x.valid&&p.at_.y.valid
theorem Ku(q:Rat):aa .eql (bK q) 0=decide (q=0):=by
 by_cases h:q=0
 ·subst h;rfl
 ·rw[decide_eq_false h];have:bK q≠0:=fun h'=>h (qL h')
  simpa[aa]using this
theorem iC(a b:Bool):cond a b false=(a&&b):=by cases a <;> rfl
theorem yf{x:Blk}(hx:x.nm=[]){k:Nat}(h:x.Names k):False:=by
 have:=h.mem;rw[hx]at this;cases this
theorem uM{ext:Nat->Prop}{k d:Nat}{x:Blk}{m m2:Nat->Option Nat}{w:World}(hx:x.nm=[])(h:m2 d=m k)(hr:HeapRel ext [(k,some x)] m w):HeapRel ext [(d,some x)] m2 w:=by
 refine⟨?_,?_,?_⟩
 ·intro k' z hz;obtain⟨rfl,h9⟩:=fC hz;cases h9;have h1:=hr.blk k _ (by rw[aT,Yl rfl]);rw[jX h (y:=x) (x:=x)];exact BlkRep.mono (w:=w) (fun _ _ h=>h) (fun _ _ h=>h) (fun _ _ hn=>(yf hx hn).elim) h (fun _ _=>rfl) h1
 ·intro k1 k2 z z' b h1 h2 _ _;rw[(fC h1).1,(fC h2).1]
 ·intro k' z b hz hb;obtain⟨rfl,h9⟩:=fC hz;cases h9;exact hr.sep k _ b (by rw[aT,Yl rfl]) (h▸hb)
theorem Con.rB{P:Program}{f:FuncId}{k off:Nat}{x x':Blk}{xs:List AV}{r:AV}(d:Nat)(hx:x.nm=[])(hx':x'.nm=[])(hxs:(xs.all fun x=>x.nm.isEmpty)=true)(hr:r.nm=[])
  (h:Con P f (.ptr k off::xs) [(k,some x)] r [(k,some x')]):Con P f (.ptr d off::xs) [(d,some x)] r [(d,some x')]:=by
 refine⟨h.ok,?_⟩;intro ext m w vs hext hheap hvs hrep
 have h1 := h.ret ext (fun _ => m d) w vs hext (uM (k := d) hx rfl hheap) (by simpa using hvs) (by
  intro j v y hv hy;rw[jX (d:=k) (k:=d) (y:=x) (x:=x) (m2:=fun _=>m d) (m:=m) rfl]
  match j,hy with
  |0,hy =>
   cases hy;have h2:=hrep 0 v _ hv rfl;cases h2 with
   |ptr hm=>exact .ptr hm
  |j+1,hy =>
   have h2:=hrep (j+1) v y hv hy;refine iN ?_ h2;have:=List.all_eq_true.1 hxs y (Xx hy);simpa using this)
 refine Calls.mono h1 ?_;rintro e w' ⟨v,m',rfl,hf,hh,hn,hk,hrr⟩
 have ho:a9 [(k,some x)] (fun _=>m d)=a9 [(d,some x)] m:=by
  funext b;apply propext;rw[jQ,jQ]
 refine⟨v,fun _=>m' k,rfl,ho▸hf,uM (k:=k) hx' rfl hh,?_,?_,?_⟩
 ·intro k' x b hx hb;rw[<- ho];exact hn k _ b (by rw[aT,Yl rfl]) hb
 ·intro k' x y hx hy;obtain⟨rfl,_⟩:=fC hx;exact hk k _ _ (by rw[aT,Yl rfl]) (by rw[aT,Yl rfl])
 ·rw[jX (d:=d) (k:=k) (y:=x') (x:=x') (m2:=fun _=>m' k) (m:=m') rfl];exact iN hr hrr
structure Nm(n e:Nat)(l:List Rat):Prop where
  five:n<=5
  nl:Nl n l
  cb:Cb e l
theorem Nm.mono{n e f:Nat}{l:List Rat}(h:Nm n e l)(hf:e<=f):Nm n f l:=⟨h.five,h.nl,h.cb.mono hf⟩
theorem Nm.rt{n e:Nat}{l:List Rat}(h:Nm n e l)(he:e<=lm n):NR (l.map Go.Lw.rt) e:=by
 have hlm:=lJ n;refine⟨?_,by have:=h.nl.len5 h.five;rw[XA];omega,by rw[eA];exact h.cb⟩;intro x hx;obtain⟨q,hq,rfl⟩:=List.mem_map.1 hx;exact(h.cb.qs oz hq).ok
theorem Nm.chk{n e:Nat}{l:List Rat}(h:Nm n e l):cG n (l.map Go.Lw.rt)=0:=o7 h.nl
theorem Nm.add{n e f:Nat}{a b:List Rat}(ha:Nm n e a)(hb:Nm n f b):Nm n (e+f+1) (sh n (T.add n (ae n a) (ae n b))):=by
 refine⟨ha.five,eQ _ _,?_⟩;rw[<- kR];exact(ha.cb.plus hb.cb).sh (uw ha.nl hb.nl)
theorem Nm.neg{n e:Nat}{a:List Rat}(ha:Nm n e a):Nm n e (sh n (T.neg n (ae n a))):=by
 refine⟨ha.five,eQ _ _,?_⟩;rw[<- nI];exact ha.cb.minus.sh (ri ha.nl)
theorem Nm.sub{n e f:Nat}{a b:List Rat}(ha:Nm n e a)(hb:Nm n f b):Nm n (e+f+1) (sh n (T.add n (ae n a) (T.neg n (ae n b)))):=by
 refine⟨ha.five,eQ _ _,?_⟩;rw[<- nI,<- kR];exact(ha.cb.plus hb.cb.minus).sh (uw ha.nl (ri hb.nl))
abbrev kB(r n:Nat):Nat:=eB r n
theorem Nm.mul{ts:LL}{r n e f:Nat}(tw:Tw ts r)(hn:n=ts.length){a b:List Rat}(ha:Nm n e a)(hb:Nm n f b):Nm n (e+f+kB r n) (sh n (T.mul (ax ts) n (ae n a) (ae n b))):=by
 subst hn;refine⟨ha.five,eQ _ _,?_⟩;have h1:=fY ts ts.length tw.ok.1 ts.length ts.length a b (XD _) (XD _) ha.nl hb.nl;have h2:=Cb.mul tw.ok (k:=ts.length) (XD ts.length) (XD _) ha.nl hb.nl ha.cb hb.cb;rw[<- h1.2];exact h2.sh h1.1
theorem Nm.ofQ{n e:Nat}(hn:n<=5){q:Rat}(h:Cb e [q]):Nm n e (sh 0 (q:Rat)):=by
 refine⟨hn,(eQ 0 q).mono (XJ _),?_⟩;have:=h.sh (k:=0) (.inr ⟨0,XD _,rfl⟩);exact this
theorem Cb.one{e:Nat}{q:Rat}(h:Qb e q):Cb e [q]:=by
 refine⟨q.den,q.num.natAbs,⟨by have:=q.den_nz;omega,?_⟩,Nat.le_of_lt h.2,Nat.le_of_lt h.1⟩;intro x hx;rw[List.mem_singleton.1 hx];refine⟨q.num,?_,XD _⟩
 have hd:((q.den:Int):Rat)≠0:=by
  intro h0;have:(q.den:Int)=0:=Rat.intCast_eq_zero_iff.1 h0;have:=q.den_nz;omega
 have hq:q=(q.num:Rat)/((q.den:Int):Rat):=by
  rw[<- Rat.divInt_eq_div,Rat.num_divInt_den]
 have h1:(q.num:Rat)/((q.den:Int):Rat)*((q.den:Int):Rat)=(q.num:Rat):=Rat.div_mul_cancel hd;rw[<- hq]at h1;exact h1
theorem gM(n:Nat)(q:Rat):ae n (sh 0 (q:Rat))=T.ofQ n q:=by
 show ae n (if q=0 then[]else[q])=_;split
 ·rename_i h;subst h;rw[iW]
  induction n with
  |zero=>rfl
  |succ n ih=>simp only[T.zero,T.ofQ,ih]
 ·exact kN n q
def aM(x y:List Rat):AV:=.agg [nA x,nA y]
def fX(ts:LL):Blk:=.box [.lst 1 (ts.map nA),.v .nilIface]
theorem Bg{ts:LL}{r e:Nat}(tw:Tw ts r){a:List Rat}(ha:Nm ts.length e a):bN (ts.map (List.map rt)) [a.map rt]=0:=by
 refine vk tw.chk (fun x hx=>?_);rw[List.mem_singleton.1 hx,XA];exact ha.chk
theorem tl{ts:LL}{r e f:Nat}(tw:Tw ts r){a b:List Rat}(ha:Nm ts.length e a)(hb:Nm ts.length f b):bN (ts.map (List.map rt)) [a.map rt,b.map rt]=0:=by
 refine vk tw.chk (fun x hx=>?_);rw[XA];simp only[X6,XV,or_false]at hx;rcases hx with rfl |rfl
 ·exact ha.chk
 ·exact hb.chk
def iw:List (List Rat×List Rat)->LL
  |[]=>[]
  |p::l=>p.1::p.2::iw l
theorem JM:∀(a b:List (List Rat×List Rat)),iw (a++b)=iw a++iw b
 |[],b=>rfl
 |p::a,b=>by simp only[List.cons_append,iw,JM a b]
theorem vc:∀(a:List (List Rat×List Rat)),(iw a).length=2*a.length
 |[]=>rfl
 |p::a=>by simp only[iw,XK,vc a];omega
theorem DM{P:List Rat->Prop}:∀{ps:List (List Rat×List Rat)},(∀p∈ps,P p.1/\P p.2)->∀l∈iw ps,P l
 |[],_,l,h=>by cases h
 |p::ps,hp,l,h=>by
  simp only[iw,X6]at h;rcases h with rfl |rfl |h
  ·exact(hp p (by simp)).1
  ·exact(hp p (by simp)).2
  ·exact DM (fun q hq=>hp q (by simp[hq])) l h
theorem bj{s:AS}{k:Nat}{x:Blk}(h:lk s.hp k=some x):∀k' z,lk [(k,some x)] k'=some z->lk s.hp k'=some z:=by
 intro k' z hz;obtain⟨rfl,h9⟩:=fC hz;cases h9;exact h
def nT(ts:LL)(a b c d:T ts.length):T ts.length:=T.add ts.length (T.mul (ax ts) ts.length a c) (T.mul (ax ts) ts.length b d)
def nK(ts:LL)(a b c d:T ts.length):T ts.length:=T.add ts.length (T.mul (ax ts) ts.length a d) (T.neg ts.length (T.mul (ax ts) ts.length b c))
theorem Br{ts:LL}{a b c d:T ts.length}:T.add ts.length (ae ts.length (sh ts.length (T.mul (ax ts) ts.length a c))) (ae ts.length (sh ts.length (T.mul (ax ts) ts.length b d)))=nT ts a b c d:=by
 rw[bg,bg];rfl
theorem yT{ts:LL}{a b c d:T ts.length}:T.add ts.length (ae ts.length (sh ts.length (T.mul (ax ts) ts.length a d))) (T.neg ts.length (ae ts.length (sh ts.length (T.mul (ax ts) ts.length b c))))=nK ts a b c d:=by
 rw[bg,bg];rfl
abbrev subT(ts:LL)(x y:T ts.length):T ts.length:=T.add ts.length x (T.neg ts.length y)
def nC(ts:LL)(a b c d p q:T ts.length):T ts.length:=nK ts (subT ts c a) (subT ts d b) (subT ts p a) (subT ts q b)
theorem CX{ts:LL}{a b c d p q:T ts.length} :
  nK ts (ae ts.length (sh ts.length (subT ts c a))) (ae ts.length (sh ts.length (subT ts d b))) (ae ts.length (sh ts.length (subT ts p a))) (ae ts.length (sh ts.length (subT ts q b)))=nC ts a b c d p q:=by
 rw[bg,bg,bg,bg];rfl
theorem xL{ts:LL}{r e f:Nat}(tw:Tw ts r){a b c d:List Rat}(ha:Nm ts.length e a)(hb:Nm ts.length e b)(hc:Nm ts.length f c)(hd:Nm ts.length f d) :
  Nm ts.length (2*(e+f+kB r ts.length)+1) (sh ts.length (nT ts (ae ts.length a) (ae ts.length b) (ae ts.length c) (ae ts.length d))):=by
 have h:=(ha.mul tw rfl hc).add (hb.mul tw rfl hd);rw[Br]at h;exact h.mono oz
theorem BS{ts:LL}{r e f:Nat}(tw:Tw ts r){a b c d:List Rat}(ha:Nm ts.length e a)(hb:Nm ts.length e b)(hc:Nm ts.length f c)(hd:Nm ts.length f d) :
  Nm ts.length (2*(e+f+kB r ts.length)+1) (sh ts.length (nK ts (ae ts.length a) (ae ts.length b) (ae ts.length c) (ae ts.length d))):=by
 have h:=(ha.mul tw rfl hd).sub (hb.mul tw rfl hc);rw[yT]at h;exact h.mono oz
theorem Iv{ts:LL}{r e:Nat}(tw:Tw ts r){a b c d p q:List Rat}(ha:Nm ts.length e a)(hb:Nm ts.length e b)(hc:Nm ts.length e c)(hd:Nm ts.length e d)(hp:Nm ts.length e p)(hq:Nm ts.length e q) :
  Nm ts.length (8*e+5+2*kB r ts.length) (sh ts.length (nC ts (ae ts.length a) (ae ts.length b) (ae ts.length c) (ae ts.length d) (ae ts.length p) (ae ts.length q))):=by
 have h:=BS tw (hc.sub ha) (hd.sub hb) (hp.sub ha) (hq.sub hb);rw[CX]at h;exact h.mono oz
theorem QU{x y:Int}:cond (cond (aa .eql x 0) (aa .eql y 0) false) true false=decide (x=0/\y=0):=by
 by_cases hx:x=0
 ·subst hx
  by_cases hy:y=0
  ·subst hy;rfl
  ·have : aa .eql y 0 = false := by simpa [aa] using hy
   rw[this];simp[hy]
 ·have : aa .eql x 0 = false := by simpa [aa] using hx
  rw[this];simp[hx]
def rZ(ts:LL)(cos sin x y:T ts.length):T ts.length:=nK ts cos sin y x
def tE(ts:LL)(cos sin x y:T ts.length):T ts.length:=nT ts sin cos x y
theorem xe{ts:LL}{r e f:Nat}(tw:Tw ts r){a b c d:List Rat}(ha:Nm ts.length e a)(hb:Nm ts.length e b)(hc:Nm ts.length f c)(hd:Nm ts.length f d) :
  Nm ts.length (2*(e+f+kB r ts.length)+1) (sh ts.length (rZ ts (ae ts.length a) (ae ts.length b) (ae ts.length c) (ae ts.length d))):=BS tw ha hb hd hc
theorem xC{ts:LL}{r e f:Nat}(tw:Tw ts r){a b c d:List Rat}(ha:Nm ts.length e a)(hb:Nm ts.length e b)(hc:Nm ts.length f c)(hd:Nm ts.length f d) :
  Nm ts.length (2*(e+f+kB r ts.length)+1) (sh ts.length (tE ts (ae ts.length a) (ae ts.length b) (ae ts.length c) (ae ts.length d))):=xL tw hb ha hc hd
def rY(ts:LL)(cos sin X:T ts.length)(x y:Rat):T ts.length:=T.add ts.length (rZ ts cos sin (T.ofQ ts.length x) (T.ofQ ts.length y)) X
def sE(ts:LL)(cos sin Y:T ts.length)(x y:Rat):T ts.length:=T.add ts.length (tE ts cos sin (T.ofQ ts.length x) (T.ofQ ts.length y)) Y
theorem zW{ts:LL}{cos sin X:T ts.length}{x y:Rat}:T.add ts.length (ae ts.length (sh ts.length (rZ ts cos sin (ae ts.length (sh 0 (x:Rat))) (ae ts.length (sh 0 (y:Rat)))))) X=rY ts cos sin X x y:=by
 rw[bg,gM,gM];rfl
theorem zy{ts:LL}{cos sin Y:T ts.length}{x y:Rat}:T.add ts.length (ae ts.length (sh ts.length (tE ts cos sin (ae ts.length (sh 0 (x:Rat))) (ae ts.length (sh 0 (y:Rat)))))) Y=sE ts cos sin Y x y:=by
 rw[bg,gM,gM];rfl
theorem Sub.fn0(f:FuncId):Sub (.v (.func (.func f) #[] #[])) (.fn f []):=fun g S m v h=>by
 cases h;exact .fn rfl (fun j u c hu hc=>by simp at hc)
theorem Tx{e k m:Nat}(h:8*e+4*k+4<=m):2*(2*(e+e+k)+1)<=m:=by omega
theorem PC{rs:List (List Rt)}{a:List Rt}(h:bC rs=0):bN rs [a]=cG rs.length a:=by
 unfold bN;rw[Yk (by rw[h];simp)];show(if _ then _ else 0)=_;split
 ·rfl
 ·rename_i h1;exact(Decidable.not_not.1 h1).symm
def gP(ts:LL)(x y:T ts.length):Bool:=decide (T.sgn (ax ts) ts.length (subT ts x y)=0)
theorem I8(z:Int):cond true (aa .eql z 0) false=decide (z=0):=by
 by_cases h:z=0
 ·subst h;rfl
 ·rw[decide_eq_false h];simpa[aa]using h
theorem rL{n:Int}(h:-9223372036854775808<=n/\n<=9223372036854775807):Qs ((n:Rat)):=by
 refine⟨2,by unfold fH;omega,?_,?_⟩
 ·unfold Lz;simp only[Rat.num_intCast,Nat.reducePow];omega
 ·unfold Lz;simp only[Rat.den_intCast];decide
theorem Pu(a b c d:Bool):cond (cond (cond a b false) c false) d false=(a&&b&&c&&d):=by cases a <;> cases b <;> cases c <;> rfl
def dX(s:ByteArray)(i:Nat):Nat:=(s.data.getD i 0).toNat
def eL(c:Nat):Bool:=decide (97<=c/\c<=122)||decide (65<=c/\c<=90)
def pL(c:Nat):Bool:=decide (48<=c/\c<=57)
def kv(c:Nat):Bool:=eL c||pL c||decide (c=95)
def mD(s:ByteArray):Nat->Nat->Bool
  |_,0=>true
  |i,n+1=>kv (dX s i)&&mD s (i+1) n
def gL(s:ByteArray):Bool:=decide (0<s.size/\s.size<=24)&&eL (dX s 0)&&mD s 0 s.size
def fw(s:ByteArray):Nat->Nat->Nat
  |i,0=>i
  |i,n+1=>if kv (dX s i)then fw s (i+1) n else i
theorem EZ(s:ByteArray):∀(n i:Nat),i<=fw s i n/\fw s i n<=i+n
 |0,i=>⟨XD _,XD _⟩
 |n+1,i=>by
  simp only[fw];split
  ·have:=EZ s n (i+1);omega
  ·omega
theorem AC(s:ByteArray):∀(n i:Nat),fw s i n=i+n↔mD s i n=true
 |0,i=>by simp[fw,mD]
 |n+1,i=>by
  simp only[fw,mD,XF];split
  ·rename_i h;rw[<- AC s n (i+1),show i+(n+1)=i+1+n by omega];simp[h]
  ·rename_i h;constructor
   ·intro h';omega
   ·intro h';exact absurd h'.1 h
theorem Vw{c:Nat}(h:eL c=true):kv c=true:=by unfold kv;rw[h];rfl
def fe(s:ByteArray):Nat:=if 0<s.size/\eL (dX s 0)=true then fw s 1 (s.size-1)else 0
theorem TX(s:ByteArray):gL s=decide (0<fe s/\fe s=s.size/\fe s<=24):=by
 unfold gL fe;rw[Bool.eq_iff_iff];simp only[XF,decide_eq_true_eq]
 by_cases h:0<s.size/\eL (dX s 0)=true
 ·rw[Yl h];obtain⟨h1,h2⟩:=h;have h3:=AC s (s.size-1) 1
  have h4:mD s 0 s.size=mD s 1 (s.size-1):=by
   obtain⟨n,hn⟩:∃n,s.size=n+1:=⟨s.size-1,by omega⟩
   rw[hn];simp only[mD,Vw h2,Bool.true_and,Nat.add_sub_cancel]
  have h5:=EZ s (s.size-1) 1;rw[h4,<- h3];constructor
  ·rintro⟨⟨h6,h7⟩,h8⟩;omega
  ·rintro⟨h6,h7,h8⟩;exact⟨⟨by omega,h2⟩,by omega⟩
 ·rw[Yk h];constructor
  ·rintro⟨⟨h1,h2⟩,h3⟩;exact absurd ⟨h1.1,h2⟩ h
  ·rintro⟨h1,_⟩;omega
theorem Rl(s:ByteArray)(h0:0<s.size)(h24:s.size<=24):gL s=decide ((if eL (dX s 0)then fw s 0 s.size else 0)=s.size):=by
 unfold gL;rw[Bool.eq_iff_iff];simp only[XF,decide_eq_true_eq];have h3:=AC s s.size 0;rw[Nat.zero_add]at h3
 by_cases h:eL (dX s 0)=true
 ·rw[Yl h,h3];exact⟨fun h=>h.2,fun h'=>⟨⟨⟨h0,h24⟩,h⟩,h'⟩⟩
 ·rw[Yk h];exact⟨fun h'=>absurd h'.1.2 h,fun h'=>by omega⟩
def dS(a b:ByteArray):Bool:=a.toList==b.toList
def fh(n:Nat)(err:Nat->Nat):Nat:=eD ((List.range n).map err)
theorem en{n i:Nat}{err:Nat->Nat}(hi:i<n)(h:∀j,j<i->err j=0)(he:err i≠0):fh n err=err i:=by
 unfold fh
 have e:List.range n=List.range i++(i::(List.range' (i+1) (n-(i+1)))):=by
  obtain⟨d,rfl⟩:∃d,n=i+(d+1):=⟨n-i-1,by omega⟩
  rw[List.range_eq_range',List.range_eq_range',<- List.range'_append_1,Nat.zero_add,List.range'_succ,show i+(d+1)-(i+1)=d by omega]
 rw[e,XQ,r6 _ _ (nP (fun x hx=>by
  obtain⟨j,hj,rfl⟩:=List.mem_map.1 hx;exact h j (List.mem_range.1 hj)))]
 show(if err i≠0 then err i else _)=_;rw[Yl he]
theorem kU{n:Nat}{err:Nat->Nat}(h:∀j,j<n->err j=0):fh n err=0 :=
 nP (fun x hx=>by obtain⟨j,hj,rfl⟩:=List.mem_map.1 hx;exact h j (List.mem_range.1 hj))
theorem nD{n:Nat}{err:Nat->Nat}(h:fh n err=0):∀j,j<n->err j=0:=fun j hj =>
 oa h _ (List.mem_map.2 ⟨j,List.mem_range.2 hj,rfl⟩)
structure Mk where
  name:ByteArray
  x:Rt
  y:Rt
instance:Inhabited Mk:=⟨⟨default,⟨false,[],[]⟩,⟨false,[],[]⟩⟩⟩
def Mk.av(m:Mk):AV:=.agg [.v (.string m.name),bl m.x.neg,ws m.x.num,ws m.x.den,bl m.y.neg,ws m.y.num,ws m.y.den]
structure Bd where
  name:ByteArray
  pts:List Mk
instance:Inhabited Bd:=⟨⟨default,[]⟩⟩
def Bd.av(b:Bd):AV:=.agg [.v (.string b.name),.lst 7 (b.pts.map Mk.av)]
structure Jt where
  name:ByteArray
  kind:Int
  a:Int
  point:Int
  b:Int
  on:Int
  to:Int
instance:Inhabited Jt:=⟨⟨default,0,0,0,0,0,0⟩⟩
def Jt.av(j:Jt):AV:=.agg [.v (.string j.name),i64 j.kind,i64 j.a,i64 j.point,i64 j.b,i64 j.on,i64 j.to]
structure Dr where
  name:ByteArray
  body:Int
instance:Inhabited Dr:=⟨⟨default,0⟩⟩
def Dr.av(d:Dr):AV:=.agg [.v (.string d.name),i64 d.body]
structure Li where
  name:ByteArray
  bo:List Bd
  jo:List Jt
  dv:List Dr
def Li.av(l:Li):AV:=.agg [.v (.string l.name),.lst 2 (l.bo.map Bd.av),.lst 7 (l.jo.map Jt.av),.lst 2 (l.dv.map Dr.av)]
structure Mk.ok(m:Mk):Prop where
  x:m.x.ok
  y:m.y.ok
  qx:Qb 1000 m.x.q
  qy:Qb 1000 m.y.q
structure Bd.ok(b:Bd):Prop where
  pts:∀m∈b.pts,m.ok
  names:∀m∈b.pts,m.name.size<=281474976710656
  ll:b.pts.length<=281474976710656
  name:b.name.size<=281474976710656
structure Li.ok(l:Li):Prop where
  name:l.name.size<=281474976710656
  bo:∀b∈l.bo,b.ok
  jnames:∀j∈l.jo,j.name.size<=281474976710656
  dnames:∀d∈l.dv,d.name.size<=281474976710656
  lb:l.bo.length<=281474976710656
  lj:l.jo.length<=281474976710656
  ld:l.dv.length<=281474976710656
def gE(l:List ByteArray)(i:Nat):Bool:=(l.take i).any (fun n=>dS n (l.getD i default))
def dC(ps:List Mk)(i:Nat):Nat :=
  if gL (ps.getD i default).name=false then 5 else if gE (ps.map Mk.name) i=true then 6
  else if(ps.getD i default).x.valid=true/\(ps.getD i default).y.valid=true then 0 else 3
def dG(bs:List Bd)(i:Nat):Nat :=
  if gL (bs.getD i default).name=false then 5 else if gE (bs.map Bd.name) i=true then 6
  else if 8<(bs.getD i default).pts.length then 4 else fh (bs.getD i default).pts.length (dC (bs.getD i default).pts)
def bu(i:Int)(n:Nat):Bool:=decide (0<=i/\i<n)
def cA(l:Li)(i:Int):List Mk:=(l.bo.getD i.toNat default).pts
def dN(l:Li)(j:Jt):Nat :=
  if j.kind≠0/\j.kind≠1 then 7
  else if bu j.a l.bo.length=false\/bu j.b l.bo.length=false then 9
  else if j.a=j.b then 13
  else if bu j.point (cA l j.a).length=false\/bu j.on (cA l j.b).length=false then 9
  else if j.kind=0 then(if j.to≠0 then 2 else 0)
  else if bu j.to (cA l j.b).length=false then 9
  else if((cA l j.b).getD j.on.toNat default).x.q=((cA l j.b).getD j.to.toNat default).x.q/\((cA l j.b).getD j.on.toNat default).y.q=((cA l j.b).getD j.to.toNat default).y.q then 8
  else 0
def fK(l:Li)(i:Nat):Nat :=
  if gL (l.jo.getD i default).name=false then 5 else if gE (l.jo.map Jt.name) i=true then 6 else dN l (l.jo.getD i default)
def dM(l:Li)(i:Nat):Nat :=
  if gL (l.dv.getD i default).name=false then 5 else if gE (l.dv.map Dr.name) i=true then 6
  else if bu (l.dv.getD i default).body l.bo.length=false then 9
  else if(l.dv.getD i default).body=0 then 7
  else if(l.dv.take i).any (fun d=>decide (d.body=(l.dv.getD i default).body))=true then 6 else 0
def fQ(l:Li):Nat:=fh l.bo.length (dG l.bo)
def d6(l:Li):Nat:=if 16<l.jo.length then 4 else fh l.jo.length (fK l)
def fu(l:Li):Nat:=if 2<l.dv.length then 4 else fh l.dv.length (dM l)
def aA(l:Li):Nat :=
  if gL l.name=false then 5 else if l.bo.length=0 then 10 else if 8<l.bo.length then 4
  else if fQ l≠0 then fQ l else if d6 l≠0 then d6 l else fu l
theorem aq{α:Type}{l:List α}{i:Nat}{x d:α}(h:l[i]?=some x):l.getD i d=x:=by rw[Xy,h];rfl
theorem nH{α:Type}(f:α->ByteArray){l:List α}{i:Nat}{x:α}(h:l[i]?=some x):gE (l.map f) i=(l.take i).any (fun y=>dS (f y) (f x)):=by
 unfold gE;have h1:(l.map f).getD i default=f x:=aq (by rw[XE,h];rfl);rw[h1,<- map_take,List.any_map];rfl
theorem kG{α:Type}{p:α->Bool}{l:List α}{k:Nat}{x:α}(h:l[k]?=some x)(hn:(l.take k).any p=false)(hp:p x=false):(l.take (k+1)).any p=false:=by
 rw[dR h,List.any_append,hn];simp[hp]
theorem lB{α:Type}{p:α->Bool}{l:List α}{k i:Nat}{x:α}(h:l[k]?=some x)(hk:k<i)(hp:p x=true):(l.take i).any p=true:=by
 rw[List.any_eq_true];exact⟨x,Xx (by rw[X0,Yl hk];exact h),hp⟩
theorem G7(s:ByteArray):(s.toList==ByteArray.toList ⟨#[]⟩)=decide (s.size=0):=by
 have e:ByteArray.toList ⟨#[]⟩=[]:=Go.ByteArray.toList_eq _;have h:s.toList.length=s.size:=by rw[Go.ByteArray.toList_eq];cases s;rfl
 rw[e,Bool.eq_iff_iff,beq_iff_eq,decide_eq_true_eq];constructor
 ·intro h';rw[h']at h;simpa using h.symm
 ·intro h';exact List.eq_nil_of_length_eq_zero oz
theorem HT{s:ByteArray}(h:(s.toList==ByteArray.toList ⟨#[]⟩)=false):0<s.size:=by
 rw[G7,decide_eq_false_iff_not]at h;omega
theorem a6{a b:Nat}(h:aa .lss (a:Int) (b:Int)=true):a<b:=by
 have:(a:Int)<b:=of_decide_eq_true h;omega
theorem tH{a b:Nat}(h:aa .lss (a:Int) (b:Int)=false):b<=a:=by
 have:¬(a:Int)<b:=of_decide_eq_false h;omega
theorem Rq{a b:Nat}{p:Bool}(h:cond (aa .lss (a:Int) (b:Int)) p false=true):a<b/\p=true:=by
 cases h1:aa .lss (a:Int) (b:Int)
 ·rw[h1]at h;cases h
 ·rw[h1]at h;exact⟨a6 h1,h⟩
theorem Ma{a b:Nat}{p:Bool}(h:cond (aa .lss (a:Int) (b:Int)) p false=false):a<b->p=false:=by
 intro h0;have h1:aa .lss (a:Int) (b:Int)=true:=decide_eq_true (by omega:(a:Int)<b);rw[h1]at h;exact h
theorem Rh{s:ByteArray}(h:cond (s.toList==ByteArray.toList ⟨#[]⟩) true (!eL (dX s 0))=true):fe s=0:=by
 unfold fe;rw[Yk];rintro⟨h1,h2⟩;rw[G7,decide_eq_false oz,h2]at h;cases h
theorem LH{s:ByteArray}(h:cond (s.toList==ByteArray.toList ⟨#[]⟩) true (!eL (dX s 0))=false):0<s.size/\eL (dX s 0)=true:=by
 cases h1:(s.toList==ByteArray.toList ⟨#[]⟩)
 ·rw[h1]at h;exact⟨HT h1,by simpa using h⟩
 ·rw[h1]at h;cases h
theorem EO{s:ByteArray}{i:Nat}(h:s.size<=i):dX s i=0:=by
 unfold dX;have:s.data.size<=i:=h;simp[XI,Array.getElem?_eq_none this]
theorem V3(s:ByteArray):cond (cond (aa .gtr (fe s:Int) 0) (aa .eql (fe s:Int) (s.size:Int)) false) (aa .leq (fe s:Int) 24) false=gL s:=by
 rw[TX,Bool.eq_iff_iff,decide_eq_true_eq];cases h1:aa .gtr (fe s:Int) 0
 ·have:¬(fe s:Int)>0:=of_decide_eq_false h1;simp;omega
 ·have h1:(fe s:Int)>0:=of_decide_eq_true h1;cases h2:aa .eql (fe s:Int) (s.size:Int)
  ·have : (fe s : Int) ≠ s.size := by simpa [aa] using h2
   simp;omega
  ·have h2:(fe s:Int)=s.size:=eq_of_beq h2
   have h3:aa .leq (fe s:Int) 24=true↔fe s<=24:=by
    show decide ((fe s:Int)<=24)=true↔_;rw[decide_eq_true_eq];omega
   simp only[cond_true,h3];omega
theorem Wd(s:ByteArray):cond (cond (aa .gtr (s.size:Int) 0) (aa .leq (s.size:Int) 24) false) (aa .eql (((if eL (dX s 0)then fw s 0 s.size else 0:Nat)):Int) (s.size:Int)) false=gL s:=by
 cases h1:aa .gtr (s.size:Int) 0
 ·have h1:¬(s.size:Int)>0:=of_decide_eq_false h1;unfold gL;rw[decide_eq_false (show ¬(0<s.size/\s.size<=24) by omega)];rfl
 ·have h1:(s.size:Int)>0:=of_decide_eq_true h1;cases h2:aa .leq (s.size:Int) 24
  ·have h2:¬(s.size:Int)<=24:=of_decide_eq_false h2;unfold gL;rw[decide_eq_false (show ¬(0<s.size/\s.size<=24) by omega)];rfl
  ·have h2:(s.size:Int)<=24:=of_decide_eq_true h2;rw[Rl s oz oz];simp only[cond_true];rw[Bool.eq_iff_iff,decide_eq_true_eq];generalize(if eL (dX s 0)=true then fw s 0 s.size else 0)=m;show(((m:Int)==(s.size:Int))=true)↔_;rw[beq_iff_eq];omega
theorem tT{α:Type}(sz:Nat)(f:α->AV)(l:List α)(n:Nat):AV.lst sz (((l.map f).drop 0).take (n-0))=.lst sz ((l.take n).map f):=by
 rw[Nat.sub_zero,Yh,map_take]
theorem sO{α:Type}{l:List α}{i k:Nat}{x:α}(h:(l.take i)[k]?=some x):l[k]?=some x/\k<i:=by
 rw[X0]at h;split at h
 ·rename_i hk;exact⟨h,hk⟩
 ·cases h
theorem HN(i:Int)(n:Nat):cond (aa .geq i 0) (aa .lss i (n:Int)) false=bu i n:=by
 unfold bu;rw[Bool.eq_iff_iff,decide_eq_true_eq];cases h:aa .geq i 0
 ·have:¬i>=0:=of_decide_eq_false h;simp;omega
 ·have h:i>=0:=of_decide_eq_true h;show decide (i<(n:Int))=true↔_;rw[decide_eq_true_eq];omega
theorem cW{i:Int}{n:Nat}(h:bu i n=true):0<=i/\i<n:=of_decide_eq_true h
theorem oU{p q:Bool}(h:cond (!p) true (!q)=true):p=false\/q=false:=by cases p <;> cases q <;> simp_all
theorem od{p q:Bool}(h:cond (!p) true (!q)=false):p=true/\q=true:=by cases p <;> cases q <;> simp_all
theorem dg{p:Bool}(h:(!p)=true):p=false:=by cases p <;> simp_all
theorem da{p:Bool}(h:(!p)=false):p=true:=by cases p <;> simp_all
theorem jI{a b:Nat}(h:aa .gtr (a:Int) (b:Int)=true):b<a:=by
 have:(a:Int)>b:=of_decide_eq_true h;omega
theorem gX{a b:Nat}(h:aa .gtr (a:Int) (b:Int)=false):a<=b:=by
 have:¬(a:Int)>b:=of_decide_eq_false h;omega
theorem bc{a b:Nat}(hle:a<=b)(h:aa .lss (a:Int) (b:Int)=false):a=b:=by have:=tH h;omega
theorem cH{x y:Int}(h:aa .eql x y=true):x=y:=by simpa[aa]using h
theorem dm{x y:Int}(h:aa .eql x y=false):x≠y:=by simpa[aa]using h
theorem mR{x y:Int}(h:aa .neq x y=true):x≠y:=by simpa[aa]using h
theorem ui{x y:Int}(h:aa .neq x y=false):x=y:=by simpa[aa]using h
theorem CT{k:Int}(h:cond (aa .neq k 0) (aa .neq k 1) false=true):k≠0/\k≠1:=by
 cases h1:aa .neq k 0
 ·rw[h1]at h;cases h
 ·rw[h1]at h;exact⟨mR h1,mR h⟩
theorem Eo{k:Int}(h:cond (aa .neq k 0) (aa .neq k 1) false=false):¬(k≠0/\k≠1):=by
 rintro⟨h1,h2⟩;have e1:aa .neq k 0=true:=by simpa[aa]using h1
 have e2:aa .neq k 1=true:=by simpa[aa]using h2
 rw[e1,e2]at h;cases h
theorem E8{p q r s:Rat}(h:cond (aa .eql (bK (p-q)) 0) (aa .eql (bK (r-s)) 0) false=true):p=q/\r=s:=by
 cases h1:aa .eql (bK (p-q)) 0
 ·rw[h1]at h;cases h
 ·rw[h1]at h;have e1:=qL (cH h1);have e2:=qL (cH h);exact⟨by grind,by grind⟩
theorem G8{p q r s:Rat}(h:cond (aa .eql (bK (p-q)) 0) (aa .eql (bK (r-s)) 0) false=false):¬(p=q/\r=s):=by
 rintro⟨rfl,rfl⟩;rw[Rat.sub_self,Rat.sub_self]at h;cases h
theorem qO{l:Li}{i:Int}(h:bu i l.bo.length=true):∃b,l.bo[i.toNat]?=some b/\cA l i=b.pts/\b∈l.bo/\0<=i:=by
 have h1:=cW h;obtain⟨b,hb⟩:=aw (l:=l.bo) (i:=i.toNat) oz;exact⟨b,hb,by unfold cA;rw[aq hb],Xx hb,h1.1⟩
theorem uu{ps:List Mk}{i:Int}(h:bu i ps.length=true):∃m,ps[i.toNat]?=some m/\ps.getD i.toNat default=m/\m∈ps/\0<=i:=by
 have h1:=cW h;obtain⟨m,hm⟩:=aw (l:=ps) (i:=i.toNat) oz;exact⟨m,hm,aq hm,Xx hm,h1.1⟩
theorem oT{x y:Int}:aa .eql x y=decide (x=y):=by
 show(x==y)=decide (x=y);rw[Bool.eq_iff_iff,beq_iff_eq,decide_eq_true_eq]
theorem H4{n:Nat}(h:aa .eql (n:Int) 0=true):n=0:=by have:=cH h;omega
theorem Dd{n:Nat}(h:aa .eql (n:Int) 0=false):n≠0:=by have:=dm h;omega
theorem Mn{p q r s:Rat}:cond (aa .eql (bK (p-q)) 0) (aa .eql (bK (r-s)) 0) false=decide (p=q/\r=s):=by
 cases h:cond (aa .eql (bK (p-q)) 0) (aa .eql (bK (r-s)) 0) false
 ·exact(decide_eq_false (G8 h)).symm
 ·exact(decide_eq_true (E8 h)).symm
theorem Wb{e:Nat}{q:Rat}(h:Qb e q):Cd q.den (2^e) [q]:=by
 refine⟨Nat.pos_of_ne_zero q.den_nz,fun p hp=>?_⟩;rw[List.mem_singleton.1 hp];refine⟨q.num,?_,Nat.le_of_lt h.1⟩
 have h0:((q.den:Int):Rat)≠0:=by
  intro h0;have:(q.den:Int)=0:=Rat.intCast_eq_zero_iff.1 h0;have:=q.den_nz;omega
 have h1:q=(q.num:Rat)/((q.den:Int):Rat):=by
  rw[<- Rat.divInt_eq_div];exact(Rat.num_divInt_den q).symm
 have h2:=Rat.div_mul_cancel (a:=(q.num:Rat)) h0;rw[<- h1]at h2;exact h2
theorem FQ{e:Nat}:∀{l:List Rat},(∀q∈l,Qb e q)->∃D N,Cd D N l/\D<=2^(e*l.length)/\N<=2^(e*l.length+e)
 |[],_=>⟨1,1,Cd.nil oz,by simp,Nat.one_le_two_pow⟩
 |q::l,h=>by
  obtain⟨D,N,h1,h2,h3⟩:=FQ (l:=l) (fun p hp=>h p (X8 _ hp));have hq:=h q (X7 ..);have e1:e*(q::l).length=e*l.length+e:=by rw[XK,Nat.mul_add,Nat.mul_one]
  have k1:=(h1.scale (Nat.pos_of_ne_zero q.den_nz))
  have k2:=((Wb hq).scale h1.1)
  rw[Nat.mul_comm]at k2;refine⟨D*q.den,2^(e*l.length+e+e),?_,?_,?_⟩
  ·refine(Cd.app (a:=[q]) (k2.mono ?_) (k1.mono ?_))
   ·refine XW (XL _ h2) ?_;rw[<- Yb];exact cM oz
   ·refine XW (Nat.mul_le_mul h3 (Nat.le_of_lt hq.2)) ?_;rw[<- Yb];exact XD _
  ·rw[e1,Yb];exact Nat.mul_le_mul h2 (Nat.le_of_lt hq.2)
  ·rw[e1];exact XD _
def Rt.wok(r:Rt):Prop:=Ws r.num/\Ws r.den
theorem Rt.wok.ok{r:Rt}{k:Nat}(h:r.wok)(hn:r.num.length<=k)(hd:r.den.length<=k)(hk:k<=100):r.ok:=⟨h.1,h.2,by unfold fH;omega,by unfold fH;omega⟩
theorem Rt.ok.wok{r:Rt}(h:r.ok):r.wok:=⟨h.1,h.2.1⟩
def oP(l:List (List Rt)):Prop:=∀x∈l,(∀r∈x,r.wok)/\x.length<=281474976710656
theorem oP.app{a b:List (List Rt)}(ha:oP a)(hb:oP b):oP (a++b):=fun x hx=>by
 rcases List.mem_append.1 hx with h |h
 ·exact ha x h
 ·exact hb x h
structure Pl where
  c:List Rt
  s:List Rt
  x:List Rt
  y:List Rt
instance:Inhabited Pl:=⟨⟨[],[],[],[]⟩⟩
def Pl.av(p:Pl):AV:=.agg [nR p.c,nR p.s,nR p.x,nR p.y]
def Pl.l(p:Pl):List (List Rt):=[p.c,p.s,p.x,p.y]
structure As where
  rs:List (List Rt)
  bs:List Pl
  ms:List Int
def As.av(a:As):AV:=.agg [.lst 1 (a.rs.map nR),.lst 4 (a.bs.map Pl.av),.lst 1 (a.ms.map i64)]
structure As.ok(a:As):Prop where
  rs:oP a.rs
  rl:a.rs.length<=281474976710656
  bs:∀b∈a.bs,oP b.l
  bl:a.bs.length<=281474976710656
structure AB(a:As):Prop where
  tr:TR a.rs 400000000
  nr:∀b∈a.bs,∀x∈b.l,NR x 50000000000
  ll:a.rs.length<=8
  bl:a.bs.length<=30
theorem RB.mono{r r':Nat}{ts:LL}(h:RB r ts)(hr:r<=r'):RB r' ts:=by
 obtain⟨D,N,h0,h1,h2,h3⟩:=h;exact⟨D,N,h0,h1,XW h2 (cM hr),XW h3 (cM hr)⟩
theorem TR.mono{rs:List (List Rt)}{r r':Nat}(h:TR rs r)(hr:r<=r')(hl:r'<=5000000000):TR rs r':=⟨h.ok,h.len,h.ll,h.rb.mono hr,hl,h.three⟩
theorem NR.mono{x:List Rt}{e f:Nat}(h:NR x e)(hf:e<=f):NR x f:=⟨h.ok,h.len,h.cb.mono hf⟩
theorem mr{α:Type}{l:List α}{p:α->Bool}{i:Nat}{x:α}(h:(l.take i).all p=true)(hx:l[i]?=some x)(hp:p x=true):(l.take (i+1)).all p=true:=by
 rw[dR hx,List.all_append,h];simp[hp]
theorem kO{α:Type}{l:List α}{p:α->Bool}{i:Nat}{x:α}(hx:l[i]?=some x)(hp:p x=false):l.all p=false:=by
 refine Bool.eq_false_iff.2 (fun h=>?_);rw[X9]at h;rw[h x (Xx hx)]at hp;cases hp
theorem mf{α:Type}{l:List α}{p:α->Bool}{i:Nat}(hi:i=l.length)(h:(l.take i).all p=true):l.all p=true:=by
 rw[hi,XP]at h;exact h
structure Li.okw(l:Li):Prop where
  name:l.name.size<=281474976710656
  pts:∀b∈l.bo,b.name.size<=281474976710656/\b.pts.length<=281474976710656/\∀m∈b.pts,m.name.size<=281474976710656/\m.x.wok/\m.y.wok
  jnames:∀j∈l.jo,j.name.size<=281474976710656
  dnames:∀d∈l.dv,d.name.size<=281474976710656
  lb:l.bo.length<=281474976710656
  lj:l.jo.length<=281474976710656
  ld:l.dv.length<=281474976710656
def lS(m:Mk):Bool:=decide (m.x.num.length<=4/\m.x.den.length<=4/\m.y.num.length<=4/\m.y.den.length<=4)
def oR(b:Bd):Bool:=decide (b.pts.length<=30)&&b.pts.all lS
def io(l:Li):Bool:=l.bo.all oR&&decide (l.bo.length<=30/\l.jo.length<=60/\l.dv.length<=30)
theorem Lh{m:Mk}(h:lS m=true)(hx':m.x.wok)(hy':m.y.wok):m.ok:=by
 unfold lS at h;rw[decide_eq_true_eq]at h;have hx:=hx'.ok h.1 h.2.1 oz;have hy:=hy'.ok h.2.2.1 h.2.2.2 oz;exact⟨hx,hy,(Rt.qb hx (k:=4) oz h.1 h.2.1).mono oz,(Rt.qb hy (k:=4) oz h.2.2.1 h.2.2.2).mono oz⟩
theorem uT{l:Li}(h:io l=true)(ho:l.okw):l.ok:=by
 unfold io at h;rw[XF,X9]at h;refine⟨ho.name,fun b hb=>?_,ho.jnames,ho.dnames,ho.lb,ho.lj,ho.ld⟩;have h1:=h.1 b hb;unfold oR at h1;rw[XF,X9]at h1;obtain⟨o1,o2,o3⟩:=ho.pts b hb;exact⟨fun m hm=>Lh (h1.2 m hm) (o3 m hm).2.1 (o3 m hm).2.2,fun m hm=>(o3 m hm).1,o2,o1⟩
structure Pse.wok(p:Pse):Prop where
  t:p.turn.t.wok
  x:p.at_.x.wok
  y:p.at_.y.wok
theorem Pse.wok.rs{p:Pse}(h:p.wok):oP [[p.turn.t,p.at_.x],[p.at_.y]]:=by
 intro x hx;simp only[X6,XV,or_false]at hx;rcases hx with rfl |rfl
 ·refine ⟨fun r hr => ?_, by show 2 <= _; omega⟩;simp only [X6,XV,or_false] at hr;rcases hr with rfl | rfl
  ·exact h.t
  ·exact h.x
 ·refine⟨fun r hr => ?_,by show 1<=_;omega⟩;simp only[X6,XV,or_false]at hr;subst hr;exact h.y
theorem Ac{n k:Nat}:aa .leq (n:Int) (k:Int)=decide (n<=k):=by simp only[aa];exact decide_eq_decide.2 oz
theorem lN{n k:Nat}:aa .gtr (n:Int) (k:Int)=decide (k<n):=by simp only[aa];exact decide_eq_decide.2 oz
theorem iL(a b:Bool):cond a true b=(a||b):=by cases a <;> rfl
theorem Xa{l:Li}(h:l.bo.all oR=true) :
  cond (cond (aa .leq (l.bo.length:Int) 30) (aa .leq (l.jo.length:Int) 60) false) (aa .leq (l.dv.length:Int) 30) false=io l:=by
 unfold io;have e1:=Ac (n:=l.bo.length) (k:=30);have e2:=Ac (n:=l.jo.length) (k:=60);have e3:=Ac (n:=l.dv.length) (k:=30);rw[h,Bool.true_and,iC,iC];refine(congr (congrArg _ (congr (congrArg _ e1) e2)) e3).trans ?_;rw[<- Bool.decide_and,<- Bool.decide_and];exact decide_eq_decide.2 ⟨fun h=>⟨h.1.1,h.1.2,h.2⟩,fun h=>⟨⟨h.1,h.2.1⟩,h.2.2⟩⟩
theorem HQ{m:Mk}:cond (cond (cond (aa .gtr (m.x.num.length:Int) 4) true (aa .gtr (m.x.den.length:Int) 4)) true (aa .gtr (m.y.num.length:Int) 4)) true (aa .gtr (m.y.den.length:Int) 4)=!lS m:=by
 unfold lS;have e1:=lN (n:=m.x.num.length) (k:=4);have e2:=lN (n:=m.x.den.length) (k:=4);have e3:=lN (n:=m.y.num.length) (k:=4);have e4:=lN (n:=m.y.den.length) (k:=4);rw[iL,iL,iL];refine(congr (congrArg _ (congr (congrArg _ (congr (congrArg _ e1) e2)) e3)) e4).trans ?_;rw[<- Bool.decide_or,<- Bool.decide_or,<- Bool.decide_or,<- decide_not];exact decide_eq_decide.2 oz
theorem Xw{m:Mk}(h:cond (cond (cond (aa .gtr (m.x.num.length:Int) 4) true (aa .gtr (m.x.den.length:Int) 4)) true (aa .gtr (m.y.num.length:Int) 4)) true (aa .gtr (m.y.den.length:Int) 4)=true):lS m=false:=by
 rw[HQ]at h;exact dg h
theorem R5{m:Mk}(h:cond (cond (cond (aa .gtr (m.x.num.length:Int) 4) true (aa .gtr (m.x.den.length:Int) 4)) true (aa .gtr (m.y.num.length:Int) 4)) true (aa .gtr (m.y.den.length:Int) 4)=false):lS m=true:=by
 rw[HQ]at h;exact da h
open Go.Proofs
theorem Va{m:List Nat}{n:Nat}(hm:Ws m)(hn:n<=m.length)(hv:val (m.take n)=val m)(h0:n≠0)(hw:ah m (n-1)≠0) :
  AV.fz 24 1 ([]++((m.map u32).drop 0).take (n-0)) (.ms 24 1 0 (0+(((m.map u32).drop 0).take (n-0)).length))=ws (ofNat (val m)):=by
 have h1:m.take n=ofNat (val m):=by
  refine HJ (fun x hx=>hm x (List.mem_of_mem_take hx)) ?_ hv;intro x hx;rw[List.getLast?_eq_getElem?,XO,Nat.min_eq_left hn,X0,Yl oz,iY oz]at hx;cases hx;exact hw
 rw[uR (by simp),<- h1,ws];simp[map_take,Nat.min_eq_left hn,List.take_take]
theorem Ol(b:Bool)(n:Nat):AV.agg [bl (bif b then aa BinOp.gtr (↑(ofNat n).length) 0 else false),ws (ofNat n)]=zA (sgn b n):=by
 have h1:(sgn b n).natAbs=n:=by unfold sgn;split <;> omega
 unfold zA ofInt Wh.av;dsimp only;rw[h1];congr 3
 have h2:(ofNat n).length=0↔n=0:=by
  rw[List.length_eq_zero_iff];constructor
  ·intro h;have:=cg n;rw[h]at this;exact this.symm
  ·intro h;rw[h];rfl
 cases b with
 |false=>simp[sgn]
 |true=>simp[sgn,aa];omega
theorem qo(m:List Nat)(i:Nat)(hm:Ws m):FP 397 [ws m,i64 i] (u64 (ah m i)):=by
 refine aj func397 ?_;refine gl ?_;refine gC (fun t8=>?_) (fun t8=>?_)
 ·simp[aa]at t8;have:=bW hm i;refine gi (ci (i:=i) t8) ?_;refine gv (u64_in oz) ?_;refine af ?_;rfl
 simp[aa]at t8;refine af ?_;simp[u64,p6 t8]
theorem lX(m:List Nat)(hm:Ws m)(hb:m.length<=aD):FP 373 [ws m] (ws (ofNat (val m))):=by
 refine aj func373 ?_ (0,0);refine r8 (t:=0) rfl (fun hl=>?_);refine go ?_;refine gl ?_;refine aW [0] [] (fun(n:Nat)=>[(3,some (i64 n))]) (fun _=>[]) (fun n=>n<=m.length/\val (m.take n)=val m) (fun n=>n) m.length ⟨XD _,by rw[XP]⟩ ?_;rintro n ⟨hn,hv⟩ K1 J1;refine oF (fun h=>(ji (by simp[aa]at h;omega) oz)) ?_;refine oO (fun h=>(ci (i:=n-1) (by simp[aa]at h;omega))) ?_;refine gC (fun t15=>?_) (fun t15=>?_)
 ·have t15 : 0 < n /\ ah m (n - 1) = 0 := by simpa [aa] using t15
  refine ga (ji oz oz) ?_;exact aO J1 (n-1) ⟨by omega,by have h:=@dj m (n-1);rw[show n-1+1=n by omega,t15.2]at h;simp at h;omega⟩
 have t15:0<n->ah m (n-1)≠0:=by simpa[aa]using t15
 refine gC (fun t19=>?_) (fun t19=>?_)
 ·have h0 : n = 0 := by simpa [aa] using t19
  subst h0;refine gR ?_;exact l0 (by rw[show val m=0 from hv.symm.trans rfl];exact Sub.nil _ _ _)
 have h0:n≠0:=by simpa[aa]using t19
 refine gs (iK T43 rfl T350 rfl rfl rfl) ?_;refine gs (eW (.tmp rfl) (.none _) (.some _ (.tmp rfl) oz) T43 rfl T350 rfl oz (by simp;omega) rfl) ?_;refine gs (bX (.tmp rfl) rfl rfl (.tmp rfl) T43 rfl T350 rfl rfl (by unfold aD at hb;simp only[XO,List.length_drop,XA];omega) rfl rfl) ?_ (77777,0);refine gW (Wk.freeze (k:=24) rfl) ?_;refine go ?_;refine gR ?_;exact I7 (Va hm hn hv h0 (t15 oz))
theorem wG(w:Wh)(h:w.ok):FP 303 [w.av] (bl w.valid):=by
 have hl:w.mag.length<=a8:=h.2;refine aj func303 ?_;refine gl ?_;refine gC (fun t6=>?_) (fun t6=>?_)
 ·have h0 : w.mag = [] := by simpa [aa] using t6
  refine af ?_;simp[bl,Wh.valid,h0]
 have h0:w.mag.length≠0:=by simpa[aa]using t6
 refine gl ?_;refine ga (ji oz oz) ?_;refine gi (ci (i:=w.mag.length-1) oz) ?_;refine af ?_;have h1:w.mag≠[]:=fun h=>h0 (by rw[h];rfl)
 simp only[bl,Wh.valid,Yk h1,List.getLast?_eq_getElem?,iY (show w.mag.length-1<w.mag.length by omega),aa];congr 2;generalize ah w.mag _=x;rw[Bool.eq_iff_iff];simp
theorem kf(w:Wh)(h:w.ok):FP 325 [w.av] (ws w.m):=by
 refine aj func325 ?_;refine gc (wG w h) ?_;refine gC (fun t5=>?_) (fun t5=>?_)
 ·have h0 : w.valid = false := by simpa [aa] using t5
  refine gR ?_;exact l0 (by rw[show w.m=[] by simp[Wh.m,h0]];exact Sub.nil _ _ _)
 have h0:w.valid=true:=by simpa[aa]using t5
 refine af ?_;simp only[Wh.m,h0];rfl
theorem iS(w:Wh)(h:w.ok):FP 324 [w.av] (bl w.n):=by
 refine aj func324 ?_;refine gc (wG w h) ?_;refine af ?_;simp only[Wh.n,bl];cases w.valid <;> rfl
theorem jR(b:Bool)(m:List Nat)(hm:Ws m)(hb:m.length<=aD):FP 323 [bl b,ws m] (zA (sgn b (val m))):=by
 refine aj func323 ?_;refine gc (lX m hm hb) ?_;refine cQ ?_;refine af ?_;exact Ol b (val m)
theorem zV(a b:List Nat)(ha:Ws a)(hb:Ws b)(na:Nz a)(nb:Nz b):FP 366 [ws a,ws b] (i64 (if val a<val b then -1 else if val b<val a then 1 else 0)):=by
 refine aj func366 ?_ (0,0);refine r8 (t:=0) rfl (fun hla=>?_);refine r8 (t:=1) rfl (fun hlb=>?_);unfold a8 at hla hlb;refine go ?_;refine gl ?_;refine gl ?_;refine gC (fun t10=>?_) (fun t10=>?_)
 ·have h0 : a.length ≠ b.length := by simpa [aa, Int.ofNat_inj] using t10
  refine gl ?_;refine gl ?_;refine gC (fun t15=>?_) (fun t15=>?_)
  ·have h1 : a.length < b.length := by simpa [aa] using t15
   have h2:=tK ha nb h1;refine af ?_;simp[i64,h2]
  have h1:b.length<=a.length:=by simpa[aa]using t15
  have h2:=tK hb na (show b.length<a.length by omega);refine af ?_;simp[i64,h2,Nat.lt_asymm h2]
 have h0:a.length=b.length:=by simpa[aa,Int.ofNat_inj]using t10
 refine gl ?_;refine ga (eg oz) ?_;refine aW [0,1] [] (fun(n:Nat)=>[(5,some (i64 ((n:Int)-1)))]) (fun _=>[]) (fun n=>n<=a.length/\a.drop n=b.drop n) (fun n=>n) a.length ⟨XD _,by rw[List.drop_length,h0,List.drop_length]⟩ ?_ (h1:=(.cons rfl (Sub.int rfl) .nil));rintro n ⟨hn,hd⟩ K1 J1;refine gC (fun t20=>?_) (fun t20=>?_)
 ·have hn0 : 1 <= n := by have := t20; simp [aa] at this; omega
  refine gi (gw (n:=n-1) oz (by first |omega |(simp;omega))) ?_;refine gi (gw (n:=n-1) oz (by first |omega |(simp;omega))) ?_;refine gD ?_;refine gC (fun t31=>?_) (fun t31=>?_)
  ·have h3 : ah a (n - 1) ≠ ah b (n - 1) := by simpa [aa, Int.ofNat_inj] using t31
   refine gi (gw (n:=n-1) oz (by first |omega |(simp;omega))) ?_;refine gi (gw (n:=n-1) oz (by first |omega |(simp;omega))) ?_;refine gD ?_;refine gC (fun t40=>?_) (fun t40=>?_)
   ·have h4 : ah a (n - 1) < ah b (n - 1) := by simpa [aa] using t40
    have h5:=Es ha h0 oz (by rw[Nat.sub_add_cancel hn0];exact hd) h4;refine af ?_;simp[i64,h5]
   have h4:ah b (n-1)<ah a (n-1):=by have:ah b (n-1)<=ah a (n-1):=(by simpa[aa]using t40);omega
   have h5:=Es hb h0.symm oz (by rw[Nat.sub_add_cancel hn0];exact hd.symm) h4;refine af ?_;simp[i64,h5,Nat.lt_asymm h5]
  have h3:ah a (n-1)=ah b (n-1):=by simpa[aa,Int.ofNat_inj]using t31
  refine ga (eg oz) ?_;exact aO J1 (n-1) ⟨by omega,by rw[List.drop_eq_getElem_cons (show n-1<a.length by omega),List.drop_eq_getElem_cons (show n-1<b.length by omega),Nat.sub_add_cancel hn0,hd];congr 1;exact VP oz oz h3⟩
 have hn0:n=0:=by have:=t20;simp[aa]at this;omega
 subst hn0;refine af ?_;simp at hd;simp[i64,hd]
theorem JC(a b:List Nat)(ha:Ws a)(hb:Ws b)(la:a.length<aD)(lb:b.length<aD):FP 370 [ws a,ws b] (ws (ofNat (val a+val b))):=by
 unfold aD at la lb;obtain⟨n,hn⟩:∃n,n=max a.length b.length+1:=⟨_,rfl⟩
 refine aj func370 ?_;refine gl ?_;refine gl ?_;refine gs (vq (.tmp rfl) (.tmp rfl) rfl) ?_;refine ga (show _=(n:Int) by rw[du oz];omega) ?_;refine gs (gV (.tmp rfl) T43 rfl T350 rfl rfl oz (by dsimp only;omega) rfl) ?_;refine iQ [0,1,16] [] (fun(out:List Nat)(c i:Nat)=>[(5,some (.ms 14 1 0 n)),(6,some (u64 c)),(17,some (i64 i))]) (fun out _ _=>[(14,some (.row 1 (out.map u32)))]) (fun out c i=>out.length=n/\i<=n/\Ws out/\c<=1/\val (out.take i)+c*4294967296^i=val (a.take i)+val (b.take i)) (fun _ _ i=>n-i) (List.replicate n 0) 0 0 ⟨by simp,by omega,lA n,by omega,by simp[val]⟩ ?_ (h2:=(.cons rfl (BlkSub.of (by rw[Yc];rfl)) .nil))
 rintro out c i ⟨ho,hi,hw,hc,hv⟩ K1 J1;refine gC (fun t18=>?_) (fun t18=>?_) (st2:=(10,0))
 ·have hin : i < n := by simpa [aa] using t18
  have h1:=bW ha i;have h2:=bW hb i;refine gc (by apply qo <;> assumption) ?_;refine gc (by apply qo <;> assumption) ?_;refine ga (iF oz) ?_;refine ga (iF oz) ?_;refine gv (dK _) ?_;refine gs (b8 (n:=i) (.tmp rfl) (.tmp rfl) T43 rfl T350 rfl oz (by first |omega |(simp;omega)) rfl) ?_;refine gs (dT (.tmp rfl) rfl (ci (i:=i) oz) rfl (.tmp rfl) rfl rfl T350 rfl rfl) ?_;refine gs (eM (.tmp rfl) (.const _) oz (gI _ 32 oz) rfl) ?_;refine ga (du oz) ?_;exact gS J1 (out.set i ((c+(ah a i+ah b i))%4294967296)) ((c+(ah a i+ah b i))/4294967296) (i+1) ⟨by simp[ho],by omega,f7 hw oz,by omega,by rw[lO oz,dj,dj,Nat.pow_succ];exact yb hv⟩ (hw:=Wk.of aZ (.cons rfl (BlkSub.of (by rw[Yg];rfl)) .nil))
 have hin:i=n:=by have:n<=i:=(by simpa[aa]using t18);omega
 refine gW ((Wk.freeze (k:=14) rfl).trans<|Wk.of (sl:=[(5,some (ws out))]) (hp:=[]) (.cons rfl (Sub.of (bJ (by simp[ho]))) .nil) .nil) ?_;refine gc (lX out hw (by unfold aD;omega)) ?_;refine af ?_;rw[DA ha hb hn ho (hin▸hv)]
theorem Ba(a b:List Nat)(ha:Ws a)(hb:Ws b)(la:a.length<=aD)(lb:b.length<=a.length)(hle:val b<=val a):FP 371 [ws a,ws b] (ws (ofNat (val a-val b))):=by
 have la':=la;unfold aD at la;obtain⟨n,hn⟩:∃n,n=a.length:=⟨_,rfl⟩
 refine aj func371 ?_;refine gl ?_;refine gs (gV (.tmp rfl) T43 rfl T350 rfl rfl oz (by dsimp only;omega) rfl) ?_;refine iQ [0,1,13] [] (fun(out:List Nat)(c i:Nat)=>[(5,some (.ms 11 1 0 a.length)),(6,some (u64 c)),(14,some (i64 i))]) (fun out _ _=>[(11,some (.row 1 (out.map u32)))]) (fun out c i=>out.length=a.length/\i<=a.length/\Ws out/\c<=1/\val (out.take i)+val (b.take i)=val (a.take i)+c*4294967296^i) (fun _ _ i=>a.length-i) (List.replicate a.length 0) 0 0 ⟨by simp,by omega,lA _,by omega,by simp[val]⟩ ?_ (h2:=(.cons rfl (BlkSub.of (by rw[Yc];rfl)) .nil))
 rintro out c i ⟨ho,hi,hw,hc,hv⟩ K1 J1;refine gC (fun t15=>?_) (fun t15=>?_) (st2:=(10,0))
 ·have hin : i < a.length := by simpa [aa] using t15
  have h1:=bW ha i;have h2:=bW hb i;have h3:=Gp h1 h2 hc hv;obtain⟨d,hd⟩:∃d,d=if ah b i+c<=ah a i then ah a i-ah b i-c else ah a i+18446744073709551616-ah b i-c:=⟨_,rfl⟩
  rw[<- hd]at h3;have hd1:d<18446744073709551616:=by rw[hd];split <;> omega
  refine gi (gw (n:=i) oz (by first |omega |(simp;omega))) ?_;refine gv (u64_in oz) ?_;refine gc (by apply qo <;> assumption) ?_;refine ga (kL oz oz) ?_;refine ga (show _=(d:Int) by rw[kL (by split <;> omega) oz,hd];congr 1;(repeat' split) <;> omega) ?_;refine gD ?_;refine gv (dK _) ?_;refine gs (b8 (n:=i) (.tmp rfl) (.tmp rfl) T43 rfl T350 rfl oz (by first |omega |(simp;omega)) rfl) ?_;refine gs (dT (.tmp rfl) rfl (ci (i:=i) oz) rfl (.tmp rfl) rfl rfl T350 rfl rfl) ?_;refine gs (eM (.tmp rfl) (.const _) oz (gI _ 63 oz) rfl) ?_;refine ga (du oz) ?_;exact gS J1 (out.set i (d%4294967296)) (d/2^63) (i+1) ⟨by simp[ho],by omega,f7 hw oz,by omega,by rw[lO oz,dj,dj,Nat.pow_succ];exact h3⟩ (hw:=Wk.of aZ (.cons rfl (BlkSub.of (by rw[Yg];rfl)) .nil))
 have hin:i=a.length:=by have:a.length<=i:=(by simpa[aa]using t15);omega
 refine gW ((Wk.freeze (k:=11) rfl).trans<|Wk.of (sl:=[(5,some (ws out))]) (hp:=[]) (.cons rfl (Sub.of (bJ (by simp[ho]))) .nil) .nil) ?_;refine gc (lX out hw (by rw[ho];exact la')) ?_;refine af ?_;rw[QL hw ho hle lb (hin▸hv)]
theorem Ut(a b:List Nat)(ha:Ws a)(hb:Ws b)(la:a.length+b.length<=aD):FP 372 [ws a,ws b] (ws (ofNat (val a*val b))):=by
 have la':=la;unfold aD at la;refine aj func372 ?_;refine gl ?_;refine gl ?_;refine ga (iZ (by unfold a8;omega) (by unfold a8;omega)) ?_;refine gs (gV (.tmp rfl) T43 rfl T350 rfl rfl oz (by dsimp only;omega) rfl) ?_;refine gl ?_;refine gz [0,1,17,18] [] (fun(out:List Nat)(i:Nat)=>[(5,some (.ms 16 1 0 (a.length+b.length))),(19,some (i64 i))]) (fun out _=>[(16,some (.row 1 (out.map u32)))]) (fun out i=>out.length=a.length+b.length/\i<=a.length/\Ws out/\val (out.take (i+b.length))=val (a.take i)*val b) (fun _ i=>a.length-i) (List.replicate (a.length+b.length) 0) 0 ⟨by simp,by omega,lA _,by simp[val,vl]⟩ ?_ (h2:=(.cons rfl (BlkSub.of (by rw[Yc];rfl)) .nil))
 rintro out i ⟨ho,hi,hw,hv⟩ K1 J1;refine gC (fun t20=>?_) (fun t20=>?_) (st2:=(15,0))
 ·have hin : i < a.length := by simpa [aa] using t20
  have h1:=bW ha i;refine gi (gw (n:=i) oz (by first |omega |(simp;omega))) ?_;refine gl ?_;refine iQ [0,1,17,18,19,6,7,24,25] [] (fun(o:List Nat)(c k:Nat)=>[(5,some (.ms 16 1 0 (a.length+b.length))),(8,some (u64 c)),(26,some (i64 k))]) (fun o _ _=>[(16,some (.row 1 (o.map u32)))]) (fun o c k=>o.length=a.length+b.length/\k<=b.length/\Ws o/\c<4294967296/\val (o.take (i+b.length))+c*4294967296^(i+k)=val (out.take (i+b.length))+4294967296^i*(ah a i*val (b.take k))) (fun _ _ k=>b.length-k) out 0 0 ⟨ho,by omega,hw,by omega,by simp[val]⟩ ?_
  rintro o c k ⟨ho2,hk,hw2,hc,hv2⟩ K2 J2;refine gC (fun t27=>?_) (fun t27=>?_)
  ·have hkn : k < b.length := by simpa [aa] using t27
   have h2:=bW hb k;have h3:=bW hw2 (i+k);have h4:=wN h1 h2;have h5:=Iu (x:=(c+(ah a i*ah b k+ah o (i+k)))%4294967296) (show i+k<o.length by omega) (show i+k<i+b.length by omega);have h6:=G9 h5 rfl hv2;refine gi (gw (n:=k) oz (by first |omega |(simp;omega))) ?_;refine gv (u64_in oz) ?_;refine gv (u64_in oz) ?_;refine ga (vR oz) ?_;refine ga (iZ (by unfold a8;omega) (by unfold a8;omega)) ?_;refine gs (b8 (n:=i+k) (.tmp rfl) (.tmp rfl) T43 rfl T350 rfl oz (by first |omega |(simp;omega)) rfl) ?_;refine gs (ez (.tmp rfl) rfl (ci (i:=i+k) oz) T350 rfl rfl rfl) ?_;refine gv (u64_in oz) ?_;refine ga (iF oz) ?_;refine ga (iF oz) ?_;refine ga (iZ (by unfold a8;omega) (by unfold a8;omega)) ?_;refine gv (dK _) ?_;refine gs (b8 (n:=i+k) (.tmp rfl) (.tmp rfl) T43 rfl T350 rfl oz (by first |omega |(simp;omega)) rfl) ?_;refine gs (dT (.tmp rfl) rfl (ci (i:=i+k) oz) rfl (.tmp rfl) rfl rfl T350 rfl rfl) ?_;refine gs (eM (.tmp rfl) (.const _) oz (gI _ 32 oz) rfl) ?_;refine ga (du oz) ?_;exact gS J2 (o.set (i+k) ((c+(ah a i*ah b k+ah o (i+k)))%4294967296)) ((c+(ah a i*ah b k+ah o (i+k)))/4294967296) (k+1) ⟨by simp[ho2],by omega,f7 hw2 oz,by omega,by rw[show i+(k+1)=(i+k)+1 from rfl,Nat.pow_succ,h6,dj];simp only[Yb];grind⟩ (hw:=Wk.of aZ (.cons rfl (BlkSub.of (by rw[Yg];rfl)) .nil))
  have hkn:k=b.length:=by have:b.length<=k:=(by simpa[aa]using t27);omega
  subst hkn;have h5:=lO (x:=c) (show i+b.length<o.length by omega);rw[XP]at hv2;refine gl ?_;refine ga (iZ (by unfold a8;omega) (by unfold a8;omega)) ?_;refine gv ((dK c).trans (by rw[Nat.mod_eq_of_lt hc])) ?_;refine gs (b8 (n:=i+b.length) (.tmp rfl) (.tmp rfl) T43 rfl T350 rfl oz (by first |omega |(simp;omega)) rfl) ?_;refine gs (dT (.tmp rfl) rfl (ci (i:=i+b.length) oz) rfl (.tmp rfl) rfl rfl T350 rfl rfl) ?_;refine ga (du oz) ?_;exact fU J1 (o.set (i+b.length) c) (i+1) ⟨by simp[ho2],by omega,f7 hw2 hc,by rw[show i+1+b.length=i+b.length+1 by omega,h5,dj];simp only[Yb]at *;grind⟩ (hw:=Wk.of aZ (.cons rfl (BlkSub.of (by rw[Yg];rfl)) .nil))
 have hin:i=a.length:=by have:a.length<=i:=(by simpa[aa]using t20);omega
 subst hin;rw[XP,eT oz]at hv;refine gW ((Wk.freeze (k:=16) rfl).trans<|Wk.of (sl:=[(5,some (ws out))]) (hp:=[]) (.cons rfl (Sub.of (bJ (by simp[ho]))) .nil) .nil) ?_;refine gc (lX out hw oz) ?_;refine af ?_;rw[hv]
theorem SD(a:List Nat)(w:Nat)(ha:Ws a)(la:a.length<=aD)(hw0:0<w)(hwB:w<4294967296):FP 391 [ws a,u32 w] (.tup [ws (ofNat (val a/w)),u32 (val a%w)]):=by
 have la':=la;unfold aD at la;refine aj func391 ?_;refine gl ?_;refine gs (gV (.tmp rfl) T43 rfl T350 rfl rfl oz (by dsimp only;omega) rfl) ?_;refine gl ?_;refine ga (eg oz) ?_;refine iQ [0,1] [] (fun(out:List Nat)(r i:Nat)=>[(6,some (.ms 11 1 0 a.length)),(7,some (u64 r)),(8,some (i64 ((i:Int)-1)))]) (fun out _ _=>[(11,some (.row 1 (out.map u32)))]) (fun out r i=>out.length=a.length/\i<=a.length/\Ws out/\r<w/\val (a.drop i)=w*val (out.drop i)+r) (fun _ _ i=>i) (List.replicate a.length 0) 0 a.length ⟨by simp,by omega,lA _,by omega,by simp[val]⟩ ?_ (h2:=(.cons rfl (BlkSub.of (by rw[Yc];rfl)) .nil))
 rintro out r i ⟨ho,hi,hw,hr,hv⟩ K1 J1;refine gC (fun t16=>?_) (fun t16=>?_) (st2:=(9,0))
 ·have hn0 : 1 <= i := by have := t16; simp [aa] at this; omega
  obtain⟨k,rfl⟩:∃k,i=k+1:=⟨i-1,by omega⟩
  have h1:=bW ha k;have h2:=U2 hr h1;refine gs (iU (.tmp rfl) (.const _) oz (q9 (n:=32) oz oz) rfl) ?_;refine gi (gw (n:=k) oz (by first |omega |(simp;omega))) ?_;refine gv (u64_in oz) ?_;refine gs (jB (.tmp rfl) (.tmp rfl) rfl ((tM oz oz).trans (by rw[sP oz])) rfl) ?_;refine gv (u64_in oz) ?_;refine gs (kq (.tmp rfl) (.tmp rfl) oz (Ih oz) rfl) ?_;refine gv ((dK _).trans (by rw[Nat.mod_eq_of_lt h2])) ?_;refine gs (b8 (n:=k) (.tmp rfl) (.tmp rfl) T43 rfl T350 rfl oz (by first |omega |(simp;omega)) rfl) ?_;refine gs (dT (.tmp rfl) rfl (ci (i:=k) oz) rfl (.tmp rfl) rfl rfl T350 rfl rfl) ?_;refine gv (u64_in oz) ?_;refine gs (vG (.tmp rfl) (.tmp rfl) oz Ef rfl) ?_;refine ga (eg oz) ?_;exact gS J1 (out.set k ((r*2^32+ah a k)/w)) ((r*2^32+ah a k)%w) k ⟨by simp[ho],by omega,f7 hw h2,Nat.mod_lt _ hw0,LB oz oz hv⟩ (hw:=Wk.of aZ (.cons rfl (BlkSub.of (by rw[Yg];rfl)) .nil))
 have hin:i=0:=by have:=t16;simp[aa]at this;omega
 subst hin;obtain⟨h3,h4⟩:=xx hv hr;simp only[Yh]at h3 h4;refine gW ((Wk.freeze (k:=11) rfl).trans<|Wk.of (sl:=[(6,some (ws out)),(7,some (u64 r))]) (hp:=[]) (.cons rfl (Sub.of (bJ (by simp[ho]))) (.k .nil)) .nil) ?_;refine gc (lX out hw oz) ?_;refine gv ((dK _).trans (by rw[Nat.mod_eq_of_lt oz])) ?_;refine bp ?_;rw[h3,h4];rfl
theorem FW(d:Nat)(hd:Nat.blt d 1000=true)(a:List Nat)(n:Nat)(ha:Ws a)(la:a.length<aD)(hn:n<32):Con prog 393 [ws a,i64 n] [] (.ms d 1 0 (a.length+1)) [(d,some (.row 1 ((bm (a.length+1) (2^n*val a)).map u32)))]:=by
 have la':=la;unfold aD at la;refine gF func393 (fun k z h=>by cases h) ?_;refine gl ?_;refine ga (iZ (y:=1) (by unfold a8;omega) (by unfold a8;omega)) ?_;refine gs (gV (.tmp rfl) T43 rfl T350 rfl rfl oz (by dsimp only;omega) rfl) ?_;refine gl ?_;refine gz [0,1,13,14] [] (fun(out:List Nat)(i:Nat)=>[(5,some (.ms 12 1 0 (a.length+1))),(15,some (i64 i))]) (fun out _=>[(12,some (.row 1 (out.map u32)))]) (fun out i=>out.length=a.length+1/\i<=a.length/\Ws out/\ah out i<2^n/\val (out.take (i+1))=2^n*val (a.take i)) (fun _ i=>a.length-i) (List.replicate (a.length+1) 0) 0 ⟨by simp,by omega,lA _,by simp[ah,Nat.pow_pos],by simp[val,List.replicate_succ]⟩ ?_ (h2:=(.cons rfl (BlkSub.of (by rw[Yc];rfl)) .nil))
 rintro out i ⟨ho,hi,hw,hr,hv⟩ K1 J1;refine gC (fun t16=>?_) (fun t16=>?_)
 ·have hin : i < a.length := by simpa [aa] using t16
  have h1:=bW ha i;have h2:=KB (a:=a) (i:=i) (n:=n) (show i+1<out.length by omega) hv;have h3:=WH (x:=ah a i) hn hr;have h4:=Qm (n:=n) h1;have h5:2^n<=2^31:=pb oz;have h6:ah a i*2^n<=ah a i*2^31:=XL _ h5;have h7:=bW hw i;refine gi (gw (n:=i) oz (by first |omega |(simp;omega))) ?_;refine gv (u64_in oz) ?_;refine gs (iU (.tmp rfl) (.tmp rfl) oz (q9 oz oz) rfl) ?_;refine gs (b8 (n:=i) (.tmp rfl) (.tmp rfl) T43 rfl T350 rfl oz (by first |omega |(simp;omega)) rfl) ?_;refine gs (ez (.tmp rfl) rfl (ci (i:=i) oz) T350 rfl rfl rfl) ?_;refine gv (dK _) ?_;refine gs (jB (.tmp rfl) (.tmp rfl) rfl ((yC oz oz).trans (by rw[Nr hn hr])) rfl) ?_;refine gs (b8 (n:=i) (.tmp rfl) (.tmp rfl) T43 rfl T350 rfl oz (by first |omega |(simp;omega)) rfl) ?_;refine gs (dT (.tmp rfl) rfl (ci (i:=i) oz) rfl (.tmp rfl) rfl rfl T350 rfl rfl) ?_;refine ga (iZ (y:=1) (by unfold a8;omega) (by unfold a8;omega)) ?_;refine gs (eM (.tmp rfl) (.const _) oz (gI _ 32 oz) rfl) ?_;refine gv ((dK _).trans (by rw[Nat.mod_eq_of_lt (show ah a i*2^n/2^32<4294967296 by omega)])) ?_;refine gs (b8 (n:=i+1) (.tmp rfl) (.tmp rfl) T43 rfl T350 rfl oz (by first |omega |(simp;omega)) rfl) ?_;refine gs (dT (.tmp rfl) rfl (by rw[List.getElem?_set_ne oz];exact ci (i:=i+1) oz) rfl (.tmp rfl) rfl rfl T350 rfl rfl) ?_;refine ga (du oz) ?_;exact fU J1 ((out.set i (ah out i+ah a i*2^n%4294967296)).set (i+1) (ah a i*2^n/4294967296)) (i+1) ⟨by simp[ho],by omega,f7 (f7 hw oz) oz,by rw[NM (by simp;omega)];exact h4,h2⟩ (hw:=Wk.of aZ (.cons rfl (BlkSub.of (by rw[Yg,Yg];rfl)) .nil))
 have hin:i=a.length:=by have:a.length<=i:=(by simpa[aa]using t16);omega
 subst hin;rw[XP,eT oz]at hv;refine gR ?_;exact az.own1 rfl hd (by rw[vB hw ho hv])
theorem KV(a:List Nat)(n:Nat)(ha:Ws a)(la:a.length<=aD)(hn:n<32):FP 396 [ws a,i64 n] (ws (ofNat (val a/2^n))):=by
 have la':=la;unfold aD at la;refine aj func396 ?_;refine gl ?_;refine gs (gV (.tmp rfl) T43 rfl T350 rfl rfl oz (by dsimp only;omega) rfl) ?_;refine gl ?_;refine gz [0,1,11] [] (fun(out:List Nat)(i:Nat)=>[(5,some (.ms 9 1 0 a.length)),(12,some (i64 i))]) (fun out _=>[(9,some (.row 1 (out.map u32)))]) (fun out i=>out.length=a.length/\i<=a.length/\Ws out/\val (out.take i)=val a/2^n%4294967296^i) (fun _ i=>a.length-i) (List.replicate a.length 0) 0 ⟨by simp,by omega,lA _,by simp[val,Nat.mod_one]⟩ ?_ (h2:=(.cons rfl (BlkSub.of (by rw[Yc];rfl)) .nil))
 rintro out i ⟨ho,hi,hw,hv⟩ K1 J1;refine gC (fun t13=>?_) (fun t13=>?_) (st2:=(7,0))
 ·have hin : i < a.length := by simpa [aa] using t13
  have h1:=bW ha i;have h2:=bW ha (i+1);have h3:=IX ha hin (show i<out.length by omega) (show n<=32 by omega) hv;refine gi (gw (n:=i) oz (by first |omega |(simp;omega))) ?_;refine gv (u64_in oz) ?_;refine ga (iZ (y:=1) (by unfold a8;omega) (by unfold a8;omega)) ?_;refine gc (qo a (i+1) ha) ?_;refine gs (iU (.tmp rfl) (.const _) oz (q9 (n:=32) oz oz) rfl) ?_;refine gs (jB (.tmp rfl) (.tmp rfl) rfl ((tM oz oz).trans (by rw[zQ oz])) rfl) ?_;refine gs (eM (.tmp rfl) (.tmp rfl) oz (gI _ _ oz) rfl) ?_;refine gv (dK _) ?_;refine gs (b8 (n:=i) (.tmp rfl) (.tmp rfl) T43 rfl T350 rfl oz (by first |omega |(simp;omega)) rfl) ?_;refine gs (dT (.tmp rfl) rfl (ci (i:=i) oz) rfl (.tmp rfl) rfl rfl T350 rfl rfl) ?_;refine gD ?_;refine ga (du oz) ?_;exact fU J1 (out.set i ((ah a i+ah a (i+1)*2^32)/2^n%4294967296)) (i+1) ⟨by simp[ho],by omega,f7 hw oz,h3⟩ (hw:=Wk.of aZ (.cons rfl (BlkSub.of (by rw[Yg];rfl)) .nil))
 have hin:i=a.length:=by have:a.length<=i:=(by simpa[aa]using t13);omega
 refine gW ((Wk.freeze (k:=9) rfl).trans<|Wk.of (sl:=[(5,some (ws out))]) (hp:=[]) (.cons rfl (Sub.of (bJ (by simp[ho]))) .nil) .nil) ?_;refine gc (lX out hw oz) ?_;refine af ?_;rw[LD ha ho (hin▸hv)]
theorem Xp{b:Nat}{p:Prop}[Decidable p](h:b=1↔p):d7 [AV.v (Value.bool (aa BinOp.eql (b:Int) 1))]=bl (decide p):=by
 have:((b:Int)==1)=decide (b=1):=by rw[Bool.eq_iff_iff];simp;omega
 simp only[d7,aa,this,bl];rw[decide_eq_decide.2 h]
theorem S3(u v:List Nat)(off len n:Nat)(hu:Ws u)(hv:Ws v)(hvl:v.length+1<=len)(hj:off+len<=u.length)(hn:n<4294967296)(lu:u.length<=a8) :
  Con prog 394 [.ms 1000 1 off len,ws v,u64 n] [(1000,some (.row 1 (u.map u32)))] (bl (decide (val (bw u off len)<n*val v)))
   [(1000,some (.row 1 ((wr u off (bm len (j8 n (val v) (val (bw u off len)) len))).map u32)))]:=by
 unfold a8 at lu;refine gF func394 (fun k z h=>bD h) ?_;refine GC [1,2,12] [] (fun(o:List Nat)(c b lo i:Nat)=>[(0,some (.ms 1000 1 off len)),(7,some (u64 c)),(8,some (u64 b)),(13,some (i64 i))]) (fun o _ _ _ _=>[(1000,some (.row 1 (o.map u32)))]) (fun o c b lo i=>o.length=u.length/\i<=len/\Ws o/\c<4294967296/\b<=1/\o.take off=u.take off/\o.drop (off+i)=u.drop (off+i)/\lo+c*4294967296^i=n*val (v.take i)/\val (bw o off i)+lo=val (bw u off i)+b*4294967296^i) (fun _ _ _ _ i=>len-i) u 0 0 0 0 ⟨rfl,by omega,hu,by omega,by omega,rfl,rfl,by simp[val],by simp[]⟩ ?_
 rintro o c b lo i ⟨ho,hi,hw,hc,hb,hd1,hd2,hv1,hv2⟩ K1 J1;refine gC (fun t14=>?_) (fun t14=>?_)
 ·have hin : i < len := by simpa [aa] using t14
  have h1:=bW hu (off+i);have h2:=bW hv i;have h0:=p8 hd2;have h4:=wN hn h2;obtain⟨c1,hc1⟩:∃c1,c1=c+n*ah v i:=⟨_,rfl⟩
  have h3:=Gp h1 (show c1%4294967296<4294967296 by omega) hb hv2;obtain⟨d,hd⟩:∃d,d=if c1%4294967296+b<=ah u (off+i)then ah u (off+i)-c1%4294967296-b else ah u (off+i)+18446744073709551616-c1%4294967296-b:=⟨_,rfl⟩
  rw[<- hd]at h3;have hd3:d<18446744073709551616:=by rw[hd];split <;> omega
  have h5:=Ra (w:=ah v i) hv1;refine gc (by apply qo <;> assumption) ?_;refine ga (vR oz) ?_;refine ga ((iF oz).trans (by rw[<- hc1])) ?_;refine gs (m9 (n:=i) (.tmp rfl) (.tmp rfl) T43 rfl T350 rfl oz (by first |omega |(simp;omega)) rfl) ?_;refine gs (ez (.tmp rfl) rfl (by rw[ci (show off+i<o.length by omega),h0]) T350 rfl rfl rfl) ?_;refine gv (u64_in oz) ?_;refine gv (dK _) ?_;refine gv (u64_in oz) ?_;refine ga (kL oz oz) ?_;refine ga (show _=(d:Int) by rw[kL (by split <;> omega) oz,hd];congr 1;(repeat' split) <;> omega) ?_;refine gv (dK _) ?_;refine gs (m9 (n:=i) (.tmp rfl) (.tmp rfl) T43 rfl T350 rfl oz (by first |omega |(simp;omega)) rfl) ?_;refine gs (dT (.tmp rfl) rfl (ci (i:=off+i) oz) rfl (.tmp rfl) rfl rfl T350 rfl rfl) ?_;refine gs (eM (.tmp rfl) (.const _) oz (gI _ 63 oz) rfl) ?_;refine gs (eM (.tmp rfl) (.const _) oz (gI _ 32 oz) rfl) ?_;refine ga (du oz) ?_;exact Ik J1 (o.set (off+i) (d%4294967296)) (c1/4294967296) (d/2^63) (lo+4294967296^i*(c1%4294967296)) (i+1) ⟨by simp[ho],by omega,f7 hw oz,by omega,by omega,by rw[List.take_set_of_le oz];exact hd1,rX hd2,by rw[dj,Nat.pow_succ,hc1];exact h5,by rw[IQ oz,I6,Nat.pow_succ];exact h3⟩ (hw:=Wk.of aZ (.cons rfl (BlkSub.of (by rw[Yg];rfl)) .nil))
 have hin:i=len:=by have:len<=i:=(by simpa[aa]using t14);omega
 subst hin;obtain⟨h6,h7⟩:=LP hu hw ho hj hv hvl hn hd1 hd2 hb hv1 hv2;refine gR ?_;exact az.own2 rfl (by rw[<- h6]) (Xp h7)
theorem Lu(u v:List Nat)(off len:Nat)(hu:Ws u)(hv:Ws v)(hvl:v.length<=len)(hj:off+len<=u.length)(lu:u.length<=a8) :
  Con prog 395 [.ms 1000 1 off len,ws v] [(1000,some (.row 1 (u.map u32)))] (.tup [])
   [(1000,some (.row 1 ((wr u off (bm len ((val (bw u off len)+val v)%4294967296^len))).map u32)))]:=by
 unfold a8 at lu;refine gF func395 (fun k z h=>bD h) ?_;refine iQ [1,7] [] (fun(o:List Nat)(c i:Nat)=>[(0,some (.ms 1000 1 off len)),(4,some (u64 c)),(8,some (i64 i))]) (fun o _ _=>[(1000,some (.row 1 (o.map u32)))]) (fun o c i=>o.length=u.length/\i<=len/\Ws o/\c<=1/\o.take off=u.take off/\o.drop (off+i)=u.drop (off+i)/\val (bw o off i)+c*4294967296^i=val (bw u off i)+val (v.take i)) (fun _ _ i=>len-i) u 0 0 ⟨rfl,by omega,hu,by omega,rfl,rfl,by simp[val]⟩ ?_
 rintro o c i ⟨ho,hi,hw,hc,hd1,hd2,hv2⟩ K1 J1;refine gC (fun t9=>?_) (fun t9=>?_)
 ·have hin : i < len := by simpa [aa] using t9
  have h1:=bW hu (off+i);have h2:=bW hv i;have h0:=p8 hd2;have h3:=yb (u:=ah u (off+i)) (w:=ah v i) hv2;refine gs (m9 (n:=i) (.tmp rfl) (.tmp rfl) T43 rfl T350 rfl oz (by first |omega |(simp;omega)) rfl) ?_;refine gs (ez (.tmp rfl) rfl (by rw[ci (show off+i<o.length by omega),h0]) T350 rfl rfl rfl) ?_;refine gv (u64_in oz) ?_;refine gc (by apply qo <;> assumption) ?_;refine ga (iF oz) ?_;refine ga (iF oz) ?_;refine gD ?_;refine gv (dK _) ?_;refine gs (m9 (n:=i) (.tmp rfl) (.tmp rfl) T43 rfl T350 rfl oz (by first |omega |(simp;omega)) rfl) ?_;refine gs (dT (.tmp rfl) rfl (ci (i:=off+i) oz) rfl (.tmp rfl) rfl rfl T350 rfl rfl) ?_;refine gs (eM (.tmp rfl) (.const _) oz (gI _ 32 oz) rfl) ?_;refine ga (du oz) ?_;exact gS J1 (o.set (off+i) ((c+(ah u (off+i)+ah v i))%4294967296)) ((c+(ah u (off+i)+ah v i))/4294967296) (i+1) ⟨by simp[ho],by omega,f7 hw oz,by omega,by rw[List.take_set_of_le oz];exact hd1,rX hd2,by rw[IQ oz,I6,dj,Nat.pow_succ];exact h3⟩ (hw:=Wk.of aZ (.cons rfl (BlkSub.of (by rw[Yg];rfl)) .nil))
 have hin:i=len:=by have:len<=i:=(by simpa[aa]using t9);omega
 subst hin;have h6:=Vv hw ho hj hvl hd1 hd2 hv2;refine gR ?_;exact az.own2 rfl (by rw[<- h6]) rfl
theorem SF(x:Nat)(hx:x<4294967296):FP 351 [u32 x] (i64 (ba x)):=by
 refine aj func351 ?_;refine gC (fun t4=>?_) (fun t4=>?_)
 ·obtain ⟨y, hy, h2, h3⟩ : ∃ y, y = x / 2 ^ 16 /\ y < 65536 /\ ba x = 16 + ba y := ⟨_, rfl, by omega, sJ (by have := t4; simp [aa] at this; omega)⟩
  refine gs (eM (.tmp rfl) (.const _) oz ((qB x 16 oz).trans (by rw[<- hy])) rfl) ?_;refine gC (fun t8=>?_) (fun t8=>?_)
  ·have h5 : 2 ^ 8 <= y := by simp [aa] at t8; omega
   obtain⟨z,hz,h6,h7⟩:∃z,z=y/2^8/\z<256/\ba x=(ba x-ba y)+8+ba z:=⟨_,rfl,by omega,by have:=sJ h5;omega⟩
   refine gs (eM (.tmp rfl) (.const _) oz ((qB _ 8 oz).trans (show _=(z:Int) by first |(rw[hz];done) |(rw[hz,hy];done))) rfl) ?_;refine ga (du oz) ?_;refine gv (show IntKind.u8.wrap _=(z:Int) by first |exact jv h6 |(rw[hz];exact jv oz) |(rw[hz,hy];exact jv oz)) ?_;refine gs (tj (y:=z) (.const _) (.tmp rfl) T9 rfl (by kernel_rfl) (by first |rfl |omega) oz rfl) ?_;refine gv (i64_in (by have:=iX h6;omega)) ?_;refine ga (du (by have:=iX h6;omega)) ?_;refine af ?_;simp only[i64];congr 2;have:=iX h6;omega
  have h5:y<2^8:=by simp[aa]at t8;omega
  obtain⟨z,hz,h6,h7⟩:∃z,z=y/\z<256/\ba x=(ba x-ba y)+ba z:=⟨_,rfl,by omega,by omega⟩
  refine gv (show IntKind.u8.wrap _=(z:Int) by first |exact jv h6 |(rw[hz];exact jv oz) |(rw[hz,hy];exact jv oz)) ?_;refine gs (tj (y:=z) (.const _) (.tmp rfl) T9 rfl (by kernel_rfl) (by first |rfl |omega) oz rfl) ?_;refine gv (i64_in (by have:=iX h6;omega)) ?_;refine ga (du (by have:=iX h6;omega)) ?_;refine af ?_;simp only[i64];congr 2;have:=iX h6;omega
 obtain⟨y,hy,h2,h3⟩:∃y,y=x/\y<65536/\ba x=0+ba y:=⟨_,rfl,by have:=t4;simp[aa]at this;omega,by omega⟩
 refine gC (fun t8=>?_) (fun t8=>?_)
 ·have h5 : 2 ^ 8 <= y := by simp [aa] at t8; omega
  obtain⟨z,hz,h6,h7⟩:∃z,z=y/2^8/\z<256/\ba x=(ba x-ba y)+8+ba z:=⟨_,rfl,by omega,by have:=sJ h5;omega⟩
  refine gs (eM (.tmp rfl) (.const _) oz ((qB _ 8 oz).trans (show _=(z:Int) by first |(rw[hz];done) |(rw[hz,hy];done))) rfl) ?_;refine ga (du oz) ?_;refine gv (show IntKind.u8.wrap _=(z:Int) by first |exact jv h6 |(rw[hz];exact jv oz) |(rw[hz,hy];exact jv oz)) ?_;refine gs (tj (y:=z) (.const _) (.tmp rfl) T9 rfl (by kernel_rfl) (by first |rfl |omega) oz rfl) ?_;refine gv (i64_in (by have:=iX h6;omega)) ?_;refine ga (du (by have:=iX h6;omega)) ?_;refine af ?_;simp only[i64];congr 2;have:=iX h6;omega
 have h5:y<2^8:=by simp[aa]at t8;omega
 obtain⟨z,hz,h6,h7⟩:∃z,z=y/\z<256/\ba x=(ba x-ba y)+ba z:=⟨_,rfl,by omega,by omega⟩
 refine gv (show IntKind.u8.wrap _=(z:Int) by first |exact jv h6 |(rw[hz];exact jv oz) |(rw[hz,hy];exact jv oz)) ?_;refine gs (tj (y:=z) (.const _) (.tmp rfl) T9 rfl (by kernel_rfl) (by first |rfl |omega) oz rfl) ?_;refine gv (i64_in (by have:=iX h6;omega)) ?_;refine ga (du (by have:=iX h6;omega)) ?_;refine af ?_;simp only[i64];congr 2;have:=iX h6;omega
theorem Pb(x:Nat)(hx:x<4294967296):FP 392 [u32 x] (i64 (32-ba x:Nat)):=by
 have h1:ba x<=32:=by
  by_cases h:x=0
  ·subst h;decide
  ·exact(zw h hx).1
 refine aj func392 ?_;refine gc (SF x hx) ?_;refine ga (i64_in (by simp only[fN];omega)) ?_;refine af ?_;simp only[i64,fN];congr 2;omega
theorem DT(a b:List Nat)(ha:Ws a)(hb:Ws b)(na:Nz a)(nb:Nz b)(hb0:b≠[])(la:a.length<aD)(lb:b.length<aD) :
  FP 367 [ws a,ws b] (.tup [ws (ofNat (val a/val b)),ws (ofNat (val a%val b))]):=by
 have la':=la;unfold aD at la lb;refine aj func367 ?_;refine gc (zV a b ha hb na nb) ?_;refine gC (fun t22=>?_) (fun t22=>?_)
 ·have h1:val a<val b:=by
   simp only[aa]at t22;split at t22
   ·assumption
   ·split at t22 <;> simp at t22
  refine gc (lX a ha oz) ?_;refine gR ?_;exact vr (by rw[Nat.div_eq_of_lt h1];exact Sub.nil _ _ _) (by rw[Nat.mod_eq_of_lt h1];exact Sub.refl _)
 have h1:val b<=val a:=by
  simp only[aa]at t22;split at t22
  ·simp at t22
  ·omega
 refine gl ?_;refine gC (fun t27=>?_) (fun t27=>?_)
 ·have hl : b.length = 1 := by have := t27; simp [aa] at this; omega
  obtain⟨x,rfl⟩:∃x,b=[x]:=List.length_eq_one_iff.1 hl;have hx:x≠0:=nb x rfl;have hxB:x<4294967296:=hb x (by simp);have hv:val [x]=x:=by simp[val]
  have hm:=Nat.mod_lt (val a) (show 0<x by omega);refine gi (show _=some (u32 x)from rfl) ?_;refine gc (SD a x ha oz oz hxB) ?_;refine gc (lX [val a%x] (rN oz) (by simp[aD])) ?_;refine bp ?_;rw[hv];simp[val]
 have hl:b.length≠1:=by have:=t27;simp[aa]at this;omega
 obtain⟨n,hn⟩:∃n,b.length=n+2:=⟨b.length-2,by have:=List.length_pos_iff.2 hb0;omega⟩
 obtain⟨sh,v,hsh,hsh2,hv,wv,lv,vv,hvt,htop,hlo⟩:=Kn hb nb hn
 have hab:b.length<=a.length:=by
  rcases XH a.length b.length with h2 |h2
  ·have:=tK ha nb h2;omega
  ·exact h2
 obtain⟨lq,hlq⟩:∃lq,a.length+1=lq+(n+2):=⟨a.length+1-(n+2),by omega⟩
 have hbt:=bW hb (n+1);refine gl ?_;refine ga (show _=((n+1:Nat):Int) by rw[eg oz];omega) ?_;refine gi (gw (n:=n+1) oz (by first |omega |(simp;omega))) ?_;refine gc (show gO _ _ _ (i64 (sh:Nat)) by rw[hsh];exact Pb _ hbt) ?_;refine gt (aH (FW 900 rfl b sh hb (by unfold aD;omega) hsh2) (bB rfl rfl) aI rfl rfl) ?_;refine gl ?_;refine gs (wl (.tmp rfl) (.none _) (.some _ (.tmp rfl) oz) T43 rfl T350 rfl oz oz rfl) ?_;refine gt (aH (FW 901 rfl a sh ha (by unfold aD;omega) hsh2) (bB rfl rfl) aI rfl rfl) ?_;refine gD ?_ (8,0);refine gW ((Wk.freeze (k:=900) rfl).trans<|Wk.of (sl:=[(0,some (ws a)),(1,some (ws b)),(8,some (i64 sh)),(9,some (ws v)),(10,some (.ms 901 1 0 (a.length+1)))]) (hp:=[(901,some (.row 1 ((bm (a.length+1) (2^sh*val a)).map u32)))]) (.k (.k (.k (.cons rfl (Sub.of (UD hn hv)) (.k .nil))))) (.k .nil)) ?_;refine gl ?_;refine ga (show _=(lq:Int) by rw[lv,eg oz];omega) ?_;refine gs (gV (.tmp rfl) T43 rfl T350 rfl rfl oz (by dsimp only;omega) rfl) ?_;refine gl ?_;refine ga (show _=((n+1:Nat):Int) by rw[lv,eg oz];omega) ?_;refine gi (gw (n:=n+1) oz (by first |omega |(simp;omega))) ?_;refine gv (u64_in (by have:=bW wv (n+1);omega)) ?_;refine gl ?_;refine ga (show _=(n:Int) by rw[lv,eg oz];omega) ?_;refine gi (gw (n:=n) oz (by first |omega |(simp;omega))) ?_;refine gv (u64_in (by have:=bW wv n;omega)) ?_;refine gD ?_;refine ga (eg oz) ?_;refine iQ [8,9,12,13] [] (fun(q u:List Nat)(j:Nat)=>[(10,some (.ms 901 1 0 (a.length+1))),(11,some (.ms 61 1 0 lq)),(14,some (i64 ((j:Int)-1)))]) (fun q u _=>[(901,some (.row 1 (u.map u32))),(61,some (.row 1 (q.map u32)))]) (fun q u j=>q.length=lq/\u.length=a.length+1/\Ws q/\Ws u/\j<=lq/\val (u.drop j)<val v/\2^sh*val a=val v*(4294967296^j*val (q.drop j))+val u) (fun _ _ j=>j) (List.replicate lq 0) (bm (a.length+1) (2^sh*val a)) lq ⟨by simp,eY _ _,lA _,ke _ _,XD _,by rw[vv];exact(JD ha hsh2 hlq hlo).2,by rw[(JD ha hsh2 hlq hlo).1];simp[val]⟩ ?_ (h2:=(.k (.cons rfl (BlkSub.of (by rw[Yc];rfl)) .nil)))
 rintro q u j ⟨hql,hul,wq,wu,hj,hlt,hU⟩ K1 J1;refine gC (fun t80=>?_) (fun t80=>?_) (st2:=(23,0))
 ·have hj0 : 1 <= j := by have := t80; simp [aa] at this; omega
  obtain⟨k,rfl⟩:∃k,j=k+1:=⟨j-1,by omega⟩
  obtain⟨W,hW⟩:∃W,W=val (bw u k (n+3)):=⟨_,rfl⟩
  have hVl:val v<4294967296^(n+2):=by have:=b9 v wv;rwa [lv]at this
  obtain⟨e1,e2,e3⟩:=Lc (u:=u) (q:=q) (k:=k) (lv:=n+2) wu oz oz hVl hlt hU;simp only[show n+2+1=n+3 from rfl]at e1 e2 e3;have hdig:=VX wv (mS wu k (n+3)) lv (n7 oz) hvt e1;rw[<- hW]at e1 e2 e3 hdig;have wp:=mS wu k (n+3);have b1:=bW wp n;have b2:=bW wp (n+1);have b3:=bW wp (n+2);have b4:=hdig.htop;have b5:=hdig.htopB;have b6:=hdig.hnext;obtain⟨top,htop'⟩:∃top,top=ah v (n+1):=⟨_,rfl⟩
  obtain⟨nx,hnx⟩:∃nx,nx=ah v n:=⟨_,rfl⟩
  obtain⟨hd,hhd⟩:∃hd,hd=ah (bw u k (n+3)) (n+2)*4294967296+ah (bw u k (n+3)) (n+1):=⟨_,rfl⟩
  obtain⟨th,hth⟩:∃th,th=ah (bw u k (n+3)) n:=⟨_,rfl⟩
  rw[<- htop',<- hnx,<- hhd,<- hth]at hdig;rw[<- htop']at b4 b5 ⊢;rw[<- hnx]at b6 ⊢;rw[<- hth]at b1;have hdB:hd<18446744073709551616:=by omega
  refine gl ?_;refine ga (show _=((k+n+2:Nat):Int) by rw[lv,du oz];omega) ?_;refine ga (show _=((k+n+3:Nat):Int) by rw[du oz];omega) ?_;refine gs (wl (.tmp rfl) (.some _ (.tmp rfl) oz) (.some _ (.tmp rfl) oz) T43 rfl T350 rfl oz oz rfl) ?_ (14,0);refine gW (Wk.of (sl:=[(8,some (i64 sh)),(9,some (ws v)),(10,some (.ms 901 1 0 (a.length+1))),(11,some (.ms 61 1 0 lq)),(12,some (u64 top)),(13,some (u64 nx)),(14,some (i64 k)),(15,some (.ms 901 1 k (n+3)))]) (hp:=[(901,some (.row 1 (u.map u32))),(61,some (.row 1 (q.map u32)))]) (.k (.k (.k (.k (.k (.k (.cons rfl (Sub.int oz) (.cons rfl (Sub.of (by congr 1 <;> omega)) .nil)))))))) (.k (.k .nil))) ?_
  refine gl ?_;refine gs (m9 (n:=n+2) (.tmp rfl) (.tmp rfl) T43 rfl T350 rfl oz oz rfl) ?_;refine gs (ez (.tmp rfl) rfl (Bw (n:=n+3) (i:=n+2) oz oz) T350 rfl rfl rfl) ?_;refine gv (u64_in oz) ?_;refine gs (iU (.tmp rfl) (.const _) oz (q9 (n:=32) oz oz) rfl) ?_;refine gl ?_;refine ga (show _=((n+1:Nat):Int) by rw[lv,eg oz];omega) ?_;refine gs (m9 (n:=n+1) (.tmp rfl) (.tmp rfl) T43 rfl T350 rfl oz oz rfl) ?_;refine gs (ez (.tmp rfl) rfl (Bw (n:=n+3) (i:=n+1) oz oz) T350 rfl rfl rfl) ?_;refine gv (u64_in oz) ?_;refine gs (jB (.tmp rfl) (.tmp rfl) rfl ((tM oz oz).trans (show _=(hd:Int) by rw[sP oz,hhd])) rfl) ?_;refine gD ?_;refine gs (kq (.tmp rfl) (.tmp rfl) oz (Ih hdB) rfl) ?_;refine gs (vG (.tmp rfl) (.tmp rfl) oz Ef rfl) ?_;refine gD ?_;refine gz [8,9,12,13,14] [901,61] (fun(g r:Nat)=>[(10,some (.ms 901 1 0 (a.length+1))),(11,some (.ms 61 1 0 lq)),(15,some (.ms 901 1 k (n+3))),(17,some (u64 g)),(18,some (u64 r))]) (fun _ _=>[]) (fun g r=>W/val v<=g/\g*top+r=hd/\g<18446744073709551616/\r<8589934592) (fun g _=>g) (hd/top) (hd%top) ⟨hdig.first,by rw[Nat.mul_comm];exact Nat.div_add_mod _ _,by have:=Nat.div_le_self hd top;omega,by have:=Nat.mod_lt hd (show 0<top by omega);omega⟩ ?_
  rintro g r ⟨hg,hgr,hgB,hrB⟩ K2 J2;refine oF (fun⟨h,h2⟩=>(vR (by simp[aa]at h2;have:=wN (x:=g) (y:=nx) oz b6;omega))) ?_;refine gs (rh rfl rfl rfl (fun h h2=>iU (.opt rfl (o2 h h2)) (.const _) oz (q9 (n:=32) oz (by simp[aa]at h;omega)) rfl)) ?_;refine cQ ?_;refine oF (fun _=>(show _=(n:Int) by rw[lv,eg oz];omega)) ?_;refine gs (rh rfl rfl rfl (fun h h2=>m9 (n:=n) (.opt rfl (o2 h h2)) (.opt rfl (o2 h h2)) T43 rfl T350 rfl oz oz rfl)) ?_;refine gs (rh rfl rfl rfl (fun h h2=>ez (.opt rfl (o2 h h2)) rfl (Bw (n:=n+3) (i:=n) oz oz) T350 rfl rfl rfl)) ?_;refine Tv (fun _=>(u64_in oz)) ?_;refine gs (rh rfl rfl rfl (fun h h2=>jB (.opt rfl (o2 h h2)) (.opt rfl (o2 h h2)) rfl ((tM (by simp[aa]at h;omega) oz).trans (by rw[sP oz])) rfl)) ?_;refine gC (fun t133=>?_) (fun t133=>?_)
  ·have hc:r<4294967296/\(4294967296<=g\/r*4294967296+th<g*nx):=by
    rw[hth];have h9:=CA.1 t133
    rwa [show r*2^32=r*4294967296 from rfl]at h9
   have hg1:=hdig.step hg hgr hc.2;have hg0:1<=g:=Nat.succ_le_of_lt (XX (XJ _) hg1);refine ga (IK oz oz) ?_;refine ga (iF oz) ?_;exact fU J2 (g-1) (r+top) ⟨Nat.le_sub_one_of_lt hg1,by rw[Nat.sub_mul];have:=XY top (show 1<=g by omega);omega,by omega,by omega⟩
  have hc:¬(r<4294967296/\(4294967296<=g\/r*4294967296+th<g*nx)):=by
   rw[hth];intro hh;rw[show r*4294967296=r*2^32 from rfl]at hh;exact Bool.eq_false_iff.1 t133 (CA.2 hh)
  obtain⟨hgB2,hgq⟩:=hdig.last hgr hc;have hVp:=hdig.vpos;have hWl:val (bw u k (n+3))<4294967296^(n+3):=by have:=b9 _ wp;rwa [n7 oz]at this
  obtain⟨p1,p2⟩:=J8 hVp (show val v<=4294967296^(n+3) by have:=Nat.pow_le_pow_right (show 0<4294967296 by omega) (show n+2<=n+3 by omega);omega) (hW▸hWl) hg hgq;have hwul:k+(n+3)<=u.length:=by omega
  have hwr:(wr u k (bm (n+3) (j8 g (val v) W (n+3)))).length=a.length+1:=by rw[ma (by rw[eY];omega),hul]
  refine gt (aH (Con.rk 901 rfl rfl (S3 u v k (n+3) g wu wv oz hwul hgB2 (by unfold a8;omega))) (aJ rfl rfl rfl) aI rfl rfl) ?_;refine gC (fun t142=>?_) (fun t142=>?_)
  ·have hlt2 : W < g * val v := by rw [hW]; simpa using t142
   obtain⟨q1,q2,q3⟩:=p1 hlt2;have hrl:j8 g (val v) W (n+3)<4294967296^(n+3):=by unfold j8;rw[Yk oz];rw[<- hW]at hWl;omega
   refine ga (IK oz oz) ?_;refine gt (aH (Con.rk 901 rfl rfl (Lu (wr u k (bm (n+3) (j8 g (val v) (val (bw u k (n+3))) (n+3)))) v k (n+3) (qu wu (ke _ _)) wv oz (by rw[<- hW,hwr];omega) (by rw[<- hW,hwr];unfold a8;omega))) (bB rfl rfl) aI rfl rfl) ?_;refine gv ((dK _).trans (by rw[Nat.mod_eq_of_lt oz])) ?_;refine gs (b8 (n:=k) (.tmp rfl) (.tmp rfl) T43 rfl T350 rfl oz oz rfl) ?_;refine gs (dT (.tmp rfl) rfl (ci (i:=k) oz) rfl (.tmp rfl) rfl rfl T350 rfl rfl) ?_;refine ga (eg oz) ?_;exact gS J1 (q.set k (W/val v)) (wr u k (bm (n+3) (W%val v))) k ⟨by simp[hql],by rw[ma (by rw[eY];omega),hul],f7 wq hdig.q_lt,qu wu (ke _ _),by omega,e2,e3⟩ (hw:=Wk.of aZ (.cons rfl (BlkSub.of (by rw[<- hW];first |(rw[q1];done) |(rw[E2 (r:=W%val v) hwul (eY _ _) (by rw[k8 _ _ hrl];exact q1)];done))) (.cons rfl (BlkSub.of (by rw[Yg,q2];rfl)) .nil)))
  have hlt2:¬W<g*val v:=by rw[hW];simpa using t142
  obtain⟨q1,q2⟩:=p2 hlt2;refine gv ((dK _).trans (by rw[Nat.mod_eq_of_lt oz])) ?_;refine gs (b8 (n:=k) (.tmp rfl) (.tmp rfl) T43 rfl T350 rfl oz oz rfl) ?_;refine gs (dT (.tmp rfl) rfl (ci (i:=k) oz) rfl (.tmp rfl) rfl rfl T350 rfl rfl) ?_;refine ga (eg oz) ?_;exact gS J1 (q.set k (W/val v)) (wr u k (bm (n+3) (W%val v))) k ⟨by simp[hql],by rw[ma (by rw[eY];omega),hul],f7 wq hdig.q_lt,qu wu (ke _ _),by omega,e2,e3⟩ (hw:=Wk.of aZ (.cons rfl (BlkSub.of (by rw[<- hW];first |(rw[q1];done) |(rw[E2 (r:=W%val v) hwul (eY _ _) (by rw[k8 _ _ hrl];exact q1)];done))) (.cons rfl (BlkSub.of (by rw[Yg,q2];rfl)) .nil)))
 have hj0:j=0:=by have:=t80;simp[aa]at this;omega
 subst hj0;have hU':2^sh*val a=2^sh*val b*val q+val u:=by rw[<- vv];simpa using hU
 obtain⟨hQ,hR⟩:=Rb hU' (by rw[<- vv];simpa using hlt);refine gW ((Wk.freeze (k:=61) rfl).trans<|(Wk.freeze (k:=901) rfl).trans<|Wk.of (sl:=[(8,some (i64 sh)),(10,some (ws u)),(11,some (ws q))]) (hp:=[]) (.k (.cons rfl (Sub.of (bJ (by simp[hul]))) (.cons rfl (Sub.of (by rw[show AV.fz 61 1 (q.map u32) (.ms 61 1 0 lq)=ws q from bJ (by simp[hql])];rfl)) .nil))) .nil) ?_;refine gc (lX q wq (by unfold aD;omega)) ?_;refine gc (KV u sh wu (by unfold aD;omega) hsh2) ?_;refine bp ?_;rw[<- hQ,<- hR]
theorem xf{b:Bool}{n:Nat}:(cond b (aa .gtr ((ofNat n).length:Int) 0) false)=true↔(b=true/\0<n):=by
 have h:aa .gtr ((ofNat n).length:Int) 0=true↔0<n:=by
  simp only[aa,decide_eq_true_eq];constructor
  ·intro h;rcases Nat.eq_zero_or_pos n with h1 |h1;(subst h1;simp[Tl]at h);exact h1
  ·intro h;have:ofNat n ≠ []:=by intro h1; have:=cg n; rw [h1] at this; simp [val] at this; omega
   have:=List.length_pos_iff.2 this;omega
 cases b with
 |false=>simp
 |true=>exact⟨fun h1=>⟨rfl,h.1 h1⟩,fun h1=>h.2 h1.2⟩
theorem AW(a:Wh)(ha:a.ok):FP 306 [a.av] (i64 a.z.sign):=by
 obtain⟨e1,e2,e3⟩:=Fe ha;refine aj func306 ?_;refine gc (kf a ha) ?_;refine gl ?_;refine gC (fun t3=>?_) (fun t3=>?_)
 ·have h0 : a.m.length = 0 := by simpa [aa] using t3
  refine af ?_;rw[e1 h0];rfl
 have h0:a.m.length≠0:=by simpa[aa]using t3
 refine gC (fun t8=>?_) (fun t8=>?_)
 ·refine af ?_;rw[e2 h0 t8];rfl
 refine af ?_;rw[e3 h0 t8];rfl
theorem Nj(a b:Wh)(ha:a.ok)(hb:b.ok):FP 304 [a.av,b.av] (i64 (gp a.z b.z)):=by
 refine aj func304 ?_;refine gc (AW a ha) ?_;refine gc (AW b hb) ?_;refine gD ?_;refine gC (fun t14=>?_) (fun t14=>?_)
 ·have h0 : a.z.sign ≠ b.z.sign := by simpa [aa] using t14
  obtain⟨e1,e2⟩:=Wr h0;refine gC (fun t17=>?_) (fun t17=>?_)
  ·have h1 : a.z.sign < b.z.sign := by simpa [aa] using t17
   refine af ?_;rw[e1 h1];rfl
  have h1:¬a.z.sign<b.z.sign:=by simpa[aa]using t17
  refine af ?_;rw[e2 h1];rfl
 have h0:a.z.sign=b.z.sign:=by simpa[aa]using t14
 have e1:=Pk h0;refine gc (kf a ha) ?_;refine gc (kf b hb) ?_;refine gc (zV a.m b.m (Wh.ws ha) (Wh.ws hb) a.nz b.nz) ?_;refine gD ?_;refine gc (iS a ha) ?_;refine gC (fun t24=>?_) (fun t24=>?_)
 ·rw[t24,Yl rfl]at e1;refine gs (vm (.tmp rfl) rfl) ?_;refine af ?_;rw[e1];split
  ·rfl
  ·split <;> rfl
 rw[t24,Yk Bool.false_ne_true]at e1;refine af ?_
 first |(rw[e1];done) |(rw[e1];rfl)
theorem JX(a:Wh)(ha:a.ok)(la:a.mag.length<aD):FP 234 [a.av] (zA (-a.z)):=by
 refine aj func234 ?_;refine gc (iS a ha) ?_;refine gc (kf a ha) ?_;refine gc (jR _ a.m (Wh.ws ha) (Nat.le_of_lt (Wh.small ha la))) ?_;refine gD ?_;refine af ?_;rw[Wh.z_eq,<- GW];rfl
theorem R8(a b:Wh)(ha:a.ok)(hb:b.ok)(la:a.mag.length+b.mag.length<=aD):FP 321 [a.av,b.av] (zA (a.z*b.z)):=by
 have h1:=Wh.m_le (w:=a);have h2:=Wh.m_le (w:=b);have h3:(ofNat (val a.m*val b.m)).length<=a.m.length+b.m.length:=fj (by rw[Yb];exact Nat.mul_lt_mul'' (b9 _ (Wh.ws ha)) (b9 _ (Wh.ws hb)));refine aj func321 ?_;refine gc (iS a ha) ?_;refine gc (iS b hb) ?_;refine gc (kf a ha) ?_;refine gc (kf b hb) ?_;refine gc (Ut a.m b.m (Wh.ws ha) (Wh.ws hb) oz) ?_;refine gc (jR _ _ (dk _) oz) ?_;refine gD ?_;refine af ?_;rw[cg,Cv];rfl
theorem TA(a b:Wh)(ha:a.ok)(hb:b.ok)(la:a.mag.length<aD)(lb:b.mag.length<aD):FP 320 [a.av,b.av] (zA (a.z+b.z)):=by
 have h1:=Wh.m_le (w:=a);have h2:=Wh.m_le (w:=b);have hla:val a.m<4294967296^(max a.m.length b.m.length):=XS (b9 _ (Wh.ws ha)) (Nat.pow_le_pow_right oz oz);have hlb:val b.m<4294967296^(max a.m.length b.m.length):=XS (b9 _ (Wh.ws hb)) (Nat.pow_le_pow_right oz oz);have h3:(ofNat (val a.m+val b.m)).length<=max a.m.length b.m.length+1:=fj (by rw[Nat.pow_succ];omega);have h4:(ofNat (val a.m-val b.m)).length<=max a.m.length b.m.length:=fj oz;have h5:(ofNat (val b.m-val a.m)).length<=max a.m.length b.m.length:=fj oz;refine aj func320 ?_;refine gc (kf a ha) ?_;refine gc (kf b hb) ?_;refine gD ?_;refine gc (iS a ha) ?_;refine gc (iS b hb) ?_;refine gD ?_;refine gC (fun t11=>?_) (fun t11=>?_)
 ·have h0 : a.n = b.n := by simpa using t11
  refine gc (iS a ha) ?_;refine gc (JC a.m b.m (Wh.ws ha) (Wh.ws hb) oz oz) ?_;refine gc (jR _ _ (dk _) oz) ?_;refine af ?_;rw[cg,Cm h0];rfl
 have h0:a.n≠b.n:=by simpa using t11
 refine gc (zV a.m b.m (Wh.ws ha) (Wh.ws hb) a.nz b.nz) ?_;refine gC (fun t23=>?_) (fun t23=>?_)
 ·have h6:val b.m<=val a.m:=by
   rcases XH (val a.m) (val b.m)with h |h
   ·rw[Yl h]at t23;cases t23
   ·exact h
  refine gc (iS a ha) ?_;refine gc (Ba a.m b.m (Wh.ws ha) (Wh.ws hb) oz (by rcases XH a.m.length b.m.length with h |h;(have:=tK (Wh.ws ha) b.nz h;omega);exact h) h6) ?_;refine gc (jR _ _ (dk _) oz) ?_;refine af ?_;rw[cg,BV h0 h6];rfl
 have h6:val a.m<val b.m:=by
  rcases XH (val a.m) (val b.m)with h |h
  ·exact h
  ·rw[Yk oz]at t23;split at t23 <;> cases t23
 refine gc (iS b hb) ?_;refine gc (Ba b.m a.m (Wh.ws hb) (Wh.ws ha) oz (by rcases XH b.m.length a.m.length with h |h;(have:=tK (Wh.ws hb) a.nz h;omega);exact h) oz) ?_;refine gc (jR _ _ (dk _) oz) ?_;refine af ?_;rw[cg,I4 h0 oz];rfl
theorem FS(a b:Wh)(ha:a.ok)(hb:b.ok)(la:a.mag.length<aD)(lb:b.mag.length<aD):FP 305 [a.av,b.av] (zA (Int.gcd a.z b.z)):=by
 refine aj func305 ?_;refine gc (kf a ha) ?_;refine gc (kf b hb) ?_;refine gD ?_;refine gz [4] [4] (fun(x y:List Nat)=>[(5,some (ws x)),(6,some (ws y))]) (fun _ _=>[]) (fun x y=>Ws x/\Ws y/\Nz x/\Nz y/\x.length<aD/\y.length<aD/\Nat.gcd (val x) (val y)=Int.gcd a.z b.z) (fun _ y=>val y) a.m b.m ⟨Wh.ws ha,Wh.ws hb,a.nz,b.nz,Wh.small ha la,Wh.small hb lb,by rw[Int.gcd,Wh.abs,Wh.abs]⟩ ?_;rintro x y ⟨wx,wy,nx,ny,lx,ly,hg⟩ K1 J1;refine gl ?_;refine gC (fun t15=>?_) (fun t15=>?_)
 ·have hy : y ≠ [] := by intro h; subst h; simp [aa] at t15
  have hy0:=nW ny hy;have hm:=Nat.mod_lt (val x) hy0;refine gc (DT x y wx wy nx ny hy lx ly) ?_;exact fU J1 y (ofNat (val x%val y)) ⟨wy,dk _,ny,qT _,ly,XX (fj (Nat.lt_trans hm (b9 y wy))) ly,by rw[cg,<- hg,Nat.gcd_comm (val x) (val y),Nat.gcd_comm (val y) (val x%val y)];exact(Nat.gcd_rec _ _).symm⟩ (by show val (ofNat _)<val y;rw[cg];exact hm)
 have hy:y=[]:=by
  cases y with
  |nil=>rfl
  |cons c l=>simp[aa]at t15
 subst hy;have hg':val x=Int.gcd a.z b.z:=by rw[<- hg];simp[val]
 refine gc (jR false x wx (Nat.le_of_lt lx)) ?_;refine af ?_;rw[hg'];rfl
theorem NJ(a b:Wh)(ha:a.ok)(hb:b.ok)(la:a.mag.length+1<aD)(lb:b.mag.length<aD)(h0:b.z≠0):FP 322 [a.av,b.av] (.tup [zA (a.z/b.z),zA (a.z%b.z),.v .nilIface]):=by
 have hm1:=Wh.m_le (w:=a);have hm2:=Wh.m_le (w:=b);have hb1:val b.m≠0:=by have:=Wh.abs (w:=b);omega
 have hb2:b.m≠[]:=fun h=>hb1 (by rw[h];rfl)
 have hl1:(ofNat (val a.m/val b.m)).length<=a.m.length:=fj (XX (Nat.div_le_self _ _) (b9 _ (Wh.ws ha)));have hmod:=Nat.mod_lt (val a.m) (show 0<val b.m by omega);have hl2:(ofNat (val a.m%val b.m)).length<=b.m.length:=fj (Nat.lt_trans hmod (b9 _ (Wh.ws hb)));have hl3:(ofNat (val a.m/val b.m+1)).length<=a.m.length+1:=fj (by have h7:=XX (Nat.div_le_self (val a.m) (val b.m)) (b9 _ (Wh.ws ha));rw[Nat.pow_succ];generalize val a.m/val b.m=m at *;omega);have hl4:(ofNat (val b.m-val a.m%val b.m)).length<=b.m.length:=fj (by have:=b9 _ (Wh.ws hb);omega);have hv1:val [1]=1:=rfl;refine aj func322 ?_;refine gc (kf b hb) ?_;refine gl ?_;refine gC (fun t14=>?_) (fun t14=>?_) (st1:=(3,0));exact absurd (List.length_eq_zero_iff.1 (by simpa[aa]using t14)) hb2;refine gc (kf a ha) ?_;refine gc (DT a.m b.m (Wh.ws ha) (Wh.ws hb) a.nz b.nz hb2 oz oz) ?_;refine gc (iS a ha) ?_;refine cQ ?_;refine gC (fun t31=>?_) (fun t31=>?_)
 ·have h1:a.n = true /\ 0 < val a.m % val b.m:=xf.1 t31;obtain ⟨e1,e2⟩:=E6 hb1 h1.1 h1.2;refine gc (JC (ofNat (val a.m / val b.m)) [1] (dk _) (rN oz) oz (by unfold aD; simp)) ?_;refine gc (Ba b.m (ofNat (val a.m % val b.m)) (Wh.ws hb) (dk _) oz hl2 (by rw [cg]; omega)) ?_ (7,0);refine gW (Wk.of (sl:=[(2,some (.ptr 2 0)),(3,some (.ptr 3 0)),(4,some (.ptr 4 0)),(5,some (.ptr 5 0)),(8,some (ws (ofNat (val a.m / val b.m + 1)))),(9,some (ws (ofNat (val b.m - val a.m % val b.m))))]) (hp:=[(2,some (.box [bl a.neg,ws a.mag])),(3,some (.box [bl b.neg,ws b.mag])),(4,some (.box [.v (.bool false),nS])),(5,some (.box [.v (.bool false),nS]))]) (.k (.k (.k (.k (.cons rfl (Sub.of (by rw [cg,hv1])) (.cons rfl (Sub.of (by rw [cg])) .nil)))))) (.k (.k (.k (.k .nil))))) ?_
  refine gc (iS a ha) ?_;refine gc (iS b hb) ?_;refine gc (by apply jR _ _ (dk _) oz) ?_;refine gc (by apply jR _ _ (dk _) oz) ?_;refine gD ?_;refine gR ?_;exact tR (by rw[cg,cg,e1,show sgn false _=_ from e2];rfl)
 have h1:¬(a.n=true/\0<val a.m%val b.m):=fun h=>Bool.eq_false_iff.1 t31 (xf.2 h)
 obtain⟨e1,e2⟩:=Fq hb1 h1;refine gc (iS a ha) ?_;refine gc (iS b hb) ?_;refine gc (by apply jR _ _ (dk _) oz) ?_;refine gc (by apply jR _ _ (dk _) oz) ?_;refine gD ?_;refine gR ?_;exact tR (by rw[cg,cg,e1,show sgn false _=_ from e2];rfl)
theorem xF{N:Nat}(h:N<18446744073709551616):val [N%4294967296,N/2^32]=N:=by
 simp only[val];omega
theorem v7{N:Nat}(h:N<18446744073709551616):Ws [N%4294967296,N/2^32]:=by
 intro x hx;simp only[X6,XV,or_false]at hx;rcases hx with rfl |rfl <;> omega
theorem Ea(n:Int)(h:-9223372036854775808<=n/\n<=9223372036854775807):FP 257 [i64 n] (zA n):=by
 obtain⟨N,hN⟩:∃N,N=n.natAbs:=⟨_,rfl⟩
 have hNB:N<18446744073709551616:=by omega
 refine aj func257 ?_;refine gv (show IntKind.u64.wrap n=((n%18446744073709551616:Int)) by simp only[IntKind.wrap,IntKind.signed,IntKind.bits,Bool.false_and,if_false,Bool.false_eq_true];omega) ?_;refine gC (fun t7=>?_) (fun t7=>?_) (st2:=(77777,0))
 ·have hn : n < 0 := by simpa [aa] using t7
  refine gs (vm (.tmp rfl) rfl) ?_ (4,0);refine gW (Wk.of (sl:=[(0,some (i64 n)),(2,some (.ptr 2 0)),(3,some (u64 N))]) (hp:=[(2,some (.box [.v (.bool false),nS]))]) (.k (.k (.cons rfl (Sub.int (by simp only[IntKind.wrap,IntKind.signed,IntKind.bits,Bool.false_and,if_false,Bool.false_eq_true];omega)) .nil))) (.k .nil)) ?_;refine gv (dK _) ?_;refine gs (eM (.tmp rfl) (.const _) oz (gI _ 32 oz) rfl) ?_;refine gv ((dK _).trans (by rw[Nat.mod_eq_of_lt (show N/2^32<4294967296 by omega)])) ?_;refine gc (jR (aa .lss n 0) [N%4294967296,N/2^32] (v7 hNB) (by unfold aD;simp)) ?_;refine af ?_;rw[xF hNB,show sgn (aa .lss n 0) N=n by simp only[sgn,aa,decide_eq_true_eq];split <;> omega];rfl
 have hn:¬n<0:=by simpa[aa]using t7
 refine gW (Wk.of (sl:=[(0,some (i64 n)),(2,some (.ptr 2 0)),(3,some (u64 N))]) (hp:=[(2,some (.box [.v (.bool false),nS]))]) (.k (.k (.cons rfl (Sub.int oz) .nil))) (.k .nil)) ?_;refine gv (dK _) ?_;refine gs (eM (.tmp rfl) (.const _) oz (gI _ 32 oz) rfl) ?_;refine gv ((dK _).trans (by rw[Nat.mod_eq_of_lt (show N/2^32<4294967296 by omega)])) ?_;refine gc (jR (aa .lss n 0) [N%4294967296,N/2^32] (v7 hNB) (by unfold aD;simp)) ?_;refine af ?_;rw[xF hNB,show sgn (aa .lss n 0) N=n by simp only[sgn,aa,decide_eq_true_eq];split <;> omega];rfl
end Go.Lw
