/- DyadComplete: for anything drawn and any group the law returns true and leaves its arguments as they were. No other condition. Part 3 of 8: what the later parts need -/
import Derived.Test.YtpdiojikejnehaaGreatYb
import Derived.Laws.Strings
set_option linter.unusedVariables false
open List (mem_of_getElem? mem_cons_of_mem mem_append mem_cons length_cons mem_cons_self length_append length_nil getD_eq_getElem?_getD getElem?_append_left getElem?_eq_none all_eq_true getElem?_take getElem?_drop getElem?_map append_assoc getElem?_append_right getElem?_eq_getElem drop_eq_nil_of_le nil_append map_append length_take take_of_length_le drop_zero take_length not_mem_nil length_map drop_drop mem_of_mem_take map_take all_append map_map length_replicate map_replicate map_set)
open Nat (eq_of_beq_eq_true le_refl lt_of_lt_of_le lt_or_ge le_trans mul_le_mul_right mul_le_mul_left zero_le pow_add lt_of_le_of_lt)
open Option (map_eq_some_iff)
open Bool (and_eq_true or_eq_true)
open Array (getD_eq_getD_getElem?)
open Int (toNat_natCast natAbs_natCast)
open Go.Proofs.Tryz
namespace Go.Lw
theorem aH.own2{s:AS}{k:Nat}{y z:Blk}{x r:AV}(h:lk s.hp k=some y)(hz:y=z)(hx:x=r):aH s x r [(k,some z)]:=by
 subst hz;subst hx
 refine aH.keep ?_;intro k' z' h';rw[aU]at h';split at h'
 ·rename_i e;cases h';rw[e];exact h
 ·cases h'
def bC(u:List Nat)(j n:Nat):List Nat:=(u.drop j).take n
def wr(u:List Nat)(j:Nat)(l:List Nat):List Nat:=u.take j++l++u.drop (j+l.length)
theorem yF{u o:List Nat}{j n:Nat}(h1:o.take j=u.take j)(h2:o.drop (j+n)=u.drop (j+n))(hn:j+n<=o.length):o=wr u j (bC o j n):=by
 have hl:(bC o j n).length=n:=by simp[bC];omega
 unfold wr;rw[hl,<- h1,<- h2]
 conv=>lhs;rw[<- List.take_append_drop j o]
 rw[append_assoc];congr 1;unfold bC
 conv=>lhs;rw[<- List.take_append_drop n (o.drop j)]
 rw[drop_drop]
theorem lW{u l:List Nat}{j:Nat}(h:j+l.length<=u.length):(wr u j l).length=u.length:=by simp[wr];omega
theorem wL{a b:List Nat}(ha:Ws a)(hb:Ws b):Ws (a++b):=fun x hx=>(List.mem_append.1 hx).elim (ha x) (hb x)
theorem EJ{l:List Nat}(h:Ws l)(n:Nat):Ws (l.drop n):=fun x hx=>h x (List.mem_of_mem_drop hx)
theorem mJ{l:List Nat}(h:Ws l)(i n:Nat):Ws (bC l i n):=fQ (EJ h i) n
theorem q5{u l:List Nat}{j:Nat}(hu:Ws u)(hl:Ws l):Ws (wr u j l):=wL (wL (fQ hu _) hl) (EJ hu _)
theorem ol{u:List Nat}{j n:Nat}(h:j+n<=u.length):(bC u j n).length=n:=by simp[bC];omega
theorem Mz{u l:List Nat}{j:Nat}(h:j+l.length<=u.length):val ((wr u j l).drop j)=val l+4294967296^l.length*val (u.drop (j+l.length)):=by
 unfold wr;rw[append_assoc,List.drop_append_of_le_length (by simp;omega),drop_eq_nil_of_le (by simp;omega),nil_append,qr]
theorem B7{u:List Nat}{j n:Nat}(h:j+n<=u.length):val (u.drop j)=val (bC u j n)+4294967296^n*val (u.drop (j+n)):=by
 rw[uh (u.drop j) n,drop_drop,Nat.min_eq_left (by simp;omega)];rfl
theorem Bj{u:List Nat}{j:Nat}(h:j<=u.length):val u=val (u.take j)+4294967296^j*val (u.drop j):=by
 rw[uh u j,Nat.min_eq_left h]
theorem Ey{u l:List Nat}{j:Nat}(h:j<=u.length):(wr u j l).take j=u.take j:=by
 unfold wr;rw[append_assoc,List.take_append_of_le_length (by simp;omega),take_of_length_le (by simp;omega)]
theorem Lo{u l:List Nat}{j:Nat}(h:j<=u.length):(wr u j l).drop (j+l.length)=u.drop (j+l.length):=by
 unfold wr;rw[List.drop_append,drop_eq_nil_of_le (by simp;omega)];simp[Nat.min_eq_left h]
theorem wK{l:List Nat}{j i:Nat}:am (l.drop j) i=am l (j+i):=by simp[am]
theorem rc{u o:List Nat}{k:Nat}(h:o.drop k=u.drop k):am o k=am u k:=by
 have h1:=wK (l:=o) (j:=k) (i:=0);have h2:=wK (l:=u) (j:=k) (i:=0);rw[h]at h1;simpa using h1.symm.trans h2
theorem tB{u o:List Nat}{k x:Nat}(h:o.drop k=u.drop k):(o.set k x).drop (k+1)=u.drop (k+1):=by
 rw[List.drop_set_of_lt oz];have h1:(o.drop k).drop 1=(u.drop k).drop 1:=by rw[h]
 rwa [drop_drop,drop_drop]at h1
theorem Ii{o:List Nat}{j i x:Nat}(h:j+i<o.length):val (bC (o.set (j+i) x) j (i+1))=val (bC o j i)+4294967296^i*x:=by
 unfold bC;rw[List.drop_set,if_neg oz,Nat.add_sub_cancel_left,lw (by simp;omega)]
theorem FA{u:List Nat}{j i:Nat}:val (bC u j (i+1))=val (bC u j i)+4294967296^i*am u (j+i):=by
 unfold bC;rw[dk,wK]
theorem Ow{lo c P n V w:Nat}(h:lo+c*P=n*V):(lo+P*((c+n*w)%4294967296))+((c+n*w)/4294967296)*(P*4294967296)=n*(V+P*w):=by
 have:=Nat.div_add_mod (c+n*w) 4294967296;generalize(c+n*w)%4294967296=r at *;generalize(c+n*w)/4294967296=q at *;grind
def kg(n V W len:Nat):Nat:=if n*V<=W then W-n*V else W+4294967296^len-n*V
theorem Rw{u o v:List Nat}{off len n c b lo:Nat}(hu:Ws u)(ho:Ws o)(hl:o.length=u.length)(hj:off+len<=u.length)(hv:Ws v)(hvl:v.length+1<=len)(hn:n<4294967296)
  (h1:o.take off=u.take off) (h2:o.drop (off+len)=u.drop (off+len)) (hb:b<=1) (h3:lo+c*4294967296^len=n*val (v.take len))
  (h4:val (bC o off len)+lo=val (bC u off len)+b*4294967296^len) :
  o=wr u off (bq len (kg n (val v) (val (bC u off len)) len))/\(b=1↔val (bC u off len)<n*val v):=by
 rw[eZ oz]at h3
 have hV:n*val v<4294967296^len:=by
  have h5:=cc v hv;have h6:4294967296^(v.length+1)<=4294967296^len:=Nat.pow_le_pow_right oz hvl;rw[Nat.pow_succ,Nat.mul_comm]at h6;exact lt_of_lt_of_le (Nat.mul_lt_mul'' hn h5) h6
 have hc:c=0:=by
  cases c with
  |zero=>rfl
  |succ c=>rw[Nat.succ_mul]at h3;omega
 subst hc;rw[Nat.zero_mul,Nat.add_zero]at h3;subst h3;have ho':=cc (bC o off len) (mJ ho _ _);have hu':=cc (bC u off len) (mJ hu _ _);rw[ol oz]at ho' hu';have hb':b=0\/b=1:=by omega
 refine⟨?_,?_⟩
 ·have h7:bC o off len=bq len (kg n (val v) (val (bC u off len)) len):=by
   refine xm (mJ ho _ _) (ol oz) ?_;unfold kg;rcases hb' with rfl |rfl
   ·rw[if_pos oz];omega
   ·rw[if_neg oz];omega
  rw[<- h7];exact yF h1 h2 oz
 ·rcases hb' with rfl |rfl <;> omega
theorem QG{u o v:List Nat}{off len c:Nat}(ho:Ws o)(hl:o.length=u.length)(hj:off+len<=u.length)(hvl:v.length<=len)
  (h1:o.take off=u.take off) (h2:o.drop (off+len)=u.drop (off+len)) 
  (h4:val (bC o off len)+c*4294967296^len=val (bC u off len)+val (v.take len)) :
  o=wr u off (bq len ((val (bC u off len)+val v)%4294967296^len)):=by
 rw[eZ oz]at h4;have ho':=cc (bC o off len) (mJ ho _ _);rw[ol oz]at ho'
 have h7:bC o off len=bq len ((val (bC u off len)+val v)%4294967296^len):=by
  refine xm (mJ ho _ _) (ol oz) ?_;rw[<- h4,Nat.add_mul_mod_self_right,Nat.mod_eq_of_lt ho']
 rw[<- h7];exact yF h1 h2 oz
def bf(x:Nat):Nat:=if x=0 then 0 else x.log2+1
theorem jP{x:Nat}(h:x<256):IntKind.u8.wrap (x:Int)=(x:Int):=by
 simp only[IntKind.wrap,IntKind.signed,IntKind.bits,Bool.false_and,if_false,Bool.false_eq_true];omega
theorem uD{x:Nat}:x<2^bf x:=by
 unfold bf;split
 ·next h=>subst h;decide
 ·exact Nat.lt_log2_self
theorem u4{x:Nat}(h:x≠0):2^(bf x-1)<=x:=by
 unfold bf;rw[if_neg h,Nat.add_sub_cancel];exact Nat.log2_self_le h
theorem Vb{x k:Nat}(h1:2^k<=x)(h2:x<2^(k+1)):bf x=k+1:=by
 have hx:x≠0:=by intro h;subst h;have:=Nat.pow_pos (n:=k) (show 0<2 by omega);omega
 unfold bf;rw[if_neg hx,(Nat.log2_eq_iff hx).2 ⟨h1,h2⟩]
theorem rP{x k:Nat}(h:2^k<=x):bf x=k+bf (x/2^k):=by
 have h0:x/2^k≠0:=by
  have:=Nat.div_pos h (Nat.pow_pos oz);omega
 have h1:=u4 h0;have h2:=uD (x:=x/2^k);have h3:1<=bf (x/2^k):=by unfold bf;rw[if_neg h0];omega
 generalize bf (x/2^k)=m at *;obtain⟨n,rfl⟩:∃n,m=n+1:=⟨m-1,by omega⟩
 rw[Nat.add_sub_cancel]at h1;rw[Nat.le_div_iff_mul_le (Nat.pow_pos oz),<- pow_add]at h1;rw[Nat.div_lt_iff_lt_mul (Nat.pow_pos oz),<- pow_add]at h2;rw[show k+(n+1)=(n+k)+1 by omega];exact Vb h1 (by rw[show n+k+1=n+1+k by omega];exact h2)
theorem Bo{x:Nat}(h:x≠0)(hx:x<4294967296):bf x<=32/\1<=bf x/\2147483648<=2^(32-bf x)*x/\2^(32-bf x)*x<4294967296:=by
 have h1:=u4 h;have h2:=uD (x:=x);have h3:1<=bf x:=by unfold bf;rw[if_neg h];omega
 have h4:bf x<=32:=by
  rcases lt_or_ge 32 (bf x)with h5 |h5
  ·have:2^32<=2^(bf x-1):=oY oz;omega
  ·exact h5
 refine⟨h4,h3,?_,?_⟩
 ·have:=mul_le_mul_left (2^(32-bf x)) h1;rw[<- pow_add,show 32-bf x+(bf x-1)=31 by omega]at this;omega
 ·have:=(Nat.mul_lt_mul_left (a:=2^(32-bf x)) (Nat.pow_pos oz)).2 h2;rw[<- pow_add,show 32-bf x+bf x=32 by omega]at this;omega
def IA(b:ByteArray):Bool:=Nat.beq b.data.toList.length 256&&(List.range 256).all fun y=>Nat.beq (b.data.toList.getD y 0).toNat (bf y)
theorem sE{P:Program}{N:Nat}{R:Array Oper}{s:AS}{d:Nat}{x ix:Operand}{kk:IntKind}{i:Int}{y:Nat}{b:ByteArray}{T t:TypeId}{ti:TI}{pos:String}{after:Array Edge}
  (hx:Ev s x (.v (.string b))) (hi:Ev s ix (.v (.int kk i))) (hT:aF P T=some ti) (hk:ti.k=.string)
  (hb:IA b=true) (h0:i=(y:Int)) (hy:y<256) (hN:Nat.blt d N=true) :
  Step P N R s ⟨some d,.index T x ix,t,pos,after,none⟩ ⟨some (.v (.int .u8 (bf y))),[],ay x++ay ix,[]⟩:=by
 subst h0;simp only[IA,and_eq_true,all_eq_true,List.mem_range]at hb;have hs:b.size=256:=by have:=eq_of_beq_eq_true hb.1;rw[Array.length_toList]at this;exact this
 have h1:=eq_of_beq_eq_true (hb.2 y hy);have:=wg (R:=R) (N:=N) (t:=t) (pos:=pos) (after:=after) hx hi hT hk oz oz hN;rw[toNat_natCast]at this;rw[getD_eq_getElem?_getD,Array.getElem?_toList,<- getD_eq_getD_getElem?]at h1
 rwa [h1]at this
theorem iV{x:Nat}(h:x<256):bf x<=8:=by
 rcases lt_or_ge 8 (bf x)with h5 |h5
 ·have h0 : x ≠ 0 := by intro h0; subst h0; simp [bf] at h5
  have h1:=u4 h0;have:2^8<=2^(bf x-1):=oY oz;omega
 ·exact h5
structure Dig(V W P V' W' top next third head:Nat):Prop where
  hV:V=V'+P*(next+4294967296*top)
  hW:W=W'+P*(third+4294967296*head)
  hV':V'<P
  hW':W'<P
  hnext:next<4294967296
  hthird:third<4294967296
  htop:2147483648<=top
  htopB:top<4294967296
  hlt:W<V*4294967296
namespace Dig
variable{V W P V' W' top next third head:Nat}
theorem vpos(h:Dig V W P V' W' top next third head):0<V:=by
 have:=h.hlt;omega
theorem q_lt(h:Dig V W P V' W' top next third head):W/V<4294967296:=by
 rw[Nat.div_lt_iff_lt_mul h.vpos,Nat.mul_comm];exact h.hlt
theorem mul_le(h:Dig V W P V' W' top next third head){q:Nat}(hq:q*V<=W):q*(next+4294967296*top)<=third+4294967296*head:=by
 have h1:q*(P*(next+4294967296*top))<=q*V:=mul_le_mul_left _ (by have:=h.hV;omega);have h2:=h.hW;have h3:=h.hW'
 have h4:P*(q*(next+4294967296*top))<P*(third+4294967296*head+1):=by
  rw[Nat.mul_add P _ 1,Nat.mul_one];have:P*(q*(next+4294967296*top))=q*(P*(next+4294967296*top)):=by grind
  omega
 have:=Nat.lt_of_mul_lt_mul_left h4;omega
theorem up(h:Dig V W P V' W' top next third head){q:Nat}(hq:q*V<=W):q*top<=head:=by
 have h1:=h.mul_le hq;have h2:=h.hthird;rw[Nat.mul_add,show q*(4294967296*top)=4294967296*(q*top) by grind]at h1;omega
theorem first(h:Dig V W P V' W' top next third head):W/V<=head/top:=by
 have:=h.htop;rw[Nat.le_div_iff_mul_le oz];exact h.up (Nat.div_mul_le_self W V)
theorem head_le(h:Dig V W P V' W' top next third head):head<=4294967296*top+next:=by
 have h1:=h.hlt;have h2:=h.hV;have h3:=h.hW;have h4:=h.hV'
 have h5:P*(third+4294967296*head)<P*(4294967296*(next+4294967296*top+1)):=by
  have:V*4294967296<P*(4294967296*(next+4294967296*top+1)):=by
   rw[h2,Nat.add_mul,show P*(next+4294967296*top)*4294967296=P*(4294967296*(next+4294967296*top)) by grind,Nat.mul_add 4294967296 _ 1,Nat.mul_add P];omega
  omega
 have:=Nat.lt_of_mul_lt_mul_left h5;omega
theorem step(h:Dig V W P V' W' top next third head){g r:Nat}(hg:W/V<=g)(he:g*top+r=head)(hc:4294967296<=g\/r*4294967296+third<g*next):W/V<g:=by
 rcases hc with hc |hc
 ·have:=h.q_lt;omega
 ·refine Nat.lt_of_le_of_ne hg ?_;intro hq;have h1:=h.mul_le (Nat.div_mul_le_self W V);rw[hq,<- he,Nat.mul_add,Nat.mul_add,show g*(4294967296*top)=4294967296*(g*top) by grind]at h1;omega
theorem last(h:Dig V W P V' W' top next third head){g r:Nat}(he:g*top+r=head)(hc:¬(r<4294967296/\(4294967296<=g\/r*4294967296+third<g*next))) :
  g<4294967296/\g<=W/V+1:=by
 have hh:=h.head_le;have hn:=h.hnext;have htop:=h.htop
 have hg:g<4294967296/\g*next<=r*4294967296+third:=by
  rcases lt_or_ge r 4294967296 with hr |hr
  ·have h1:¬(4294967296<=g\/r*4294967296+third<g*next):=fun h'=>hc ⟨hr,h'⟩
   omega
  ·have h1:g<4294967296:=by
    rcases lt_or_ge g 4294967296 with h2 |h2
    ·exact h2
    ·have:=mul_le_mul_right top h2;omega
   refine⟨h1,?_⟩;have h2:g*next<=4294967296*4294967296:=Nat.mul_le_mul oz oz;have h3:4294967296*4294967296<=r*4294967296:=mul_le_mul_right _ hr;omega
 refine⟨hg.1,?_⟩
 have h1:g*(next+4294967296*top)<=third+4294967296*head:=by
  rw[<- he,Nat.mul_add,Nat.mul_add,show g*(4294967296*top)=4294967296*(g*top) by grind];omega
 have h2:g*V<=W+V:=by
  have h3:g*V'<=4294967296*P:=Nat.mul_le_mul oz (by have:=h.hV';omega);have h4:P*(g*(next+4294967296*top))<=P*(third+4294967296*head):=mul_le_mul_left _ h1;have h5:P*4294967296<=P*(next+4294967296*top):=mul_le_mul_left _ oz;have h6:=h.hV;have h7:=h.hW;have h8:g*V=g*V'+P*(g*(next+4294967296*top)):=by rw[h6];grind
  omega
 have h9:(g-1)*V<=W:=by rw[Nat.sub_mul];omega
 have:=(Nat.le_div_iff_mul_le h.vpos).2 h9;omega
end Dig
theorem EC{l:List Nat}{n:Nat}:val (l.take (n+2))=val (l.take n)+4294967296^n*(am l n+4294967296*am l (n+1)):=by
 rw[dk,dk,Nat.pow_succ];grind
theorem PC{l:List Nat}{n:Nat}:val (l.take (n+3))=val (l.take n)+4294967296^n*(am l n+4294967296*(am l (n+2)*4294967296+am l (n+1))):=by
 rw[dk,EC,pow_add];grind
theorem nJ{l:List Nat}(h:Ws l)(n:Nat):val (l.take n)<4294967296^n:=by
 have h1:=cc (l.take n) (fQ h n);exact lt_of_lt_of_le h1 (Nat.pow_le_pow_right oz (by simp;omega))
theorem Mq{v p:List Nat}{n:Nat}(hv:Ws v)(hp:Ws p)(hl:v.length=n+2)(hpl:p.length=n+3)(ht:2147483648<=am v (n+1))(h:val p<val v*4294967296) :
  Dig (val v) (val p) (4294967296^n) (val (v.take n)) (val (p.take n)) (am v (n+1)) (am v n) (am p n) (am p (n+2)*4294967296+am p (n+1)) where
 hV:=by rw[<- EC,eZ oz]
 hW:=by rw[<- PC,eZ oz]
 hV':=nJ hv n
 hW':=nJ hp n
 hnext:=bW hv n
 hthird:=bW hp n
 htop:=ht
 htopB:=bW hv (n+1)
 hlt:=h
theorem RM{u l:List Nat}{j:Nat}(h:j<=u.length):bC (wr u j l) j l.length=l:=by
 unfold bC wr;rw[append_assoc,List.drop_append,drop_eq_nil_of_le (by simp;omega)];simp[Nat.min_eq_left h]
theorem Ts{u l l':List Nat}{j:Nat}(h:j<=u.length)(hl:l.length=l'.length):wr (wr u j l) j l'=wr u j l':=by
 have h1:=Ey (l:=l) h;have h2:=Lo (l:=l) h;rw[hl]at h2;rw[wr,h1,h2,<- wr]
theorem Vg{W V g len:Nat}(hV:0<V)(hVl:V<=4294967296^len)(hW:W<4294967296^len)(h1:W/V<=g)(h2:g<=W/V+1) :
  (W<g*V->(kg g V W len+V)%4294967296^len=W%V/\g-1=W/V/\1<=g)/\(¬W<g*V->kg g V W len=W%V/\g=W/V):=by
 have h3:=Nat.div_add_mod W V;have h4:=Nat.mod_lt W hV;generalize W/V=q at *;generalize W%V=r at *;have h5:V*q=q*V:=Nat.mul_comm _ _;refine⟨fun h=>?_,fun h=>?_⟩
 ·have hg:g=q+1:=by
   rcases lt_or_ge q g with h6 |h6
   ·omega
   ·have : g = q := by omega
    subst this;omega
  subst hg;rw[Nat.succ_mul]at h;refine⟨?_,by omega,by omega⟩;unfold kg;rw[Nat.succ_mul,if_neg oz,show W+4294967296^len-(q*V+V)+V=r+4294967296^len by omega,Nat.add_mod_right,Nat.mod_eq_of_lt oz]
 ·have hg:g=q:=by
   rcases lt_or_ge q g with h6 |h6
   ·have : g = q + 1 := by omega
    subst this;rw[Nat.succ_mul]at h;omega
   ·omega
  subst hg;refine⟨?_,rfl⟩;unfold kg;rw[if_pos oz];omega
theorem LZ{u q:List Nat}{k lv V U:Nat}(hu:Ws u)(hk:k+lv+1<=u.length)(hq:k<q.length)(hV:V<4294967296^lv)(h1:val (u.drop (k+1))<V)(h2:U=V*(4294967296^(k+1)*val (q.drop (k+1)))+val u) :
  val (bC u k (lv+1))<V*4294967296/\val ((wr u k (bq (lv+1) (val (bC u k (lv+1))%V))).drop k)<V /\
  U=V*(4294967296^k*val ((q.set k (val (bC u k (lv+1))/V)).drop k))+val (wr u k (bq (lv+1) (val (bC u k (lv+1))%V))):=by
 have h0:val (u.drop (k+(lv+1)))=0:=by
  have h3:=B7 (u:=u) (j:=k+1) (n:=lv) oz;rw[show k+1+lv=k+(lv+1) by omega]at h3;rcases Nat.eq_zero_or_pos (val (u.drop (k+(lv+1))))with h4 |h4
  ·exact h4
  ·have:=mul_le_mul_left (4294967296^lv) h4;omega
 have hd:=B7 (u:=u) (j:=k) (n:=lv+1) oz;rw[h0,Nat.mul_zero,Nat.add_zero]at hd;have hw:=bW hu k;have hd2:=pO (l:=u) (i:=k) oz;have hW:val (bC u k (lv+1))<V*4294967296:=by rw[<- hd,hd2];omega
 have hVp:0<V:=by omega
 have hr:=Nat.mod_lt (val (bC u k (lv+1))) hVp;have hm:=Nat.div_add_mod (val (bC u k (lv+1))) V;have hlen:(bq (lv+1) (val (bC u k (lv+1))%V)).length=lv+1:=fj _ _;have hx:val (bC u k (lv+1))%V<4294967296^(lv+1):=by rw[Nat.pow_succ];omega
 have hwd:val ((wr u k (bq (lv+1) (val (bC u k (lv+1))%V))).drop k)=val (bC u k (lv+1))%V:=by
  rw[Mz oz,hlen,h0,lD _ _ hx];omega
 refine⟨hW,by omega,?_⟩;rw[Bj (u:=wr u k _) (j:=k) (by rw[lW oz];omega),Ey oz,hwd,DI hq,h2,Bj (u:=u) (j:=k) oz,hd];generalize val (bC u k (lv+1))%V=r at *;generalize val (bC u k (lv+1))/V=d at *;rw[<- hm,Nat.pow_succ];grind
theorem TF{A Bv n Q R:Nat}(h:2^n*A=2^n*Bv*Q+R)(hR:R<2^n*Bv):Q=A/Bv/\R/2^n=A%Bv:=by
 obtain⟨h1,h2⟩:=vt h hR;rw[Nat.mul_div_mul_left _ _ (Nat.pow_pos oz)]at h1;rw[Nat.mul_mod_mul_left]at h2;rw[<- h1,<- h2,Nat.mul_div_cancel_left _ (Nat.pow_pos oz)];exact⟨rfl,rfl⟩
end Go.Lw
namespace Go.Lw
theorem Ed:∀k v,(bq (k+1) v).take k=bq k v
 |0,_=>by simp[bq]
 |k+1,v=>by
  rw[bq,List.take_succ_cons,Ed k];rfl
theorem NC{u:List Nat}{j n i:Nat}(h:i<n):am (bC u j n) i=am u (j+i):=by
 rw[<- wK];simp[bC,am,h]
theorem AP{u:List Nat}{j n i:Nat}(h:i<n)(h2:j+n<=u.length):(u.map u32)[j+i]?=some (u32 (am (bC u j n) i)):=by
 rw[NC h];exact cz oz
theorem Uo{b:List Nat}{n:Nat}(hb:Ws b)(nb:Nz b)(hl:b.length=n+2) :
  ∃sh v,sh=32-bf (am b (n+1))/\sh<32/\v=bq (n+2) (2^sh*val b)/\Ws v/\v.length=n+2/\val v=2^sh*val b/\2147483648<=am v (n+1)/\am b (n+1)≠0 /\
   4294967296^(n+1)<=val b:=by
 have ht:am b (n+1)≠0:=by
  refine nb _ ?_;rw[List.getLast?_eq_getElem?,hl];exact jM oz
 have htB:=bW hb (n+1);obtain⟨h1,h2,h3,h4⟩:=Bo ht htB;have h5:=uD (x:=am b (n+1))
 have hv:val b=val (b.take (n+1))+4294967296^(n+1)*am b (n+1):=by
  rw[<- dk,eZ oz]
 have hlt:=nJ hb (n+1)
 have hmul:2^(32-bf (am b (n+1)))*(am b (n+1)+1)<=4294967296:=by
  have:=mul_le_mul_left (2^(32-bf (am b (n+1)))) (show am b (n+1)+1<=2^bf (am b (n+1))from h5);rw[<- pow_add,show 32-bf (am b (n+1))+bf (am b (n+1))=32 by omega]at this;exact this
 have hlo:4294967296^(n+1)<=val b:=by
  have:=mul_le_mul_left (4294967296^(n+1)) (show 1<=am b (n+1) by omega);omega
 generalize hsh:32-bf (am b (n+1))=sh at *
 have hX:2^sh*val b<4294967296^(n+2):=by
  have e1:val b<4294967296^(n+1)*(am b (n+1)+1):=by rw[Nat.mul_add];omega
  have e2:2^sh*val b<2^sh*(4294967296^(n+1)*(am b (n+1)+1)):=(Nat.mul_lt_mul_left (Nat.pow_pos oz)).2 e1;have e3:2^sh*(4294967296^(n+1)*(am b (n+1)+1))=4294967296^(n+1)*(2^sh*(am b (n+1)+1)):=by grind
  have e4:=mul_le_mul_left (4294967296^(n+1)) hmul;rw[<- Nat.pow_succ]at e4;rw[e3]at e2;exact lt_of_lt_of_le e2 e4
 refine⟨sh,_,rfl,by omega,rfl,kl _ _,fj _ _,lD _ _ hX,?_,ht,hlo⟩
 have hv2:val (bq (n+2) (2^sh*val b))=val ((bq (n+2) (2^sh*val b)).take (n+1))+4294967296^(n+1)*am (bq (n+2) (2^sh*val b)) (n+1):=by
  rw[<- dk,eZ (by rw[fj];omega)]
 rw[lD _ _ hX]at hv2;have hlt2:=nJ (kl (n+2) (2^sh*val b)) (n+1)
 have e5:4294967296^(n+1)*(2^sh*am b (n+1))<=2^sh*val b:=by
  have:=mul_le_mul_left (2^sh) (show 4294967296^(n+1)*am b (n+1)<=val b by omega);have e6:2^sh*(4294967296^(n+1)*am b (n+1))=4294967296^(n+1)*(2^sh*am b (n+1)):=by grind
  omega
 have e7:4294967296^(n+1)*(2^sh*am b (n+1))<4294967296^(n+1)*(am (bq (n+2) (2^sh*val b)) (n+1)+1):=by rw[Nat.mul_add (4294967296^(n+1)) _ 1];omega
 have:=Nat.lt_of_mul_lt_mul_left e7;omega
theorem EE{a:List Nat}{sh lq n Bv:Nat}(ha:Ws a)(hsh:sh<32)(hl:a.length+1=lq+(n+2))(hB:4294967296^(n+1)<=Bv) :
  val (bq (a.length+1) (2^sh*val a))=2^sh*val a/\val ((bq (a.length+1) (2^sh*val a)).drop lq)<2^sh*Bv:=by
 have h1:=cc a ha;have h2:2^sh<=2^31:=oY oz;have hp:0<2^sh:=Nat.pow_pos oz;have h3:2^sh*val a<2^sh*4294967296^a.length:=(Nat.mul_lt_mul_left hp).2 h1
 have hX:2^sh*val a<4294967296^(a.length+1):=by
  have:=mul_le_mul_right (4294967296^a.length) (show 2^sh<=4294967296 by omega);rw[Nat.pow_succ];omega
 refine⟨lD _ _ hX,?_⟩;have h4:=vd (kl (a.length+1) (2^sh*val a)) lq (by rw[fj];omega);rw[lD _ _ hX]at h4;rw[<- h4,Nat.div_lt_iff_lt_mul (Nat.pow_pos oz)];have h5:a.length=(n+1)+lq:=by omega
 rw[h5,pow_add]at h3;have h6:=mul_le_mul_left (2^sh) (mul_le_mul_right (4294967296^lq) hB);rw[Nat.mul_assoc];omega
theorem Qw{s:AS}:∀(k:Nat)(z:Blk),lk ([]:Hp) k=some z->s.blk k=some z:=fun _ _ h=>by cases h
theorem RH{s:AS}{k0:Nat}{x:Blk}(h:s.blk k0=some x):∀(k:Nat)(z:Blk),lk [(k0,some x)] k=some z->s.blk k=some z:=by
 intro k z hz;rw[aU]at hz;split at hz
 ·rename_i e;cases hz;rw[e];exact h
 ·cases hz
theorem KH{s:AS}{x y x' y':AV}(h:Sub x x')(h':Sub y y'):aH s (dK [x,y]) (.tup [x',y']) []:=by
 refine aH.pure.sub ?_;intro g S m v hr;cases hr with
 |tup hn hr =>
  refine .tup (by simpa using hn) ?_;intro j u c hu hc
  match j,hc with
  |0,hc=>cases hc;exact h _ _ _ _ (hr 0 u x hu rfl)
  |1,hc=>cases hc;exact h' _ _ _ _ (hr 1 u y hu rfl)
theorem M0{b v:List Nat}{n X:Nat}(hn:b.length=n+2)(h:v=bq (n+2) X) :
  AV.fz 900 1 ((bq (b.length+1) X).map u32) (.ms 900 1 0 b.length)=ws v:=by
 rw[uE (by simp[fj]),h,<- hn,drop_zero,<- map_take,Ed,ws]
theorem FD{x:Nat}(h:1<=x)(hx:x<18446744073709551616):IntKind.u64.wrap (fI .sub (x:Int) 1)=((x-1:Nat):Int):=by
 have h1:=kM (x:=x) (y:=1) hx oz;rw[if_pos h]at h1;exact h1
theorem It{r g G R:Nat}:(cond (ac .lss (r:Int) 4294967296) (cond (ac .geq (g:Int) 4294967296) true (ac .gtr (G:Int) (R:Int))) false)=true ↔
  (r<4294967296/\(4294967296<=g\/R<G)):=by
 have e1:ac .lss (r:Int) 4294967296=decide (r<4294967296):=by rw[Bool.eq_iff_iff];simp only[ac,decide_eq_true_eq];omega
 have e2:ac .geq (g:Int) 4294967296=decide (4294967296<=g):=by rw[Bool.eq_iff_iff];simp only[ac,decide_eq_true_eq];omega
 have e3:ac .gtr (G:Int) (R:Int)=decide (R<G):=by rw[Bool.eq_iff_iff];simp only[ac,decide_eq_true_eq];omega
 rw[e1,e2,e3]
 by_cases h1:r<4294967296
 ·by_cases h2:4294967296<=g
  ·rw[decide_eq_true h1,decide_eq_true h2];exact⟨fun _=>⟨h1,.inl h2⟩,fun _=>rfl⟩
  ·rw[decide_eq_true h1,decide_eq_false h2];show decide (R<G)=true↔_;rw[decide_eq_true_eq];exact⟨fun h=>⟨h1,.inr h⟩,fun h=>h.2.resolve_left h2⟩
 ·rw[decide_eq_false h1];constructor
  ·intro h;exact Bool.noConfusion h
  ·intro h;exact absurd h.1 h1
theorem BO{u:List Nat}{k n V r:Nat}{l:List Nat}(hk:k+n<=u.length)(hl:l.length=n)(h:(val l+V)%4294967296^n=r) :
  wr (wr u k l) k (bq n ((val (bC (wr u k l) k n)+V)%4294967296^n))=wr u k (bq n r):=by
 subst hl;rw[Ts oz (by rw[fj]),RM oz,h]
theorem QV{s:AS}{k1 k2:Nat}{x1 x2:Blk}(h1:s.blk k1=some x1)(h2:s.blk k2=some x2):∀(k:Nat)(z:Blk),lk [(k1,some x1),(k2,some x2)] k=some z->s.blk k=some z:=by
 intro k z hz;rw[aU]at hz;split at hz
 ·rename_i e;cases hz;rw[e];exact h1
 ·rw[aU]at hz;split at hz
  ·rename_i e;cases hz;rw[e];exact h2
  ·cases hz
theorem aM{p:Prop}(h:p:=by first |exact Qw |exact RH rfl |exact QV rfl rfl):p:=h
def gq(x y:Int):Int:=if x<y then -1 else if y<x then 1 else 0
theorem F2(b:Bool)(n:Nat):sgn (!b) n=-(sgn b n):=by cases b <;> simp[sgn]
theorem Wh.small{w:Wh}(h:w.ok)(hl:w.mag.length<aD):w.m.length<aD:=lt_of_le_of_lt Wh.m_le hl
theorem GN{w:Wh}(h:w.ok):(w.m.length=0->w.z.sign=0)/\(w.m.length≠0->w.neg=true->w.z.sign=-1)/\(w.m.length≠0->w.neg=false->w.z.sign=1):=by
 have h1:w.m.length≠0->w.valid=true:=by
  intro h0;unfold Wh.m at h0;split at h0
  ·assumption
  ·exact absurd rfl h0
 refine⟨?_,?_,?_⟩
 ·intro h0;have h2:w.m = []:=List.length_eq_zero_iff.1 h0;have h3:val w.m = 0:=by rw [h2]; rfl
  have:w.z=0:=by unfold Wh.z;rw[h3];split <;> rfl
  rw[this];rfl
 ·intro h0 hn;have h2:w.n = true:=by unfold Wh.n; rw [h1 h0,hn]; rfl
  have h3:=Wh.n_val h2;rw[Int.sign_eq_neg_one_iff_neg];unfold Wh.z;rw[if_pos h2];omega
 ·intro h0 hn;have h2:w.n = false:=by unfold Wh.n; rw [h1 h0,hn]; rfl
  have h3:=oW w.nz (fun h=>h0 (by rw[h];rfl));rw[Int.sign_eq_one_iff_pos];unfold Wh.z;rw[h2];simp;omega
theorem CT{a b:Wh}(h:a.n=b.n):sgn a.n (val a.m+val b.m)=a.z+b.z:=by
 rw[Wh.z_eq,Wh.z_eq,<- h];unfold sgn;split <;> omega
theorem Bw{a b:Wh}(h:a.n≠b.n)(hl:val b.m<=val a.m):sgn a.n (val a.m-val b.m)=a.z+b.z:=by
 rw[Wh.z_eq,Wh.z_eq];cases ha:a.n <;> cases hb:b.n <;> simp_all [sgn] <;> omega
theorem Fl{a b:Wh}(h:a.n≠b.n)(hl:val a.m<=val b.m):sgn b.n (val b.m-val a.m)=a.z+b.z:=by
 rw[Int.add_comm];exact Bw (fun h'=>h h'.symm) hl
theorem GA{a b:Wh}:sgn (a.n != b.n) (val a.m*val b.m)=a.z*b.z:=by
 rw[Wh.z_eq,Wh.z_eq];cases a.n <;> cases b.n <;> simp[sgn,Int.neg_mul,Int.mul_neg]
theorem zE(z:Int):(z.sign=1/\0<z)\/(z.sign=0/\z=0)\/(z.sign=-1/\z<0):=by
 rcases Int.lt_trichotomy z 0 with h |h |h
 ·exact .inr (.inr ⟨Int.sign_eq_neg_one_iff_neg.2 h,h⟩)
 ·subst h;exact .inr (.inl ⟨rfl,rfl⟩)
 ·exact .inl ⟨Int.sign_eq_one_iff_pos.2 h,h⟩
theorem RI{a b:Wh}(h:a.z.sign≠b.z.sign):(a.z.sign<b.z.sign->gq a.z b.z=-1)/\(¬a.z.sign<b.z.sign->gq a.z b.z=1):=by
 have h1:=zE a.z;have h2:=zE b.z;unfold gq;generalize a.z.sign=s at *;generalize b.z.sign=t at *;generalize a.z=x at *;generalize b.z=y at *;constructor <;> intro h3 <;> (repeat' split) <;> omega
theorem JG{a b:Wh}(h:a.z.sign=b.z.sign):gq a.z b.z=(if a.n then -(if val a.m<val b.m then -1 else if val b.m<val a.m then 1 else 0:Int)else if val a.m<val b.m then -1 else if val b.m<val a.m then 1 else 0):=by
 have ha:=Wh.n_eq (w:=a);have hb:=Wh.n_eq (w:=b);have h1:=Int.sign_trichotomy a.z;have hz1:=Wh.z_eq (w:=a);have hz2:=Wh.z_eq (w:=b)
 have hn:a.n=b.n:=by
  rw[ha,hb,decide_eq_decide,<- Int.sign_eq_neg_one_iff_neg,<- Int.sign_eq_neg_one_iff_neg,h]
 rw[<- hn]at hz2;unfold gq;rw[hz1,hz2];cases a.n <;> simp only[sgn,if_true,if_false,Bool.false_eq_true] <;> (repeat' split) <;> omega
theorem HT{a b q r:Int}(hb:b≠0)(h:a=b*q+r)(h0:0<=r)(h1:r<b.natAbs):a/b=q/\a%b=r:=by
 have h2:=Int.mul_ediv_add_emod a b;have h3:=Int.emod_nonneg a hb;have h4:=Int.emod_lt a hb;have h5:b*(a/b-q)=r-a%b:=by rw[Int.mul_sub];omega
 have h6:a/b-q=0:=by
  rcases Int.lt_trichotomy (a/b-q) 0 with h |h |h
  ·exfalso;have:b.natAbs <= (r - a % b).natAbs:=by rw [<- h5,Int.natAbs_mul]; exact Nat.le_mul_of_pos_right _ oz
   omega
  ·exact h
  ·exfalso;have:b.natAbs <= (r - a % b).natAbs:=by rw [<- h5,Int.natAbs_mul]; exact Nat.le_mul_of_pos_right _ oz
   omega
 rw[h6,Int.mul_zero]at h5;omega
theorem DT{a b:Wh}(hb:val b.m≠0)(h:¬(a.n=true/\0<val a.m%val b.m)) :
  sgn (a.n != b.n) (val a.m/val b.m)=a.z/b.z/\(val a.m%val b.m:Nat)=a.z%b.z:=by
 have h1:=Nat.div_add_mod (val a.m) (val b.m);have h2:=Nat.mod_lt (val a.m) (show 0<val b.m by omega);have hz:=Wh.abs (w:=b);have hb0:b.z≠0:=by omega
 obtain⟨e1,e2⟩:=HT (a:=a.z) (b:=b.z) (q:=sgn (a.n != b.n) (val a.m/val b.m)) (r:=(val a.m%val b.m:Nat)) hb0 (by
  rw[Wh.z_eq,Wh.z_eq];generalize val a.m/val b.m=q at *;generalize val a.m%val b.m=r at *;rw[<- h1]
  have h9:a.n=true->r=0:=fun h3=>by
   rcases Nat.eq_zero_or_pos r with h4 |h4
   ·exact h4
   ·exact absurd ⟨h3,h4⟩ h
  cases ha:a.n with
  |false=>cases hbn:b.n <;> simp[sgn] <;> grind
  |true=>have:=h9 ha;subst this;cases hbn:b.n <;> simp[sgn] <;> grind) oz oz
 exact⟨e1.symm,e2.symm⟩
theorem FW{a b:Wh}(hb:val b.m≠0)(ha:a.n=true)(hr:0<val a.m%val b.m) :
  sgn (a.n != b.n) (val a.m/val b.m+1)=a.z/b.z/\((val b.m-val a.m%val b.m:Nat):Int)=a.z%b.z:=by
 have h1:=Nat.div_add_mod (val a.m) (val b.m);have h2:=Nat.mod_lt (val a.m) (show 0<val b.m by omega);have hz:=Wh.abs (w:=b);have hb0:b.z≠0:=by omega
 obtain⟨e1,e2⟩:=HT (a:=a.z) (b:=b.z) (q:=sgn (a.n != b.n) (val a.m/val b.m+1)) (r:=(val b.m-val a.m%val b.m:Nat)) hb0 (by
  rw[Wh.z_eq,Wh.z_eq];generalize val a.m/val b.m=q at *;generalize val a.m%val b.m=r at *;rw[<- h1,ha];cases hbn:b.n <;> simp[sgn] <;> rw[Int.ofNat_sub oz] <;> grind) oz oz
 exact⟨e1.symm,e2.symm⟩
abbrev fx:Nat:=137438953472
def Zs(z:Int):Prop:=∃k,k<=274877906945/\Lz k z
theorem Zs.ok{z:Int}(h:Zs z):(ofInt z).ok:=by
 obtain⟨k,hk,hz⟩:=h;refine⟨dp _,?_⟩;have:=hz.len;unfold a9;show(ofNat z.natAbs).length<=_;omega
theorem Zs.len{z:Int}(h:Zs z):(ofInt z).mag.length<=274877906945:=by
 obtain⟨k,hk,hz⟩:=h;have:=hz.len;show(ofNat z.natAbs).length<=_;omega
theorem Zs.neg{z:Int}(h:Zs z):Zs (-z):=by
 obtain⟨k,hk,hz⟩:=h;exact⟨k,hk,hz.neg⟩
theorem Zs.of_le{x y:Int}(h:Zs x)(h':y.natAbs<=x.natAbs):Zs y:=by
 obtain⟨k,hk,hz⟩:=h;exact⟨k,hk,hz.of_le h'⟩
structure Rt where
  neg:Bool
  num:List Nat
  den:List Nat
namespace Rt
def av(r:Rt):AV:=.agg [bl r.neg,ws r.num,ws r.den]
def n0(r:Rt):Wh:=⟨false,r.num⟩
def d0(r:Rt):Wh:=⟨false,r.den⟩
def valid(r:Rt):Bool :=
  if r.num=[]/\r.den=[]then !r.neg
  else if r.num=[]\/r.den=[]then false
  else r.n0.valid&&r.d0.valid&&decide (Nat.gcd (val r.num) (val r.den)=1)
def q(r:Rt):Rat:=if r.valid=true/\r.num≠[]then mkRat (sgn r.neg (val r.num)) (val r.den)else 0
def ok(r:Rt):Prop:=Ws r.num/\Ws r.den/\r.num.length<=fx/\r.den.length<=fx
end Rt
def rt(q:Rat):Rt:=⟨decide (q.num<0),ofNat q.num.natAbs,if q.num=0 then[]else ofNat q.den⟩
def qA(q:Rat):AV:=(rt q).av
def Qs(q:Rat):Prop:=∃k,k<=fx/\Lz k q.num/\Lz k (q.den:Int)
theorem Qs.ok{q:Rat}(h:Qs q):(rt q).ok:=by
 obtain⟨k,hk,h1,h2⟩:=h;have h3:=h1.len;have h4:=h2.len;simp only[natAbs_natCast]at h4;refine⟨dp _,?_,by show(ofNat q.num.natAbs).length<=_;omega,?_⟩
 ·show Ws (if q.num=0 then[]else ofNat q.den);split
  ·exact oe
  ·exact dp _
 ·show(if q.num=0 then[]else ofNat q.den).length<=_;split
  ·simp
  ·omega
theorem Ao{n:Nat}:ofNat n=[]↔n=0:=by
 constructor
 ·intro h;have:=ci n;rw[h]at this;exact this.symm
 ·intro h;rw[h];rfl
theorem EF{l:List Nat}(h:l≠[])(hz:Nz l):(⟨false,l⟩:Wh).valid=true:=by
 unfold Wh.valid;dsimp only;rw[if_neg h];cases hl:l.getLast? with
 |none=>rfl
 |some x=>have:=hz x hl;simp[this]
theorem C0{l:List Nat}{b:Bool}(h:l≠[])(hv:(⟨b,l⟩:Wh).valid=true):Nz l:=by
 unfold Wh.valid at hv;dsimp only at hv;rw[if_neg h]at hv;intro x hx hx0;rw[hx,hx0]at hv;simp at hv
theorem H5(q:Rat):(rt q).valid=true:=by
 unfold rt Rt.valid Rt.n0 Rt.d0;dsimp only
 by_cases h:q.num=0
 ·rw[if_pos h,h];rfl
 ·rw [if_neg h];have h1:ofNat q.num.natAbs ≠ []:=fun h'=>h (by have:=Ao.1 h'; omega)
  have h2:ofNat q.den≠[]:=fun h'=>q.den_nz (Ao.1 h')
  rw[if_neg (fun h'=>h1 h'.1),if_neg (by simp[h1,h2]),EF h1 (p8 _),EF h2 (p8 _),ci,ci];have:=q.reduced;unfold Nat.Coprime at this;simp[this]
theorem bP(q:Rat):(rt q).q=q:=by
 unfold Rt.q
 by_cases h:q.num=0
 ·rw[if_neg]
  ·exact(Rat.num_eq_zero.1 h).symm
  ·intro h';exact h'.2 (by show ofNat _=[];rw[h];rfl)
 ·have h1 : ofNat q.num.natAbs ≠ [] := fun h' => h (by have := Ao.1 h'; omega)
  rw[if_pos ⟨H5 q,h1⟩];show mkRat (sgn (decide (q.num<0)) (val (ofNat q.num.natAbs))) (val (if q.num=0 then[]else ofNat q.den))=q;rw[if_neg h,ci,ci]
  have:sgn (decide (q.num<0)) q.num.natAbs=q.num:=by
   unfold sgn;generalize q.num=z
   by_cases h2:z<0
   ·rw[if_pos (decide_eq_true h2)];omega
   ·rw[if_neg (by rw[decide_eq_true_eq];exact h2)];omega
  rw[this,Rat.mkRat_self]
theorem Rt.parts{r:Rt}(h:r.ok)(hv:r.valid=true)(h0:r.num≠[]) :
  r.q.num=sgn r.neg (val r.num)/\r.q.den=val r.den/\ofNat (val r.num)=r.num/\ofNat (val r.den)=r.den/\val r.num≠0/\val r.den≠0:=by
 have hv':=hv;unfold Rt.valid at hv;rw[if_neg (fun h'=>h0 h'.1)]at hv;split at hv
 ·cases hv
 ·rename_i h1;simp only[and_eq_true,decide_eq_true_eq]at hv;obtain⟨⟨hn,hd⟩,hg⟩:=hv;have h2:r.den≠[]:=fun h'=>h1 (.inr h')
  have nn:=C0 h0 hn;have nd:=C0 h2 hd;have pn:=oW nn h0;have pd:=oW nd h2;have hq:r.q=mkRat (sgn r.neg (val r.num)) (val r.den):=by unfold Rt.q;rw[if_pos ⟨hv',h0⟩]
  have hs:(sgn r.neg (val r.num)).natAbs=val r.num:=by unfold sgn;split <;> omega
  have hq2 : r.q = ⟨sgn r.neg (val r.num), val r.den, by omega, by unfold Nat.Coprime; rw [hs]; exact hg⟩ := by
   rw[hq];exact(Rat.mk_eq_mkRat _ _ _ _).symm
  refine⟨by rw[hq2],by rw[hq2],qO h.1 nn,qO h.2.1 nd,by omega,by omega⟩
theorem Rt.zero{r:Rt}(h:¬(r.valid=true/\r.num≠[])):r.q=0:=by unfold Rt.q;rw[if_neg h]
theorem Rt.eq_rt{r:Rt}(h:r.ok)(hv:r.valid=true):r=rt r.q:=by
 by_cases h0:r.num=[]
 ·have hq:=Rt.zero (r:=r) (fun h'=>h'.2 h0);rw[hq];unfold Rt.valid at hv
  by_cases h1:r.den=[]
  ·rw[if_pos ⟨h0,h1⟩]at hv;obtain⟨n,a,b⟩:=r;dsimp only at *;subst h0;subst h1
   cases n
   ·rfl
   ·cases hv
  ·rw[if_neg (fun h'=>h1 h'.2),if_pos (.inl h0)]at hv;cases hv
 ·obtain ⟨h1, h2, h3, h4, h5, h6⟩:=Rt.parts h hv h0;unfold rt;have hn:r.q.num ≠ 0:=by rw [h1]; unfold sgn; split <;> omega
  rw[if_neg hn,h2,h4];have h7:r.q.num.natAbs=val r.num:=by rw[h1];unfold sgn;split <;> omega
  have h8:decide (r.q.num<0)=r.neg:=by rw[h1];unfold sgn;cases r.neg <;> simp <;> omega
  rw[h7,h3,h8]
theorem Rt.ok.qs{r:Rt}(h:r.ok):Qs r.q:=by
 by_cases h0:r.valid=true/\r.num≠[]
 ·obtain ⟨h1, h2, h3, h4, h5, h6⟩:=Rt.parts h h0.1 h0.2;refine ⟨max r.num.length r.den.length,by have:=h.2.2; omega,?_,?_⟩
  ·unfold Lz;have:r.q.num.natAbs = val r.num:=by rw [h1]; unfold sgn; split <;> omega
   rw[this];exact lt_of_lt_of_le (cc _ h.1) (Nat.pow_le_pow_right oz oz)
  ·unfold Lz;rw[h2];exact lt_of_lt_of_le (cc _ h.2.1) (Nat.pow_le_pow_right oz oz)
 ·rw[Rt.zero h0];exact⟨1,by unfold fx;omega,by unfold Lz;decide,by unfold Lz;decide⟩
theorem Qs.num{q:Rat}(h:Qs q):Zs q.num:=by
 obtain⟨k,hk,h1,h2⟩:=h;exact⟨k,by unfold fx at hk;omega,h1⟩
theorem Qs.den{q:Rat}(h:Qs q):Zs q.den:=by
 obtain⟨k,hk,h1,h2⟩:=h;exact⟨k,by unfold fx at hk;omega,h2⟩
theorem Qs.mul{p q:Rat}(h:Qs p)(h':Qs q):Zs (p.num*q.den)/\Zs (p.num*q.num)/\Zs ((p.den:Int)*q.den)/\Zs ((p.den:Int)*q.num):=by
 obtain⟨k,hk,h1,h2⟩:=h;obtain⟨l,hl,h3,h4⟩:=h';unfold fx at *;exact⟨⟨k+l,by omega,h1.mul h4⟩,⟨k+l,by omega,h1.mul h3⟩,⟨k+l,by omega,h2.mul h4⟩,⟨k+l,by omega,h2.mul h3⟩⟩
theorem Qs.cross{p q:Rat}(h:Qs p)(h':Qs q):Zs (p.num*q.den+q.num*p.den):=by
 obtain⟨k,hk,h1,h2⟩:=h;obtain⟨l,hl,h3,h4⟩:=h';unfold fx at *;have:=(h1.mul h4).add (h3.mul h2);exact⟨_,by omega,this⟩
theorem Qs.neg{p:Rat}(h:Qs p):Qs (-p):=by
 obtain⟨k,hk,h1,h2⟩:=h;refine⟨k,hk,?_,?_⟩
 ·rw[Rat.neg_num];exact h1.neg
 ·rw[Rat.neg_den];exact h2
theorem Qs.zero:Qs 0:=⟨1,by unfold fx;omega,by unfold Lz;decide,by unfold Lz;decide⟩
theorem Rt.ok.n0{r:Rt}(h:r.ok):r.n0.ok:=⟨h.1,by have:=h.2.2.1;unfold fx at this;unfold a9;exact le_trans this oz⟩
theorem Rt.ok.d0{r:Rt}(h:r.ok):r.d0.ok:=⟨h.2.1,by have:=h.2.2.2;unfold fx at this;unfold a9;exact le_trans this oz⟩
theorem Rt.ok.n0l{r:Rt}(h:r.ok):r.n0.mag.length<aD:=by have:=h.2.2.1;unfold fx at this;unfold aD;exact lt_of_le_of_lt this oz
theorem Rt.ok.d0l{r:Rt}(h:r.ok):r.d0.mag.length<aD:=by have:=h.2.2.2;unfold fx at this;unfold aD;exact lt_of_le_of_lt this oz
theorem w6:Zs 1:=⟨1,by omega,by unfold Lz;decide⟩
theorem Rt.gcd_zs{r:Rt}(h:r.ok):Zs (Int.gcd r.n0.z r.d0.z):=by
 have h1:=Wh.lz h.n0;have h2:=Wh.lz h.d0;have h3:r.n0.mag.length<=137438953472:=h.2.2.1;have h4:r.d0.mag.length<=137438953472:=h.2.2.2
 by_cases h0:r.n0.z=0
 ·rw[h0,Int.gcd_zero_left];exact⟨r.d0.mag.length,by omega,by unfold Lz at *;simpa using h2⟩
 ·refine⟨r.n0.mag.length,by omega,h1.of_le ?_⟩;simp only[natAbs_natCast];exact Nat.le_of_dvd oz (Int.gcd_dvd_natAbs_left _ _)
theorem KP{n:Nat}:gq (n:Int) 1=0↔n=1:=by
 unfold gq;split
 ·constructor <;> intro h <;> omega
 ·split <;> constructor <;> intro h <;> omega
theorem EH{l:List Nat}(h:(⟨false,l⟩:Wh).valid=true):(⟨false,l⟩:Wh).z=val l:=by
 unfold Wh.z Wh.n Wh.m;simp[h]
theorem xz{r:Rt}(h0:¬(r.num=[]/\r.den=[]))
  (h:cond (cond (cond (ac .eql (r.num.length:Int) 0) true (ac .eql (r.den.length:Int) 0)) true (!r.n0.valid)) true (!r.d0.valid)=true):r.valid=false:=by
 unfold Rt.valid;rw[if_neg h0];split
 ·rfl
 ·next h1 =>
  have hn:r.num≠[]:=fun h=>h1 (.inl h)
  have hd:r.den≠[]:=fun h=>h1 (.inr h)
  have e1:ac .eql (r.num.length:Int) 0=false:=by simp[ac,hn]
  have e2:ac .eql (r.den.length:Int) 0=false:=by simp[ac,hd]
  rw[e1,e2]at h;cases hv:r.n0.valid <;> cases hw:r.d0.valid <;> simp_all
theorem DA{r:Rt}(h0:¬(r.num=[]/\r.den=[]))
  (h:cond (cond (cond (ac .eql (r.num.length:Int) 0) true (ac .eql (r.den.length:Int) 0)) true (!r.n0.valid)) true (!r.d0.valid)=false) :
  r.valid=ac .eql (gq (Int.gcd r.n0.z r.d0.z) 1) 0:=by
 unfold Rt.valid;rw[if_neg h0];cases e1:ac .eql (r.num.length:Int) 0
 ·cases e2:ac .eql (r.den.length:Int) 0
  ·have hn : r.num ≠ [] := by simpa [ac] using e1
   have hd:r.den≠[]:=by simpa[ac]using e2
   rw[e1,e2]at h;cases hv:r.n0.valid <;> cases hw:r.d0.valid <;> simp[hv,hw]at h
   rw[if_neg (by simp[hn,hd])];have z1:r.n0.z=val r.num:=EH hv;have z2:r.d0.z=val r.den:=EH hw;rw[z1,z2];show(true&&true&&decide _)=decide _;simp only[Bool.and_self,Bool.true_and];rw[Bool.eq_iff_iff];simp only[decide_eq_true_eq];exact KP.symm
  ·rw[e1,e2]at h;simp at h
 ·rw[e1]at h;simp at h
theorem Dv{b:Bool}{num den:List Nat}(e3:ofNat (val num)=num)(e4:ofNat (val den)=den)(e5:val num≠0) :
  AV.tup [.agg [bl b,ws num],.agg [bl false,ws den]]=.tup [zA (sgn b (val num)),zA ((val den:Nat):Int)]:=by
 unfold zA ofInt Wh.av;have h1:(sgn b (val num)).natAbs=val num:=by unfold sgn;split <;> omega
 have h2:decide (sgn b (val num)<0)=b:=by unfold sgn;cases b <;> simp <;> omega
 have h3:decide (((val den:Nat):Int)<0)=false:=by simp
 dsimp only;rw[h1,h2,h3,e3,natAbs_natCast,e4]
inductive SubL:List AV->List AV->Prop
  |nil:SubL [] []
  |cons {x y:AV} {l l':List AV} (h:Sub x y) (hl:SubL l l'):SubL (x::l) (y::l')
theorem SubL.len{l l':List AV}(h:SubL l l'):l.length=l'.length:=by induction h with |nil=>rfl |cons _ _ ih=>simp[ih]
theorem SubL.get{l l':List AV}(h:SubL l l'):∀(j:Nat)(x y:AV),l[j]?=some x->l'[j]?=some y->Sub x y:=by
 induction h with
 |nil=>intro j x y h;simp at h
 |cons h _ ih =>
  intro j x y hx hy;cases j with
  |zero=>simp at hx hy;subst hx;subst hy;exact h
  |succ j=>simp at hx hy;exact ih j x y hx hy
theorem Sub.tup{l l':List AV}(h:SubL l l'):Sub (.tup l) (.tup l'):=by
 intro g S m v hv;cases hv with
 |tup hn hr =>
  refine .tup (by rw[hn,h.len]) (fun j u y hu hy=>?_);obtain⟨x,hx⟩:=iW h.len.symm hy;exact h.get j x y hx hy _ _ _ _ (hr j u x hu hx)
theorem Sub.agg{l l':List AV}(h:SubL l l')(ho:l'.all AV.one=true):Sub (.agg l) (.agg l'):=by
 intro g S m v hv;cases hv with
 |agg hn h1 hr =>
  refine .agg (by rw[hn,h.len]) (fun j c hc=>List.all_eq_true.1 ho c (mem_of_getElem? hc)) (fun j u y hu hy=>?_);obtain⟨x,hx⟩:=iW h.len.symm hy;exact h.get j x y hx hy _ _ _ _ (hr j u x hu hx)
theorem BlkSub.bL{l l':List AV}(h:SubL l l')(ho:l'.all AV.one=true):BlkSub (.box l) (.box l') :=
 .box h.len (fun j c hc=>List.all_eq_true.1 ho c (mem_of_getElem? hc)) (fun j x y hx hy=>h.get j x y hx hy)
theorem Ie:Sub (.agg [.v (.bool false),.v (.slice none 0 0)]) (zA 0):=.agg (.cons (.refl _) (.cons (.nil _ _ _) .nil)) rfl
theorem jz:Sub (.agg [.v (.bool false),.v (.slice none 0 0),.v (.slice none 0 0)]) (qA 0):=.agg (.cons (.refl _) (.cons (.nil _ _ _) (.cons (.nil _ _ _) .nil))) rfl
theorem C1{n d:Int}(hd:0<d)(hn:n≠0) :
  (Rat.divInt n d).num=n/(Int.gcd n d:Int)/\(Rat.divInt n d).den=d.natAbs/Int.gcd n d:=by
 constructor
 ·rw[Rat.num_divInt,Int.sign_eq_one_of_pos hd,Int.one_mul,Int.gcd_comm]
 ·rw[Rat.den_divInt,if_neg oz,Int.gcd_comm]
theorem SD{n d:Int}(hd:0<d)(hn:n≠0) :
  AV.agg [bl (decide (n<0)),ws (ofNat (((n.natAbs:Int)/(Int.gcd n d:Int)).natAbs)),ws (ofNat ((d/(Int.gcd n d:Int)).natAbs))]=qA (Rat.divInt n d):=by
 obtain⟨h1,h2⟩:=C1 hd hn;obtain⟨g,hg⟩:∃g,g=Int.gcd n d:=⟨_,rfl⟩
 have hg0:0<g:=by rw[hg];exact Int.gcd_pos_of_ne_zero_left _ hn
 have hgn:(g:Int)∣n:=by rw[hg];exact Int.gcd_dvd_left ..
 rw[<- hg]at h1 h2 ⊢;clear hg;obtain⟨k,hk⟩:=hgn;have hk1:n/(g:Int)=k:=by rw[hk];exact Int.mul_ediv_cancel_left _ oz
 have hk0:k≠0:=by intro h;rw[h]at hk;simp at hk;exact hn hk
 have hs:decide (n<0)=decide (k<0):=by
  rw[decide_eq_decide,hk];constructor
  ·intro h;rcases Int.lt_trichotomy k 0 with h' |h' |h'
   ·exact h'
   ·exact absurd h' hk0
   ·exact absurd (Int.mul_nonneg (Int.natCast_nonneg g) (Int.le_of_lt h')) oz
  ·intro h;exact Int.mul_neg_of_pos_of_neg oz h
 have hna:((n.natAbs:Int)/(g:Int)).natAbs=k.natAbs:=by
  rw[hk,Int.natAbs_mul,natAbs_natCast];rw[show((g*k.natAbs:Nat):Int)/(g:Int)=((g*k.natAbs/g:Nat):Int) by exact(Int.natCast_ediv _ _).symm];rw[Nat.mul_div_cancel_left _ hg0];omega
 have hda:(d/(g:Int)).natAbs=d.natAbs/g:=by
  have:d=(d.natAbs:Int):=by omega
  rw[this,<- Int.natCast_ediv,natAbs_natCast,natAbs_natCast]
 unfold qA rt Rt.av;rw[h1,h2,hk1,hna,hda,hs];dsimp only;rw[if_neg hk0]
theorem Gc(n d:Int):Rat.divInt (-n) (-d)=Rat.divInt n d:=Rat.neg_divInt_neg n d
theorem A0(p q:Rat):Rat.divInt (p.num*q.den+q.num*p.den) ((p.den:Int)*q.den)=p+q:=by
 rw[<- Rat.divInt_add_divInt _ _ (by have:=p.den_nz;omega) (by have:=q.den_nz;omega),Rat.num_divInt_den,Rat.num_divInt_den]
theorem x3(p q:Rat):Rat.divInt (p.num*q.num) ((p.den:Int)*q.den)=p*q:=by
 rw[<- Rat.divInt_mul_divInt,Rat.num_divInt_den,Rat.num_divInt_den]
theorem C7(p:Rat):Rat.divInt (-p.num) p.den=-p:=by
 rw[<- Rat.neg_num,<- Rat.neg_den,Rat.num_divInt_den]
theorem An(p q:Rat):Rat.divInt (p.num*q.den) ((p.den:Int)*q.num)=p/q:=by
 rw[Rat.div_def,<- Rat.divInt_mul_divInt,Rat.num_divInt_den];congr 1;rw[<- Rat.inv_divInt,Rat.num_divInt_den]
theorem KW(p:Rat):p.num<0↔p<0:=by
 rw[Rat.lt_iff];simp
theorem MH(p:Rat):0<p.num↔0<p:=by
 rw[Rat.lt_iff];simp
def bN(p:Rat):Int:=if p<0 then -1 else if 0<p then 1 else 0
theorem G9(p:Rat):p.num.sign=bN p:=by
 unfold bN
 by_cases h:p<0
 ·rw[if_pos h];exact Int.sign_eq_neg_one_iff_neg.2 ((KW p).2 h)
 ·rw[if_neg h]
  by_cases h':0<p
  ·rw[if_pos h'];exact Int.sign_eq_one_iff_pos.2 ((MH p).2 h')
  ·rw [if_neg h'];have:p = 0:=by grind
   rw[this];rfl
theorem Pa(p q:Rat):bN (p-q)=if p<q then -1 else if q<p then 1 else 0:=by
 unfold bN
 by_cases h:p<q
 ·rw[if_pos h,if_pos (by grind)]
 ·rw [if_neg h, if_neg (by grind)]
  by_cases h':q<p
  ·rw[if_pos h',if_pos (by grind)]
  ·rw[if_neg h',if_neg (by grind)]
theorem N9(p q:Rat):gq (p.num*q.den) (q.num*p.den)=bN (p-q):=by
 rw[Pa];unfold gq;simp only[Rat.lt_iff]
theorem Kq{n d:Int}(hd:0<d)(hn:n≠0) :
  AV.agg [bl (decide (n/(Int.gcd n d:Int)<0)),ws (ofNat ((n/(Int.gcd n d:Int)).natAbs)),ws (ofNat ((d/(Int.gcd n d:Int)).natAbs))]=qA (Rat.divInt n d):=by
 obtain⟨h1,h2⟩:=C1 hd hn
 have h3:(d/(Int.gcd n d:Int)).natAbs=d.natAbs/Int.gcd n d:=by
  have:d=(d.natAbs:Int):=by omega
  generalize Int.gcd n d=g;rw[this,<- Int.natCast_ediv,natAbs_natCast,natAbs_natCast]
 have h4:n/(Int.gcd n d:Int)≠0:=by
  rw[<- h1];intro h
  have h5:=Rat.num_eq_zero.1 h;have h6:=(Rat.divInt_eq_divInt_iff (show d≠0 by omega) (show(1:Int)≠0 by decide)).1 (h5.trans (Rat.zero_divInt 1).symm);omega
 unfold qA rt Rt.av;rw[h1,h2,h3];dsimp only;rw[if_neg h4]
def Qb(e:Nat)(q:Rat):Prop:=q.num.natAbs<2^e/\q.den<2^e
theorem Qb.mono{e f:Nat}{q:Rat}(h:Qb e q)(hf:e<=f):Qb f q :=
 ⟨lt_of_lt_of_le h.1 (Nat.pow_le_pow_right oz hf),lt_of_lt_of_le h.2 (Nat.pow_le_pow_right oz hf)⟩
theorem Qb.qs{e:Nat}{q:Rat}(h:Qb e q)(he:e<=4398046511104):Qs q:=by
 have h2:(4294967296:Nat)=2^32:=by decide
 have h3:∀x,x<2^e->x<4294967296^(e/32+1):=by
  intro x hx;rw[h2,<- Nat.pow_mul];exact lt_of_lt_of_le hx (Nat.pow_le_pow_right oz oz)
 by_cases h4:e=4398046511104
 ·obtain⟨k,hk⟩:∃k,k=137438953472:=⟨_,rfl⟩
  refine⟨k,by unfold fx;omega,?_,?_⟩
  ·unfold Lz;have:=h.1;rw[h2,<- Nat.pow_mul];exact lt_of_lt_of_le this (Nat.pow_le_pow_right oz oz)
  ·unfold Lz;have:=h.2;rw[h2,<- Nat.pow_mul];exact lt_of_lt_of_le this (Nat.pow_le_pow_right oz oz)
 ·exact⟨e/32+1,by unfold fx;omega,h3 _ h.1,h3 _ h.2⟩
theorem Qb.neg{e:Nat}{q:Rat}(h:Qb e q):Qb e (-q):=by
 refine⟨?_,?_⟩
 ·rw[Rat.neg_num,Int.natAbs_neg];exact h.1
 ·rw[Rat.neg_den];exact h.2
theorem v9{n d:Int}(h0:d≠0):(Rat.divInt n d).num.natAbs<=n.natAbs/\(Rat.divInt n d).den<=d.natAbs:=by
 constructor
 ·rw[Rat.num_divInt]
  have h1:(d.sign*n).natAbs=n.natAbs:=by
   rw[Int.natAbs_mul,Int.natAbs_sign_of_ne_zero h0,Nat.one_mul]
  rw[<- h1];exact Int.natAbs_ediv_le_natAbs _ _
 ·rw[Rat.den_divInt,if_neg h0];exact Nat.div_le_self _ _
theorem Qb.mul{e f:Nat}{p q:Rat}(h:Qb e p)(h':Qb f q):Qb (e+f) (p*q):=by
 rw[<- x3];have h0:((p.den:Int)*q.den)≠0:=Int.mul_ne_zero (by have:=p.den_nz;omega) (by have:=q.den_nz;omega);obtain⟨h1,h2⟩:=v9 (n:=p.num*q.num) h0;refine⟨lt_of_le_of_lt h1 ?_,lt_of_le_of_lt h2 ?_⟩
 ·rw[Int.natAbs_mul,pow_add];exact Nat.mul_lt_mul'' h.1 h'.1
 ·rw[Int.natAbs_mul,pow_add,natAbs_natCast,natAbs_natCast];exact Nat.mul_lt_mul'' h.2 h'.2
theorem Qb.add{e f:Nat}{p q:Rat}(h:Qb e p)(h':Qb f q):Qb (e+f+1) (p+q):=by
 rw[<- A0];have h0:((p.den:Int)*q.den)≠0:=Int.mul_ne_zero (by have:=p.den_nz;omega) (by have:=q.den_nz;omega);obtain⟨h1,h2⟩:=v9 (n:=p.num*q.den+q.num*p.den) h0;refine⟨lt_of_le_of_lt h1 ?_,lt_of_le_of_lt h2 ?_⟩
 ·have h3:=Int.natAbs_add_le (p.num*q.den) (q.num*p.den);rw[Int.natAbs_mul,Int.natAbs_mul,natAbs_natCast,natAbs_natCast]at h3;have h4:=Nat.mul_lt_mul'' h.1 h'.2;have h5:=Nat.mul_lt_mul'' h'.1 h.2;rw[Nat.pow_succ,pow_add];rw[Nat.mul_comm (2^f)]at h5;omega
 ·rw[Int.natAbs_mul,natAbs_natCast,natAbs_natCast,Nat.pow_succ,pow_add];have:=Nat.mul_lt_mul'' h.2 h'.2;omega
theorem Qb.sub{e f:Nat}{p q:Rat}(h:Qb e p)(h':Qb f q):Qb (e+f+1) (p-q):=by
 rw[Rat.sub_eq_add_neg];exact h.add h'.neg
theorem Qb.div{e f:Nat}{p q:Rat}(h:Qb e p)(h':Qb f q):Qb (e+f) (p/q):=by
 by_cases h0:q=0
 ·subst h0;rw[Rat.div_def,Rat.inv_zero,Rat.mul_zero];have h1:0<2^e:=Nat.two_pow_pos e;have h2:=h.2;have h3:=p.den_nz;refine⟨?_,?_⟩
  ·exact Nat.two_pow_pos _
  ·show 1<2^(e+f);have:2^e<=2^(e+f):=Nat.pow_le_pow_right oz oz;omega
 ·rw [<- An];have h0':((p.den:Int) * q.num) ≠ 0:=Int.mul_ne_zero (by have:=p.den_nz; omega) (fun h=>h0 (Rat.num_eq_zero.1 h));obtain ⟨h1,h2⟩:=v9 (n:=p.num * q.den) h0';refine ⟨lt_of_le_of_lt h1 ?_,lt_of_le_of_lt h2 ?_⟩
  ·rw[Int.natAbs_mul,pow_add,natAbs_natCast];exact Nat.mul_lt_mul'' h.1 h'.2
  ·rw[Int.natAbs_mul,pow_add,natAbs_natCast];exact Nat.mul_lt_mul'' h.2 h'.1
theorem Qb.zero:Qb 1 0:=⟨by decide,by decide⟩
theorem Qb.one:Qb 1 1:=⟨by decide,by decide⟩
theorem Rt.qb{r:Rt}{k:Nat}(h:r.ok)(hk:1<=k)(hn:r.num.length<=k)(hd:r.den.length<=k):Qb (32*k) r.q:=by
 have hB:∀{l:List Nat},Ws l->l.length<=k->val l<2^(32*k):=by
  intro l hw hl;have h1:=cc l hw;have h2:(4294967296:Nat)=2^32:=by decide
  rw[h2,<- Nat.pow_mul]at h1;exact lt_of_lt_of_le h1 (Nat.pow_le_pow_right oz oz)
 by_cases h0:r.valid=true/\r.num≠[]
 ·obtain⟨h1,h2,h3,h4,h5,h6⟩:=Rt.parts h h0.1 h0.2;refine⟨?_,?_⟩
  ·have : r.q.num.natAbs = val r.num := by rw [h1]; unfold sgn; split <;> omega
   rw[this];exact hB h.1 hn
  ·rw[h2];exact hB h.2.1 hd
 ·rw[Rt.zero h0];exact Qb.zero.mono oz
theorem OA{r:Rt}(h0:¬(r.num=[]/\r.den=[])) :
  r.valid=cond (cond (!decide (r.num=[])&&(⟨false,r.num⟩:Wh).valid) (!decide (r.den=[])&&(⟨false,r.den⟩:Wh).valid) false) (ac .eql (gq (Int.gcd r.n0.z r.d0.z) 1) 0) false:=by
 by_cases h1:r.num=[]
 ·unfold Rt.valid;rw[if_neg h0,if_pos (.inl h1)];simp[h1]
 ·by_cases h2:r.den=[]
  ·unfold Rt.valid;rw[if_neg h0,if_pos (.inr h2)];simp[h2]
  ·have e1 : ac .eql (r.num.length : Int) 0 = false := by simp [ac, h1]
   have e2:ac .eql (r.den.length:Int) 0=false:=by simp[ac,h2]
   have n0:(⟨false,r.num⟩:Wh)=r.n0:=rfl;have d0:(⟨false,r.den⟩:Wh)=r.d0:=rfl;rw[n0,d0];cases hv:r.n0.valid
   ·rw[xz h0 (by simp[hv,e1,e2])];simp
   ·cases hw:r.d0.valid
    ·rw[xz h0 (by simp[hv,hw,e1,e2])];simp
    ·rw[DA h0 (by simp[hv,hw,e1,e2])];simp[h1,h2]
theorem Con.sA{P:Program}{f:FuncId}{args args':List AV}{H H':Hp}{r:AV}(h:SubL args' args)(hc:Con P f args H r H'):Con P f args' H r H':=by
 refine⟨hc.ok,?_⟩;intro ext m w vs hext hheap hvs hrep;refine hc.ret ext m w vs hext hheap (by rw[hvs,h.len]) (fun j v x hv hx=>?_);obtain⟨y,hy⟩:=iW h.len.symm hx;exact h.get j y x hy hx _ _ _ _ (hrep j v y hv hy)
@[reducible] def T:Nat->Type
  |0=>Rat
  |k+1=>T k×T k
namespace T
def zero:(k:Nat)->T k
  |0=>(0:Rat)
  |k+1=>(zero k,zero k)
def ofQ:(k:Nat)->Rat->T k
  |0,q=>q
  |k+1,q=>(ofQ k q,zero k)
def add:(k:Nat)->T k->T k->T k
  |0,x,y=>Rat.add x y
  |k+1,x,y=>(add k x.1 y.1,add k x.2 y.2)
def neg:(k:Nat)->T k->T k
  |0,x=>Rat.neg x
  |k+1,x=>(neg k x.1,neg k x.2)
def mul(r:(k:Nat)->T k):(k:Nat)->T k->T k->T k
  |0,x,y=>Rat.mul x y
  |k+1,x,y=>(add k (mul r k x.1 y.1) (mul r k (mul r k x.2 y.2) (r k)),add k (mul r k x.1 y.2) (mul r k x.2 y.1))
def norm(r:(k:Nat)->T k)(k:Nat)(x:T (k+1)):T k:=add k (mul r k x.1 x.1) (neg k (mul r k (mul r k x.2 x.2) (r k)))
def sgn3(sx sy sd sn:Int):Int:=if sd=0 then sx else if sx=sy\/sy=0 then sx else if sx=0 then sy else sx*sn
def sgn(r:(k:Nat)->T k):(k:Nat)->T k->Int
  |0,x=>bN x
  |k+1,x=>sgn3 (sgn r k x.1) (sgn r k x.2) (sgn r k (r k)) (sgn r k (norm r k x))
theorem add_zero:∀(k:Nat)(x:T k),add k x (zero k)=x
 |0,x=>Rat.add_zero x
 |k+1,x=>by simp only[add,zero,add_zero k]
theorem zero_add:∀(k:Nat)(x:T k),add k (zero k) x=x
 |0,x=>Rat.zero_add x
 |k+1,x=>by simp only[add,zero,zero_add k]
theorem add_comm:∀(k:Nat)(x y:T k),add k x y=add k y x
 |0,x,y=>Rat.add_comm x y
 |k+1,x,y=>by simp only[add,add_comm k x.1,add_comm k x.2]
theorem add_assoc:∀(k:Nat)(x y z:T k),add k (add k x y) z=add k x (add k y z)
 |0,x,y,z=>Rat.add_assoc x y z
 |k+1,x,y,z=>by simp only[add,add_assoc k]
theorem neg_zero:∀(k:Nat),neg k (zero k)=zero k
 |0=>by show -(0:Rat)=0;grind
 |k+1=>by simp only[neg,zero,neg_zero k]
theorem add_neg:∀(k:Nat)(x:T k),add k x (neg k x)=zero k
 |0,x=>by show(x:Rat)+-x=0;grind
 |k+1,x=>by simp only[add,neg,zero,add_neg k]
theorem zero_mul(r:(k:Nat)->T k):∀(k:Nat)(x:T k),mul r k (zero k) x=zero k
 |0,x=>Rat.zero_mul x
 |k+1,x=>by simp only[mul,zero,zero_mul r k,add_zero]
theorem mul_zero(r:(k:Nat)->T k):∀(k:Nat)(x:T k),mul r k x (zero k)=zero k
 |0,x=>Rat.mul_zero x
 |k+1,x=>by
  simp only[mul,zero,mul_zero r k,add_zero]
  have h:mul r k (zero k) (r k)=zero k:=by
   have:=zero_mul r k (r k);exact this
  rw[h];simp only[add_zero]
theorem mul_comm(r:(k:Nat)->T k):∀(k:Nat)(x y:T k),mul r k x y=mul r k y x
 |0,x,y=>Rat.mul_comm x y
 |k+1,x,y=>by
  simp only[mul];rw[mul_comm r k x.1 y.1,mul_comm r k x.2 y.2,mul_comm r k x.1 y.2,mul_comm r k x.2 y.1,add_comm k (mul r k y.2 x.1)]
theorem sgn_zero(r:(k:Nat)->T k):∀k,sgn r k (zero k)=0
 |0=>rfl
 |k+1=>by
  simp only[sgn,zero,sgn_zero r k,sgn3];split
  ·rfl
  ·simp
theorem sgn_low(r:(k:Nat)->T k)(k:Nat)(x:T k):sgn r (k+1) (x,zero k)=sgn r k x:=by
 simp only[sgn,sgn_zero,sgn3];split
 ·rfl
 ·simp
theorem sgnQ_cases(q:Rat):bN q=-1\/bN q=0\/bN q=1:=by
 unfold bN;split
 ·exact .inl rfl
 ·split
  ·exact .inr (.inr rfl)
  ·exact .inr (.inl rfl)
theorem sgn_cases(r:(k:Nat)->T k):∀(k:Nat)(x:T k),sgn r k x=-1\/sgn r k x=0\/sgn r k x=1
 |0,x=>sgnQ_cases x
 |k+1,x=>by
  simp only[sgn,sgn3];have h1:=sgn_cases r k x.1;have h2:=sgn_cases r k x.2;have h4:=sgn_cases r k (norm r k x);split
  ·exact h1
  ·split
   ·exact h1
   ·split
    ·exact h2
    ·rcases h1 with h |h |h <;> rcases h4 with h' |h' |h' <;> rw[h,h'] <;> simp
end T
def ae:(k:Nat)->List Rat->T k
  |0,l=>l.getD 0 0
  |k+1,l=>(ae k (l.take (2^k)),ae k (l.drop (2^k)))
theorem kL{l:List Rat}{n i:Nat}:(l.take n).getD i 0=if i<n then l.getD i 0 else 0:=by
 simp only[getD_eq_getElem?_getD,getElem?_take];split <;> simp
theorem kN{l:List Rat}{n i:Nat}:(l.drop n).getD i 0=l.getD (n+i) 0:=by
 simp only[getD_eq_getElem?_getD,getElem?_drop]
theorem ou:∀(k:Nat){a b:List Rat},(∀i,i<2^k->a.getD i 0=b.getD i 0)->ae k a=ae k b
 |0,a,b,h=>h 0 (by decide)
 |k+1,a,b,h=>by
  have h1:=ou k (a:=a.take (2^k)) (b:=b.take (2^k)) (fun i hi=>by rw[kL,kL,if_pos hi,if_pos hi];exact h i (by rw[Nat.pow_succ];omega));have h2:=ou k (a:=a.drop (2^k)) (b:=b.drop (2^k)) (fun i hi=>by rw[kN,kN];exact h _ (by rw[Nat.pow_succ];omega));simp only[ae,h1,h2]
theorem Aa:∀(k:Nat){a b c:List Rat},(∀i,i<2^k->c.getD i 0=a.getD i 0+b.getD i 0)->ae k c=T.add k (ae k a) (ae k b)
 |0,a,b,c,h=>h 0 (by decide)
 |k+1,a,b,c,h=>by
  have h1:=Aa k (a:=a.take (2^k)) (b:=b.take (2^k)) (c:=c.take (2^k)) (fun i hi=>by rw[kL,kL,kL,if_pos hi,if_pos hi,if_pos hi];exact h i (by rw[Nat.pow_succ];omega));have h2:=Aa k (a:=a.drop (2^k)) (b:=b.drop (2^k)) (c:=c.drop (2^k)) (fun i hi=>by rw[kN,kN,kN];exact h _ (by rw[Nat.pow_succ];omega));simp only[ae,T.add,h1,h2]
theorem AW:∀(k:Nat){a c:List Rat},(∀i,i<2^k->c.getD i 0=-a.getD i 0)->ae k c=T.neg k (ae k a)
 |0,a,c,h=>h 0 (by decide)
 |k+1,a,c,h=>by
  have h1:=AW k (a:=a.take (2^k)) (c:=c.take (2^k)) (fun i hi=>by rw[kL,kL,if_pos hi,if_pos hi];exact h i (by rw[Nat.pow_succ];omega));have h2:=AW k (a:=a.drop (2^k)) (c:=c.drop (2^k)) (fun i hi=>by rw[kN,kN];exact h _ (by rw[Nat.pow_succ];omega));simp only[ae,T.neg,h1,h2]
theorem vE:∀(k:Nat){a:List Rat},(∀i,i<2^k->a.getD i 0=0)->ae k a=T.zero k
 |0,a,h=>h 0 (by decide)
 |k+1,a,h=>by
  have h1:=vE k (a:=a.take (2^k)) (fun i hi=>by rw[kL,if_pos hi];exact h i (by rw[Nat.pow_succ];omega));have h2:=vE k (a:=a.drop (2^k)) (fun i hi=>by rw[kN];exact h _ (by rw[Nat.pow_succ];omega));simp only[ae,T.zero,h1,h2]
theorem xG{l:List Rat}{i:Nat}(h:l.length<=i):l.getD i 0=0:=by
 simp[getD_eq_getElem?_getD,getElem?_eq_none h]
theorem gQ(k:Nat):ae k []=T.zero k:=vE k (fun i _=>by simp)
theorem fW{k:Nat}{a:List Rat}(h:a.length<=2^k):ae (k+1) a=(ae k a,T.zero k):=by
 have h1:a.take (2^k)=a:=take_of_length_le h;have h2:a.drop (2^k)=[]:=drop_eq_nil_of_le h;simp only[ae,h1,h2,gQ]
theorem lN(k:Nat)(q:Rat):ae k [q]=T.ofQ k q:=by
 induction k with
 |zero=>rfl
 |succ k ih=>rw[fW (by simp;exact Nat.one_le_two_pow),ih];rfl
def aY(a:List Rat)(n:Nat):List Rat:=a++List.replicate (n-a.length) 0
def cf(a b:List Rat):List Rat:=List.zipWith (·+·) (aY a (max a.length b.length)) (aY b (max a.length b.length))
def cF(a:List Rat):List Rat:=a.map (- ·)
def eT(a b:List Rat)(n:Nat):List Rat:=aY a n++aY b n
def bB(a:List Rat):Bool:=a.all (fun q=>decide (q=0))
theorem dG{a:List Rat}{n:Nat}(h:a.length<=n):(aY a n).length=n:=by simp[aY];omega
theorem d7{a b:List Rat}:(cf a b).length=max a.length b.length:=by
 simp only[cf,List.length_zipWith];rw[dG oz,dG oz];omega
theorem iJ{a:List Rat}:(cF a).length=a.length:=by simp[cF]
theorem ox{a b:List Rat}{n:Nat}(h:a.length<=n)(h':b.length<=n):(eT a b n).length=n+n:=by simp[eT,dG h,dG h']
theorem oi{a:List Rat}{n i:Nat}:(aY a n).getD i 0=a.getD i 0:=by
 simp only[aY,getD_eq_getElem?_getD]
 by_cases h:i<a.length
 ·rw[getElem?_append_left h]
 ·rw[getElem?_append_right oz,getElem?_eq_none (l:=a) oz,List.getElem?_replicate];split <;> rfl
theorem Ff{a b:List Rat}{i:Nat}:(cf a b).getD i 0=a.getD i 0+b.getD i 0:=by
 by_cases h:i<max a.length b.length
 ·have e:(cf a b).getD i 0=(aY a (max a.length b.length)).getD i 0+(aY b (max a.length b.length)).getD i 0:=by
   have ha:i<(aY a (max a.length b.length)).length:=by rw[dG oz];exact h
   have hb:i<(aY b (max a.length b.length)).length:=by rw[dG oz];exact h
   simp only[cf,getD_eq_getElem?_getD,List.getElem?_zipWith,getElem?_eq_getElem ha,getElem?_eq_getElem hb,Option.getD_some]
  rw[e,oi,oi]
 ·rw[xG (by rw[d7];omega),xG oz,xG oz,Rat.add_zero]
theorem BU{a:List Rat}{i:Nat}:(cF a).getD i 0=-a.getD i 0:=by
 simp only[cF,getD_eq_getElem?_getD,getElem?_map];cases a[i]? with
 |none=>show(0:Rat)=-0;grind
 |some x=>rfl
theorem C8{a b:List Rat}{n i:Nat}(h:a.length<=n):(eT a b n).getD i 0=if i<n then a.getD i 0 else b.getD (i-n) 0:=by
 have hl:=dG h;simp only[eT];split
 ·rw[<- oi (a:=a) (n:=n),getD_eq_getElem?_getD,getD_eq_getElem?_getD,getElem?_append_left oz]
 ·rw[<- oi (a:=b) (n:=n),getD_eq_getElem?_getD,getD_eq_getElem?_getD,getElem?_append_right oz,hl]
theorem no(k:Nat){a:List Rat}{n:Nat}:ae k (aY a n)=ae k a:=ou k (fun i _=>oi)
theorem io(k:Nat){a b:List Rat}:ae k (cf a b)=T.add k (ae k a) (ae k b):=Aa k (fun i _=>Ff)
theorem l0(k:Nat){a:List Rat}:ae k (cF a)=T.neg k (ae k a):=AW k (fun i _=>BU)
theorem wb{k:Nat}{a b:List Rat}(h:a.length<=2^k):ae (k+1) (eT a b (2^k))=(ae k a,ae k b):=by
 have h1:ae k ((eT a b (2^k)).take (2^k))=ae k a:=ou k (fun i hi=>by rw[kL,if_pos hi,C8 h,if_pos hi]);have h2:ae k ((eT a b (2^k)).drop (2^k))=ae k b:=ou k (fun i hi=>by rw[kN,C8 h,if_neg oz];congr 1;omega);simp only[ae,h1,h2]
theorem yd{k:Nat}{a:List Rat}(h:bB a=true):ae k a=T.zero k:=by
 refine vE k (fun i _=>?_);rw[getD_eq_getElem?_getD];cases hx:a[i]? with
 |none=>rfl
 |some x =>
  have:=List.all_eq_true.1 h x (mem_of_getElem? hx);simpa using this
def Nl(k:Nat)(a:List Rat):Prop:=a=[]\/∃j,j<=k/\a.length=2^j
theorem Nl.le{k:Nat}{a:List Rat}(h:Nl k a):a.length<=2^k:=by
 rcases h with rfl |⟨j,hj,h⟩
 ·simp
 ·rw[h];exact Nat.pow_le_pow_right oz hj
theorem Nl.mono{k l:Nat}{a:List Rat}(h:Nl k a)(hl:k<=l):Nl l a:=by
 rcases h with h |⟨j,hj,h⟩
 ·exact .inl h
 ·exact .inr ⟨j,by omega,h⟩
def aw(ts:LL)(k:Nat):T k:=ae k (ts.getD k [])
def pT(ts:LL):Nat->List Rat->List Rat->List Rat
  |k,a,b =>
    let x:=if a.length<b.length then b else a
    let y:=if a.length<b.length then a else b
    if bB x||bB y then[]else if x.length=1 then[x.getD 0 0*y.getD 0 0]
    else match k with
      |0=>[]
      |k+1 =>
        if y.length<=x.length/2 then eT (pT ts k (x.take (x.length/2)) y) (pT ts k (x.drop (x.length/2)) y) (x.length/2)
        else eT (cf (pT ts k (x.take (x.length/2)) (y.take (x.length/2))) (pT ts k (pT ts k (x.drop (x.length/2)) (y.drop (x.length/2))) (ts.getD (x.length.log2-1) [])))
          (cf (pT ts k (x.take (x.length/2)) (y.drop (x.length/2))) (pT ts k (x.drop (x.length/2)) (y.take (x.length/2)))) (x.length/2)
theorem T.mul_low(r:(k:Nat)->T k)(k:Nat)(x u:T k):T.mul r (k+1) (x,T.zero k) (u,T.zero k)=(T.mul r k x u,T.zero k):=by
 simp only[T.mul,T.mul_zero,T.zero_mul,T.add_zero]
theorem T.mul_half(r:(k:Nat)->T k)(k:Nat)(x y u:T k):T.mul r (k+1) (x,y) (u,T.zero k)=(T.mul r k x u,T.mul r k y u):=by
 simp only[T.mul,T.mul_zero,T.zero_mul,T.add_zero,T.zero_add]
theorem T.mul_ofQ(r:(k:Nat)->T k):∀(k:Nat)(p q:Rat),T.mul r k (T.ofQ k p) (T.ofQ k q)=T.ofQ k (p*q)
 |0,p,q=>rfl
 |k+1,p,q=>by simp only[T.ofQ];rw[T.mul_low,T.mul_ofQ r k]
theorem Mb:bB []=true:=rfl
theorem yj(j:Nat):(2^(j+1)).log2-1=j:=by rw[Nat.log2_two_pow];omega
theorem fL{j:Nat}{a:List Rat}(h:a.length=2^(j+1)):(a.take (2^j)).length=2^j:=by
 simp[h,Nat.pow_succ];omega
theorem fR{j:Nat}{a:List Rat}(h:a.length=2^(j+1)):(a.drop (2^j)).length=2^j:=by
 simp[h,Nat.pow_succ];omega
theorem fq(j:Nat):2^(j+1)/2=2^j:=by rw[Nat.pow_succ];omega
theorem x9(ts:LL)(k:Nat)(a b:List Rat)(h:a.length<b.length):pT ts k a b=pT ts k b a:=by
 unfold pT;simp only[if_pos h,if_neg (show ¬b.length<a.length by omega)]
theorem Eg(ts:LL)(Q:Nat->List Rat->List Rat->List Rat->Prop)
  (hcomm:∀j a b c,Q j a b c->Q j b a c)
  (hzero:∀j a b,Nl j a->Nl j b->(bB a=true\/bB b=true)->Q j a b [])
  (hone:∀j p q,Q j [p] [q] [p*q])
  (hup:∀j a b c,Nl j a->Nl j b->Q j a b c->Q (j+1) a b c)
  (hhalf:∀j a b c d,a.length=2^(j+1)->Nl j b->Q j (a.take (2^j)) b c->Q j (a.drop (2^j)) b d->Q (j+1) a b (eT c d (2^j)))
  (hfull:∀j a b c1 c2 c3 c4 c5,a.length=2^(j+1)->b.length=2^(j+1)->Q j (a.take (2^j)) (b.take (2^j)) c1->Q j (a.drop (2^j)) (b.drop (2^j)) c2 ->
   Q j c2 (ts.getD j []) c3->Q j (a.take (2^j)) (b.drop (2^j)) c4->Q j (a.drop (2^j)) (b.take (2^j)) c5->Q (j+1) a b (eT (cf c1 c3) (cf c4 c5) (2^j)))
  (hnl:∀j a b c,Q j a b c->Nl j c) (m:Nat) (hr:∀j,j<m->Nl j (ts.getD j [])) :
  ∀(j k:Nat)(a b:List Rat),j<=m->j<=k->Nl j a->Nl j b->Q j a b (pT ts k a b):=by
 intro j
 induction j with
 |zero =>
  intro k a b _ _ ha hb;have hla:=ha.le;have hlb:=hb.le
  have key:∀a b:List Rat,Nl 0 a->Nl 0 b->¬a.length<b.length->Q 0 a b (pT ts k a b):=by
   intro a b ha hb hlt;have hla:=ha.le;have hlb:=hb.le;unfold pT;simp only[if_neg hlt];split
   ·rename_i h;rw[or_eq_true]at h;exact hzero 0 a b ha hb h
   ·rename_i h;simp only [or_eq_true,not_or,Bool.not_eq_true] at h;have h1:a ≠ []:=fun h'=>by rw [h'] at h; cases h.1
    have h2:b≠[]:=fun h'=>by rw[h']at h;cases h.2
    obtain⟨p,rfl⟩:∃p,a=[p]:=List.length_eq_one_iff.1 (by have:=List.length_pos_iff.2 h1;omega);obtain⟨q,rfl⟩:∃q,b=[q]:=List.length_eq_one_iff.1 (by have:=List.length_pos_iff.2 h2;omega);simp only[length_cons,length_nil,if_true];exact hone 0 p q
  by_cases hlt:a.length<b.length
  ·rw[x9 ts k a b hlt];exact hcomm _ _ _ _ (key b a hb ha oz)
  ·exact key a b ha hb hlt
 |succ j ih =>
  intro k a b hjm hjk ha hb
  have key:∀a b:List Rat,Nl (j+1) a->Nl (j+1) b->¬a.length<b.length->Q (j+1) a b (pT ts k a b):=by
   intro a b ha hb hlt
   by_cases hs:Nl j a
   ·have hbs:Nl j b:=by
     rcases hb with rfl |⟨i,hi,h⟩
     ·exact .inl rfl
     ·by_cases hij:i<=j
      ·exact .inr ⟨i,hij,h⟩
      ·have h1:=hs.le;have h2:2^(j+1)<=2^i:=Nat.pow_le_pow_right oz oz;rw[Nat.pow_succ]at h2;have:=Nat.two_pow_pos j;omega
    exact hup j a b _ hs hbs (ih k a b oz oz hs hbs)
   ·have hal:a.length=2^(j+1):=by
     rcases ha with rfl |⟨i,hi,h⟩
     ·exact absurd (.inl rfl) hs
     ·by_cases hij:i<=j
      ·exact absurd (.inr ⟨i,hij,h⟩) hs
      ·rw[h,show i=j+1 by omega]
    obtain⟨k,rfl⟩:∃k',k=k'+1:=⟨k-1,by omega⟩
    have h2j:=Nat.two_pow_pos j;have hx:Nl j (a.take (2^j)):=.inr ⟨j,le_refl _,fL hal⟩;have hy:Nl j (a.drop (2^j)):=.inr ⟨j,le_refl _,fR hal⟩;unfold pT;simp only[if_neg hlt];split
    ·rename_i h;rw[or_eq_true]at h;exact hzero _ a b ha hb h
    ·rename_i h;simp only [or_eq_true,not_or,Bool.not_eq_true] at h;rw [if_neg (by rw [hal,Nat.pow_succ]; omega)];simp only [hal,fq,yj];split
     ·rename_i hbl
      have hbs:Nl j b:=by
       rcases hb with rfl |⟨i,hi,h'⟩
       ·exact .inl rfl
       ·by_cases hij:i<=j
        ·exact .inr ⟨i,hij,h'⟩
        ·have h2:2^(j+1)<=2^i:=Nat.pow_le_pow_right oz oz;rw[Nat.pow_succ]at h2;omega
      exact hhalf j a b _ _ hal hbs (ih k _ _ oz oz hx hbs) (ih k _ _ oz oz hy hbs)
     ·rename_i hbl
      have hbl':b.length=2^(j+1):=by
       rcases hb with rfl |⟨i,hi,h'⟩
       ·simp at hbl
       ·by_cases hij:i<=j
        ·have:2^i<=2^j:=Nat.pow_le_pow_right oz hij;omega
        ·rw[h',show i=j+1 by omega]
      have hu:Nl j (b.take (2^j)):=.inr ⟨j,le_refl _,fL hbl'⟩;have hv:Nl j (b.drop (2^j)):=.inr ⟨j,le_refl _,fR hbl'⟩;have h2:=ih k _ _ oz oz hy hv;exact hfull j a b _ _ _ _ _ hal hbl' (ih k _ _ oz oz hx hu) h2 (ih k _ _ oz oz (hnl _ _ _ _ h2) (hr j oz)) (ih k _ _ oz oz hx hv) (ih k _ _ oz oz hy hu)
  by_cases hlt:a.length<b.length
  ·rw[x9 ts k a b hlt];exact hcomm _ _ _ _ (key b a hb ha oz)
  ·exact key a b ha hb hlt
theorem fN(ts:LL)(m:Nat)(hr:∀j,j<m->Nl j (ts.getD j []))(j k:Nat)(a b:List Rat)(hj:j<=m)(hk:j<=k)(ha:Nl j a)(hb:Nl j b) :
  Nl j (pT ts k a b)/\ae j (pT ts k a b)=T.mul (aw ts) j (ae j a) (ae j b):=by
 refine Eg ts (fun j a b c=>Nl j c/\ae j c=T.mul (aw ts) j (ae j a) (ae j b)) ?_ ?_ ?_ ?_ ?_ ?_ (fun _ _ _ _ h=>h.1) m hr j k a b hj hk ha hb
 ·intro j a b c h;exact⟨h.1,by rw[h.2,T.mul_comm]⟩
 ·intro j a b ha hb h;refine⟨.inl rfl,?_⟩;rw[gQ];rcases h with h |h
  ·rw[yd h,T.zero_mul]
  ·rw[yd h,T.mul_zero]
 ·intro j p q;exact⟨.inr ⟨0,zero_le _,rfl⟩,by rw[lN,lN,lN,T.mul_ofQ]⟩
 ·intro j a b c ha hb h;refine⟨h.1.mono oz,?_⟩;rw[fW ha.le,fW hb.le,fW h.1.le,T.mul_low,h.2]
 ·intro j a b c d ha hb hc hd;refine⟨.inr ⟨j+1,le_refl _,?_⟩,?_⟩
  ·rw[ox hc.1.le hd.1.le,Nat.pow_succ];omega
  ·rw[wb hc.1.le,fW hb.le,hc.2,hd.2];simp only[ae];rw[T.mul_half]
 ·intro j a b c1 c2 c3 c4 c5 ha hb h1 h2 h3 h4 h5;refine⟨.inr ⟨j+1,le_refl _,?_⟩,?_⟩
  ·have l1:=h1.1.le;have l3:=h3.1.le;have l4:=h4.1.le;have l5:=h5.1.le;rw[ox (by rw[d7];omega) (by rw[d7];omega),Nat.pow_succ];omega
  ·have l1:=h1.1.le;have l3:=h3.1.le;rw[wb (by rw[d7];omega),io,io,h1.2,h3.2,h4.2,h5.2,h2.2];rfl
def br:Nat->List Rat->List Rat
  |0,a=>if bB a then[]else a
  |j+1,a=>if bB (a.drop (2^j))then br j (a.take (2^j))else a
def T.isZ:(k:Nat)->T k->Bool
  |0,q=>decide ((q:Rat)=0)
  |k+1,x=>isZ k x.1&&isZ k x.2
theorem T.isZ_iff:∀(k:Nat)(x:T k),T.isZ k x=true↔x=T.zero k
 |0,x=>by simp only[T.isZ,decide_eq_true_eq];rfl
 |k+1,x=>by
  simp only[T.isZ,and_eq_true,T.isZ_iff k,T.zero];constructor
  ·intro h;exact Prod.ext h.1 h.2
  ·intro h;rw[h];exact⟨rfl,rfl⟩
def enc:(k:Nat)->T k->List Rat
  |0,q=>[q]
  |k+1,x=>enc k x.1++enc k x.2
def sh:(k:Nat)->T k->List Rat
  |0,q=>if(q:Rat)=0 then[]else[q]
  |k+1,x=>if T.isZ k x.2 then sh k x.1 else enc k x.1++enc k x.2
theorem nc:∀(k:Nat)(x:T k),(enc k x).length=2^k
 |0,x=>rfl
 |k+1,x=>by simp only[enc,length_append,nc k];rw[Nat.pow_succ];omega
theorem xh:∀(k:Nat)(x:T k),ae k (enc k x)=x
 |0,x=>rfl
 |k+1,x=>by
  simp only[enc,ae]
  rw [List.take_append_of_le_length (by rw [nc]; exact le_refl _), take_of_length_le (by rw [nc]; exact le_refl _), List.drop_append_of_le_length (by rw [nc]; exact le_refl _),
   drop_eq_nil_of_le (by rw[nc];exact le_refl _),nil_append,xh k,xh k]
theorem qw:∀(k:Nat)(a:List Rat),a.length=2^k->enc k (ae k a)=a
 |0,a,h=>by
  obtain⟨p,rfl⟩:=List.length_eq_one_iff.1 h;rfl
 |k+1,a,h=>by
  simp only[enc,ae];rw[qw k _ (fL h),qw k _ (fR h),List.take_append_drop]
theorem Q8{k:Nat}{a:List Rat}(h:a.length<=2^k):bB a=T.isZ k (ae k a):=by
 rw[Bool.eq_iff_iff,T.isZ_iff];constructor
 ·exact yd
 ·intro h0;have h1:enc k (ae k (aY a (2^k)))=aY a (2^k):=qw k _ (dG h);rw[no,h0]at h1
  have h2:∀k,bB (enc k (T.zero k))=true:=by
   intro k
   induction k with
   |zero=>rfl
   |succ k ih=>simp only[enc,T.zero,bB,all_append,and_eq_true]at ih ⊢;exact⟨ih,ih⟩
  have h3:=h2 k;rw[h1]at h3;simp only[bB,aY,all_append,and_eq_true]at h3;exact h3.1
theorem z8:∀(k:Nat){a:List Rat},Nl k a->br k a=sh k (ae k a)
 |0,a,h=>by
  have hl:=h.le;simp only[br,sh]
  match a,hl with
  |[],_=>rfl
  |[p],_=>simp[bB,ae]
 |k+1,a,h=>by
  have hl:=h.le;have h1:(a.drop (2^k)).length<=2^k:=by simp;rw[Nat.pow_succ]at hl;omega
  have e1:br (k+1) a=if bB (a.drop (2^k))=true then br k (a.take (2^k))else a:=rfl;have e2:∀x y:T k,sh (k+1) (x,y)=if T.isZ k y=true then sh k x else enc k x++enc k y:=fun _ _=>rfl
  rw[e1,show ae (k+1) a=(ae k (a.take (2^k)),ae k (a.drop (2^k)))from rfl,e2,Q8 h1]
  by_cases hz:T.isZ k (ae k (a.drop (2^k)))=true
  ·rw[if_pos hz,if_pos hz];refine z8 k ?_;rcases h with rfl |⟨j,hj,h⟩
   ·exact .inl (by simp)
   ·by_cases hjk:j<=k
    ·rw[take_of_length_le (by rw[h];exact Nat.pow_le_pow_right oz hjk)];exact .inr ⟨j,hjk,h⟩
    ·exact .inr ⟨k,le_refl _,fL (by rw[h,show j=k+1 by omega])⟩
  ·rw[if_neg hz,if_neg hz]
   have hlen:a.length=2^(k+1):=by
    rcases h with rfl |⟨j,hj,h⟩
    ·exfalso;apply hz
     rw[List.drop_nil,T.isZ_iff,gQ]
    ·by_cases hjk:j<=k
     ·exfalso;apply hz
      rw[drop_eq_nil_of_le (by rw[h];exact Nat.pow_le_pow_right oz hjk),T.isZ_iff,gQ]
     ·rw[h,show j=k+1 by omega]
   rw[qw k _ (fL hlen),qw k _ (fR hlen),List.take_append_drop]
theorem di:∀(k:Nat)(x:T k),Nl k (sh k x)
 |0,q=>by
  simp only[sh];split
  ·exact .inl rfl
  ·exact .inr ⟨0,le_refl _,rfl⟩
 |k+1,x=>by
  simp only[sh];split
  ·exact(di k x.1).mono oz
  ·exact .inr ⟨k+1,le_refl _,by rw[length_append,nc,nc,Nat.pow_succ];omega⟩
theorem bc:∀(k:Nat)(x:T k),ae k (sh k x)=x
 |0,q=>by
  simp only[sh];split
  ·rename_i h;exact h.symm
  ·rfl
 |k+1,x=>by
  simp only[sh];split
  ·rename_i h;rw[T.isZ_iff]at h;rw[fW (di k x.1).le,bc k,<- h]
  ·exact xh (k+1) x
theorem PU{k:Nat}{x:T (k+1)}(h:T.isZ k x.2=false):(sh (k+1) x).length=2^(k+1):=by
 simp only[sh,h,Bool.false_eq_true,if_false,length_append,nc];rw[Nat.pow_succ];omega
def Cd(D N:Nat)(l:List Rat):Prop:=0<D/\∀q∈l,∃n:Int,q*((D:Int):Rat)=(n:Rat)/\n.natAbs<=N
theorem Cd.mono{D N N':Nat}{l:List Rat}(h:Cd D N l)(hn:N<=N'):Cd D N' l :=
 ⟨h.1,fun q hq=>by obtain⟨n,h1,h2⟩:=h.2 q hq;exact⟨n,h1,by omega⟩⟩
theorem Cd.sub{D N:Nat}{l l':List Rat}(h:Cd D N l)(hs:∀q∈l',q∈l):Cd D N l':=⟨h.1,fun q hq=>h.2 q (hs q hq)⟩
theorem Cd.scale{D N c:Nat}{l:List Rat}(h:Cd D N l)(hc:0<c):Cd (D*c) (N*c) l:=by
 refine⟨Nat.mul_pos h.1 hc,fun q hq=>?_⟩;obtain⟨n,h1,h2⟩:=h.2 q hq;refine⟨n*c,?_,?_⟩
 ·rw[Int.natCast_mul,Rat.intCast_mul,<- Rat.mul_assoc,h1,Rat.intCast_mul]
 ·rw[Int.natAbs_mul,natAbs_natCast];exact mul_le_mul_right _ h2
theorem Cd.nil{D N:Nat}(h:0<D):Cd D N []:=⟨h,fun q hq=>by cases hq⟩
theorem Cd.app{D N:Nat}{a b:List Rat}(h:Cd D N a)(h':Cd D N b):Cd D N (a++b) :=
 ⟨h.1,fun q hq=>by rcases List.mem_append.1 hq with hq |hq;exact h.2 q hq;exact h'.2 q hq⟩
theorem Cd.zeros{D N n:Nat}(h:0<D):Cd D N (List.replicate n 0) :=
 ⟨h,fun q hq=>⟨0,by rw[(List.mem_replicate.1 hq).2,Rat.zero_mul];rfl,by simp⟩⟩
theorem Cd.wide{D N n:Nat}{a:List Rat}(h:Cd D N a):Cd D N (aY a n):=h.app (Cd.zeros h.1)
theorem Cd.join{D N n:Nat}{a b:List Rat}(h:Cd D N a)(h':Cd D N b):Cd D N (eT a b n):=h.wide.app h'.wide
theorem Cd.minus{D N:Nat}{a:List Rat}(h:Cd D N a):Cd D N (cF a):=by
 refine⟨h.1,fun q hq=>?_⟩;obtain⟨p,hp,rfl⟩:=List.mem_map.1 hq;obtain⟨n,h1,h2⟩:=h.2 p hp;refine⟨-n,?_,by omega⟩;rw[Rat.intCast_neg,<- h1,Rat.neg_mul]
theorem Cd.plus{D N N':Nat}{a b:List Rat}(h:Cd D N a)(h':Cd D N' b):Cd D (N+N') (cf a b):=by
 refine⟨h.1,fun q hq=>?_⟩;have h1:Cd D N (aY a (max a.length b.length)):=h.wide;have h2:Cd D N' (aY b (max a.length b.length)):=h'.wide;unfold cf at hq;obtain⟨i,hi,rfl⟩:=List.mem_iff_getElem.1 hq;rw[List.getElem_zipWith];obtain⟨n,e1,e2⟩:=h1.2 _ (List.getElem_mem (by simp at hi;omega:i<(aY a (max a.length b.length)).length));obtain⟨m,e3,e4⟩:=h2.2 _ (List.getElem_mem (by simp at hi;omega:i<(aY b (max a.length b.length)).length));refine⟨n+m,?_,by have:=Int.natAbs_add_le n m;omega⟩;rw[Rat.add_mul,e1,e3,Rat.intCast_add]
theorem Cd.mul1{D N D' N':Nat}{p q:Rat}(h:Cd D N [p])(h':Cd D' N' [q]):Cd (D*D') (N*N') [p*q]:=by
 refine⟨Nat.mul_pos h.1 h'.1,fun x hx=>?_⟩;rw[List.mem_singleton.1 hx];obtain⟨n,e1,e2⟩:=h.2 p (by simp);obtain⟨m,e3,e4⟩:=h'.2 q (by simp);refine⟨n*m,?_,by rw[Int.natAbs_mul];exact Nat.mul_le_mul e2 e4⟩;rw[Rat.intCast_mul,<- e1,<- e3,Int.natCast_mul,Rat.intCast_mul];grind
theorem Cd.qb{D N e:Nat}{l:List Rat}(h:Cd D N l)(hD:D<2^e)(hN:N<2^e){q:Rat}(hq:q∈l):Qb e q:=by
 obtain⟨n,h1,h2⟩:=h.2 q hq
 have hD0:((D:Int):Rat)≠0:=by
  intro h0;have:(D:Int)=0:=Rat.intCast_eq_zero_iff.1 h0;have:=h.1;omega
 have hq2:q=Rat.divInt n D:=by
  rw[Rat.divInt_eq_div,<- h1,Rat.mul_div_cancel hD0]
 have h0:=h.1;obtain⟨e1,e2⟩:=v9 (n:=n) (d:=(D:Int)) oz;rw[hq2];refine⟨by omega,by rw[natAbs_natCast]at e2;omega⟩
def rR(D:Nat):Nat->Nat
  |0=>1
  |j+1=>rR D j*rR D j*D
def rM(D N:Nat):Nat->Nat
  |0=>1
  |j+1=>2*(rM D N j*rM D N j*(D+N))
theorem ip{D:Nat}(h:0<D):∀j,0<rR D j
 |0=>by simp[rR]
 |j+1=>Nat.mul_pos (Nat.mul_pos (ip h j) (ip h j)) h
theorem kH(D N:Nat):∀j,rR D j<=rM D N j
 |0=>le_refl _
 |j+1=>by
  have h1:=Nat.mul_le_mul (Nat.mul_le_mul (kH D N j) (kH D N j)) (Nat.le_add_right D N);simp only[rR,rM];omega
theorem O9(ts:LL)(m D N:Nat)(hts:∀j,j<m->Nl j (ts.getD j [])/\Cd D N (ts.getD j []))(hD:0<D)(j k:Nat)(a b:List Rat)(hj:j<=m)(hk:j<=k)(ha:Nl j a)(hb:Nl j b)
  {Da Na Db Nb:Nat} (ca:Cd Da Na a) (cb:Cd Db Nb b):Cd (Da*Db*rR D j) (Na*Nb*rM D N j) (pT ts k a b):=by
 have key:=Eg ts (fun j a b c=>Nl j c/\(j<=m->∀Da Na Db Nb:Nat,Cd Da Na a->Cd Db Nb b->Cd (Da*Db*rR D j) (Na*Nb*rM D N j) c)) ?_ ?_ ?_ ?_ ?_ ?_ (fun _ _ _ _ h=>h.1) m (fun j hj=>(hts j hj).1) j k a b hj hk ha hb
 ·exact key.2 hj _ _ _ _ ca cb
 ·intro j a b c h;refine⟨h.1,fun hj Da Na Db Nb ca cb=>?_⟩;rw[Nat.mul_comm Da,Nat.mul_comm Na];exact h.2 hj _ _ _ _ cb ca
 ·intro j a b ha hb h;exact⟨.inl rfl,fun hj Da Na Db Nb ca cb=>Cd.nil (Nat.mul_pos (Nat.mul_pos ca.1 cb.1) (ip hD j))⟩
 ·intro j p q;refine⟨.inr ⟨0,zero_le _,rfl⟩,fun hj Da Na Db Nb ca cb=>?_⟩;have h1:=(ca.mul1 cb).scale (ip hD j);exact h1.mono (mul_le_mul_left _ (kH D N j))
 ·intro j a b c ha hb h;refine ⟨h.1.mono oz,fun hj Da Na Db Nb ca cb=>?_⟩;have h1:=(h.2 oz _ _ _ _ ca cb).scale (Nat.mul_pos (ip hD j) hD);have e1:Da * Db * rR D j * (rR D j * D) = Da * Db * rR D (j + 1):=by simp only [rR]; grind
  rw[e1]at h1;refine h1.mono ?_;have h2:=mul_le_mul_left (rM D N j) (Nat.mul_le_mul (kH D N j) (Nat.le_add_right D N));have h3:rM D N j*(rR D j*D)<=rM D N (j+1):=by simp only[rM,Nat.mul_assoc]at *;omega
  rw[Nat.mul_assoc (Na*Nb)];exact mul_le_mul_left _ h3
 ·intro j a b c d ha hb hc hd;refine ⟨.inr ⟨j + 1,le_refl _,by rw [ox hc.1.le hd.1.le,Nat.pow_succ]; omega⟩,fun hj Da Na Db Nb ca cb=>?_⟩;have ca1:Cd Da Na (a.take (2 ^ j)):=ca.sub (fun q hq=>mem_of_mem_take hq);have ca2:Cd Da Na (a.drop (2 ^ j)):=ca.sub (fun q hq=>List.mem_of_mem_drop hq);have h1:=((hc.2 oz _ _ _ _ ca1 cb).join (hd.2 oz _ _ _ _ ca2 cb) (n:=2 ^ j)).scale (Nat.mul_pos (ip hD j) hD);have e1:Da * Db * rR D j * (rR D j * D) = Da * Db * rR D (j + 1):=by simp only [rR]; grind
  rw[e1]at h1;refine h1.mono ?_;have h2:=mul_le_mul_left (rM D N j) (Nat.mul_le_mul (kH D N j) (Nat.le_add_right D N));have h3:rM D N j*(rR D j*D)<=rM D N (j+1):=by simp only[rM,Nat.mul_assoc]at *;omega
  rw[Nat.mul_assoc (Na*Nb)];exact mul_le_mul_left _ h3
 ·intro j a b c1 c2 c3 c4 c5 ha hb h1 h2 h3 h4 h5;refine⟨.inr ⟨j+1,le_refl _,?_⟩,fun hj Da Na Db Nb ca cb=>?_⟩
  ·have l1:=h1.1.le;have l3:=h3.1.le;have l4:=h4.1.le;have l5:=h5.1.le;rw[ox (by rw[d7];omega) (by rw[d7];omega),Nat.pow_succ];omega
  have ca1:Cd Da Na (a.take (2^j)):=ca.sub (fun q hq=>mem_of_mem_take hq);have ca2:Cd Da Na (a.drop (2^j)):=ca.sub (fun q hq=>List.mem_of_mem_drop hq);have cb1:Cd Db Nb (b.take (2^j)):=cb.sub (fun q hq=>mem_of_mem_take hq);have cb2:Cd Db Nb (b.drop (2^j)):=cb.sub (fun q hq=>List.mem_of_mem_drop hq);have k2:=h2.2 oz _ _ _ _ ca2 cb2;have k3:=h3.2 oz _ _ _ _ k2 (hts j oz).2;have k1:=(h1.2 oz _ _ _ _ ca1 cb1).scale (Nat.mul_pos (ip hD j) hD);have k4:=(h4.2 oz _ _ _ _ ca1 cb2).scale (Nat.mul_pos (ip hD j) hD);have k5:=(h5.2 oz _ _ _ _ ca2 cb1).scale (Nat.mul_pos (ip hD j) hD);have e1:Da*Db*rR D j*(rR D j*D)=Da*Db*rR D (j+1):=by simp only[rR];grind
  have e3:Da*Db*rR D j*D*rR D j=Da*Db*rR D (j+1):=by simp only[rR];grind
  rw[e1]at k1 k4 k5;rw[e3]at k3;have b1:rM D N j*(rR D j*D)<=rM D N j*rM D N j*D:=by rw[Nat.mul_assoc];exact mul_le_mul_left _ (mul_le_mul_right _ (kH D N j))
  have b2:∀x,Na*Nb*rM D N j*(rR D j*D)+Na*Nb*x<=Na*Nb*(rM D N j*rM D N j*D+x):=by
   intro x;rw[Nat.mul_add,Nat.mul_assoc (Na*Nb)];exact Nat.add_le_add_right (mul_le_mul_left _ b1) _
  refine Cd.join (Cd.mono (k1.plus k3) ?_) (Cd.mono (k4.plus k5) ?_)
  ·have e4 : Na * Nb * rM D N j * N * rM D N j = Na * Nb * (rM D N j * rM D N j * N) := by grind
   rw[e4];refine le_trans (b2 _) (mul_le_mul_left _ ?_);simp only[rM];rw[<- Nat.mul_add];omega
  ·have e4 : Na * Nb * rM D N j * (rR D j * D) <= Na * Nb * (rM D N j * rM D N j * D) := by rw [Nat.mul_assoc (Na * Nb)]; exact mul_le_mul_left _ b1
   refine le_trans (Nat.add_le_add e4 e4) ?_;rw[<- Nat.mul_add];refine mul_le_mul_left _ ?_;simp only[rM];have:=mul_le_mul_left (rM D N j*rM D N j) (Nat.le_add_right D N);omega
def eB(r:Nat):Nat->Nat
  |0=>0
  |j+1=>2*eB r j+r+2
theorem tZ{D N r:Nat}(hD:D<=2^r)(hN:N<=2^r):∀j,rM D N j<=2^eB r j
 |0=>le_refl _
 |j+1=>by
  have h1:=tZ hD hN j;have h2:=Nat.mul_le_mul (Nat.mul_le_mul h1 h1) (Nat.add_le_add hD hN);simp only[rM,eB]
  have e:2^(2*eB r j+r+2)=2*(2^eB r j*2^eB r j*(2^r+2^r)):=by
   rw[pow_add,pow_add,Nat.two_mul,pow_add];grind
  rw[e];exact mul_le_mul_left _ h2
def Cb(e:Nat)(l:List Rat):Prop:=∃D N,Cd D N l/\D<=2^e/\N<=2^e
def RB(r:Nat)(ts:LL):Prop:=∃D N,0<D/\(∀d∈ts,Cd D N d)/\D<=2^r/\N<=2^r
theorem bY{a b:Nat}(h:a<=b):2^a<=2^b:=Nat.pow_le_pow_right oz h
theorem Cb.mono{e f:Nat}{l:List Rat}(h:Cb e l)(hf:e<=f):Cb f l:=by
 obtain⟨D,N,h1,h2,h3⟩:=h;exact⟨D,N,h1,le_trans h2 (bY hf),le_trans h3 (bY hf)⟩
theorem Cb.sub{e:Nat}{l l':List Rat}(h:Cb e l)(hs:∀q∈l',q∈l):Cb e l':=by
 obtain⟨D,N,h1,h2,h3⟩:=h;exact⟨D,N,h1.sub hs,h2,h3⟩
theorem Cb.take{e n:Nat}{l:List Rat}(h:Cb e l):Cb e (l.take n):=h.sub (fun q hq=>mem_of_mem_take hq)
theorem Cb.drop{e n:Nat}{l:List Rat}(h:Cb e l):Cb e (l.drop n):=h.sub (fun q hq=>List.mem_of_mem_drop hq)
theorem Cb.nil:Cb 0 []:=⟨1,1,Cd.nil oz,by simp,by simp⟩
theorem Cb.wide{e n:Nat}{a:List Rat}(h:Cb e a):Cb e (aY a n):=by
 obtain⟨D,N,h1,h2,h3⟩:=h;exact⟨D,N,h1.wide,h2,h3⟩
theorem Cb.minus{e:Nat}{a:List Rat}(h:Cb e a):Cb e (cF a):=by
 obtain⟨D,N,h1,h2,h3⟩:=h;exact⟨D,N,h1.minus,h2,h3⟩
theorem Cb.plus{e f:Nat}{a b:List Rat}(h:Cb e a)(h':Cb f b):Cb (e+f+1) (cf a b):=by
 obtain⟨D,N,h1,h2,h3⟩:=h;obtain⟨D',N',h4,h5,h6⟩:=h';have k1:=h1.scale h4.1;have k2:=h4.scale h1.1;rw[Nat.mul_comm D']at k2;refine⟨_,_,k1.plus k2,?_,?_⟩
 ·rw[Nat.pow_succ,pow_add];have:=Nat.mul_le_mul h2 h5;omega
 ·rw[Nat.pow_succ,pow_add];have e1:=Nat.mul_le_mul h3 h5;have e2:=Nat.mul_le_mul h6 h2;rw[Nat.mul_comm (2^f)]at e2;omega
theorem Cb.qb{e:Nat}{l:List Rat}(h:Cb e l){q:Rat}(hq:q∈l):Qb (e+1) q:=by
 obtain⟨D,N,h1,h2,h3⟩:=h;have:=Nat.two_pow_pos e;exact h1.qb (by rw[Nat.pow_succ];omega) (by rw[Nat.pow_succ];omega) hq
theorem Cb.qs{e:Nat}{l:List Rat}(h:Cb e l)(he:e<4398046511104){q:Rat}(hq:q∈l):Qs q:=(h.qb hq).qs he
def il(ts:LL)(m r:Nat):Prop:=(∀j,j<m->Nl j (ts.getD j []))/\RB r ts
theorem RB.get{r:Nat}{ts:LL}(h:RB r ts):∃D N,0<D/\(∀j,Cd D N (ts.getD j []))/\D<=2^r/\N<=2^r:=by
 obtain⟨D,N,h0,h1,h2,h3⟩:=h;refine⟨D,N,h0,fun j=>?_,h2,h3⟩;rw[getD_eq_getElem?_getD];cases hx:ts[j]? with
 |none=>exact Cd.nil h0
 |some d=>exact h1 d (mem_of_getElem? hx)
theorem RB.cb{r:Nat}{ts:LL}(h:RB r ts)(j:Nat):Cb r (ts.getD j []):=by
 obtain⟨D,N,h0,h1,h2,h3⟩:=h.get;exact⟨D,N,h1 j,h2,h3⟩
theorem Cb.mul{ts:LL}{m r:Nat}(ht:il ts m r){j k e f:Nat}{a b:List Rat}(hj:j<=m)(hk:j<=k)(ha:Nl j a)(hb:Nl j b)(ca:Cb e a)(cb:Cb f b) :
  Cb (e+f+eB r j) (pT ts k a b):=by
 obtain⟨D,N,h0,h1,h2,h3⟩:=ht.2.get;obtain⟨Da,Na,a1,a2,a3⟩:=ca;obtain⟨Db,Nb,b1,b2,b3⟩:=cb;refine⟨_,_,O9 ts m D N (fun j hj=>⟨ht.1 j hj,h1 j⟩) h0 j k a b hj hk ha hb a1 b1,?_,?_⟩
 ·rw[pow_add,pow_add];exact Nat.mul_le_mul (Nat.mul_le_mul a2 b2) (le_trans (kH D N j) (tZ h2 h3 j))
 ·rw[pow_add,pow_add];exact Nat.mul_le_mul (Nat.mul_le_mul a3 b3) (tZ h2 h3 j)
theorem GX(r:Nat):∀j,eB r j<=eB r (j+1):=fun j=>by simp only[eB];omega
def sB(r:Nat):Nat->Nat->Nat
  |0,e=>e
  |j+1,e=>sB r j (4*e+3*eB r j+r+1)
theorem nW(r:Nat):∀j e,e<=sB r j e
 |0,e=>le_refl _
 |j+1,e=>by have:=nW r j (4*e+3*eB r j+r+1);simp only[sB];omega
theorem nI(r:Nat):∀j {e f:Nat},e<=f->sB r j e<=sB r j f
 |0,e,f,h=>h
 |j+1,e,f,h=>by simp only[sB];exact nI r j oz
theorem Vd(r j e:Nat):sB r j e<=sB r (j+1) e:=by simp only[sB];exact nI r j oz
theorem uu(r e:Nat){i j:Nat}(h:i<=j):sB r i e<=sB r j e:=by
  induction j with
  | zero => have : i = 0 := by omega
            subst this;exact le_refl _
  |succ j ih =>
    by_cases hij:i=j+1
    · rw[hij];exact le_refl _
    · exact le_trans (ih oz) (Vd r j e)
theorem Ka(r e:Nat){j:Nat}(h:j<=2):sB r j e<=16*e+17*r+29:=by
 refine le_trans (uu r e h) ?_;simp only[sB,eB];omega
theorem P4(r e:Nat){j:Nat}(h:j<=3):sB r j e<=64*e+177*r+333:=by
 refine le_trans (uu r e h) ?_;simp only[sB,eB];omega
theorem KX(r:Nat){j:Nat}(h:j<=3):eB r j<=7*(r+2):=by
 match j,h with
 |0,_=>simp only[eB];omega
 |1,_=>simp only[eB];omega
 |2,_=>simp only[eB];omega
 |3,_=>simp only[eB];omega
def lm(n:Nat):Nat:=if n<=2 then 200000000000 else 50000000000
theorem gV(n:Nat):lm n<=200000000000:=by unfold lm;split <;> omega
theorem kZ(n:Nat):50000000000<=lm n:=by unfold lm;split <;> omega
theorem HY(r:Nat){j:Nat}(h:j<=5):eB r j<=31*(r+2):=by
 have:∀i,eB r i<=eB r (i+1):=GX r
 have h5:eB r j<=eB r 5:=by
  match j,h with
  |0,_=>simp only[eB];omega
  |1,_=>simp only[eB];omega
  |2,_=>simp only[eB];omega
  |3,_=>simp only[eB];omega
  |4,_=>simp only[eB];omega
  |5,_=>exact le_refl _
 refine le_trans h5 ?_;simp only[eB];omega
def nA(l:List Rat):AV:=.lst 3 (l.map qA)
def nR(l:List Rt):AV:=.lst 3 (l.map Rt.av)
def aR(ts:LL):AV:=.agg [.lst 1 (ts.map nA)]
def cq(ts:List (List Rt)):AV:=.agg [.lst 1 (ts.map nR)]
def pE(n:Nat):Nat:=if n<=1 then 0 else(n-1).log2+1
theorem Hu{n k:Nat}(h1:∀j,j<k->2^j<n)(h2:n<=2^k):pE n=k:=by
 unfold pE;split
 ·rename_i h;cases k with
  |zero=>rfl
  |succ k=>have:=h1 0 oz;omega
 ·rename_i h;cases k with
  |zero=>simp at h2;omega
  |succ k =>
   have h3:=h1 k oz;congr 1;rw[Nat.log2_eq_iff oz];omega
def cH(n:Nat):Int:=if 2^pE n=n then(pE n:Int)else -1
theorem Oi(j:Nat):pE (2^j)=j:=Hu (fun i hi=>Nat.pow_lt_pow_right oz hi) (le_refl _)
theorem pz(j:Nat):cH (2^j)=j:=by unfold cH;rw[Oi,if_pos rfl]
theorem Is{n:Nat}(h:0<=cH n):∃j:Nat,n=2^j/\cH n=(j:Int):=by
 unfold cH at h ⊢;split at h
 ·rename_i h1;exact⟨pE n,h1.symm,by rw[if_pos h1]⟩
 ·omega
theorem mX{k:Nat}(hk:k<=62):IntKind.i64.wrap ((1:Int)*2^(min (k:Int).toNat IntKind.i64.bits))=((2^k:Nat):Int):=by
 have h1:min (k:Int).toNat IntKind.i64.bits=k:=by simp[IntKind.bits];omega
 have h2:2^k<=2^62:=bY hk;have h3:(2:Nat)^62=4611686018427387904:=by decide
 have h4:((2:Int)^k)=((2^k:Nat):Int):=by simp
 rw[h1,Int.one_mul,h4];generalize 2^k=x at *;exact i64_in oz
def bZ(m:Nat)(a:List Rt):Nat:=if a≠[]/\(cH a.length<0\/(m:Int)<cH a.length)then 10 else if a.all Rt.valid then 0 else 2
theorem xd{m:Nat}{a:List Rt}(h:bZ m a=0)(hok:∀r∈a,r.ok):a=(a.map Rt.q).map rt/\Nl m (a.map Rt.q):=by
 unfold bZ at h;split at h
 ·cases h
 ·rename_i h1;split at h
  ·rename_i h2;rw[all_eq_true]at h2;refine⟨?_,?_⟩
   ·rw[map_map];refine(List.map_id _).symm.trans ?_;exact List.map_congr_left (fun r hr=>Rt.eq_rt (hok r hr) (h2 r hr))
   ·by_cases h0:a=[]
    ·subst h0;exact .inl rfl
    ·have h3:0<=cH a.length/\cH a.length<=m:=by
      constructor
      ·exact Int.not_lt.1 (fun h=>h1 ⟨h0,.inl h⟩)
      ·exact Int.not_lt.1 (fun h=>h1 ⟨h0,.inr h⟩)
     obtain⟨j,e1,e2⟩:=Is h3.1;exact .inr ⟨j,by omega,by rw[length_map,e1]⟩
  ·cases h
theorem dA(l:List Rat):nR (l.map rt)=nA l:=by
 unfold nR nA;rw[map_map];rfl
theorem Nl.len5{k:Nat}{a:List Rat}(h:Nl k a)(hk:k<=5):a.length<=32:=le_trans h.le (bY (b:=5) hk)
theorem qZ:jG (.agg [.v (.bool false),.v (.slice none 0 0),.v (.slice none 0 0)]) (qA 0):=by
 refine⟨rfl,?_⟩;intro j x y hx hy
 match j,hx,hy with
 |0,hx,hy=>cases hx;cases hy;exact⟨rfl,.refl _⟩
 |1,hx,hy=>cases hx;cases hy;exact⟨rfl,.nil _ _ _⟩
 |2,hx,hy=>cases hx;cases hy;exact⟨rfl,.nil _ _ _⟩
theorem jG.refl{e:AV}(h:∀c∈e.cells,c.one=true):jG e e :=
 ⟨rfl,fun j x y hx hy=>by rw[hx]at hy;cases hy;exact⟨h x (mem_of_getElem? hx),.refl _⟩⟩
theorem yf(q:Rat):∀c∈(qA q).cells,c.one=true:=by
 intro c hc;have:c=bl (rt q).neg\/c=ws (rt q).num\/c=ws (rt q).den:=by simpa[qA,Rt.av,AV.cells]using hc
 rcases this with rfl |rfl |rfl <;> rfl
theorem Gl(a:List Rat)(n:Nat)(h:a.length<=n) :
  BlkSub (.row 3 (a.map qA++(List.replicate n (.agg [.v (.bool false),.v (.slice none 0 0),.v (.slice none 0 0)])).drop (a.map qA).length)) (.row 3 ((aY a n).map qA)):=by
 refine .row ?_ ?_
 ·simp only[aY,length_append,length_map,List.length_drop,length_replicate]
 ·intro i e e' he he'
  by_cases hi:i<a.length
  ·rw[getElem?_append_left (by simpa using hi)]at he;simp only[aY,map_append]at he';rw[getElem?_append_left (by simpa using hi),he]at he';cases he';simp only[getElem?_map,map_eq_some_iff]at he;obtain⟨q,_,rfl⟩:=he;exact jG.refl (yf q)
  ·rw [getElem?_append_right (by simpa using hi), List.drop_replicate, List.getElem?_replicate] at he;simp only [aY,map_append] at he';rw [getElem?_append_right (by simpa using hi),map_replicate,List.getElem?_replicate] at he';split at he
   ·cases he;split at he'
    ·cases he';exact qZ
    ·cases he'
   ·cases he
theorem Ae{p w:List Rat}{i:Nat}{s:Rat}(hl:p.length=w.length)(hi:i<p.length)(hs:p[i]=s) :
  ((p.take i++w.drop i).map qA).set i (qA s)=(p.take (i+1)++w.drop (i+1)).map qA:=by
 rw[<- map_set];congr 1;subst hs;rw[List.set_append_right i _ (by simp;omega)];have h1:i-(p.take i).length=0:=by simp;omega
 rw[h1,List.drop_eq_getElem_cons oz,List.set_cons_zero,List.take_succ_eq_append_getElem hi,append_assoc];rfl
theorem Fp{a b:List Rat}{i:Nat}(hi:i<(cf a b).length) :
  (cf a b)[i]=(aY a (max a.length b.length)).getD i 0+(aY b (max a.length b.length)).getD i 0:=by
 have h:=Ff (a:=a) (b:=b) (i:=i);rw[getD_eq_getElem?_getD,getElem?_eq_getElem hi,Option.getD_some]at h;rw[h,oi,oi]
theorem getD_some{l:List Rat}{i:Nat}(h:i<l.length):l[i]?=some (l.getD i 0):=by
 rw[getD_eq_getElem?_getD,getElem?_eq_getElem h];rfl
theorem sV{l:List Rat}{i:Nat}(h:i<l.length):l.getD i 0∈l:=by
 rw[getD_eq_getElem?_getD,getElem?_eq_getElem h];exact List.getElem_mem h
theorem yO{p w:List Rat}{i:Nat}(hl:p.length=w.length)(hi:i<p.length):(p.take i++w.drop i)[i]?=some (w.getD i 0):=by
 rw[getElem?_append_right (by simp;omega),getElem?_drop];have:i+(i-(p.take i).length)=i:=by simp;omega
 rw[this];exact getD_some oz
theorem d9{α:Type}{l:List α}{i:Nat}{x:α}(h:l[i]?=some x):l.take (i+1)=l.take i++[x]:=by
 obtain⟨hi,rfl⟩:=List.getElem?_eq_some_iff.1 h;exact List.take_succ_eq_append_getElem hi
theorem lY{q:Rat}(h:bN q=0):q=0:=by
 unfold bN at h;split at h
 ·cases h
 ·split at h
  ·cases h
  ·grind
theorem Se:rt 0=⟨false,[],[]⟩:=rfl
theorem Fh{q:Rat}(h:cond (cond (rt q).neg true (ac .gtr ((rt q).num.length:Int) 0)) true (ac .gtr ((rt q).den.length:Int) 0)=true):q≠0:=by
 intro h0;rw[h0,Se]at h;cases h
theorem ED{q:Rat}(h:cond (cond (rt q).neg true (ac .gtr ((rt q).num.length:Int) 0)) true (ac .gtr ((rt q).den.length:Int) 0)=false):q=0:=by
 cases hn:(rt q).neg
 ·rw[hn]at h;cases hm:ac .gtr ((rt q).num.length:Int) 0
  ·have h1:(rt q).num=[]:=by
    cases hl:(rt q).num with
    |nil=>rfl
    |cons x l=>rw[hl]at hm;simp[ac]at hm
   rw[<- bP q];exact Rt.zero (fun h=>h.2 h1)
  ·rw[hm]at h;cases h
 ·rw[hn]at h;cases h
theorem fF{n:Nat}(h:n<=281474976710656):IntKind.i64.wrap ((n:Int).tdiv 2)=((n/2:Nat):Int):=by
 rw[show((n:Int).tdiv 2)=((n/2:Nat):Int)from(Int.ofNat_tdiv n 2).symm];exact i64_in oz
theorem FS{m j:Nat}{a:List Rat}(h:a.length<=2^j)(hj:j<=m):br m a=br j a:=by
  induction m with
  | zero => have : j = 0 := by omega
            subst this;rfl
  |succ m ih =>
    by_cases hjm:j=m+1
    · rw[hjm]
    · have h1:a.length<=2^m:=le_trans h (bY oz)
      have h2:br (m+1) a=if bB (a.drop (2^m))=true then br m (a.take (2^m))else a:=rfl;rw[h2,drop_eq_nil_of_le h1,if_pos Mb,take_of_length_le h1];exact ih oz
def lU(a:List Rat)(n:Nat):Prop:=(n=0/\a=[])\/∃i,n=2^i/\i<=5/\n<=a.length/\br 5 a=br i (a.take n)
theorem Eh{a:List Rat}(h:Nl 5 a):lU a a.length:=by
 rcases h with rfl |⟨j,hj,h⟩
 ·exact .inl ⟨rfl,rfl⟩
 ·exact .inr ⟨j,h,hj,le_refl _,by rw[take_length];exact FS oz hj⟩
theorem BK{a:List Rat}{i:Nat}:(a.drop (2^i)).take (2^(i+1)-2^i)=(a.take (2^(i+1))).drop (2^i):=by
 rw[List.drop_take]
theorem IJ{a:List Rat}{n:Nat}(h:lU a n)(h1:1<n)(hz:bB ((a.drop (n/2)).take (n-n/2))=true):lU a (n/2):=by
 rcases h with⟨h,_⟩ |⟨i,rfl,hi,hl,hs⟩
 ·omega
 ·cases i with
  |zero=>simp at h1
  |succ i =>
   rw[fq]at hz ⊢;rw[BK]at hz;have h2:br (i+1) (a.take (2^(i+1)))=if bB ((a.take (2^(i+1))).drop (2^i))=true then br i ((a.take (2^(i+1))).take (2^i))else a.take (2^(i+1)):=rfl;rw[h2,if_pos hz,List.take_take,Nat.min_eq_left (bY oz)]at hs;exact .inr ⟨i,rfl,by omega,le_trans (bY oz) hl,hs⟩
theorem CS{a:List Rat}(h:lU a 1)(hz:bB (a.take 1)=true):br 5 a=[]:=by
 rcases h with⟨h,_⟩ |⟨i,h0,hi,hl,hs⟩
 ·omega
 ·have:i=0:=by
   cases i with
   |zero=>rfl
   |succ i=>rw[Nat.pow_succ]at h0;omega
  subst this;rw[hs];show(if bB (a.take 1)=true then[]else _)=_;rw[if_pos hz]
theorem Df{a:List Rat}{n:Nat}(h:lU a n)(h1:1<n->bB ((a.drop (n/2)).take (n-n/2))=false)(h2:n=1->bB (a.take 1)=false):br 5 a=a.take n:=by
 rcases h with⟨rfl,rfl⟩ |⟨i,rfl,hi,hl,hs⟩
 ·rfl
 ·cases i with
  |zero =>
   rw[hs];show(if bB (a.take 1)=true then[]else _)=_;rw[h2 rfl];rfl
  |succ i =>
   have h3:=h1 (by have:=Nat.two_pow_pos i;rw[Nat.pow_succ];omega);rw[fq,BK]at h3;rw[hs];have h4:br (i+1) (a.take (2^(i+1)))=if bB ((a.take (2^(i+1))).drop (2^i))=true then br i ((a.take (2^(i+1))).take (2^i))else a.take (2^(i+1)):=rfl;rw[h4,h3];rfl
theorem lU.le{a:List Rat}{n:Nat}(h:lU a n):n<=a.length:=by
 rcases h with⟨rfl,rfl⟩ |⟨i,rfl,hi,hl,hs⟩
 ·exact le_refl _
 ·exact hl
theorem sf(a:List Rat)(l m:Nat):AV.lst 3 (((a.map qA).drop l).take m)=nA ((a.drop l).take m):=by
 unfold nA;rw[map_take,List.map_drop]
theorem tz{n:Nat}{a:List Rat}(h:Nl n a)(hn:n<=5):br 5 a=sh n (ae n a):=by
 rw[FS h.le hn,z8 n h]
theorem BlkSub.of_{x y z:Blk}(h:BlkSub x y)(e:z=x):BlkSub z y:=e▸h
theorem Qe{a:List Rat}{i:Nat}(hi:i<(cF a).length):(cF a)[i]=-(a.getD i 0):=by
 have h:=BU (a:=a) (i:=i);rw[getD_eq_getElem?_getD,getElem?_eq_getElem hi,Option.getD_some]at h;exact h
theorem Nf{ts:LL}{k:Nat}{x y:List Rat}(hl:y.length<=x.length)(h:bB x=true\/bB y=true):pT ts k x y=[]:=by
 unfold pT;simp only[if_neg (show ¬x.length<y.length by omega)];rw[if_pos (by rw[or_eq_true];exact h)]
theorem Lg{ts:LL}{k:Nat}{p q:Rat}(h:¬(bB [p]=true\/bB [q]=true)):pT ts k [p] [q]=[p*q]:=by
 unfold pT;simp only[length_cons,length_nil,Nat.lt_irrefl,if_false];rw[if_neg (by rw[or_eq_true];exact h)];simp
theorem OJ{ts:LL}{k i:Nat}{x y:List Rat}(hx:x.length=2^(i+1))(hl:y.length<=2^i)(h:¬(bB x=true\/bB y=true)) :
  pT ts (k+1) x y=eT (pT ts k (x.take (2^i)) y) (pT ts k (x.drop (2^i)) y) (2^i):=by
 have h2:=Nat.two_pow_pos i;have hlt:¬x.length<y.length:=by rw[hx,Nat.pow_succ];omega
 conv=>lhs;unfold pT
 simp only[if_neg hlt];rw[if_neg (by rw[or_eq_true];exact h),if_neg (by rw[hx,Nat.pow_succ];omega)];simp only[hx,fq];rw[if_pos hl]
theorem Nj{ts:LL}{k i:Nat}{x y:List Rat}(hx:x.length=2^(i+1))(hl:¬y.length<=2^i)(hyx:y.length<=x.length)(h:¬(bB x=true\/bB y=true)) :
  pT ts (k+1) x y=eT (cf (pT ts k (x.take (2^i)) (y.take (2^i))) (pT ts k (pT ts k (x.drop (2^i)) (y.drop (2^i))) (ts.getD i [])))
   (cf (pT ts k (x.take (2^i)) (y.drop (2^i))) (pT ts k (x.drop (2^i)) (y.take (2^i)))) (2^i):=by
 conv=>lhs;unfold pT
 simp only[if_neg (show ¬x.length<y.length by omega)];have h2:=Nat.two_pow_pos i;rw[if_neg (by rw[or_eq_true];exact h),if_neg (by rw[hx,Nat.pow_succ];omega)];simp only[hx,fq,yj];rw[if_neg hl]
theorem g9(r:Nat){i j:Nat}(h:i<=j):eB r i<=eB r j:=by
  induction j with
  | zero => have : i = 0 := by omega
            subst this;exact le_refl _
  |succ j ih =>
    by_cases hij:i=j+1
    · rw[hij];exact le_refl _
    · exact le_trans (ih oz) (GX r j)
theorem oq{j:Nat}{x:List Rat}(h:Nl j x):x.length=0\/x.length=1\/∃i,i+1<=j/\x.length=2^(i+1):=by
 rcases h with rfl |⟨i,hi,h⟩
 ·exact .inl rfl
 ·cases i with
  |zero=>exact .inr (.inl h)
  |succ i=>exact .inr (.inr ⟨i,hi,h⟩)
theorem JS{j i:Nat}{x:List Rat}(h:Nl j x)(hl:x.length<=2^i):Nl i x:=by
 rcases h with rfl |⟨l,hl',h⟩
 ·exact .inl rfl
 ·refine .inr ⟨l,?_,h⟩;rcases lt_or_ge i l with h1 |h1
  ·have:=Nat.pow_lt_pow_right (a:=2) oz h1;omega
  ·exact h1
theorem JZ{j i:Nat}{x:List Rat}(h:Nl j x)(hl:¬x.length<=2^i)(hu:x.length<=2^(i+1)):x.length=2^(i+1):=by
 rcases h with rfl |⟨l,hl',h⟩
 ·simp at hl
 ·rcases lt_or_ge i l with h1 |h1
  ·rcases lt_or_ge (i+1) l with h2 |h2
   ·have:=Nat.pow_lt_pow_right (a:=2) oz h2;omega
   ·rw[h,show l=i+1 by omega]
  ·have:=bY h1;omega
theorem p9{ts:LL}{j:Nat}(h:j<ts.length):(ts.map nA)[j]?=some (nA (ts.getD j [])):=by
 rw[getElem?_map,getD_eq_getElem?_getD,getElem?_eq_getElem h];rfl
theorem kU(x:List Rat)(n:Nat):AV.lst 3 (((x.map qA).drop 0).take (n-0))=nA (x.take n):=by
 rw[Nat.sub_zero,drop_zero,<- map_take];rfl
theorem mf(x:List Rat)(n:Nat):AV.lst 3 (((x.map qA).drop n).take ((x.map qA).length-n))=nA (x.drop n):=by
 rw[<- List.map_drop,take_of_length_le (by simp)];rfl
def ic(ts:LL)(i:Nat)(a:List Rat):List Rat :=
  cf (pT ts i (a.take (2^i)) (a.take (2^i))) (cF (pT ts i (pT ts i (a.drop (2^i)) (a.drop (2^i))) (ts.getD i [])))
theorem vi{ts:LL}{m r:Nat}(ht:il ts m r){i e:Nat}{a:List Rat}(hi:i+1<=m)(ha:a.length=2^(i+1))(ca:Cb e a) :
  Nl i (ic ts i a)/\ae i (ic ts i a)=T.norm (aw ts) i (ae (i+1) a)/\Cb (4*e+3*eB r i+r+1) (ic ts i a):=by
 have n1:Nl i (a.take (2^i)):=.inr ⟨i,le_refl _,fL ha⟩;have n2:Nl i (a.drop (2^i)):=.inr ⟨i,le_refl _,fR ha⟩;have s1:=fN ts m ht.1 i i _ _ oz oz n1 n1;have s2:=fN ts m ht.1 i i _ _ oz oz n2 n2;have s3:=fN ts m ht.1 i i _ _ oz oz s2.1 (ht.1 i oz);have c1:=Cb.mul ht (k:=i) (show i<=m by omega) oz n1 n1 ca.take ca.take;have c2:=Cb.mul ht (k:=i) (show i<=m by omega) oz n2 n2 ca.drop ca.drop;have c3:=Cb.mul ht (k:=i) (show i<=m by omega) oz s2.1 (ht.1 i oz) c2 (ht.2.cb i);refine⟨?_,?_,?_⟩
 ·have l1:=s1.1.le;have l3:=s3.1.le;rcases s1.1 with h1 |⟨j1,hj1,h1⟩ <;> rcases s3.1 with h3 |⟨j3,hj3,h3⟩
  ·refine .inl ?_;apply List.eq_nil_of_length_eq_zero;unfold ic;rw[d7,iJ,h1,h3];rfl
  ·refine .inr ⟨j3,hj3,?_⟩;unfold ic;rw[d7,iJ,h1,h3];simp
  ·refine .inr ⟨j1,hj1,?_⟩;unfold ic;rw[d7,iJ,h1,h3];simp
  ·refine .inr ⟨max j1 j3, by omega, ?_⟩;unfold ic;rw [d7,iJ,h1,h3];rcases Nat.le_total j1 j3 with h | h
   ·rw[Nat.max_eq_right h,Nat.max_eq_right (bY h)]
   ·rw[Nat.max_eq_left h,Nat.max_eq_left (bY h)]
 ·unfold ic T.norm;rw[io,l0,s1.2,s3.2,s2.2];rfl
 ·exact(c1.plus c3.minus).mono oz
theorem T.sgn_ofQ(r:(k:Nat)->T k):∀(k:Nat)(q:Rat),T.sgn r k (T.ofQ k q)=bN q
 |0,q=>rfl
 |k+1,q=>by simp only[T.ofQ];rw[T.sgn_low,T.sgn_ofQ r k]
theorem sG(r:(k:Nat)->T k){i j:Nat}{a:List Rat}(h:a.length<=2^i)(hij:i<=j):T.sgn r j (ae j a)=T.sgn r i (ae i a):=by
  induction j with
  | zero => have : i = 0 := by omega
            subst this;rfl
  |succ j ih =>
    by_cases h':i=j+1
    · rw[h']
    · rw[fW (le_trans h (bY oz)),T.sgn_low]
      exact ih oz
theorem uv:∀(k:Nat){a:List Rat}{q:Rat},q∈br k a->q∈a
 |0,a,q,h=>by
  have e:br 0 a=if bB a=true then[]else a:=rfl;rw[e]at h;split at h
  ·cases h
  ·exact h
 |k+1,a,q,h=>by
  have e:br (k+1) a=if bB (a.drop (2^k))=true then br k (a.take (2^k))else a:=rfl;rw[e]at h;split at h
  ·exact mem_of_mem_take (uv k h)
  ·exact h
theorem Cb.sh{e k:Nat}{a:List Rat}(h:Cb e a)(hn:Nl k a):Cb e (sh k (ae k a)):=by
 rw[<- z8 k hn];exact Cb.sub h (fun q hq=>uv k hq)
theorem xp{x y:Int}(hx:x=-1\/x=0\/x=1)(hy:y=-1\/y=0\/y=1):IntKind.i64.wrap (fI .mul x y)=x*y:=by
 apply AT;rcases hx with rfl |rfl |rfl <;> rcases hy with rfl |rfl |rfl <;> simp
theorem z5{x y z w:Int}(h:cond (ac .eql x y) true (ac .eql z w)=true):x=y\/z=w:=by
 cases hx:ac .eql x y
 ·rw[hx]at h;exact .inr (by simpa[ac]using h)
 ·exact .inl (by simpa[ac]using hx)
theorem xt{x y z w:Int}(h:cond (ac .eql x y) true (ac .eql z w)=false):¬(x=y\/z=w):=by
 cases hx:ac .eql x y
 ·rw [hx] at h;have h1:x ≠ y:=by simpa [ac] using hx
  have h2:z≠w:=by simpa[ac]using h
  exact fun h=>h.elim h1 h2
 ·rw[hx]at h;cases h
abbrev lq(a:List Rt):List Rat:=a.map Rt.q
abbrev llq(rs:List (List Rt)):LL:=rs.map lq
def mO(rs:List (List Rt)):Nat->Nat->Nat
  |0,_=>0
  |f+1,k=>if(rs.getD k []).length≠2^k then 10 else if bZ k (rs.getD k [])≠0 then bZ k (rs.getD k [])
    else if T.sgn (aw (llq rs)) k (aw (llq rs) k)<0 then 3 else mO rs f (k+1)
def bt(rs:List (List Rt)):Nat:=if 5<rs.length then 4 else mO rs rs.length 0
def fK:List Nat->Nat
  |[]=>0
  |e::l=>if e≠0 then e else fK l
def bi(rs:List (List Rt))(xs:List (List Rt)):Nat:=if bt rs≠0 then bt rs else fK (xs.map (bZ rs.length))
theorem T.mul_congr{r r':(k:Nat)->T k}:∀(k:Nat),(∀j,j<k->r j=r' j)->∀x y,T.mul r k x y=T.mul r' k x y
 |0,_,x,y=>rfl
 |k+1,h,x,y=>by
  have ih:=T.mul_congr k (fun j hj=>h j oz);simp only[T.mul,ih,h k oz]
theorem T.sgn_congr{r r':(k:Nat)->T k}:∀(k:Nat),(∀j,j<k->r j=r' j)->∀x,T.sgn r k x=T.sgn r' k x
 |0,_,x=>rfl
 |k+1,h,x=>by
  have ih:=T.sgn_congr k (fun j hj=>h j oz);have im:=T.mul_congr k (fun j hj=>h j oz);simp only[T.sgn,T.norm,ih,im,h k oz]
theorem vh{ts:LL}{k j:Nat}(h:j<k):aw (ts.take k) j=aw ts j:=by
 unfold aw;simp only[getD_eq_getElem?_getD,getElem?_take,if_pos h]
theorem sK(rs:List (List Rt))(k:Nat):(llq rs).getD k []=lq (rs.getD k []):=by
 simp only[getD_eq_getElem?_getD,getElem?_map];cases rs[k]? <;> rfl
def ii(rs:List (List Rt))(k:Nat):Prop:=(rs.getD k []).length=2^k/\bZ k (rs.getD k [])=0/\0<=T.sgn (aw (llq rs)) k (aw (llq rs) k)
theorem EP{rs:List (List Rt)}{f k:Nat}(h:ii rs k):mO rs (f+1) k=mO rs f (k+1):=by
 obtain⟨h1,h2,h3⟩:=h;show(if _ then _ else _)=_;rw[if_neg (by rw[h1];simp),if_neg (by rw[h2];simp),if_neg oz]
theorem CI:∀{f k:Nat}{rs:List (List Rt)},mO rs f k=0->∀j,k<=j->j<k+f->ii rs j
 |0,k,rs,_,j,h1,h2=>by omega
 |f+1,k,rs,h,j,h1,h2=>by
  have h':(if(rs.getD k []).length≠2^k then 10 else if bZ k (rs.getD k [])≠0 then bZ k (rs.getD k [])
   else if T.sgn (aw (llq rs)) k (aw (llq rs) k)<0 then 3 else mO rs f (k+1))=0:=h
  split at h'
  ·cases h'
  ·rename_i e1;split at h'
   ·rename_i e2;exact absurd h' e2
   ·rename_i e2;split at h'
    ·cases h'
    ·rename_i e3
     by_cases hj:j=k
     ·subst hj;exact⟨Decidable.not_not.1 e1,Decidable.not_not.1 e2,by omega⟩
     ·exact CI h' j oz oz
theorem DX:∀{f k:Nat}{rs:List (List Rt)},(∀j,k<=j->j<k+f->ii rs j)->mO rs f k=0
 |0,k,rs,_=>rfl
 |f+1,k,rs,h=>by
  rw[EP (h k oz oz)];exact DX (fun j h1 h2=>h j oz oz)
theorem yN{rs:List (List Rt)}(hok:∀d∈rs,∀x∈d,x.ok){k:Nat}(hk:k<=rs.length)(h:∀j,j<k->bZ j (rs.getD j [])=0):(rs.take k).map nR=((llq rs).take k).map nA:=by
 apply List.ext_getElem?;intro j;simp only[getElem?_map,getElem?_take]
 by_cases hj:j<k
 ·rw [if_pos hj, if_pos hj];have hjl:j < rs.length:=by omega
  have h1:=h j hj;rw[getD_eq_getElem?_getD,getElem?_eq_getElem hjl,Option.getD_some]at h1;rw[getElem?_eq_getElem hjl];simp only[Option.map_some];congr 1;have:=(xd h1 (fun x hx=>hok _ (List.getElem_mem hjl) x hx)).1;rw[<- dA,<- this]
 ·rw[if_neg hj,if_neg hj];rfl
theorem ii.nl{rs:List (List Rt)}{k:Nat}(h:ii rs k):Nl k ((llq rs).getD k []):=by
 rw[sK];exact .inr ⟨k,le_refl _,by rw[length_map,h.1]⟩
theorem Hi{ts:LL}{k r:Nat}(h:∀j,j<k->Nl j (ts.getD j []))(hr:RB r ts):il (ts.take k) k r:=by
 refine⟨fun j hj=>?_,?_⟩
 ·have:=h j hj;simp only[getD_eq_getElem?_getD,getElem?_take,if_pos hj]at this ⊢;exact this
 ·obtain⟨D,N,h0,h1,h2,h3⟩:=hr;exact⟨D,N,h0,fun d hd=>h1 d (mem_of_mem_take hd),h2,h3⟩
structure Tw(ts:LL)(r:Nat):Prop where
  three:ts.length<=3
  len:∀j,j<ts.length->(ts.getD j []).length=2^j
  pos:∀j,j<ts.length->0<=T.sgn (aw ts) j (aw ts j)
  rb:RB r ts
  le:r<=5000000000
theorem Tw.five{ts:LL}{r:Nat}(h:Tw ts r):ts.length<=5:=le_trans h.three oz
theorem Tw.ok{ts:LL}{r:Nat}(h:Tw ts r):il ts ts.length r :=
 ⟨fun j hj=>.inr ⟨j,le_refl _,h.len j hj⟩,h.rb⟩
structure TR(rs:List (List Rt))(r:Nat):Prop where
  ok:∀d∈rs,∀x∈d,x.ok
  len:∀d∈rs,d.length<=281474976710656
  ll:rs.length<=281474976710656
  rb:RB r (llq rs)
  le:r<=5000000000
  three:rs.length<=3\/5<rs.length
theorem cI{rs:List (List Rt)}{r:Nat}(h:TR rs r)(hc:bt rs=0):Tw (llq rs) r/\cq rs=aR (llq rs):=by
 unfold bt at hc;split at hc
 ·cases hc
 ·rename_i h5;have hk:=CI hc;have hl:(llq rs).length = rs.length:=length_map _;refine ⟨⟨by have:=h.three; rw [hl]; omega,fun j hj=>?_,fun j hj=>?_,h.rb,h.le⟩,?_⟩
  ·rw[sK,length_map];exact(hk j oz oz).1
  ·exact(hk j oz oz).2.2
  ·unfold cq aR;have:=yN h.ok (le_refl rs.length) (fun j hj=>(hk j oz oz).2.1);rw[take_length,take_of_length_le oz]at this;rw[this]
theorem oP{m:Nat}{a:List Rat}(h:Nl m a):bZ m (a.map rt)=0:=by
 unfold bZ;rw[if_neg,if_pos]
 ·rw[all_eq_true];intro x hx;obtain⟨q,_,rfl⟩:=List.mem_map.1 hx;exact H5 q
 ·rintro⟨h0,h1⟩;rw[length_map]at h1;rcases h with rfl |⟨j,hj,h⟩
  ·exact h0 rfl
  ·rw[h,pz]at h1;omega
theorem cU(a:List Rat):lq (a.map rt)=a:=by
 unfold lq;rw[map_map];refine(List.map_congr_left (fun q _=>bP q)).trans (List.map_id _)
theorem nD(ts:LL):llq (ts.map (List.map rt))=ts:=by
 unfold llq;rw[map_map];refine(List.map_congr_left (fun a _=>cU a)).trans (List.map_id _)
theorem gO(ts:LL):cq (ts.map (List.map rt))=aR ts:=by
 unfold cq aR;rw[map_map];congr 3;exact List.map_congr_left (fun a _=>dA a)
theorem Tw.chk{ts:LL}{r:Nat}(h:Tw ts r):bt (ts.map (List.map rt))=0:=by
 unfold bt;rw[length_map,if_neg (by have:=h.five;omega)];refine DX (fun j _ hj=>?_)
 have e1:(ts.map (List.map rt)).getD j []=(ts.getD j []).map rt:=by
  simp only[getD_eq_getElem?_getD,getElem?_map];cases ts[j]? <;> rfl
 refine⟨?_,?_,?_⟩
 ·rw[e1,length_map];exact h.len j oz
 ·rw[e1];exact oP (.inr ⟨j,le_refl _,h.len j oz⟩)
 ·rw[nD];exact h.pos j oz
theorem RB.qs{r:Nat}{ts:LL}(h:RB r ts)(hr:r<=5000000000):∀d∈ts,∀q∈d,Qs q:=by
 obtain⟨D,N,h0,h1,h2,h3⟩:=h;intro d hd q hq;exact Cb.qs ⟨D,N,h1 d hd,h2,h3⟩ oz hq
theorem Tw.tr{ts:LL}{r:Nat}(h:Tw ts r):TR (ts.map (List.map rt)) r:=by
 refine⟨?_,?_,by rw[length_map];have:=h.five;omega,by rw[nD];exact h.rb,h.le,by rw[length_map];exact .inl h.three⟩
 ·intro d hd x hx;obtain⟨a,ha,rfl⟩:=List.mem_map.1 hd;obtain⟨q,hq,rfl⟩:=List.mem_map.1 hx;exact(h.rb.qs h.le a ha q hq).ok
 ·intro d hd;obtain⟨a,ha,rfl⟩:=List.mem_map.1 hd;obtain⟨j,hj,rfl⟩:=List.mem_iff_getElem.1 ha;have:=h.len j hj;rw[getD_eq_getElem?_getD,getElem?_eq_getElem hj,Option.getD_some]at this;rw[length_map,this];have:=h.five;have:2^j<=2^5:=bY oz;omega
theorem qM:∀{l:List Nat},fK l=0->∀e∈l,e=0
 |[],_,e,he=>by cases he
 |x::l,h,e,he=>by
  have h':(if x≠0 then x else fK l)=0:=h;split at h'
  ·rename_i hx;exact absurd h' hx
  ·rename_i hx;rcases List.mem_cons.1 he with rfl |he
   ·exact Decidable.not_not.1 hx
   ·exact qM h' e he
theorem qX:∀{l:List Nat},(∀e∈l,e=0)->fK l=0
 |[],_=>rfl
 |x::l,h=>by
  show(if x≠0 then x else fK l)=0;rw[if_neg (by rw[h x (by simp)];simp)];exact qX (fun e he=>h e (by simp[he]))
theorem vG:∀(l l':List Nat),fK l=0->fK (l++l')=fK l'
 |[],l',_=>rfl
 |x::l,l',h=>by
  have h0:=qM h x (by simp);show(if x≠0 then x else fK (l++l'))=_;rw[if_neg (by rw[h0];simp)];exact vG l l' (qX (fun e he=>qM h e (by simp[he])))
theorem jm{rs xs:List (List Rt)}(h:bi rs xs=0):bt rs=0/\∀a∈xs,bZ rs.length a=0:=by
 unfold bi at h;split at h
 ·rename_i h1;exact absurd h h1
 ·rename_i h1;exact⟨Decidable.not_not.1 h1,fun a ha=>qM h _ (List.mem_map.2 ⟨a,ha,rfl⟩)⟩
theorem nU{rs xs:List (List Rt)}(h1:bt rs=0)(h2:∀a∈xs,bZ rs.length a=0):bi rs xs=0:=by
 unfold bi;rw[if_neg (by rw[h1];simp)];refine qX (fun e he=>?_);obtain⟨a,ha,rfl⟩:=List.mem_map.1 he;exact h2 a ha
structure NR(a:List Rt)(e:Nat):Prop where
  ok:∀x∈a,x.ok
  len:a.length<=281474976710656
  cb:Cb e (lq a)
theorem NR.num{a:List Rt}{e m:Nat}(h:NR a e)(hn:bZ m a=0):nR a=nA (lq a)/\Nl m (lq a):=by
 obtain⟨h1,h2⟩:=xd hn h.ok;refine⟨?_,h2⟩;rw[<- dA,<- h1]
theorem nk{r j n e:Nat}(hj:j<=n)(h3:n<=3)(hr:r<=5000000000)(he:e<=lm n):sB r j e<4398046511104:=by
 unfold lm at he;split at he
 ·have:=Ka r e (j:=j) oz;omega
 ·have:=P4 r e (j:=j) oz;omega
theorem sW{rs:List (List Rt)}(h5:rs.length<=5):∀{k:Nat},k<=rs.length->(∀j,j<k->ii rs j)->bt rs=mO rs (rs.length-k) k
 |0,_,_=>by unfold bt;rw[if_neg oz];rfl
 |k+1,hk,h=>by
  rw[sW h5 (k:=k) oz (fun j hj=>h j oz),show rs.length-k=(rs.length-(k+1))+1 by omega,EP (h k oz)]
theorem EN{rs:List (List Rt)}(h5:rs.length<=5)(h:∀j,j<rs.length->ii rs j):bt rs=0:=by
 rw[sW h5 (le_refl _) h,Nat.sub_self];rfl
theorem Fv{rs:List (List Rt)}(h5:rs.length<=5){k:Nat}{d:List Rt}(hd:rs[k]?=some d)(h:∀j,j<k->ii rs j)(hl:d.length≠2^k):bt rs=10:=by
 have hk:=(List.getElem?_eq_some_iff.1 hd).1;have e:rs.getD k []=d:=by rw[getD_eq_getElem?_getD,hd];rfl
 rw[sW h5 (k:=k) oz h,show rs.length-k=(rs.length-(k+1))+1 by omega];show(if _ then _ else _)=_;rw[e,if_pos hl]
theorem GS{rs:List (List Rt)}(h5:rs.length<=5){k:Nat}{d:List Rt}(hd:rs[k]?=some d)(h:∀j,j<k->ii rs j)(hl:d.length=2^k)(hn:bZ k d≠0):bt rs=bZ k d:=by
 have hk:=(List.getElem?_eq_some_iff.1 hd).1;have e:rs.getD k []=d:=by rw[getD_eq_getElem?_getD,hd];rfl
 rw[sW h5 (k:=k) oz h,show rs.length-k=(rs.length-(k+1))+1 by omega];show(if _ then _ else _)=_;rw[e,if_neg (by rw[hl];simp),if_pos hn]
theorem DQ{rs:List (List Rt)}{k:Nat}{d:List Rt}(hd:rs[k]?=some d):aw (llq rs) k=ae k (lq d):=by
 unfold aw;rw[sK,getD_eq_getElem?_getD,hd];rfl
theorem FK{rs:List (List Rt)}(h5:rs.length<=5){k:Nat}{d:List Rt}(hd:rs[k]?=some d)(h:∀j,j<k->ii rs j)(hl:d.length=2^k)(hn:bZ k d=0)
  (hs:T.sgn (aw (llq rs)) k (ae k (lq d))<0):bt rs=3:=by
 have hk:=(List.getElem?_eq_some_iff.1 hd).1;have e:rs.getD k []=d:=by rw[getD_eq_getElem?_getD,hd];rfl
 rw[sW h5 (k:=k) oz h,show rs.length-k=(rs.length-(k+1))+1 by omega];show(if _ then _ else _)=_;rw[e,if_neg (by rw[hl];simp),if_neg (by rw[hn];simp),DQ hd,if_pos hs]
theorem Gv{rs:List (List Rt)}{k:Nat}{d:List Rt}(hd:rs[k]?=some d)(hl:d.length=2^k)(hn:bZ k d=0)
  (hs:¬T.sgn (aw (llq rs)) k (ae k (lq d))<0):ii rs k:=by
 have e:rs.getD k []=d:=by rw[getD_eq_getElem?_getD,hd];rfl
 exact⟨by rw[e];exact hl,by rw[e];exact hn,by rw[DQ hd];omega⟩
theorem JB{rs:List (List Rt)}(hok:∀d∈rs,∀x∈d,x.ok){k:Nat}(hk:k<=rs.length)(h:∀j,j<k->ii rs j):cq (rs.take k)=aR ((llq rs).take k):=by
 unfold cq aR;rw[yN hok hk (fun j hj=>(h j hj).2.1)]
theorem J8{α:Type}(f:α->AV)(l:List α)(n:Nat):AV.lst 1 (((l.map f).drop 0).take (n-0))=.lst 1 ((l.take n).map f):=by
 rw[Nat.sub_zero,drop_zero,map_take]
theorem F4{rs:List (List Rt)}(h:5<rs.length):bt rs=4:=by unfold bt;rw[if_pos h]
theorem yQ{rs xs:List (List Rt)}(h:bt rs≠0):bi rs xs=bt rs:=by unfold bi;rw[if_pos h]
theorem xg{rs xs:List (List Rt)}{i:Nat}{a:List Rt}(h:bt rs=0)(ha:xs[i]?=some a)(hb:∀x∈xs.take i,bZ rs.length x=0)(hn:bZ rs.length a≠0):bi rs xs=bZ rs.length a:=by
 unfold bi;rw[if_neg (by rw[h];simp)];have e:xs=xs.take i++xs.drop i:=(List.take_append_drop i xs).symm;have hi:=(List.getElem?_eq_some_iff.1 ha).1;rw[e,map_append,vG _ _ (qX (fun e he=>by obtain⟨x,hx,rfl⟩:=List.mem_map.1 he;exact hb x hx)),List.drop_eq_getElem_cons hi];have ha':xs[i]=a:=by rw[getElem?_eq_getElem hi]at ha;exact Option.some.inj ha
 rw[ha'];show(if _ then _ else _)=_;rw[if_pos hn]
theorem oO{n:Nat}{a:List Rat}(h:Nl n a):Nl n (cF a):=by
 rcases h with rfl |⟨j,hj,h⟩
 ·exact .inl rfl
 ·exact .inr ⟨j,hj,by rw[iJ,h]⟩
theorem mV{n:Nat}{a b:List Rat}(h:Nl n a)(h':Nl n b):Nl n (cf a b):=by
 rcases h with rfl |⟨j,hj,h⟩ <;> rcases h' with rfl |⟨i,hi,h'⟩
 ·exact .inl (List.eq_nil_of_length_eq_zero (by rw[d7];rfl))
 ·exact .inr ⟨i,hi,by rw[d7,h'];simp⟩
 ·exact .inr ⟨j,hj,by rw[d7,h];simp⟩
 ·refine .inr ⟨max j i, by omega, ?_⟩;rw [d7,h,h'];rcases Nat.le_total j i with g | g
  ·rw[Nat.max_eq_right g,Nat.max_eq_right (bY g)]
  ·rw[Nat.max_eq_left g,Nat.max_eq_left (bY g)]
theorem m8{a b:List Rt}{e f:Nat}(ha:NR a e)(hb:NR b f):∀x∈[a,b],(∀y∈x,y.ok)/\x.length<=281474976710656:=by
 intro x hx;simp only[mem_cons,not_mem_nil,or_false]at hx;rcases hx with rfl |rfl
 ·exact⟨ha.ok,ha.len⟩
 ·exact⟨hb.ok,hb.len⟩
theorem lJ{rs:List (List Rt)}(h:cq rs=aR (llq rs)):AV.lst 1 (rs.map nR)=.lst 1 ((llq rs).map nA):=by
 unfold cq aR at h
 injection h with h
 injection h
theorem vD{x:Rt}:x.q+(rt 0).q=x.q:=by rw[bP,Rat.add_zero]
def rT(ts:LL):Nat->List Rat->List Rat->List Rat
  |k,a,b =>
    if(br 5 a).length=0\/(br 5 b).length=0 then[]
    else if max (br 5 a).length (br 5 b).length=1 then[(br 5 a).getD 0 0*(br 5 b).getD 0 0]
    else match k with
      |0=>[]
      |k+1 =>
        let n:=max (br 5 a).length (br 5 b).length
        let X:=aY (br 5 a) n
        let Y:=aY (br 5 b) n
        eT (cf (rT ts k (X.take (n/2)) (Y.take (n/2))) (rT ts k (rT ts k (X.drop (n/2)) (Y.drop (n/2))) (ts.getD (n.log2-1) [])))
          (cf (rT ts k (X.take (n/2)) (Y.drop (n/2))) (rT ts k (X.drop (n/2)) (Y.take (n/2)))) (n/2)
theorem DR{ts:LL}{k:Nat}{a b:List Rat}(h:(br 5 a).length=0\/(br 5 b).length=0):rT ts k a b=[]:=by
 unfold rT;rw[if_pos h]
theorem Ej{ts:LL}{k:Nat}{a b:List Rat}(h:¬((br 5 a).length=0\/(br 5 b).length=0))(h1:max (br 5 a).length (br 5 b).length=1) :
  rT ts k a b=[(br 5 a).getD 0 0*(br 5 b).getD 0 0]:=by
 unfold rT;rw[if_neg h,if_pos h1]
theorem H8{ts:LL}{k n i:Nat}{a b:List Rat}(hn:n=2^i)(h:¬((br 5 a).length=0\/(br 5 b).length=0))(h1:max (br 5 a).length (br 5 b).length=2^(i+1)) :
  rT ts (k+1) a b=eT (cf (rT ts k ((aY (br 5 a) (2^(i+1))).take n) ((aY (br 5 b) (2^(i+1))).take n))
    (rT ts k (rT ts k ((aY (br 5 a) (2^(i+1))).drop n) ((aY (br 5 b) (2^(i+1))).drop n)) (ts.getD i [])))
   (cf (rT ts k ((aY (br 5 a) (2^(i+1))).take n) ((aY (br 5 b) (2^(i+1))).drop n)) (rT ts k ((aY (br 5 a) (2^(i+1))).drop n) ((aY (br 5 b) (2^(i+1))).take n))) n:=by
 have h2:=Nat.two_pow_pos i
 conv=>lhs;unfold rT
 rw[if_neg h,if_neg (by rw[h1,Nat.pow_succ];omega)];simp only[h1,fq,yj];rw[<- hn]
structure PrOk(ts:LL)(D N j:Nat)(a b c:List Rat):Prop where
  nl:Nl j c
  eq:ae j c=T.mul (aw ts) j (ae j a) (ae j b)
  cd:∀Da Na Db Nb:Nat,Cd Da Na a->Cd Db Nb b->Cd (Da*Db*rR D j) (Na*Nb*rM D N j) c
theorem PrOk.up{ts:LL}{D N j:Nat}{a b c:List Rat}(hD:0<D)(ha:a.length<=2^j)(hb:b.length<=2^j)(h:PrOk ts D N j a b c):PrOk ts D N (j+1) a b c:=by
 refine⟨h.nl.mono oz,?_,fun Da Na Db Nb ca cb=>?_⟩
 ·rw[fW ha,fW hb,fW h.nl.le,T.mul_low,h.eq]
 ·have h1:=(h.cd _ _ _ _ ca cb).scale (Nat.mul_pos (ip hD j) hD);have e1:Da * Db * rR D j * (rR D j * D) = Da * Db * rR D (j + 1):=by simp only [rR]; grind
  rw[e1]at h1;refine h1.mono ?_;have h2:=mul_le_mul_left (rM D N j) (Nat.mul_le_mul (kH D N j) (Nat.le_add_right D N));have h3:rM D N j*(rR D j*D)<=rM D N (j+1):=by simp only[rM,Nat.mul_assoc]at *;omega
  rw[Nat.mul_assoc (Na*Nb)];exact mul_le_mul_left _ h3
theorem PrOk.ups{ts:LL}{D N i j:Nat}{a b c:List Rat}(hD:0<D)(ha:a.length<=2^i)(hb:b.length<=2^i)(h:PrOk ts D N i a b c)(hij:i<=j):PrOk ts D N j a b c:=by
  induction j with
  | zero => have : i = 0 := by omega
            subst this;exact h
  |succ j ih =>
    by_cases h':i=j+1
    · subst h';exact h
    · exact(ih oz).up hD (le_trans ha (bY oz)) (le_trans hb (bY oz))
theorem PrOk.of{ts:LL}{D N j:Nat}{a b a' b' c:List Rat}(h:PrOk ts D N j a b c)(ea:ae j a=ae j a')(eb:ae j b=ae j b')
  (ca:∀D N,Cd D N a'->Cd D N a) (cb:∀D N,Cd D N b'->Cd D N b):PrOk ts D N j a' b' c :=
 ⟨h.nl,by rw[h.eq,ea,eb],fun Da Na Db Nb h1 h2=>h.cd _ _ _ _ (ca _ _ h1) (cb _ _ h2)⟩
theorem PrOk.full{ts:LL}{D N j:Nat}{a b c1 c2 c3 c4 c5:List Rat}(hD:0<D)(hr:Cd D N (ts.getD j []))(ha:a.length=2^(j+1))(hb:b.length=2^(j+1))
  (h1:PrOk ts D N j (a.take (2^j)) (b.take (2^j)) c1) (h2:PrOk ts D N j (a.drop (2^j)) (b.drop (2^j)) c2) (h3:PrOk ts D N j c2 (ts.getD j []) c3)
  (h4:PrOk ts D N j (a.take (2^j)) (b.drop (2^j)) c4) (h5:PrOk ts D N j (a.drop (2^j)) (b.take (2^j)) c5):PrOk ts D N (j+1) a b (eT (cf c1 c3) (cf c4 c5) (2^j)):=by
 have l1:=h1.nl.le;have l3:=h3.nl.le;have l4:=h4.nl.le;have l5:=h5.nl.le;refine⟨.inr ⟨j+1,le_refl _,by rw[ox (by rw[d7];omega) (by rw[d7];omega),Nat.pow_succ];omega⟩,?_,fun Da Na Db Nb ca cb=>?_⟩
 ·rw[wb (by rw[d7];omega),io,io,h1.eq,h3.eq,h4.eq,h5.eq,h2.eq];rfl
 ·have ca1:Cd Da Na (a.take (2 ^ j)):=ca.sub (fun q hq=>mem_of_mem_take hq);have ca2:Cd Da Na (a.drop (2 ^ j)):=ca.sub (fun q hq=>List.mem_of_mem_drop hq);have cb1:Cd Db Nb (b.take (2 ^ j)):=cb.sub (fun q hq=>mem_of_mem_take hq);have cb2:Cd Db Nb (b.drop (2 ^ j)):=cb.sub (fun q hq=>List.mem_of_mem_drop hq);have k2:=h2.cd _ _ _ _ ca2 cb2;have k3:=h3.cd _ _ _ _ k2 hr;have k1:=(h1.cd _ _ _ _ ca1 cb1).scale (Nat.mul_pos (ip hD j) hD);have k4:=(h4.cd _ _ _ _ ca1 cb2).scale (Nat.mul_pos (ip hD j) hD);have k5:=(h5.cd _ _ _ _ ca2 cb1).scale (Nat.mul_pos (ip hD j) hD);have e1:Da * Db * rR D j * (rR D j * D) = Da * Db * rR D (j + 1):=by simp only [rR]; grind
  have e3:Da*Db*rR D j*D*rR D j=Da*Db*rR D (j+1):=by simp only[rR];grind
  rw[e1]at k1 k4 k5;rw[e3]at k3;have b1:rM D N j*(rR D j*D)<=rM D N j*rM D N j*D:=by rw[Nat.mul_assoc];exact mul_le_mul_left _ (mul_le_mul_right _ (kH D N j))
  have b2:∀x,Na*Nb*rM D N j*(rR D j*D)+Na*Nb*x<=Na*Nb*(rM D N j*rM D N j*D+x):=by
   intro x;rw[Nat.mul_add,Nat.mul_assoc (Na*Nb)];exact Nat.add_le_add_right (mul_le_mul_left _ b1) _
  refine Cd.join (Cd.mono (k1.plus k3) ?_) (Cd.mono (k4.plus k5) ?_)
  ·have e4 : Na * Nb * rM D N j * N * rM D N j = Na * Nb * (rM D N j * rM D N j * N) := by grind
   rw[e4];refine le_trans (b2 _) (mul_le_mul_left _ ?_);simp only[rM];rw[<- Nat.mul_add];omega
  ·have e4 : Na * Nb * rM D N j * (rR D j * D) <= Na * Nb * (rM D N j * rM D N j * D) := by rw [Nat.mul_assoc (Na * Nb)]; exact mul_le_mul_left _ b1
   refine le_trans (Nat.add_le_add e4 e4) ?_;rw[<- Nat.mul_add];refine mul_le_mul_left _ ?_;simp only[rM];have:=mul_le_mul_left (rM D N j*rM D N j) (Nat.le_add_right D N);omega
theorem Cd.short{D N k:Nat}{a:List Rat}(h:Cd D N a):Cd D N (br k a):=h.sub (fun q hq=>uv k hq)
theorem uB{j:Nat}{a:List Rat}(h:Nl j a)(hj:j<=5):Nl j (br 5 a)/\ae j (br 5 a)=ae j a:=by
 rw[tz h hj];exact⟨di j _,bc j _⟩
theorem Id{j:Nat}{x y:List Rat}(hx:Nl j x)(hy:Nl j y)(h:¬(x.length=0\/y.length=0)):max x.length y.length=1\/∃i,i+1<=j/\max x.length y.length=2^(i+1):=by
 rcases oq hx with h1 |h1 |⟨i1,hi1,h1⟩
 ·exact absurd (.inl h1) h
 ·rcases oq hy with h2 |h2 |⟨i2,hi2,h2⟩
  ·exact absurd (.inr h2) h
  ·exact .inl oz
  ·exact .inr ⟨i2,hi2,by have:=Nat.two_pow_pos (i2+1);omega⟩
 ·rcases oq hy with h2 |h2 |⟨i2,hi2,h2⟩
  ·exact absurd (.inr h2) h
  ·exact .inr ⟨i1,hi1,by have:=Nat.two_pow_pos (i1+1);omega⟩
  ·rcases Nat.le_total i1 i2 with g |g
   ·exact .inr ⟨i2,hi2,by have:=bY (show i1+1<=i2+1 by omega);omega⟩
   ·exact .inr ⟨i1,hi1,by have:=bY (show i2+1<=i1+1 by omega);omega⟩
theorem MK(ts:LL)(m D N:Nat)(hm:m<=5)(hts:∀j,j<m->Nl j (ts.getD j [])/\Cd D N (ts.getD j []))(hD:0<D) :
  ∀(k j:Nat)(a b:List Rat),j<=m->j<=k->Nl j a->Nl j b->PrOk ts D N j a b (rT ts k a b):=by
 intro k
 induction k using Nat.strongRecOn with
 |_ k ih =>
  intro j a b hj hjk ha hb;obtain⟨nx,dx⟩:=uB ha oz;obtain⟨ny,dy⟩:=uB hb oz
  by_cases h0:(br 5 a).length=0\/(br 5 b).length=0
  ·rw[DR h0];refine⟨.inl rfl,?_,fun Da Na Db Nb ca cb=>Cd.nil (Nat.mul_pos (Nat.mul_pos ca.1 cb.1) (ip hD j))⟩;rw[gQ];rcases h0 with h |h
   ·rw[<- dx,List.length_eq_zero_iff.1 h,gQ,T.zero_mul]
   ·rw[<- dy,List.length_eq_zero_iff.1 h,gQ,T.mul_zero]
  rcases Id nx ny h0 with h1 |⟨i,hi,h1⟩
  ·rw[Ej h0 h1];obtain⟨p,hp⟩:∃p,br 5 a=[p]:=List.length_eq_one_iff.1 oz;obtain⟨q,hq⟩:∃q,br 5 b=[q]:=List.length_eq_one_iff.1 oz
   have base:PrOk ts D N 0 [p] [q] [p*q]:=by
    refine⟨.inr ⟨0,zero_le _,rfl⟩,rfl,fun Da Na Db Nb ca cb=>?_⟩;have h1:=(ca.mul1 cb).scale (ip hD 0);exact h1.mono (mul_le_mul_left _ (kH D N 0))
   have h2:=base.ups hD (by simp) (by simp) (zero_le j);rw[hp,hq];refine h2.of (by rw[<- hp];exact dx) (by rw[<- hq];exact dy) (fun D N h=>?_) (fun D N h=>?_)
   ·rw[<- hp];exact h.short
   ·rw[<- hq];exact h.short
  ·obtain ⟨k', rfl⟩ : ∃ k', k = k' + 1 := ⟨k - 1, by omega⟩
   rw[H8 rfl h0 h1];have lx:(aY (br 5 a) (2^(i+1))).length=2^(i+1):=dG oz;have ly:(aY (br 5 b) (2^(i+1))).length=2^(i+1):=dG oz;have n1:Nl i ((aY (br 5 a) (2^(i+1))).take (2^i)):=.inr ⟨i,le_refl _,fL lx⟩;have n2:Nl i ((aY (br 5 a) (2^(i+1))).drop (2^i)):=.inr ⟨i,le_refl _,fR lx⟩;have n3:Nl i ((aY (br 5 b) (2^(i+1))).take (2^i)):=.inr ⟨i,le_refl _,fL ly⟩;have n4:Nl i ((aY (br 5 b) (2^(i+1))).drop (2^i)):=.inr ⟨i,le_refl _,fR ly⟩;have g2:=ih k' oz i _ _ oz oz n2 n4
   have hfull:=PrOk.full hD (hts i oz).2 lx ly (ih k' oz i _ _ oz oz n1 n3) g2 (ih k' oz i _ _ oz oz g2.nl (hts i oz).1)
    (ih k' oz i _ _ oz oz n1 n4) (ih k' oz i _ _ oz oz n2 n3)
   have h2:=hfull.ups hD oz oz hi;exact h2.of (by rw[no];exact dx) (by rw[no];exact dy) (fun D N h=>h.short.wide) (fun D N h=>h.short.wide)
theorem ke{ts:LL}{m r:Nat}(hm:m<=5)(ht:il ts m r){k j e f:Nat}{a b:List Rat}(hj:j<=m)(hk:j<=k)(ha:Nl j a)(hb:Nl j b)(ca:Cb e a)(cb:Cb f b) :
  Nl j (rT ts k a b)/\ae j (rT ts k a b)=T.mul (aw ts) j (ae j a) (ae j b)/\Cb (e+f+eB r j) (rT ts k a b):=by
 obtain⟨D,N,h0,h1,h2,h3⟩:=ht.2.get;obtain⟨Da,Na,a1,a2,a3⟩:=ca;obtain⟨Db,Nb,b1,b2,b3⟩:=cb;have h:=MK ts m D N hm (fun j hj=>⟨ht.1 j hj,h1 j⟩) h0 k j a b hj hk ha hb;refine⟨h.nl,h.eq,_,_,h.cd _ _ _ _ a1 b1,?_,?_⟩
 ·rw[pow_add,pow_add];exact Nat.mul_le_mul (Nat.mul_le_mul a2 b2) (le_trans (kH D N j) (tZ h2 h3 j))
 ·rw[pow_add,pow_add];exact Nat.mul_le_mul (Nat.mul_le_mul a3 b3) (tZ h2 h3 j)
def nZ(ts:LL)(i:Nat)(a:List Rat):List Rat :=
  cf (rT ts i (a.take (2^i)) (a.take (2^i))) (cF (rT ts i (rT ts i (a.drop (2^i)) (a.drop (2^i))) (ts.getD i [])))
theorem NT{ts:LL}{m r:Nat}(hm:m<=5)(ht:il ts m r){i e:Nat}{a:List Rat}(hi:i+1<=m)(ha:a.length=2^(i+1))(ca:Cb e a) :
  Nl i (nZ ts i a)/\ae i (nZ ts i a)=T.norm (aw ts) i (ae (i+1) a)/\Cb (4*e+3*eB r i+r+1) (nZ ts i a):=by
 have n1:Nl i (a.take (2^i)):=.inr ⟨i,le_refl _,fL ha⟩;have n2:Nl i (a.drop (2^i)):=.inr ⟨i,le_refl _,fR ha⟩;have s1:=ke hm ht (k:=i) (show i<=m by omega) oz n1 n1 ca.take ca.take;have s2:=ke hm ht (k:=i) (show i<=m by omega) oz n2 n2 ca.drop ca.drop;have s3:=ke hm ht (k:=i) (show i<=m by omega) oz s2.1 (ht.1 i oz) s2.2.2 (ht.2.cb i);refine⟨mV s1.1 (oO s3.1),?_,?_⟩
 ·unfold nZ T.norm;rw[io,l0,s1.2.1,s3.2.1,s2.2.1];rfl
 ·exact(s1.2.2.plus s3.2.2.minus).mono oz
theorem OO{sx sy sd sn:Int}(hd:sd=0\/sd=1):T.sgn3 sx sy sd sn=if sx=sy*sd\/sy*sd=0 then sx else if sx=0 then sy*sd else sx*sn:=by
 unfold T.sgn3;rcases hd with rfl |rfl
 ·rw[if_pos rfl,if_pos (by simp)]
 ·rw[if_neg (by decide),Int.mul_one]
def kv(n:Nat):Nat:=if 0<=cH n/\cH n<=5 then(cH n).toNat else 0
def kC(n:Nat):Bool:=decide (0<=cH n/\cH n<=5)
theorem l2{k:Nat}(h:k<=5):kv (2^k)=k/\kC (2^k)=true:=by
 unfold kv kC;rw[pz,if_pos oz];exact⟨by omega,by rw[decide_eq_true_eq];omega⟩
theorem GM{n:Nat}(h:∀k,k<6->n≠2^k):kv n=0/\kC n=false:=by
 have h1:¬(0<=cH n/\cH n<=5):=by
  intro h1;obtain⟨j,e1,e2⟩:=Is h1.1;exact h j oz e1
 unfold kv kC;rw[if_neg h1];exact⟨rfl,decide_eq_false h1⟩
theorem Fu{m:Nat}(hm:m<=5)(a:List Rt):(a≠[]/\(cH a.length<0\/(m:Int)<cH a.length))↔(a.length≠0/\(kC a.length=false\/m<kv a.length)):=by
 have h0:a≠[]↔a.length≠0:=by
  rw[ne_eq,ne_eq,List.length_eq_zero_iff]
 rw[h0]
 have h1:(cH a.length<0\/(m:Int)<cH a.length)↔(kC a.length=false\/m<kv a.length):=by
  unfold kC kv;rw[decide_eq_false_iff_not];generalize cH a.length=z
  by_cases h:0<=z/\z<=5
  ·rw[if_pos h];constructor
   ·rintro(h' |h')
    ·omega
    ·exact .inr oz
   ·rintro(h' |h')
    ·exact absurd h h'
    ·exact .inr oz
  ·rw[if_neg h];constructor
   ·intro _;exact .inl h
   ·intro _;omega
 rw[h1]
theorem Ra{l m k:Nat}{b:Bool}(h:cond (ac .neq (l:Int) 0) (cond (!b) true (ac .gtr (k:Int) (m:Int))) false=true):l≠0/\(b=false\/m<k):=by
 cases h1:ac .neq (l:Int) 0
 ·rw[h1]at h;cases h
 ·rw [h1] at h;refine ⟨by simpa [ac] using h1,?_⟩;cases b
  ·exact .inl rfl
  ·exact .inr (by simpa[ac]using h)
theorem I7{l m k:Nat}{b:Bool}(h:cond (ac .neq (l:Int) 0) (cond (!b) true (ac .gtr (k:Int) (m:Int))) false=false):¬(l≠0/\(b=false\/m<k)):=by
 rintro⟨h1,h2⟩;have e1:ac .neq (l:Int) 0=true:=by simpa[ac]using h1
 rw[e1]at h;rcases h2 with rfl |h2
 ·cases h
 ·have e2 : ac .gtr (k : Int) (m : Int) = true := by simpa [ac] using h2
  rw[e2]at h;cases b <;> cases h
theorem I9(a:List Rat)(i:Nat)(h:a.length<=i) :
  BlkSub (.row 3 ((aY a i).map qA++[.agg [.v (.bool false),.v (.slice none 0 0),.v (.slice none 0 0)]])) (.row 3 ((aY a (i+1)).map qA)):=by
 have e:aY a (i+1)=aY a i++[0]:=by
  unfold aY;rw[show i+1-a.length=(i-a.length)+1 by omega,List.replicate_succ',append_assoc]
 rw[e,map_append];refine .row (by simp) ?_;intro j x y hx hy
 by_cases hj:j<((aY a i).map qA).length
 ·rw[getElem?_append_left hj]at hx hy;rw[hx]at hy;cases hy
  simp only[getElem?_map,map_eq_some_iff]at hx;obtain⟨q,_,rfl⟩:=hx;exact jG.refl (yf q)
 ·rw[getElem?_append_right oz]at hx hy;cases hk:j-((aY a i).map qA).length with
  |zero=>rw[hk]at hx hy;cases hx;cases hy;exact qZ
  |succ n=>rw[hk]at hx;simp at hx
theorem uQ(n:Nat):ac .neq (n:Int) 0=ac .gtr (n:Int) 0:=by
 show(((n:Int) != 0):Bool)=decide ((n:Int)>0);cases n with
 |zero=>rfl
 |succ n =>
  have h1:((((n+1:Nat):Int) != 0):Bool)=true:=by rw[bne_iff_ne];omega
  rw[h1];exact(decide_eq_true oz).symm
theorem Ku{q:Rat}(h:cond (cond (rt q).neg true (ac .neq ((rt q).num.length:Int) 0)) true (ac .neq ((rt q).den.length:Int) 0)=true):q≠0:=by
 rw[uQ,uQ]at h;exact Fh h
theorem Sw{q:Rat}(h:cond (cond (rt q).neg true (ac .neq ((rt q).num.length:Int) 0)) true (ac .neq ((rt q).den.length:Int) 0)=false):q=0:=by
 rw[uQ,uQ]at h;exact ED h
theorem hP{e:Nat}(h:ac .neq (e:Int) 0=true):e≠0:=by
 have:(e:Int)≠0:=by simpa[ac]using h
 omega
theorem gf{e:Nat}(h:ac .neq (e:Int) 0=false):e=0:=by
 have:(e:Int)=0:=by simpa[ac]using h
 omega
theorem Qx{rs:List (List Rt)}(hok:∀d∈rs,∀x∈d,x.ok){k j:Nat}(hk:k<=rs.length)(h:∀j,j<k->ii rs j)(hj:j<k):(rs.map nR)[j]?=some (nA (((llq rs).take k).getD j [])):=by
 have h1:=yN hok hk (fun j hj=>(h j hj).2.1);have h2:((rs.take k).map nR)[j]?=(((llq rs).take k).map nA)[j]?:=by rw[h1]
 simp only[getElem?_map,getElem?_take,if_pos hj]at h2 ⊢;rw[h2];have hl:j<(llq rs).length:=by rw[length_map];omega
 simp only[getD_eq_getElem?_getD,getElem?_take,if_pos hj];rw[<- getElem?_map,getElem?_eq_getElem hl];rfl
structure Tn where
  t:Rt
  half:Bool
namespace Tn
def av(x:Tn):AV:=.agg [bl x.t.neg,ws x.t.num,ws x.t.den,bl x.half]
def err(x:Tn):Nat:=if x.t.valid=true/\(x.half=true->x.t.q=0)then 0 else 2
end Tn
def dM(half:Bool)(t:Rat):Rat:=if half then -1 else(1-t*t)/(1+t*t)
def dP(half:Bool)(t:Rat):Rat:=if half then 0 else(t+t)/(1+t*t)
theorem Tn.err_yes{x:Tn}(h:cond (!x.t.valid) true (cond x.half (ac .neq (bN x.t.q) 0) false)=true):x.err=2:=by
 unfold Tn.err;rw[if_neg];rintro⟨h1,h2⟩;rw[h1]at h;cases hh:x.half
 ·rw[hh]at h;cases h
 ·rw[hh,h2 hh]at h;cases h
theorem Tn.err_no{x:Tn}(h:cond (!x.t.valid) true (cond x.half (ac .neq (bN x.t.q) 0) false)=false):x.err=0:=by
 unfold Tn.err;rw[if_pos];cases hv:x.t.valid
 ·rw[hv]at h;cases h
 ·rw [hv] at h;refine ⟨rfl,fun hh=>?_⟩;rw [hh] at h;have:bN x.t.q = 0:=by simpa [ac] using h
  exact lY this
theorem Tn.ok_valid{x:Tn}(h:x.err=0):x.t.valid=true:=by
 unfold Tn.err at h;split at h
 ·rename_i h1;exact h1.1
 ·cases h
theorem R5(p:Rat):p/0=0:=by rw[Rat.div_def,Rat.inv_zero,Rat.mul_zero]
structure Plc where
  x:Rt
  y:Rt
def Plc.av(p:Plc):AV:=.agg [bl p.x.neg,ws p.x.num,ws p.x.den,bl p.y.neg,ws p.y.num,ws p.y.den]
structure Pse where
  turn:Tn
  at_:Plc
def Pse.av(p:Pse):AV:=.agg [bl p.turn.t.neg,ws p.turn.t.num,ws p.turn.t.den,bl p.turn.half,bl p.at_.x.neg,ws p.at_.x.num,ws p.at_.x.den,bl p.at_.y.neg,ws p.at_.y.num,ws p.at_.y.den]
def Pse.ok(p:Pse):Bool:=decide (p.turn.err=0)&&p.at_.x.valid&&p.at_.y.valid
theorem FB(q:Rat):ac .eql (bN q) 0=decide (q=0):=by
 by_cases h:q=0
 ·subst h;rfl
 ·rw[decide_eq_false h];have:bN q≠0:=fun h'=>h (lY h')
  simpa[ac]using this
theorem gX(a b:Bool):cond a b false=(a&&b):=by cases a <;> rfl
theorem Tn.err_dec(x:Tn):cond x.t.valid (cond (!x.half) true (decide (x.t.q=0))) false=decide (x.err=0):=by
 unfold Tn.err;cases x.t.valid <;> cases x.half <;> simp
theorem yv{x:Blk}(hx:x.nm=[]){k:Nat}(h:x.Names k):False:=by
 have:=h.mem;rw[hx]at this;cases this
theorem uX{ext:Nat->Prop}{k d:Nat}{x:Blk}{m m2:Nat->Option Nat}{w:World}(hx:x.nm=[])(h:m2 d=m k)(hr:HeapRel ext [(k,some x)] m w):HeapRel ext [(d,some x)] m2 w:=by
 refine⟨?_,?_,?_⟩
 ·intro k' z hz;obtain⟨rfl,h9⟩:=fw hz;cases h9;have h1:=hr.blk k _ (by rw[aU,if_pos rfl]);rw[j5 h (y:=x) (x:=x)];exact BlkRep.mono (w:=w) (fun _ _ h=>h) (fun _ _ h=>h) (fun _ _ hn=>(yv hx hn).elim) h (fun _ _=>rfl) h1
 ·intro k1 k2 z z' b h1 h2 _ _;rw[(fw h1).1,(fw h2).1]
 ·intro k' z b hz hb;obtain⟨rfl,h9⟩:=fw hz;cases h9;exact hr.sep k _ b (by rw[aU,if_pos rfl]) (h▸hb)
theorem Con.rB{P:Program}{f:FuncId}{k off:Nat}{x x':Blk}{xs:List AV}{r:AV}(d:Nat)(hx:x.nm=[])(hx':x'.nm=[])(hxs:(xs.all fun x=>x.nm.isEmpty)=true)(hr:r.nm=[])
  (h:Con P f (.ptr k off::xs) [(k,some x)] r [(k,some x')]):Con P f (.ptr d off::xs) [(d,some x)] r [(d,some x')]:=by
 refine⟨h.ok,?_⟩;intro ext m w vs hext hheap hvs hrep
 have h1 := h.ret ext (fun _ => m d) w vs hext (uX (k := d) hx rfl hheap) (by simpa using hvs) (by
  intro j v y hv hy;rw[j5 (d:=k) (k:=d) (y:=x) (x:=x) (m2:=fun _=>m d) (m:=m) rfl]
  match j,hy with
  |0,hy =>
   cases hy;have h2:=hrep 0 v _ hv rfl;cases h2 with
   |ptr hm=>exact .ptr hm
  |j+1,hy =>
   have h2:=hrep (j+1) v y hv hy;refine iQ ?_ h2;have:=List.all_eq_true.1 hxs y (mem_of_getElem? hy);simpa using this)
 refine Calls.mono h1 ?_;rintro e w' ⟨v,m',rfl,hf,hh,hn,hk,hrr⟩
 have ho:bb [(k,some x)] (fun _=>m d)=bb [(d,some x)] m:=by
  funext b;apply propext;rw[ki,ki]
 refine⟨v,fun _=>m' k,rfl,ho▸hf,uX (k:=k) hx' rfl hh,?_,?_,?_⟩
 ·intro k' x b hx hb;rw[<- ho];exact hn k _ b (by rw[aU,if_pos rfl]) hb
 ·intro k' x y hx hy;obtain⟨rfl,_⟩:=fw hx;exact hk k _ _ (by rw[aU,if_pos rfl]) (by rw[aU,if_pos rfl])
 ·rw[j5 (d:=d) (k:=k) (y:=x') (x:=x') (m2:=fun _=>m' k) (m:=m') rfl];exact iQ hr hrr
structure Nm(n e:Nat)(l:List Rat):Prop where
  five:n<=5
  nl:Nl n l
  cb:Cb e l
theorem Nm.mono{n e f:Nat}{l:List Rat}(h:Nm n e l)(hf:e<=f):Nm n f l:=⟨h.five,h.nl,h.cb.mono hf⟩
theorem Nm.rt{n e:Nat}{l:List Rat}(h:Nm n e l)(he:e<=lm n):NR (l.map Go.Lw.rt) e:=by
 have hlm:=gV n;refine⟨?_,by have:=h.nl.len5 h.five;rw[length_map];omega,by rw[cU];exact h.cb⟩;intro x hx;obtain⟨q,hq,rfl⟩:=List.mem_map.1 hx;exact(h.cb.qs oz hq).ok
theorem Nm.chk{n e:Nat}{l:List Rat}(h:Nm n e l):bZ n (l.map Go.Lw.rt)=0:=oP h.nl
theorem Nm.add{n e f:Nat}{a b:List Rat}(ha:Nm n e a)(hb:Nm n f b):Nm n (e+f+1) (sh n (T.add n (ae n a) (ae n b))):=by
 refine⟨ha.five,di _ _,?_⟩;rw[<- io];exact(ha.cb.plus hb.cb).sh (mV ha.nl hb.nl)
theorem Nm.neg{n e:Nat}{a:List Rat}(ha:Nm n e a):Nm n e (sh n (T.neg n (ae n a))):=by
 refine⟨ha.five,di _ _,?_⟩;rw[<- l0];exact ha.cb.minus.sh (oO ha.nl)
theorem Nm.sub{n e f:Nat}{a b:List Rat}(ha:Nm n e a)(hb:Nm n f b):Nm n (e+f+1) (sh n (T.add n (ae n a) (T.neg n (ae n b)))):=by
 refine⟨ha.five,di _ _,?_⟩;rw[<- l0,<- io];exact(ha.cb.plus hb.cb.minus).sh (mV ha.nl (oO hb.nl))
abbrev kB(r n:Nat):Nat:=eB r n
theorem Nm.mul{ts:LL}{r n e f:Nat}(tw:Tw ts r)(hn:n=ts.length){a b:List Rat}(ha:Nm n e a)(hb:Nm n f b):Nm n (e+f+kB r n) (sh n (T.mul (aw ts) n (ae n a) (ae n b))):=by
 subst hn;refine⟨ha.five,di _ _,?_⟩;have h1:=fN ts ts.length tw.ok.1 ts.length ts.length a b (le_refl _) (le_refl _) ha.nl hb.nl;have h2:=Cb.mul tw.ok (k:=ts.length) (le_refl ts.length) (le_refl _) ha.nl hb.nl ha.cb hb.cb;rw[<- h1.2];exact h2.sh h1.1
theorem Nm.ofQ{n e:Nat}(hn:n<=5){q:Rat}(h:Cb e [q]):Nm n e (sh 0 (q:Rat)):=by
 refine⟨hn,(di 0 q).mono (zero_le _),?_⟩;have:=h.sh (k:=0) (.inr ⟨0,le_refl _,rfl⟩);exact this
theorem Cb.one{e:Nat}{q:Rat}(h:Qb e q):Cb e [q]:=by
 refine⟨q.den,q.num.natAbs,⟨by have:=q.den_nz;omega,?_⟩,Nat.le_of_lt h.2,Nat.le_of_lt h.1⟩;intro x hx;rw[List.mem_singleton.1 hx];refine⟨q.num,?_,le_refl _⟩
 have hd:((q.den:Int):Rat)≠0:=by
  intro h0;have:(q.den:Int)=0:=Rat.intCast_eq_zero_iff.1 h0;have:=q.den_nz;omega
 have hq:q=(q.num:Rat)/((q.den:Int):Rat):=by
  rw[<- Rat.divInt_eq_div,Rat.num_divInt_den]
 have h1:(q.num:Rat)/((q.den:Int):Rat)*((q.den:Int):Rat)=(q.num:Rat):=Rat.div_mul_cancel hd;rw[<- hq]at h1;exact h1
theorem ik(n:Nat)(q:Rat):ae n (sh 0 (q:Rat))=T.ofQ n q:=by
 show ae n (if q=0 then[]else[q])=_;split
 ·rename_i h;subst h;rw[gQ]
  induction n with
  |zero=>rfl
  |succ n ih=>simp only[T.zero,T.ofQ,ih]
 ·exact lN n q
def aK(x y:List Rat):AV:=.agg [nA x,nA y]
def gL(ts:LL):Blk:=.box [.lst 1 (ts.map nA),.v .nilIface]
theorem vu{ts:LL}{r e:Nat}(tw:Tw ts r){a:List Rat}(ha:Nm ts.length e a):bi (ts.map (List.map rt)) [a.map rt]=0:=by
 refine nU tw.chk (fun x hx=>?_);rw[List.mem_singleton.1 hx,length_map];exact ha.chk
theorem mZ{ts:LL}{r e f:Nat}(tw:Tw ts r){a b:List Rat}(ha:Nm ts.length e a)(hb:Nm ts.length f b):bi (ts.map (List.map rt)) [a.map rt,b.map rt]=0:=by
 refine nU tw.chk (fun x hx=>?_);rw[length_map];simp only[mem_cons,not_mem_nil,or_false]at hx;rcases hx with rfl |rfl
 ·exact ha.chk
 ·exact hb.chk
def i7:List (List Rat×List Rat)->LL
  |[]=>[]
  |p::l=>p.1::p.2::i7 l
theorem EO:∀(a b:List (List Rat×List Rat)),i7 (a++b)=i7 a++i7 b
 |[],b=>rfl
 |p::a,b=>by simp only[List.cons_append,i7,EO a b]
theorem vN:∀(a:List (List Rat×List Rat)),(i7 a).length=2*a.length
 |[]=>rfl
 |p::a=>by simp only[i7,length_cons,vN a];omega
theorem EY{P:List Rat->Prop}:∀{ps:List (List Rat×List Rat)},(∀p∈ps,P p.1/\P p.2)->∀l∈i7 ps,P l
 |[],_,l,h=>by cases h
 |p::ps,hp,l,h=>by
  simp only[i7,mem_cons]at h;rcases h with rfl |rfl |h
  ·exact(hp p (by simp)).1
  ·exact(hp p (by simp)).2
  ·exact EY (fun q hq=>hp q (by simp[hq])) l h
theorem bu{s:AS}{k:Nat}{x:Blk}(h:lk s.hp k=some x):∀k' z,lk [(k,some x)] k'=some z->lk s.hp k'=some z:=by
 intro k' z hz;obtain⟨rfl,h9⟩:=fw hz;cases h9;exact h
def pU(ts:LL)(a b c d:T ts.length):T ts.length:=T.add ts.length (T.mul (aw ts) ts.length a c) (T.mul (aw ts) ts.length b d)
def mb(ts:LL)(a b c d:T ts.length):T ts.length:=T.add ts.length (T.mul (aw ts) ts.length a d) (T.neg ts.length (T.mul (aw ts) ts.length b c))
theorem xa{ts:LL}{a b c d:T ts.length}:T.add ts.length (ae ts.length (sh ts.length (T.mul (aw ts) ts.length a c))) (ae ts.length (sh ts.length (T.mul (aw ts) ts.length b d)))=pU ts a b c d:=by
 rw[bc,bc];rfl
theorem rY{ts:LL}{a b c d:T ts.length}:T.add ts.length (ae ts.length (sh ts.length (T.mul (aw ts) ts.length a d))) (T.neg ts.length (ae ts.length (sh ts.length (T.mul (aw ts) ts.length b c))))=mb ts a b c d:=by
 rw[bc,bc];rfl
abbrev subT(ts:LL)(x y:T ts.length):T ts.length:=T.add ts.length x (T.neg ts.length y)
def pi(ts:LL)(a b c d p q:T ts.length):T ts.length:=mb ts (subT ts c a) (subT ts d b) (subT ts p a) (subT ts q b)
theorem DH{ts:LL}{a b c d p q:T ts.length} :
  mb ts (ae ts.length (sh ts.length (subT ts c a))) (ae ts.length (sh ts.length (subT ts d b))) (ae ts.length (sh ts.length (subT ts p a))) (ae ts.length (sh ts.length (subT ts q b)))=pi ts a b c d p q:=by
 rw[bc,bc,bc,bc];rfl
theorem Ek{ts:LL}{r e f:Nat}(tw:Tw ts r){a b c d:List Rat}(ha:Nm ts.length e a)(hb:Nm ts.length e b)(hc:Nm ts.length f c)(hd:Nm ts.length f d) :
  Nm ts.length (2*(e+f+kB r ts.length)+1) (sh ts.length (pU ts (ae ts.length a) (ae ts.length b) (ae ts.length c) (ae ts.length d))):=by
 have h:=(ha.mul tw rfl hc).add (hb.mul tw rfl hd);rw[xa]at h;exact h.mono oz
theorem xL{ts:LL}{r e f:Nat}(tw:Tw ts r){a b c d:List Rat}(ha:Nm ts.length e a)(hb:Nm ts.length e b)(hc:Nm ts.length f c)(hd:Nm ts.length f d) :
  Nm ts.length (2*(e+f+kB r ts.length)+1) (sh ts.length (mb ts (ae ts.length a) (ae ts.length b) (ae ts.length c) (ae ts.length d))):=by
 have h:=(ha.mul tw rfl hd).sub (hb.mul tw rfl hc);rw[rY]at h;exact h.mono oz
theorem UD{ts:LL}{r e:Nat}(tw:Tw ts r){a b c d p q:List Rat}(ha:Nm ts.length e a)(hb:Nm ts.length e b)(hc:Nm ts.length e c)(hd:Nm ts.length e d)(hp:Nm ts.length e p)(hq:Nm ts.length e q) :
  Nm ts.length (8*e+5+2*kB r ts.length) (sh ts.length (pi ts (ae ts.length a) (ae ts.length b) (ae ts.length c) (ae ts.length d) (ae ts.length p) (ae ts.length q))):=by
 have h:=xL tw (hc.sub ha) (hd.sub hb) (hp.sub ha) (hq.sub hb);rw[DH]at h;exact h.mono oz
def pX(ts:LL)(cos sin x y:T ts.length):T ts.length:=mb ts cos sin y x
def qG(ts:LL)(cos sin x y:T ts.length):T ts.length:=pU ts sin cos x y
theorem rI{ts:LL}{r e f:Nat}(tw:Tw ts r){a b c d:List Rat}(ha:Nm ts.length e a)(hb:Nm ts.length e b)(hc:Nm ts.length f c)(hd:Nm ts.length f d) :
  Nm ts.length (2*(e+f+kB r ts.length)+1) (sh ts.length (pX ts (ae ts.length a) (ae ts.length b) (ae ts.length c) (ae ts.length d))):=xL tw ha hb hd hc
theorem ud{ts:LL}{r e f:Nat}(tw:Tw ts r){a b c d:List Rat}(ha:Nm ts.length e a)(hb:Nm ts.length e b)(hc:Nm ts.length f c)(hd:Nm ts.length f d) :
  Nm ts.length (2*(e+f+kB r ts.length)+1) (sh ts.length (qG ts (ae ts.length a) (ae ts.length b) (ae ts.length c) (ae ts.length d))):=Ek tw hb ha hc hd
def sP(ts:LL)(cos sin X:T ts.length)(x y:Rat):T ts.length:=T.add ts.length (pX ts cos sin (T.ofQ ts.length x) (T.ofQ ts.length y)) X
def tj(ts:LL)(cos sin Y:T ts.length)(x y:Rat):T ts.length:=T.add ts.length (qG ts cos sin (T.ofQ ts.length x) (T.ofQ ts.length y)) Y
theorem vB{ts:LL}{cos sin X:T ts.length}{x y:Rat}:T.add ts.length (ae ts.length (sh ts.length (pX ts cos sin (ae ts.length (sh 0 (x:Rat))) (ae ts.length (sh 0 (y:Rat)))))) X=sP ts cos sin X x y:=by
 rw[bc,ik,ik];rfl
theorem xi{ts:LL}{cos sin Y:T ts.length}{x y:Rat}:T.add ts.length (ae ts.length (sh ts.length (qG ts cos sin (ae ts.length (sh 0 (x:Rat))) (ae ts.length (sh 0 (y:Rat)))))) Y=tj ts cos sin Y x y:=by
 rw[bc,ik,ik];rfl
theorem Sub.fn0(f:FuncId):Sub (.v (.func (.func f) #[] #[])) (.fn f []):=fun g S m v h=>by
 cases h;exact .fn rfl (fun j u c hu hc=>by simp at hc)
theorem Fj{e k m:Nat}(h:8*e+4*k+4<=m):2*(2*(e+e+k)+1)<=m:=by omega
theorem CD{rs:List (List Rt)}{a:List Rt}(h:bt rs=0):bi rs [a]=bZ rs.length a:=by
 unfold bi;rw[if_neg (by rw[h];simp)];show(if _ then _ else 0)=_;split
 ·rfl
 ·rename_i h1;exact(Decidable.not_not.1 h1).symm
def dV(ts:LL)(x y:T ts.length):Bool:=decide (T.sgn (aw ts) ts.length (subT ts x y)=0)
theorem M1(z:Int):cond true (ac .eql z 0) false=decide (z=0):=by
 by_cases h:z=0
 ·subst h;rfl
 ·rw[decide_eq_false h];simpa[ac]using h
theorem mG{n:Int}(h:-9223372036854775808<=n/\n<=9223372036854775807):Qs ((n:Rat)):=by
 refine⟨2,by unfold fx;omega,?_,?_⟩
 ·unfold Lz;simp only[Rat.num_intCast,Nat.reducePow];omega
 ·unfold Lz;simp only[Rat.den_intCast];decide
theorem Mu(a b c d:Bool):cond (cond (cond a b false) c false) d false=(a&&b&&c&&d):=by cases a <;> cases b <;> cases c <;> rfl
def dW(s:ByteArray)(i:Nat):Nat:=(s.data.getD i 0).toNat
def e8(c:Nat):Bool:=decide (97<=c/\c<=122)||decide (65<=c/\c<=90)
def qY(c:Nat):Bool:=decide (48<=c/\c<=57)
def kF(c:Nat):Bool:=e8 c||qY c||decide (c=95)
def mI(s:ByteArray):Nat->Nat->Bool
  |_,0=>true
  |i,n+1=>kF (dW s i)&&mI s (i+1) n
def iH(s:ByteArray):Bool:=decide (0<s.size/\s.size<=24)&&e8 (dW s 0)&&mI s 0 s.size
def fu(s:ByteArray):Nat->Nat->Nat
  |i,0=>i
  |i,n+1=>if kF (dW s i)then fu s (i+1) n else i
theorem Ew(s:ByteArray):∀(n i:Nat),i<=fu s i n/\fu s i n<=i+n
 |0,i=>⟨le_refl _,le_refl _⟩
 |n+1,i=>by
  simp only[fu];split
  ·have:=Ew s n (i+1);omega
  ·omega
theorem xW(s:ByteArray):∀(n i:Nat),fu s i n=i+n↔mI s i n=true
 |0,i=>by simp[fu,mI]
 |n+1,i=>by
  simp only[fu,mI,and_eq_true];split
  ·rename_i h;rw[<- xW s n (i+1),show i+(n+1)=i+1+n by omega];simp[h]
  ·rename_i h;constructor
   ·intro h';omega
   ·intro h';exact absurd h'.1 h
theorem Om{c:Nat}(h:e8 c=true):kF c=true:=by unfold kF;rw[h];rfl
def fo(s:ByteArray):Nat:=if 0<s.size/\e8 (dW s 0)=true then fu s 1 (s.size-1)else 0
theorem LC(s:ByteArray):iH s=decide (0<fo s/\fo s=s.size/\fo s<=24):=by
 unfold iH fo;rw[Bool.eq_iff_iff];simp only[and_eq_true,decide_eq_true_eq]
 by_cases h:0<s.size/\e8 (dW s 0)=true
 ·rw[if_pos h];obtain⟨h1,h2⟩:=h;have h3:=xW s (s.size-1) 1
  have h4:mI s 0 s.size=mI s 1 (s.size-1):=by
   obtain⟨n,hn⟩:∃n,s.size=n+1:=⟨s.size-1,by omega⟩
   rw[hn];simp only[mI,Om h2,Bool.true_and,Nat.add_sub_cancel]
  have h5:=Ew s (s.size-1) 1;rw[h4,<- h3];constructor
  ·rintro⟨⟨h6,h7⟩,h8⟩;omega
  ·rintro⟨h6,h7,h8⟩;exact⟨⟨by omega,h2⟩,by omega⟩
 ·rw[if_neg h];constructor
  ·rintro⟨⟨h1,h2⟩,h3⟩;exact absurd ⟨h1.1,h2⟩ h
  ·rintro⟨h1,_⟩;omega
theorem MP(s:ByteArray)(h0:0<s.size)(h24:s.size<=24):iH s=decide ((if e8 (dW s 0)then fu s 0 s.size else 0)=s.size):=by
 unfold iH;rw[Bool.eq_iff_iff];simp only[and_eq_true,decide_eq_true_eq];have h3:=xW s s.size 0;rw[Nat.zero_add]at h3
 by_cases h:e8 (dW s 0)=true
 ·rw[if_pos h,h3];exact⟨fun h=>h.2,fun h'=>⟨⟨⟨h0,h24⟩,h⟩,h'⟩⟩
 ·rw[if_neg h];exact⟨fun h'=>absurd h'.1.2 h,fun h'=>by omega⟩
def dS(a b:ByteArray):Bool:=a.toList==b.toList
def fm(n:Nat)(err:Nat->Nat):Nat:=fK ((List.range n).map err)
theorem er{n i:Nat}{err:Nat->Nat}(hi:i<n)(h:∀j,j<i->err j=0)(he:err i≠0):fm n err=err i:=by
 unfold fm
 have e:List.range n=List.range i++(i::(List.range' (i+1) (n-(i+1)))):=by
  obtain⟨d,rfl⟩:∃d,n=i+(d+1):=⟨n-i-1,by omega⟩
  rw[List.range_eq_range',List.range_eq_range',<- List.range'_append_1,Nat.zero_add,List.range'_succ,show i+(d+1)-(i+1)=d by omega]
 rw[e,map_append,vG _ _ (qX (fun x hx=>by
  obtain⟨j,hj,rfl⟩:=List.mem_map.1 hx;exact h j (List.mem_range.1 hj)))]
 show(if err i≠0 then err i else _)=_;rw[if_pos he]
theorem mD{n:Nat}{err:Nat->Nat}(h:∀j,j<n->err j=0):fm n err=0 :=
 qX (fun x hx=>by obtain⟨j,hj,rfl⟩:=List.mem_map.1 hx;exact h j (List.mem_range.1 hj))
theorem xb{n:Nat}{err:Nat->Nat}(h:fm n err=0):∀j,j<n->err j=0:=fun j hj =>
 qM h _ (List.mem_map.2 ⟨j,List.mem_range.2 hj,rfl⟩)
structure Mk where
  name:ByteArray
  x:Rt
  y:Rt
instance:Inhabited Mk:=⟨⟨default,⟨false,[],[]⟩,⟨false,[],[]⟩⟩⟩
def Mk.av(m:Mk):AV:=.agg [.v (.string m.name),bl m.x.neg,ws m.x.num,ws m.x.den,bl m.y.neg,ws m.y.num,ws m.y.den]
structure Bd where
  name:ByteArray
  pts:List Mk
instance:Inhabited Bd:=⟨⟨default,[]⟩⟩
def Bd.av(b:Bd):AV:=.agg [.v (.string b.name),.lst 7 (b.pts.map Mk.av)]
structure Jt where
  name:ByteArray
  kind:Int
  a:Int
  point:Int
  b:Int
  on:Int
  to:Int
instance:Inhabited Jt:=⟨⟨default,0,0,0,0,0,0⟩⟩
def Jt.av(j:Jt):AV:=.agg [.v (.string j.name),i64 j.kind,i64 j.a,i64 j.point,i64 j.b,i64 j.on,i64 j.to]
structure Dr where
  name:ByteArray
  body:Int
instance:Inhabited Dr:=⟨⟨default,0⟩⟩
def Dr.av(d:Dr):AV:=.agg [.v (.string d.name),i64 d.body]
structure Li where
  name:ByteArray
  bo:List Bd
  jo:List Jt
  dv:List Dr
def Li.av(l:Li):AV:=.agg [.v (.string l.name),.lst 2 (l.bo.map Bd.av),.lst 7 (l.jo.map Jt.av),.lst 2 (l.dv.map Dr.av)]
structure Mk.ok(m:Mk):Prop where
  x:m.x.ok
  y:m.y.ok
  qx:Qb 1000 m.x.q
  qy:Qb 1000 m.y.q
structure Bd.ok(b:Bd):Prop where
  pts:∀m∈b.pts,m.ok
  names:∀m∈b.pts,m.name.size<=281474976710656
  ll:b.pts.length<=281474976710656
  name:b.name.size<=281474976710656
structure Li.ok(l:Li):Prop where
  name:l.name.size<=281474976710656
  bo:∀b∈l.bo,b.ok
  jnames:∀j∈l.jo,j.name.size<=281474976710656
  dnames:∀d∈l.dv,d.name.size<=281474976710656
  lb:l.bo.length<=281474976710656
  lj:l.jo.length<=281474976710656
  ld:l.dv.length<=281474976710656
def gH(l:List ByteArray)(i:Nat):Bool:=(l.take i).any (fun n=>dS n (l.getD i default))
def eg(ps:List Mk)(i:Nat):Nat :=
  if iH (ps.getD i default).name=false then 5 else if gH (ps.map Mk.name) i=true then 6
  else if(ps.getD i default).x.valid=true/\(ps.getD i default).y.valid=true then 0 else 3
def eA(bs:List Bd)(i:Nat):Nat :=
  if iH (bs.getD i default).name=false then 5 else if gH (bs.map Bd.name) i=true then 6
  else if 8<(bs.getD i default).pts.length then 4 else fm (bs.getD i default).pts.length (eg (bs.getD i default).pts)
def bD(i:Int)(n:Nat):Bool:=decide (0<=i/\i<n)
def cE(l:Li)(i:Int):List Mk:=(l.bo.getD i.toNat default).pts
def eF(l:Li)(j:Jt):Nat :=
  if j.kind≠0/\j.kind≠1 then 7
  else if bD j.a l.bo.length=false\/bD j.b l.bo.length=false then 9
  else if j.a=j.b then 13
  else if bD j.point (cE l j.a).length=false\/bD j.on (cE l j.b).length=false then 9
  else if j.kind=0 then(if j.to≠0 then 2 else 0)
  else if bD j.to (cE l j.b).length=false then 9
  else if((cE l j.b).getD j.on.toNat default).x.q=((cE l j.b).getD j.to.toNat default).x.q/\((cE l j.b).getD j.on.toNat default).y.q=((cE l j.b).getD j.to.toNat default).y.q then 8
  else 0
def fT(l:Li)(i:Nat):Nat :=
  if iH (l.jo.getD i default).name=false then 5 else if gH (l.jo.map Jt.name) i=true then 6 else eF l (l.jo.getD i default)
def ek(l:Li)(i:Nat):Nat :=
  if iH (l.dv.getD i default).name=false then 5 else if gH (l.dv.map Dr.name) i=true then 6
  else if bD (l.dv.getD i default).body l.bo.length=false then 9
  else if(l.dv.getD i default).body=0 then 7
  else if(l.dv.take i).any (fun d=>decide (d.body=(l.dv.getD i default).body))=true then 6 else 0
def iI(l:Li):Nat:=fm l.bo.length (eA l.bo)
def eU(l:Li):Nat:=if 16<l.jo.length then 4 else fm l.jo.length (fT l)
def ir(l:Li):Nat:=if 2<l.dv.length then 4 else fm l.dv.length (ek l)
def aO(l:Li):Nat :=
  if iH l.name=false then 5 else if l.bo.length=0 then 10 else if 8<l.bo.length then 4
  else if iI l≠0 then iI l else if eU l≠0 then eU l else ir l
theorem ao{α:Type}{l:List α}{i:Nat}{x d:α}(h:l[i]?=some x):l.getD i d=x:=by rw[getD_eq_getElem?_getD,h];rfl
theorem mC{α:Type}(f:α->ByteArray){l:List α}{i:Nat}{x:α}(h:l[i]?=some x):gH (l.map f) i=(l.take i).any (fun y=>dS (f y) (f x)):=by
 unfold gH;have h1:(l.map f).getD i default=f x:=ao (by rw[getElem?_map,h];rfl);rw[h1,<- map_take,List.any_map];rfl
theorem kK{α:Type}{p:α->Bool}{l:List α}{k:Nat}{x:α}(h:l[k]?=some x)(hn:(l.take k).any p=false)(hp:p x=false):(l.take (k+1)).any p=false:=by
 rw[d9 h,List.any_append,hn];simp[hp]
theorem lB{α:Type}{p:α->Bool}{l:List α}{k i:Nat}{x:α}(h:l[k]?=some x)(hk:k<i)(hp:p x=true):(l.take i).any p=true:=by
 rw[List.any_eq_true];exact⟨x,mem_of_getElem? (by rw[getElem?_take,if_pos hk];exact h),hp⟩
theorem Fa(s:ByteArray):(s.toList==ByteArray.toList ⟨#[]⟩)=decide (s.size=0):=by
 have e:ByteArray.toList ⟨#[]⟩=[]:=Go.ByteArray.toList_eq _;have h:s.toList.length=s.size:=by rw[Go.ByteArray.toList_eq];cases s;rfl
 rw[e,Bool.eq_iff_iff,beq_iff_eq,decide_eq_true_eq];constructor
 ·intro h';rw[h']at h;simpa using h.symm
 ·intro h';exact List.eq_nil_of_length_eq_zero oz
theorem Io{s:ByteArray}(h:(s.toList==ByteArray.toList ⟨#[]⟩)=false):0<s.size:=by
 rw[Fa,decide_eq_false_iff_not]at h;omega
theorem bn{a b:Nat}(h:ac .lss (a:Int) (b:Int)=true):a<b:=by
 have:(a:Int)<b:=of_decide_eq_true h;omega
theorem q7{a b:Nat}(h:ac .lss (a:Int) (b:Int)=false):b<=a:=by
 have:¬(a:Int)<b:=of_decide_eq_false h;omega
theorem Ox{a b:Nat}{p:Bool}(h:cond (ac .lss (a:Int) (b:Int)) p false=true):a<b/\p=true:=by
 cases h1:ac .lss (a:Int) (b:Int)
 ·rw[h1]at h;cases h
 ·rw[h1]at h;exact⟨bn h1,h⟩
theorem No{a b:Nat}{p:Bool}(h:cond (ac .lss (a:Int) (b:Int)) p false=false):a<b->p=false:=by
 intro h0;have h1:ac .lss (a:Int) (b:Int)=true:=decide_eq_true (by omega:(a:Int)<b);rw[h1]at h;exact h
theorem O7{s:ByteArray}(h:cond (s.toList==ByteArray.toList ⟨#[]⟩) true (!e8 (dW s 0))=true):fo s=0:=by
 unfold fo;rw[if_neg];rintro⟨h1,h2⟩;rw[Fa,decide_eq_false oz,h2]at h;cases h
theorem RN{s:ByteArray}(h:cond (s.toList==ByteArray.toList ⟨#[]⟩) true (!e8 (dW s 0))=false):0<s.size/\e8 (dW s 0)=true:=by
 cases h1:(s.toList==ByteArray.toList ⟨#[]⟩)
 ·rw[h1]at h;exact⟨Io h1,by simpa using h⟩
 ·rw[h1]at h;cases h
theorem ES{s:ByteArray}{i:Nat}(h:s.size<=i):dW s i=0:=by
 unfold dW;have:s.data.size<=i:=h;simp[getD_eq_getD_getElem?,Array.getElem?_eq_none this]
theorem JT(s:ByteArray):cond (cond (ac .gtr (fo s:Int) 0) (ac .eql (fo s:Int) (s.size:Int)) false) (ac .leq (fo s:Int) 24) false=iH s:=by
 rw[LC,Bool.eq_iff_iff,decide_eq_true_eq];cases h1:ac .gtr (fo s:Int) 0
 ·have:¬(fo s:Int)>0:=of_decide_eq_false h1;simp;omega
 ·have h1:(fo s:Int)>0:=of_decide_eq_true h1;cases h2:ac .eql (fo s:Int) (s.size:Int)
  ·have : (fo s : Int) ≠ s.size := by simpa [ac] using h2
   simp;omega
  ·have h2:(fo s:Int)=s.size:=eq_of_beq h2
   have h3:ac .leq (fo s:Int) 24=true↔fo s<=24:=by
    show decide ((fo s:Int)<=24)=true↔_;rw[decide_eq_true_eq];omega
   simp only[cond_true,h3];omega
theorem M4(s:ByteArray):cond (cond (ac .gtr (s.size:Int) 0) (ac .leq (s.size:Int) 24) false) (ac .eql (((if e8 (dW s 0)then fu s 0 s.size else 0:Nat)):Int) (s.size:Int)) false=iH s:=by
 cases h1:ac .gtr (s.size:Int) 0
 ·have h1:¬(s.size:Int)>0:=of_decide_eq_false h1;unfold iH;rw[decide_eq_false (show ¬(0<s.size/\s.size<=24) by omega)];rfl
 ·have h1:(s.size:Int)>0:=of_decide_eq_true h1;cases h2:ac .leq (s.size:Int) 24
  ·have h2:¬(s.size:Int)<=24:=of_decide_eq_false h2;unfold iH;rw[decide_eq_false (show ¬(0<s.size/\s.size<=24) by omega)];rfl
  ·have h2:(s.size:Int)<=24:=of_decide_eq_true h2;rw[MP s oz oz];simp only[cond_true];rw[Bool.eq_iff_iff,decide_eq_true_eq];generalize(if e8 (dW s 0)=true then fu s 0 s.size else 0)=m;show(((m:Int)==(s.size:Int))=true)↔_;rw[beq_iff_eq];omega
theorem rJ{α:Type}(sz:Nat)(f:α->AV)(l:List α)(n:Nat):AV.lst sz (((l.map f).drop 0).take (n-0))=.lst sz ((l.take n).map f):=by
 rw[Nat.sub_zero,drop_zero,map_take]
theorem s6{α:Type}{l:List α}{i k:Nat}{x:α}(h:(l.take i)[k]?=some x):l[k]?=some x/\k<i:=by
 rw[getElem?_take]at h;split at h
 ·rename_i hk;exact⟨h,hk⟩
 ·cases h
theorem BV(i:Int)(n:Nat):cond (ac .geq i 0) (ac .lss i (n:Int)) false=bD i n:=by
 unfold bD;rw[Bool.eq_iff_iff,decide_eq_true_eq];cases h:ac .geq i 0
 ·have:¬i>=0:=of_decide_eq_false h;simp;omega
 ·have h:i>=0:=of_decide_eq_true h;show decide (i<(n:Int))=true↔_;rw[decide_eq_true_eq];omega
theorem dz{i:Int}{n:Nat}(h:bD i n=true):0<=i/\i<n:=of_decide_eq_true h
theorem oR{p q:Bool}(h:cond (!p) true (!q)=true):p=false\/q=false:=by cases p <;> cases q <;> simp_all
theorem nH{p q:Bool}(h:cond (!p) true (!q)=false):p=true/\q=true:=by cases p <;> cases q <;> simp_all
theorem dH{p:Bool}(h:(!p)=true):p=false:=by cases p <;> simp_all
theorem dC{p:Bool}(h:(!p)=false):p=true:=by cases p <;> simp_all
theorem jy{a b:Nat}(h:ac .gtr (a:Int) (b:Int)=true):b<a:=by
 have:(a:Int)>b:=of_decide_eq_true h;omega
theorem j9{a b:Nat}(h:ac .gtr (a:Int) (b:Int)=false):a<=b:=by
 have:¬(a:Int)>b:=of_decide_eq_false h;omega
theorem bE{a b:Nat}(hle:a<=b)(h:ac .lss (a:Int) (b:Int)=false):a=b:=by have:=q7 h;omega
theorem cK{x y:Int}(h:ac .eql x y=true):x=y:=by simpa[ac]using h
theorem dj{x y:Int}(h:ac .eql x y=false):x≠y:=by simpa[ac]using h
theorem tk{x y:Int}(h:ac .neq x y=true):x≠y:=by simpa[ac]using h
theorem wB{x y:Int}(h:ac .neq x y=false):x=y:=by simpa[ac]using h
theorem BF{k:Int}(h:cond (ac .neq k 0) (ac .neq k 1) false=true):k≠0/\k≠1:=by
 cases h1:ac .neq k 0
 ·rw[h1]at h;cases h
 ·rw[h1]at h;exact⟨tk h1,tk h⟩
theorem G5{k:Int}(h:cond (ac .neq k 0) (ac .neq k 1) false=false):¬(k≠0/\k≠1):=by
 rintro⟨h1,h2⟩;have e1:ac .neq k 0=true:=by simpa[ac]using h1
 have e2:ac .neq k 1=true:=by simpa[ac]using h2
 rw[e1,e2]at h;cases h
theorem BL{p q r s:Rat}(h:cond (ac .eql (bN (p-q)) 0) (ac .eql (bN (r-s)) 0) false=true):p=q/\r=s:=by
 cases h1:ac .eql (bN (p-q)) 0
 ·rw[h1]at h;cases h
 ·rw[h1]at h;have e1:=lY (cK h1);have e2:=lY (cK h);exact⟨by grind,by grind⟩
theorem CK{p q r s:Rat}(h:cond (ac .eql (bN (p-q)) 0) (ac .eql (bN (r-s)) 0) false=false):¬(p=q/\r=s):=by
 rintro⟨rfl,rfl⟩;rw[Rat.sub_self,Rat.sub_self]at h;cases h
theorem oS{l:Li}{i:Int}(h:bD i l.bo.length=true):∃b,l.bo[i.toNat]?=some b/\cE l i=b.pts/\b∈l.bo/\0<=i:=by
 have h1:=dz h;obtain⟨b,hb⟩:=aG (l:=l.bo) (i:=i.toNat) oz;exact⟨b,hb,by unfold cE;rw[ao hb],mem_of_getElem? hb,h1.1⟩
theorem qH{ps:List Mk}{i:Int}(h:bD i ps.length=true):∃m,ps[i.toNat]?=some m/\ps.getD i.toNat default=m/\m∈ps/\0<=i:=by
 have h1:=dz h;obtain⟨m,hm⟩:=aG (l:=ps) (i:=i.toNat) oz;exact⟨m,hm,ao hm,mem_of_getElem? hm,h1.1⟩
theorem qJ{x y:Int}:ac .eql x y=decide (x=y):=by
 show(x==y)=decide (x=y);rw[Bool.eq_iff_iff,beq_iff_eq,decide_eq_true_eq]
theorem C4{n:Nat}(h:ac .eql (n:Int) 0=true):n=0:=by have:=cK h;omega
theorem HZ{n:Nat}(h:ac .eql (n:Int) 0=false):n≠0:=by have:=dj h;omega
theorem TH{p q r s:Rat}:cond (ac .eql (bN (p-q)) 0) (ac .eql (bN (r-s)) 0) false=decide (p=q/\r=s):=by
 cases h:cond (ac .eql (bN (p-q)) 0) (ac .eql (bN (r-s)) 0) false
 ·exact(decide_eq_false (CK h)).symm
 ·exact(decide_eq_true (BL h)).symm
theorem NI{e:Nat}{q:Rat}(h:Qb e q):Cd q.den (2^e) [q]:=by
 refine⟨Nat.pos_of_ne_zero q.den_nz,fun p hp=>?_⟩;rw[List.mem_singleton.1 hp];refine⟨q.num,?_,Nat.le_of_lt h.1⟩
 have h0:((q.den:Int):Rat)≠0:=by
  intro h0;have:(q.den:Int)=0:=Rat.intCast_eq_zero_iff.1 h0;have:=q.den_nz;omega
 have h1:q=(q.num:Rat)/((q.den:Int):Rat):=by
  rw[<- Rat.divInt_eq_div];exact(Rat.num_divInt_den q).symm
 have h2:=Rat.div_mul_cancel (a:=(q.num:Rat)) h0;rw[<- h1]at h2;exact h2
theorem vo{e:Nat}:∀{l:List Rat},(∀q∈l,Qb e q)->∃D N,Cd D N l/\D<=2^(e*l.length)/\N<=2^(e*l.length+e)
 |[],_=>⟨1,1,Cd.nil oz,by simp,Nat.one_le_two_pow⟩
 |q::l,h=>by
  obtain⟨D,N,h1,h2,h3⟩:=vo (l:=l) (fun p hp=>h p (mem_cons_of_mem _ hp));have hq:=h q (mem_cons_self ..);have e1:e*(q::l).length=e*l.length+e:=by rw[length_cons,Nat.mul_add,Nat.mul_one]
  have k1:=(h1.scale (Nat.pos_of_ne_zero q.den_nz))
  have k2:=((NI hq).scale h1.1)
  rw[Nat.mul_comm]at k2;refine⟨D*q.den,2^(e*l.length+e+e),?_,?_,?_⟩
  ·refine(Cd.app (a:=[q]) (k2.mono ?_) (k1.mono ?_))
   ·refine le_trans (mul_le_mul_left _ h2) ?_;rw[<- pow_add];exact bY oz
   ·refine le_trans (Nat.mul_le_mul h3 (Nat.le_of_lt hq.2)) ?_;rw[<- pow_add];exact le_refl _
  ·rw[e1,pow_add];exact Nat.mul_le_mul h2 (Nat.le_of_lt hq.2)
  ·rw[e1];exact le_refl _
def lT(w m:Nat)(x:List Rt):Bool:=decide (x.length<=m)&&x.all (fun r=>decide (r.num.length<=w/\r.den.length<=w))
def lE(w m:Nat)(l:List (List Rt)):Bool:=l.all (lT w m)
def kI(rs xs:List (List Rt)):Bool :=
  if rs.length<=1\/(5<rs.length/\rs.length<=8)then lE 3 40 (rs++xs)
  else if rs.length=2 then lE 1 40 (rs++xs)else if rs.length=3 then lE 1 4 (rs++xs)else false
def Rt.wok(r:Rt):Prop:=Ws r.num/\Ws r.den
theorem Rt.wok.ok{r:Rt}{k:Nat}(h:r.wok)(hn:r.num.length<=k)(hd:r.den.length<=k)(hk:k<=100):r.ok:=⟨h.1,h.2,by unfold fx;omega,by unfold fx;omega⟩
theorem Rt.ok.wok{r:Rt}(h:r.ok):r.wok:=⟨h.1,h.2.1⟩
def fv(l:List (List Rt)):Prop:=∀x∈l,(∀r∈x,r.wok)/\x.length<=281474976710656
theorem fv.app{a b:List (List Rt)}(ha:fv a)(hb:fv b):fv (a++b):=fun x hx=>by
 rcases List.mem_append.1 hx with h |h
 ·exact ha x h
 ·exact hb x h
theorem o8{w m:Nat}{x:List Rt}(h:lT w m x=true)(hw:1<=w)(hw3:w<=3)(hok:∀r∈x,r.wok):x.length<=m/\(∀q∈lq x,Qb (32*w) q)/\∀r∈x,r.ok:=by
 unfold lT at h;simp only[and_eq_true,decide_eq_true_eq,all_eq_true]at h;have ho:∀r∈x,r.ok:=fun r hr=>(hok r hr).ok (h.2 r hr).1 (h.2 r hr).2 oz
 refine⟨h.1,fun q hq=>?_,ho⟩;obtain⟨r,hr,rfl⟩:=List.mem_map.1 hq;exact Rt.qb (ho r hr) hw (h.2 r hr).1 (h.2 r hr).2
theorem IX{w m:Nat}{x:List Rt}(h:lT w m x=true)(hw:1<=w)(hw3:w<=3)(hm:m<=40)(hok:∀r∈x,r.wok):NR x 4000:=by
 obtain⟨h1,h2,ho⟩:=o8 h hw hw3 hok;obtain⟨D,N,h3,h4,h5⟩:=vo h2;have h6:(lq x).length<=40:=by rw[length_map];omega
 have h7:32*w*(lq x).length<=96*40:=Nat.mul_le_mul oz h6;obtain⟨k,hk⟩:∃k,k=4000:=⟨_,rfl⟩
 rw[<- hk];exact⟨ho,by omega,D,N,h3,le_trans h4 (bY oz),le_trans h5 (bY oz)⟩
theorem IG:∀(rs:List (List Rt)){m:Nat},(∀x∈rs,x.length<=m)->(llq rs).flatten.length<=m*rs.length
 |[],_,_=>by simp
 |x::rs,m,h=>by
  have h1:=IG rs (fun y hy=>h y (mem_cons_of_mem _ hy));have h2:=h x (mem_cons_self ..);have:(llq (x::rs)).flatten.length=x.length+(llq rs).flatten.length:=by simp[llq,lq]
  rw[this,length_cons,Nat.mul_add];omega
theorem NA{w m:Nat}{rs:List (List Rt)}(h:∀x∈rs,lT w m x=true)(hw:1<=w)(hw3:w<=3)(hm:m<=40)(hl:rs.length<=8)(h38:rs.length<=3\/5<rs.length)(hok:fv rs):TR rs 40000:=by
 have hq:∀q∈(llq rs).flatten,Qb (32*w) q:=by
  intro q hq;obtain⟨y,hy,hq⟩:=List.mem_flatten.1 hq;obtain⟨x,hx,rfl⟩:=List.mem_map.1 hy;exact(o8 (h x hx) hw hw3 (hok x hx).1).2.1 q hq
 obtain⟨D,N,h3,h4,h5⟩:=vo hq
 have h6:(llq rs).flatten.length<=40*8:=by
  refine le_trans (IG rs (m:=m) (fun x hx=>(o8 (h x hx) hw hw3 (hok x hx).1).1)) ?_;exact Nat.mul_le_mul hm hl
 have h7:32*w*(llq rs).flatten.length<=96*(40*8):=Nat.mul_le_mul oz h6;obtain⟨k,hk⟩:∃k,k=40000:=⟨_,rfl⟩
 rw[<- hk];refine⟨fun d hd=>(o8 (h d hd) hw hw3 (hok d hd).1).2.2,fun d hd=>(hok d hd).2,by omega,⟨D,N,h3.1,fun d hd=>h3.sub (fun q hq=>List.mem_flatten.2 ⟨d,hd,hq⟩),le_trans h4 (bY oz),le_trans h5 (bY oz)⟩,by omega,h38⟩
structure Lt(rs xs:List (List Rt)):Prop where
  tr:TR rs 40000
  nr:∀x∈xs,NR x 4000
  ll:rs.length<=8
theorem AA{w m:Nat}{rs xs:List (List Rt)}(h:lE w m (rs++xs)=true)(hw:1<=w)(hw3:w<=3)(hm:m<=40)(hl:rs.length<=8)(h38:rs.length<=3\/5<rs.length)(hr:fv rs)(hx:fv xs):Lt rs xs:=by
 unfold lE at h;rw[all_eq_true]at h;exact⟨NA (fun x hx=>h x (List.mem_append_left _ hx)) hw hw3 hm hl h38 hr,fun x hx'=>IX (h x (List.mem_append_right _ hx')) hw hw3 hm (hx x hx').1,hl⟩
theorem DM{rs xs:List (List Rt)}(h:kI rs xs=true)(hr:fv rs)(hx:fv xs):Lt rs xs:=by
 unfold kI at h;split at h
 ·exact AA h oz oz oz oz oz hr hx
 ·split at h
  ·exact AA h oz oz oz oz oz hr hx
  ·split at h
   ·exact AA h oz oz oz oz oz hr hx
   ·cases h
structure Pl where
  c:List Rt
  s:List Rt
  x:List Rt
  y:List Rt
instance:Inhabited Pl:=⟨⟨[],[],[],[]⟩⟩
def Pl.av(p:Pl):AV:=.agg [nR p.c,nR p.s,nR p.x,nR p.y]
def Pl.l(p:Pl):List (List Rt):=[p.c,p.s,p.x,p.y]
structure As where
  rs:List (List Rt)
  bs:List Pl
  ms:List Int
def As.av(a:As):AV:=.agg [.lst 1 (a.rs.map nR),.lst 4 (a.bs.map Pl.av),.lst 1 (a.ms.map i64)]
structure As.ok(a:As):Prop where
  rs:fv a.rs
  rl:a.rs.length<=281474976710656
  bs:∀b∈a.bs,fv b.l
  bl:a.bs.length<=281474976710656
structure AL(a:As):Prop where
  tr:TR a.rs 40000
  nr:∀b∈a.bs,∀x∈b.l,NR x 4000
  ll:a.rs.length<=8
  bl:a.bs.length<=20
structure AB(a:As):Prop where
  tr:TR a.rs 400000000
  nr:∀b∈a.bs,∀x∈b.l,NR x 50000000000
  ll:a.rs.length<=8
  bl:a.bs.length<=30
theorem RB.mono{r r':Nat}{ts:LL}(h:RB r ts)(hr:r<=r'):RB r' ts:=by
 obtain⟨D,N,h0,h1,h2,h3⟩:=h;exact⟨D,N,h0,h1,le_trans h2 (bY hr),le_trans h3 (bY hr)⟩
theorem TR.mono{rs:List (List Rt)}{r r':Nat}(h:TR rs r)(hr:r<=r')(hl:r'<=5000000000):TR rs r':=⟨h.ok,h.len,h.ll,h.rb.mono hr,hl,h.three⟩
theorem NR.mono{x:List Rt}{e f:Nat}(h:NR x e)(hf:e<=f):NR x f:=⟨h.ok,h.len,h.cb.mono hf⟩
theorem AL.ab{a:As}(h:AL a):AB a:=⟨h.tr.mono oz oz,fun b hb x hx=>(h.nr b hb x hx).mono oz,h.ll,by have:=h.bl;omega⟩
theorem x8:fv []:=fun x hx=>by cases hx
theorem ov{α:Type}{l:List α}{p:α->Bool}{i:Nat}{x:α}(h:(l.take i).all p=true)(hx:l[i]?=some x)(hp:p x=true):(l.take (i+1)).all p=true:=by
 rw[d9 hx,all_append,h];simp[hp]
theorem mj{α:Type}{l:List α}{p:α->Bool}{i:Nat}{x:α}(hx:l[i]?=some x)(hp:p x=false):l.all p=false:=by
 refine Bool.eq_false_iff.2 (fun h=>?_);rw[all_eq_true]at h;rw[h x (mem_of_getElem? hx)]at hp;cases hp
theorem oM{α:Type}{l:List α}{p:α->Bool}{i:Nat}(hi:i=l.length)(h:(l.take i).all p=true):l.all p=true:=by
 rw[hi,take_length]at h;exact h
structure Li.okw(l:Li):Prop where
  name:l.name.size<=281474976710656
  pts:∀b∈l.bo,b.name.size<=281474976710656/\b.pts.length<=281474976710656/\∀m∈b.pts,m.name.size<=281474976710656/\m.x.wok/\m.y.wok
  jnames:∀j∈l.jo,j.name.size<=281474976710656
  dnames:∀d∈l.dv,d.name.size<=281474976710656
  lb:l.bo.length<=281474976710656
  lj:l.jo.length<=281474976710656
  ld:l.dv.length<=281474976710656
def kT(m:Mk):Bool:=decide (m.x.num.length<=4/\m.x.den.length<=4/\m.y.num.length<=4/\m.y.den.length<=4)
def nN(b:Bd):Bool:=decide (b.pts.length<=30)&&b.pts.all kT
def k9(l:Li):Bool:=l.bo.all nN&&decide (l.bo.length<=30/\l.jo.length<=60/\l.dv.length<=30)
theorem JV{m:Mk}(h:kT m=true)(hx':m.x.wok)(hy':m.y.wok):m.ok:=by
 unfold kT at h;rw[decide_eq_true_eq]at h;have hx:=hx'.ok h.1 h.2.1 oz;have hy:=hy'.ok h.2.2.1 h.2.2.2 oz;exact⟨hx,hy,(Rt.qb hx (k:=4) oz h.1 h.2.1).mono oz,(Rt.qb hy (k:=4) oz h.2.2.1 h.2.2.2).mono oz⟩
theorem Gx{l:Li}(h:k9 l=true)(ho:l.okw):l.ok:=by
 unfold k9 at h;rw[and_eq_true,all_eq_true]at h;refine⟨ho.name,fun b hb=>?_,ho.jnames,ho.dnames,ho.lb,ho.lj,ho.ld⟩;have h1:=h.1 b hb;unfold nN at h1;rw[and_eq_true,all_eq_true]at h1;obtain⟨o1,o2,o3⟩:=ho.pts b hb;exact⟨fun m hm=>JV (h1.2 m hm) (o3 m hm).2.1 (o3 m hm).2.2,fun m hm=>(o3 m hm).1,o2,o1⟩
structure Pse.rok(p:Pse):Prop where
  t:p.turn.t.ok
  x:p.at_.x.ok
  y:p.at_.y.ok
structure Pse.wok(p:Pse):Prop where
  t:p.turn.t.wok
  x:p.at_.x.wok
  y:p.at_.y.wok
theorem Pse.wok.rs{p:Pse}(h:p.wok):fv [[p.turn.t,p.at_.x],[p.at_.y]]:=by
 intro x hx;simp only[mem_cons,not_mem_nil,or_false]at hx;rcases hx with rfl |rfl
 ·refine ⟨fun r hr => ?_, by show 2 <= _; omega⟩;simp only [mem_cons,not_mem_nil,or_false] at hr;rcases hr with rfl | rfl
  ·exact h.t
  ·exact h.x
 ·refine⟨fun r hr => ?_,by show 1<=_;omega⟩;simp only[mem_cons,not_mem_nil,or_false]at hr;subst hr;exact h.y
def tG(p:Pse):Bool:=kI [] [[p.turn.t,p.at_.x],[p.at_.y]]
def p5(l:Li)(ps:List Pse):Bool:=ps.all tG&&(decide (ps.length<=20)&&k9 l)
def Ad(l:Li)(ps:List Pse):AV:=.agg [.v (.string l.name),.lst 2 (l.bo.map Bd.av),.lst 7 (l.jo.map Jt.av),.lst 2 (l.dv.map Dr.av),.lst 10 (ps.map Pse.av)]
structure Pse.lok(p:Pse):Prop where
  ok:p.rok
  t:Qb 96 p.turn.t.q
  x:Qb 96 p.at_.x.q
  y:Qb 96 p.at_.y.q
theorem OY{p:Pse}(h:tG p=true)(ho:p.wok):p.lok:=by
 unfold tG kI at h;rw[if_pos (.inl (zero_le _))]at h;unfold lE at h;rw[nil_append,all_eq_true]at h;obtain⟨_,h1,o1⟩:=o8 (h _ (mem_cons_self ..)) oz oz (ho.rs _ (mem_cons_self ..)).1;obtain⟨_,h2,o2⟩:=o8 (h _ (mem_cons_of_mem _ (mem_cons_self ..))) oz oz (ho.rs _ (mem_cons_of_mem _ (mem_cons_self ..))).1;exact⟨⟨o1 _ (by simp),o1 _ (by simp),o2 _ (by simp)⟩,h1 _ (by simp[lq]),h1 _ (by simp[lq]),h2 _ (by simp[lq])⟩
theorem KA{a b w:Nat}(h:cond (ac .gtr (a:Int) (w:Int)) true (ac .gtr (b:Int) (w:Int))=true):¬(a<=w/\b<=w):=by
 simp only[ac]at h
 by_cases h1:(w:Int)<a
 ·omega
 ·rw[decide_eq_false oz]at h;have:(w:Int)<b:=of_decide_eq_true h;omega
theorem KJ{a b w:Nat}(h:cond (ac .gtr (a:Int) (w:Int)) true (ac .gtr (b:Int) (w:Int))=false):a<=w/\b<=w:=by
 simp only[ac]at h
 by_cases h1:(w:Int)<a
 ·rw[decide_eq_true oz]at h;cases h
 ·rw[decide_eq_false oz]at h;have:¬(w:Int)<b:=of_decide_eq_false h;omega
theorem Iu{n:Nat}:cond (ac .leq (n:Int) 1) true (cond (ac .gtr (n:Int) 5) (ac .leq (n:Int) 8) false)=decide (n<=1\/(5<n/\n<=8)):=by
 have e1:ac .leq (n:Int) 1=decide (n<=1):=decide_eq_decide.2 oz;have e2:ac .gtr (n:Int) 5=decide (5<n):=decide_eq_decide.2 oz;have e3:ac .leq (n:Int) 8=decide (n<=8):=decide_eq_decide.2 oz;rw[e1,e2,e3,Bool.eq_iff_iff,decide_eq_true_eq]
 by_cases h1:n<=1
 ·rw[decide_eq_true h1];exact⟨fun _=>.inl h1,fun _=>rfl⟩
 ·rw[decide_eq_false h1]
  by_cases h2:5<n
  ·rw[decide_eq_true h2];exact⟨fun h=>.inr ⟨h2,of_decide_eq_true h⟩,fun h=>decide_eq_true oz⟩
  ·rw[decide_eq_false h2];exact⟨fun h=>(by cases h),fun h=>oz⟩
theorem PD{n:Nat}(h:cond (ac .leq (n:Int) 1) true (cond (ac .gtr (n:Int) 5) (ac .leq (n:Int) 8) false)=true):n<=1\/(5<n/\n<=8):=by
 rw[Iu]at h;exact of_decide_eq_true h
theorem Ss{n:Nat}(h:cond (ac .leq (n:Int) 1) true (cond (ac .gtr (n:Int) 5) (ac .leq (n:Int) 8) false)=false):¬(n<=1\/(5<n/\n<=8)):=by
 rw[Iu]at h;exact of_decide_eq_false h
theorem uU{n k:Nat}:ac .leq (n:Int) (k:Int)=decide (n<=k):=by simp only[ac];exact decide_eq_decide.2 oz
theorem uY{n k:Nat}:ac .gtr (n:Int) (k:Int)=decide (k<n):=by simp only[ac];exact decide_eq_decide.2 oz
theorem s9(a b:Bool):cond a true b=(a||b):=by cases a <;> rfl
theorem QD{l:Li}(h:l.bo.all nN=true) :
  cond (cond (ac .leq (l.bo.length:Int) 30) (ac .leq (l.jo.length:Int) 60) false) (ac .leq (l.dv.length:Int) 30) false=k9 l:=by
 unfold k9;have e1:=uU (n:=l.bo.length) (k:=30);have e2:=uU (n:=l.jo.length) (k:=60);have e3:=uU (n:=l.dv.length) (k:=30);rw[h,Bool.true_and,gX,gX];refine(congr (congrArg _ (congr (congrArg _ e1) e2)) e3).trans ?_;rw[<- Bool.decide_and,<- Bool.decide_and];exact decide_eq_decide.2 ⟨fun h=>⟨h.1.1,h.1.2,h.2⟩,fun h=>⟨⟨h.1,h.2.1⟩,h.2.2⟩⟩
theorem Pi{l:Li}{ps:List Pse}(h:ps.all tG=true):cond (ac .leq (ps.length:Int) 20) (k9 l) false=p5 l ps:=by
 unfold p5;have e1:=uU (n:=ps.length) (k:=20);rw[h,Bool.true_and,gX];exact congrArg (· && k9 l) e1
theorem GW{m:Mk}:cond (cond (cond (ac .gtr (m.x.num.length:Int) 4) true (ac .gtr (m.x.den.length:Int) 4)) true (ac .gtr (m.y.num.length:Int) 4)) true (ac .gtr (m.y.den.length:Int) 4)=!kT m:=by
 unfold kT;have e1:=uY (n:=m.x.num.length) (k:=4);have e2:=uY (n:=m.x.den.length) (k:=4);have e3:=uY (n:=m.y.num.length) (k:=4);have e4:=uY (n:=m.y.den.length) (k:=4);rw[s9,s9,s9];refine(congr (congrArg _ (congr (congrArg _ (congr (congrArg _ e1) e2)) e3)) e4).trans ?_;rw[<- Bool.decide_or,<- Bool.decide_or,<- Bool.decide_or,<- decide_not];exact decide_eq_decide.2 oz
theorem QE{m:Mk}(h:cond (cond (cond (ac .gtr (m.x.num.length:Int) 4) true (ac .gtr (m.x.den.length:Int) 4)) true (ac .gtr (m.y.num.length:Int) 4)) true (ac .gtr (m.y.den.length:Int) 4)=true):kT m=false:=by
 rw[GW]at h;exact dH h
theorem SG{m:Mk}(h:cond (cond (cond (ac .gtr (m.x.num.length:Int) 4) true (ac .gtr (m.x.den.length:Int) 4)) true (ac .gtr (m.y.num.length:Int) 4)) true (ac .gtr (m.y.den.length:Int) 4)=false):kT m=true:=by
 rw[GW]at h;exact dC h
open Go.Proofs
theorem Po{m:List Nat}{n:Nat}(hm:Ws m)(hn:n<=m.length)(hv:val (m.take n)=val m)(h0:n≠0)(hw:am m (n-1)≠0) :
  AV.fz 24 1 ([]++((m.map u32).drop 0).take (n-0)) (.ms 24 1 0 (0+(((m.map u32).drop 0).take (n-0)).length))=ws (ofNat (val m)):=by
 have h1:m.take n=ofNat (val m):=by
  refine Iw (fun x hx=>hm x (mem_of_mem_take hx)) ?_ hv;intro x hx;rw[List.getLast?_eq_getElem?,length_take,Nat.min_eq_left hn,getElem?_take,if_pos oz,jM oz]at hx;cases hx;exact hw
 rw[uE (by simp),<- h1,ws];simp[map_take,Nat.min_eq_left hn,List.take_take]
theorem Sb(b:Bool)(n:Nat):AV.agg [bl (bif b then ac BinOp.gtr (↑(ofNat n).length) 0 else false),ws (ofNat n)]=zA (sgn b n):=by
 have h1:(sgn b n).natAbs=n:=by unfold sgn;split <;> omega
 unfold zA ofInt Wh.av;dsimp only;rw[h1];congr 3
 have h2:(ofNat n).length=0↔n=0:=by
  rw[List.length_eq_zero_iff];constructor
  ·intro h;have:=ci n;rw[h]at this;exact this.symm
  ·intro h;rw[h];rfl
 cases b with
 |false=>simp[sgn]
 |true=>simp[sgn,ac];omega
theorem rD(m:List Nat)(i:Nat)(hm:Ws m):FP 397 [ws m,i64 i] (u64 (am m i)):=by
 refine aj func397 ?_;refine gl ?_;refine gC (fun t8=>?_) (fun t8=>?_)
 ·simp[ac]at t8;have:=bW hm i;refine gi (cz (i:=i) t8) ?_;refine gv (u64_in oz) ?_;refine af ?_;rfl
 simp[ac]at t8;refine af ?_;simp[u64,pM t8]
theorem mc(m:List Nat)(hm:Ws m)(hb:m.length<=aD):FP 373 [ws m] (ws (ofNat (val m))):=by
 refine aj func373 ?_ (0,0);refine sO (t:=0) rfl (fun hl=>?_);refine go ?_;refine gl ?_;refine a5 [0] [] (fun(n:Nat)=>[(3,some (i64 n))]) (fun _=>[]) (fun n=>n<=m.length/\val (m.take n)=val m) (fun n=>n) m.length ⟨le_refl _,by rw[take_length]⟩ ?_;rintro n ⟨hn,hv⟩ K1 J1;refine oa (fun h=>(jH (by simp[ac]at h;omega) oz)) ?_;refine jw (fun h=>(cz (i:=n-1) (by simp[ac]at h;omega))) ?_;refine gC (fun t15=>?_) (fun t15=>?_)
 ·have t15 : 0 < n /\ am m (n - 1) = 0 := by simpa [ac] using t15
  refine ga (jH oz oz) ?_;exact aT J1 (n-1) ⟨by omega,by have h:=@dk m (n-1);rw[show n-1+1=n by omega,t15.2]at h;simp at h;omega⟩
 have t15:0<n->am m (n-1)≠0:=by simpa[ac]using t15
 refine gC (fun t19=>?_) (fun t19=>?_)
 ·have h0 : n = 0 := by simpa [ac] using t19
  subst h0;refine gR ?_;exact iF (by rw[show val m=0 from hv.symm.trans rfl];exact Sub.nil _ _ _)
 have h0:n≠0:=by simpa[ac]using t19
 refine gs (kE T43 rfl T350 rfl rfl rfl) ?_;refine gs (cT (.tmp rfl) (.none _) (.some _ (.tmp rfl) oz) T43 rfl T350 rfl oz (by simp;omega) rfl) ?_;refine gs (da (.tmp rfl) rfl rfl (.tmp rfl) T43 rfl T350 rfl rfl (by unfold aD at hb;simp only[length_take,List.length_drop,length_map];omega) rfl rfl) ?_ (77777,0);refine gW (Wk.freeze (k:=24) rfl) ?_;refine go ?_;refine gR ?_;exact EI (Po hm hn hv h0 (t15 oz))
theorem vO(w:Wh)(h:w.ok):FP 303 [w.av] (bl w.valid):=by
 have hl:w.mag.length<=a9:=h.2;refine aj func303 ?_;refine gl ?_;refine gC (fun t6=>?_) (fun t6=>?_)
 ·have h0 : w.mag = [] := by simpa [ac] using t6
  refine af ?_;simp[bl,Wh.valid,h0]
 have h0:w.mag.length≠0:=by simpa[ac]using t6
 refine gl ?_;refine ga (jH oz oz) ?_;refine gi (cz (i:=w.mag.length-1) oz) ?_;refine af ?_;have h1:w.mag≠[]:=fun h=>h0 (by rw[h];rfl)
 simp only[bl,Wh.valid,if_neg h1,List.getLast?_eq_getElem?,jM (show w.mag.length-1<w.mag.length by omega),ac];congr 2;generalize am w.mag _=x;rw[Bool.eq_iff_iff];simp
theorem jZ(w:Wh)(h:w.ok):FP 325 [w.av] (ws w.m):=by
 refine aj func325 ?_;refine gc (vO w h) ?_;refine gC (fun t5=>?_) (fun t5=>?_)
 ·have h0 : w.valid = false := by simpa [ac] using t5
  refine gR ?_;exact iF (by rw[show w.m=[] by simp[Wh.m,h0]];exact Sub.nil _ _ _)
 have h0:w.valid=true:=by simpa[ac]using t5
 refine af ?_;simp only[Wh.m,h0];rfl
theorem iS(w:Wh)(h:w.ok):FP 324 [w.av] (bl w.n):=by
 refine aj func324 ?_;refine gc (vO w h) ?_;refine af ?_;simp only[Wh.n,bl];cases w.valid <;> rfl
theorem jY(b:Bool)(m:List Nat)(hm:Ws m)(hb:m.length<=aD):FP 323 [bl b,ws m] (zA (sgn b (val m))):=by
 refine aj func323 ?_;refine gc (mc m hm hb) ?_;refine cO ?_;refine af ?_;exact Sb b (val m)
theorem yI(a b:List Nat)(ha:Ws a)(hb:Ws b)(na:Nz a)(nb:Nz b):FP 366 [ws a,ws b] (i64 (if val a<val b then -1 else if val b<val a then 1 else 0)):=by
 refine aj func366 ?_ (0,0);refine sO (t:=0) rfl (fun hla=>?_);refine sO (t:=1) rfl (fun hlb=>?_);unfold a9 at hla hlb;refine go ?_;refine gl ?_;refine gl ?_;refine gC (fun t10=>?_) (fun t10=>?_)
 ·have h0 : a.length ≠ b.length := by simpa [ac, Int.ofNat_inj] using t10
  refine gl ?_;refine gl ?_;refine gC (fun t15=>?_) (fun t15=>?_)
  ·have h1 : a.length < b.length := by simpa [ac] using t15
   have h2:=tL ha nb h1;refine af ?_;simp[i64,h2]
  have h1:b.length<=a.length:=by simpa[ac]using t15
  have h2:=tL hb na (show b.length<a.length by omega);refine af ?_;simp[i64,h2,Nat.lt_asymm h2]
 have h0:a.length=b.length:=by simpa[ac,Int.ofNat_inj]using t10
 refine gl ?_;refine ga (dT oz) ?_;refine a5 [0,1] [] (fun(n:Nat)=>[(5,some (i64 ((n:Int)-1)))]) (fun _=>[]) (fun n=>n<=a.length/\a.drop n=b.drop n) (fun n=>n) a.length ⟨le_refl _,by rw[List.drop_length,h0,List.drop_length]⟩ ?_ (h1:=(.cons rfl (Sub.int rfl) .nil));rintro n ⟨hn,hd⟩ K1 J1;refine gC (fun t20=>?_) (fun t20=>?_)
 ·have hn0 : 1 <= n := by have := t20; simp [ac] at this; omega
  refine gi (f6 (n:=n-1) oz (by first |omega |(simp;omega))) ?_;refine gi (f6 (n:=n-1) oz (by first |omega |(simp;omega))) ?_;refine gD ?_;refine gC (fun t31=>?_) (fun t31=>?_)
  ·have h3 : am a (n - 1) ≠ am b (n - 1) := by simpa [ac, Int.ofNat_inj] using t31
   refine gi (f6 (n:=n-1) oz (by first |omega |(simp;omega))) ?_;refine gi (f6 (n:=n-1) oz (by first |omega |(simp;omega))) ?_;refine gD ?_;refine gC (fun t40=>?_) (fun t40=>?_)
   ·have h4 : am a (n - 1) < am b (n - 1) := by simpa [ac] using t40
    have h5:=Gb ha h0 oz (by rw[Nat.sub_add_cancel hn0];exact hd) h4;refine af ?_;simp[i64,h5]
   have h4:am b (n-1)<am a (n-1):=by have:am b (n-1)<=am a (n-1):=(by simpa[ac]using t40);omega
   have h5:=Gb hb h0.symm oz (by rw[Nat.sub_add_cancel hn0];exact hd.symm) h4;refine af ?_;simp[i64,h5,Nat.lt_asymm h5]
  have h3:am a (n-1)=am b (n-1):=by simpa[ac,Int.ofNat_inj]using t31
  refine ga (dT oz) ?_;exact aT J1 (n-1) ⟨by omega,by rw[List.drop_eq_getElem_cons (show n-1<a.length by omega),List.drop_eq_getElem_cons (show n-1<b.length by omega),Nat.sub_add_cancel hn0,hd];congr 1;exact Nn oz oz h3⟩
 have hn0:n=0:=by have:=t20;simp[ac]at this;omega
 subst hn0;refine af ?_;simp at hd;simp[i64,hd]
theorem GP(a b:List Nat)(ha:Ws a)(hb:Ws b)(la:a.length<aD)(lb:b.length<aD):FP 370 [ws a,ws b] (ws (ofNat (val a+val b))):=by
 unfold aD at la lb;obtain⟨n,hn⟩:∃n,n=max a.length b.length+1:=⟨_,rfl⟩
 refine aj func370 ?_;refine gl ?_;refine gl ?_;refine gs (pc (.tmp rfl) (.tmp rfl) rfl) ?_;refine ga (show _=(n:Int) by rw[c9 oz];omega) ?_;refine gs (it (.tmp rfl) T43 rfl T350 rfl rfl oz (by dsimp only;omega) rfl) ?_;refine i9 [0,1,16] [] (fun(out:List Nat)(c i:Nat)=>[(5,some (.ms 14 1 0 n)),(6,some (u64 c)),(17,some (i64 i))]) (fun out _ _=>[(14,some (.row 1 (out.map u32)))]) (fun out c i=>out.length=n/\i<=n/\Ws out/\c<=1/\val (out.take i)+c*4294967296^i=val (a.take i)+val (b.take i)) (fun _ _ i=>n-i) (List.replicate n 0) 0 0 ⟨by simp,by omega,k8 n,by omega,by simp[val]⟩ ?_ (h2:=(.cons rfl (BlkSub.of (by rw[map_replicate];rfl)) .nil))
 rintro out c i ⟨ho,hi,hw,hc,hv⟩ K1 J1;refine gC (fun t18=>?_) (fun t18=>?_) (st2:=(10,0))
 ·have hin : i < n := by simpa [ac] using t18
  have h1:=bW ha i;have h2:=bW hb i;refine gc (by apply rD <;> assumption) ?_;refine gc (by apply rD <;> assumption) ?_;refine ga (iU oz) ?_;refine ga (iU oz) ?_;refine gv (dJ _) ?_;refine gs (b8 (n:=i) (.tmp rfl) (.tmp rfl) T43 rfl T350 rfl oz (by first |omega |(simp;omega)) rfl) ?_;refine gs (dF (.tmp rfl) rfl (cz (i:=i) oz) rfl (.tmp rfl) rfl rfl T350 rfl rfl) ?_;refine gs (eQ (.tmp rfl) (.const _) oz (f8 _ 32 oz) rfl) ?_;refine ga (c9 oz) ?_;exact ia J1 (out.set i ((c+(am a i+am b i))%4294967296)) ((c+(am a i+am b i))/4294967296) (i+1) ⟨by simp[ho],by omega,f0 hw oz,by omega,by rw[lw oz,dk,dk,Nat.pow_succ];exact z9 hv⟩ (hw:=Wk.of bj (.cons rfl (BlkSub.of (by rw[map_set];rfl)) .nil))
 have hin:i=n:=by have:n<=i:=(by simpa[ac]using t18);omega
 refine gW ((Wk.freeze (k:=14) rfl).trans<|Wk.of (sl:=[(5,some (ws out))]) (hp:=[]) (.cons rfl (Sub.of (cw (by simp[ho]))) .nil) .nil) ?_;refine gc (mc out hw (by unfold aD;omega)) ?_;refine af ?_;rw[Gs ha hb hn ho (hin▸hv)]
theorem yw(a b:List Nat)(ha:Ws a)(hb:Ws b)(la:a.length<=aD)(lb:b.length<=a.length)(hle:val b<=val a):FP 371 [ws a,ws b] (ws (ofNat (val a-val b))):=by
 have la':=la;unfold aD at la;obtain⟨n,hn⟩:∃n,n=a.length:=⟨_,rfl⟩
 refine aj func371 ?_;refine gl ?_;refine gs (it (.tmp rfl) T43 rfl T350 rfl rfl oz (by dsimp only;omega) rfl) ?_;refine i9 [0,1,13] [] (fun(out:List Nat)(c i:Nat)=>[(5,some (.ms 11 1 0 a.length)),(6,some (u64 c)),(14,some (i64 i))]) (fun out _ _=>[(11,some (.row 1 (out.map u32)))]) (fun out c i=>out.length=a.length/\i<=a.length/\Ws out/\c<=1/\val (out.take i)+val (b.take i)=val (a.take i)+c*4294967296^i) (fun _ _ i=>a.length-i) (List.replicate a.length 0) 0 0 ⟨by simp,by omega,k8 _,by omega,by simp[val]⟩ ?_ (h2:=(.cons rfl (BlkSub.of (by rw[map_replicate];rfl)) .nil))
 rintro out c i ⟨ho,hi,hw,hc,hv⟩ K1 J1;refine gC (fun t15=>?_) (fun t15=>?_) (st2:=(10,0))
 ·have hin : i < a.length := by simpa [ac] using t15
  have h1:=bW ha i;have h2:=bW hb i;have h3:=GT h1 h2 hc hv;obtain⟨d,hd⟩:∃d,d=if am b i+c<=am a i then am a i-am b i-c else am a i+18446744073709551616-am b i-c:=⟨_,rfl⟩
  rw[<- hd]at h3;have hd1:d<18446744073709551616:=by rw[hd];split <;> omega
  refine gi (f6 (n:=i) oz (by first |omega |(simp;omega))) ?_;refine gv (u64_in oz) ?_;refine gc (by apply rD <;> assumption) ?_;refine ga (kM oz oz) ?_;refine ga (show _=(d:Int) by rw[kM (by split <;> omega) oz,hd];congr 1;(repeat' split) <;> omega) ?_;refine gD ?_;refine gv (dJ _) ?_;refine gs (b8 (n:=i) (.tmp rfl) (.tmp rfl) T43 rfl T350 rfl oz (by first |omega |(simp;omega)) rfl) ?_;refine gs (dF (.tmp rfl) rfl (cz (i:=i) oz) rfl (.tmp rfl) rfl rfl T350 rfl rfl) ?_;refine gs (eQ (.tmp rfl) (.const _) oz (f8 _ 63 oz) rfl) ?_;refine ga (c9 oz) ?_;exact ia J1 (out.set i (d%4294967296)) (d/2^63) (i+1) ⟨by simp[ho],by omega,f0 hw oz,by omega,by rw[lw oz,dk,dk,Nat.pow_succ];exact h3⟩ (hw:=Wk.of bj (.cons rfl (BlkSub.of (by rw[map_set];rfl)) .nil))
 have hin:i=a.length:=by have:a.length<=i:=(by simpa[ac]using t15);omega
 refine gW ((Wk.freeze (k:=11) rfl).trans<|Wk.of (sl:=[(5,some (ws out))]) (hp:=[]) (.cons rfl (Sub.of (cw (by simp[ho]))) .nil) .nil) ?_;refine gc (mc out hw (by rw[ho];exact la')) ?_;refine af ?_;rw[SF hw ho hle lb (hin▸hv)]
theorem So(a b:List Nat)(ha:Ws a)(hb:Ws b)(la:a.length+b.length<=aD):FP 372 [ws a,ws b] (ws (ofNat (val a*val b))):=by
 have la':=la;unfold aD at la;refine aj func372 ?_;refine gl ?_;refine gl ?_;refine ga (jK (by unfold a9;omega) (by unfold a9;omega)) ?_;refine gs (it (.tmp rfl) T43 rfl T350 rfl rfl oz (by dsimp only;omega) rfl) ?_;refine gl ?_;refine hO [0,1,17,18] [] (fun(out:List Nat)(i:Nat)=>[(5,some (.ms 16 1 0 (a.length+b.length))),(19,some (i64 i))]) (fun out _=>[(16,some (.row 1 (out.map u32)))]) (fun out i=>out.length=a.length+b.length/\i<=a.length/\Ws out/\val (out.take (i+b.length))=val (a.take i)*val b) (fun _ i=>a.length-i) (List.replicate (a.length+b.length) 0) 0 ⟨by simp,by omega,k8 _,by simp[val,uO]⟩ ?_ (h2:=(.cons rfl (BlkSub.of (by rw[map_replicate];rfl)) .nil))
 rintro out i ⟨ho,hi,hw,hv⟩ K1 J1;refine gC (fun t20=>?_) (fun t20=>?_) (st2:=(15,0))
 ·have hin : i < a.length := by simpa [ac] using t20
  have h1:=bW ha i;refine gi (f6 (n:=i) oz (by first |omega |(simp;omega))) ?_;refine gl ?_;refine i9 [0,1,17,18,19,6,7,24,25] [] (fun(o:List Nat)(c k:Nat)=>[(5,some (.ms 16 1 0 (a.length+b.length))),(8,some (u64 c)),(26,some (i64 k))]) (fun o _ _=>[(16,some (.row 1 (o.map u32)))]) (fun o c k=>o.length=a.length+b.length/\k<=b.length/\Ws o/\c<4294967296/\val (o.take (i+b.length))+c*4294967296^(i+k)=val (out.take (i+b.length))+4294967296^i*(am a i*val (b.take k))) (fun _ _ k=>b.length-k) out 0 0 ⟨ho,by omega,hw,by omega,by simp[val]⟩ ?_
  rintro o c k ⟨ho2,hk,hw2,hc,hv2⟩ K2 J2;refine gC (fun t27=>?_) (fun t27=>?_)
  ·have hkn : k < b.length := by simpa [ac] using t27
   have h2:=bW hb k;have h3:=bW hw2 (i+k);have h4:=uA h1 h2;have h5:=GQ (x:=(c+(am a i*am b k+am o (i+k)))%4294967296) (show i+k<o.length by omega) (show i+k<i+b.length by omega);have h6:=Gp h5 rfl hv2;refine gi (f6 (n:=k) oz (by first |omega |(simp;omega))) ?_;refine gv (u64_in oz) ?_;refine gv (u64_in oz) ?_;refine ga (wR oz) ?_;refine ga (jK (by unfold a9;omega) (by unfold a9;omega)) ?_;refine gs (b8 (n:=i+k) (.tmp rfl) (.tmp rfl) T43 rfl T350 rfl oz (by first |omega |(simp;omega)) rfl) ?_;refine gs (d8 (.tmp rfl) rfl (cz (i:=i+k) oz) T350 rfl rfl rfl) ?_;refine gv (u64_in oz) ?_;refine ga (iU oz) ?_;refine ga (iU oz) ?_;refine ga (jK (by unfold a9;omega) (by unfold a9;omega)) ?_;refine gv (dJ _) ?_;refine gs (b8 (n:=i+k) (.tmp rfl) (.tmp rfl) T43 rfl T350 rfl oz (by first |omega |(simp;omega)) rfl) ?_;refine gs (dF (.tmp rfl) rfl (cz (i:=i+k) oz) rfl (.tmp rfl) rfl rfl T350 rfl rfl) ?_;refine gs (eQ (.tmp rfl) (.const _) oz (f8 _ 32 oz) rfl) ?_;refine ga (c9 oz) ?_;exact ia J2 (o.set (i+k) ((c+(am a i*am b k+am o (i+k)))%4294967296)) ((c+(am a i*am b k+am o (i+k)))/4294967296) (k+1) ⟨by simp[ho2],by omega,f0 hw2 oz,by omega,by rw[show i+(k+1)=(i+k)+1 from rfl,Nat.pow_succ,h6,dk];simp only[pow_add];grind⟩ (hw:=Wk.of bj (.cons rfl (BlkSub.of (by rw[map_set];rfl)) .nil))
  have hkn:k=b.length:=by have:b.length<=k:=(by simpa[ac]using t27);omega
  subst hkn;have h5:=lw (x:=c) (show i+b.length<o.length by omega);rw[take_length]at hv2;refine gl ?_;refine ga (jK (by unfold a9;omega) (by unfold a9;omega)) ?_;refine gv ((dJ c).trans (by rw[Nat.mod_eq_of_lt hc])) ?_;refine gs (b8 (n:=i+b.length) (.tmp rfl) (.tmp rfl) T43 rfl T350 rfl oz (by first |omega |(simp;omega)) rfl) ?_;refine gs (dF (.tmp rfl) rfl (cz (i:=i+b.length) oz) rfl (.tmp rfl) rfl rfl T350 rfl rfl) ?_;refine ga (c9 oz) ?_;exact gT J1 (o.set (i+b.length) c) (i+1) ⟨by simp[ho2],by omega,f0 hw2 hc,by rw[show i+1+b.length=i+b.length+1 by omega,h5,dk];simp only[pow_add]at *;grind⟩ (hw:=Wk.of bj (.cons rfl (BlkSub.of (by rw[map_set];rfl)) .nil))
 have hin:i=a.length:=by have:a.length<=i:=(by simpa[ac]using t20);omega
 subst hin;rw[take_length,eZ oz]at hv;refine gW ((Wk.freeze (k:=16) rfl).trans<|Wk.of (sl:=[(5,some (ws out))]) (hp:=[]) (.cons rfl (Sub.of (cw (by simp[ho]))) .nil) .nil) ?_;refine gc (mc out hw oz) ?_;refine af ?_;rw[hv]
theorem Kd(a:List Nat)(w:Nat)(ha:Ws a)(la:a.length<=aD)(hw0:0<w)(hwB:w<4294967296):FP 391 [ws a,u32 w] (.tup [ws (ofNat (val a/w)),u32 (val a%w)]):=by
 have la':=la;unfold aD at la;refine aj func391 ?_;refine gl ?_;refine gs (it (.tmp rfl) T43 rfl T350 rfl rfl oz (by dsimp only;omega) rfl) ?_;refine gl ?_;refine ga (dT oz) ?_;refine i9 [0,1] [] (fun(out:List Nat)(r i:Nat)=>[(6,some (.ms 11 1 0 a.length)),(7,some (u64 r)),(8,some (i64 ((i:Int)-1)))]) (fun out _ _=>[(11,some (.row 1 (out.map u32)))]) (fun out r i=>out.length=a.length/\i<=a.length/\Ws out/\r<w/\val (a.drop i)=w*val (out.drop i)+r) (fun _ _ i=>i) (List.replicate a.length 0) 0 a.length ⟨by simp,by omega,k8 _,by omega,by simp[val]⟩ ?_ (h2:=(.cons rfl (BlkSub.of (by rw[map_replicate];rfl)) .nil))
 rintro out r i ⟨ho,hi,hw,hr,hv⟩ K1 J1;refine gC (fun t16=>?_) (fun t16=>?_) (st2:=(9,0))
 ·have hn0 : 1 <= i := by have := t16; simp [ac] at this; omega
  obtain⟨k,rfl⟩:∃k,i=k+1:=⟨i-1,by omega⟩
  have h1:=bW ha k;have h2:=Nx hr h1;refine gs (gG (.tmp rfl) (.const _) oz (q8 (n:=32) oz oz) rfl) ?_;refine gi (f6 (n:=k) oz (by first |omega |(simp;omega))) ?_;refine gv (u64_in oz) ?_;refine gs (jk (.tmp rfl) (.tmp rfl) rfl ((tO oz oz).trans (by rw[rH oz])) rfl) ?_;refine gv (u64_in oz) ?_;refine gs (eW (.tmp rfl) (.tmp rfl) oz (Ih oz) rfl) ?_;refine gv ((dJ _).trans (by rw[Nat.mod_eq_of_lt h2])) ?_;refine gs (b8 (n:=k) (.tmp rfl) (.tmp rfl) T43 rfl T350 rfl oz (by first |omega |(simp;omega)) rfl) ?_;refine gs (dF (.tmp rfl) rfl (cz (i:=k) oz) rfl (.tmp rfl) rfl rfl T350 rfl rfl) ?_;refine gv (u64_in oz) ?_;refine gs (tN (.tmp rfl) (.tmp rfl) oz Dq rfl) ?_;refine ga (dT oz) ?_;exact ia J1 (out.set k ((r*2^32+am a k)/w)) ((r*2^32+am a k)%w) k ⟨by simp[ho],by omega,f0 hw h2,Nat.mod_lt _ hw0,Th oz oz hv⟩ (hw:=Wk.of bj (.cons rfl (BlkSub.of (by rw[map_set];rfl)) .nil))
 have hin:i=0:=by have:=t16;simp[ac]at this;omega
 subst hin;obtain⟨h3,h4⟩:=vt hv hr;simp only[drop_zero]at h3 h4;refine gW ((Wk.freeze (k:=11) rfl).trans<|Wk.of (sl:=[(6,some (ws out)),(7,some (u64 r))]) (hp:=[]) (.cons rfl (Sub.of (cw (by simp[ho]))) (.k .nil)) .nil) ?_;refine gc (mc out hw oz) ?_;refine gv ((dJ _).trans (by rw[Nat.mod_eq_of_lt oz])) ?_;refine bF ?_;rw[h3,h4];rfl
theorem Cl(d:Nat)(hd:Nat.blt d 1000=true)(a:List Nat)(n:Nat)(ha:Ws a)(la:a.length<aD)(hn:n<32):Con prog 393 [ws a,i64 n] [] (.ms d 1 0 (a.length+1)) [(d,some (.row 1 ((bq (a.length+1) (2^n*val a)).map u32)))]:=by
 have la':=la;unfold aD at la;refine gF func393 (fun k z h=>by cases h) ?_;refine gl ?_;refine ga (jK (y:=1) (by unfold a9;omega) (by unfold a9;omega)) ?_;refine gs (it (.tmp rfl) T43 rfl T350 rfl rfl oz (by dsimp only;omega) rfl) ?_;refine gl ?_;refine hO [0,1,13,14] [] (fun(out:List Nat)(i:Nat)=>[(5,some (.ms 12 1 0 (a.length+1))),(15,some (i64 i))]) (fun out _=>[(12,some (.row 1 (out.map u32)))]) (fun out i=>out.length=a.length+1/\i<=a.length/\Ws out/\am out i<2^n/\val (out.take (i+1))=2^n*val (a.take i)) (fun _ i=>a.length-i) (List.replicate (a.length+1) 0) 0 ⟨by simp,by omega,k8 _,by simp[am,Nat.pow_pos],by simp[val,List.replicate_succ]⟩ ?_ (h2:=(.cons rfl (BlkSub.of (by rw[map_replicate];rfl)) .nil))
 rintro out i ⟨ho,hi,hw,hr,hv⟩ K1 J1;refine gC (fun t16=>?_) (fun t16=>?_)
 ·have hin : i < a.length := by simpa [ac] using t16
  have h1:=bW ha i;have h2:=Tg (a:=a) (i:=i) (n:=n) (show i+1<out.length by omega) hv;have h3:=Jp (x:=am a i) hn hr;have h4:=Pc (n:=n) h1;have h5:2^n<=2^31:=oY oz;have h6:am a i*2^n<=am a i*2^31:=mul_le_mul_left _ h5;have h7:=bW hw i;refine gi (f6 (n:=i) oz (by first |omega |(simp;omega))) ?_;refine gv (u64_in oz) ?_;refine gs (gG (.tmp rfl) (.tmp rfl) oz (q8 oz oz) rfl) ?_;refine gs (b8 (n:=i) (.tmp rfl) (.tmp rfl) T43 rfl T350 rfl oz (by first |omega |(simp;omega)) rfl) ?_;refine gs (d8 (.tmp rfl) rfl (cz (i:=i) oz) T350 rfl rfl rfl) ?_;refine gv (dJ _) ?_;refine gs (jk (.tmp rfl) (.tmp rfl) rfl ((xy oz oz).trans (by rw[VF hn hr])) rfl) ?_;refine gs (b8 (n:=i) (.tmp rfl) (.tmp rfl) T43 rfl T350 rfl oz (by first |omega |(simp;omega)) rfl) ?_;refine gs (dF (.tmp rfl) rfl (cz (i:=i) oz) rfl (.tmp rfl) rfl rfl T350 rfl rfl) ?_;refine ga (jK (y:=1) (by unfold a9;omega) (by unfold a9;omega)) ?_;refine gs (eQ (.tmp rfl) (.const _) oz (f8 _ 32 oz) rfl) ?_;refine gv ((dJ _).trans (by rw[Nat.mod_eq_of_lt (show am a i*2^n/2^32<4294967296 by omega)])) ?_;refine gs (b8 (n:=i+1) (.tmp rfl) (.tmp rfl) T43 rfl T350 rfl oz (by first |omega |(simp;omega)) rfl) ?_;refine gs (dF (.tmp rfl) rfl (by rw[List.getElem?_set_ne oz];exact cz (i:=i+1) oz) rfl (.tmp rfl) rfl rfl T350 rfl rfl) ?_;refine ga (c9 oz) ?_;exact gT J1 ((out.set i (am out i+am a i*2^n%4294967296)).set (i+1) (am a i*2^n/4294967296)) (i+1) ⟨by simp[ho],by omega,f0 (f0 hw oz) oz,by rw[N5 (by simp;omega)];exact h4,h2⟩ (hw:=Wk.of bj (.cons rfl (BlkSub.of (by rw[map_set,map_set];rfl)) .nil))
 have hin:i=a.length:=by have:a.length<=i:=(by simpa[ac]using t16);omega
 subst hin;rw[take_length,eZ oz]at hv;refine gR ?_;exact aH.own1 rfl hd (by rw[xm hw ho hv])
theorem SM(a:List Nat)(n:Nat)(ha:Ws a)(la:a.length<=aD)(hn:n<32):FP 396 [ws a,i64 n] (ws (ofNat (val a/2^n))):=by
 have la':=la;unfold aD at la;refine aj func396 ?_;refine gl ?_;refine gs (it (.tmp rfl) T43 rfl T350 rfl rfl oz (by dsimp only;omega) rfl) ?_;refine gl ?_;refine hO [0,1,11] [] (fun(out:List Nat)(i:Nat)=>[(5,some (.ms 9 1 0 a.length)),(12,some (i64 i))]) (fun out _=>[(9,some (.row 1 (out.map u32)))]) (fun out i=>out.length=a.length/\i<=a.length/\Ws out/\val (out.take i)=val a/2^n%4294967296^i) (fun _ i=>a.length-i) (List.replicate a.length 0) 0 ⟨by simp,by omega,k8 _,by simp[val,Nat.mod_one]⟩ ?_ (h2:=(.cons rfl (BlkSub.of (by rw[map_replicate];rfl)) .nil))
 rintro out i ⟨ho,hi,hw,hv⟩ K1 J1;refine gC (fun t13=>?_) (fun t13=>?_) (st2:=(7,0))
 ·have hin : i < a.length := by simpa [ac] using t13
  have h1:=bW ha i;have h2:=bW ha (i+1);have h3:=HQ ha hin (show i<out.length by omega) (show n<=32 by omega) hv;refine gi (f6 (n:=i) oz (by first |omega |(simp;omega))) ?_;refine gv (u64_in oz) ?_;refine ga (jK (y:=1) (by unfold a9;omega) (by unfold a9;omega)) ?_;refine gc (rD a (i+1) ha) ?_;refine gs (gG (.tmp rfl) (.const _) oz (q8 (n:=32) oz oz) rfl) ?_;refine gs (jk (.tmp rfl) (.tmp rfl) rfl ((tO oz oz).trans (by rw[xI oz])) rfl) ?_;refine gs (eQ (.tmp rfl) (.tmp rfl) oz (f8 _ _ oz) rfl) ?_;refine gv (dJ _) ?_;refine gs (b8 (n:=i) (.tmp rfl) (.tmp rfl) T43 rfl T350 rfl oz (by first |omega |(simp;omega)) rfl) ?_;refine gs (dF (.tmp rfl) rfl (cz (i:=i) oz) rfl (.tmp rfl) rfl rfl T350 rfl rfl) ?_;refine gD ?_;refine ga (c9 oz) ?_;exact gT J1 (out.set i ((am a i+am a (i+1)*2^32)/2^n%4294967296)) (i+1) ⟨by simp[ho],by omega,f0 hw oz,h3⟩ (hw:=Wk.of bj (.cons rfl (BlkSub.of (by rw[map_set];rfl)) .nil))
 have hin:i=a.length:=by have:a.length<=i:=(by simpa[ac]using t13);omega
 refine gW ((Wk.freeze (k:=9) rfl).trans<|Wk.of (sl:=[(5,some (ws out))]) (hp:=[]) (.cons rfl (Sub.of (cw (by simp[ho]))) .nil) .nil) ?_;refine gc (mc out hw oz) ?_;refine af ?_;rw[Qd ha ho (hin▸hv)]
theorem MR{b:Nat}{p:Prop}[Decidable p](h:b=1↔p):dK [AV.v (Value.bool (ac BinOp.eql (b:Int) 1))]=bl (decide p):=by
 have:((b:Int)==1)=decide (b=1):=by rw[Bool.eq_iff_iff];simp;omega
 simp only[dK,ac,this,bl];rw[decide_eq_decide.2 h]
theorem Py(u v:List Nat)(off len n:Nat)(hu:Ws u)(hv:Ws v)(hvl:v.length+1<=len)(hj:off+len<=u.length)(hn:n<4294967296)(lu:u.length<=a9) :
  Con prog 394 [.ms 1000 1 off len,ws v,u64 n] [(1000,some (.row 1 (u.map u32)))] (bl (decide (val (bC u off len)<n*val v)))
   [(1000,some (.row 1 ((wr u off (bq len (kg n (val v) (val (bC u off len)) len))).map u32)))]:=by
 unfold a9 at lu;refine gF func394 (fun k z h=>bG h) ?_;refine G6 [1,2,12] [] (fun(o:List Nat)(c b lo i:Nat)=>[(0,some (.ms 1000 1 off len)),(7,some (u64 c)),(8,some (u64 b)),(13,some (i64 i))]) (fun o _ _ _ _=>[(1000,some (.row 1 (o.map u32)))]) (fun o c b lo i=>o.length=u.length/\i<=len/\Ws o/\c<4294967296/\b<=1/\o.take off=u.take off/\o.drop (off+i)=u.drop (off+i)/\lo+c*4294967296^i=n*val (v.take i)/\val (bC o off i)+lo=val (bC u off i)+b*4294967296^i) (fun _ _ _ _ i=>len-i) u 0 0 0 0 ⟨rfl,by omega,hu,by omega,by omega,rfl,rfl,by simp[val],by simp[]⟩ ?_
 rintro o c b lo i ⟨ho,hi,hw,hc,hb,hd1,hd2,hv1,hv2⟩ K1 J1;refine gC (fun t14=>?_) (fun t14=>?_)
 ·have hin : i < len := by simpa [ac] using t14
  have h1:=bW hu (off+i);have h2:=bW hv i;have h0:=rc hd2;have h4:=uA hn h2;obtain⟨c1,hc1⟩:∃c1,c1=c+n*am v i:=⟨_,rfl⟩
  have h3:=GT h1 (show c1%4294967296<4294967296 by omega) hb hv2;obtain⟨d,hd⟩:∃d,d=if c1%4294967296+b<=am u (off+i)then am u (off+i)-c1%4294967296-b else am u (off+i)+18446744073709551616-c1%4294967296-b:=⟨_,rfl⟩
  rw[<- hd]at h3;have hd3:d<18446744073709551616:=by rw[hd];split <;> omega
  have h5:=Ow (w:=am v i) hv1;refine gc (by apply rD <;> assumption) ?_;refine ga (wR oz) ?_;refine ga ((iU oz).trans (by rw[<- hc1])) ?_;refine gs (mt (n:=i) (.tmp rfl) (.tmp rfl) T43 rfl T350 rfl oz (by first |omega |(simp;omega)) rfl) ?_;refine gs (d8 (.tmp rfl) rfl (by rw[cz (show off+i<o.length by omega),h0]) T350 rfl rfl rfl) ?_;refine gv (u64_in oz) ?_;refine gv (dJ _) ?_;refine gv (u64_in oz) ?_;refine ga (kM oz oz) ?_;refine ga (show _=(d:Int) by rw[kM (by split <;> omega) oz,hd];congr 1;(repeat' split) <;> omega) ?_;refine gv (dJ _) ?_;refine gs (mt (n:=i) (.tmp rfl) (.tmp rfl) T43 rfl T350 rfl oz (by first |omega |(simp;omega)) rfl) ?_;refine gs (dF (.tmp rfl) rfl (cz (i:=off+i) oz) rfl (.tmp rfl) rfl rfl T350 rfl rfl) ?_;refine gs (eQ (.tmp rfl) (.const _) oz (f8 _ 63 oz) rfl) ?_;refine gs (eQ (.tmp rfl) (.const _) oz (f8 _ 32 oz) rfl) ?_;refine ga (c9 oz) ?_;exact ER J1 (o.set (off+i) (d%4294967296)) (c1/4294967296) (d/2^63) (lo+4294967296^i*(c1%4294967296)) (i+1) ⟨by simp[ho],by omega,f0 hw oz,by omega,by omega,by rw[List.take_set_of_le oz];exact hd1,tB hd2,by rw[dk,Nat.pow_succ,hc1];exact h5,by rw[Ii oz,FA,Nat.pow_succ];exact h3⟩ (hw:=Wk.of bj (.cons rfl (BlkSub.of (by rw[map_set];rfl)) .nil))
 have hin:i=len:=by have:len<=i:=(by simpa[ac]using t14);omega
 subst hin;obtain⟨h6,h7⟩:=Rw hu hw ho hj hv hvl hn hd1 hd2 hb hv1 hv2;refine gR ?_;exact aH.own2 rfl (by rw[<- h6]) (MR h7)
theorem Tk(u v:List Nat)(off len:Nat)(hu:Ws u)(hv:Ws v)(hvl:v.length<=len)(hj:off+len<=u.length)(lu:u.length<=a9) :
  Con prog 395 [.ms 1000 1 off len,ws v] [(1000,some (.row 1 (u.map u32)))] (.tup [])
   [(1000,some (.row 1 ((wr u off (bq len ((val (bC u off len)+val v)%4294967296^len))).map u32)))]:=by
 unfold a9 at lu;refine gF func395 (fun k z h=>bG h) ?_;refine i9 [1,7] [] (fun(o:List Nat)(c i:Nat)=>[(0,some (.ms 1000 1 off len)),(4,some (u64 c)),(8,some (i64 i))]) (fun o _ _=>[(1000,some (.row 1 (o.map u32)))]) (fun o c i=>o.length=u.length/\i<=len/\Ws o/\c<=1/\o.take off=u.take off/\o.drop (off+i)=u.drop (off+i)/\val (bC o off i)+c*4294967296^i=val (bC u off i)+val (v.take i)) (fun _ _ i=>len-i) u 0 0 ⟨rfl,by omega,hu,by omega,rfl,rfl,by simp[val]⟩ ?_
 rintro o c i ⟨ho,hi,hw,hc,hd1,hd2,hv2⟩ K1 J1;refine gC (fun t9=>?_) (fun t9=>?_)
 ·have hin : i < len := by simpa [ac] using t9
  have h1:=bW hu (off+i);have h2:=bW hv i;have h0:=rc hd2;have h3:=z9 (u:=am u (off+i)) (w:=am v i) hv2;refine gs (mt (n:=i) (.tmp rfl) (.tmp rfl) T43 rfl T350 rfl oz (by first |omega |(simp;omega)) rfl) ?_;refine gs (d8 (.tmp rfl) rfl (by rw[cz (show off+i<o.length by omega),h0]) T350 rfl rfl rfl) ?_;refine gv (u64_in oz) ?_;refine gc (by apply rD <;> assumption) ?_;refine ga (iU oz) ?_;refine ga (iU oz) ?_;refine gD ?_;refine gv (dJ _) ?_;refine gs (mt (n:=i) (.tmp rfl) (.tmp rfl) T43 rfl T350 rfl oz (by first |omega |(simp;omega)) rfl) ?_;refine gs (dF (.tmp rfl) rfl (cz (i:=off+i) oz) rfl (.tmp rfl) rfl rfl T350 rfl rfl) ?_;refine gs (eQ (.tmp rfl) (.const _) oz (f8 _ 32 oz) rfl) ?_;refine ga (c9 oz) ?_;exact ia J1 (o.set (off+i) ((c+(am u (off+i)+am v i))%4294967296)) ((c+(am u (off+i)+am v i))/4294967296) (i+1) ⟨by simp[ho],by omega,f0 hw oz,by omega,by rw[List.take_set_of_le oz];exact hd1,tB hd2,by rw[Ii oz,FA,dk,Nat.pow_succ];exact h3⟩ (hw:=Wk.of bj (.cons rfl (BlkSub.of (by rw[map_set];rfl)) .nil))
 have hin:i=len:=by have:len<=i:=(by simpa[ac]using t9);omega
 subst hin;have h6:=QG hw ho hj hvl hd1 hd2 hv2;refine gR ?_;exact aH.own2 rfl (by rw[<- h6]) rfl
theorem Q2(x:Nat)(hx:x<4294967296):FP 351 [u32 x] (i64 (bf x)):=by
 refine aj func351 ?_;refine gC (fun t4=>?_) (fun t4=>?_)
 ·obtain ⟨y, hy, h2, h3⟩ : ∃ y, y = x / 2 ^ 16 /\ y < 65536 /\ bf x = 16 + bf y := ⟨_, rfl, by omega, rP (by have := t4; simp [ac] at this; omega)⟩
  refine gs (eQ (.tmp rfl) (.const _) oz ((p7 x 16 oz).trans (by rw[<- hy])) rfl) ?_;refine gC (fun t8=>?_) (fun t8=>?_)
  ·have h5 : 2 ^ 8 <= y := by simp [ac] at t8; omega
   obtain⟨z,hz,h6,h7⟩:∃z,z=y/2^8/\z<256/\bf x=(bf x-bf y)+8+bf z:=⟨_,rfl,by omega,by have:=rP h5;omega⟩
   refine gs (eQ (.tmp rfl) (.const _) oz ((p7 _ 8 oz).trans (show _=(z:Int) by first |(rw[hz];done) |(rw[hz,hy];done))) rfl) ?_;refine ga (c9 oz) ?_;refine gv (show IntKind.u8.wrap _=(z:Int) by first |exact jP h6 |(rw[hz];exact jP oz) |(rw[hz,hy];exact jP oz)) ?_;refine gs (sE (y:=z) (.const _) (.tmp rfl) T9 rfl (by kernel_rfl) (by first |rfl |omega) oz rfl) ?_;refine gv (i64_in (by have:=iV h6;omega)) ?_;refine ga (c9 (by have:=iV h6;omega)) ?_;refine af ?_;simp only[i64];congr 2;have:=iV h6;omega
  have h5:y<2^8:=by simp[ac]at t8;omega
  obtain⟨z,hz,h6,h7⟩:∃z,z=y/\z<256/\bf x=(bf x-bf y)+bf z:=⟨_,rfl,by omega,by omega⟩
  refine gv (show IntKind.u8.wrap _=(z:Int) by first |exact jP h6 |(rw[hz];exact jP oz) |(rw[hz,hy];exact jP oz)) ?_;refine gs (sE (y:=z) (.const _) (.tmp rfl) T9 rfl (by kernel_rfl) (by first |rfl |omega) oz rfl) ?_;refine gv (i64_in (by have:=iV h6;omega)) ?_;refine ga (c9 (by have:=iV h6;omega)) ?_;refine af ?_;simp only[i64];congr 2;have:=iV h6;omega
 obtain⟨y,hy,h2,h3⟩:∃y,y=x/\y<65536/\bf x=0+bf y:=⟨_,rfl,by have:=t4;simp[ac]at this;omega,by omega⟩
 refine gC (fun t8=>?_) (fun t8=>?_)
 ·have h5 : 2 ^ 8 <= y := by simp [ac] at t8; omega
  obtain⟨z,hz,h6,h7⟩:∃z,z=y/2^8/\z<256/\bf x=(bf x-bf y)+8+bf z:=⟨_,rfl,by omega,by have:=rP h5;omega⟩
  refine gs (eQ (.tmp rfl) (.const _) oz ((p7 _ 8 oz).trans (show _=(z:Int) by first |(rw[hz];done) |(rw[hz,hy];done))) rfl) ?_;refine ga (c9 oz) ?_;refine gv (show IntKind.u8.wrap _=(z:Int) by first |exact jP h6 |(rw[hz];exact jP oz) |(rw[hz,hy];exact jP oz)) ?_;refine gs (sE (y:=z) (.const _) (.tmp rfl) T9 rfl (by kernel_rfl) (by first |rfl |omega) oz rfl) ?_;refine gv (i64_in (by have:=iV h6;omega)) ?_;refine ga (c9 (by have:=iV h6;omega)) ?_;refine af ?_;simp only[i64];congr 2;have:=iV h6;omega
 have h5:y<2^8:=by simp[ac]at t8;omega
 obtain⟨z,hz,h6,h7⟩:∃z,z=y/\z<256/\bf x=(bf x-bf y)+bf z:=⟨_,rfl,by omega,by omega⟩
 refine gv (show IntKind.u8.wrap _=(z:Int) by first |exact jP h6 |(rw[hz];exact jP oz) |(rw[hz,hy];exact jP oz)) ?_;refine gs (sE (y:=z) (.const _) (.tmp rfl) T9 rfl (by kernel_rfl) (by first |rfl |omega) oz rfl) ?_;refine gv (i64_in (by have:=iV h6;omega)) ?_;refine ga (c9 (by have:=iV h6;omega)) ?_;refine af ?_;simp only[i64];congr 2;have:=iV h6;omega
theorem O6(x:Nat)(hx:x<4294967296):FP 392 [u32 x] (i64 (32-bf x:Nat)):=by
 have h1:bf x<=32:=by
  by_cases h:x=0
  ·subst h;decide
  ·exact(Bo h hx).1
 refine aj func392 ?_;refine gc (Q2 x hx) ?_;refine ga (i64_in (by simp only[fI];omega)) ?_;refine af ?_;simp only[i64,fI];congr 2;omega
end Go.Lw
