/- SingularModes: for any linkage and any turns the law returns true and leaves its arguments as they were. No other condition. Part 3 of 8: what the later parts need -/
import Derived.Test.YtokaoegjfpjjnaaGreatSb
import Derived.Laws.Strings
set_option linter.unusedVariables false
open List (nil_append drop_drop map_take all_append map_map)
open List renaming mem_of_getElem? → aap, mem_cons_of_mem → abt, mem_append → aa2, mem_cons → abd, length_cons → aa4, mem_cons_self → abr, length_append → abi, length_nil → abg, getD_eq_getElem?_getD → aaq, getElem?_append_left → aa9, getElem?_eq_none → aa5, all_eq_true → aa3, getElem?_take → abj, getElem?_drop → abv, getElem?_map → aav, append_assoc → abu, getElem?_append_right → aa6, getElem?_eq_getElem → aat, drop_eq_nil_of_le → abm, getElem?_replicate → abl, map_append → abf, length_take → abc, take_of_length_le → aa7, drop_zero → ab1, take_length → aa8, not_mem_nil → abb, length_map → aar, mem_of_mem_take → abx, length_replicate → abp, map_replicate → abw, map_set → ab0, length_eq_one_iff → YV, map_congr_left → YW, take_succ_eq_append_getElem → YX, mem_of_mem_drop → Y0, getElem?_eq_some_iff → Y1, mem_range → Y3, cons_append → Y4, drop_eq_getElem_cons → Y5, replicate → Y6, drop_length → Y7, mem_map → Y8, take_take → Y9, mem_singleton → Za, mem_iff_getElem → Zb, take_append_drop → Zc, getLast?_eq_getElem? → Zd, mem_replicate → Zg, getElem_mem → Zi, length_pos_iff → Zr, take_append_of_le_length → Zt, eq_nil_of_length_eq_zero → Zv, any_eq_true → Zz, length_eq_zero_iff → ZA, drop_append_of_le_length → ZB
open Nat renaming eq_of_beq_eq_true → aax, le_refl → aau, lt_of_lt_of_le → aba, lt_or_ge → aay, le_trans → abe, mul_le_mul_right → abh, mul_le_mul_left → aaz, zero_le → aa0, pow_add → abq, lt_of_le_of_lt → abk, eq_zero_or_pos → X8, blt → X9, lt_of_mul_lt_mul_left → Ya, max_eq_left → Yb, div_add_mod → Yc, add_mul_div_left → Yd, mod_lt → Ye, zero_add → Yf, sub_add_cancel → Yg, div_div_eq_div_mul → Yi, pow_succ → Yj, pow_mul → Yk, add_sub_cancel → Yl, le_of_lt → Ym, mul_comm → Yn, mul_lt_mul_left → Yo, two_pow_pos → Yq, add_zero → Ys, mul_add → Yt, min_eq_left → Yu, pow_lt_pow_right → Yv, mul_assoc → Yw, div_le_self → Yx, mod_eq_of_lt → Yz, div_lt_iff_lt_mul → YA, mul_le_mul → YC, le_add_right → YG, add_mul → YH, div_eq_of_lt → YI, mul_pos → YJ, pow_le_pow_right → YK, gcd → YM, max_eq_right → YN, le_div_iff_mul_le → YO, pow_pos → YP, beq → YQ, mul_lt_mul'' → YR, succ_mul → YT
open Option renaming map_eq_some_iff → aas, map_some → aam, getD_some → aan
open Bool renaming and_eq_true → aaw, or_eq_true → abz, false_eq_true → ZX, eq_false_iff → ZY, false_and → ZZ, decide_or → Z1, eq_iff_iff → Z3
open Array renaming getD_eq_getD_getElem? → aa1, getElem?_toList → Z5, length_toList → aab, getElem?_eq_none → aal
open Int renaming toNat_natCast → abn, natAbs_natCast → abo, mul_ne_zero → ZC, ofNat_inj → ZD, mul_nonneg → ZF, sign_eq_neg_one_iff_neg → ZG, gcd → ZH, lt_trichotomy → ZI, natAbs_mul → ZJ, sign_eq_one_iff_pos → ZK, sign_trichotomy → ZN, natCast_ediv → ZO
open Rat renaming divInt → ZP, sub_eq_add_neg → ZR, divInt_eq_div → ZS, intCast_mul → ZT, num_divInt_den → ZU, intCast_eq_zero_iff → ZV
open Decidable renaming not_not → aao
open Go renaming Operand → acf, TypeId → ach, Program → aci, World → acj
open Go.Proofs.Tryz
namespace Go.Lw
def bp:Nat->Nat->List Nat
  |0,_=>[]
  |k+1,v=>v%4294967296::bp k (v/4294967296)
theorem fA:∀k v,(bp k v).length=k
 |0,_=>rfl
 |k+1,v=>by simp[bp,fA k]
theorem kt:∀k v,Ws (bp k v)
 |0,_=>tF
 |k+1,v=>by
  intro x hx;rcases abd.1 hx with h |h
  ·omega
  ·exact kt k _ x h
theorem l9:∀k v,v<4294967296^k->val (bp k v)=v
 |0,v,h=>by simp at h;subst h;rfl
 |k+1,v,h=>by
  rw[Yj]at h;simp only[bp,val];rw[l9 k _ oz];omega
theorem sj:∀(l:List Nat),Ws l->l=bp l.length (val l)
 |[],_=>rfl
 |x::l,h=>by
  have hx:=h x (by simp);have ih:=sj l (fun y hy=>h y (by simp[hy]));simp only[aa4,bp,val];rw[show(x+4294967296*val l)%4294967296=x by omega,show(x+4294967296*val l)/4294967296=val l by omega,<- ih]
theorem wP{l:List Nat}{k v:Nat}(h:Ws l)(hk:l.length=k)(hv:val l=v):l=bp k v:=by
 subst hk;subst hv;exact sj l h
theorem xP{l:List Nat}(h:Ws l)(i:Nat)(hi:i<=l.length):val l/4294967296^i=val (l.drop i):=by
 rw[ur l i,Yu hi];have h1:=cr (l.take i) (gj h i);rw[abc,Yu hi]at h1;rw[Yd _ _ oz,YI h1,Yf]
theorem wE{n k:Nat}(h:n<=k):2^k=2^(k-n)*2^n:=by rw[<- abq];congr 1;omega
theorem TZ{x w n:Nat}(hn:n<32)(hw:w<2^n):w ||| x*2^n%4294967296=w+x*2^n%4294967296:=by
 have h1:x*2^n%4294967296=(x%2^(32-n))*2^n:=by
  rw[show 4294967296=2^32 from rfl,wE (show n<=32 by omega),Nat.mul_mod_mul_right]
 rw[h1];exact zg hw
theorem Xk{x n:Nat}(hx:x<4294967296):x*2^n/4294967296<2^n:=by
 rw[YA oz,Yn];exact Nat.mul_lt_mul_of_pos_left hx (YP oz)
theorem pi{n k:Nat}(h:n<=k):2^n<=2^k:=YK oz h
theorem Uo{x w n:Nat}(hn:n<32)(hw:w<2^n):w+x*2^n%4294967296<4294967296:=by
 have h1:x*2^n%4294967296=(x%2^(32-n))*2^n:=by
  rw[show 4294967296=2^32 from rfl,wE (show n<=32 by omega),Nat.mul_mod_mul_right]
 have h2:x%2^(32-n)+1<=2^(32-n):=Ye _ (YP oz);have h3:=abh (2^n) h2;rw[<- wE (show n<=32 by omega),YH]at h3;omega
theorem OR{a out:List Nat}{i n:Nat}(hi:i+1<out.length)(h:val (out.take (i+1))=2^n*val (a.take i)) :
  val (((out.set i (ak out i+ak a i*2^n%4294967296)).set (i+1) (ak a i*2^n/4294967296)).take (i+1+1))=2^n*val (a.take (i+1)):=by
 rw[lC (by simpa using hi),lC oz,dB (l:=a)];rw[dB]at h;have:=Yc (ak a i*2^n) 4294967296;generalize ak a i*2^n%4294967296=r at *;generalize ak a i*2^n/4294967296=q at *;rw[Yj];grind
theorem Xg{a:List Nat}{i n:Nat}(h:Ws a)(hi:i<a.length)(hn:n<=32) :
  (ak a i+ak a (i+1)*2^32)/2^n%4294967296=(val a/2^n/4294967296^i)%4294967296:=by
 rw[Yi,Yn (2^n),<- Yi,xP h i oz,pV hi]
 have h1:val (a.drop (i+1))=ak a (i+1)+4294967296*val (a.drop (i+2)):=by
  rcases aay (i+1) a.length with h |h
  ·exact pV h
  ·rw[qg h,abm oz,abm oz];rfl
 rw[h1];generalize val (a.drop (i+2))=R
 have h2:ak a i+4294967296*(ak a (i+1)+4294967296*R)=(ak a i+ak a (i+1)*2^32)+2^n*(2^(32-n)*R*4294967296):=by
  have h3:=wE hn;rw[show(2:Nat)^n*(2^(32-n)*R*4294967296)=(2^(32-n)*2^n)*R*4294967296 by grind,<- h3];omega
 rw[h2,Yd _ _ (YP oz),Nat.add_mul_mod_self_right]
theorem KC{a out:List Nat}{i n:Nat}(h:Ws a)(hi:i<a.length)(ho:i<out.length)(hn:n<=32)(hv:val (out.take i)=val a/2^n%4294967296^i) :
  val ((out.set i ((ak a i+ak a (i+1)*2^32)/2^n%4294967296)).take (i+1))=val a/2^n%4294967296^(i+1):=by
 rw[lC ho,Xg h hi hn,Yj,Nat.mod_mul,hv]
theorem Xe{a out:List Nat}{n:Nat}(h:Ws a)(ho:out.length=a.length)(hv:val (out.take a.length)=val a/2^n%4294967296^a.length):val out=val a/2^n:=by
 rw[fq oz]at hv;rw[hv,Yz];exact abk (Yx _ _) (cr a h)
theorem S0{a o:List Nat}{i r w:Nat}(hi:i<a.length)(ho:i<o.length)(h:val (a.drop (i+1))=w*val (o.drop (i+1))+r) :
  val (a.drop i)=w*val ((o.set i ((r*2^32+ak a i)/w)).drop i)+(r*2^32+ak a i)%w:=by
 rw[Ef ho,pV hi,h];have:=Yc (r*2^32+ak a i) w;generalize(r*2^32+ak a i)%w=r' at *;generalize(r*2^32+ak a i)/w=q at *;grind
theorem Mi{r w x:Nat}(hr:r<w)(hx:x<4294967296):(r*2^32+x)/w<4294967296:=by
 rw[YA oz];have:=aaz 4294967296 (show r+1<=w from hr);omega
theorem xy{a q w r:Nat}(h:a=w*q+r)(hr:r<w):a/w=q/\a%w=r:=by
 subst h;rw[Nat.mul_add_div oz,Nat.mul_add_mod,YI hr,Yz hr];simp
theorem OD{l:List Nat}{i x:Nat}(h:i<l.length):ak (l.set i x) i=x:=by simp[ak,h]
theorem aC.own2{s:AS}{k:Nat}{y z:Blk}{x r:AV}(h:lk s.hp k=some y)(hz:y=z)(hx:x=r):aC s x r [(k,some z)]:=by
 subst hz;subst hx
 refine aC.keep ?_;intro k' z' h';rw[aY]at h';split at h'
 ·rename_i e;cases h';rw[e];exact h
 ·cases h'
def bK(u:List Nat)(j n:Nat):List Nat:=(u.drop j).take n
def wr(u:List Nat)(j:Nat)(l:List Nat):List Nat:=u.take j++l++u.drop (j+l.length)
theorem yF{u o:List Nat}{j n:Nat}(h1:o.take j=u.take j)(h2:o.drop (j+n)=u.drop (j+n))(hn:j+n<=o.length):o=wr u j (bK o j n):=by
 have hl:(bK o j n).length=n:=by simp[bK];omega
 unfold wr;rw[hl,<- h1,<- h2]
 conv=>lhs;rw[<- Zc j o]
 rw[abu];congr 1;unfold bK
 conv=>lhs;rw[<- Zc n (o.drop j)]
 rw[drop_drop]
theorem mG{u l:List Nat}{j:Nat}(h:j+l.length<=u.length):(wr u j l).length=u.length:=by simp[wr];omega
theorem yk{a b:List Nat}(ha:Ws a)(hb:Ws b):Ws (a++b):=fun x hx=>(aa2.1 hx).elim (ha x) (hb x)
theorem Ja{l:List Nat}(h:Ws l)(n:Nat):Ws (l.drop n):=fun x hx=>h x (Y0 hx)
theorem ni{l:List Nat}(h:Ws l)(i n:Nat):Ws (bK l i n):=gj (Ja h i) n
theorem qM{u l:List Nat}{j:Nat}(hu:Ws u)(hl:Ws l):Ws (wr u j l):=yk (yk (gj hu _) hl) (Ja hu _)
theorem pI{u:List Nat}{j n:Nat}(h:j+n<=u.length):(bK u j n).length=n:=by simp[bK];omega
theorem S7{u l:List Nat}{j:Nat}(h:j+l.length<=u.length):val ((wr u j l).drop j)=val l+4294967296^l.length*val (u.drop (j+l.length)):=by
 unfold wr;rw[abu,ZB (by simp;omega),abm (by simp;omega),nil_append,rZ]
theorem HL{u:List Nat}{j n:Nat}(h:j+n<=u.length):val (u.drop j)=val (bK u j n)+4294967296^n*val (u.drop (j+n)):=by
 rw[ur (u.drop j) n,drop_drop,Yu (by simp;omega)];rfl
theorem An{u:List Nat}{j:Nat}(h:j<=u.length):val u=val (u.take j)+4294967296^j*val (u.drop j):=by
 rw[ur u j,Yu h]
theorem D8{u l:List Nat}{j:Nat}(h:j<=u.length):(wr u j l).take j=u.take j:=by
 unfold wr;rw[abu,Zt (by simp;omega),aa7 (by simp;omega)]
theorem Ld{u l:List Nat}{j:Nat}(h:j<=u.length):(wr u j l).drop (j+l.length)=u.drop (j+l.length):=by
 unfold wr;rw[List.drop_append,abm (by simp;omega)];simp[Yu h]
theorem wj{l:List Nat}{j i:Nat}:ak (l.drop j) i=ak l (j+i):=by simp[ak]
theorem qF{u o:List Nat}{k:Nat}(h:o.drop k=u.drop k):ak o k=ak u k:=by
 have h1:=wj (l:=o) (j:=k) (i:=0);have h2:=wj (l:=u) (j:=k) (i:=0);rw[h]at h1;simpa using h1.symm.trans h2
theorem tN{u o:List Nat}{k x:Nat}(h:o.drop k=u.drop k):(o.set k x).drop (k+1)=u.drop (k+1):=by
 rw[List.drop_set_of_lt oz];have h1:(o.drop k).drop 1=(u.drop k).drop 1:=by rw[h]
 rwa [drop_drop,drop_drop]at h1
theorem GN{o:List Nat}{j i x:Nat}(h:j+i<o.length):val (bK (o.set (j+i) x) j (i+1))=val (bK o j i)+4294967296^i*x:=by
 unfold bK;rw[List.drop_set,ab5 oz,Nat.add_sub_cancel_left,lC (by simp;omega)]
theorem Hb{u:List Nat}{j i:Nat}:val (bK u j (i+1))=val (bK u j i)+4294967296^i*ak u (j+i):=by
 unfold bK;rw[dB,wj]
theorem P4{lo c P n V w:Nat}(h:lo+c*P=n*V):(lo+P*((c+n*w)%4294967296))+((c+n*w)/4294967296)*(P*4294967296)=n*(V+P*w):=by
 have:=Yc (c+n*w) 4294967296;generalize(c+n*w)%4294967296=r at *;generalize(c+n*w)/4294967296=q at *;grind
def ka(n V W len:Nat):Nat:=if n*V<=W then W-n*V else W+4294967296^len-n*V
theorem Nc{u o v:List Nat}{off len n c b lo:Nat}(hu:Ws u)(ho:Ws o)(hl:o.length=u.length)(hj:off+len<=u.length)(hv:Ws v)(hvl:v.length+1<=len)(hn:n<4294967296)
  (h1:o.take off=u.take off) (h2:o.drop (off+len)=u.drop (off+len)) (hb:b<=1) (h3:lo+c*4294967296^len=n*val (v.take len))
  (h4:val (bK o off len)+lo=val (bK u off len)+b*4294967296^len) :
  o=wr u off (bp len (ka n (val v) (val (bK u off len)) len))/\(b=1↔val (bK u off len)<n*val v):=by
 rw[fq oz]at h3
 have hV:n*val v<4294967296^len:=by
  have h5:=cr v hv;have h6:4294967296^(v.length+1)<=4294967296^len:=YK oz hvl;rw[Yj,Yn]at h6;exact aba (YR hn h5) h6
 have hc:c=0:=by
  cases c with
  |zero=>rfl
  |succ c=>rw[YT]at h3;omega
 subst hc;rw[Nat.zero_mul,Ys]at h3;subst h3;have ho':=cr (bK o off len) (ni ho _ _);have hu':=cr (bK u off len) (ni hu _ _);rw[pI oz]at ho' hu';have hb':b=0\/b=1:=by omega
 refine⟨?_,?_⟩
 ·have h7:bK o off len=bp len (ka n (val v) (val (bK u off len)) len):=by
   refine wP (ni ho _ _) (pI oz) ?_;unfold ka;rcases hb' with rfl |rfl
   ·rw[ab6 oz];omega
   ·rw[ab5 oz];omega
  rw[<- h7];exact yF h1 h2 oz
 ·rcases hb' with rfl |rfl <;> omega
theorem N7{u o v:List Nat}{off len c:Nat}(ho:Ws o)(hl:o.length=u.length)(hj:off+len<=u.length)(hvl:v.length<=len)
  (h1:o.take off=u.take off) (h2:o.drop (off+len)=u.drop (off+len)) 
  (h4:val (bK o off len)+c*4294967296^len=val (bK u off len)+val (v.take len)) :
  o=wr u off (bp len ((val (bK u off len)+val v)%4294967296^len)):=by
 rw[fq oz]at h4;have ho':=cr (bK o off len) (ni ho _ _);rw[pI oz]at ho'
 have h7:bK o off len=bp len ((val (bK u off len)+val v)%4294967296^len):=by
  refine wP (ni ho _ _) (pI oz) ?_;rw[<- h4,Nat.add_mul_mod_self_right,Yz ho']
 rw[<- h7];exact yF h1 h2 oz
def bg(x:Nat):Nat:=if x=0 then 0 else x.log2+1
theorem jG{x:Nat}(h:x<256):IntKind.u8.wrap (x:Int)=(x:Int):=by
 simp only[IntKind.wrap,IntKind.signed,IntKind.bits,ZZ,if_false,ZX];omega
theorem wn{x:Nat}:x<2^bg x:=by
 unfold bg;split
 ·next h=>subst h;decide
 ·exact Nat.lt_log2_self
theorem wY{x:Nat}(h:x≠0):2^(bg x-1)<=x:=by
 unfold bg;rw[ab5 h,Yl];exact Nat.log2_self_le h
theorem V0{x k:Nat}(h1:2^k<=x)(h2:x<2^(k+1)):bg x=k+1:=by
 have hx:x≠0:=by intro h;subst h;have:=YP (n:=k) (show 0<2 by omega);omega
 unfold bg;rw[ab5 hx,(Nat.log2_eq_iff hx).2 ⟨h1,h2⟩]
theorem sk{x k:Nat}(h:2^k<=x):bg x=k+bg (x/2^k):=by
 have h0:x/2^k≠0:=by
  have:=Nat.div_pos h (YP oz);omega
 have h1:=wY h0;have h2:=wn (x:=x/2^k);have h3:1<=bg (x/2^k):=by unfold bg;rw[ab5 h0];omega
 generalize bg (x/2^k)=m at *;obtain⟨n,rfl⟩:∃n,m=n+1:=⟨m-1,by omega⟩
 rw[Yl]at h1;rw[YO (YP oz),<- abq]at h1;rw[YA (YP oz),<- abq]at h2;rw[show k+(n+1)=(n+k)+1 by omega];exact V0 h1 (by rw[show n+k+1=n+1+k by omega];exact h2)
theorem zP{x:Nat}(h:x≠0)(hx:x<4294967296):bg x<=32/\1<=bg x/\2147483648<=2^(32-bg x)*x/\2^(32-bg x)*x<4294967296:=by
 have h1:=wY h;have h2:=wn (x:=x);have h3:1<=bg x:=by unfold bg;rw[ab5 h];omega
 have h4:bg x<=32:=by
  rcases aay 32 (bg x)with h5 |h5
  ·have:2^32<=2^(bg x-1):=pi oz;omega
  ·exact h5
 refine⟨h4,h3,?_,?_⟩
 ·have:=aaz (2^(32-bg x)) h1;rw[<- abq,show 32-bg x+(bg x-1)=31 by omega]at this;omega
 ·have:=(Yo (a:=2^(32-bg x)) (YP oz)).2 h2;rw[<- abq,show 32-bg x+bg x=32 by omega]at this;omega
def Fq(b:ByteArray):Bool:=YQ b.data.toList.length 256&&(List.range 256).all fun y=>YQ (b.data.toList.getD y 0).toNat (bg y)
theorem uX{P:aci}{N:Nat}{R:Array Oper}{s:AS}{d:Nat}{x ix:acf}{kk:IntKind}{i:Int}{y:Nat}{b:ByteArray}{T t:ach}{ti:TI}{pos:String}{after:Array Edge}
  (hx:Ev s x (.v (.string b))) (hi:Ev s ix (.v (.int kk i))) (hT:aI P T=some ti) (hk:ti.k=.string)
  (hb:Fq b=true) (h0:i=(y:Int)) (hy:y<256) (hN:X9 d N=true) :
  Step P N R s ⟨some d,.index T x ix,t,pos,after,none⟩ ⟨some (.v (.int .u8 (bg y))),[],ax x++ax ix,[]⟩:=by
 subst h0;simp only[Fq,aaw,aa3,Y3]at hb;have hs:b.size=256:=by have:=aax hb.1;rw[aab]at this;exact this
 have h1:=aax (hb.2 y hy);have:=wg (R:=R) (N:=N) (t:=t) (pos:=pos) (after:=after) hx hi hT hk oz oz hN;rw[abn]at this;rw[aaq,Z5,<- aa1]at h1
 rwa [h1]at this
theorem iR{x:Nat}(h:x<256):bg x<=8:=by
 rcases aay 8 (bg x)with h5 |h5
 ·have h0 : x ≠ 0 := by intro h0; subst h0; simp [bg] at h5
  have h1:=wY h0;have:2^8<=2^(bg x-1):=pi oz;omega
 ·exact h5
structure Dig(V W P V' W' top next third head:Nat):Prop where
  hV:V=V'+P*(next+4294967296*top)
  hW:W=W'+P*(third+4294967296*head)
  hV':V'<P
  hW':W'<P
  hnext:next<4294967296
  hthird:third<4294967296
  htop:2147483648<=top
  htopB:top<4294967296
  hlt:W<V*4294967296
namespace Dig
variable{V W P V' W' top next third head:Nat}
theorem vpos(h:Dig V W P V' W' top next third head):0<V:=by
 have:=h.hlt;omega
theorem q_lt(h:Dig V W P V' W' top next third head):W/V<4294967296:=by
 rw[YA h.vpos,Yn];exact h.hlt
theorem mul_le(h:Dig V W P V' W' top next third head){q:Nat}(hq:q*V<=W):q*(next+4294967296*top)<=third+4294967296*head:=by
 have h1:q*(P*(next+4294967296*top))<=q*V:=aaz _ (by have:=h.hV;omega);have h2:=h.hW;have h3:=h.hW'
 have h4:P*(q*(next+4294967296*top))<P*(third+4294967296*head+1):=by
  rw[Yt P _ 1,Nat.mul_one];have:P*(q*(next+4294967296*top))=q*(P*(next+4294967296*top)):=by grind
  omega
 have:=Ya h4;omega
theorem up(h:Dig V W P V' W' top next third head){q:Nat}(hq:q*V<=W):q*top<=head:=by
 have h1:=h.mul_le hq;have h2:=h.hthird;rw[Yt,show q*(4294967296*top)=4294967296*(q*top) by grind]at h1;omega
theorem first(h:Dig V W P V' W' top next third head):W/V<=head/top:=by
 have:=h.htop;rw[YO oz];exact h.up (Nat.div_mul_le_self W V)
theorem head_le(h:Dig V W P V' W' top next third head):head<=4294967296*top+next:=by
 have h1:=h.hlt;have h2:=h.hV;have h3:=h.hW;have h4:=h.hV'
 have h5:P*(third+4294967296*head)<P*(4294967296*(next+4294967296*top+1)):=by
  have:V*4294967296<P*(4294967296*(next+4294967296*top+1)):=by
   rw[h2,YH,show P*(next+4294967296*top)*4294967296=P*(4294967296*(next+4294967296*top)) by grind,Yt 4294967296 _ 1,Yt P];omega
  omega
 have:=Ya h5;omega
theorem step(h:Dig V W P V' W' top next third head){g r:Nat}(hg:W/V<=g)(he:g*top+r=head)(hc:4294967296<=g\/r*4294967296+third<g*next):W/V<g:=by
 rcases hc with hc |hc
 ·have:=h.q_lt;omega
 ·refine Nat.lt_of_le_of_ne hg ?_;intro hq;have h1:=h.mul_le (Nat.div_mul_le_self W V);rw[hq,<- he,Yt,Yt,show g*(4294967296*top)=4294967296*(g*top) by grind]at h1;omega
theorem last(h:Dig V W P V' W' top next third head){g r:Nat}(he:g*top+r=head)(hc:¬(r<4294967296/\(4294967296<=g\/r*4294967296+third<g*next))) :
  g<4294967296/\g<=W/V+1:=by
 have hh:=h.head_le;have hn:=h.hnext;have htop:=h.htop
 have hg:g<4294967296/\g*next<=r*4294967296+third:=by
  rcases aay r 4294967296 with hr |hr
  ·have h1:¬(4294967296<=g\/r*4294967296+third<g*next):=fun h'=>hc ⟨hr,h'⟩
   omega
  ·have h1:g<4294967296:=by
    rcases aay g 4294967296 with h2 |h2
    ·exact h2
    ·have:=abh top h2;omega
   refine⟨h1,?_⟩;have h2:g*next<=4294967296*4294967296:=YC oz oz;have h3:4294967296*4294967296<=r*4294967296:=abh _ hr;omega
 refine⟨hg.1,?_⟩
 have h1:g*(next+4294967296*top)<=third+4294967296*head:=by
  rw[<- he,Yt,Yt,show g*(4294967296*top)=4294967296*(g*top) by grind];omega
 have h2:g*V<=W+V:=by
  have h3:g*V'<=4294967296*P:=YC oz (by have:=h.hV';omega);have h4:P*(g*(next+4294967296*top))<=P*(third+4294967296*head):=aaz _ h1;have h5:P*4294967296<=P*(next+4294967296*top):=aaz _ oz;have h6:=h.hV;have h7:=h.hW;have h8:g*V=g*V'+P*(g*(next+4294967296*top)):=by rw[h6];grind
  omega
 have h9:(g-1)*V<=W:=by rw[Nat.sub_mul];omega
 have:=(YO h.vpos).2 h9;omega
end Dig
theorem E6{l:List Nat}{n:Nat}:val (l.take (n+2))=val (l.take n)+4294967296^n*(ak l n+4294967296*ak l (n+1)):=by
 rw[dB,dB,Yj];grind
theorem U2{l:List Nat}{n:Nat}:val (l.take (n+3))=val (l.take n)+4294967296^n*(ak l n+4294967296*(ak l (n+2)*4294967296+ak l (n+1))):=by
 rw[dB,E6,abq];grind
theorem oW{l:List Nat}(h:Ws l)(n:Nat):val (l.take n)<4294967296^n:=by
 have h1:=cr (l.take n) (gj h n);exact aba h1 (YK oz (by simp;omega))
theorem Uz{v p:List Nat}{n:Nat}(hv:Ws v)(hp:Ws p)(hl:v.length=n+2)(hpl:p.length=n+3)(ht:2147483648<=ak v (n+1))(h:val p<val v*4294967296) :
  Dig (val v) (val p) (4294967296^n) (val (v.take n)) (val (p.take n)) (ak v (n+1)) (ak v n) (ak p n) (ak p (n+2)*4294967296+ak p (n+1)) where
 hV:=by rw[<- E6,fq oz]
 hW:=by rw[<- U2,fq oz]
 hV':=oW hv n
 hW':=oW hp n
 hnext:=cf hv n
 hthird:=cf hp n
 htop:=ht
 htopB:=cf hv (n+1)
 hlt:=h
theorem UO{u l:List Nat}{j:Nat}(h:j<=u.length):bK (wr u j l) j l.length=l:=by
 unfold bK wr;rw[abu,List.drop_append,abm (by simp;omega)];simp[Yu h]
theorem Ni{u l l':List Nat}{j:Nat}(h:j<=u.length)(hl:l.length=l'.length):wr (wr u j l) j l'=wr u j l':=by
 have h1:=D8 (l:=l) h;have h2:=Ld (l:=l) h;rw[hl]at h2;rw[wr,h1,h2,<- wr]
theorem No{W V g len:Nat}(hV:0<V)(hVl:V<=4294967296^len)(hW:W<4294967296^len)(h1:W/V<=g)(h2:g<=W/V+1) :
  (W<g*V->(ka g V W len+V)%4294967296^len=W%V/\g-1=W/V/\1<=g)/\(¬W<g*V->ka g V W len=W%V/\g=W/V):=by
 have h3:=Yc W V;have h4:=Ye W hV;generalize W/V=q at *;generalize W%V=r at *;have h5:V*q=q*V:=Yn _ _;refine⟨fun h=>?_,fun h=>?_⟩
 ·have hg:g=q+1:=by
   rcases aay q g with h6 |h6
   ·omega
   ·have : g = q := by omega
    subst this;omega
  subst hg;rw[YT]at h;refine⟨?_,by omega,by omega⟩;unfold ka;rw[YT,ab5 oz,show W+4294967296^len-(q*V+V)+V=r+4294967296^len by omega,Nat.add_mod_right,Yz oz]
 ·have hg:g=q:=by
   rcases aay q g with h6 |h6
   ·have : g = q + 1 := by omega
    subst this;rw[YT]at h;omega
   ·omega
  subst hg;refine⟨?_,rfl⟩;unfold ka;rw[ab6 oz];omega
theorem V7{u q:List Nat}{k lv V U:Nat}(hu:Ws u)(hk:k+lv+1<=u.length)(hq:k<q.length)(hV:V<4294967296^lv)(h1:val (u.drop (k+1))<V)(h2:U=V*(4294967296^(k+1)*val (q.drop (k+1)))+val u) :
  val (bK u k (lv+1))<V*4294967296/\val ((wr u k (bp (lv+1) (val (bK u k (lv+1))%V))).drop k)<V /\
  U=V*(4294967296^k*val ((q.set k (val (bK u k (lv+1))/V)).drop k))+val (wr u k (bp (lv+1) (val (bK u k (lv+1))%V))):=by
 have h0:val (u.drop (k+(lv+1)))=0:=by
  have h3:=HL (u:=u) (j:=k+1) (n:=lv) oz;rw[show k+1+lv=k+(lv+1) by omega]at h3;rcases X8 (val (u.drop (k+(lv+1))))with h4 |h4
  ·exact h4
  ·have:=aaz (4294967296^lv) h4;omega
 have hd:=HL (u:=u) (j:=k) (n:=lv+1) oz;rw[h0,Nat.mul_zero,Ys]at hd;have hw:=cf hu k;have hd2:=pV (l:=u) (i:=k) oz;have hW:val (bK u k (lv+1))<V*4294967296:=by rw[<- hd,hd2];omega
 have hVp:0<V:=by omega
 have hr:=Ye (val (bK u k (lv+1))) hVp;have hm:=Yc (val (bK u k (lv+1))) V;have hlen:(bp (lv+1) (val (bK u k (lv+1))%V)).length=lv+1:=fA _ _;have hx:val (bK u k (lv+1))%V<4294967296^(lv+1):=by rw[Yj];omega
 have hwd:val ((wr u k (bp (lv+1) (val (bK u k (lv+1))%V))).drop k)=val (bK u k (lv+1))%V:=by
  rw[S7 oz,hlen,h0,l9 _ _ hx];omega
 refine⟨hW,by omega,?_⟩;rw[An (u:=wr u k _) (j:=k) (by rw[mG oz];omega),D8 oz,hwd,Ef hq,h2,An (u:=u) (j:=k) oz,hd];generalize val (bK u k (lv+1))%V=r at *;generalize val (bK u k (lv+1))/V=d at *;rw[<- hm,Yj];grind
theorem Uw{A Bv n Q R:Nat}(h:2^n*A=2^n*Bv*Q+R)(hR:R<2^n*Bv):Q=A/Bv/\R/2^n=A%Bv:=by
 obtain⟨h1,h2⟩:=xy h hR;rw[Nat.mul_div_mul_left _ _ (YP oz)]at h1;rw[Nat.mul_mod_mul_left]at h2;rw[<- h1,<- h2,Nat.mul_div_cancel_left _ (YP oz)];exact⟨rfl,rfl⟩
end Go.Lw
namespace Go.Lw
theorem Jv:∀k v,(bp (k+1) v).take k=bp k v
 |0,_=>by simp[bp]
 |k+1,v=>by
  rw[bp,List.take_succ_cons,Jv k];rfl
theorem WO{u:List Nat}{j n i:Nat}(h:i<n):ak (bK u j n) i=ak u (j+i):=by
 rw[<- wj];simp[bK,ak,h]
theorem AI{u:List Nat}{j n i:Nat}(h:i<n)(h2:j+n<=u.length):(u.map u32)[j+i]?=some (u32 (ak (bK u j n) i)):=by
 rw[WO h];exact cz oz
theorem OJ{b:List Nat}{n:Nat}(hb:Ws b)(nb:Nz b)(hl:b.length=n+2) :
  ∃sh v,sh=32-bg (ak b (n+1))/\sh<32/\v=bp (n+2) (2^sh*val b)/\Ws v/\v.length=n+2/\val v=2^sh*val b/\2147483648<=ak v (n+1)/\ak b (n+1)≠0 /\
   4294967296^(n+1)<=val b:=by
 have ht:ak b (n+1)≠0:=by
  refine nb _ ?_;rw[Zd,hl];exact jK oz
 have htB:=cf hb (n+1);obtain⟨h1,h2,h3,h4⟩:=zP ht htB;have h5:=wn (x:=ak b (n+1))
 have hv:val b=val (b.take (n+1))+4294967296^(n+1)*ak b (n+1):=by
  rw[<- dB,fq oz]
 have hlt:=oW hb (n+1)
 have hmul:2^(32-bg (ak b (n+1)))*(ak b (n+1)+1)<=4294967296:=by
  have:=aaz (2^(32-bg (ak b (n+1)))) (show ak b (n+1)+1<=2^bg (ak b (n+1))from h5);rw[<- abq,show 32-bg (ak b (n+1))+bg (ak b (n+1))=32 by omega]at this;exact this
 have hlo:4294967296^(n+1)<=val b:=by
  have:=aaz (4294967296^(n+1)) (show 1<=ak b (n+1) by omega);omega
 generalize hsh:32-bg (ak b (n+1))=sh at *
 have hX:2^sh*val b<4294967296^(n+2):=by
  have e1:val b<4294967296^(n+1)*(ak b (n+1)+1):=by rw[Yt];omega
  have e2:2^sh*val b<2^sh*(4294967296^(n+1)*(ak b (n+1)+1)):=(Yo (YP oz)).2 e1;have e3:2^sh*(4294967296^(n+1)*(ak b (n+1)+1))=4294967296^(n+1)*(2^sh*(ak b (n+1)+1)):=by grind
  have e4:=aaz (4294967296^(n+1)) hmul;rw[<- Yj]at e4;rw[e3]at e2;exact aba e2 e4
 refine⟨sh,_,rfl,by omega,rfl,kt _ _,fA _ _,l9 _ _ hX,?_,ht,hlo⟩
 have hv2:val (bp (n+2) (2^sh*val b))=val ((bp (n+2) (2^sh*val b)).take (n+1))+4294967296^(n+1)*ak (bp (n+2) (2^sh*val b)) (n+1):=by
  rw[<- dB,fq (by rw[fA];omega)]
 rw[l9 _ _ hX]at hv2;have hlt2:=oW (kt (n+2) (2^sh*val b)) (n+1)
 have e5:4294967296^(n+1)*(2^sh*ak b (n+1))<=2^sh*val b:=by
  have:=aaz (2^sh) (show 4294967296^(n+1)*ak b (n+1)<=val b by omega);have e6:2^sh*(4294967296^(n+1)*ak b (n+1))=4294967296^(n+1)*(2^sh*ak b (n+1)):=by grind
  omega
 have e7:4294967296^(n+1)*(2^sh*ak b (n+1))<4294967296^(n+1)*(ak (bp (n+2) (2^sh*val b)) (n+1)+1):=by rw[Yt (4294967296^(n+1)) _ 1];omega
 have:=Ya e7;omega
theorem Gk{a:List Nat}{sh lq n Bv:Nat}(ha:Ws a)(hsh:sh<32)(hl:a.length+1=lq+(n+2))(hB:4294967296^(n+1)<=Bv) :
  val (bp (a.length+1) (2^sh*val a))=2^sh*val a/\val ((bp (a.length+1) (2^sh*val a)).drop lq)<2^sh*Bv:=by
 have h1:=cr a ha;have h2:2^sh<=2^31:=pi oz;have hp:0<2^sh:=YP oz;have h3:2^sh*val a<2^sh*4294967296^a.length:=(Yo hp).2 h1
 have hX:2^sh*val a<4294967296^(a.length+1):=by
  have:=abh (4294967296^a.length) (show 2^sh<=4294967296 by omega);rw[Yj];omega
 refine⟨l9 _ _ hX,?_⟩;have h4:=xP (kt (a.length+1) (2^sh*val a)) lq (by rw[fA];omega);rw[l9 _ _ hX]at h4;rw[<- h4,YA (YP oz)];have h5:a.length=(n+1)+lq:=by omega
 rw[h5,abq]at h3;have h6:=aaz (2^sh) (abh (4294967296^lq) hB);rw[Yw];omega
theorem Oo{s:AS}:∀(k:Nat)(z:Blk),lk ([]:Hp) k=some z->s.blk k=some z:=fun _ _ h=>by cases h
theorem Ob{s:AS}{k0:Nat}{x:Blk}(h:s.blk k0=some x):∀(k:Nat)(z:Blk),lk [(k0,some x)] k=some z->s.blk k=some z:=by
 intro k z hz;rw[aY]at hz;split at hz
 ·rename_i e;cases hz;rw[e];exact h
 ·cases hz
theorem Uu{s:AS}{x y x' y':AV}(h:Sub x x')(h':Sub y y'):aC s (dU [x,y]) (.tup [x',y']) []:=by
 refine aC.pure.sub ?_;intro g S m v hr;cases hr with
 |tup hn hr =>
  refine .tup (by simpa using hn) ?_;intro j u c hu hc
  match j,hc with
  |0,hc=>cases hc;exact h _ _ _ _ (hr 0 u x hu rfl)
  |1,hc=>cases hc;exact h' _ _ _ _ (hr 1 u y hu rfl)
theorem P5{b v:List Nat}{n X:Nat}(hn:b.length=n+2)(h:v=bp (n+2) X) :
  AV.fz 900 1 ((bp (b.length+1) X).map u32) (.ms 900 1 0 b.length)=ws v:=by
 rw[xO (by simp[fA]),h,<- hn,ab1,<- map_take,Jv,ws]
theorem Iz{x:Nat}(h:1<=x)(hx:x<18446744073709551616):IntKind.u64.wrap (f0 .sub (x:Int) 1)=((x-1:Nat):Int):=by
 have h1:=kL (x:=x) (y:=1) hx oz;rw[ab6 h]at h1;exact h1
theorem GB{r g G R:Nat}:(cond (aa .lss (r:Int) 4294967296) (cond (aa .geq (g:Int) 4294967296) true (aa .gtr (G:Int) (R:Int))) false)=true ↔
  (r<4294967296/\(4294967296<=g\/R<G)):=by
 have e1:aa .lss (r:Int) 4294967296=decide (r<4294967296):=by rw[Z3];simp only[aa,ab7];omega
 have e2:aa .geq (g:Int) 4294967296=decide (4294967296<=g):=by rw[Z3];simp only[aa,ab7];omega
 have e3:aa .gtr (G:Int) (R:Int)=decide (R<G):=by rw[Z3];simp only[aa,ab7];omega
 rw[e1,e2,e3]
 by_cases h1:r<4294967296
 ·by_cases h2:4294967296<=g
  ·rw[aca h1,aca h2];exact⟨fun _=>⟨h1,.inl h2⟩,fun _=>rfl⟩
  ·rw[aca h1,acb h2];show decide (R<G)=true↔_;rw[ab7];exact⟨fun h=>⟨h1,.inr h⟩,fun h=>h.2.resolve_left h2⟩
 ·rw[acb h1];constructor
  ·intro h;exact Bool.noConfusion h
  ·intro h;exact acc h.1 h1
theorem DV{u:List Nat}{k n V r:Nat}{l:List Nat}(hk:k+n<=u.length)(hl:l.length=n)(h:(val l+V)%4294967296^n=r) :
  wr (wr u k l) k (bp n ((val (bK (wr u k l) k n)+V)%4294967296^n))=wr u k (bp n r):=by
 subst hl;rw[Ni oz (by rw[fA]),UO oz,h]
theorem Nj{s:AS}{k1 k2:Nat}{x1 x2:Blk}(h1:s.blk k1=some x1)(h2:s.blk k2=some x2):∀(k:Nat)(z:Blk),lk [(k1,some x1),(k2,some x2)] k=some z->s.blk k=some z:=by
 intro k z hz;rw[aY]at hz;split at hz
 ·rename_i e;cases hz;rw[e];exact h1
 ·rw[aY]at hz;split at hz
  ·rename_i e;cases hz;rw[e];exact h2
  ·cases hz
theorem aG{p:Prop}(h:p:=by first |exact Oo |exact Ob rfl |exact Nj rfl rfl):p:=h
def gQ(x y:Int):Int:=if x<y then -1 else if y<x then 1 else 0
theorem GM(b:Bool)(n:Nat):sgn (!b) n=-(sgn b n):=by cases b <;> simp[sgn]
theorem Wh.small{w:Wh}(h:w.ok)(hl:w.mag.length<aK):w.m.length<aK:=abk Wh.m_le hl
theorem H6{w:Wh}(h:w.ok):(w.m.length=0->w.z.sign=0)/\(w.m.length≠0->w.neg=true->w.z.sign=-1)/\(w.m.length≠0->w.neg=false->w.z.sign=1):=by
 have h1:w.m.length≠0->w.valid=true:=by
  intro h0;unfold Wh.m at h0;split at h0
  ·assumption
  ·exact acc rfl h0
 refine⟨?_,?_,?_⟩
 ·intro h0;have h2:w.m = []:=ZA.1 h0;have h3:val w.m = 0:=by rw [h2]; rfl
  have:w.z=0:=by unfold Wh.z;rw[h3];split <;> rfl
  rw[this];rfl
 ·intro h0 hn;have h2:w.n = true:=by unfold Wh.n; rw [h1 h0,hn]; rfl
  have h3:=Wh.n_val h2;rw[ZG];unfold Wh.z;rw[ab6 h2];omega
 ·intro h0 hn;have h2:w.n = false:=by unfold Wh.n; rw [h1 h0,hn]; rfl
  have h3:=oF w.nz (fun h=>h0 (by rw[h];rfl));rw[ZK];unfold Wh.z;rw[h2];simp;omega
theorem HI{a b:Wh}(h:a.n=b.n):sgn a.n (val a.m+val b.m)=a.z+b.z:=by
 rw[Wh.z_eq,Wh.z_eq,<- h];unfold sgn;split <;> omega
theorem AE{a b:Wh}(h:a.n≠b.n)(hl:val b.m<=val a.m):sgn a.n (val a.m-val b.m)=a.z+b.z:=by
 rw[Wh.z_eq,Wh.z_eq];cases ha:a.n <;> cases hb:b.n <;> simp_all [sgn] <;> omega
theorem IX{a b:Wh}(h:a.n≠b.n)(hl:val a.m<=val b.m):sgn b.n (val b.m-val a.m)=a.z+b.z:=by
 rw[Int.add_comm];exact AE (fun h'=>h h'.symm) hl
theorem G4{a b:Wh}:sgn (a.n != b.n) (val a.m*val b.m)=a.z*b.z:=by
 rw[Wh.z_eq,Wh.z_eq];cases a.n <;> cases b.n <;> simp[sgn,Int.neg_mul,Int.mul_neg]
theorem AT(z:Int):(z.sign=1/\0<z)\/(z.sign=0/\z=0)\/(z.sign=-1/\z<0):=by
 rcases ZI z 0 with h |h |h
 ·exact .inr (.inr ⟨ZG.2 h,h⟩)
 ·subst h;exact .inr (.inl ⟨rfl,rfl⟩)
 ·exact .inl ⟨ZK.2 h,h⟩
theorem Wp{a b:Wh}(h:a.z.sign≠b.z.sign):(a.z.sign<b.z.sign->gQ a.z b.z=-1)/\(¬a.z.sign<b.z.sign->gQ a.z b.z=1):=by
 have h1:=AT a.z;have h2:=AT b.z;unfold gQ;generalize a.z.sign=s at *;generalize b.z.sign=t at *;generalize a.z=x at *;generalize b.z=y at *;constructor <;> intro h3 <;> (repeat' split) <;> omega
theorem Pf{a b:Wh}(h:a.z.sign=b.z.sign):gQ a.z b.z=(if a.n then -(if val a.m<val b.m then -1 else if val b.m<val a.m then 1 else 0:Int)else if val a.m<val b.m then -1 else if val b.m<val a.m then 1 else 0):=by
 have ha:=Wh.n_eq (w:=a);have hb:=Wh.n_eq (w:=b);have h1:=ZN a.z;have hz1:=Wh.z_eq (w:=a);have hz2:=Wh.z_eq (w:=b)
 have hn:a.n=b.n:=by
  rw[ha,hb,decide_eq_decide,<- ZG,<- ZG,h]
 rw[<- hn]at hz2;unfold gQ;rw[hz1,hz2];cases a.n <;> simp only[sgn,if_true,if_false,ZX] <;> (repeat' split) <;> omega
theorem GL{a b q r:Int}(hb:b≠0)(h:a=b*q+r)(h0:0<=r)(h1:r<b.natAbs):a/b=q/\a%b=r:=by
 have h2:=Int.mul_ediv_add_emod a b;have h3:=Int.emod_nonneg a hb;have h4:=Int.emod_lt a hb;have h5:b*(a/b-q)=r-a%b:=by rw[Int.mul_sub];omega
 have h6:a/b-q=0:=by
  rcases ZI (a/b-q) 0 with h |h |h
  ·exfalso;have:b.natAbs <= (r - a % b).natAbs:=by rw [<- h5,ZJ]; exact Nat.le_mul_of_pos_right _ oz
   omega
  ·exact h
  ·exfalso;have:b.natAbs <= (r - a % b).natAbs:=by rw [<- h5,ZJ]; exact Nat.le_mul_of_pos_right _ oz
   omega
 rw[h6,Int.mul_zero]at h5;omega
theorem EM{a b:Wh}(hb:val b.m≠0)(h:¬(a.n=true/\0<val a.m%val b.m)) :
  sgn (a.n != b.n) (val a.m/val b.m)=a.z/b.z/\(val a.m%val b.m:Nat)=a.z%b.z:=by
 have h1:=Yc (val a.m) (val b.m);have h2:=Ye (val a.m) (show 0<val b.m by omega);have hz:=Wh.abs (w:=b);have hb0:b.z≠0:=by omega
 obtain⟨e1,e2⟩:=GL (a:=a.z) (b:=b.z) (q:=sgn (a.n != b.n) (val a.m/val b.m)) (r:=(val a.m%val b.m:Nat)) hb0 (by
  rw[Wh.z_eq,Wh.z_eq];generalize val a.m/val b.m=q at *;generalize val a.m%val b.m=r at *;rw[<- h1]
  have h9:a.n=true->r=0:=fun h3=>by
   rcases X8 r with h4 |h4
   ·exact h4
   ·exact acc ⟨h3,h4⟩ h
  cases ha:a.n with
  |false=>cases hbn:b.n <;> simp[sgn] <;> grind
  |true=>have:=h9 ha;subst this;cases hbn:b.n <;> simp[sgn] <;> grind) oz oz
 exact⟨e1.symm,e2.symm⟩
theorem FH{a b:Wh}(hb:val b.m≠0)(ha:a.n=true)(hr:0<val a.m%val b.m) :
  sgn (a.n != b.n) (val a.m/val b.m+1)=a.z/b.z/\((val b.m-val a.m%val b.m:Nat):Int)=a.z%b.z:=by
 have h1:=Yc (val a.m) (val b.m);have h2:=Ye (val a.m) (show 0<val b.m by omega);have hz:=Wh.abs (w:=b);have hb0:b.z≠0:=by omega
 obtain⟨e1,e2⟩:=GL (a:=a.z) (b:=b.z) (q:=sgn (a.n != b.n) (val a.m/val b.m+1)) (r:=(val b.m-val a.m%val b.m:Nat)) hb0 (by
  rw[Wh.z_eq,Wh.z_eq];generalize val a.m/val b.m=q at *;generalize val a.m%val b.m=r at *;rw[<- h1,ha];cases hbn:b.n <;> simp[sgn] <;> rw[Int.ofNat_sub oz] <;> grind) oz oz
 exact⟨e1.symm,e2.symm⟩
abbrev fO:Nat:=137438953472
def Zs(z:Int):Prop:=∃k,k<=274877906945/\Lz k z
theorem Zs.ok{z:Int}(h:Zs z):(ofInt z).ok:=by
 obtain⟨k,hk,hz⟩:=h;refine⟨dG _,?_⟩;have:=hz.len;unfold bc;show(ofNat z.natAbs).length<=_;omega
theorem Zs.len{z:Int}(h:Zs z):(ofInt z).mag.length<=274877906945:=by
 obtain⟨k,hk,hz⟩:=h;have:=hz.len;show(ofNat z.natAbs).length<=_;omega
theorem Zs.neg{z:Int}(h:Zs z):Zs (-z):=by
 obtain⟨k,hk,hz⟩:=h;exact⟨k,hk,hz.neg⟩
theorem Zs.of_le{x y:Int}(h:Zs x)(h':y.natAbs<=x.natAbs):Zs y:=by
 obtain⟨k,hk,hz⟩:=h;exact⟨k,hk,hz.of_le h'⟩
structure Rt where
  neg:Bool
  num:List Nat
  den:List Nat
namespace Rt
def av(r:Rt):AV:=.agg [bl r.neg,ws r.num,ws r.den]
def n0(r:Rt):Wh:=⟨false,r.num⟩
def d0(r:Rt):Wh:=⟨false,r.den⟩
def valid(r:Rt):Bool :=
  if r.num=[]/\r.den=[]then !r.neg
  else if r.num=[]\/r.den=[]then false
  else r.n0.valid&&r.d0.valid&&decide (YM (val r.num) (val r.den)=1)
def q(r:Rt):Rat:=if r.valid=true/\r.num≠[]then mkRat (sgn r.neg (val r.num)) (val r.den)else 0
def ok(r:Rt):Prop:=Ws r.num/\Ws r.den/\r.num.length<=fO/\r.den.length<=fO
end Rt
def rt(q:Rat):Rt:=⟨decide (q.num<0),ofNat q.num.natAbs,if q.num=0 then[]else ofNat q.den⟩
def qA(q:Rat):AV:=(rt q).av
def Qs(q:Rat):Prop:=∃k,k<=fO/\Lz k q.num/\Lz k (q.den:Int)
theorem Qs.ok{q:Rat}(h:Qs q):(rt q).ok:=by
 obtain⟨k,hk,h1,h2⟩:=h;have h3:=h1.len;have h4:=h2.len;simp only[abo]at h4;refine⟨dG _,?_,by show(ofNat q.num.natAbs).length<=_;omega,?_⟩
 ·show Ws (if q.num=0 then[]else ofNat q.den);split
  ·exact tF
  ·exact dG _
 ·show(if q.num=0 then[]else ofNat q.den).length<=_;split
  ·simp
  ·omega
theorem Cp{n:Nat}:ofNat n=[]↔n=0:=by
 constructor
 ·intro h;have:=cA n;rw[h]at this;exact this.symm
 ·intro h;rw[h];rfl
theorem Dw{l:List Nat}(h:l≠[])(hz:Nz l):(⟨false,l⟩:Wh).valid=true:=by
 unfold Wh.valid;dsimp only;rw[ab5 h];cases hl:l.getLast? with
 |none=>rfl
 |some x=>have:=hz x hl;simp[this]
theorem Kh{l:List Nat}{b:Bool}(h:l≠[])(hv:(⟨b,l⟩:Wh).valid=true):Nz l:=by
 unfold Wh.valid at hv;dsimp only at hv;rw[ab5 h]at hv;intro x hx hx0;rw[hx,hx0]at hv;simp at hv
theorem GS(q:Rat):(rt q).valid=true:=by
 unfold rt Rt.valid Rt.n0 Rt.d0;dsimp only
 by_cases h:q.num=0
 ·rw[ab6 h,h];rfl
 ·rw [ab5 h];have h1:ofNat q.num.natAbs ≠ []:=fun h'=>h (by have:=Cp.1 h'; omega)
  have h2:ofNat q.den≠[]:=fun h'=>q.den_nz (Cp.1 h')
  rw[ab5 (fun h'=>h1 h'.1),ab5 (by simp[h1,h2]),Dw h1 (qY _),Dw h2 (qY _),cA,cA];have:=q.reduced;unfold Nat.Coprime at this;simp[this]
theorem cc(q:Rat):(rt q).q=q:=by
 unfold Rt.q
 by_cases h:q.num=0
 ·rw[ab5]
  ·exact(Rat.num_eq_zero.1 h).symm
  ·intro h';exact h'.2 (by show ofNat _=[];rw[h];rfl)
 ·have h1 : ofNat q.num.natAbs ≠ [] := fun h' => h (by have := Cp.1 h'; omega)
  rw[ab6 ⟨GS q,h1⟩];show mkRat (sgn (decide (q.num<0)) (val (ofNat q.num.natAbs))) (val (if q.num=0 then[]else ofNat q.den))=q;rw[ab5 h,cA,cA]
  have:sgn (decide (q.num<0)) q.num.natAbs=q.num:=by
   unfold sgn;generalize q.num=z
   by_cases h2:z<0
   ·rw[ab6 (aca h2)];omega
   ·rw[ab5 (by rw[ab7];exact h2)];omega
  rw[this,Rat.mkRat_self]
theorem Rt.parts{r:Rt}(h:r.ok)(hv:r.valid=true)(h0:r.num≠[]) :
  r.q.num=sgn r.neg (val r.num)/\r.q.den=val r.den/\ofNat (val r.num)=r.num/\ofNat (val r.den)=r.den/\val r.num≠0/\val r.den≠0:=by
 have hv':=hv;unfold Rt.valid at hv;rw[ab5 (fun h'=>h0 h'.1)]at hv;split at hv
 ·cases hv
 ·rename_i h1;simp only[aaw,ab7]at hv;obtain⟨⟨hn,hd⟩,hg⟩:=hv;have h2:r.den≠[]:=fun h'=>h1 (.inr h')
  have nn:=Kh h0 hn;have nd:=Kh h2 hd;have pn:=oF nn h0;have pd:=oF nd h2;have hq:r.q=mkRat (sgn r.neg (val r.num)) (val r.den):=by unfold Rt.q;rw[ab6 ⟨hv',h0⟩]
  have hs:(sgn r.neg (val r.num)).natAbs=val r.num:=by unfold sgn;split <;> omega
  have hq2 : r.q = ⟨sgn r.neg (val r.num), val r.den, by omega, by unfold Nat.Coprime; rw [hs]; exact hg⟩ := by
   rw[hq];exact(Rat.mk_eq_mkRat _ _ _ _).symm
  refine⟨by rw[hq2],by rw[hq2],qS h.1 nn,qS h.2.1 nd,by omega,by omega⟩
theorem Rt.zero{r:Rt}(h:¬(r.valid=true/\r.num≠[])):r.q=0:=by unfold Rt.q;rw[ab5 h]
theorem Rt.eq_rt{r:Rt}(h:r.ok)(hv:r.valid=true):r=rt r.q:=by
 by_cases h0:r.num=[]
 ·have hq:=Rt.zero (r:=r) (fun h'=>h'.2 h0);rw[hq];unfold Rt.valid at hv
  by_cases h1:r.den=[]
  ·rw[ab6 ⟨h0,h1⟩]at hv;obtain⟨n,a,b⟩:=r;dsimp only at *;subst h0;subst h1
   cases n
   ·rfl
   ·cases hv
  ·rw[ab5 (fun h'=>h1 h'.2),ab6 (.inl h0)]at hv;cases hv
 ·obtain ⟨h1, h2, h3, h4, h5, h6⟩:=Rt.parts h hv h0;unfold rt;have hn:r.q.num ≠ 0:=by rw [h1]; unfold sgn; split <;> omega
  rw[ab5 hn,h2,h4];have h7:r.q.num.natAbs=val r.num:=by rw[h1];unfold sgn;split <;> omega
  have h8:decide (r.q.num<0)=r.neg:=by rw[h1];unfold sgn;cases r.neg <;> simp <;> omega
  rw[h7,h3,h8]
theorem Rt.ok.qs{r:Rt}(h:r.ok):Qs r.q:=by
 by_cases h0:r.valid=true/\r.num≠[]
 ·obtain ⟨h1, h2, h3, h4, h5, h6⟩:=Rt.parts h h0.1 h0.2;refine ⟨max r.num.length r.den.length,by have:=h.2.2; omega,?_,?_⟩
  ·unfold Lz;have:r.q.num.natAbs = val r.num:=by rw [h1]; unfold sgn; split <;> omega
   rw[this];exact aba (cr _ h.1) (YK oz oz)
  ·unfold Lz;rw[h2];exact aba (cr _ h.2.1) (YK oz oz)
 ·rw[Rt.zero h0];exact⟨1,by unfold fO;omega,by unfold Lz;decide,by unfold Lz;decide⟩
theorem Qs.num{q:Rat}(h:Qs q):Zs q.num:=by
 obtain⟨k,hk,h1,h2⟩:=h;exact⟨k,by unfold fO at hk;omega,h1⟩
theorem Qs.den{q:Rat}(h:Qs q):Zs q.den:=by
 obtain⟨k,hk,h1,h2⟩:=h;exact⟨k,by unfold fO at hk;omega,h2⟩
theorem Qs.mul{p q:Rat}(h:Qs p)(h':Qs q):Zs (p.num*q.den)/\Zs (p.num*q.num)/\Zs ((p.den:Int)*q.den)/\Zs ((p.den:Int)*q.num):=by
 obtain⟨k,hk,h1,h2⟩:=h;obtain⟨l,hl,h3,h4⟩:=h';unfold fO at *;exact⟨⟨k+l,by omega,h1.mul h4⟩,⟨k+l,by omega,h1.mul h3⟩,⟨k+l,by omega,h2.mul h4⟩,⟨k+l,by omega,h2.mul h3⟩⟩
theorem Qs.cross{p q:Rat}(h:Qs p)(h':Qs q):Zs (p.num*q.den+q.num*p.den):=by
 obtain⟨k,hk,h1,h2⟩:=h;obtain⟨l,hl,h3,h4⟩:=h';unfold fO at *;have:=(h1.mul h4).add (h3.mul h2);exact⟨_,by omega,this⟩
theorem Qs.neg{p:Rat}(h:Qs p):Qs (-p):=by
 obtain⟨k,hk,h1,h2⟩:=h;refine⟨k,hk,?_,?_⟩
 ·rw[Rat.neg_num];exact h1.neg
 ·rw[Rat.neg_den];exact h2
theorem Qs.zero:Qs 0:=⟨1,by unfold fO;omega,by unfold Lz;decide,by unfold Lz;decide⟩
theorem Rt.ok.n0{r:Rt}(h:r.ok):r.n0.ok:=⟨h.1,by have:=h.2.2.1;unfold fO at this;unfold bc;exact abe this oz⟩
theorem Rt.ok.d0{r:Rt}(h:r.ok):r.d0.ok:=⟨h.2.1,by have:=h.2.2.2;unfold fO at this;unfold bc;exact abe this oz⟩
theorem Rt.ok.n0l{r:Rt}(h:r.ok):r.n0.mag.length<aK:=by have:=h.2.2.1;unfold fO at this;unfold aK;exact abk this oz
theorem Rt.ok.d0l{r:Rt}(h:r.ok):r.d0.mag.length<aK:=by have:=h.2.2.2;unfold fO at this;unfold aK;exact abk this oz
theorem xn:Zs 1:=⟨1,by omega,by unfold Lz;decide⟩
theorem Rt.gcd_zs{r:Rt}(h:r.ok):Zs (ZH r.n0.z r.d0.z):=by
 have h1:=Wh.lz h.n0;have h2:=Wh.lz h.d0;have h3:r.n0.mag.length<=137438953472:=h.2.2.1;have h4:r.d0.mag.length<=137438953472:=h.2.2.2
 by_cases h0:r.n0.z=0
 ·rw[h0,Int.gcd_zero_left];exact⟨r.d0.mag.length,by omega,by unfold Lz at *;simpa using h2⟩
 ·refine⟨r.n0.mag.length,by omega,h1.of_le ?_⟩;simp only[abo];exact Nat.le_of_dvd oz (Int.gcd_dvd_natAbs_left _ _)
theorem QL{n:Nat}:gQ (n:Int) 1=0↔n=1:=by
 unfold gQ;split
 ·constructor <;> intro h <;> omega
 ·split <;> constructor <;> intro h <;> omega
theorem H7{l:List Nat}(h:(⟨false,l⟩:Wh).valid=true):(⟨false,l⟩:Wh).z=val l:=by
 unfold Wh.z Wh.n Wh.m;simp[h]
theorem A8{r:Rt}(h0:¬(r.num=[]/\r.den=[]))
  (h:cond (cond (cond (aa .eql (r.num.length:Int) 0) true (aa .eql (r.den.length:Int) 0)) true (!r.n0.valid)) true (!r.d0.valid)=true):r.valid=false:=by
 unfold Rt.valid;rw[ab5 h0];split
 ·rfl
 ·next h1 =>
  have hn:r.num≠[]:=fun h=>h1 (.inl h)
  have hd:r.den≠[]:=fun h=>h1 (.inr h)
  have e1:aa .eql (r.num.length:Int) 0=false:=by simp[aa,hn]
  have e2:aa .eql (r.den.length:Int) 0=false:=by simp[aa,hd]
  rw[e1,e2]at h;cases hv:r.n0.valid <;> cases hw:r.d0.valid <;> simp_all
theorem GK{r:Rt}(h0:¬(r.num=[]/\r.den=[]))
  (h:cond (cond (cond (aa .eql (r.num.length:Int) 0) true (aa .eql (r.den.length:Int) 0)) true (!r.n0.valid)) true (!r.d0.valid)=false) :
  r.valid=aa .eql (gQ (ZH r.n0.z r.d0.z) 1) 0:=by
 unfold Rt.valid;rw[ab5 h0];cases e1:aa .eql (r.num.length:Int) 0
 ·cases e2:aa .eql (r.den.length:Int) 0
  ·have hn : r.num ≠ [] := by simpa [aa] using e1
   have hd:r.den≠[]:=by simpa[aa]using e2
   rw[e1,e2]at h;cases hv:r.n0.valid <;> cases hw:r.d0.valid <;> simp[hv,hw]at h
   rw[ab5 (by simp[hn,hd])];have z1:r.n0.z=val r.num:=H7 hv;have z2:r.d0.z=val r.den:=H7 hw;rw[z1,z2];show(true&&true&&decide _)=decide _;simp only[Bool.and_self,Bool.true_and];rw[Z3];simp only[ab7];exact QL.symm
  ·rw[e1,e2]at h;simp at h
 ·rw[e1]at h;simp at h
theorem Fb{b:Bool}{num den:List Nat}(e3:ofNat (val num)=num)(e4:ofNat (val den)=den)(e5:val num≠0) :
  AV.tup [.agg [bl b,ws num],.agg [bl false,ws den]]=.tup [zA (sgn b (val num)),zA ((val den:Nat):Int)]:=by
 unfold zA ofInt Wh.av;have h1:(sgn b (val num)).natAbs=val num:=by unfold sgn;split <;> omega
 have h2:decide (sgn b (val num)<0)=b:=by unfold sgn;cases b <;> simp <;> omega
 have h3:decide (((val den:Nat):Int)<0)=false:=by simp
 dsimp only;rw[h1,h2,h3,e3,abo,e4]
inductive SubL:List AV->List AV->Prop
  |nil:SubL [] []
  |cons {x y:AV} {l l':List AV} (h:Sub x y) (hl:SubL l l'):SubL (x::l) (y::l')
theorem SubL.len{l l':List AV}(h:SubL l l'):l.length=l'.length:=by induction h with |nil=>rfl |cons _ _ ih=>simp[ih]
theorem SubL.get{l l':List AV}(h:SubL l l'):∀(j:Nat)(x y:AV),l[j]?=some x->l'[j]?=some y->Sub x y:=by
 induction h with
 |nil=>intro j x y h;simp at h
 |cons h _ ih =>
  intro j x y hx hy;cases j with
  |zero=>simp at hx hy;subst hx;subst hy;exact h
  |succ j=>simp at hx hy;exact ih j x y hx hy
theorem Sub.tup{l l':List AV}(h:SubL l l'):Sub (.tup l) (.tup l'):=by
 intro g S m v hv;cases hv with
 |tup hn hr =>
  refine .tup (by rw[hn,h.len]) (fun j u y hu hy=>?_);obtain⟨x,hx⟩:=ji h.len.symm hy;exact h.get j x y hx hy _ _ _ _ (hr j u x hu hx)
theorem Sub.agg{l l':List AV}(h:SubL l l')(ho:l'.all AV.one=true):Sub (.agg l) (.agg l'):=by
 intro g S m v hv;cases hv with
 |agg hn h1 hr =>
  refine .agg (by rw[hn,h.len]) (fun j c hc=>aa3.1 ho c (aap hc)) (fun j u y hu hy=>?_);obtain⟨x,hx⟩:=ji h.len.symm hy;exact h.get j x y hx hy _ _ _ _ (hr j u x hu hx)
theorem BlkSub.bL{l l':List AV}(h:SubL l l')(ho:l'.all AV.one=true):BlkSub (.box l) (.box l') :=
 .box h.len (fun j c hc=>aa3.1 ho c (aap hc)) (fun j x y hx hy=>h.get j x y hx hy)
theorem I3:Sub (.agg [.v (.bool false),.v (.slice none 0 0)]) (zA 0):=.agg (.cons (.refl _) (.cons (.nil _ _ _) .nil)) rfl
theorem kf:Sub (.agg [.v (.bool false),.v (.slice none 0 0),.v (.slice none 0 0)]) (qA 0):=.agg (.cons (.refl _) (.cons (.nil _ _ _) (.cons (.nil _ _ _) .nil))) rfl
theorem IZ{n d:Int}(hd:0<d)(hn:n≠0) :
  (ZP n d).num=n/(ZH n d:Int)/\(ZP n d).den=d.natAbs/ZH n d:=by
 constructor
 ·rw[Rat.num_divInt,Int.sign_eq_one_of_pos hd,Int.one_mul,Int.gcd_comm]
 ·rw[Rat.den_divInt,ab5 oz,Int.gcd_comm]
theorem LS{n d:Int}(hd:0<d)(hn:n≠0) :
  AV.agg [bl (decide (n<0)),ws (ofNat (((n.natAbs:Int)/(ZH n d:Int)).natAbs)),ws (ofNat ((d/(ZH n d:Int)).natAbs))]=qA (ZP n d):=by
 obtain⟨h1,h2⟩:=IZ hd hn;obtain⟨g,hg⟩:∃g,g=ZH n d:=⟨_,rfl⟩
 have hg0:0<g:=by rw[hg];exact Int.gcd_pos_of_ne_zero_left _ hn
 have hgn:(g:Int)∣n:=by rw[hg];exact Int.gcd_dvd_left ..
 rw[<- hg]at h1 h2 ⊢;clear hg;obtain⟨k,hk⟩:=hgn;have hk1:n/(g:Int)=k:=by rw[hk];exact Int.mul_ediv_cancel_left _ oz
 have hk0:k≠0:=by intro h;rw[h]at hk;simp at hk;exact hn hk
 have hs:decide (n<0)=decide (k<0):=by
  rw[decide_eq_decide,hk];constructor
  ·intro h;rcases ZI k 0 with h' |h' |h'
   ·exact h'
   ·exact acc h' hk0
   ·exact acc (ZF (Int.natCast_nonneg g) (Int.le_of_lt h')) oz
  ·intro h;exact Int.mul_neg_of_pos_of_neg oz h
 have hna:((n.natAbs:Int)/(g:Int)).natAbs=k.natAbs:=by
  rw[hk,ZJ,abo];rw[show((g*k.natAbs:Nat):Int)/(g:Int)=((g*k.natAbs/g:Nat):Int) by exact(ZO _ _).symm];rw[Nat.mul_div_cancel_left _ hg0];omega
 have hda:(d/(g:Int)).natAbs=d.natAbs/g:=by
  have:d=(d.natAbs:Int):=by omega
  rw[this,<- ZO,abo,abo]
 unfold qA rt Rt.av;rw[h1,h2,hk1,hna,hda,hs];dsimp only;rw[ab5 hk0]
theorem JW(n d:Int):ZP (-n) (-d)=ZP n d:=Rat.neg_divInt_neg n d
theorem Ak(p q:Rat):ZP (p.num*q.den+q.num*p.den) ((p.den:Int)*q.den)=p+q:=by
 rw[<- Rat.divInt_add_divInt _ _ (by have:=p.den_nz;omega) (by have:=q.den_nz;omega),ZU,ZU]
theorem Bx(p q:Rat):ZP (p.num*q.num) ((p.den:Int)*q.den)=p*q:=by
 rw[<- Rat.divInt_mul_divInt,ZU,ZU]
theorem Kv(p:Rat):ZP (-p.num) p.den=-p:=by
 rw[<- Rat.neg_num,<- Rat.neg_den,ZU]
theorem Fg(p q:Rat):ZP (p.num*q.den) ((p.den:Int)*q.num)=p/q:=by
 rw[Rat.div_def,<- Rat.divInt_mul_divInt,ZU];congr 1;rw[<- Rat.inv_divInt,ZU]
theorem Mb(p:Rat):p.num<0↔p<0:=by
 rw[Rat.lt_iff];simp
theorem NW(p:Rat):0<p.num↔0<p:=by
 rw[Rat.lt_iff];simp
def bV(p:Rat):Int:=if p<0 then -1 else if 0<p then 1 else 0
theorem E4(p:Rat):p.num.sign=bV p:=by
 unfold bV
 by_cases h:p<0
 ·rw[ab6 h];exact ZG.2 ((Mb p).2 h)
 ·rw[ab5 h]
  by_cases h':0<p
  ·rw[ab6 h'];exact ZK.2 ((NW p).2 h')
  ·rw [ab5 h'];have:p = 0:=by grind
   rw[this];rfl
theorem Wm(p q:Rat):bV (p-q)=if p<q then -1 else if q<p then 1 else 0:=by
 unfold bV
 by_cases h:p<q
 ·rw[ab6 h,ab6 (by grind)]
 ·rw [ab5 h, ab5 (by grind)]
  by_cases h':q<p
  ·rw[ab6 h',ab6 (by grind)]
  ·rw[ab5 h',ab5 (by grind)]
theorem TF(p q:Rat):gQ (p.num*q.den) (q.num*p.den)=bV (p-q):=by
 rw[Wm];unfold gQ;simp only[Rat.lt_iff]
theorem RS{n d:Int}(hd:0<d)(hn:n≠0) :
  AV.agg [bl (decide (n/(ZH n d:Int)<0)),ws (ofNat ((n/(ZH n d:Int)).natAbs)),ws (ofNat ((d/(ZH n d:Int)).natAbs))]=qA (ZP n d):=by
 obtain⟨h1,h2⟩:=IZ hd hn
 have h3:(d/(ZH n d:Int)).natAbs=d.natAbs/ZH n d:=by
  have:d=(d.natAbs:Int):=by omega
  generalize ZH n d=g;rw[this,<- ZO,abo,abo]
 have h4:n/(ZH n d:Int)≠0:=by
  rw[<- h1];intro h
  have h5:=Rat.num_eq_zero.1 h;have h6:=(Rat.divInt_eq_divInt_iff (show d≠0 by omega) (show(1:Int)≠0 by decide)).1 (h5.trans (Rat.zero_divInt 1).symm);omega
 unfold qA rt Rt.av;rw[h1,h2,h3];dsimp only;rw[ab5 h4]
def Qb(e:Nat)(q:Rat):Prop:=q.num.natAbs<2^e/\q.den<2^e
theorem Qb.mono{e f:Nat}{q:Rat}(h:Qb e q)(hf:e<=f):Qb f q :=
 ⟨aba h.1 (YK oz hf),aba h.2 (YK oz hf)⟩
theorem Qb.qs{e:Nat}{q:Rat}(h:Qb e q)(he:e<=4398046511104):Qs q:=by
 have h2:(4294967296:Nat)=2^32:=by decide
 have h3:∀x,x<2^e->x<4294967296^(e/32+1):=by
  intro x hx;rw[h2,<- Yk];exact aba hx (YK oz oz)
 by_cases h4:e=4398046511104
 ·obtain⟨k,hk⟩:∃k,k=137438953472:=⟨_,rfl⟩
  refine⟨k,by unfold fO;omega,?_,?_⟩
  ·unfold Lz;have:=h.1;rw[h2,<- Yk];exact aba this (YK oz oz)
  ·unfold Lz;have:=h.2;rw[h2,<- Yk];exact aba this (YK oz oz)
 ·exact⟨e/32+1,by unfold fO;omega,h3 _ h.1,h3 _ h.2⟩
theorem Qb.neg{e:Nat}{q:Rat}(h:Qb e q):Qb e (-q):=by
 refine⟨?_,?_⟩
 ·rw[Rat.neg_num,Int.natAbs_neg];exact h.1
 ·rw[Rat.neg_den];exact h.2
theorem v7{n d:Int}(h0:d≠0):(ZP n d).num.natAbs<=n.natAbs/\(ZP n d).den<=d.natAbs:=by
 constructor
 ·rw[Rat.num_divInt]
  have h1:(d.sign*n).natAbs=n.natAbs:=by
   rw[ZJ,Int.natAbs_sign_of_ne_zero h0,Nat.one_mul]
  rw[<- h1];exact Int.natAbs_ediv_le_natAbs _ _
 ·rw[Rat.den_divInt,ab5 h0];exact Yx _ _
theorem Qb.mul{e f:Nat}{p q:Rat}(h:Qb e p)(h':Qb f q):Qb (e+f) (p*q):=by
 rw[<- Bx];have h0:((p.den:Int)*q.den)≠0:=ZC (by have:=p.den_nz;omega) (by have:=q.den_nz;omega);obtain⟨h1,h2⟩:=v7 (n:=p.num*q.num) h0;refine⟨abk h1 ?_,abk h2 ?_⟩
 ·rw[ZJ,abq];exact YR h.1 h'.1
 ·rw[ZJ,abq,abo,abo];exact YR h.2 h'.2
theorem Qb.add{e f:Nat}{p q:Rat}(h:Qb e p)(h':Qb f q):Qb (e+f+1) (p+q):=by
 rw[<- Ak];have h0:((p.den:Int)*q.den)≠0:=ZC (by have:=p.den_nz;omega) (by have:=q.den_nz;omega);obtain⟨h1,h2⟩:=v7 (n:=p.num*q.den+q.num*p.den) h0;refine⟨abk h1 ?_,abk h2 ?_⟩
 ·have h3:=Int.natAbs_add_le (p.num*q.den) (q.num*p.den);rw[ZJ,ZJ,abo,abo]at h3;have h4:=YR h.1 h'.2;have h5:=YR h'.1 h.2;rw[Yj,abq];rw[Yn (2^f)]at h5;omega
 ·rw[ZJ,abo,abo,Yj,abq];have:=YR h.2 h'.2;omega
theorem Qb.sub{e f:Nat}{p q:Rat}(h:Qb e p)(h':Qb f q):Qb (e+f+1) (p-q):=by
 rw[ZR];exact h.add h'.neg
theorem Qb.div{e f:Nat}{p q:Rat}(h:Qb e p)(h':Qb f q):Qb (e+f) (p/q):=by
 by_cases h0:q=0
 ·subst h0;rw[Rat.div_def,Rat.inv_zero,Rat.mul_zero];have h1:0<2^e:=Yq e;have h2:=h.2;have h3:=p.den_nz;refine⟨?_,?_⟩
  ·exact Yq _
  ·show 1<2^(e+f);have:2^e<=2^(e+f):=YK oz oz;omega
 ·rw [<- Fg];have h0':((p.den:Int) * q.num) ≠ 0:=ZC (by have:=p.den_nz; omega) (fun h=>h0 (Rat.num_eq_zero.1 h));obtain ⟨h1,h2⟩:=v7 (n:=p.num * q.den) h0';refine ⟨abk h1 ?_,abk h2 ?_⟩
  ·rw[ZJ,abq,abo];exact YR h.1 h'.2
  ·rw[ZJ,abq,abo];exact YR h.2 h'.1
theorem Qb.zero:Qb 1 0:=⟨by decide,by decide⟩
theorem Qb.one:Qb 1 1:=⟨by decide,by decide⟩
theorem Rt.qb{r:Rt}{k:Nat}(h:r.ok)(hk:1<=k)(hn:r.num.length<=k)(hd:r.den.length<=k):Qb (32*k) r.q:=by
 have hB:∀{l:List Nat},Ws l->l.length<=k->val l<2^(32*k):=by
  intro l hw hl;have h1:=cr l hw;have h2:(4294967296:Nat)=2^32:=by decide
  rw[h2,<- Yk]at h1;exact aba h1 (YK oz oz)
 by_cases h0:r.valid=true/\r.num≠[]
 ·obtain⟨h1,h2,h3,h4,h5,h6⟩:=Rt.parts h h0.1 h0.2;refine⟨?_,?_⟩
  ·have : r.q.num.natAbs = val r.num := by rw [h1]; unfold sgn; split <;> omega
   rw[this];exact hB h.1 hn
  ·rw[h2];exact hB h.2.1 hd
 ·rw[Rt.zero h0];exact Qb.zero.mono oz
theorem Ug{r:Rt}(h0:¬(r.num=[]/\r.den=[])) :
  r.valid=cond (cond (!decide (r.num=[])&&(⟨false,r.num⟩:Wh).valid) (!decide (r.den=[])&&(⟨false,r.den⟩:Wh).valid) false) (aa .eql (gQ (ZH r.n0.z r.d0.z) 1) 0) false:=by
 by_cases h1:r.num=[]
 ·unfold Rt.valid;rw[ab5 h0,ab6 (.inl h1)];simp[h1]
 ·by_cases h2:r.den=[]
  ·unfold Rt.valid;rw[ab5 h0,ab6 (.inr h2)];simp[h2]
  ·have e1 : aa .eql (r.num.length : Int) 0 = false := by simp [aa, h1]
   have e2:aa .eql (r.den.length:Int) 0=false:=by simp[aa,h2]
   have n0:(⟨false,r.num⟩:Wh)=r.n0:=rfl;have d0:(⟨false,r.den⟩:Wh)=r.d0:=rfl;rw[n0,d0];cases hv:r.n0.valid
   ·rw[A8 h0 (by simp[hv,e1,e2])];simp
   ·cases hw:r.d0.valid
    ·rw[A8 h0 (by simp[hv,hw,e1,e2])];simp
    ·rw[GK h0 (by simp[hv,hw,e1,e2])];simp[h1,h2]
theorem Con.sA{P:aci}{f:FuncId}{args args':List AV}{H H':Hp}{r:AV}(h:SubL args' args)(hc:Con P f args H r H'):Con P f args' H r H':=by
 refine⟨hc.ok,?_⟩;intro ext m w vs hext hheap hvs hrep;refine hc.ret ext m w vs hext hheap (by rw[hvs,h.len]) (fun j v x hv hx=>?_);obtain⟨y,hy⟩:=ji h.len.symm hx;exact h.get j y x hy hx _ _ _ _ (hrep j v y hv hy)
@[reducible] def T:Nat->Type
  |0=>Rat
  |k+1=>T k×T k
namespace T
def zero:(k:Nat)->T k
  |0=>(0:Rat)
  |k+1=>(zero k,zero k)
def ofQ:(k:Nat)->Rat->T k
  |0,q=>q
  |k+1,q=>(ofQ k q,zero k)
def add:(k:Nat)->T k->T k->T k
  |0,x,y=>Rat.add x y
  |k+1,x,y=>(add k x.1 y.1,add k x.2 y.2)
def neg:(k:Nat)->T k->T k
  |0,x=>Rat.neg x
  |k+1,x=>(neg k x.1,neg k x.2)
def mul(r:(k:Nat)->T k):(k:Nat)->T k->T k->T k
  |0,x,y=>Rat.mul x y
  |k+1,x,y=>(add k (mul r k x.1 y.1) (mul r k (mul r k x.2 y.2) (r k)),add k (mul r k x.1 y.2) (mul r k x.2 y.1))
def norm(r:(k:Nat)->T k)(k:Nat)(x:T (k+1)):T k:=add k (mul r k x.1 x.1) (neg k (mul r k (mul r k x.2 x.2) (r k)))
def sgn3(sx sy sd sn:Int):Int:=if sd=0 then sx else if sx=sy\/sy=0 then sx else if sx=0 then sy else sx*sn
def sgn(r:(k:Nat)->T k):(k:Nat)->T k->Int
  |0,x=>bV x
  |k+1,x=>sgn3 (sgn r k x.1) (sgn r k x.2) (sgn r k (r k)) (sgn r k (norm r k x))
theorem add_zero:∀(k:Nat)(x:T k),add k x (zero k)=x
 |0,x=>Rat.add_zero x
 |k+1,x=>by simp only[add,zero,add_zero k]
theorem zero_add:∀(k:Nat)(x:T k),add k (zero k) x=x
 |0,x=>Rat.zero_add x
 |k+1,x=>by simp only[add,zero,zero_add k]
theorem add_comm:∀(k:Nat)(x y:T k),add k x y=add k y x
 |0,x,y=>Rat.add_comm x y
 |k+1,x,y=>by simp only[add,add_comm k x.1,add_comm k x.2]
theorem add_assoc:∀(k:Nat)(x y z:T k),add k (add k x y) z=add k x (add k y z)
 |0,x,y,z=>Rat.add_assoc x y z
 |k+1,x,y,z=>by simp only[add,add_assoc k]
theorem neg_zero:∀(k:Nat),neg k (zero k)=zero k
 |0=>by show -(0:Rat)=0;grind
 |k+1=>by simp only[neg,zero,neg_zero k]
theorem add_neg:∀(k:Nat)(x:T k),add k x (neg k x)=zero k
 |0,x=>by show(x:Rat)+-x=0;grind
 |k+1,x=>by simp only[add,neg,zero,add_neg k]
theorem zero_mul(r:(k:Nat)->T k):∀(k:Nat)(x:T k),mul r k (zero k) x=zero k
 |0,x=>Rat.zero_mul x
 |k+1,x=>by simp only[mul,zero,zero_mul r k,add_zero]
theorem mul_zero(r:(k:Nat)->T k):∀(k:Nat)(x:T k),mul r k x (zero k)=zero k
 |0,x=>Rat.mul_zero x
 |k+1,x=>by
  simp only[mul,zero,mul_zero r k,add_zero]
  have h:mul r k (zero k) (r k)=zero k:=by
   have:=zero_mul r k (r k);exact this
  rw[h];simp only[add_zero]
theorem mul_comm(r:(k:Nat)->T k):∀(k:Nat)(x y:T k),mul r k x y=mul r k y x
 |0,x,y=>Rat.mul_comm x y
 |k+1,x,y=>by
  simp only[mul];rw[mul_comm r k x.1 y.1,mul_comm r k x.2 y.2,mul_comm r k x.1 y.2,mul_comm r k x.2 y.1,add_comm k (mul r k y.2 x.1)]
theorem sgn_zero(r:(k:Nat)->T k):∀k,sgn r k (zero k)=0
 |0=>rfl
 |k+1=>by
  simp only[sgn,zero,sgn_zero r k,sgn3];split
  ·rfl
  ·simp
theorem sgn_low(r:(k:Nat)->T k)(k:Nat)(x:T k):sgn r (k+1) (x,zero k)=sgn r k x:=by
 simp only[sgn,sgn_zero,sgn3];split
 ·rfl
 ·simp
theorem sgnQ_cases(q:Rat):bV q=-1\/bV q=0\/bV q=1:=by
 unfold bV;split
 ·exact .inl rfl
 ·split
  ·exact .inr (.inr rfl)
  ·exact .inr (.inl rfl)
theorem sgn_cases(r:(k:Nat)->T k):∀(k:Nat)(x:T k),sgn r k x=-1\/sgn r k x=0\/sgn r k x=1
 |0,x=>sgnQ_cases x
 |k+1,x=>by
  simp only[sgn,sgn3];have h1:=sgn_cases r k x.1;have h2:=sgn_cases r k x.2;have h4:=sgn_cases r k (norm r k x);split
  ·exact h1
  ·split
   ·exact h1
   ·split
    ·exact h2
    ·rcases h1 with h |h |h <;> rcases h4 with h' |h' |h' <;> rw[h,h'] <;> simp
end T
def ae:(k:Nat)->List Rat->T k
  |0,l=>l.getD 0 0
  |k+1,l=>(ae k (l.take (2^k)),ae k (l.drop (2^k)))
theorem kR{l:List Rat}{n i:Nat}:(l.take n).getD i 0=if i<n then l.getD i 0 else 0:=by
 simp only[aaq,abj];split <;> simp
theorem kO{l:List Rat}{n i:Nat}:(l.drop n).getD i 0=l.getD (n+i) 0:=by
 simp only[aaq,abv]
theorem oy:∀(k:Nat){a b:List Rat},(∀i,i<2^k->a.getD i 0=b.getD i 0)->ae k a=ae k b
 |0,a,b,h=>h 0 (by decide)
 |k+1,a,b,h=>by
  have h1:=oy k (a:=a.take (2^k)) (b:=b.take (2^k)) (fun i hi=>by rw[kR,kR,ab6 hi,ab6 hi];exact h i (by rw[Yj];omega));have h2:=oy k (a:=a.drop (2^k)) (b:=b.drop (2^k)) (fun i hi=>by rw[kO,kO];exact h _ (by rw[Yj];omega));simp only[ae,h1,h2]
theorem CR:∀(k:Nat){a b c:List Rat},(∀i,i<2^k->c.getD i 0=a.getD i 0+b.getD i 0)->ae k c=T.add k (ae k a) (ae k b)
 |0,a,b,c,h=>h 0 (by decide)
 |k+1,a,b,c,h=>by
  have h1:=CR k (a:=a.take (2^k)) (b:=b.take (2^k)) (c:=c.take (2^k)) (fun i hi=>by rw[kR,kR,kR,ab6 hi,ab6 hi,ab6 hi];exact h i (by rw[Yj];omega));have h2:=CR k (a:=a.drop (2^k)) (b:=b.drop (2^k)) (c:=c.drop (2^k)) (fun i hi=>by rw[kO,kO,kO];exact h _ (by rw[Yj];omega));simp only[ae,T.add,h1,h2]
theorem zQ:∀(k:Nat){a c:List Rat},(∀i,i<2^k->c.getD i 0=-a.getD i 0)->ae k c=T.neg k (ae k a)
 |0,a,c,h=>h 0 (by decide)
 |k+1,a,c,h=>by
  have h1:=zQ k (a:=a.take (2^k)) (c:=c.take (2^k)) (fun i hi=>by rw[kR,kR,ab6 hi,ab6 hi];exact h i (by rw[Yj];omega));have h2:=zQ k (a:=a.drop (2^k)) (c:=c.drop (2^k)) (fun i hi=>by rw[kO,kO];exact h _ (by rw[Yj];omega));simp only[ae,T.neg,h1,h2]
theorem vo:∀(k:Nat){a:List Rat},(∀i,i<2^k->a.getD i 0=0)->ae k a=T.zero k
 |0,a,h=>h 0 (by decide)
 |k+1,a,h=>by
  have h1:=vo k (a:=a.take (2^k)) (fun i hi=>by rw[kR,ab6 hi];exact h i (by rw[Yj];omega));have h2:=vo k (a:=a.drop (2^k)) (fun i hi=>by rw[kO];exact h _ (by rw[Yj];omega));simp only[ae,T.zero,h1,h2]
theorem Bi{l:List Rat}{i:Nat}(h:l.length<=i):l.getD i 0=0:=by
 simp[aaq,aa5 h]
theorem gp(k:Nat):ae k []=T.zero k:=vo k (fun i _=>by simp)
theorem gq{k:Nat}{a:List Rat}(h:a.length<=2^k):ae (k+1) a=(ae k a,T.zero k):=by
 have h1:a.take (2^k)=a:=aa7 h;have h2:a.drop (2^k)=[]:=abm h;simp only[ae,h1,h2,gp]
theorem lg(k:Nat)(q:Rat):ae k [q]=T.ofQ k q:=by
 induction k with
 |zero=>rfl
 |succ k ih=>rw[gq (by simp;exact Nat.one_le_two_pow),ih];rfl
def a6(a:List Rat)(n:Nat):List Rat:=a++Y6 (n-a.length) 0
def cD(a b:List Rat):List Rat:=List.zipWith (·+·) (a6 a (max a.length b.length)) (a6 b (max a.length b.length))
def de(a:List Rat):List Rat:=a.map (- ·)
def fh(a b:List Rat)(n:Nat):List Rat:=a6 a n++a6 b n
def bG(a:List Rat):Bool:=a.all (fun q=>decide (q=0))
theorem dO{a:List Rat}{n:Nat}(h:a.length<=n):(a6 a n).length=n:=by simp[a6];omega
theorem eG{a b:List Rat}:(cD a b).length=max a.length b.length:=by
 simp only[cD,List.length_zipWith];rw[dO oz,dO oz];omega
theorem jf{a:List Rat}:(de a).length=a.length:=by simp[de]
theorem pJ{a b:List Rat}{n:Nat}(h:a.length<=n)(h':b.length<=n):(fh a b n).length=n+n:=by simp[fh,dO h,dO h']
theorem pc{a:List Rat}{n i:Nat}:(a6 a n).getD i 0=a.getD i 0:=by
 simp only[a6,aaq]
 by_cases h:i<a.length
 ·rw[aa9 h]
 ·rw[aa6 oz,aa5 (l:=a) oz,abl];split <;> rfl
theorem KA{a b:List Rat}{i:Nat}:(cD a b).getD i 0=a.getD i 0+b.getD i 0:=by
 by_cases h:i<max a.length b.length
 ·have e:(cD a b).getD i 0=(a6 a (max a.length b.length)).getD i 0+(a6 b (max a.length b.length)).getD i 0:=by
   have ha:i<(a6 a (max a.length b.length)).length:=by rw[dO oz];exact h
   have hb:i<(a6 b (max a.length b.length)).length:=by rw[dO oz];exact h
   simp only[cD,aaq,List.getElem?_zipWith,aat ha,aat hb,aan]
  rw[e,pc,pc]
 ·rw[Bi (by rw[eG];omega),Bi oz,Bi oz,Rat.add_zero]
theorem KK{a:List Rat}{i:Nat}:(de a).getD i 0=-a.getD i 0:=by
 simp only[de,aaq,aav];cases a[i]? with
 |none=>show(0:Rat)=-0;grind
 |some x=>rfl
theorem G9{a b:List Rat}{n i:Nat}(h:a.length<=n):(fh a b n).getD i 0=if i<n then a.getD i 0 else b.getD (i-n) 0:=by
 have hl:=dO h;simp only[fh];split
 ·rw[<- pc (a:=a) (n:=n),aaq,aaq,aa9 oz]
 ·rw[<- pc (a:=b) (n:=n),aaq,aaq,aa6 oz,hl]
theorem nO(k:Nat){a:List Rat}{n:Nat}:ae k (a6 a n)=ae k a:=oy k (fun i _=>pc)
theorem jC(k:Nat){a b:List Rat}:ae k (cD a b)=T.add k (ae k a) (ae k b):=CR k (fun i _=>KA)
theorem m7(k:Nat){a:List Rat}:ae k (de a)=T.neg k (ae k a):=zQ k (fun i _=>KK)
theorem ww{k:Nat}{a b:List Rat}(h:a.length<=2^k):ae (k+1) (fh a b (2^k))=(ae k a,ae k b):=by
 have h1:ae k ((fh a b (2^k)).take (2^k))=ae k a:=oy k (fun i hi=>by rw[kR,ab6 hi,G9 h,ab6 hi]);have h2:ae k ((fh a b (2^k)).drop (2^k))=ae k b:=oy k (fun i hi=>by rw[kO,G9 h,ab5 oz];congr 1;omega);simp only[ae,h1,h2]
theorem CF{k:Nat}{a:List Rat}(h:bG a=true):ae k a=T.zero k:=by
 refine vo k (fun i _=>?_);rw[aaq];cases hx:a[i]? with
 |none=>rfl
 |some x =>
  have:=aa3.1 h x (aap hx);simpa using this
def Nl(k:Nat)(a:List Rat):Prop:=a=[]\/∃j,j<=k/\a.length=2^j
theorem Nl.le{k:Nat}{a:List Rat}(h:Nl k a):a.length<=2^k:=by
 rcases h with rfl |⟨j,hj,h⟩
 ·simp
 ·rw[h];exact YK oz hj
theorem Nl.mono{k l:Nat}{a:List Rat}(h:Nl k a)(hl:k<=l):Nl l a:=by
 rcases h with h |⟨j,hj,h⟩
 ·exact .inl h
 ·exact .inr ⟨j,by omega,h⟩
def au(ts:LL)(k:Nat):T k:=ae k (ts.getD k [])
def pT(ts:LL):Nat->List Rat->List Rat->List Rat
  |k,a,b =>
    let x:=if a.length<b.length then b else a
    let y:=if a.length<b.length then a else b
    if bG x||bG y then[]else if x.length=1 then[x.getD 0 0*y.getD 0 0]
    else match k with
      |0=>[]
      |k+1 =>
        if y.length<=x.length/2 then fh (pT ts k (x.take (x.length/2)) y) (pT ts k (x.drop (x.length/2)) y) (x.length/2)
        else fh (cD (pT ts k (x.take (x.length/2)) (y.take (x.length/2))) (pT ts k (pT ts k (x.drop (x.length/2)) (y.drop (x.length/2))) (ts.getD (x.length.log2-1) [])))
          (cD (pT ts k (x.take (x.length/2)) (y.drop (x.length/2))) (pT ts k (x.drop (x.length/2)) (y.take (x.length/2)))) (x.length/2)
theorem T.mul_low(r:(k:Nat)->T k)(k:Nat)(x u:T k):T.mul r (k+1) (x,T.zero k) (u,T.zero k)=(T.mul r k x u,T.zero k):=by
 simp only[T.mul,T.mul_zero,T.zero_mul,T.add_zero]
theorem T.mul_half(r:(k:Nat)->T k)(k:Nat)(x y u:T k):T.mul r (k+1) (x,y) (u,T.zero k)=(T.mul r k x u,T.mul r k y u):=by
 simp only[T.mul,T.mul_zero,T.zero_mul,T.add_zero,T.zero_add]
theorem T.mul_ofQ(r:(k:Nat)->T k):∀(k:Nat)(p q:Rat),T.mul r k (T.ofQ k p) (T.ofQ k q)=T.ofQ k (p*q)
 |0,p,q=>rfl
 |k+1,p,q=>by simp only[T.ofQ];rw[T.mul_low,T.mul_ofQ r k]
theorem W9:bG []=true:=rfl
theorem CO(j:Nat):(2^(j+1)).log2-1=j:=by rw[Nat.log2_two_pow];omega
theorem fZ{j:Nat}{a:List Rat}(h:a.length=2^(j+1)):(a.take (2^j)).length=2^j:=by
 simp[h,Yj];omega
theorem gh{j:Nat}{a:List Rat}(h:a.length=2^(j+1)):(a.drop (2^j)).length=2^j:=by
 simp[h,Yj];omega
theorem fK(j:Nat):2^(j+1)/2=2^j:=by rw[Yj];omega
theorem yC(ts:LL)(k:Nat)(a b:List Rat)(h:a.length<b.length):pT ts k a b=pT ts k b a:=by
 unfold pT;simp only[ab6 h,ab5 (show ¬b.length<a.length by omega)]
theorem IV(ts:LL)(Q:Nat->List Rat->List Rat->List Rat->Prop)
  (hcomm:∀j a b c,Q j a b c->Q j b a c)
  (hzero:∀j a b,Nl j a->Nl j b->(bG a=true\/bG b=true)->Q j a b [])
  (hone:∀j p q,Q j [p] [q] [p*q])
  (hup:∀j a b c,Nl j a->Nl j b->Q j a b c->Q (j+1) a b c)
  (hhalf:∀j a b c d,a.length=2^(j+1)->Nl j b->Q j (a.take (2^j)) b c->Q j (a.drop (2^j)) b d->Q (j+1) a b (fh c d (2^j)))
  (hfull:∀j a b c1 c2 c3 c4 c5,a.length=2^(j+1)->b.length=2^(j+1)->Q j (a.take (2^j)) (b.take (2^j)) c1->Q j (a.drop (2^j)) (b.drop (2^j)) c2 ->
   Q j c2 (ts.getD j []) c3->Q j (a.take (2^j)) (b.drop (2^j)) c4->Q j (a.drop (2^j)) (b.take (2^j)) c5->Q (j+1) a b (fh (cD c1 c3) (cD c4 c5) (2^j)))
  (hnl:∀j a b c,Q j a b c->Nl j c) (m:Nat) (hr:∀j,j<m->Nl j (ts.getD j [])) :
  ∀(j k:Nat)(a b:List Rat),j<=m->j<=k->Nl j a->Nl j b->Q j a b (pT ts k a b):=by
 intro j
 induction j with
 |zero =>
  intro k a b _ _ ha hb;have hla:=ha.le;have hlb:=hb.le
  have key:∀a b:List Rat,Nl 0 a->Nl 0 b->¬a.length<b.length->Q 0 a b (pT ts k a b):=by
   intro a b ha hb hlt;have hla:=ha.le;have hlb:=hb.le;unfold pT;simp only[ab5 hlt];split
   ·rename_i h;rw[abz]at h;exact hzero 0 a b ha hb h
   ·rename_i h;simp only [abz,not_or,Bool.not_eq_true] at h;have h1:a ≠ []:=fun h'=>by rw [h'] at h; cases h.1
    have h2:b≠[]:=fun h'=>by rw[h']at h;cases h.2
    obtain⟨p,rfl⟩:∃p,a=[p]:=YV.1 (by have:=Zr.2 h1;omega);obtain⟨q,rfl⟩:∃q,b=[q]:=YV.1 (by have:=Zr.2 h2;omega);simp only[aa4,abg,if_true];exact hone 0 p q
  by_cases hlt:a.length<b.length
  ·rw[yC ts k a b hlt];exact hcomm _ _ _ _ (key b a hb ha oz)
  ·exact key a b ha hb hlt
 |succ j ih =>
  intro k a b hjm hjk ha hb
  have key:∀a b:List Rat,Nl (j+1) a->Nl (j+1) b->¬a.length<b.length->Q (j+1) a b (pT ts k a b):=by
   intro a b ha hb hlt
   by_cases hs:Nl j a
   ·have hbs:Nl j b:=by
     rcases hb with rfl |⟨i,hi,h⟩
     ·exact .inl rfl
     ·by_cases hij:i<=j
      ·exact .inr ⟨i,hij,h⟩
      ·have h1:=hs.le;have h2:2^(j+1)<=2^i:=YK oz oz;rw[Yj]at h2;have:=Yq j;omega
    exact hup j a b _ hs hbs (ih k a b oz oz hs hbs)
   ·have hal:a.length=2^(j+1):=by
     rcases ha with rfl |⟨i,hi,h⟩
     ·exact acc (.inl rfl) hs
     ·by_cases hij:i<=j
      ·exact acc (.inr ⟨i,hij,h⟩) hs
      ·rw[h,show i=j+1 by omega]
    obtain⟨k,rfl⟩:∃k',k=k'+1:=⟨k-1,by omega⟩
    have h2j:=Yq j;have hx:Nl j (a.take (2^j)):=.inr ⟨j,aau _,fZ hal⟩;have hy:Nl j (a.drop (2^j)):=.inr ⟨j,aau _,gh hal⟩;unfold pT;simp only[ab5 hlt];split
    ·rename_i h;rw[abz]at h;exact hzero _ a b ha hb h
    ·rename_i h;simp only [abz,not_or,Bool.not_eq_true] at h;rw [ab5 (by rw [hal,Yj]; omega)];simp only [hal,fK,CO];split
     ·rename_i hbl
      have hbs:Nl j b:=by
       rcases hb with rfl |⟨i,hi,h'⟩
       ·exact .inl rfl
       ·by_cases hij:i<=j
        ·exact .inr ⟨i,hij,h'⟩
        ·have h2:2^(j+1)<=2^i:=YK oz oz;rw[Yj]at h2;omega
      exact hhalf j a b _ _ hal hbs (ih k _ _ oz oz hx hbs) (ih k _ _ oz oz hy hbs)
     ·rename_i hbl
      have hbl':b.length=2^(j+1):=by
       rcases hb with rfl |⟨i,hi,h'⟩
       ·simp at hbl
       ·by_cases hij:i<=j
        ·have:2^i<=2^j:=YK oz hij;omega
        ·rw[h',show i=j+1 by omega]
      have hu:Nl j (b.take (2^j)):=.inr ⟨j,aau _,fZ hbl'⟩;have hv:Nl j (b.drop (2^j)):=.inr ⟨j,aau _,gh hbl'⟩;have h2:=ih k _ _ oz oz hy hv;exact hfull j a b _ _ _ _ _ hal hbl' (ih k _ _ oz oz hx hu) h2 (ih k _ _ oz oz (hnl _ _ _ _ h2) (hr j oz)) (ih k _ _ oz oz hx hv) (ih k _ _ oz oz hy hu)
  by_cases hlt:a.length<b.length
  ·rw[yC ts k a b hlt];exact hcomm _ _ _ _ (key b a hb ha oz)
  ·exact key a b ha hb hlt
theorem gd(ts:LL)(m:Nat)(hr:∀j,j<m->Nl j (ts.getD j []))(j k:Nat)(a b:List Rat)(hj:j<=m)(hk:j<=k)(ha:Nl j a)(hb:Nl j b) :
  Nl j (pT ts k a b)/\ae j (pT ts k a b)=T.mul (au ts) j (ae j a) (ae j b):=by
 refine IV ts (fun j a b c=>Nl j c/\ae j c=T.mul (au ts) j (ae j a) (ae j b)) ?_ ?_ ?_ ?_ ?_ ?_ (fun _ _ _ _ h=>h.1) m hr j k a b hj hk ha hb
 ·intro j a b c h;exact⟨h.1,by rw[h.2,T.mul_comm]⟩
 ·intro j a b ha hb h;refine⟨.inl rfl,?_⟩;rw[gp];rcases h with h |h
  ·rw[CF h,T.zero_mul]
  ·rw[CF h,T.mul_zero]
 ·intro j p q;exact⟨.inr ⟨0,aa0 _,rfl⟩,by rw[lg,lg,lg,T.mul_ofQ]⟩
 ·intro j a b c ha hb h;refine⟨h.1.mono oz,?_⟩;rw[gq ha.le,gq hb.le,gq h.1.le,T.mul_low,h.2]
 ·intro j a b c d ha hb hc hd;refine⟨.inr ⟨j+1,aau _,?_⟩,?_⟩
  ·rw[pJ hc.1.le hd.1.le,Yj];omega
  ·rw[ww hc.1.le,gq hb.le,hc.2,hd.2];simp only[ae];rw[T.mul_half]
 ·intro j a b c1 c2 c3 c4 c5 ha hb h1 h2 h3 h4 h5;refine⟨.inr ⟨j+1,aau _,?_⟩,?_⟩
  ·have l1:=h1.1.le;have l3:=h3.1.le;have l4:=h4.1.le;have l5:=h5.1.le;rw[pJ (by rw[eG];omega) (by rw[eG];omega),Yj];omega
  ·have l1:=h1.1.le;have l3:=h3.1.le;rw[ww (by rw[eG];omega),jC,jC,h1.2,h3.2,h4.2,h5.2,h2.2];rfl
def bu:Nat->List Rat->List Rat
  |0,a=>if bG a then[]else a
  |j+1,a=>if bG (a.drop (2^j))then bu j (a.take (2^j))else a
def T.isZ:(k:Nat)->T k->Bool
  |0,q=>decide ((q:Rat)=0)
  |k+1,x=>isZ k x.1&&isZ k x.2
theorem T.isZ_iff:∀(k:Nat)(x:T k),T.isZ k x=true↔x=T.zero k
 |0,x=>by simp only[T.isZ,ab7];rfl
 |k+1,x=>by
  simp only[T.isZ,aaw,T.isZ_iff k,T.zero];constructor
  ·intro h;exact Prod.ext h.1 h.2
  ·intro h;rw[h];exact⟨rfl,rfl⟩
def enc:(k:Nat)->T k->List Rat
  |0,q=>[q]
  |k+1,x=>enc k x.1++enc k x.2
def sh:(k:Nat)->T k->List Rat
  |0,q=>if(q:Rat)=0 then[]else[q]
  |k+1,x=>if T.isZ k x.2 then sh k x.1 else enc k x.1++enc k x.2
theorem n7:∀(k:Nat)(x:T k),(enc k x).length=2^k
 |0,x=>rfl
 |k+1,x=>by simp only[enc,abi,n7 k];rw[Yj];omega
theorem we:∀(k:Nat)(x:T k),ae k (enc k x)=x
 |0,x=>rfl
 |k+1,x=>by
  simp only[enc,ae]
  rw [Zt (by rw [n7]; exact aau _), aa7 (by rw [n7]; exact aau _), ZB (by rw [n7]; exact aau _),
   abm (by rw[n7];exact aau _),nil_append,we k,we k]
theorem qJ:∀(k:Nat)(a:List Rat),a.length=2^k->enc k (ae k a)=a
 |0,a,h=>by
  obtain⟨p,rfl⟩:=YV.1 h;rfl
 |k+1,a,h=>by
  simp only[enc,ae];rw[qJ k _ (fZ h),qJ k _ (gh h),Zc]
theorem Vq{k:Nat}{a:List Rat}(h:a.length<=2^k):bG a=T.isZ k (ae k a):=by
 rw[Z3,T.isZ_iff];constructor
 ·exact CF
 ·intro h0;have h1:enc k (ae k (a6 a (2^k)))=a6 a (2^k):=qJ k _ (dO h);rw[nO,h0]at h1
  have h2:∀k,bG (enc k (T.zero k))=true:=by
   intro k
   induction k with
   |zero=>rfl
   |succ k ih=>simp only[enc,T.zero,bG,all_append,aaw]at ih ⊢;exact⟨ih,ih⟩
  have h3:=h2 k;rw[h1]at h3;simp only[bG,a6,all_append,aaw]at h3;exact h3.1
theorem Ae:∀(k:Nat){a:List Rat},Nl k a->bu k a=sh k (ae k a)
 |0,a,h=>by
  have hl:=h.le;simp only[bu,sh]
  match a,hl with
  |[],_=>rfl
  |[p],_=>simp[bG,ae]
 |k+1,a,h=>by
  have hl:=h.le;have h1:(a.drop (2^k)).length<=2^k:=by simp;rw[Yj]at hl;omega
  have e1:bu (k+1) a=if bG (a.drop (2^k))=true then bu k (a.take (2^k))else a:=rfl;have e2:∀x y:T k,sh (k+1) (x,y)=if T.isZ k y=true then sh k x else enc k x++enc k y:=fun _ _=>rfl
  rw[e1,show ae (k+1) a=(ae k (a.take (2^k)),ae k (a.drop (2^k)))from rfl,e2,Vq h1]
  by_cases hz:T.isZ k (ae k (a.drop (2^k)))=true
  ·rw[ab6 hz,ab6 hz];refine Ae k ?_;rcases h with rfl |⟨j,hj,h⟩
   ·exact .inl (by simp)
   ·by_cases hjk:j<=k
    ·rw[aa7 (by rw[h];exact YK oz hjk)];exact .inr ⟨j,hjk,h⟩
    ·exact .inr ⟨k,aau _,fZ (by rw[h,show j=k+1 by omega])⟩
  ·rw[ab5 hz,ab5 hz]
   have hlen:a.length=2^(k+1):=by
    rcases h with rfl |⟨j,hj,h⟩
    ·exfalso;apply hz
     rw[List.drop_nil,T.isZ_iff,gp]
    ·by_cases hjk:j<=k
     ·exfalso;apply hz
      rw[abm (by rw[h];exact YK oz hjk),T.isZ_iff,gp]
     ·rw[h,show j=k+1 by omega]
   rw[qJ k _ (fZ hlen),qJ k _ (gh hlen),Zc]
theorem eT:∀(k:Nat)(x:T k),Nl k (sh k x)
 |0,q=>by
  simp only[sh];split
  ·exact .inl rfl
  ·exact .inr ⟨0,aau _,rfl⟩
 |k+1,x=>by
  simp only[sh];split
  ·exact(eT k x.1).mono oz
  ·exact .inr ⟨k+1,aau _,by rw[abi,n7,n7,Yj];omega⟩
theorem bh:∀(k:Nat)(x:T k),ae k (sh k x)=x
 |0,q=>by
  simp only[sh];split
  ·rename_i h;exact h.symm
  ·rfl
 |k+1,x=>by
  simp only[sh];split
  ·rename_i h;rw[T.isZ_iff]at h;rw[gq (eT k x.1).le,bh k,<- h]
  ·exact we (k+1) x
theorem U6{k:Nat}{x:T (k+1)}(h:T.isZ k x.2=false):(sh (k+1) x).length=2^(k+1):=by
 simp only[sh,h,ZX,if_false,abi,n7];rw[Yj];omega
def Cd(D N:Nat)(l:List Rat):Prop:=0<D/\∀q∈l,∃n:Int,q*((D:Int):Rat)=(n:Rat)/\n.natAbs<=N
theorem Cd.mono{D N N':Nat}{l:List Rat}(h:Cd D N l)(hn:N<=N'):Cd D N' l :=
 ⟨h.1,fun q hq=>by obtain⟨n,h1,h2⟩:=h.2 q hq;exact⟨n,h1,by omega⟩⟩
theorem Cd.sub{D N:Nat}{l l':List Rat}(h:Cd D N l)(hs:∀q∈l',q∈l):Cd D N l':=⟨h.1,fun q hq=>h.2 q (hs q hq)⟩
theorem Cd.scale{D N c:Nat}{l:List Rat}(h:Cd D N l)(hc:0<c):Cd (D*c) (N*c) l:=by
 refine⟨YJ h.1 hc,fun q hq=>?_⟩;obtain⟨n,h1,h2⟩:=h.2 q hq;refine⟨n*c,?_,?_⟩
 ·rw[Int.natCast_mul,ZT,<- Rat.mul_assoc,h1,ZT]
 ·rw[ZJ,abo];exact abh _ h2
theorem Cd.nil{D N:Nat}(h:0<D):Cd D N []:=⟨h,fun q hq=>by cases hq⟩
theorem Cd.app{D N:Nat}{a b:List Rat}(h:Cd D N a)(h':Cd D N b):Cd D N (a++b) :=
 ⟨h.1,fun q hq=>by rcases aa2.1 hq with hq |hq;exact h.2 q hq;exact h'.2 q hq⟩
theorem Cd.zeros{D N n:Nat}(h:0<D):Cd D N (Y6 n 0) :=
 ⟨h,fun q hq=>⟨0,by rw[(Zg.1 hq).2,Rat.zero_mul];rfl,by simp⟩⟩
theorem Cd.wide{D N n:Nat}{a:List Rat}(h:Cd D N a):Cd D N (a6 a n):=h.app (Cd.zeros h.1)
theorem Cd.join{D N n:Nat}{a b:List Rat}(h:Cd D N a)(h':Cd D N b):Cd D N (fh a b n):=h.wide.app h'.wide
theorem Cd.minus{D N:Nat}{a:List Rat}(h:Cd D N a):Cd D N (de a):=by
 refine⟨h.1,fun q hq=>?_⟩;obtain⟨p,hp,rfl⟩:=Y8.1 hq;obtain⟨n,h1,h2⟩:=h.2 p hp;refine⟨-n,?_,by omega⟩;rw[Rat.intCast_neg,<- h1,Rat.neg_mul]
theorem Cd.plus{D N N':Nat}{a b:List Rat}(h:Cd D N a)(h':Cd D N' b):Cd D (N+N') (cD a b):=by
 refine⟨h.1,fun q hq=>?_⟩;have h1:Cd D N (a6 a (max a.length b.length)):=h.wide;have h2:Cd D N' (a6 b (max a.length b.length)):=h'.wide;unfold cD at hq;obtain⟨i,hi,rfl⟩:=Zb.1 hq;rw[List.getElem_zipWith];obtain⟨n,e1,e2⟩:=h1.2 _ (Zi (by simp at hi;omega:i<(a6 a (max a.length b.length)).length));obtain⟨m,e3,e4⟩:=h2.2 _ (Zi (by simp at hi;omega:i<(a6 b (max a.length b.length)).length));refine⟨n+m,?_,by have:=Int.natAbs_add_le n m;omega⟩;rw[Rat.add_mul,e1,e3,Rat.intCast_add]
theorem Cd.mul1{D N D' N':Nat}{p q:Rat}(h:Cd D N [p])(h':Cd D' N' [q]):Cd (D*D') (N*N') [p*q]:=by
 refine⟨YJ h.1 h'.1,fun x hx=>?_⟩;rw[Za.1 hx];obtain⟨n,e1,e2⟩:=h.2 p (by simp);obtain⟨m,e3,e4⟩:=h'.2 q (by simp);refine⟨n*m,?_,by rw[ZJ];exact YC e2 e4⟩;rw[ZT,<- e1,<- e3,Int.natCast_mul,ZT];grind
theorem Cd.qb{D N e:Nat}{l:List Rat}(h:Cd D N l)(hD:D<2^e)(hN:N<2^e){q:Rat}(hq:q∈l):Qb e q:=by
 obtain⟨n,h1,h2⟩:=h.2 q hq
 have hD0:((D:Int):Rat)≠0:=by
  intro h0;have:(D:Int)=0:=ZV.1 h0;have:=h.1;omega
 have hq2:q=ZP n D:=by
  rw[ZS,<- h1,Rat.mul_div_cancel hD0]
 have h0:=h.1;obtain⟨e1,e2⟩:=v7 (n:=n) (d:=(D:Int)) oz;rw[hq2];refine⟨by omega,by rw[abo]at e2;omega⟩
def rR(D:Nat):Nat->Nat
  |0=>1
  |j+1=>rR D j*rR D j*D
def rM(D N:Nat):Nat->Nat
  |0=>1
  |j+1=>2*(rM D N j*rM D N j*(D+N))
theorem iM{D:Nat}(h:0<D):∀j,0<rR D j
 |0=>by simp[rR]
 |j+1=>YJ (YJ (iM h j) (iM h j)) h
theorem k8(D N:Nat):∀j,rR D j<=rM D N j
 |0=>aau _
 |j+1=>by
  have h1:=YC (YC (k8 D N j) (k8 D N j)) (YG D N);simp only[rR,rM];omega
theorem LE(ts:LL)(m D N:Nat)(hts:∀j,j<m->Nl j (ts.getD j [])/\Cd D N (ts.getD j []))(hD:0<D)(j k:Nat)(a b:List Rat)(hj:j<=m)(hk:j<=k)(ha:Nl j a)(hb:Nl j b)
  {Da Na Db Nb:Nat} (ca:Cd Da Na a) (cb:Cd Db Nb b):Cd (Da*Db*rR D j) (Na*Nb*rM D N j) (pT ts k a b):=by
 have key:=IV ts (fun j a b c=>Nl j c/\(j<=m->∀Da Na Db Nb:Nat,Cd Da Na a->Cd Db Nb b->Cd (Da*Db*rR D j) (Na*Nb*rM D N j) c)) ?_ ?_ ?_ ?_ ?_ ?_ (fun _ _ _ _ h=>h.1) m (fun j hj=>(hts j hj).1) j k a b hj hk ha hb
 ·exact key.2 hj _ _ _ _ ca cb
 ·intro j a b c h;refine⟨h.1,fun hj Da Na Db Nb ca cb=>?_⟩;rw[Yn Da,Yn Na];exact h.2 hj _ _ _ _ cb ca
 ·intro j a b ha hb h;exact⟨.inl rfl,fun hj Da Na Db Nb ca cb=>Cd.nil (YJ (YJ ca.1 cb.1) (iM hD j))⟩
 ·intro j p q;refine⟨.inr ⟨0,aa0 _,rfl⟩,fun hj Da Na Db Nb ca cb=>?_⟩;have h1:=(ca.mul1 cb).scale (iM hD j);exact h1.mono (aaz _ (k8 D N j))
 ·intro j a b c ha hb h;refine ⟨h.1.mono oz,fun hj Da Na Db Nb ca cb=>?_⟩;have h1:=(h.2 oz _ _ _ _ ca cb).scale (YJ (iM hD j) hD);have e1:Da * Db * rR D j * (rR D j * D) = Da * Db * rR D (j + 1):=by simp only [rR]; grind
  rw[e1]at h1;refine h1.mono ?_;have h2:=aaz (rM D N j) (YC (k8 D N j) (YG D N));have h3:rM D N j*(rR D j*D)<=rM D N (j+1):=by simp only[rM,Yw]at *;omega
  rw[Yw (Na*Nb)];exact aaz _ h3
 ·intro j a b c d ha hb hc hd;refine ⟨.inr ⟨j + 1,aau _,by rw [pJ hc.1.le hd.1.le,Yj]; omega⟩,fun hj Da Na Db Nb ca cb=>?_⟩;have ca1:Cd Da Na (a.take (2 ^ j)):=ca.sub (fun q hq=>abx hq);have ca2:Cd Da Na (a.drop (2 ^ j)):=ca.sub (fun q hq=>Y0 hq);have h1:=((hc.2 oz _ _ _ _ ca1 cb).join (hd.2 oz _ _ _ _ ca2 cb) (n:=2 ^ j)).scale (YJ (iM hD j) hD);have e1:Da * Db * rR D j * (rR D j * D) = Da * Db * rR D (j + 1):=by simp only [rR]; grind
  rw[e1]at h1;refine h1.mono ?_;have h2:=aaz (rM D N j) (YC (k8 D N j) (YG D N));have h3:rM D N j*(rR D j*D)<=rM D N (j+1):=by simp only[rM,Yw]at *;omega
  rw[Yw (Na*Nb)];exact aaz _ h3
 ·intro j a b c1 c2 c3 c4 c5 ha hb h1 h2 h3 h4 h5;refine⟨.inr ⟨j+1,aau _,?_⟩,fun hj Da Na Db Nb ca cb=>?_⟩
  ·have l1:=h1.1.le;have l3:=h3.1.le;have l4:=h4.1.le;have l5:=h5.1.le;rw[pJ (by rw[eG];omega) (by rw[eG];omega),Yj];omega
  have ca1:Cd Da Na (a.take (2^j)):=ca.sub (fun q hq=>abx hq);have ca2:Cd Da Na (a.drop (2^j)):=ca.sub (fun q hq=>Y0 hq);have cb1:Cd Db Nb (b.take (2^j)):=cb.sub (fun q hq=>abx hq);have cb2:Cd Db Nb (b.drop (2^j)):=cb.sub (fun q hq=>Y0 hq);have k2:=h2.2 oz _ _ _ _ ca2 cb2;have k3:=h3.2 oz _ _ _ _ k2 (hts j oz).2;have k1:=(h1.2 oz _ _ _ _ ca1 cb1).scale (YJ (iM hD j) hD);have k4:=(h4.2 oz _ _ _ _ ca1 cb2).scale (YJ (iM hD j) hD);have k5:=(h5.2 oz _ _ _ _ ca2 cb1).scale (YJ (iM hD j) hD);have e1:Da*Db*rR D j*(rR D j*D)=Da*Db*rR D (j+1):=by simp only[rR];grind
  have e3:Da*Db*rR D j*D*rR D j=Da*Db*rR D (j+1):=by simp only[rR];grind
  rw[e1]at k1 k4 k5;rw[e3]at k3;have b1:rM D N j*(rR D j*D)<=rM D N j*rM D N j*D:=by rw[Yw];exact aaz _ (abh _ (k8 D N j))
  have b2:∀x,Na*Nb*rM D N j*(rR D j*D)+Na*Nb*x<=Na*Nb*(rM D N j*rM D N j*D+x):=by
   intro x;rw[Yt,Yw (Na*Nb)];exact Nat.add_le_add_right (aaz _ b1) _
  refine Cd.join (Cd.mono (k1.plus k3) ?_) (Cd.mono (k4.plus k5) ?_)
  ·have e4 : Na * Nb * rM D N j * N * rM D N j = Na * Nb * (rM D N j * rM D N j * N) := by grind
   rw[e4];refine abe (b2 _) (aaz _ ?_);simp only[rM];rw[<- Yt];omega
  ·have e4 : Na * Nb * rM D N j * (rR D j * D) <= Na * Nb * (rM D N j * rM D N j * D) := by rw [Yw (Na * Nb)]; exact aaz _ b1
   refine abe (Nat.add_le_add e4 e4) ?_;rw[<- Yt];refine aaz _ ?_;simp only[rM];have:=aaz (rM D N j*rM D N j) (YG D N);omega
def eB(r:Nat):Nat->Nat
  |0=>0
  |j+1=>2*eB r j+r+2
theorem uy{D N r:Nat}(hD:D<=2^r)(hN:N<=2^r):∀j,rM D N j<=2^eB r j
 |0=>aau _
 |j+1=>by
  have h1:=uy hD hN j;have h2:=YC (YC h1 h1) (Nat.add_le_add hD hN);simp only[rM,eB]
  have e:2^(2*eB r j+r+2)=2*(2^eB r j*2^eB r j*(2^r+2^r)):=by
   rw[abq,abq,Nat.two_mul,abq];grind
  rw[e];exact aaz _ h2
def Cb(e:Nat)(l:List Rat):Prop:=∃D N,Cd D N l/\D<=2^e/\N<=2^e
def RB(r:Nat)(ts:LL):Prop:=∃D N,0<D/\(∀d∈ts,Cd D N d)/\D<=2^r/\N<=2^r
theorem cm{a b:Nat}(h:a<=b):2^a<=2^b:=YK oz h
theorem Cb.mono{e f:Nat}{l:List Rat}(h:Cb e l)(hf:e<=f):Cb f l:=by
 obtain⟨D,N,h1,h2,h3⟩:=h;exact⟨D,N,h1,abe h2 (cm hf),abe h3 (cm hf)⟩
theorem Cb.sub{e:Nat}{l l':List Rat}(h:Cb e l)(hs:∀q∈l',q∈l):Cb e l':=by
 obtain⟨D,N,h1,h2,h3⟩:=h;exact⟨D,N,h1.sub hs,h2,h3⟩
theorem Cb.take{e n:Nat}{l:List Rat}(h:Cb e l):Cb e (l.take n):=h.sub (fun q hq=>abx hq)
theorem Cb.drop{e n:Nat}{l:List Rat}(h:Cb e l):Cb e (l.drop n):=h.sub (fun q hq=>Y0 hq)
theorem Cb.nil:Cb 0 []:=⟨1,1,Cd.nil oz,by simp,by simp⟩
theorem Cb.wide{e n:Nat}{a:List Rat}(h:Cb e a):Cb e (a6 a n):=by
 obtain⟨D,N,h1,h2,h3⟩:=h;exact⟨D,N,h1.wide,h2,h3⟩
theorem Cb.minus{e:Nat}{a:List Rat}(h:Cb e a):Cb e (de a):=by
 obtain⟨D,N,h1,h2,h3⟩:=h;exact⟨D,N,h1.minus,h2,h3⟩
theorem Cb.plus{e f:Nat}{a b:List Rat}(h:Cb e a)(h':Cb f b):Cb (e+f+1) (cD a b):=by
 obtain⟨D,N,h1,h2,h3⟩:=h;obtain⟨D',N',h4,h5,h6⟩:=h';have k1:=h1.scale h4.1;have k2:=h4.scale h1.1;rw[Yn D']at k2;refine⟨_,_,k1.plus k2,?_,?_⟩
 ·rw[Yj,abq];have:=YC h2 h5;omega
 ·rw[Yj,abq];have e1:=YC h3 h5;have e2:=YC h6 h2;rw[Yn (2^f)]at e2;omega
theorem Cb.qb{e:Nat}{l:List Rat}(h:Cb e l){q:Rat}(hq:q∈l):Qb (e+1) q:=by
 obtain⟨D,N,h1,h2,h3⟩:=h;have:=Yq e;exact h1.qb (by rw[Yj];omega) (by rw[Yj];omega) hq
theorem Cb.qs{e:Nat}{l:List Rat}(h:Cb e l)(he:e<4398046511104){q:Rat}(hq:q∈l):Qs q:=(h.qb hq).qs he
def iO(ts:LL)(m r:Nat):Prop:=(∀j,j<m->Nl j (ts.getD j []))/\RB r ts
theorem RB.get{r:Nat}{ts:LL}(h:RB r ts):∃D N,0<D/\(∀j,Cd D N (ts.getD j []))/\D<=2^r/\N<=2^r:=by
 obtain⟨D,N,h0,h1,h2,h3⟩:=h;refine⟨D,N,h0,fun j=>?_,h2,h3⟩;rw[aaq];cases hx:ts[j]? with
 |none=>exact Cd.nil h0
 |some d=>exact h1 d (aap hx)
theorem RB.cb{r:Nat}{ts:LL}(h:RB r ts)(j:Nat):Cb r (ts.getD j []):=by
 obtain⟨D,N,h0,h1,h2,h3⟩:=h.get;exact⟨D,N,h1 j,h2,h3⟩
theorem Cb.mul{ts:LL}{m r:Nat}(ht:iO ts m r){j k e f:Nat}{a b:List Rat}(hj:j<=m)(hk:j<=k)(ha:Nl j a)(hb:Nl j b)(ca:Cb e a)(cb:Cb f b) :
  Cb (e+f+eB r j) (pT ts k a b):=by
 obtain⟨D,N,h0,h1,h2,h3⟩:=ht.2.get;obtain⟨Da,Na,a1,a2,a3⟩:=ca;obtain⟨Db,Nb,b1,b2,b3⟩:=cb;refine⟨_,_,LE ts m D N (fun j hj=>⟨ht.1 j hj,h1 j⟩) h0 j k a b hj hk ha hb a1 b1,?_,?_⟩
 ·rw[abq,abq];exact YC (YC a2 b2) (abe (k8 D N j) (uy h2 h3 j))
 ·rw[abq,abq];exact YC (YC a3 b3) (uy h2 h3 j)
theorem Fv(r:Nat):∀j,eB r j<=eB r (j+1):=fun j=>by simp only[eB];omega
def sB(r:Nat):Nat->Nat->Nat
  |0,e=>e
  |j+1,e=>sB r j (4*e+3*eB r j+r+1)
theorem oK(r:Nat):∀j e,e<=sB r j e
 |0,e=>aau _
 |j+1,e=>by have:=oK r j (4*e+3*eB r j+r+1);simp only[sB];omega
theorem pM(r:Nat):∀j {e f:Nat},e<=f->sB r j e<=sB r j f
 |0,e,f,h=>h
 |j+1,e,f,h=>by simp only[sB];exact pM r j oz
theorem LW(r j e:Nat):sB r j e<=sB r (j+1) e:=by simp only[sB];exact pM r j oz
theorem uq(r e:Nat){i j:Nat}(h:i<=j):sB r i e<=sB r j e:=by
  induction j with
  | zero => have : i = 0 := by omega
            subst this;exact aau _
  |succ j ih =>
    by_cases hij:i=j+1
    · rw[hij];exact aau _
    · exact abe (ih oz) (LW r j e)
theorem Mp(r e:Nat){j:Nat}(h:j<=2):sB r j e<=16*e+17*r+29:=by
 refine abe (uq r e h) ?_;simp only[sB,eB];omega
theorem MW(r e:Nat){j:Nat}(h:j<=3):sB r j e<=64*e+177*r+333:=by
 refine abe (uq r e h) ?_;simp only[sB,eB];omega
def lm(n:Nat):Nat:=if n<=2 then 200000000000 else 50000000000
theorem kc(n:Nat):lm n<=200000000000:=by unfold lm;split <;> omega
theorem j5(n:Nat):50000000000<=lm n:=by unfold lm;split <;> omega
theorem NK(r:Nat){j:Nat}(h:j<=5):eB r j<=31*(r+2):=by
 have:∀i,eB r i<=eB r (i+1):=Fv r
 have h5:eB r j<=eB r 5:=by
  match j,h with
  |0,_=>simp only[eB];omega
  |1,_=>simp only[eB];omega
  |2,_=>simp only[eB];omega
  |3,_=>simp only[eB];omega
  |4,_=>simp only[eB];omega
  |5,_=>exact aau _
 refine abe h5 ?_;simp only[eB];omega
def nA(l:List Rat):AV:=.lst 3 (l.map qA)
def nR(l:List Rt):AV:=.lst 3 (l.map Rt.av)
def aT(ts:LL):AV:=.agg [.lst 1 (ts.map nA)]
def cI(ts:List (List Rt)):AV:=.agg [.lst 1 (ts.map nR)]
def pW(n:Nat):Nat:=if n<=1 then 0 else(n-1).log2+1
theorem DU{n k:Nat}(h1:∀j,j<k->2^j<n)(h2:n<=2^k):pW n=k:=by
 unfold pW;split
 ·rename_i h;cases k with
  |zero=>rfl
  |succ k=>have:=h1 0 oz;omega
 ·rename_i h;cases k with
  |zero=>simp at h2;omega
  |succ k =>
   have h3:=h1 k oz;congr 1;rw[Nat.log2_eq_iff oz];omega
def da(n:Nat):Int:=if 2^pW n=n then(pW n:Int)else -1
theorem Nv(j:Nat):pW (2^j)=j:=DU (fun i hi=>Yv oz hi) (aau _)
theorem ql(j:Nat):da (2^j)=j:=by unfold da;rw[Nv,ab6 rfl]
theorem C4{n:Nat}(h:0<=da n):∃j:Nat,n=2^j/\da n=(j:Int):=by
 unfold da at h ⊢;split at h
 ·rename_i h1;exact⟨pW n,h1.symm,by rw[ab6 h1]⟩
 ·omega
theorem nB{k:Nat}(hk:k<=62):IntKind.i64.wrap ((1:Int)*2^(min (k:Int).toNat IntKind.i64.bits))=((2^k:Nat):Int):=by
 have h1:min (k:Int).toNat IntKind.i64.bits=k:=by simp[IntKind.bits];omega
 have h2:2^k<=2^62:=cm hk;have h3:(2:Nat)^62=4611686018427387904:=by decide
 have h4:((2:Int)^k)=((2^k:Nat):Int):=by simp
 rw[h1,Int.one_mul,h4];generalize 2^k=x at *;exact i64_in oz
def co(m:Nat)(a:List Rt):Nat:=if a≠[]/\(da a.length<0\/(m:Int)<da a.length)then 10 else if a.all Rt.valid then 0 else 2
theorem vD{m:Nat}{a:List Rt}(h:co m a=0)(hok:∀r∈a,r.ok):a=(a.map Rt.q).map rt/\Nl m (a.map Rt.q):=by
 unfold co at h;split at h
 ·cases h
 ·rename_i h1;split at h
  ·rename_i h2;rw[aa3]at h2;refine⟨?_,?_⟩
   ·rw[map_map];refine(List.map_id _).symm.trans ?_;exact YW (fun r hr=>Rt.eq_rt (hok r hr) (h2 r hr))
   ·by_cases h0:a=[]
    ·subst h0;exact .inl rfl
    ·have h3:0<=da a.length/\da a.length<=m:=by
      constructor
      ·exact Int.not_lt.1 (fun h=>h1 ⟨h0,.inl h⟩)
      ·exact Int.not_lt.1 (fun h=>h1 ⟨h0,.inr h⟩)
     obtain⟨j,e1,e2⟩:=C4 h3.1;exact .inr ⟨j,by omega,by rw[aar,e1]⟩
  ·cases h
theorem eI(l:List Rat):nR (l.map rt)=nA l:=by
 unfold nR nA;rw[map_map];rfl
theorem Nl.len5{k:Nat}{a:List Rat}(h:Nl k a)(hk:k<=5):a.length<=32:=abe h.le (cm (b:=5) hk)
theorem qZ:kr (.agg [.v (.bool false),.v (.slice none 0 0),.v (.slice none 0 0)]) (qA 0):=by
 refine⟨rfl,?_⟩;intro j x y hx hy
 match j,hx,hy with
 |0,hx,hy=>cases hx;cases hy;exact⟨rfl,.refl _⟩
 |1,hx,hy=>cases hx;cases hy;exact⟨rfl,.nil _ _ _⟩
 |2,hx,hy=>cases hx;cases hy;exact⟨rfl,.nil _ _ _⟩
theorem kr.refl{e:AV}(h:∀c∈e.cells,c.one=true):kr e e :=
 ⟨rfl,fun j x y hx hy=>by rw[hx]at hy;cases hy;exact⟨h x (aap hx),.refl _⟩⟩
theorem zJ(q:Rat):∀c∈(qA q).cells,c.one=true:=by
 intro c hc;have:c=bl (rt q).neg\/c=ws (rt q).num\/c=ws (rt q).den:=by simpa[qA,Rt.av,AV.cells]using hc
 rcases this with rfl |rfl |rfl <;> rfl
theorem EO(a:List Rat)(n:Nat)(h:a.length<=n) :
  BlkSub (.row 3 (a.map qA++(Y6 n (.agg [.v (.bool false),.v (.slice none 0 0),.v (.slice none 0 0)])).drop (a.map qA).length)) (.row 3 ((a6 a n).map qA)):=by
 refine .row ?_ ?_
 ·simp only[a6,abi,aar,List.length_drop,abp]
 ·intro i e e' he he'
  by_cases hi:i<a.length
  ·rw[aa9 (by simpa using hi)]at he;simp only[a6,abf]at he';rw[aa9 (by simpa using hi),he]at he';cases he';simp only[aav,aas]at he;obtain⟨q,_,rfl⟩:=he;exact kr.refl (zJ q)
  ·rw [aa6 (by simpa using hi), List.drop_replicate, abl] at he;simp only [a6,abf] at he';rw [aa6 (by simpa using hi),abw,abl] at he';split at he
   ·cases he;split at he'
    ·cases he';exact qZ
    ·cases he'
   ·cases he
theorem B5{p w:List Rat}{i:Nat}{s:Rat}(hl:p.length=w.length)(hi:i<p.length)(hs:p[i]=s) :
  ((p.take i++w.drop i).map qA).set i (qA s)=(p.take (i+1)++w.drop (i+1)).map qA:=by
 rw[<- ab0];congr 1;subst hs;rw[List.set_append_right i _ (by simp;omega)];have h1:i-(p.take i).length=0:=by simp;omega
 rw[h1,Y5 oz,List.set_cons_zero,YX hi,abu];rfl
theorem Ib{a b:List Rat}{i:Nat}(hi:i<(cD a b).length) :
  (cD a b)[i]=(a6 a (max a.length b.length)).getD i 0+(a6 b (max a.length b.length)).getD i 0:=by
 have h:=KA (a:=a) (b:=b) (i:=i);rw[aaq,aat hi,aan]at h;rw[h,pc,pc]
theorem getD_some{l:List Rat}{i:Nat}(h:i<l.length):l[i]?=some (l.getD i 0):=by
 rw[aaq,aat h];rfl
theorem uk{l:List Rat}{i:Nat}(h:i<l.length):l.getD i 0∈l:=by
 rw[aaq,aat h];exact Zi h
theorem A7{p w:List Rat}{i:Nat}(hl:p.length=w.length)(hi:i<p.length):(p.take i++w.drop i)[i]?=some (w.getD i 0):=by
 rw[aa6 (by simp;omega),abv];have:i+(i-(p.take i).length)=i:=by simp;omega
 rw[this];exact getD_some oz
theorem dK{α:Type}{l:List α}{i:Nat}{x:α}(h:l[i]?=some x):l.take (i+1)=l.take i++[x]:=by
 obtain⟨hi,rfl⟩:=Y1.1 h;exact YX hi
theorem pY{q:Rat}(h:bV q=0):q=0:=by
 unfold bV at h;split at h
 ·cases h
 ·split at h
  ·cases h
  ·grind
theorem Td:rt 0=⟨false,[],[]⟩:=rfl
theorem Gg{q:Rat}(h:cond (cond (rt q).neg true (aa .gtr ((rt q).num.length:Int) 0)) true (aa .gtr ((rt q).den.length:Int) 0)=true):q≠0:=by
 intro h0;rw[h0,Td]at h;cases h
theorem Jw{q:Rat}(h:cond (cond (rt q).neg true (aa .gtr ((rt q).num.length:Int) 0)) true (aa .gtr ((rt q).den.length:Int) 0)=false):q=0:=by
 cases hn:(rt q).neg
 ·rw[hn]at h;cases hm:aa .gtr ((rt q).num.length:Int) 0
  ·have h1:(rt q).num=[]:=by
    cases hl:(rt q).num with
    |nil=>rfl
    |cons x l=>rw[hl]at hm;simp[aa]at hm
   rw[<- cc q];exact Rt.zero (fun h=>h.2 h1)
  ·rw[hm]at h;cases h
 ·rw[hn]at h;cases h
theorem f7{n:Nat}(h:n<=281474976710656):IntKind.i64.wrap ((n:Int).tdiv 2)=((n/2:Nat):Int):=by
 rw[show((n:Int).tdiv 2)=((n/2:Nat):Int)from(Int.ofNat_tdiv n 2).symm];exact i64_in oz
theorem DP{m j:Nat}{a:List Rat}(h:a.length<=2^j)(hj:j<=m):bu m a=bu j a:=by
  induction m with
  | zero => have : j = 0 := by omega
            subst this;rfl
  |succ m ih =>
    by_cases hjm:j=m+1
    · rw[hjm]
    · have h1:a.length<=2^m:=abe h (cm oz)
      have h2:bu (m+1) a=if bG (a.drop (2^m))=true then bu m (a.take (2^m))else a:=rfl;rw[h2,abm h1,ab6 W9,aa7 h1];exact ih oz
def my(a:List Rat)(n:Nat):Prop:=(n=0/\a=[])\/∃i,n=2^i/\i<=5/\n<=a.length/\bu 5 a=bu i (a.take n)
theorem H4{a:List Rat}(h:Nl 5 a):my a a.length:=by
 rcases h with rfl |⟨j,hj,h⟩
 ·exact .inl ⟨rfl,rfl⟩
 ·exact .inr ⟨j,h,hj,aau _,by rw[aa8];exact DP oz hj⟩
theorem FY{a:List Rat}{i:Nat}:(a.drop (2^i)).take (2^(i+1)-2^i)=(a.take (2^(i+1))).drop (2^i):=by
 rw[List.drop_take]
theorem Ky{a:List Rat}{n:Nat}(h:my a n)(h1:1<n)(hz:bG ((a.drop (n/2)).take (n-n/2))=true):my a (n/2):=by
 rcases h with⟨h,_⟩ |⟨i,rfl,hi,hl,hs⟩
 ·omega
 ·cases i with
  |zero=>simp at h1
  |succ i =>
   rw[fK]at hz ⊢;rw[FY]at hz;have h2:bu (i+1) (a.take (2^(i+1)))=if bG ((a.take (2^(i+1))).drop (2^i))=true then bu i ((a.take (2^(i+1))).take (2^i))else a.take (2^(i+1)):=rfl;rw[h2,ab6 hz,Y9,Yu (cm oz)]at hs;exact .inr ⟨i,rfl,by omega,abe (cm oz) hl,hs⟩
theorem JS{a:List Rat}(h:my a 1)(hz:bG (a.take 1)=true):bu 5 a=[]:=by
 rcases h with⟨h,_⟩ |⟨i,h0,hi,hl,hs⟩
 ·omega
 ·have:i=0:=by
   cases i with
   |zero=>rfl
   |succ i=>rw[Yj]at h0;omega
  subst this;rw[hs];show(if bG (a.take 1)=true then[]else _)=_;rw[ab6 hz]
theorem DR{a:List Rat}{n:Nat}(h:my a n)(h1:1<n->bG ((a.drop (n/2)).take (n-n/2))=false)(h2:n=1->bG (a.take 1)=false):bu 5 a=a.take n:=by
 rcases h with⟨rfl,rfl⟩ |⟨i,rfl,hi,hl,hs⟩
 ·rfl
 ·cases i with
  |zero =>
   rw[hs];show(if bG (a.take 1)=true then[]else _)=_;rw[h2 rfl];rfl
  |succ i =>
   have h3:=h1 (by have:=Yq i;rw[Yj];omega);rw[fK,FY]at h3;rw[hs];have h4:bu (i+1) (a.take (2^(i+1)))=if bG ((a.take (2^(i+1))).drop (2^i))=true then bu i ((a.take (2^(i+1))).take (2^i))else a.take (2^(i+1)):=rfl;rw[h4,h3];rfl
theorem my.le{a:List Rat}{n:Nat}(h:my a n):n<=a.length:=by
 rcases h with⟨rfl,rfl⟩ |⟨i,rfl,hi,hl,hs⟩
 ·exact aau _
 ·exact hl
theorem tD(a:List Rat)(l m:Nat):AV.lst 3 (((a.map qA).drop l).take m)=nA ((a.drop l).take m):=by
 unfold nA;rw[map_take,List.map_drop]
theorem sN{n:Nat}{a:List Rat}(h:Nl n a)(hn:n<=5):bu 5 a=sh n (ae n a):=by
 rw[DP h.le hn,Ae n h]
theorem BlkSub.of_{x y z:Blk}(h:BlkSub x y)(e:z=x):BlkSub z y:=e▸h
theorem Qn{a:List Rat}{i:Nat}(hi:i<(de a).length):(de a)[i]=-(a.getD i 0):=by
 have h:=KK (a:=a) (i:=i);rw[aaq,aat hi,aan]at h;exact h
theorem RO{ts:LL}{k:Nat}{x y:List Rat}(hl:y.length<=x.length)(h:bG x=true\/bG y=true):pT ts k x y=[]:=by
 unfold pT;simp only[ab5 (show ¬x.length<y.length by omega)];rw[ab6 (by rw[abz];exact h)]
theorem V4{ts:LL}{k:Nat}{p q:Rat}(h:¬(bG [p]=true\/bG [q]=true)):pT ts k [p] [q]=[p*q]:=by
 unfold pT;simp only[aa4,abg,Nat.lt_irrefl,if_false];rw[ab5 (by rw[abz];exact h)];simp
theorem NF{ts:LL}{k i:Nat}{x y:List Rat}(hx:x.length=2^(i+1))(hl:y.length<=2^i)(h:¬(bG x=true\/bG y=true)) :
  pT ts (k+1) x y=fh (pT ts k (x.take (2^i)) y) (pT ts k (x.drop (2^i)) y) (2^i):=by
 have h2:=Yq i;have hlt:¬x.length<y.length:=by rw[hx,Yj];omega
 conv=>lhs;unfold pT
 simp only[ab5 hlt];rw[ab5 (by rw[abz];exact h),ab5 (by rw[hx,Yj];omega)];simp only[hx,fK];rw[ab6 hl]
theorem Pw{ts:LL}{k i:Nat}{x y:List Rat}(hx:x.length=2^(i+1))(hl:¬y.length<=2^i)(hyx:y.length<=x.length)(h:¬(bG x=true\/bG y=true)) :
  pT ts (k+1) x y=fh (cD (pT ts k (x.take (2^i)) (y.take (2^i))) (pT ts k (pT ts k (x.drop (2^i)) (y.drop (2^i))) (ts.getD i [])))
   (cD (pT ts k (x.take (2^i)) (y.drop (2^i))) (pT ts k (x.drop (2^i)) (y.take (2^i)))) (2^i):=by
 conv=>lhs;unfold pT
 simp only[ab5 (show ¬x.length<y.length by omega)];have h2:=Yq i;rw[ab5 (by rw[abz];exact h),ab5 (by rw[hx,Yj];omega)];simp only[hx,fK,CO];rw[ab5 hl]
theorem gX(r:Nat){i j:Nat}(h:i<=j):eB r i<=eB r j:=by
  induction j with
  | zero => have : i = 0 := by omega
            subst this;exact aau _
  |succ j ih =>
    by_cases hij:i=j+1
    · rw[hij];exact aau _
    · exact abe (ih oz) (Fv r j)
theorem ou{j:Nat}{x:List Rat}(h:Nl j x):x.length=0\/x.length=1\/∃i,i+1<=j/\x.length=2^(i+1):=by
 rcases h with rfl |⟨i,hi,h⟩
 ·exact .inl rfl
 ·cases i with
  |zero=>exact .inr (.inl h)
  |succ i=>exact .inr (.inr ⟨i,hi,h⟩)
theorem VX{j i:Nat}{x:List Rat}(h:Nl j x)(hl:x.length<=2^i):Nl i x:=by
 rcases h with rfl |⟨l,hl',h⟩
 ·exact .inl rfl
 ·refine .inr ⟨l,?_,h⟩;rcases aay i l with h1 |h1
  ·have:=Yv (a:=2) oz h1;omega
  ·exact h1
theorem Ua{j i:Nat}{x:List Rat}(h:Nl j x)(hl:¬x.length<=2^i)(hu:x.length<=2^(i+1)):x.length=2^(i+1):=by
 rcases h with rfl |⟨l,hl',h⟩
 ·simp at hl
 ·rcases aay i l with h1 |h1
  ·rcases aay (i+1) l with h2 |h2
   ·have:=Yv (a:=2) oz h2;omega
   ·rw[h,show l=i+1 by omega]
  ·have:=cm h1;omega
theorem wt{ts:LL}{j:Nat}(h:j<ts.length):(ts.map nA)[j]?=some (nA (ts.getD j [])):=by
 rw[aav,aaq,aat h];rfl
theorem l6(x:List Rat)(n:Nat):AV.lst 3 (((x.map qA).drop 0).take (n-0))=nA (x.take n):=by
 rw[Nat.sub_zero,ab1,<- map_take];rfl
theorem mz(x:List Rat)(n:Nat):AV.lst 3 (((x.map qA).drop n).take ((x.map qA).length-n))=nA (x.drop n):=by
 rw[<- List.map_drop,aa7 (by simp)];rfl
def iN(ts:LL)(i:Nat)(a:List Rat):List Rat :=
  cD (pT ts i (a.take (2^i)) (a.take (2^i))) (de (pT ts i (pT ts i (a.drop (2^i)) (a.drop (2^i))) (ts.getD i [])))
theorem wU{ts:LL}{m r:Nat}(ht:iO ts m r){i e:Nat}{a:List Rat}(hi:i+1<=m)(ha:a.length=2^(i+1))(ca:Cb e a) :
  Nl i (iN ts i a)/\ae i (iN ts i a)=T.norm (au ts) i (ae (i+1) a)/\Cb (4*e+3*eB r i+r+1) (iN ts i a):=by
 have n1:Nl i (a.take (2^i)):=.inr ⟨i,aau _,fZ ha⟩;have n2:Nl i (a.drop (2^i)):=.inr ⟨i,aau _,gh ha⟩;have s1:=gd ts m ht.1 i i _ _ oz oz n1 n1;have s2:=gd ts m ht.1 i i _ _ oz oz n2 n2;have s3:=gd ts m ht.1 i i _ _ oz oz s2.1 (ht.1 i oz);have c1:=Cb.mul ht (k:=i) (show i<=m by omega) oz n1 n1 ca.take ca.take;have c2:=Cb.mul ht (k:=i) (show i<=m by omega) oz n2 n2 ca.drop ca.drop;have c3:=Cb.mul ht (k:=i) (show i<=m by omega) oz s2.1 (ht.1 i oz) c2 (ht.2.cb i);refine⟨?_,?_,?_⟩
 ·have l1:=s1.1.le;have l3:=s3.1.le;rcases s1.1 with h1 |⟨j1,hj1,h1⟩ <;> rcases s3.1 with h3 |⟨j3,hj3,h3⟩
  ·refine .inl ?_;apply Zv;unfold iN;rw[eG,jf,h1,h3];rfl
  ·refine .inr ⟨j3,hj3,?_⟩;unfold iN;rw[eG,jf,h1,h3];simp
  ·refine .inr ⟨j1,hj1,?_⟩;unfold iN;rw[eG,jf,h1,h3];simp
  ·refine .inr ⟨max j1 j3, by omega, ?_⟩;unfold iN;rw [eG,jf,h1,h3];rcases Nat.le_total j1 j3 with h | h
   ·rw[YN h,YN (cm h)]
   ·rw[Yb h,Yb (cm h)]
 ·unfold iN T.norm;rw[jC,m7,s1.2,s3.2,s2.2];rfl
 ·exact(c1.plus c3.minus).mono oz
theorem T.sgn_ofQ(r:(k:Nat)->T k):∀(k:Nat)(q:Rat),T.sgn r k (T.ofQ k q)=bV q
 |0,q=>rfl
 |k+1,q=>by simp only[T.ofQ];rw[T.sgn_low,T.sgn_ofQ r k]
theorem tE(r:(k:Nat)->T k){i j:Nat}{a:List Rat}(h:a.length<=2^i)(hij:i<=j):T.sgn r j (ae j a)=T.sgn r i (ae i a):=by
  induction j with
  | zero => have : i = 0 := by omega
            subst this;rfl
  |succ j ih =>
    by_cases h':i=j+1
    · rw[h']
    · rw[gq (abe h (cm oz)),T.sgn_low]
      exact ih oz
theorem uD:∀(k:Nat){a:List Rat}{q:Rat},q∈bu k a->q∈a
 |0,a,q,h=>by
  have e:bu 0 a=if bG a=true then[]else a:=rfl;rw[e]at h;split at h
  ·cases h
  ·exact h
 |k+1,a,q,h=>by
  have e:bu (k+1) a=if bG (a.drop (2^k))=true then bu k (a.take (2^k))else a:=rfl;rw[e]at h;split at h
  ·exact abx (uD k h)
  ·exact h
theorem Cb.sh{e k:Nat}{a:List Rat}(h:Cb e a)(hn:Nl k a):Cb e (sh k (ae k a)):=by
 rw[<- Ae k hn];exact Cb.sub h (fun q hq=>uD k hq)
theorem Ai{x y:Int}(hx:x=-1\/x=0\/x=1)(hy:y=-1\/y=0\/y=1):IntKind.i64.wrap (f0 .mul x y)=x*y:=by
 apply Cq;rcases hx with rfl |rfl |rfl <;> rcases hy with rfl |rfl |rfl <;> simp
theorem AR{x y z w:Int}(h:cond (aa .eql x y) true (aa .eql z w)=true):x=y\/z=w:=by
 cases hx:aa .eql x y
 ·rw[hx]at h;exact .inr (by simpa[aa]using h)
 ·exact .inl (by simpa[aa]using hx)
theorem yW{x y z w:Int}(h:cond (aa .eql x y) true (aa .eql z w)=false):¬(x=y\/z=w):=by
 cases hx:aa .eql x y
 ·rw [hx] at h;have h1:x ≠ y:=by simpa [aa] using hx
  have h2:z≠w:=by simpa[aa]using h
  exact fun h=>h.elim h1 h2
 ·rw[hx]at h;cases h
abbrev lq(a:List Rt):List Rat:=a.map Rt.q
abbrev llq(rs:List (List Rt)):LL:=rs.map lq
def mW(rs:List (List Rt)):Nat->Nat->Nat
  |0,_=>0
  |f+1,k=>if(rs.getD k []).length≠2^k then 10 else if co k (rs.getD k [])≠0 then co k (rs.getD k [])
    else if T.sgn (au (llq rs)) k (au (llq rs) k)<0 then 3 else mW rs f (k+1)
def bM(rs:List (List Rt)):Nat:=if 5<rs.length then 4 else mW rs rs.length 0
def e8:List Nat->Nat
  |[]=>0
  |e::l=>if e≠0 then e else e8 l
def bB(rs:List (List Rt))(xs:List (List Rt)):Nat:=if bM rs≠0 then bM rs else e8 (xs.map (co rs.length))
theorem T.mul_congr{r r':(k:Nat)->T k}:∀(k:Nat),(∀j,j<k->r j=r' j)->∀x y,T.mul r k x y=T.mul r' k x y
 |0,_,x,y=>rfl
 |k+1,h,x,y=>by
  have ih:=T.mul_congr k (fun j hj=>h j oz);simp only[T.mul,ih,h k oz]
theorem T.sgn_congr{r r':(k:Nat)->T k}:∀(k:Nat),(∀j,j<k->r j=r' j)->∀x,T.sgn r k x=T.sgn r' k x
 |0,_,x=>rfl
 |k+1,h,x=>by
  have ih:=T.sgn_congr k (fun j hj=>h j oz);have im:=T.mul_congr k (fun j hj=>h j oz);simp only[T.sgn,T.norm,ih,im,h k oz]
theorem wB{ts:LL}{k j:Nat}(h:j<k):au (ts.take k) j=au ts j:=by
 unfold au;simp only[aaq,abj,ab6 h]
theorem tR(rs:List (List Rt))(k:Nat):(llq rs).getD k []=lq (rs.getD k []):=by
 simp only[aaq,aav];cases rs[k]? <;> rfl
def iL(rs:List (List Rt))(k:Nat):Prop:=(rs.getD k []).length=2^k/\co k (rs.getD k [])=0/\0<=T.sgn (au (llq rs)) k (au (llq rs) k)
theorem Gs{rs:List (List Rt)}{f k:Nat}(h:iL rs k):mW rs (f+1) k=mW rs f (k+1):=by
 obtain⟨h1,h2,h3⟩:=h;show(if _ then _ else _)=_;rw[ab5 (by rw[h1];simp),ab5 (by rw[h2];simp),ab5 oz]
theorem Jf:∀{f k:Nat}{rs:List (List Rt)},mW rs f k=0->∀j,k<=j->j<k+f->iL rs j
 |0,k,rs,_,j,h1,h2=>by omega
 |f+1,k,rs,h,j,h1,h2=>by
  have h':(if(rs.getD k []).length≠2^k then 10 else if co k (rs.getD k [])≠0 then co k (rs.getD k [])
   else if T.sgn (au (llq rs)) k (au (llq rs) k)<0 then 3 else mW rs f (k+1))=0:=h
  split at h'
  ·cases h'
  ·rename_i e1;split at h'
   ·rename_i e2;exact acc h' e2
   ·rename_i e2;split at h'
    ·cases h'
    ·rename_i e3
     by_cases hj:j=k
     ·subst hj;exact⟨aao.1 e1,aao.1 e2,by omega⟩
     ·exact Jf h' j oz oz
theorem He:∀{f k:Nat}{rs:List (List Rt)},(∀j,k<=j->j<k+f->iL rs j)->mW rs f k=0
 |0,k,rs,_=>rfl
 |f+1,k,rs,h=>by
  rw[Gs (h k oz oz)];exact He (fun j h1 h2=>h j oz oz)
theorem z7{rs:List (List Rt)}(hok:∀d∈rs,∀x∈d,x.ok){k:Nat}(hk:k<=rs.length)(h:∀j,j<k->co j (rs.getD j [])=0):(rs.take k).map nR=((llq rs).take k).map nA:=by
 apply List.ext_getElem?;intro j;simp only[aav,abj]
 by_cases hj:j<k
 ·rw [ab6 hj, ab6 hj];have hjl:j < rs.length:=by omega
  have h1:=h j hj;rw[aaq,aat hjl,aan]at h1;rw[aat hjl];simp only[aam];congr 1;have:=(vD h1 (fun x hx=>hok _ (Zi hjl) x hx)).1;rw[<- eI,<- this]
 ·rw[ab5 hj,ab5 hj];rfl
theorem iL.nl{rs:List (List Rt)}{k:Nat}(h:iL rs k):Nl k ((llq rs).getD k []):=by
 rw[tR];exact .inr ⟨k,aau _,by rw[aar,h.1]⟩
theorem H8{ts:LL}{k r:Nat}(h:∀j,j<k->Nl j (ts.getD j []))(hr:RB r ts):iO (ts.take k) k r:=by
 refine⟨fun j hj=>?_,?_⟩
 ·have:=h j hj;simp only[aaq,abj,ab6 hj]at this ⊢;exact this
 ·obtain⟨D,N,h0,h1,h2,h3⟩:=hr;exact⟨D,N,h0,fun d hd=>h1 d (abx hd),h2,h3⟩
structure Tw(ts:LL)(r:Nat):Prop where
  three:ts.length<=3
  len:∀j,j<ts.length->(ts.getD j []).length=2^j
  pos:∀j,j<ts.length->0<=T.sgn (au ts) j (au ts j)
  rb:RB r ts
  le:r<=5000000000
theorem Tw.five{ts:LL}{r:Nat}(h:Tw ts r):ts.length<=5:=abe h.three oz
theorem Tw.ok{ts:LL}{r:Nat}(h:Tw ts r):iO ts ts.length r :=
 ⟨fun j hj=>.inr ⟨j,aau _,h.len j hj⟩,h.rb⟩
structure TR(rs:List (List Rt))(r:Nat):Prop where
  ok:∀d∈rs,∀x∈d,x.ok
  len:∀d∈rs,d.length<=281474976710656
  ll:rs.length<=281474976710656
  rb:RB r (llq rs)
  le:r<=5000000000
  three:rs.length<=3\/5<rs.length
theorem db{rs:List (List Rt)}{r:Nat}(h:TR rs r)(hc:bM rs=0):Tw (llq rs) r/\cI rs=aT (llq rs):=by
 unfold bM at hc;split at hc
 ·cases hc
 ·rename_i h5;have hk:=Jf hc;have hl:(llq rs).length = rs.length:=aar _;refine ⟨⟨by have:=h.three; rw [hl]; omega,fun j hj=>?_,fun j hj=>?_,h.rb,h.le⟩,?_⟩
  ·rw[tR,aar];exact(hk j oz oz).1
  ·exact(hk j oz oz).2.2
  ·unfold cI aT;have:=z7 h.ok (aau rs.length) (fun j hj=>(hk j oz oz).2.1);rw[aa8,aa7 oz]at this;rw[this]
theorem pq{m:Nat}{a:List Rat}(h:Nl m a):co m (a.map rt)=0:=by
 unfold co;rw[ab5,ab6]
 ·rw[aa3];intro x hx;obtain⟨q,_,rfl⟩:=Y8.1 hx;exact GS q
 ·rintro⟨h0,h1⟩;rw[aar]at h1;rcases h with rfl |⟨j,hj,h⟩
  ·exact h0 rfl
  ·rw[h,ql]at h1;omega
theorem eL(a:List Rat):lq (a.map rt)=a:=by
 unfold lq;rw[map_map];refine(YW (fun q _=>cc q)).trans (List.map_id _)
theorem oH(ts:LL):llq (ts.map (List.map rt))=ts:=by
 unfold llq;rw[map_map];refine(YW (fun a _=>eL a)).trans (List.map_id _)
theorem ip(ts:LL):cI (ts.map (List.map rt))=aT ts:=by
 unfold cI aT;rw[map_map];congr 3;exact YW (fun a _=>eI a)
theorem Tw.chk{ts:LL}{r:Nat}(h:Tw ts r):bM (ts.map (List.map rt))=0:=by
 unfold bM;rw[aar,ab5 (by have:=h.five;omega)];refine He (fun j _ hj=>?_)
 have e1:(ts.map (List.map rt)).getD j []=(ts.getD j []).map rt:=by
  simp only[aaq,aav];cases ts[j]? <;> rfl
 refine⟨?_,?_,?_⟩
 ·rw[e1,aar];exact h.len j oz
 ·rw[e1];exact pq (.inr ⟨j,aau _,h.len j oz⟩)
 ·rw[oH];exact h.pos j oz
theorem RB.qs{r:Nat}{ts:LL}(h:RB r ts)(hr:r<=5000000000):∀d∈ts,∀q∈d,Qs q:=by
 obtain⟨D,N,h0,h1,h2,h3⟩:=h;intro d hd q hq;exact Cb.qs ⟨D,N,h1 d hd,h2,h3⟩ oz hq
theorem Tw.tr{ts:LL}{r:Nat}(h:Tw ts r):TR (ts.map (List.map rt)) r:=by
 refine⟨?_,?_,by rw[aar];have:=h.five;omega,by rw[oH];exact h.rb,h.le,by rw[aar];exact .inl h.three⟩
 ·intro d hd x hx;obtain⟨a,ha,rfl⟩:=Y8.1 hd;obtain⟨q,hq,rfl⟩:=Y8.1 hx;exact(h.rb.qs h.le a ha q hq).ok
 ·intro d hd;obtain⟨a,ha,rfl⟩:=Y8.1 hd;obtain⟨j,hj,rfl⟩:=Zb.1 ha;have:=h.len j hj;rw[aaq,aat hj,aan]at this;rw[aar,this];have:=h.five;have:2^j<=2^5:=cm oz;omega
theorem oA:∀{l:List Nat},e8 l=0->∀e∈l,e=0
 |[],_,e,he=>by cases he
 |x::l,h,e,he=>by
  have h':(if x≠0 then x else e8 l)=0:=h;split at h'
  ·rename_i hx;exact acc h' hx
  ·rename_i hx;rcases abd.1 he with rfl |he
   ·exact aao.1 hx
   ·exact oA h' e he
theorem od:∀{l:List Nat},(∀e∈l,e=0)->e8 l=0
 |[],_=>rfl
 |x::l,h=>by
  show(if x≠0 then x else e8 l)=0;rw[ab5 (by rw[h x (by simp)];simp)];exact od (fun e he=>h e (by simp[he]))
theorem u7:∀(l l':List Nat),e8 l=0->e8 (l++l')=e8 l'
 |[],l',_=>rfl
 |x::l,l',h=>by
  have h0:=oA h x (by simp);show(if x≠0 then x else e8 (l++l'))=_;rw[ab5 (by rw[h0];simp)];exact u7 l l' (od (fun e he=>oA h e (by simp[he])))
theorem mn{rs xs:List (List Rt)}(h:bB rs xs=0):bM rs=0/\∀a∈xs,co rs.length a=0:=by
 unfold bB at h;split at h
 ·rename_i h1;exact acc h h1
 ·rename_i h1;exact⟨aao.1 h1,fun a ha=>oA h _ (Y8.2 ⟨a,ha,rfl⟩)⟩
theorem qU{rs xs:List (List Rt)}(h1:bM rs=0)(h2:∀a∈xs,co rs.length a=0):bB rs xs=0:=by
 unfold bB;rw[ab5 (by rw[h1];simp)];refine od (fun e he=>?_);obtain⟨a,ha,rfl⟩:=Y8.1 he;exact h2 a ha
structure NR(a:List Rt)(e:Nat):Prop where
  ok:∀x∈a,x.ok
  len:a.length<=281474976710656
  cb:Cb e (lq a)
theorem NR.num{a:List Rt}{e m:Nat}(h:NR a e)(hn:co m a=0):nR a=nA (lq a)/\Nl m (lq a):=by
 obtain⟨h1,h2⟩:=vD hn h.ok;refine⟨?_,h2⟩;rw[<- eI,<- h1]
theorem nI{r j n e:Nat}(hj:j<=n)(h3:n<=3)(hr:r<=5000000000)(he:e<=lm n):sB r j e<4398046511104:=by
 unfold lm at he;split at he
 ·have:=Mp r e (j:=j) oz;omega
 ·have:=MW r e (j:=j) oz;omega
theorem uM{rs:List (List Rt)}(h5:rs.length<=5):∀{k:Nat},k<=rs.length->(∀j,j<k->iL rs j)->bM rs=mW rs (rs.length-k) k
 |0,_,_=>by unfold bM;rw[ab5 oz];rfl
 |k+1,hk,h=>by
  rw[uM h5 (k:=k) oz (fun j hj=>h j oz),show rs.length-k=(rs.length-(k+1))+1 by omega,Gs (h k oz)]
theorem Gx{rs:List (List Rt)}(h5:rs.length<=5)(h:∀j,j<rs.length->iL rs j):bM rs=0:=by
 rw[uM h5 (aau _) h,Nat.sub_self];rfl
theorem EG{rs:List (List Rt)}(h5:rs.length<=5){k:Nat}{d:List Rt}(hd:rs[k]?=some d)(h:∀j,j<k->iL rs j)(hl:d.length≠2^k):bM rs=10:=by
 have hk:=(Y1.1 hd).1;have e:rs.getD k []=d:=by rw[aaq,hd];rfl
 rw[uM h5 (k:=k) oz h,show rs.length-k=(rs.length-(k+1))+1 by omega];show(if _ then _ else _)=_;rw[e,ab6 hl]
theorem Kx{rs:List (List Rt)}(h5:rs.length<=5){k:Nat}{d:List Rt}(hd:rs[k]?=some d)(h:∀j,j<k->iL rs j)(hl:d.length=2^k)(hn:co k d≠0):bM rs=co k d:=by
 have hk:=(Y1.1 hd).1;have e:rs.getD k []=d:=by rw[aaq,hd];rfl
 rw[uM h5 (k:=k) oz h,show rs.length-k=(rs.length-(k+1))+1 by omega];show(if _ then _ else _)=_;rw[e,ab5 (by rw[hl];simp),ab6 hn]
theorem Ej{rs:List (List Rt)}{k:Nat}{d:List Rt}(hd:rs[k]?=some d):au (llq rs) k=ae k (lq d):=by
 unfold au;rw[tR,aaq,hd];rfl
theorem Ea{rs:List (List Rt)}(h5:rs.length<=5){k:Nat}{d:List Rt}(hd:rs[k]?=some d)(h:∀j,j<k->iL rs j)(hl:d.length=2^k)(hn:co k d=0)
  (hs:T.sgn (au (llq rs)) k (ae k (lq d))<0):bM rs=3:=by
 have hk:=(Y1.1 hd).1;have e:rs.getD k []=d:=by rw[aaq,hd];rfl
 rw[uM h5 (k:=k) oz h,show rs.length-k=(rs.length-(k+1))+1 by omega];show(if _ then _ else _)=_;rw[e,ab5 (by rw[hl];simp),ab5 (by rw[hn];simp),Ej hd,ab6 hs]
theorem Ek{rs:List (List Rt)}{k:Nat}{d:List Rt}(hd:rs[k]?=some d)(hl:d.length=2^k)(hn:co k d=0)
  (hs:¬T.sgn (au (llq rs)) k (ae k (lq d))<0):iL rs k:=by
 have e:rs.getD k []=d:=by rw[aaq,hd];rfl
 exact⟨by rw[e];exact hl,by rw[e];exact hn,by rw[Ej hd];omega⟩
theorem Q6{rs:List (List Rt)}(hok:∀d∈rs,∀x∈d,x.ok){k:Nat}(hk:k<=rs.length)(h:∀j,j<k->iL rs j):cI (rs.take k)=aT ((llq rs).take k):=by
 unfold cI aT;rw[z7 hok hk (fun j hj=>(h j hj).2.1)]
theorem K6{α:Type}(f:α->AV)(l:List α)(n:Nat):AV.lst 1 (((l.map f).drop 0).take (n-0))=.lst 1 ((l.take n).map f):=by
 rw[Nat.sub_zero,ab1,map_take]
theorem F6{rs:List (List Rt)}(h:5<rs.length):bM rs=4:=by unfold bM;rw[ab6 h]
theorem AD{rs xs:List (List Rt)}(h:bM rs≠0):bB rs xs=bM rs:=by unfold bB;rw[ab6 h]
theorem vB{rs xs:List (List Rt)}{i:Nat}{a:List Rt}(h:bM rs=0)(ha:xs[i]?=some a)(hb:∀x∈xs.take i,co rs.length x=0)(hn:co rs.length a≠0):bB rs xs=co rs.length a:=by
 unfold bB;rw[ab5 (by rw[h];simp)];have e:xs=xs.take i++xs.drop i:=(Zc i xs).symm;have hi:=(Y1.1 ha).1;rw[e,abf,u7 _ _ (od (fun e he=>by obtain⟨x,hx,rfl⟩:=Y8.1 he;exact hb x hx)),Y5 hi];have ha':xs[i]=a:=by rw[aat hi]at ha;exact Option.some.inj ha
 rw[ha'];show(if _ then _ else _)=_;rw[ab6 hn]
theorem pR{n:Nat}{a:List Rat}(h:Nl n a):Nl n (de a):=by
 rcases h with rfl |⟨j,hj,h⟩
 ·exact .inl rfl
 ·exact .inr ⟨j,hj,by rw[jf,h]⟩
theorem rD{n:Nat}{a b:List Rat}(h:Nl n a)(h':Nl n b):Nl n (cD a b):=by
 rcases h with rfl |⟨j,hj,h⟩ <;> rcases h' with rfl |⟨i,hi,h'⟩
 ·exact .inl (Zv (by rw[eG];rfl))
 ·exact .inr ⟨i,hi,by rw[eG,h'];simp⟩
 ·exact .inr ⟨j,hj,by rw[eG,h];simp⟩
 ·refine .inr ⟨max j i, by omega, ?_⟩;rw [eG,h,h'];rcases Nat.le_total j i with g | g
  ·rw[YN g,YN (cm g)]
  ·rw[Yb g,Yb (cm g)]
theorem uQ{a b:List Rt}{e f:Nat}(ha:NR a e)(hb:NR b f):∀x∈[a,b],(∀y∈x,y.ok)/\x.length<=281474976710656:=by
 intro x hx;simp only[abd,abb,or_false]at hx;rcases hx with rfl |rfl
 ·exact⟨ha.ok,ha.len⟩
 ·exact⟨hb.ok,hb.len⟩
theorem mt{rs:List (List Rt)}(h:cI rs=aT (llq rs)):AV.lst 1 (rs.map nR)=.lst 1 ((llq rs).map nA):=by
 unfold cI aT at h
 injection h with h
 injection h
theorem vP{x:Rt}:x.q+(rt 0).q=x.q:=by rw[cc,Rat.add_zero]
def rT(ts:LL):Nat->List Rat->List Rat->List Rat
  |k,a,b =>
    if(bu 5 a).length=0\/(bu 5 b).length=0 then[]
    else if max (bu 5 a).length (bu 5 b).length=1 then[(bu 5 a).getD 0 0*(bu 5 b).getD 0 0]
    else match k with
      |0=>[]
      |k+1 =>
        let n:=max (bu 5 a).length (bu 5 b).length
        let X:=a6 (bu 5 a) n
        let Y:=a6 (bu 5 b) n
        fh (cD (rT ts k (X.take (n/2)) (Y.take (n/2))) (rT ts k (rT ts k (X.drop (n/2)) (Y.drop (n/2))) (ts.getD (n.log2-1) [])))
          (cD (rT ts k (X.take (n/2)) (Y.drop (n/2))) (rT ts k (X.drop (n/2)) (Y.take (n/2)))) (n/2)
theorem ID{ts:LL}{k:Nat}{a b:List Rat}(h:(bu 5 a).length=0\/(bu 5 b).length=0):rT ts k a b=[]:=by
 unfold rT;rw[ab6 h]
theorem Ka{ts:LL}{k:Nat}{a b:List Rat}(h:¬((bu 5 a).length=0\/(bu 5 b).length=0))(h1:max (bu 5 a).length (bu 5 b).length=1) :
  rT ts k a b=[(bu 5 a).getD 0 0*(bu 5 b).getD 0 0]:=by
 unfold rT;rw[ab5 h,ab6 h1]
theorem F9{ts:LL}{k n i:Nat}{a b:List Rat}(hn:n=2^i)(h:¬((bu 5 a).length=0\/(bu 5 b).length=0))(h1:max (bu 5 a).length (bu 5 b).length=2^(i+1)) :
  rT ts (k+1) a b=fh (cD (rT ts k ((a6 (bu 5 a) (2^(i+1))).take n) ((a6 (bu 5 b) (2^(i+1))).take n))
    (rT ts k (rT ts k ((a6 (bu 5 a) (2^(i+1))).drop n) ((a6 (bu 5 b) (2^(i+1))).drop n)) (ts.getD i [])))
   (cD (rT ts k ((a6 (bu 5 a) (2^(i+1))).take n) ((a6 (bu 5 b) (2^(i+1))).drop n)) (rT ts k ((a6 (bu 5 a) (2^(i+1))).drop n) ((a6 (bu 5 b) (2^(i+1))).take n))) n:=by
 have h2:=Yq i
 conv=>lhs;unfold rT
 rw[ab5 h,ab5 (by rw[h1,Yj];omega)];simp only[h1,fK,CO];rw[<- hn]
structure PrOk(ts:LL)(D N j:Nat)(a b c:List Rat):Prop where
  nl:Nl j c
  eq:ae j c=T.mul (au ts) j (ae j a) (ae j b)
  cd:∀Da Na Db Nb:Nat,Cd Da Na a->Cd Db Nb b->Cd (Da*Db*rR D j) (Na*Nb*rM D N j) c
theorem PrOk.up{ts:LL}{D N j:Nat}{a b c:List Rat}(hD:0<D)(ha:a.length<=2^j)(hb:b.length<=2^j)(h:PrOk ts D N j a b c):PrOk ts D N (j+1) a b c:=by
 refine⟨h.nl.mono oz,?_,fun Da Na Db Nb ca cb=>?_⟩
 ·rw[gq ha,gq hb,gq h.nl.le,T.mul_low,h.eq]
 ·have h1:=(h.cd _ _ _ _ ca cb).scale (YJ (iM hD j) hD);have e1:Da * Db * rR D j * (rR D j * D) = Da * Db * rR D (j + 1):=by simp only [rR]; grind
  rw[e1]at h1;refine h1.mono ?_;have h2:=aaz (rM D N j) (YC (k8 D N j) (YG D N));have h3:rM D N j*(rR D j*D)<=rM D N (j+1):=by simp only[rM,Yw]at *;omega
  rw[Yw (Na*Nb)];exact aaz _ h3
theorem PrOk.ups{ts:LL}{D N i j:Nat}{a b c:List Rat}(hD:0<D)(ha:a.length<=2^i)(hb:b.length<=2^i)(h:PrOk ts D N i a b c)(hij:i<=j):PrOk ts D N j a b c:=by
  induction j with
  | zero => have : i = 0 := by omega
            subst this;exact h
  |succ j ih =>
    by_cases h':i=j+1
    · subst h';exact h
    · exact(ih oz).up hD (abe ha (cm oz)) (abe hb (cm oz))
theorem PrOk.of{ts:LL}{D N j:Nat}{a b a' b' c:List Rat}(h:PrOk ts D N j a b c)(ea:ae j a=ae j a')(eb:ae j b=ae j b')
  (ca:∀D N,Cd D N a'->Cd D N a) (cb:∀D N,Cd D N b'->Cd D N b):PrOk ts D N j a' b' c :=
 ⟨h.nl,by rw[h.eq,ea,eb],fun Da Na Db Nb h1 h2=>h.cd _ _ _ _ (ca _ _ h1) (cb _ _ h2)⟩
theorem PrOk.full{ts:LL}{D N j:Nat}{a b c1 c2 c3 c4 c5:List Rat}(hD:0<D)(hr:Cd D N (ts.getD j []))(ha:a.length=2^(j+1))(hb:b.length=2^(j+1))
  (h1:PrOk ts D N j (a.take (2^j)) (b.take (2^j)) c1) (h2:PrOk ts D N j (a.drop (2^j)) (b.drop (2^j)) c2) (h3:PrOk ts D N j c2 (ts.getD j []) c3)
  (h4:PrOk ts D N j (a.take (2^j)) (b.drop (2^j)) c4) (h5:PrOk ts D N j (a.drop (2^j)) (b.take (2^j)) c5):PrOk ts D N (j+1) a b (fh (cD c1 c3) (cD c4 c5) (2^j)):=by
 have l1:=h1.nl.le;have l3:=h3.nl.le;have l4:=h4.nl.le;have l5:=h5.nl.le;refine⟨.inr ⟨j+1,aau _,by rw[pJ (by rw[eG];omega) (by rw[eG];omega),Yj];omega⟩,?_,fun Da Na Db Nb ca cb=>?_⟩
 ·rw[ww (by rw[eG];omega),jC,jC,h1.eq,h3.eq,h4.eq,h5.eq,h2.eq];rfl
 ·have ca1:Cd Da Na (a.take (2 ^ j)):=ca.sub (fun q hq=>abx hq);have ca2:Cd Da Na (a.drop (2 ^ j)):=ca.sub (fun q hq=>Y0 hq);have cb1:Cd Db Nb (b.take (2 ^ j)):=cb.sub (fun q hq=>abx hq);have cb2:Cd Db Nb (b.drop (2 ^ j)):=cb.sub (fun q hq=>Y0 hq);have k2:=h2.cd _ _ _ _ ca2 cb2;have k3:=h3.cd _ _ _ _ k2 hr;have k1:=(h1.cd _ _ _ _ ca1 cb1).scale (YJ (iM hD j) hD);have k4:=(h4.cd _ _ _ _ ca1 cb2).scale (YJ (iM hD j) hD);have k5:=(h5.cd _ _ _ _ ca2 cb1).scale (YJ (iM hD j) hD);have e1:Da * Db * rR D j * (rR D j * D) = Da * Db * rR D (j + 1):=by simp only [rR]; grind
  have e3:Da*Db*rR D j*D*rR D j=Da*Db*rR D (j+1):=by simp only[rR];grind
  rw[e1]at k1 k4 k5;rw[e3]at k3;have b1:rM D N j*(rR D j*D)<=rM D N j*rM D N j*D:=by rw[Yw];exact aaz _ (abh _ (k8 D N j))
  have b2:∀x,Na*Nb*rM D N j*(rR D j*D)+Na*Nb*x<=Na*Nb*(rM D N j*rM D N j*D+x):=by
   intro x;rw[Yt,Yw (Na*Nb)];exact Nat.add_le_add_right (aaz _ b1) _
  refine Cd.join (Cd.mono (k1.plus k3) ?_) (Cd.mono (k4.plus k5) ?_)
  ·have e4 : Na * Nb * rM D N j * N * rM D N j = Na * Nb * (rM D N j * rM D N j * N) := by grind
   rw[e4];refine abe (b2 _) (aaz _ ?_);simp only[rM];rw[<- Yt];omega
  ·have e4 : Na * Nb * rM D N j * (rR D j * D) <= Na * Nb * (rM D N j * rM D N j * D) := by rw [Yw (Na * Nb)]; exact aaz _ b1
   refine abe (Nat.add_le_add e4 e4) ?_;rw[<- Yt];refine aaz _ ?_;simp only[rM];have:=aaz (rM D N j*rM D N j) (YG D N);omega
theorem Cd.short{D N k:Nat}{a:List Rat}(h:Cd D N a):Cd D N (bu k a):=h.sub (fun q hq=>uD k hq)
theorem vQ{j:Nat}{a:List Rat}(h:Nl j a)(hj:j<=5):Nl j (bu 5 a)/\ae j (bu 5 a)=ae j a:=by
 rw[sN h hj];exact⟨eT j _,bh j _⟩
theorem KH{j:Nat}{x y:List Rat}(hx:Nl j x)(hy:Nl j y)(h:¬(x.length=0\/y.length=0)):max x.length y.length=1\/∃i,i+1<=j/\max x.length y.length=2^(i+1):=by
 rcases ou hx with h1 |h1 |⟨i1,hi1,h1⟩
 ·exact acc (.inl h1) h
 ·rcases ou hy with h2 |h2 |⟨i2,hi2,h2⟩
  ·exact acc (.inr h2) h
  ·exact .inl oz
  ·exact .inr ⟨i2,hi2,by have:=Yq (i2+1);omega⟩
 ·rcases ou hy with h2 |h2 |⟨i2,hi2,h2⟩
  ·exact acc (.inr h2) h
  ·exact .inr ⟨i1,hi1,by have:=Yq (i1+1);omega⟩
  ·rcases Nat.le_total i1 i2 with g |g
   ·exact .inr ⟨i2,hi2,by have:=cm (show i1+1<=i2+1 by omega);omega⟩
   ·exact .inr ⟨i1,hi1,by have:=cm (show i2+1<=i1+1 by omega);omega⟩
theorem Xs(ts:LL)(m D N:Nat)(hm:m<=5)(hts:∀j,j<m->Nl j (ts.getD j [])/\Cd D N (ts.getD j []))(hD:0<D) :
  ∀(k j:Nat)(a b:List Rat),j<=m->j<=k->Nl j a->Nl j b->PrOk ts D N j a b (rT ts k a b):=by
 intro k
 induction k using Nat.strongRecOn with
 |_ k ih =>
  intro j a b hj hjk ha hb;obtain⟨nx,dx⟩:=vQ ha oz;obtain⟨ny,dy⟩:=vQ hb oz
  by_cases h0:(bu 5 a).length=0\/(bu 5 b).length=0
  ·rw[ID h0];refine⟨.inl rfl,?_,fun Da Na Db Nb ca cb=>Cd.nil (YJ (YJ ca.1 cb.1) (iM hD j))⟩;rw[gp];rcases h0 with h |h
   ·rw[<- dx,ZA.1 h,gp,T.zero_mul]
   ·rw[<- dy,ZA.1 h,gp,T.mul_zero]
  rcases KH nx ny h0 with h1 |⟨i,hi,h1⟩
  ·rw[Ka h0 h1];obtain⟨p,hp⟩:∃p,bu 5 a=[p]:=YV.1 oz;obtain⟨q,hq⟩:∃q,bu 5 b=[q]:=YV.1 oz
   have base:PrOk ts D N 0 [p] [q] [p*q]:=by
    refine⟨.inr ⟨0,aa0 _,rfl⟩,rfl,fun Da Na Db Nb ca cb=>?_⟩;have h1:=(ca.mul1 cb).scale (iM hD 0);exact h1.mono (aaz _ (k8 D N 0))
   have h2:=base.ups hD (by simp) (by simp) (aa0 j);rw[hp,hq];refine h2.of (by rw[<- hp];exact dx) (by rw[<- hq];exact dy) (fun D N h=>?_) (fun D N h=>?_)
   ·rw[<- hp];exact h.short
   ·rw[<- hq];exact h.short
  ·obtain ⟨k', rfl⟩ : ∃ k', k = k' + 1 := ⟨k - 1, by omega⟩
   rw[F9 rfl h0 h1];have lx:(a6 (bu 5 a) (2^(i+1))).length=2^(i+1):=dO oz;have ly:(a6 (bu 5 b) (2^(i+1))).length=2^(i+1):=dO oz;have n1:Nl i ((a6 (bu 5 a) (2^(i+1))).take (2^i)):=.inr ⟨i,aau _,fZ lx⟩;have n2:Nl i ((a6 (bu 5 a) (2^(i+1))).drop (2^i)):=.inr ⟨i,aau _,gh lx⟩;have n3:Nl i ((a6 (bu 5 b) (2^(i+1))).take (2^i)):=.inr ⟨i,aau _,fZ ly⟩;have n4:Nl i ((a6 (bu 5 b) (2^(i+1))).drop (2^i)):=.inr ⟨i,aau _,gh ly⟩;have g2:=ih k' oz i _ _ oz oz n2 n4
   have hfull:=PrOk.full hD (hts i oz).2 lx ly (ih k' oz i _ _ oz oz n1 n3) g2 (ih k' oz i _ _ oz oz g2.nl (hts i oz).1)
    (ih k' oz i _ _ oz oz n1 n4) (ih k' oz i _ _ oz oz n2 n3)
   have h2:=hfull.ups hD oz oz hi;exact h2.of (by rw[nO];exact dx) (by rw[nO];exact dy) (fun D N h=>h.short.wide) (fun D N h=>h.short.wide)
theorem lA{ts:LL}{m r:Nat}(hm:m<=5)(ht:iO ts m r){k j e f:Nat}{a b:List Rat}(hj:j<=m)(hk:j<=k)(ha:Nl j a)(hb:Nl j b)(ca:Cb e a)(cb:Cb f b) :
  Nl j (rT ts k a b)/\ae j (rT ts k a b)=T.mul (au ts) j (ae j a) (ae j b)/\Cb (e+f+eB r j) (rT ts k a b):=by
 obtain⟨D,N,h0,h1,h2,h3⟩:=ht.2.get;obtain⟨Da,Na,a1,a2,a3⟩:=ca;obtain⟨Db,Nb,b1,b2,b3⟩:=cb;have h:=Xs ts m D N hm (fun j hj=>⟨ht.1 j hj,h1 j⟩) h0 k j a b hj hk ha hb;refine⟨h.nl,h.eq,_,_,h.cd _ _ _ _ a1 b1,?_,?_⟩
 ·rw[abq,abq];exact YC (YC a2 b2) (abe (k8 D N j) (uy h2 h3 j))
 ·rw[abq,abq];exact YC (YC a3 b3) (uy h2 h3 j)
def oq(ts:LL)(i:Nat)(a:List Rat):List Rat :=
  cD (rT ts i (a.take (2^i)) (a.take (2^i))) (de (rT ts i (rT ts i (a.drop (2^i)) (a.drop (2^i))) (ts.getD i [])))
theorem M3{ts:LL}{m r:Nat}(hm:m<=5)(ht:iO ts m r){i e:Nat}{a:List Rat}(hi:i+1<=m)(ha:a.length=2^(i+1))(ca:Cb e a) :
  Nl i (oq ts i a)/\ae i (oq ts i a)=T.norm (au ts) i (ae (i+1) a)/\Cb (4*e+3*eB r i+r+1) (oq ts i a):=by
 have n1:Nl i (a.take (2^i)):=.inr ⟨i,aau _,fZ ha⟩;have n2:Nl i (a.drop (2^i)):=.inr ⟨i,aau _,gh ha⟩;have s1:=lA hm ht (k:=i) (show i<=m by omega) oz n1 n1 ca.take ca.take;have s2:=lA hm ht (k:=i) (show i<=m by omega) oz n2 n2 ca.drop ca.drop;have s3:=lA hm ht (k:=i) (show i<=m by omega) oz s2.1 (ht.1 i oz) s2.2.2 (ht.2.cb i);refine⟨rD s1.1 (pR s3.1),?_,?_⟩
 ·unfold oq T.norm;rw[jC,m7,s1.2.1,s3.2.1,s2.2.1];rfl
 ·exact(s1.2.2.plus s3.2.2.minus).mono oz
theorem Mg{sx sy sd sn:Int}(hd:sd=0\/sd=1):T.sgn3 sx sy sd sn=if sx=sy*sd\/sy*sd=0 then sx else if sx=0 then sy*sd else sx*sn:=by
 unfold T.sgn3;rcases hd with rfl |rfl
 ·rw[ab6 rfl,ab6 (by simp)]
 ·rw[ab5 (by decide),Int.mul_one]
def kZ(n:Nat):Nat:=if 0<=da n/\da n<=5 then(da n).toNat else 0
def kV(n:Nat):Bool:=decide (0<=da n/\da n<=5)
theorem mg{k:Nat}(h:k<=5):kZ (2^k)=k/\kV (2^k)=true:=by
 unfold kZ kV;rw[ql,ab6 oz];exact⟨by omega,by rw[ab7];omega⟩
theorem Dv{n:Nat}(h:∀k,k<6->n≠2^k):kZ n=0/\kV n=false:=by
 have h1:¬(0<=da n/\da n<=5):=by
  intro h1;obtain⟨j,e1,e2⟩:=C4 h1.1;exact h j oz e1
 unfold kZ kV;rw[ab5 h1];exact⟨rfl,acb h1⟩
theorem GQ{m:Nat}(hm:m<=5)(a:List Rt):(a≠[]/\(da a.length<0\/(m:Int)<da a.length))↔(a.length≠0/\(kV a.length=false\/m<kZ a.length)):=by
 have h0:a≠[]↔a.length≠0:=by
  rw[ne_eq,ne_eq,ZA]
 rw[h0]
 have h1:(da a.length<0\/(m:Int)<da a.length)↔(kV a.length=false\/m<kZ a.length):=by
  unfold kV kZ;rw[decide_eq_false_iff_not];generalize da a.length=z
  by_cases h:0<=z/\z<=5
  ·rw[ab6 h];constructor
   ·rintro(h' |h')
    ·omega
    ·exact .inr oz
   ·rintro(h' |h')
    ·exact acc h h'
    ·exact .inr oz
  ·rw[ab5 h];constructor
   ·intro _;exact .inl h
   ·intro _;omega
 rw[h1]
theorem UB{l m k:Nat}{b:Bool}(h:cond (aa .neq (l:Int) 0) (cond (!b) true (aa .gtr (k:Int) (m:Int))) false=true):l≠0/\(b=false\/m<k):=by
 cases h1:aa .neq (l:Int) 0
 ·rw[h1]at h;cases h
 ·rw [h1] at h;refine ⟨by simpa [aa] using h1,?_⟩;cases b
  ·exact .inl rfl
  ·exact .inr (by simpa[aa]using h)
theorem NE{l m k:Nat}{b:Bool}(h:cond (aa .neq (l:Int) 0) (cond (!b) true (aa .gtr (k:Int) (m:Int))) false=false):¬(l≠0/\(b=false\/m<k)):=by
 rintro⟨h1,h2⟩;have e1:aa .neq (l:Int) 0=true:=by simpa[aa]using h1
 rw[e1]at h;rcases h2 with rfl |h2
 ·cases h
 ·have e2 : aa .gtr (k : Int) (m : Int) = true := by simpa [aa] using h2
  rw[e2]at h;cases b <;> cases h
theorem RV(a:List Rat)(i:Nat)(h:a.length<=i) :
  BlkSub (.row 3 ((a6 a i).map qA++[.agg [.v (.bool false),.v (.slice none 0 0),.v (.slice none 0 0)]])) (.row 3 ((a6 a (i+1)).map qA)):=by
 have e:a6 a (i+1)=a6 a i++[0]:=by
  unfold a6;rw[show i+1-a.length=(i-a.length)+1 by omega,List.replicate_succ',abu]
 rw[e,abf];refine .row (by simp) ?_;intro j x y hx hy
 by_cases hj:j<((a6 a i).map qA).length
 ·rw[aa9 hj]at hx hy;rw[hx]at hy;cases hy
  simp only[aav,aas]at hx;obtain⟨q,_,rfl⟩:=hx;exact kr.refl (zJ q)
 ·rw[aa6 oz]at hx hy;cases hk:j-((a6 a i).map qA).length with
  |zero=>rw[hk]at hx hy;cases hx;cases hy;exact qZ
  |succ n=>rw[hk]at hx;simp at hx
theorem wK(n:Nat):aa .neq (n:Int) 0=aa .gtr (n:Int) 0:=by
 show(((n:Int) != 0):Bool)=decide ((n:Int)>0);cases n with
 |zero=>rfl
 |succ n =>
  have h1:((((n+1:Nat):Int) != 0):Bool)=true:=by rw[bne_iff_ne];omega
  rw[h1];exact(aca oz).symm
theorem RE{q:Rat}(h:cond (cond (rt q).neg true (aa .neq ((rt q).num.length:Int) 0)) true (aa .neq ((rt q).den.length:Int) 0)=true):q≠0:=by
 rw[wK,wK]at h;exact Gg h
theorem Wj{q:Rat}(h:cond (cond (rt q).neg true (aa .neq ((rt q).num.length:Int) 0)) true (aa .neq ((rt q).den.length:Int) 0)=false):q=0:=by
 rw[wK,wK]at h;exact Jw h
theorem km{e:Nat}(h:aa .neq (e:Int) 0=true):e≠0:=by
 have:(e:Int)≠0:=by simpa[aa]using h
 omega
theorem jW{e:Nat}(h:aa .neq (e:Int) 0=false):e=0:=by
 have:(e:Int)=0:=by simpa[aa]using h
 omega
theorem RM{rs:List (List Rt)}(hok:∀d∈rs,∀x∈d,x.ok){k j:Nat}(hk:k<=rs.length)(h:∀j,j<k->iL rs j)(hj:j<k):(rs.map nR)[j]?=some (nA (((llq rs).take k).getD j [])):=by
 have h1:=z7 hok hk (fun j hj=>(h j hj).2.1);have h2:((rs.take k).map nR)[j]?=(((llq rs).take k).map nA)[j]?:=by rw[h1]
 simp only[aav,abj,ab6 hj]at h2 ⊢;rw[h2];have hl:j<(llq rs).length:=by rw[aar];omega
 simp only[aaq,abj,ab6 hj];rw[<- aav,aat hl];rfl
structure Tn where
  t:Rt
  half:Bool
namespace Tn
def av(x:Tn):AV:=.agg [bl x.t.neg,ws x.t.num,ws x.t.den,bl x.half]
def err(x:Tn):Nat:=if x.t.valid=true/\(x.half=true->x.t.q=0)then 0 else 2
end Tn
def dW(half:Bool)(t:Rat):Rat:=if half then -1 else(1-t*t)/(1+t*t)
def dR(half:Bool)(t:Rat):Rat:=if half then 0 else(t+t)/(1+t*t)
theorem Tn.err_yes{x:Tn}(h:cond (!x.t.valid) true (cond x.half (aa .neq (bV x.t.q) 0) false)=true):x.err=2:=by
 unfold Tn.err;rw[ab5];rintro⟨h1,h2⟩;rw[h1]at h;cases hh:x.half
 ·rw[hh]at h;cases h
 ·rw[hh,h2 hh]at h;cases h
theorem Tn.err_no{x:Tn}(h:cond (!x.t.valid) true (cond x.half (aa .neq (bV x.t.q) 0) false)=false):x.err=0:=by
 unfold Tn.err;rw[ab6];cases hv:x.t.valid
 ·rw[hv]at h;cases h
 ·rw [hv] at h;refine ⟨rfl,fun hh=>?_⟩;rw [hh] at h;have:bV x.t.q = 0:=by simpa [aa] using h
  exact pY this
theorem Tn.ok_valid{x:Tn}(h:x.err=0):x.t.valid=true:=by
 unfold Tn.err at h;split at h
 ·rename_i h1;exact h1.1
 ·cases h
theorem VP(p:Rat):p/0=0:=by rw[Rat.div_def,Rat.inv_zero,Rat.mul_zero]
theorem To{e:Nat}{t:Rat}(half:Bool)(h:Qb e t):Qb (4*e+6) (dW half t):=by
 unfold dW;split
 ·exact(Qb.one.neg).mono oz
 ·exact((Qb.one.sub (h.mul h)).div (Qb.one.add (h.mul h))).mono oz
theorem Xb{e:Nat}{t:Rat}(half:Bool)(h:Qb e t):Qb (4*e+6) (dR half t):=by
 unfold dR;split
 ·exact Qb.zero.mono oz
 ·exact((h.add h).div (Qb.one.add (h.mul h))).mono oz
structure Plc where
  x:Rt
  y:Rt
def Plc.av(p:Plc):AV:=.agg [bl p.x.neg,ws p.x.num,ws p.x.den,bl p.y.neg,ws p.y.num,ws p.y.den]
structure Pse where
  turn:Tn
  at_:Plc
def Pse.av(p:Pse):AV:=.agg [bl p.turn.t.neg,ws p.turn.t.num,ws p.turn.t.den,bl p.turn.half,bl p.at_.x.neg,ws p.at_.x.num,ws p.at_.x.den,bl p.at_.y.neg,ws p.at_.y.num,ws p.at_.y.den]
def Pse.ok(p:Pse):Bool:=decide (p.turn.err=0)&&p.at_.x.valid&&p.at_.y.valid
theorem L9(q:Rat):aa .eql (bV q) 0=decide (q=0):=by
 by_cases h:q=0
 ·subst h;rfl
 ·rw[acb h];have:bV q≠0:=fun h'=>h (pY h')
  simpa[aa]using this
theorem jk(a b:Bool):cond a b false=(a&&b):=by cases a <;> rfl
theorem yt{x:Blk}(hx:x.nm=[]){k:Nat}(h:x.Names k):False:=by
 have:=h.mem;rw[hx]at this;cases this
theorem x5{ext:Nat->Prop}{k d:Nat}{x:Blk}{m m2:Nat->Option Nat}{w:acj}(hx:x.nm=[])(h:m2 d=m k)(hr:HeapRel ext [(k,some x)] m w):HeapRel ext [(d,some x)] m2 w:=by
 refine⟨?_,?_,?_⟩
 ·intro k' z hz;obtain⟨rfl,h9⟩:=fV hz;cases h9;have h1:=hr.blk k _ (by rw[aY,ab6 rfl]);rw[kj h (y:=x) (x:=x)];exact BlkRep.mono (w:=w) (fun _ _ h=>h) (fun _ _ h=>h) (fun _ _ hn=>(yt hx hn).elim) h (fun _ _=>rfl) h1
 ·intro k1 k2 z z' b h1 h2 _ _;rw[(fV h1).1,(fV h2).1]
 ·intro k' z b hz hb;obtain⟨rfl,h9⟩:=fV hz;cases h9;exact hr.sep k _ b (by rw[aY,ab6 rfl]) (h▸hb)
theorem Con.rB{P:aci}{f:FuncId}{k off:Nat}{x x':Blk}{xs:List AV}{r:AV}(d:Nat)(hx:x.nm=[])(hx':x'.nm=[])(hxs:(xs.all fun x=>x.nm.isEmpty)=true)(hr:r.nm=[])
  (h:Con P f (.ptr k off::xs) [(k,some x)] r [(k,some x')]):Con P f (.ptr d off::xs) [(d,some x)] r [(d,some x')]:=by
 refine⟨h.ok,?_⟩;intro ext m w vs hext hheap hvs hrep
 have h1 := h.ret ext (fun _ => m d) w vs hext (x5 (k := d) hx rfl hheap) (by simpa using hvs) (by
  intro j v y hv hy;rw[kj (d:=k) (k:=d) (y:=x) (x:=x) (m2:=fun _=>m d) (m:=m) rfl]
  match j,hy with
  |0,hy =>
   cases hy;have h2:=hrep 0 v _ hv rfl;cases h2 with
   |ptr hm=>exact .ptr hm
  |j+1,hy =>
   have h2:=hrep (j+1) v y hv hy;refine iW ?_ h2;have:=aa3.1 hxs y (aap hy);simpa using this)
 refine Calls.mono h1 ?_;rintro e w' ⟨v,m',rfl,hf,hh,hn,hk,hrr⟩
 have ho:bf [(k,some x)] (fun _=>m d)=bf [(d,some x)] m:=by
  funext b;apply propext;rw[kq,kq]
 refine⟨v,fun _=>m' k,rfl,ho▸hf,x5 (k:=k) hx' rfl hh,?_,?_,?_⟩
 ·intro k' x b hx hb;rw[<- ho];exact hn k _ b (by rw[aY,ab6 rfl]) hb
 ·intro k' x y hx hy;obtain⟨rfl,_⟩:=fV hx;exact hk k _ _ (by rw[aY,ab6 rfl]) (by rw[aY,ab6 rfl])
 ·rw[kj (d:=d) (k:=k) (y:=x') (x:=x') (m2:=fun _=>m' k) (m:=m') rfl];exact iW hr hrr
structure Nm(n e:Nat)(l:List Rat):Prop where
  five:n<=5
  nl:Nl n l
  cb:Cb e l
theorem Nm.mono{n e f:Nat}{l:List Rat}(h:Nm n e l)(hf:e<=f):Nm n f l:=⟨h.five,h.nl,h.cb.mono hf⟩
theorem Nm.rt{n e:Nat}{l:List Rat}(h:Nm n e l)(he:e<=lm n):NR (l.map Go.Lw.rt) e:=by
 have hlm:=kc n;refine⟨?_,by have:=h.nl.len5 h.five;rw[aar];omega,by rw[eL];exact h.cb⟩;intro x hx;obtain⟨q,hq,rfl⟩:=Y8.1 hx;exact(h.cb.qs oz hq).ok
theorem Nm.chk{n e:Nat}{l:List Rat}(h:Nm n e l):co n (l.map Go.Lw.rt)=0:=pq h.nl
theorem Nm.add{n e f:Nat}{a b:List Rat}(ha:Nm n e a)(hb:Nm n f b):Nm n (e+f+1) (sh n (T.add n (ae n a) (ae n b))):=by
 refine⟨ha.five,eT _ _,?_⟩;rw[<- jC];exact(ha.cb.plus hb.cb).sh (rD ha.nl hb.nl)
theorem Nm.neg{n e:Nat}{a:List Rat}(ha:Nm n e a):Nm n e (sh n (T.neg n (ae n a))):=by
 refine⟨ha.five,eT _ _,?_⟩;rw[<- m7];exact ha.cb.minus.sh (pR ha.nl)
theorem Nm.sub{n e f:Nat}{a b:List Rat}(ha:Nm n e a)(hb:Nm n f b):Nm n (e+f+1) (sh n (T.add n (ae n a) (T.neg n (ae n b)))):=by
 refine⟨ha.five,eT _ _,?_⟩;rw[<- m7,<- jC];exact(ha.cb.plus hb.cb.minus).sh (rD ha.nl (pR hb.nl))
abbrev kB(r n:Nat):Nat:=eB r n
theorem Nm.mul{ts:LL}{r n e f:Nat}(tw:Tw ts r)(hn:n=ts.length){a b:List Rat}(ha:Nm n e a)(hb:Nm n f b):Nm n (e+f+kB r n) (sh n (T.mul (au ts) n (ae n a) (ae n b))):=by
 subst hn;refine⟨ha.five,eT _ _,?_⟩;have h1:=gd ts ts.length tw.ok.1 ts.length ts.length a b (aau _) (aau _) ha.nl hb.nl;have h2:=Cb.mul tw.ok (k:=ts.length) (aau ts.length) (aau _) ha.nl hb.nl ha.cb hb.cb;rw[<- h1.2];exact h2.sh h1.1
theorem Nm.ofQ{n e:Nat}(hn:n<=5){q:Rat}(h:Cb e [q]):Nm n e (sh 0 (q:Rat)):=by
 refine⟨hn,(eT 0 q).mono (aa0 _),?_⟩;have:=h.sh (k:=0) (.inr ⟨0,aau _,rfl⟩);exact this
theorem Cb.one{e:Nat}{q:Rat}(h:Qb e q):Cb e [q]:=by
 refine⟨q.den,q.num.natAbs,⟨by have:=q.den_nz;omega,?_⟩,Ym h.2,Ym h.1⟩;intro x hx;rw[Za.1 hx];refine⟨q.num,?_,aau _⟩
 have hd:((q.den:Int):Rat)≠0:=by
  intro h0;have:(q.den:Int)=0:=ZV.1 h0;have:=q.den_nz;omega
 have hq:q=(q.num:Rat)/((q.den:Int):Rat):=by
  rw[<- ZS,ZU]
 have h1:(q.num:Rat)/((q.den:Int):Rat)*((q.den:Int):Rat)=(q.num:Rat):=Rat.div_mul_cancel hd;rw[<- hq]at h1;exact h1
theorem fL(n:Nat)(q:Rat):ae n (sh 0 (q:Rat))=T.ofQ n q:=by
 show ae n (if q=0 then[]else[q])=_;split
 ·rename_i h;subst h;rw[gp]
  induction n with
  |zero=>rfl
  |succ n ih=>simp only[T.zero,T.ofQ,ih]
 ·exact lg n q
def aD(x y:List Rat):AV:=.agg [nA x,nA y]
def gI(ts:LL):Blk:=.box [.lst 1 (ts.map nA),.v .nilIface]
theorem tA{ts:LL}{r e:Nat}(tw:Tw ts r){a:List Rat}(ha:Nm ts.length e a):bB (ts.map (List.map rt)) [a.map rt]=0:=by
 refine qU tw.chk (fun x hx=>?_);rw[Za.1 hx,aar];exact ha.chk
theorem uF{ts:LL}{r e f:Nat}(tw:Tw ts r){a b:List Rat}(ha:Nm ts.length e a)(hb:Nm ts.length f b):bB (ts.map (List.map rt)) [a.map rt,b.map rt]=0:=by
 refine qU tw.chk (fun x hx=>?_);rw[aar];simp only[abd,abb,or_false]at hx;rcases hx with rfl |rfl
 ·exact ha.chk
 ·exact hb.chk
def iT:List (List Rat×List Rat)->LL
  |[]=>[]
  |p::l=>p.1::p.2::iT l
theorem EJ:∀(a b:List (List Rat×List Rat)),iT (a++b)=iT a++iT b
 |[],b=>rfl
 |p::a,b=>by simp only[Y4,iT,EJ a b]
theorem vH:∀(a:List (List Rat×List Rat)),(iT a).length=2*a.length
 |[]=>rfl
 |p::a=>by simp only[iT,aa4,vH a];omega
theorem Gh{P:List Rat->Prop}:∀{ps:List (List Rat×List Rat)},(∀p∈ps,P p.1/\P p.2)->∀l∈iT ps,P l
 |[],_,l,h=>by cases h
 |p::ps,hp,l,h=>by
  simp only[iT,abd]at h;rcases h with rfl |rfl |h
  ·exact(hp p (by simp)).1
  ·exact(hp p (by simp)).2
  ·exact Gh (fun q hq=>hp q (by simp[hq])) l h
theorem bq{s:AS}{k:Nat}{x:Blk}(h:lk s.hp k=some x):∀k' z,lk [(k,some x)] k'=some z->lk s.hp k'=some z:=by
 intro k' z hz;obtain⟨rfl,h9⟩:=fV hz;cases h9;exact h
def nJ(ts:LL)(a b c d:T ts.length):T ts.length:=T.add ts.length (T.mul (au ts) ts.length a c) (T.mul (au ts) ts.length b d)
def mY(ts:LL)(a b c d:T ts.length):T ts.length:=T.add ts.length (T.mul (au ts) ts.length a d) (T.neg ts.length (T.mul (au ts) ts.length b c))
theorem BD{ts:LL}{a b c d:T ts.length}:T.add ts.length (ae ts.length (sh ts.length (T.mul (au ts) ts.length a c))) (ae ts.length (sh ts.length (T.mul (au ts) ts.length b d)))=nJ ts a b c d:=by
 rw[bh,bh];rfl
theorem Cv{ts:LL}{a b c d:T ts.length}:T.add ts.length (ae ts.length (sh ts.length (T.mul (au ts) ts.length a d))) (T.neg ts.length (ae ts.length (sh ts.length (T.mul (au ts) ts.length b c))))=mY ts a b c d:=by
 rw[bh,bh];rfl
abbrev subT(ts:LL)(x y:T ts.length):T ts.length:=T.add ts.length x (T.neg ts.length y)
def qO(ts:LL)(a b c d p q:T ts.length):T ts.length:=mY ts (subT ts c a) (subT ts d b) (subT ts p a) (subT ts q b)
theorem FV{ts:LL}{a b c d p q:T ts.length} :
  mY ts (ae ts.length (sh ts.length (subT ts c a))) (ae ts.length (sh ts.length (subT ts d b))) (ae ts.length (sh ts.length (subT ts p a))) (ae ts.length (sh ts.length (subT ts q b)))=qO ts a b c d p q:=by
 rw[bh,bh,bh,bh];rfl
theorem vt{ts:LL}{r e f:Nat}(tw:Tw ts r){a b c d:List Rat}(ha:Nm ts.length e a)(hb:Nm ts.length e b)(hc:Nm ts.length f c)(hd:Nm ts.length f d) :
  Nm ts.length (2*(e+f+kB r ts.length)+1) (sh ts.length (nJ ts (ae ts.length a) (ae ts.length b) (ae ts.length c) (ae ts.length d))):=by
 have h:=(ha.mul tw rfl hc).add (hb.mul tw rfl hd);rw[BD]at h;exact h.mono oz
theorem Bs{ts:LL}{r e f:Nat}(tw:Tw ts r){a b c d:List Rat}(ha:Nm ts.length e a)(hb:Nm ts.length e b)(hc:Nm ts.length f c)(hd:Nm ts.length f d) :
  Nm ts.length (2*(e+f+kB r ts.length)+1) (sh ts.length (mY ts (ae ts.length a) (ae ts.length b) (ae ts.length c) (ae ts.length d))):=by
 have h:=(ha.mul tw rfl hd).sub (hb.mul tw rfl hc);rw[Cv]at h;exact h.mono oz
theorem C8{ts:LL}{r e:Nat}(tw:Tw ts r){a b c d p q:List Rat}(ha:Nm ts.length e a)(hb:Nm ts.length e b)(hc:Nm ts.length e c)(hd:Nm ts.length e d)(hp:Nm ts.length e p)(hq:Nm ts.length e q) :
  Nm ts.length (8*e+5+2*kB r ts.length) (sh ts.length (qO ts (ae ts.length a) (ae ts.length b) (ae ts.length c) (ae ts.length d) (ae ts.length p) (ae ts.length q))):=by
 have h:=Bs tw (hc.sub ha) (hd.sub hb) (hp.sub ha) (hq.sub hb);rw[FV]at h;exact h.mono oz
theorem WX{x y:Int}:cond (cond (aa .eql x 0) (aa .eql y 0) false) true false=decide (x=0/\y=0):=by
 by_cases hx:x=0
 ·subst hx
  by_cases hy:y=0
  ·subst hy;rfl
  ·have : aa .eql y 0 = false := by simpa [aa] using hy
   rw[this];simp[hy]
 ·have : aa .eql x 0 = false := by simpa [aa] using hx
  rw[this];simp[hx]
def tz(ts:LL)(cos sin x y:T ts.length):T ts.length:=mY ts cos sin y x
def tP(ts:LL)(cos sin x y:T ts.length):T ts.length:=nJ ts sin cos x y
theorem vY{ts:LL}{r e f:Nat}(tw:Tw ts r){a b c d:List Rat}(ha:Nm ts.length e a)(hb:Nm ts.length e b)(hc:Nm ts.length f c)(hd:Nm ts.length f d) :
  Nm ts.length (2*(e+f+kB r ts.length)+1) (sh ts.length (tz ts (ae ts.length a) (ae ts.length b) (ae ts.length c) (ae ts.length d))):=Bs tw ha hb hd hc
theorem xQ{ts:LL}{r e f:Nat}(tw:Tw ts r){a b c d:List Rat}(ha:Nm ts.length e a)(hb:Nm ts.length e b)(hc:Nm ts.length f c)(hd:Nm ts.length f d) :
  Nm ts.length (2*(e+f+kB r ts.length)+1) (sh ts.length (tP ts (ae ts.length a) (ae ts.length b) (ae ts.length c) (ae ts.length d))):=vt tw hb ha hc hd
def sD(ts:LL)(cos sin X:T ts.length)(x y:Rat):T ts.length:=T.add ts.length (tz ts cos sin (T.ofQ ts.length x) (T.ofQ ts.length y)) X
def sL(ts:LL)(cos sin Y:T ts.length)(x y:Rat):T ts.length:=T.add ts.length (tP ts cos sin (T.ofQ ts.length x) (T.ofQ ts.length y)) Y
theorem yX{ts:LL}{cos sin X:T ts.length}{x y:Rat}:T.add ts.length (ae ts.length (sh ts.length (tz ts cos sin (ae ts.length (sh 0 (x:Rat))) (ae ts.length (sh 0 (y:Rat)))))) X=sD ts cos sin X x y:=by
 rw[bh,fL,fL];rfl
theorem AY{ts:LL}{cos sin Y:T ts.length}{x y:Rat}:T.add ts.length (ae ts.length (sh ts.length (tP ts cos sin (ae ts.length (sh 0 (x:Rat))) (ae ts.length (sh 0 (y:Rat)))))) Y=sL ts cos sin Y x y:=by
 rw[bh,fL,fL];rfl
theorem Sub.fn0(f:FuncId):Sub (.v (.func (.func f) #[] #[])) (.fn f []):=fun g S m v h=>by
 cases h;exact .fn rfl (fun j u c hu hc=>by simp at hc)
theorem Sl{e k m:Nat}(h:8*e+4*k+4<=m):2*(2*(e+e+k)+1)<=m:=by omega
theorem JA{rs:List (List Rt)}{a:List Rt}(h:bM rs=0):bB rs [a]=co rs.length a:=by
 unfold bB;rw[ab5 (by rw[h];simp)];show(if _ then _ else 0)=_;split
 ·rfl
 ·rename_i h1;exact(aao.1 h1).symm
def it(ts:LL)(x y:T ts.length):Bool:=decide (T.sgn (au ts) ts.length (subT ts x y)=0)
theorem Hu(z:Int):cond true (aa .eql z 0) false=decide (z=0):=by
 by_cases h:z=0
 ·subst h;rfl
 ·rw[acb h];simpa[aa]using h
theorem tW{n:Int}(h:-9223372036854775808<=n/\n<=9223372036854775807):Qs ((n:Rat)):=by
 refine⟨2,by unfold fO;omega,?_,?_⟩
 ·unfold Lz;simp only[Rat.num_intCast,Nat.reducePow];omega
 ·unfold Lz;simp only[Rat.den_intCast];decide
theorem Lu(a b c d:Bool):cond (cond (cond a b false) c false) d false=(a&&b&&c&&d):=by cases a <;> cases b <;> cases c <;> rfl
def ef(s:ByteArray)(i:Nat):Nat:=(s.data.getD i 0).toNat
def fp(c:Nat):Bool:=decide (97<=c/\c<=122)||decide (65<=c/\c<=90)
def r8(c:Nat):Bool:=decide (48<=c/\c<=57)
def kU(c:Nat):Bool:=fp c||r8 c||decide (c=95)
def nG(s:ByteArray):Nat->Nat->Bool
  |_,0=>true
  |i,n+1=>kU (ef s i)&&nG s (i+1) n
def iI(s:ByteArray):Bool:=decide (0<s.size/\s.size<=24)&&fp (ef s 0)&&nG s 0 s.size
def fM(s:ByteArray):Nat->Nat->Nat
  |i,0=>i
  |i,n+1=>if kU (ef s i)then fM s (i+1) n else i
theorem Fe(s:ByteArray):∀(n i:Nat),i<=fM s i n/\fM s i n<=i+n
 |0,i=>⟨aau _,aau _⟩
 |n+1,i=>by
  simp only[fM];split
  ·have:=Fe s n (i+1);omega
  ·omega
theorem z8(s:ByteArray):∀(n i:Nat),fM s i n=i+n↔nG s i n=true
 |0,i=>by simp[fM,nG]
 |n+1,i=>by
  simp only[fM,nG,aaw];split
  ·rename_i h;rw[<- z8 s n (i+1),show i+(n+1)=i+1+n by omega];simp[h]
  ·rename_i h;constructor
   ·intro h';omega
   ·intro h';exact acc h'.1 h
theorem P6{c:Nat}(h:fp c=true):kU c=true:=by unfold kU;rw[h];rfl
def fx(s:ByteArray):Nat:=if 0<s.size/\fp (ef s 0)=true then fM s 1 (s.size-1)else 0
theorem Nh(s:ByteArray):iI s=decide (0<fx s/\fx s=s.size/\fx s<=24):=by
 unfold iI fx;rw[Z3];simp only[aaw,ab7]
 by_cases h:0<s.size/\fp (ef s 0)=true
 ·rw[ab6 h];obtain⟨h1,h2⟩:=h;have h3:=z8 s (s.size-1) 1
  have h4:nG s 0 s.size=nG s 1 (s.size-1):=by
   obtain⟨n,hn⟩:∃n,s.size=n+1:=⟨s.size-1,by omega⟩
   rw[hn];simp only[nG,P6 h2,Bool.true_and,Yl]
  have h5:=Fe s (s.size-1) 1;rw[h4,<- h3];constructor
  ·rintro⟨⟨h6,h7⟩,h8⟩;omega
  ·rintro⟨h6,h7,h8⟩;exact⟨⟨by omega,h2⟩,by omega⟩
 ·rw[ab5 h];constructor
  ·rintro⟨⟨h1,h2⟩,h3⟩;exact acc ⟨h1.1,h2⟩ h
  ·rintro⟨h1,_⟩;omega
theorem XR(s:ByteArray)(h0:0<s.size)(h24:s.size<=24):iI s=decide ((if fp (ef s 0)then fM s 0 s.size else 0)=s.size):=by
 unfold iI;rw[Z3];simp only[aaw,ab7];have h3:=z8 s s.size 0;rw[Yf]at h3
 by_cases h:fp (ef s 0)=true
 ·rw[ab6 h,h3];exact⟨fun h=>h.2,fun h'=>⟨⟨⟨h0,h24⟩,h⟩,h'⟩⟩
 ·rw[ab5 h];exact⟨fun h'=>acc h'.1.2 h,fun h'=>by omega⟩
def dT(a b:ByteArray):Bool:=a.toList==b.toList
def fC(n:Nat)(err:Nat->Nat):Nat:=e8 ((List.range n).map err)
theorem eD{n i:Nat}{err:Nat->Nat}(hi:i<n)(h:∀j,j<i->err j=0)(he:err i≠0):fC n err=err i:=by
 unfold fC
 have e:List.range n=List.range i++(i::(List.range' (i+1) (n-(i+1)))):=by
  obtain⟨d,rfl⟩:∃d,n=i+(d+1):=⟨n-i-1,by omega⟩
  rw[List.range_eq_range',List.range_eq_range',<- List.range'_append_1,Yf,List.range'_succ,show i+(d+1)-(i+1)=d by omega]
 rw[e,abf,u7 _ _ (od (fun x hx=>by
  obtain⟨j,hj,rfl⟩:=Y8.1 hx;exact h j (Y3.1 hj)))]
 show(if err i≠0 then err i else _)=_;rw[ab6 he]
theorem mR{n:Nat}{err:Nat->Nat}(h:∀j,j<n->err j=0):fC n err=0 :=
 od (fun x hx=>by obtain⟨j,hj,rfl⟩:=Y8.1 hx;exact h j (Y3.1 hj))
theorem se{n:Nat}{err:Nat->Nat}(h:fC n err=0):∀j,j<n->err j=0:=fun j hj =>
 oA h _ (Y8.2 ⟨j,Y3.2 hj,rfl⟩)
structure Mk where
  name:ByteArray
  x:Rt
  y:Rt
instance:Inhabited Mk:=⟨⟨default,⟨false,[],[]⟩,⟨false,[],[]⟩⟩⟩
def Mk.av(m:Mk):AV:=.agg [.v (.string m.name),bl m.x.neg,ws m.x.num,ws m.x.den,bl m.y.neg,ws m.y.num,ws m.y.den]
structure Bd where
  name:ByteArray
  pts:List Mk
instance:Inhabited Bd:=⟨⟨default,[]⟩⟩
def Bd.av(b:Bd):AV:=.agg [.v (.string b.name),.lst 7 (b.pts.map Mk.av)]
structure Jt where
  name:ByteArray
  kind:Int
  a:Int
  point:Int
  b:Int
  on:Int
  to:Int
instance:Inhabited Jt:=⟨⟨default,0,0,0,0,0,0⟩⟩
def Jt.av(j:Jt):AV:=.agg [.v (.string j.name),i64 j.kind,i64 j.a,i64 j.point,i64 j.b,i64 j.on,i64 j.to]
structure Dr where
  name:ByteArray
  body:Int
instance:Inhabited Dr:=⟨⟨default,0⟩⟩
def Dr.av(d:Dr):AV:=.agg [.v (.string d.name),i64 d.body]
structure Li where
  name:ByteArray
  bo:List Bd
  jo:List Jt
  dv:List Dr
def Li.av(l:Li):AV:=.agg [.v (.string l.name),.lst 2 (l.bo.map Bd.av),.lst 7 (l.jo.map Jt.av),.lst 2 (l.dv.map Dr.av)]
structure Mk.ok(m:Mk):Prop where
  x:m.x.ok
  y:m.y.ok
  qx:Qb 1000 m.x.q
  qy:Qb 1000 m.y.q
structure Bd.ok(b:Bd):Prop where
  pts:∀m∈b.pts,m.ok
  names:∀m∈b.pts,m.name.size<=281474976710656
  ll:b.pts.length<=281474976710656
  name:b.name.size<=281474976710656
structure Li.ok(l:Li):Prop where
  name:l.name.size<=281474976710656
  bo:∀b∈l.bo,b.ok
  jnames:∀j∈l.jo,j.name.size<=281474976710656
  dnames:∀d∈l.dv,d.name.size<=281474976710656
  lb:l.bo.length<=281474976710656
  lj:l.jo.length<=281474976710656
  ld:l.dv.length<=281474976710656
def gU(l:List ByteArray)(i:Nat):Bool:=(l.take i).any (fun n=>dT n (l.getD i default))
def eH(ps:List Mk)(i:Nat):Nat :=
  if iI (ps.getD i default).name=false then 5 else if gU (ps.map Mk.name) i=true then 6
  else if(ps.getD i default).x.valid=true/\(ps.getD i default).y.valid=true then 0 else 3
def eO(bs:List Bd)(i:Nat):Nat :=
  if iI (bs.getD i default).name=false then 5 else if gU (bs.map Bd.name) i=true then 6
  else if 8<(bs.getD i default).pts.length then 4 else fC (bs.getD i default).pts.length (eH (bs.getD i default).pts)
def bA(i:Int)(n:Nat):Bool:=decide (0<=i/\i<n)
def cO(l:Li)(i:Int):List Mk:=(l.bo.getD i.toNat default).pts
def eM(l:Li)(j:Jt):Nat :=
  if j.kind≠0/\j.kind≠1 then 7
  else if bA j.a l.bo.length=false\/bA j.b l.bo.length=false then 9
  else if j.a=j.b then 13
  else if bA j.point (cO l j.a).length=false\/bA j.on (cO l j.b).length=false then 9
  else if j.kind=0 then(if j.to≠0 then 2 else 0)
  else if bA j.to (cO l j.b).length=false then 9
  else if((cO l j.b).getD j.on.toNat default).x.q=((cO l j.b).getD j.to.toNat default).x.q/\((cO l j.b).getD j.on.toNat default).y.q=((cO l j.b).getD j.to.toNat default).y.q then 8
  else 0
def gB(l:Li)(i:Nat):Nat :=
  if iI (l.jo.getD i default).name=false then 5 else if gU (l.jo.map Jt.name) i=true then 6 else eM l (l.jo.getD i default)
def d9(l:Li)(i:Nat):Nat :=
  if iI (l.dv.getD i default).name=false then 5 else if gU (l.dv.map Dr.name) i=true then 6
  else if bA (l.dv.getD i default).body l.bo.length=false then 9
  else if(l.dv.getD i default).body=0 then 7
  else if(l.dv.take i).any (fun d=>decide (d.body=(l.dv.getD i default).body))=true then 6 else 0
def iH(l:Li):Nat:=fC l.bo.length (eO l.bo)
def fg(l:Li):Nat:=if 16<l.jo.length then 4 else fC l.jo.length (gB l)
def ic(l:Li):Nat:=if 2<l.dv.length then 4 else fC l.dv.length (d9 l)
def aN(l:Li):Nat :=
  if iI l.name=false then 5 else if l.bo.length=0 then 10 else if 8<l.bo.length then 4
  else if iH l≠0 then iH l else if fg l≠0 then fg l else ic l
theorem aq{α:Type}{l:List α}{i:Nat}{x d:α}(h:l[i]?=some x):l.getD i d=x:=by rw[aaq,h];rfl
theorem oi{α:Type}(f:α->ByteArray){l:List α}{i:Nat}{x:α}(h:l[i]?=some x):gU (l.map f) i=(l.take i).any (fun y=>dT (f y) (f x)):=by
 unfold gU;have h1:(l.map f).getD i default=f x:=aq (by rw[aav,h];rfl);rw[h1,<- map_take,List.any_map];rfl
theorem kQ{α:Type}{p:α->Bool}{l:List α}{k:Nat}{x:α}(h:l[k]?=some x)(hn:(l.take k).any p=false)(hp:p x=false):(l.take (k+1)).any p=false:=by
 rw[dK h,List.any_append,hn];simp[hp]
theorem lN{α:Type}{p:α->Bool}{l:List α}{k i:Nat}{x:α}(h:l[k]?=some x)(hk:k<i)(hp:p x=true):(l.take i).any p=true:=by
 rw[Zz];exact⟨x,aap (by rw[abj,ab6 hk];exact h),hp⟩
theorem Kc(s:ByteArray):(s.toList==ByteArray.toList ⟨#[]⟩)=decide (s.size=0):=by
 have e:ByteArray.toList ⟨#[]⟩=[]:=Go.ByteArray.toList_eq _;have h:s.toList.length=s.size:=by rw[Go.ByteArray.toList_eq];cases s;rfl
 rw[e,Z3,beq_iff_eq,ab7];constructor
 ·intro h';rw[h']at h;simpa using h.symm
 ·intro h';exact Zv oz
theorem Id{s:ByteArray}(h:(s.toList==ByteArray.toList ⟨#[]⟩)=false):0<s.size:=by
 rw[Kc,decide_eq_false_iff_not]at h;omega
theorem a9{a b:Nat}(h:aa .lss (a:Int) (b:Int)=true):a<b:=by
 have:(a:Int)<b:=ab8 h;omega
theorem sM{a b:Nat}(h:aa .lss (a:Int) (b:Int)=false):b<=a:=by
 have:¬(a:Int)<b:=ab9 h;omega
theorem Sj{a b:Nat}{p:Bool}(h:cond (aa .lss (a:Int) (b:Int)) p false=true):a<b/\p=true:=by
 cases h1:aa .lss (a:Int) (b:Int)
 ·rw[h1]at h;cases h
 ·rw[h1]at h;exact⟨a9 h1,h⟩
theorem RT{a b:Nat}{p:Bool}(h:cond (aa .lss (a:Int) (b:Int)) p false=false):a<b->p=false:=by
 intro h0;have h1:aa .lss (a:Int) (b:Int)=true:=aca (by omega:(a:Int)<b);rw[h1]at h;exact h
theorem PF{s:ByteArray}(h:cond (s.toList==ByteArray.toList ⟨#[]⟩) true (!fp (ef s 0))=true):fx s=0:=by
 unfold fx;rw[ab5];rintro⟨h1,h2⟩;rw[Kc,acb oz,h2]at h;cases h
theorem LA{s:ByteArray}(h:cond (s.toList==ByteArray.toList ⟨#[]⟩) true (!fp (ef s 0))=false):0<s.size/\fp (ef s 0)=true:=by
 cases h1:(s.toList==ByteArray.toList ⟨#[]⟩)
 ·rw[h1]at h;exact⟨Id h1,by simpa using h⟩
 ·rw[h1]at h;cases h
theorem HT{s:ByteArray}{i:Nat}(h:s.size<=i):ef s i=0:=by
 unfold ef;have:s.data.size<=i:=h;simp[aa1,aal this]
theorem Ra(s:ByteArray):cond (cond (aa .gtr (fx s:Int) 0) (aa .eql (fx s:Int) (s.size:Int)) false) (aa .leq (fx s:Int) 24) false=iI s:=by
 rw[Nh,Z3,ab7];cases h1:aa .gtr (fx s:Int) 0
 ·have:¬(fx s:Int)>0:=ab9 h1;simp;omega
 ·have h1:(fx s:Int)>0:=ab8 h1;cases h2:aa .eql (fx s:Int) (s.size:Int)
  ·have : (fx s : Int) ≠ s.size := by simpa [aa] using h2
   simp;omega
  ·have h2:(fx s:Int)=s.size:=eq_of_beq h2
   have h3:aa .leq (fx s:Int) 24=true↔fx s<=24:=by
    show decide ((fx s:Int)<=24)=true↔_;rw[ab7];omega
   simp only[cond_true,h3];omega
theorem M5(s:ByteArray):cond (cond (aa .gtr (s.size:Int) 0) (aa .leq (s.size:Int) 24) false) (aa .eql (((if fp (ef s 0)then fM s 0 s.size else 0:Nat)):Int) (s.size:Int)) false=iI s:=by
 cases h1:aa .gtr (s.size:Int) 0
 ·have h1:¬(s.size:Int)>0:=ab9 h1;unfold iI;rw[acb (show ¬(0<s.size/\s.size<=24) by omega)];rfl
 ·have h1:(s.size:Int)>0:=ab8 h1;cases h2:aa .leq (s.size:Int) 24
  ·have h2:¬(s.size:Int)<=24:=ab9 h2;unfold iI;rw[acb (show ¬(0<s.size/\s.size<=24) by omega)];rfl
  ·have h2:(s.size:Int)<=24:=ab8 h2;rw[XR s oz oz];simp only[cond_true];rw[Z3,ab7];generalize(if fp (ef s 0)=true then fM s 0 s.size else 0)=m;show(((m:Int)==(s.size:Int))=true)↔_;rw[beq_iff_eq];omega
theorem vc{α:Type}(sz:Nat)(f:α->AV)(l:List α)(n:Nat):AV.lst sz (((l.map f).drop 0).take (n-0))=.lst sz ((l.take n).map f):=by
 rw[Nat.sub_zero,ab1,map_take]
theorem ss{α:Type}{l:List α}{i k:Nat}{x:α}(h:(l.take i)[k]?=some x):l[k]?=some x/\k<i:=by
 rw[abj]at h;split at h
 ·rename_i hk;exact⟨h,hk⟩
 ·cases h
theorem DA(i:Int)(n:Nat):cond (aa .geq i 0) (aa .lss i (n:Int)) false=bA i n:=by
 unfold bA;rw[Z3,ab7];cases h:aa .geq i 0
 ·have:¬i>=0:=ab9 h;simp;omega
 ·have h:i>=0:=ab8 h;show decide (i<(n:Int))=true↔_;rw[ab7];omega
theorem df{i:Int}{n:Nat}(h:bA i n=true):0<=i/\i<n:=ab8 h
theorem pa{p q:Bool}(h:cond (!p) true (!q)=true):p=false\/q=false:=by cases p <;> cases q <;> simp_all
theorem pL{p q:Bool}(h:cond (!p) true (!q)=false):p=true/\q=true:=by cases p <;> cases q <;> simp_all
theorem dl{p:Bool}(h:(!p)=true):p=false:=by cases p <;> simp_all
theorem du{p:Bool}(h:(!p)=false):p=true:=by cases p <;> simp_all
theorem jX{a b:Nat}(h:aa .gtr (a:Int) (b:Int)=true):b<a:=by
 have:(a:Int)>b:=ab8 h;omega
theorem iz{a b:Nat}(h:aa .gtr (a:Int) (b:Int)=false):a<=b:=by
 have:¬(a:Int)>b:=ab9 h;omega
theorem bn{a b:Nat}(hle:a<=b)(h:aa .lss (a:Int) (b:Int)=false):a=b:=by have:=sM h;omega
theorem cM{x y:Int}(h:aa .eql x y=true):x=y:=by simpa[aa]using h
theorem dk{x y:Int}(h:aa .eql x y=false):x≠y:=by simpa[aa]using h
theorem nW{x y:Int}(h:aa .neq x y=true):x≠y:=by simpa[aa]using h
theorem s8{x y:Int}(h:aa .neq x y=false):x=y:=by simpa[aa]using h
theorem Em{k:Int}(h:cond (aa .neq k 0) (aa .neq k 1) false=true):k≠0/\k≠1:=by
 cases h1:aa .neq k 0
 ·rw[h1]at h;cases h
 ·rw[h1]at h;exact⟨nW h1,nW h⟩
theorem Hy{k:Int}(h:cond (aa .neq k 0) (aa .neq k 1) false=false):¬(k≠0/\k≠1):=by
 rintro⟨h1,h2⟩;have e1:aa .neq k 0=true:=by simpa[aa]using h1
 have e2:aa .neq k 1=true:=by simpa[aa]using h2
 rw[e1,e2]at h;cases h
theorem Fh{p q r s:Rat}(h:cond (aa .eql (bV (p-q)) 0) (aa .eql (bV (r-s)) 0) false=true):p=q/\r=s:=by
 cases h1:aa .eql (bV (p-q)) 0
 ·rw[h1]at h;cases h
 ·rw[h1]at h;have e1:=pY (cM h1);have e2:=pY (cM h);exact⟨by grind,by grind⟩
theorem JP{p q r s:Rat}(h:cond (aa .eql (bV (p-q)) 0) (aa .eql (bV (r-s)) 0) false=false):¬(p=q/\r=s):=by
 rintro⟨rfl,rfl⟩;rw[Rat.sub_self,Rat.sub_self]at h;cases h
theorem q9{l:Li}{i:Int}(h:bA i l.bo.length=true):∃b,l.bo[i.toNat]?=some b/\cO l i=b.pts/\b∈l.bo/\0<=i:=by
 have h1:=df h;obtain⟨b,hb⟩:=ay (l:=l.bo) (i:=i.toNat) oz;exact⟨b,hb,by unfold cO;rw[aq hb],aap hb,h1.1⟩
theorem ta{ps:List Mk}{i:Int}(h:bA i ps.length=true):∃m,ps[i.toNat]?=some m/\ps.getD i.toNat default=m/\m∈ps/\0<=i:=by
 have h1:=df h;obtain⟨m,hm⟩:=ay (l:=ps) (i:=i.toNat) oz;exact⟨m,hm,aq hm,aap hm,h1.1⟩
theorem oT{x y:Int}:aa .eql x y=decide (x=y):=by
 show(x==y)=decide (x=y);rw[Z3,beq_iff_eq,ab7]
theorem Jr{n:Nat}(h:aa .eql (n:Int) 0=true):n=0:=by have:=cM h;omega
theorem Eh{n:Nat}(h:aa .eql (n:Int) 0=false):n≠0:=by have:=dk h;omega
theorem QS{p q r s:Rat}:cond (aa .eql (bV (p-q)) 0) (aa .eql (bV (r-s)) 0) false=decide (p=q/\r=s):=by
 cases h:cond (aa .eql (bV (p-q)) 0) (aa .eql (bV (r-s)) 0) false
 ·exact(acb (JP h)).symm
 ·exact(aca (Fh h)).symm
theorem MD{e:Nat}{q:Rat}(h:Qb e q):Cd q.den (2^e) [q]:=by
 refine⟨Nat.pos_of_ne_zero q.den_nz,fun p hp=>?_⟩;rw[Za.1 hp];refine⟨q.num,?_,Ym h.1⟩
 have h0:((q.den:Int):Rat)≠0:=by
  intro h0;have:(q.den:Int)=0:=ZV.1 h0;have:=q.den_nz;omega
 have h1:q=(q.num:Rat)/((q.den:Int):Rat):=by
  rw[<- ZS];exact(ZU q).symm
 have h2:=Rat.div_mul_cancel (a:=(q.num:Rat)) h0;rw[<- h1]at h2;exact h2
theorem Il{e:Nat}:∀{l:List Rat},(∀q∈l,Qb e q)->∃D N,Cd D N l/\D<=2^(e*l.length)/\N<=2^(e*l.length+e)
 |[],_=>⟨1,1,Cd.nil oz,by simp,Nat.one_le_two_pow⟩
 |q::l,h=>by
  obtain⟨D,N,h1,h2,h3⟩:=Il (l:=l) (fun p hp=>h p (abt _ hp));have hq:=h q (abr ..);have e1:e*(q::l).length=e*l.length+e:=by rw[aa4,Yt,Nat.mul_one]
  have k1:=(h1.scale (Nat.pos_of_ne_zero q.den_nz))
  have k2:=((MD hq).scale h1.1)
  rw[Yn]at k2;refine⟨D*q.den,2^(e*l.length+e+e),?_,?_,?_⟩
  ·refine(Cd.app (a:=[q]) (k2.mono ?_) (k1.mono ?_))
   ·refine abe (aaz _ h2) ?_;rw[<- abq];exact cm oz
   ·refine abe (YC h3 (Ym hq.2)) ?_;rw[<- abq];exact aau _
  ·rw[e1,abq];exact YC h2 (Ym hq.2)
  ·rw[e1];exact aau _
def Rt.wok(r:Rt):Prop:=Ws r.num/\Ws r.den
theorem Rt.wok.ok{r:Rt}{k:Nat}(h:r.wok)(hn:r.num.length<=k)(hd:r.den.length<=k)(hk:k<=100):r.ok:=⟨h.1,h.2,by unfold fO;omega,by unfold fO;omega⟩
theorem Rt.ok.wok{r:Rt}(h:r.ok):r.wok:=⟨h.1,h.2.1⟩
def oY(l:List (List Rt)):Prop:=∀x∈l,(∀r∈x,r.wok)/\x.length<=281474976710656
theorem oY.app{a b:List (List Rt)}(ha:oY a)(hb:oY b):oY (a++b):=fun x hx=>by
 rcases aa2.1 hx with h |h
 ·exact ha x h
 ·exact hb x h
structure Pl where
  c:List Rt
  s:List Rt
  x:List Rt
  y:List Rt
instance:Inhabited Pl:=⟨⟨[],[],[],[]⟩⟩
def Pl.av(p:Pl):AV:=.agg [nR p.c,nR p.s,nR p.x,nR p.y]
def Pl.l(p:Pl):List (List Rt):=[p.c,p.s,p.x,p.y]
structure As where
  rs:List (List Rt)
  bs:List Pl
  ms:List Int
def As.av(a:As):AV:=.agg [.lst 1 (a.rs.map nR),.lst 4 (a.bs.map Pl.av),.lst 1 (a.ms.map i64)]
structure As.ok(a:As):Prop where
  rs:oY a.rs
  rl:a.rs.length<=281474976710656
  bs:∀b∈a.bs,oY b.l
  bl:a.bs.length<=281474976710656
structure AB(a:As):Prop where
  tr:TR a.rs 400000000
  nr:∀b∈a.bs,∀x∈b.l,NR x 50000000000
  ll:a.rs.length<=8
  bl:a.bs.length<=30
theorem RB.mono{r r':Nat}{ts:LL}(h:RB r ts)(hr:r<=r'):RB r' ts:=by
 obtain⟨D,N,h0,h1,h2,h3⟩:=h;exact⟨D,N,h0,h1,abe h2 (cm hr),abe h3 (cm hr)⟩
theorem TR.mono{rs:List (List Rt)}{r r':Nat}(h:TR rs r)(hr:r<=r')(hl:r'<=5000000000):TR rs r':=⟨h.ok,h.len,h.ll,h.rb.mono hr,hl,h.three⟩
theorem NR.mono{x:List Rt}{e f:Nat}(h:NR x e)(hf:e<=f):NR x f:=⟨h.ok,h.len,h.cb.mono hf⟩
theorem mv{α:Type}{l:List α}{p:α->Bool}{i:Nat}{x:α}(h:(l.take i).all p=true)(hx:l[i]?=some x)(hp:p x=true):(l.take (i+1)).all p=true:=by
 rw[dK hx,all_append,h];simp[hp]
theorem lR{α:Type}{l:List α}{p:α->Bool}{i:Nat}{x:α}(hx:l[i]?=some x)(hp:p x=false):l.all p=false:=by
 refine ZY.2 (fun h=>?_);rw[aa3]at h;rw[h x (aap hx)]at hp;cases hp
theorem mH{α:Type}{l:List α}{p:α->Bool}{i:Nat}(hi:i=l.length)(h:(l.take i).all p=true):l.all p=true:=by
 rw[hi,aa8]at h;exact h
structure Li.okw(l:Li):Prop where
  name:l.name.size<=281474976710656
  pts:∀b∈l.bo,b.name.size<=281474976710656/\b.pts.length<=281474976710656/\∀m∈b.pts,m.name.size<=281474976710656/\m.x.wok/\m.y.wok
  jnames:∀j∈l.jo,j.name.size<=281474976710656
  dnames:∀d∈l.dv,d.name.size<=281474976710656
  lb:l.bo.length<=281474976710656
  lj:l.jo.length<=281474976710656
  ld:l.dv.length<=281474976710656
def lE(m:Mk):Bool:=decide (m.x.num.length<=4/\m.x.den.length<=4/\m.y.num.length<=4/\m.y.den.length<=4)
def pj(b:Bd):Bool:=decide (b.pts.length<=30)&&b.pts.all lE
def iG(l:Li):Bool:=l.bo.all pj&&decide (l.bo.length<=30/\l.jo.length<=60/\l.dv.length<=30)
theorem N1{m:Mk}(h:lE m=true)(hx':m.x.wok)(hy':m.y.wok):m.ok:=by
 unfold lE at h;rw[ab7]at h;have hx:=hx'.ok h.1 h.2.1 oz;have hy:=hy'.ok h.2.2.1 h.2.2.2 oz;exact⟨hx,hy,(Rt.qb hx (k:=4) oz h.1 h.2.1).mono oz,(Rt.qb hy (k:=4) oz h.2.2.1 h.2.2.2).mono oz⟩
theorem xT{l:Li}(h:iG l=true)(ho:l.okw):l.ok:=by
 unfold iG at h;rw[aaw,aa3]at h;refine⟨ho.name,fun b hb=>?_,ho.jnames,ho.dnames,ho.lb,ho.lj,ho.ld⟩;have h1:=h.1 b hb;unfold pj at h1;rw[aaw,aa3]at h1;obtain⟨o1,o2,o3⟩:=ho.pts b hb;exact⟨fun m hm=>N1 (h1.2 m hm) (o3 m hm).2.1 (o3 m hm).2.2,fun m hm=>(o3 m hm).1,o2,o1⟩
structure Pse.wok(p:Pse):Prop where
  t:p.turn.t.wok
  x:p.at_.x.wok
  y:p.at_.y.wok
theorem Pse.wok.rs{p:Pse}(h:p.wok):oY [[p.turn.t,p.at_.x],[p.at_.y]]:=by
 intro x hx;simp only[abd,abb,or_false]at hx;rcases hx with rfl |rfl
 ·refine ⟨fun r hr => ?_, by show 2 <= _; omega⟩;simp only [abd,abb,or_false] at hr;rcases hr with rfl | rfl
  ·exact h.t
  ·exact h.x
 ·refine⟨fun r hr => ?_,by show 1<=_;omega⟩;simp only[abd,abb,or_false]at hr;subst hr;exact h.y
theorem zD{n k:Nat}:aa .leq (n:Int) (k:Int)=decide (n<=k):=by simp only[aa];exact decide_eq_decide.2 oz
theorem lH{n k:Nat}:aa .gtr (n:Int) (k:Int)=decide (k<n):=by simp only[aa];exact decide_eq_decide.2 oz
theorem jb(a b:Bool):cond a true b=(a||b):=by cases a <;> rfl
theorem Qi{l:Li}(h:l.bo.all pj=true) :
  cond (cond (aa .leq (l.bo.length:Int) 30) (aa .leq (l.jo.length:Int) 60) false) (aa .leq (l.dv.length:Int) 30) false=iG l:=by
 unfold iG;have e1:=zD (n:=l.bo.length) (k:=30);have e2:=zD (n:=l.jo.length) (k:=60);have e3:=zD (n:=l.dv.length) (k:=30);rw[h,Bool.true_and,jk,jk];refine(congr (acd _ (congr (acd _ e1) e2)) e3).trans ?_;rw[<- Bool.decide_and,<- Bool.decide_and];exact decide_eq_decide.2 ⟨fun h=>⟨h.1.1,h.1.2,h.2⟩,fun h=>⟨⟨h.1,h.2.1⟩,h.2.2⟩⟩
theorem Gn{m:Mk}:cond (cond (cond (aa .gtr (m.x.num.length:Int) 4) true (aa .gtr (m.x.den.length:Int) 4)) true (aa .gtr (m.y.num.length:Int) 4)) true (aa .gtr (m.y.den.length:Int) 4)=!lE m:=by
 unfold lE;have e1:=lH (n:=m.x.num.length) (k:=4);have e2:=lH (n:=m.x.den.length) (k:=4);have e3:=lH (n:=m.y.num.length) (k:=4);have e4:=lH (n:=m.y.den.length) (k:=4);rw[jb,jb,jb];refine(congr (acd _ (congr (acd _ (congr (acd _ e1) e2)) e3)) e4).trans ?_;rw[<- Z1,<- Z1,<- Z1,<- decide_not];exact decide_eq_decide.2 oz
theorem UV{m:Mk}(h:cond (cond (cond (aa .gtr (m.x.num.length:Int) 4) true (aa .gtr (m.x.den.length:Int) 4)) true (aa .gtr (m.y.num.length:Int) 4)) true (aa .gtr (m.y.den.length:Int) 4)=true):lE m=false:=by
 rw[Gn]at h;exact dl h
theorem Sn{m:Mk}(h:cond (cond (cond (aa .gtr (m.x.num.length:Int) 4) true (aa .gtr (m.x.den.length:Int) 4)) true (aa .gtr (m.y.num.length:Int) 4)) true (aa .gtr (m.y.den.length:Int) 4)=false):lE m=true:=by
 rw[Gn]at h;exact du h
open Go.Proofs
theorem Qu{m:List Nat}{n:Nat}(hm:Ws m)(hn:n<=m.length)(hv:val (m.take n)=val m)(h0:n≠0)(hw:ak m (n-1)≠0) :
  AV.fz 24 1 ([]++((m.map u32).drop 0).take (n-0)) (.ms 24 1 0 (0+(((m.map u32).drop 0).take (n-0)).length))=ws (ofNat (val m)):=by
 have h1:m.take n=ofNat (val m):=by
  refine EU (fun x hx=>hm x (abx hx)) ?_ hv;intro x hx;rw[Zd,abc,Yu hn,abj,ab6 oz,jK oz]at hx;cases hx;exact hw
 rw[xO (by simp),<- h1,ws];simp[map_take,Yu hn,Y9]
theorem K9(b:Bool)(n:Nat):AV.agg [bl (bif b then aa BinOp.gtr (↑(ofNat n).length) 0 else false),ws (ofNat n)]=zA (sgn b n):=by
 have h1:(sgn b n).natAbs=n:=by unfold sgn;split <;> omega
 unfold zA ofInt Wh.av;dsimp only;rw[h1];congr 3
 have h2:(ofNat n).length=0↔n=0:=by
  rw[ZA];constructor
  ·intro h;have:=cA n;rw[h]at this;exact this.symm
  ·intro h;rw[h];rfl
 cases b with
 |false=>simp[sgn]
 |true=>simp[sgn,aa];omega
theorem qV(m:List Nat)(i:Nat)(hm:Ws m):FP 441 [ws m,i64 i] (u64 (ak m i)):=by
 refine aj func441 ?_;refine gl ?_;refine gC (fun z=>?_) (fun z=>?_)
 ·simp[aa]at z;have:=cf hm i;refine gi (cz (i:=i) z) ?_;refine gv (u64_in oz) ?_;refine ah ?_;rfl
 simp[aa]at z;refine ah ?_;simp[u64,qg z]
theorem mM(m:List Nat)(hm:Ws m)(hb:m.length<=aK):FP 397 [ws m] (ws (ofNat (val m))):=by
 refine aj func397 ?_ (0,0);refine tX (t:=0) rfl (fun hl=>?_);refine go ?_;refine gl ?_;refine aW [0] [] (fun(n:Nat)=>[pP 3 (i64 n)]) (fun _=>[]) (fun n=>n<=m.length/\val (m.take n)=val m) (fun n=>n) m.length ⟨aau _,by rw[aa8]⟩ ?_;rintro n ⟨hn,hv⟩ K1 J1;refine oD (fun h=>(j7 (by simp[aa]at h;omega) oz)) ?_;refine nk (fun h=>(cz (i:=n-1) (by simp[aa]at h;omega))) ?_;refine gC (fun t15=>?_) (fun t15=>?_)
 ·have t15 : 0 < n /\ ak m (n - 1) = 0 := by simpa [aa] using t15
  refine ga (j7 oz oz) ?_;exact aR J1 (n-1) ⟨by omega,by have h:=@dB m (n-1);rw[show n-1+1=n by omega,t15.2]at h;simp at h;omega⟩
 have t15:0<n->ak m (n-1)≠0:=by simpa[aa]using t15
 refine gC (fun z=>?_) (fun z=>?_)
 ·have h0 : n = 0 := by simpa [aa] using z
  subst h0;refine gR ?_;exact lc (by rw[show val m=0 from hv.symm.trans rfl];exact Sub.nil _ _ _)
 have h0:n≠0:=by simpa[aa]using z
 refine gs (jI T104 rfl T354 rfl rfl rfl) ?_;refine gs (di (.tmp rfl) (.none _) (.some _ (.tmp rfl) oz) T104 rfl T354 rfl oz (by simp;omega) rfl) ?_;refine gs (cK (.tmp rfl) rfl rfl (.tmp rfl) T104 rfl T354 rfl rfl (by unfold aK at hb;simp only[abc,List.length_drop,aar];omega) rfl rfl) ?_ (77777,0);refine gW (Wk.freeze (k:=24) rfl) ?_;refine go ?_;refine gR ?_;exact En (Qu hm hn hv h0 (t15 oz))
theorem ya(w:Wh)(h:w.ok):FP 307 [w.av] (bl w.valid):=by
 have hl:w.mag.length<=bc:=h.2;refine aj func307 ?_;refine gl ?_;refine gC (fun z=>?_) (fun z=>?_)
 ·have h0 : w.mag = [] := by simpa [aa] using z
  refine ah ?_;simp[bl,Wh.valid,h0]
 have h0:w.mag.length≠0:=by simpa[aa]using z
 refine gl ?_;refine ga (j7 oz oz) ?_;refine gi (cz (i:=w.mag.length-1) oz) ?_;refine ah ?_;have h1:w.mag≠[]:=fun h=>h0 (by rw[h];rfl)
 simp only[bl,Wh.valid,ab5 h1,Zd,jK (show w.mag.length-1<w.mag.length by omega),aa];congr 2;generalize ak w.mag _=x;rw[Z3];simp
theorem ko(w:Wh)(h:w.ok):FP 304 [w.av] (ws w.m):=by
 refine aj func304 ?_;refine gc (ya w h) ?_;refine gC (fun z=>?_) (fun z=>?_)
 ·have h0 : w.valid = false := by simpa [aa] using z
  refine gR ?_;exact lc (by rw[show w.m=[] by simp[Wh.m,h0]];exact Sub.nil _ _ _)
 have h0:w.valid=true:=by simpa[aa]using z
 refine ah ?_;simp only[Wh.m,h0];rfl
theorem iX(w:Wh)(h:w.ok):FP 303 [w.av] (bl w.n):=by
 refine aj func303 ?_;refine gc (ya w h) ?_;refine ah ?_;simp only[Wh.n,bl];cases w.valid <;> rfl
theorem ki(b:Bool)(m:List Nat)(hm:Ws m)(hb:m.length<=aK):FP 302 [bl b,ws m] (zA (sgn b (val m))):=by
 refine aj func302 ?_;refine gc (mM m hm hb) ?_;refine cJ ?_;refine ah ?_;exact K9 b (val m)
theorem zE(a b:List Nat)(ha:Ws a)(hb:Ws b)(na:Nz a)(nb:Nz b):FP 393 [ws a,ws b] (i64 (if val a<val b then -1 else if val b<val a then 1 else 0)):=by
 refine aj func393 ?_ (0,0);refine tX (t:=0) rfl (fun hla=>?_);refine tX (t:=1) rfl (fun hlb=>?_);unfold bc at hla hlb;refine go ?_;refine gl ?_;refine gl ?_;refine gC (fun z=>?_) (fun z=>?_)
 ·have h0 : a.length ≠ b.length := by simpa [aa, ZD] using z
  refine gl ?_;refine gl ?_;refine gC (fun z=>?_) (fun z=>?_)
  ·have h1 : a.length < b.length := by simpa [aa] using z
   have h2:=tT ha nb h1;refine ah ?_;simp[i64,h2]
  have h1:b.length<=a.length:=by simpa[aa]using z
  have h2:=tT hb na (show b.length<a.length by omega);refine ah ?_;simp[i64,h2,Nat.lt_asymm h2]
 have h0:a.length=b.length:=by simpa[aa,ZD]using z
 refine gl ?_;refine ga (dP oz) ?_;refine aW [0,1] [] (fun(n:Nat)=>[pP 5 (i64 ((n:Int)-1))]) (fun _=>[]) (fun n=>n<=a.length/\a.drop n=b.drop n) (fun n=>n) a.length ⟨aau _,by rw[Y7,h0,Y7]⟩ ?_ (h1:=(.cons rfl (Sub.int rfl) .nil));rintro n ⟨hn,hd⟩ K1 J1;refine gC (fun z=>?_) (fun z=>?_)
 ·have hn0 : 1 <= n := by have := z; simp [aa] at this; omega
  refine gi (ib (n:=n-1) oz (by first |omega |(simp;omega))) ?_;refine gi (ib (n:=n-1) oz (by first |omega |(simp;omega))) ?_;refine gD ?_;refine gC (fun z=>?_) (fun z=>?_)
  ·have h3 : ak a (n - 1) ≠ ak b (n - 1) := by simpa [aa, ZD] using z
   refine gi (ib (n:=n-1) oz (by first |omega |(simp;omega))) ?_;refine gi (ib (n:=n-1) oz (by first |omega |(simp;omega))) ?_;refine gD ?_;refine gC (fun z=>?_) (fun z=>?_)
   ·have h4 : ak a (n - 1) < ak b (n - 1) := by simpa [aa] using z
    have h5:=F0 ha h0 oz (by rw[Yg hn0];exact hd) h4;refine ah ?_;simp[i64,h5]
   have h4:ak b (n-1)<ak a (n-1):=by have:ak b (n-1)<=ak a (n-1):=(by simpa[aa]using z);omega
   have h5:=F0 hb h0.symm oz (by rw[Yg hn0];exact hd.symm) h4;refine ah ?_;simp[i64,h5,Nat.lt_asymm h5]
  have h3:ak a (n-1)=ak b (n-1):=by simpa[aa,ZD]using z
  refine ga (dP oz) ?_;exact aR J1 (n-1) ⟨by omega,by rw[Y5 (show n-1<a.length by omega),Y5 (show n-1<b.length by omega),Yg hn0,hd];congr 1;exact VO oz oz h3⟩
 have hn0:n=0:=by have:=z;simp[aa]at this;omega
 subst hn0;refine ah ?_;simp at hd;simp[i64,hd]
theorem Ew(a b:List Nat)(ha:Ws a)(hb:Ws b)(la:a.length<aK)(lb:b.length<aK):FP 392 [ws a,ws b] (ws (ofNat (val a+val b))):=by
 unfold aK at la lb;obtain⟨n,hn⟩:∃n,n=max a.length b.length+1:=⟨_,rfl⟩
 refine aj func392 ?_;refine gl ?_;refine gl ?_;refine gs (pX (.tmp rfl) (.tmp rfl) rfl) ?_;refine ga (show _=(n:Int) by rw[dq oz];omega) ?_;refine gs (iD (.tmp rfl) T104 rfl T354 rfl rfl oz (by dsimp only;omega) rfl) ?_;refine i9 [0,1,16] [] (fun(out:List Nat)(c i:Nat)=>[pP 5 (.ms 14 1 0 n),pP 6 (u64 c),pP 17 (i64 i)]) (fun out _ _=>[pP 14 (.row 1 (out.map u32))]) (fun out c i=>out.length=n/\i<=n/\Ws out/\c<=1/\val (out.take i)+c*4294967296^i=val (a.take i)+val (b.take i)) (fun _ _ i=>n-i) (Y6 n 0) 0 0 ⟨by simp,by omega,lD n,by omega,by simp[val]⟩ ?_ (h2:=(.cons rfl (BlkSub.of (by rw[abw];rfl)) .nil))
 rintro out c i ⟨ho,hi,hw,hc,hv⟩ K1 J1;refine gC (fun z=>?_) (fun z=>?_) (st2:=(10,0))
 ·have hin : i < n := by simpa [aa] using z
  have h1:=cf ha i;have h2:=cf hb i;refine gc (by apply qV <;> assumption) ?_;refine gc (by apply qV <;> assumption) ?_;refine ga (ju oz) ?_;refine ga (ju oz) ?_;refine gv (dN _) ?_;refine gs (cg (n:=i) (.tmp rfl) (.tmp rfl) T104 rfl T354 rfl oz (by first |omega |(simp;omega)) rfl) ?_;refine gs (dM (.tmp rfl) rfl (cz (i:=i) oz) rfl (.tmp rfl) rfl rfl T354 rfl rfl) ?_;refine gs (ff (.tmp rfl) (.const _) oz (ig _ 32 oz) rfl) ?_;refine ga (dq oz) ?_;exact ik J1 (out.set i ((c+(ak a i+ak b i))%4294967296)) ((c+(ak a i+ak b i))/4294967296) (i+1) ⟨by simp[ho],by omega,gw hw oz,by omega,by rw[lC oz,dB,dB,Yj];exact Bn hv⟩ (hw:=Wk.of bb (.cons rfl (BlkSub.of (by rw[ab0];rfl)) .nil))
 have hin:i=n:=by have:n<=i:=(by simpa[aa]using z);omega
 refine gW ((Wk.freeze (k:=14) rfl).trans<|Wk.of (sl:=[pP 5 (ws out)]) (hp:=[]) (.cons rfl (Sub.of (b7 (by simp[ho]))) .nil) .nil) ?_;refine gc (mM out hw (by unfold aK;omega)) ?_;refine ah ?_;rw[KI ha hb hn ho (hin▸hv)]
theorem Cr(a b:List Nat)(ha:Ws a)(hb:Ws b)(la:a.length<=aK)(lb:b.length<=a.length)(hle:val b<=val a):FP 394 [ws a,ws b] (ws (ofNat (val a-val b))):=by
 have la':=la;unfold aK at la;obtain⟨n,hn⟩:∃n,n=a.length:=⟨_,rfl⟩
 refine aj func394 ?_;refine gl ?_;refine gs (iD (.tmp rfl) T104 rfl T354 rfl rfl oz (by dsimp only;omega) rfl) ?_;refine i9 [0,1,13] [] (fun(out:List Nat)(c i:Nat)=>[pP 5 (.ms 11 1 0 a.length),pP 6 (u64 c),pP 14 (i64 i)]) (fun out _ _=>[pP 11 (.row 1 (out.map u32))]) (fun out c i=>out.length=a.length/\i<=a.length/\Ws out/\c<=1/\val (out.take i)+val (b.take i)=val (a.take i)+c*4294967296^i) (fun _ _ i=>a.length-i) (Y6 a.length 0) 0 0 ⟨by simp,by omega,lD _,by omega,by simp[val]⟩ ?_ (h2:=(.cons rfl (BlkSub.of (by rw[abw];rfl)) .nil))
 rintro out c i ⟨ho,hi,hw,hc,hv⟩ K1 J1;refine gC (fun z=>?_) (fun z=>?_) (st2:=(10,0))
 ·have hin : i < a.length := by simpa [aa] using z
  have h1:=cf ha i;have h2:=cf hb i;have h3:=EH h1 h2 hc hv;obtain⟨d,hd⟩:∃d,d=if ak b i+c<=ak a i then ak a i-ak b i-c else ak a i+18446744073709551616-ak b i-c:=⟨_,rfl⟩
  rw[<- hd]at h3;have hd1:d<18446744073709551616:=by rw[hd];split <;> omega
  refine gi (ib (n:=i) oz (by first |omega |(simp;omega))) ?_;refine gv (u64_in oz) ?_;refine gc (by apply qV <;> assumption) ?_;refine ga (kL oz oz) ?_;refine ga (show _=(d:Int) by rw[kL (by split <;> omega) oz,hd];congr 1;(repeat' split) <;> omega) ?_;refine gD ?_;refine gv (dN _) ?_;refine gs (cg (n:=i) (.tmp rfl) (.tmp rfl) T104 rfl T354 rfl oz (by first |omega |(simp;omega)) rfl) ?_;refine gs (dM (.tmp rfl) rfl (cz (i:=i) oz) rfl (.tmp rfl) rfl rfl T354 rfl rfl) ?_;refine gs (ff (.tmp rfl) (.const _) oz (ig _ 63 oz) rfl) ?_;refine ga (dq oz) ?_;exact ik J1 (out.set i (d%4294967296)) (d/2^63) (i+1) ⟨by simp[ho],by omega,gw hw oz,by omega,by rw[lC oz,dB,dB,Yj];exact h3⟩ (hw:=Wk.of bb (.cons rfl (BlkSub.of (by rw[ab0];rfl)) .nil))
 have hin:i=a.length:=by have:a.length<=i:=(by simpa[aa]using z);omega
 refine gW ((Wk.freeze (k:=11) rfl).trans<|Wk.of (sl:=[pP 5 (ws out)]) (hp:=[]) (.cons rfl (Sub.of (b7 (by simp[ho]))) .nil) .nil) ?_;refine gc (mM out hw (by rw[ho];exact la')) ?_;refine ah ?_;rw[U0 hw ho hle lb (hin▸hv)]
theorem Nn(a b:List Nat)(ha:Ws a)(hb:Ws b)(la:a.length+b.length<=aK):FP 395 [ws a,ws b] (ws (ofNat (val a*val b))):=by
 have la':=la;unfold aK at la;refine aj func395 ?_;refine gl ?_;refine gl ?_;refine ga (jQ (by unfold bc;omega) (by unfold bc;omega)) ?_;refine gs (iD (.tmp rfl) T104 rfl T354 rfl rfl oz (by dsimp only;omega) rfl) ?_;refine gl ?_;refine hO [0,1,17,18] [] (fun(out:List Nat)(i:Nat)=>[pP 5 (.ms 16 1 0 (a.length+b.length)),pP 19 (i64 i)]) (fun out _=>[pP 16 (.row 1 (out.map u32))]) (fun out i=>out.length=a.length+b.length/\i<=a.length/\Ws out/\val (out.take (i+b.length))=val (a.take i)*val b) (fun _ i=>a.length-i) (Y6 (a.length+b.length) 0) 0 ⟨by simp,by omega,lD _,by simp[val,vk]⟩ ?_ (h2:=(.cons rfl (BlkSub.of (by rw[abw];rfl)) .nil))
 rintro out i ⟨ho,hi,hw,hv⟩ K1 J1;refine gC (fun z=>?_) (fun z=>?_) (st2:=(15,0))
 ·have hin : i < a.length := by simpa [aa] using z
  have h1:=cf ha i;refine gi (ib (n:=i) oz (by first |omega |(simp;omega))) ?_;refine gl ?_;refine i9 [0,1,17,18,19,6,7,24,25] [] (fun(o:List Nat)(c k:Nat)=>[pP 5 (.ms 16 1 0 (a.length+b.length)),pP 8 (u64 c),pP 26 (i64 k)]) (fun o _ _=>[pP 16 (.row 1 (o.map u32))]) (fun o c k=>o.length=a.length+b.length/\k<=b.length/\Ws o/\c<4294967296/\val (o.take (i+b.length))+c*4294967296^(i+k)=val (out.take (i+b.length))+4294967296^i*(ak a i*val (b.take k))) (fun _ _ k=>b.length-k) out 0 0 ⟨ho,by omega,hw,by omega,by simp[val]⟩ ?_
  rintro o c k ⟨ho2,hk,hw2,hc,hv2⟩ K2 J2;refine gC (fun z=>?_) (fun z=>?_)
  ·have hkn : k < b.length := by simpa [aa] using z
   have h2:=cf hb k;have h3:=cf hw2 (i+k);have h4:=xJ h1 h2;have h5:=Dc (x:=(c+(ak a i*ak b k+ak o (i+k)))%4294967296) (show i+k<o.length by omega) (show i+k<i+b.length by omega);have h6:=IH h5 rfl hv2;refine gi (ib (n:=k) oz (by first |omega |(simp;omega))) ?_;refine gv (u64_in oz) ?_;refine gv (u64_in oz) ?_;refine ga (vI oz) ?_;refine ga (jQ (by unfold bc;omega) (by unfold bc;omega)) ?_;refine gs (cg (n:=i+k) (.tmp rfl) (.tmp rfl) T104 rfl T354 rfl oz (by first |omega |(simp;omega)) rfl) ?_;refine gs (eK (.tmp rfl) rfl (cz (i:=i+k) oz) T354 rfl rfl rfl) ?_;refine gv (u64_in oz) ?_;refine ga (ju oz) ?_;refine ga (ju oz) ?_;refine ga (jQ (by unfold bc;omega) (by unfold bc;omega)) ?_;refine gv (dN _) ?_;refine gs (cg (n:=i+k) (.tmp rfl) (.tmp rfl) T104 rfl T354 rfl oz (by first |omega |(simp;omega)) rfl) ?_;refine gs (dM (.tmp rfl) rfl (cz (i:=i+k) oz) rfl (.tmp rfl) rfl rfl T354 rfl rfl) ?_;refine gs (ff (.tmp rfl) (.const _) oz (ig _ 32 oz) rfl) ?_;refine ga (dq oz) ?_;exact ik J2 (o.set (i+k) ((c+(ak a i*ak b k+ak o (i+k)))%4294967296)) ((c+(ak a i*ak b k+ak o (i+k)))/4294967296) (k+1) ⟨by simp[ho2],by omega,gw hw2 oz,by omega,by rw[show i+(k+1)=(i+k)+1 from rfl,Yj,h6,dB];simp only[abq];grind⟩ (hw:=Wk.of bb (.cons rfl (BlkSub.of (by rw[ab0];rfl)) .nil))
  have hkn:k=b.length:=by have:b.length<=k:=(by simpa[aa]using z);omega
  subst hkn;have h5:=lC (x:=c) (show i+b.length<o.length by omega);rw[aa8]at hv2;refine gl ?_;refine ga (jQ (by unfold bc;omega) (by unfold bc;omega)) ?_;refine gv ((dN c).trans (by rw[Yz hc])) ?_;refine gs (cg (n:=i+b.length) (.tmp rfl) (.tmp rfl) T104 rfl T354 rfl oz (by first |omega |(simp;omega)) rfl) ?_;refine gs (dM (.tmp rfl) rfl (cz (i:=i+b.length) oz) rfl (.tmp rfl) rfl rfl T354 rfl rfl) ?_;refine ga (dq oz) ?_;exact gk J1 (o.set (i+b.length) c) (i+1) ⟨by simp[ho2],by omega,gw hw2 hc,by rw[show i+1+b.length=i+b.length+1 by omega,h5,dB];simp only[abq]at *;grind⟩ (hw:=Wk.of bb (.cons rfl (BlkSub.of (by rw[ab0];rfl)) .nil))
 have hin:i=a.length:=by have:a.length<=i:=(by simpa[aa]using z);omega
 subst hin;rw[aa8,fq oz]at hv;refine gW ((Wk.freeze (k:=16) rfl).trans<|Wk.of (sl:=[pP 5 (ws out)]) (hp:=[]) (.cons rfl (Sub.of (b7 (by simp[ho]))) .nil) .nil) ?_;refine gc (mM out hw oz) ?_;refine ah ?_;rw[hv]
theorem Lb(a:List Nat)(w:Nat)(ha:Ws a)(la:a.length<=aK)(hw0:0<w)(hwB:w<4294967296):FP 442 [ws a,u32 w] (.tup [ws (ofNat (val a/w)),u32 (val a%w)]):=by
 have la':=la;unfold aK at la;refine aj func442 ?_;refine gl ?_;refine gs (iD (.tmp rfl) T104 rfl T354 rfl rfl oz (by dsimp only;omega) rfl) ?_;refine gl ?_;refine ga (dP oz) ?_;refine i9 [0,1] [] (fun(out:List Nat)(r i:Nat)=>[pP 6 (.ms 11 1 0 a.length),pP 7 (u64 r),pP 8 (i64 ((i:Int)-1))]) (fun out _ _=>[pP 11 (.row 1 (out.map u32))]) (fun out r i=>out.length=a.length/\i<=a.length/\Ws out/\r<w/\val (a.drop i)=w*val (out.drop i)+r) (fun _ _ i=>i) (Y6 a.length 0) 0 a.length ⟨by simp,by omega,lD _,by omega,by simp[val]⟩ ?_ (h2:=(.cons rfl (BlkSub.of (by rw[abw];rfl)) .nil))
 rintro out r i ⟨ho,hi,hw,hr,hv⟩ K1 J1;refine gC (fun z=>?_) (fun z=>?_) (st2:=(9,0))
 ·have hn0 : 1 <= i := by have := z; simp [aa] at this; omega
  obtain⟨k,rfl⟩:∃k,i=k+1:=⟨i-1,by omega⟩
  have h1:=cf ha k;have h2:=Mi hr h1;refine gs (ia (.tmp rfl) (.const _) oz (qK (n:=32) oz oz) rfl) ?_;refine gi (ib (n:=k) oz (by first |omega |(simp;omega))) ?_;refine gv (u64_in oz) ?_;refine gs (jL (.tmp rfl) (.tmp rfl) rfl ((ui oz oz).trans (by rw[uH oz])) rfl) ?_;refine gv (u64_in oz) ?_;refine gs (fv (.tmp rfl) (.tmp rfl) oz (Ks oz) rfl) ?_;refine gv ((dN _).trans (by rw[Yz h2])) ?_;refine gs (cg (n:=k) (.tmp rfl) (.tmp rfl) T104 rfl T354 rfl oz (by first |omega |(simp;omega)) rfl) ?_;refine gs (dM (.tmp rfl) rfl (cz (i:=k) oz) rfl (.tmp rfl) rfl rfl T354 rfl rfl) ?_;refine gv (u64_in oz) ?_;refine gs (vJ (.tmp rfl) (.tmp rfl) oz El rfl) ?_;refine ga (dP oz) ?_;exact ik J1 (out.set k ((r*2^32+ak a k)/w)) ((r*2^32+ak a k)%w) k ⟨by simp[ho],by omega,gw hw h2,Ye _ hw0,S0 oz oz hv⟩ (hw:=Wk.of bb (.cons rfl (BlkSub.of (by rw[ab0];rfl)) .nil))
 have hin:i=0:=by have:=z;simp[aa]at this;omega
 subst hin;obtain⟨h3,h4⟩:=xy hv hr;simp only[ab1]at h3 h4;refine gW ((Wk.freeze (k:=11) rfl).trans<|Wk.of (sl:=[pP 6 (ws out),pP 7 (u64 r)]) (hp:=[]) (.cons rfl (Sub.of (b7 (by simp[ho]))) (.k .nil)) .nil) ?_;refine gc (mM out hw oz) ?_;refine gv ((dN _).trans (by rw[Yz oz])) ?_;refine bt ?_;rw[h3,h4];rfl
theorem Gq(d:Nat)(hd:X9 d 1000=true)(a:List Nat)(n:Nat)(ha:Ws a)(la:a.length<aK)(hn:n<32):Con prog 444 [ws a,i64 n] [] (.ms d 1 0 (a.length+1)) [(d,some (.row 1 ((bp (a.length+1) (2^n*val a)).map u32)))]:=by
 have la':=la;unfold aK at la;refine gF func444 (fun k z h=>by cases h) ?_;refine gl ?_;refine ga (jQ (y:=1) (by unfold bc;omega) (by unfold bc;omega)) ?_;refine gs (iD (.tmp rfl) T104 rfl T354 rfl rfl oz (by dsimp only;omega) rfl) ?_;refine gl ?_;refine hO [0,1,13,14] [] (fun(out:List Nat)(i:Nat)=>[pP 5 (.ms 12 1 0 (a.length+1)),pP 15 (i64 i)]) (fun out _=>[pP 12 (.row 1 (out.map u32))]) (fun out i=>out.length=a.length+1/\i<=a.length/\Ws out/\ak out i<2^n/\val (out.take (i+1))=2^n*val (a.take i)) (fun _ i=>a.length-i) (Y6 (a.length+1) 0) 0 ⟨by simp,by omega,lD _,by simp[ak,YP],by simp[val,List.replicate_succ]⟩ ?_ (h2:=(.cons rfl (BlkSub.of (by rw[abw];rfl)) .nil))
 rintro out i ⟨ho,hi,hw,hr,hv⟩ K1 J1;refine gC (fun u=>?_) (fun u=>?_)
 ·have hin : i < a.length := by simpa [aa] using u
  have h1:=cf ha i;have h2:=OR (a:=a) (i:=i) (n:=n) (show i+1<out.length by omega) hv;have h3:=Uo (x:=ak a i) hn hr;have h4:=Xk (n:=n) h1;have h5:2^n<=2^31:=pi oz;have h6:ak a i*2^n<=ak a i*2^31:=aaz _ h5;have h7:=cf hw i;refine gi (ib (n:=i) oz (by first |omega |(simp;omega))) ?_;refine gv (u64_in oz) ?_;refine gs (ia (.tmp rfl) (.tmp rfl) oz (qK oz oz) rfl) ?_;refine gs (cg (n:=i) (.tmp rfl) (.tmp rfl) T104 rfl T354 rfl oz (by first |omega |(simp;omega)) rfl) ?_;refine gs (eK (.tmp rfl) rfl (cz (i:=i) oz) T354 rfl rfl rfl) ?_;refine gv (dN _) ?_;refine gs (jL (.tmp rfl) (.tmp rfl) rfl ((BR oz oz).trans (by rw[TZ hn hr])) rfl) ?_;refine gs (cg (n:=i) (.tmp rfl) (.tmp rfl) T104 rfl T354 rfl oz (by first |omega |(simp;omega)) rfl) ?_;refine gs (dM (.tmp rfl) rfl (cz (i:=i) oz) rfl (.tmp rfl) rfl rfl T354 rfl rfl) ?_;refine ga (jQ (y:=1) (by unfold bc;omega) (by unfold bc;omega)) ?_;refine gs (ff (.tmp rfl) (.const _) oz (ig _ 32 oz) rfl) ?_;refine gv ((dN _).trans (by rw[Yz (show ak a i*2^n/2^32<4294967296 by omega)])) ?_;refine gs (cg (n:=i+1) (.tmp rfl) (.tmp rfl) T104 rfl T354 rfl oz (by first |omega |(simp;omega)) rfl) ?_;refine gs (dM (.tmp rfl) rfl (by rw[List.getElem?_set_ne oz];exact cz (i:=i+1) oz) rfl (.tmp rfl) rfl rfl T354 rfl rfl) ?_;refine ga (dq oz) ?_;exact gk J1 ((out.set i (ak out i+ak a i*2^n%4294967296)).set (i+1) (ak a i*2^n/4294967296)) (i+1) ⟨by simp[ho],by omega,gw (gw hw oz) oz,by rw[OD (by simp;omega)];exact h4,h2⟩ (hw:=Wk.of bb (.cons rfl (BlkSub.of (by rw[ab0,ab0];rfl)) .nil))
 have hin:i=a.length:=by have:a.length<=i:=(by simpa[aa]using u);omega
 subst hin;rw[aa8,fq oz]at hv;refine gR ?_;exact aC.own1 rfl hd (by rw[wP hw ho hv])
theorem Us(a:List Nat)(n:Nat)(ha:Ws a)(la:a.length<=aK)(hn:n<32):FP 447 [ws a,i64 n] (ws (ofNat (val a/2^n))):=by
 have la':=la;unfold aK at la;refine aj func447 ?_;refine gl ?_;refine gs (iD (.tmp rfl) T104 rfl T354 rfl rfl oz (by dsimp only;omega) rfl) ?_;refine gl ?_;refine hO [0,1,11] [] (fun(out:List Nat)(i:Nat)=>[pP 5 (.ms 9 1 0 a.length),pP 12 (i64 i)]) (fun out _=>[pP 9 (.row 1 (out.map u32))]) (fun out i=>out.length=a.length/\i<=a.length/\Ws out/\val (out.take i)=val a/2^n%4294967296^i) (fun _ i=>a.length-i) (Y6 a.length 0) 0 ⟨by simp,by omega,lD _,by simp[val,Nat.mod_one]⟩ ?_ (h2:=(.cons rfl (BlkSub.of (by rw[abw];rfl)) .nil))
 rintro out i ⟨ho,hi,hw,hv⟩ K1 J1;refine gC (fun z=>?_) (fun z=>?_) (st2:=(7,0))
 ·have hin : i < a.length := by simpa [aa] using z
  have h1:=cf ha i;have h2:=cf ha (i+1);have h3:=KC ha hin (show i<out.length by omega) (show n<=32 by omega) hv;refine gi (ib (n:=i) oz (by first |omega |(simp;omega))) ?_;refine gv (u64_in oz) ?_;refine ga (jQ (y:=1) (by unfold bc;omega) (by unfold bc;omega)) ?_;refine gc (qV a (i+1) ha) ?_;refine gs (ia (.tmp rfl) (.const _) oz (qK (n:=32) oz oz) rfl) ?_;refine gs (jL (.tmp rfl) (.tmp rfl) rfl ((ui oz oz).trans (by rw[zg oz])) rfl) ?_;refine gs (ff (.tmp rfl) (.tmp rfl) oz (ig _ _ oz) rfl) ?_;refine gv (dN _) ?_;refine gs (cg (n:=i) (.tmp rfl) (.tmp rfl) T104 rfl T354 rfl oz (by first |omega |(simp;omega)) rfl) ?_;refine gs (dM (.tmp rfl) rfl (cz (i:=i) oz) rfl (.tmp rfl) rfl rfl T354 rfl rfl) ?_;refine gD ?_;refine ga (dq oz) ?_;exact gk J1 (out.set i ((ak a i+ak a (i+1)*2^32)/2^n%4294967296)) (i+1) ⟨by simp[ho],by omega,gw hw oz,h3⟩ (hw:=Wk.of bb (.cons rfl (BlkSub.of (by rw[ab0];rfl)) .nil))
 have hin:i=a.length:=by have:a.length<=i:=(by simpa[aa]using z);omega
 refine gW ((Wk.freeze (k:=9) rfl).trans<|Wk.of (sl:=[pP 5 (ws out)]) (hp:=[]) (.cons rfl (Sub.of (b7 (by simp[ho]))) .nil) .nil) ?_;refine gc (mM out hw oz) ?_;refine ah ?_;rw[Xe ha ho (hin▸hv)]
theorem VV{b:Nat}{p:Prop}[Decidable p](h:b=1↔p):dU [AV.v (Value.bool (aa BinOp.eql (b:Int) 1))]=bl (decide p):=by
 have:((b:Int)==1)=decide (b=1):=by rw[Z3];simp;omega
 simp only[dU,aa,this,bl];rw[decide_eq_decide.2 h]
theorem Oh(u v:List Nat)(off len n:Nat)(hu:Ws u)(hv:Ws v)(hvl:v.length+1<=len)(hj:off+len<=u.length)(hn:n<4294967296)(lu:u.length<=bc) :
  Con prog 445 [.ms 1000 1 off len,ws v,u64 n] [pP 1000 (.row 1 (u.map u32))] (bl (decide (val (bK u off len)<n*val v)))
   [pP 1000 (.row 1 ((wr u off (bp len (ka n (val v) (val (bK u off len)) len))).map u32))]:=by
 unfold bc at lu;refine gF func445 (fun k z h=>bO h) ?_;refine E1 [1,2,12] [] (fun(o:List Nat)(c b lo i:Nat)=>[pP 0 (.ms 1000 1 off len),pP 7 (u64 c),pP 8 (u64 b),pP 13 (i64 i)]) (fun o _ _ _ _=>[pP 1000 (.row 1 (o.map u32))]) (fun o c b lo i=>o.length=u.length/\i<=len/\Ws o/\c<4294967296/\b<=1/\o.take off=u.take off/\o.drop (off+i)=u.drop (off+i)/\lo+c*4294967296^i=n*val (v.take i)/\val (bK o off i)+lo=val (bK u off i)+b*4294967296^i) (fun _ _ _ _ i=>len-i) u 0 0 0 0 ⟨rfl,by omega,hu,by omega,by omega,rfl,rfl,by simp[val],by simp[]⟩ ?_
 rintro o c b lo i ⟨ho,hi,hw,hc,hb,hd1,hd2,hv1,hv2⟩ K1 J1;refine gC (fun y=>?_) (fun y=>?_)
 ·have hin : i < len := by simpa [aa] using y
  have h1:=cf hu (off+i);have h2:=cf hv i;have h0:=qF hd2;have h4:=xJ hn h2;obtain⟨c1,hc1⟩:∃c1,c1=c+n*ak v i:=⟨_,rfl⟩
  have h3:=EH h1 (show c1%4294967296<4294967296 by omega) hb hv2;obtain⟨d,hd⟩:∃d,d=if c1%4294967296+b<=ak u (off+i)then ak u (off+i)-c1%4294967296-b else ak u (off+i)+18446744073709551616-c1%4294967296-b:=⟨_,rfl⟩
  rw[<- hd]at h3;have hd3:d<18446744073709551616:=by rw[hd];split <;> omega
  have h5:=P4 (w:=ak v i) hv1;refine gc (by apply qV <;> assumption) ?_;refine ga (vI oz) ?_;refine ga ((ju oz).trans (by rw[<- hc1])) ?_;refine gs (n6 (n:=i) (.tmp rfl) (.tmp rfl) T104 rfl T354 rfl oz (by first |omega |(simp;omega)) rfl) ?_;refine gs (eK (.tmp rfl) rfl (by rw[cz (show off+i<o.length by omega),h0]) T354 rfl rfl rfl) ?_;refine gv (u64_in oz) ?_;refine gv (dN _) ?_;refine gv (u64_in oz) ?_;refine ga (kL oz oz) ?_;refine ga (show _=(d:Int) by rw[kL (by split <;> omega) oz,hd];congr 1;(repeat' split) <;> omega) ?_;refine gv (dN _) ?_;refine gs (n6 (n:=i) (.tmp rfl) (.tmp rfl) T104 rfl T354 rfl oz (by first |omega |(simp;omega)) rfl) ?_;refine gs (dM (.tmp rfl) rfl (cz (i:=off+i) oz) rfl (.tmp rfl) rfl rfl T354 rfl rfl) ?_;refine gs (ff (.tmp rfl) (.const _) oz (ig _ 63 oz) rfl) ?_;refine gs (ff (.tmp rfl) (.const _) oz (ig _ 32 oz) rfl) ?_;refine ga (dq oz) ?_;exact KB J1 (o.set (off+i) (d%4294967296)) (c1/4294967296) (d/2^63) (lo+4294967296^i*(c1%4294967296)) (i+1) ⟨by simp[ho],by omega,gw hw oz,by omega,by omega,by rw[List.take_set_of_le oz];exact hd1,tN hd2,by rw[dB,Yj,hc1];exact h5,by rw[GN oz,Hb,Yj];exact h3⟩ (hw:=Wk.of bb (.cons rfl (BlkSub.of (by rw[ab0];rfl)) .nil))
 have hin:i=len:=by have:len<=i:=(by simpa[aa]using y);omega
 subst hin;obtain⟨h6,h7⟩:=Nc hu hw ho hj hv hvl hn hd1 hd2 hb hv1 hv2;refine gR ?_;exact aC.own2 rfl (by rw[<- h6]) (VV h7)
theorem Nr(u v:List Nat)(off len:Nat)(hu:Ws u)(hv:Ws v)(hvl:v.length<=len)(hj:off+len<=u.length)(lu:u.length<=bc) :
  Con prog 446 [.ms 1000 1 off len,ws v] [pP 1000 (.row 1 (u.map u32))] (.tup [])
   [pP 1000 (.row 1 ((wr u off (bp len ((val (bK u off len)+val v)%4294967296^len))).map u32))]:=by
 unfold bc at lu;refine gF func446 (fun k z h=>bO h) ?_;refine i9 [1,7] [] (fun(o:List Nat)(c i:Nat)=>[pP 0 (.ms 1000 1 off len),pP 4 (u64 c),pP 8 (i64 i)]) (fun o _ _=>[pP 1000 (.row 1 (o.map u32))]) (fun o c i=>o.length=u.length/\i<=len/\Ws o/\c<=1/\o.take off=u.take off/\o.drop (off+i)=u.drop (off+i)/\val (bK o off i)+c*4294967296^i=val (bK u off i)+val (v.take i)) (fun _ _ i=>len-i) u 0 0 ⟨rfl,by omega,hu,by omega,rfl,rfl,by simp[val]⟩ ?_
 rintro o c i ⟨ho,hi,hw,hc,hd1,hd2,hv2⟩ K1 J1;refine gC (fun y=>?_) (fun y=>?_)
 ·have hin : i < len := by simpa [aa] using y
  have h1:=cf hu (off+i);have h2:=cf hv i;have h0:=qF hd2;have h3:=Bn (u:=ak u (off+i)) (w:=ak v i) hv2;refine gs (n6 (n:=i) (.tmp rfl) (.tmp rfl) T104 rfl T354 rfl oz (by first |omega |(simp;omega)) rfl) ?_;refine gs (eK (.tmp rfl) rfl (by rw[cz (show off+i<o.length by omega),h0]) T354 rfl rfl rfl) ?_;refine gv (u64_in oz) ?_;refine gc (by apply qV <;> assumption) ?_;refine ga (ju oz) ?_;refine ga (ju oz) ?_;refine gD ?_;refine gv (dN _) ?_;refine gs (n6 (n:=i) (.tmp rfl) (.tmp rfl) T104 rfl T354 rfl oz (by first |omega |(simp;omega)) rfl) ?_;refine gs (dM (.tmp rfl) rfl (cz (i:=off+i) oz) rfl (.tmp rfl) rfl rfl T354 rfl rfl) ?_;refine gs (ff (.tmp rfl) (.const _) oz (ig _ 32 oz) rfl) ?_;refine ga (dq oz) ?_;exact ik J1 (o.set (off+i) ((c+(ak u (off+i)+ak v i))%4294967296)) ((c+(ak u (off+i)+ak v i))/4294967296) (i+1) ⟨by simp[ho],by omega,gw hw oz,by omega,by rw[List.take_set_of_le oz];exact hd1,tN hd2,by rw[GN oz,Hb,dB,Yj];exact h3⟩ (hw:=Wk.of bb (.cons rfl (BlkSub.of (by rw[ab0];rfl)) .nil))
 have hin:i=len:=by have:len<=i:=(by simpa[aa]using y);omega
 subst hin;have h6:=N7 hw ho hj hvl hd1 hd2 hv2;refine gR ?_;exact aC.own2 rfl (by rw[<- h6]) rfl
theorem Ry(x:Nat)(hx:x<4294967296):FP 411 [u32 x] (i64 (bg x)):=by
 refine aj func411 ?_;refine gC (fun u=>?_) (fun u=>?_)
 ·obtain ⟨y, hy, h2, h3⟩ : ∃ y, y = x / 2 ^ 16 /\ y < 65536 /\ bg x = 16 + bg y := ⟨_, rfl, by omega, sk (by have := u; simp [aa] at this; omega)⟩
  refine gs (ff (.tmp rfl) (.const _) oz ((qj x 16 oz).trans (by rw[<- hy])) rfl) ?_;refine gC (fun t8=>?_) (fun t8=>?_)
  ·have h5 : 2 ^ 8 <= y := by simp [aa] at t8; omega
   obtain⟨z,hz,h6,h7⟩:∃z,z=y/2^8/\z<256/\bg x=(bg x-bg y)+8+bg z:=⟨_,rfl,by omega,by have:=sk h5;omega⟩
   refine gs (ff (.tmp rfl) (.const _) oz ((qj _ 8 oz).trans (show _=(z:Int) by first |(rw[hz];done) |(rw[hz,hy];done))) rfl) ?_;refine ga (dq oz) ?_;refine gv (show IntKind.u8.wrap _=(z:Int) by first |exact jG h6 |(rw[hz];exact jG oz) |(rw[hz,hy];exact jG oz)) ?_;refine gs (uX (y:=z) (.const _) (.tmp rfl) T9 rfl (by kernel_rfl) (by first |rfl |omega) oz rfl) ?_;refine gv (i64_in (by have:=iR h6;omega)) ?_;refine ga (dq (by have:=iR h6;omega)) ?_;refine ah ?_;simp only[i64];congr 2;have:=iR h6;omega
  have h5:y<2^8:=by simp[aa]at t8;omega
  obtain⟨z,hz,h6,h7⟩:∃z,z=y/\z<256/\bg x=(bg x-bg y)+bg z:=⟨_,rfl,by omega,by omega⟩
  refine gv (show IntKind.u8.wrap _=(z:Int) by first |exact jG h6 |(rw[hz];exact jG oz) |(rw[hz,hy];exact jG oz)) ?_;refine gs (uX (y:=z) (.const _) (.tmp rfl) T9 rfl (by kernel_rfl) (by first |rfl |omega) oz rfl) ?_;refine gv (i64_in (by have:=iR h6;omega)) ?_;refine ga (dq (by have:=iR h6;omega)) ?_;refine ah ?_;simp only[i64];congr 2;have:=iR h6;omega
 obtain⟨y,hy,h2,h3⟩:∃y,y=x/\y<65536/\bg x=0+bg y:=⟨_,rfl,by have:=u;simp[aa]at this;omega,by omega⟩
 refine gC (fun t8=>?_) (fun t8=>?_)
 ·have h5 : 2 ^ 8 <= y := by simp [aa] at t8; omega
  obtain⟨z,hz,h6,h7⟩:∃z,z=y/2^8/\z<256/\bg x=(bg x-bg y)+8+bg z:=⟨_,rfl,by omega,by have:=sk h5;omega⟩
  refine gs (ff (.tmp rfl) (.const _) oz ((qj _ 8 oz).trans (show _=(z:Int) by first |(rw[hz];done) |(rw[hz,hy];done))) rfl) ?_;refine ga (dq oz) ?_;refine gv (show IntKind.u8.wrap _=(z:Int) by first |exact jG h6 |(rw[hz];exact jG oz) |(rw[hz,hy];exact jG oz)) ?_;refine gs (uX (y:=z) (.const _) (.tmp rfl) T9 rfl (by kernel_rfl) (by first |rfl |omega) oz rfl) ?_;refine gv (i64_in (by have:=iR h6;omega)) ?_;refine ga (dq (by have:=iR h6;omega)) ?_;refine ah ?_;simp only[i64];congr 2;have:=iR h6;omega
 have h5:y<2^8:=by simp[aa]at t8;omega
 obtain⟨z,hz,h6,h7⟩:∃z,z=y/\z<256/\bg x=(bg x-bg y)+bg z:=⟨_,rfl,by omega,by omega⟩
 refine gv (show IntKind.u8.wrap _=(z:Int) by first |exact jG h6 |(rw[hz];exact jG oz) |(rw[hz,hy];exact jG oz)) ?_;refine gs (uX (y:=z) (.const _) (.tmp rfl) T9 rfl (by kernel_rfl) (by first |rfl |omega) oz rfl) ?_;refine gv (i64_in (by have:=iR h6;omega)) ?_;refine ga (dq (by have:=iR h6;omega)) ?_;refine ah ?_;simp only[i64];congr 2;have:=iR h6;omega
theorem L2(x:Nat)(hx:x<4294967296):FP 443 [u32 x] (i64 (32-bg x:Nat)):=by
 have h1:bg x<=32:=by
  by_cases h:x=0
  ·subst h;decide
  ·exact(zP h hx).1
 refine aj func443 ?_;refine gc (Ry x hx) ?_;refine ga (i64_in (by simp only[f0];omega)) ?_;refine ah ?_;simp only[i64,f0];congr 2;omega
end Go.Lw
