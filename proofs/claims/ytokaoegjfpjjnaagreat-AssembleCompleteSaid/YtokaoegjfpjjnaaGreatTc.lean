/- AssembleComplete: for anything drawn the law returns true and leaves its arguments as they were. No other condition. Part 3 of 8: what the later parts need -/
import Derived.Test.YtokaoegjfpjjnaaGreatTb
import Derived.Laws.Strings
set_option linter.unusedVariables false
open List (nil_append drop_drop map_take all_append map_map)
open List renaming mem_of_getElem? → ank, mem_cons_of_mem → aom, mem_append → anz, mem_cons → an9, length_cons → an0, mem_cons_self → aok, length_append → aoe, length_nil → aoa, getD_eq_getElem?_getD → anm, getElem?_append_left → an8, getElem?_eq_none → an2, all_eq_true → anx, getElem?_take → aof, getElem?_drop → aop, getElem?_map → anr, append_assoc → aor, getElem?_append_right → an7, getElem?_eq_getElem → ano, drop_eq_nil_of_le → aoi, getElem?_replicate → aoh, map_append → aoc, length_take → an6, take_of_length_le → an1, drop_zero → aov, take_length → an3, not_mem_nil → aob, length_map → anl, mem_of_mem_take → aot, length_replicate → aon, map_replicate → aoq, map_set → aou, length_eq_zero_iff → ak0, map_congr_left → ak1, mem_replicate → ak4, cons_append → ak5, take_succ_eq_append_getElem → ak6, drop_length → ak7, take_append_of_le_length → ak9, eq_nil_of_length_eq_zero → alb, any_eq_true → ald, length_pos_iff → ale, take_append_drop → alg, mem_range → alh, getElem_mem → ali, getElem?_eq_some_iff → alj, length_eq_one_iff → alm, take_take → aln, drop_eq_getElem_cons → alq, mem_singleton → alr, replicate → als, mem_of_mem_drop → alw, mem_iff_getElem → alx, getLast?_eq_getElem? → aly, mem_map → al0, drop_append_of_le_length → al1
open Nat (le_of_lt)
open Nat renaming eq_of_beq_eq_true → anw, le_refl → anp, lt_of_lt_of_le → an5, lt_or_ge → anu, le_trans → an4, mul_le_mul_right → aod, mul_le_mul_left → ant, zero_le → ans, pow_add → aoo, lt_of_le_of_lt → aog, pow_succ → ajq, one_le_two_pow → ajr, mul_comm → ajt, mul_pos → aju, add_sub_cancel → ajv, beq → ajx, sub_add_cancel → ajy, div_lt_iff_lt_mul → ajz, le_add_right → aj0, min_eq_left → aj1, gcd → aj2, mod_eq_of_lt → aj4, max_eq_right → aj5, max_eq_left → aj8, succ_mul → aj9, mul_lt_mul_left → aka, pow_mul → akb, mul_add → akc, div_le_self → akd, lt_of_mul_lt_mul_left → akf, pow_lt_pow_right → akh, pow_pos → aki, add_mul → akk, pow_le_pow_right → akl, le_div_iff_mul_le → akm, add_zero → akn, div_add_mod → akq, mul_lt_mul'' → akr, blt → aks, mul_assoc → akt, two_pow_pos → aku, zero_add → akv, mul_le_mul → akw, eq_zero_or_pos → akx, mod_lt → akz
open Option renaming map_eq_some_iff → ann, map_some → anh, getD_some → ani
open Bool renaming and_eq_true → anq, or_eq_true → aos, decide_and → amp, false_and → amq, false_eq_true → ams, true_and → amt, eq_iff_iff → amu, eq_false_iff → amx, decide_or → amy
open Array renaming getD_eq_getD_getElem? → anv, getElem?_eq_none → am2, length_toList → am8, getElem?_toList → ana
open Int renaming toNat_natCast → aol, natAbs_natCast → aoj, natCast_ediv → al2, natAbs_mul → al3, ofNat_inj → al5, sign_eq_one_iff_pos → al7, mul_ne_zero → al9, lt_trichotomy → ama, gcd → amb, mul_nonneg → amc, sign_trichotomy → amd, sign_eq_neg_one_iff_neg → ame
open Rat renaming num_eq_zero → amf, divInt_eq_div → amg, intCast_mul → ami, divInt → amj, intCast_eq_zero_iff → amk, sub_eq_add_neg → aml, num_divInt_den → amm, div_mul_cancel → amn
open Decidable renaming not_not → anj
open Go renaming Operand → ao8, TypeId → apa, Program → apb, World → apc
open Go.Proofs.Tryz
namespace Go.Lw
theorem aD.own2{s:AS}{k:Nat}{y z:Blk}{x r:AV}(h:lk s.hp k=some y)(hz:y=z)(hx:x=r):aD s x r [(k,some z)]:=by
 subst hz;subst hx
 refine aD.keep ?_;intro k' z' h';rw[a5]at h';split at h'
 ·rename_i e;cases h';rw[e];exact h
 ·cases h'
def bP(u:List Nat)(j n:Nat):List Nat:=(u.drop j).take n
def wr(u:List Nat)(j:Nat)(l:List Nat):List Nat:=u.take j++l++u.drop (j+l.length)
theorem EH{u o:List Nat}{j n:Nat}(h1:o.take j=u.take j)(h2:o.drop (j+n)=u.drop (j+n))(hn:j+n<=o.length):o=wr u j (bP o j n):=by
 have hl:(bP o j n).length=n:=by simp[bP];omega
 unfold wr;rw[hl,<- h1,<- h2]
 conv=>lhs;rw[<- alg j o]
 rw[aor];congr 1;unfold bP
 conv=>lhs;rw[<- alg n (o.drop j)]
 rw[drop_drop]
theorem qG{u l:List Nat}{j:Nat}(h:j+l.length<=u.length):(wr u j l).length=u.length:=by simp[wr];omega
theorem CS{a b:List Nat}(ha:Ws a)(hb:Ws b):Ws (a++b):=fun x hx=>(anz.1 hx).elim (ha x) (hb x)
theorem IU{l:List Nat}(h:Ws l)(n:Nat):Ws (l.drop n):=fun x hx=>h x (alw hx)
theorem rY{l:List Nat}(h:Ws l)(i n:Nat):Ws (bP l i n):=jz (IU h i) n
theorem vq{u l:List Nat}{j:Nat}(hu:Ws u)(hl:Ws l):Ws (wr u j l):=CS (CS (jz hu _) hl) (IU hu _)
theorem tB{u:List Nat}{j n:Nat}(h:j+n<=u.length):(bP u j n).length=n:=by simp[bP];omega
theorem To{u l:List Nat}{j:Nat}(h:j+l.length<=u.length):val ((wr u j l).drop j)=val l+4294967296^l.length*val (u.drop (j+l.length)):=by
 unfold wr;rw[aor,al1 (by simp;omega),aoi (by simp;omega),nil_append,vN]
theorem MK{u:List Nat}{j n:Nat}(h:j+n<=u.length):val (u.drop j)=val (bP u j n)+4294967296^n*val (u.drop (j+n)):=by
 rw[zT (u.drop j) n,drop_drop,aj1 (by simp;omega)];rfl
theorem G1{u:List Nat}{j:Nat}(h:j<=u.length):val u=val (u.take j)+4294967296^j*val (u.drop j):=by
 rw[zT u j,aj1 h]
theorem Nx{u l:List Nat}{j:Nat}(h:j<=u.length):(wr u j l).take j=u.take j:=by
 unfold wr;rw[aor,ak9 (by simp;omega),an1 (by simp;omega)]
theorem W7{u l:List Nat}{j:Nat}(h:j<=u.length):(wr u j l).drop (j+l.length)=u.drop (j+l.length):=by
 unfold wr;rw[List.drop_append,aoi (by simp;omega)];simp[aj1 h]
theorem CU{l:List Nat}{j i:Nat}:an (l.drop j) i=an l (j+i):=by simp[an]
theorem wk{u o:List Nat}{k:Nat}(h:o.drop k=u.drop k):an o k=an u k:=by
 have h1:=CU (l:=o) (j:=k) (i:=0);have h2:=CU (l:=u) (j:=k) (i:=0);rw[h]at h1;simpa using h1.symm.trans h2
theorem zM{u o:List Nat}{k x:Nat}(h:o.drop k=u.drop k):(o.set k x).drop (k+1)=u.drop (k+1):=by
 rw[List.drop_set_of_lt oz];have h1:(o.drop k).drop 1=(u.drop k).drop 1:=by rw[h]
 rwa [drop_drop,drop_drop]at h1
theorem Nk{o:List Nat}{j i x:Nat}(h:j+i<o.length):val (bP (o.set (j+i) x) j (i+1))=val (bP o j i)+4294967296^i*x:=by
 unfold bP;rw[List.drop_set,aoy oz,Nat.add_sub_cancel_left,pZ (by simp;omega)]
theorem PF{u:List Nat}{j i:Nat}:val (bP u j (i+1))=val (bP u j i)+4294967296^i*an u (j+i):=by
 unfold bP;rw[eD,CU]
theorem Zn{lo c P n V w:Nat}(h:lo+c*P=n*V):(lo+P*((c+n*w)%4294967296))+((c+n*w)/4294967296)*(P*4294967296)=n*(V+P*w):=by
 have:=akq (c+n*w) 4294967296;generalize(c+n*w)%4294967296=r at *;generalize(c+n*w)/4294967296=q at *;grind
def nJ(n V W len:Nat):Nat:=if n*V<=W then W-n*V else W+4294967296^len-n*V
theorem RY{u o v:List Nat}{off len n c b lo:Nat}(hu:Ws u)(ho:Ws o)(hl:o.length=u.length)(hj:off+len<=u.length)(hv:Ws v)(pa:v.length+1<=len)(hn:n<4294967296)
  (h1:o.take off=u.take off) (h2:o.drop (off+len)=u.drop (off+len)) (hb:b<=1) (h3:lo+c*4294967296^len=n*val (v.take len))
  (h4:val (bP o off len)+lo=val (bP u off len)+b*4294967296^len) :
  o=wr u off (bF len (nJ n (val v) (val (bP u off len)) len))/\(b=1↔val (bP u off len)<n*val v):=by
 rw[gX oz]at h3
 have hV:n*val v<4294967296^len:=by
  have h5:=cR v hv;have h6:4294967296^(v.length+1)<=4294967296^len:=akl oz pa;rw[ajq,ajt]at h6;exact an5 (akr hn h5) h6
 have hc:c=0:=by
  cases c with
  |zero=>rfl
  |succ c=>rw[aj9]at h3;omega
 subst hc;rw[Nat.zero_mul,akn]at h3;subst h3;have ho':=cR (bP o off len) (rY ho _ _);have hu':=cR (bP u off len) (rY hu _ _);rw[tB oz]at ho' hu';have hb':b=0\/b=1:=by omega
 refine⟨?_,?_⟩
 ·have h7:bP o off len=bF len (nJ n (val v) (val (bP u off len)) len):=by
   refine Bb (rY ho _ _) (tB oz) ?_;unfold nJ;rcases hb' with rfl |rfl
   ·rw[aoz oz];omega
   ·rw[aoy oz];omega
  rw[<- h7];exact EH h1 h2 oz
 ·rcases hb' with rfl |rfl <;> omega
theorem Wt{u o v:List Nat}{off len c:Nat}(ho:Ws o)(hl:o.length=u.length)(hj:off+len<=u.length)(pa:v.length<=len)
  (h1:o.take off=u.take off) (h2:o.drop (off+len)=u.drop (off+len)) 
  (h4:val (bP o off len)+c*4294967296^len=val (bP u off len)+val (v.take len)) :
  o=wr u off (bF len ((val (bP u off len)+val v)%4294967296^len)):=by
 rw[gX oz]at h4;have ho':=cR (bP o off len) (rY ho _ _);rw[tB oz]at ho'
 have h7:bP o off len=bF len ((val (bP u off len)+val v)%4294967296^len):=by
  refine Bb (rY ho _ _) (tB oz) ?_;rw[<- h4,Nat.add_mul_mod_self_right,aj4 ho']
 rw[<- h7];exact EH h1 h2 oz
def bp(x:Nat):Nat:=if x=0 then 0 else x.log2+1
theorem mQ{x:Nat}(h:x<256):IntKind.u8.wrap (x:Int)=(x:Int):=by
 simp only[IntKind.wrap,IntKind.signed,IntKind.bits,amq,if_false,ams];omega
theorem C4{x:Nat}:x<2^bp x:=by
 unfold bp;split
 ·next h=>subst h;decide
 ·exact Nat.lt_log2_self
theorem Cv{x:Nat}(h:x≠0):2^(bp x-1)<=x:=by
 unfold bp;rw[aoy h,ajv];exact Nat.log2_self_le h
theorem abg{x k:Nat}(h1:2^k<=x)(h2:x<2^(k+1)):bp x=k+1:=by
 have hx:x≠0:=by intro h;subst h;have:=aki (n:=k) (show 0<2 by omega);omega
 unfold bp;rw[aoy hx,(Nat.log2_eq_iff hx).2 ⟨h1,h2⟩]
theorem zH{x k:Nat}(h:2^k<=x):bp x=k+bp (x/2^k):=by
 have h0:x/2^k≠0:=by
  have:=Nat.div_pos h (aki oz);omega
 have h1:=Cv h0;have h2:=C4 (x:=x/2^k);have h3:1<=bp (x/2^k):=by unfold bp;rw[aoy h0];omega
 generalize bp (x/2^k)=m at *;obtain⟨n,rfl⟩:∃n,m=n+1:=⟨m-1,by omega⟩
 rw[ajv]at h1;rw[akm (aki oz),<- aoo]at h1;rw[ajz (aki oz),<- aoo]at h2;rw[show k+(n+1)=(n+k)+1 by omega];exact abg h1 (by rw[show n+k+1=n+1+k by omega];exact h2)
theorem D9{x:Nat}(h:x≠0)(hx:x<4294967296):bp x<=32/\1<=bp x/\2147483648<=2^(32-bp x)*x/\2^(32-bp x)*x<4294967296:=by
 have h1:=Cv h;have h2:=C4 (x:=x);have h3:1<=bp x:=by unfold bp;rw[aoy h];omega
 have h4:bp x<=32:=by
  rcases anu 32 (bp x)with h5 |h5
  ·have:2^32<=2^(bp x-1):=tJ oz;omega
  ·exact h5
 refine⟨h4,h3,?_,?_⟩
 ·have:=ant (2^(32-bp x)) h1;rw[<- aoo,show 32-bp x+(bp x-1)=31 by omega]at this;omega
 ·have:=(aka (a:=2^(32-bp x)) (aki oz)).2 h2;rw[<- aoo,show 32-bp x+bp x=32 by omega]at this;omega
def Jq(b:ByteArray):Bool:=ajx b.data.toList.length 256&&(List.range 256).all fun y=>ajx (b.data.toList.getD y 0).toNat (bp y)
theorem x5{P:apb}{N:Nat}{R:Array Oper}{s:AS}{d:Nat}{x ix:ao8}{kk:IntKind}{i:Int}{y:Nat}{b:ByteArray}{T t:apa}{ti:TI}{pos:String}{after:Array Edge}
  (hx:Ev s x (.v (.string b))) (hi:Ev s ix (.v (.int kk i))) (hT:aI P T=some ti) (hk:ti.k=.string)
  (hb:Jq b=true) (h0:i=(y:Int)) (hy:y<256) (hN:aks d N=true) :
  Step P N R s ⟨some d,.index T x ix,t,pos,after,none⟩ ⟨some (.v (.int .u8 (bp y))),[],aA x++aA ix,[]⟩:=by
 subst h0;simp only[Jq,anq,anx,alh]at hb;have hs:b.size=256:=by have:=anw hb.1;rw[am8]at this;exact this
 have h1:=anw (hb.2 y hy);have:=C3 (R:=R) (N:=N) (t:=t) (pos:=pos) (after:=after) hx hi hT hk oz oz hN;rw[aol]at this;rw[anm,ana,<- anv]at h1
 rwa [h1]at this
theorem mb{x:Nat}(h:x<256):bp x<=8:=by
 rcases anu 8 (bp x)with h5 |h5
 ·have h0:x≠0:=by intro h0; subst h0; simp[bp] at h5
  have h1:=Cv h0;have:2^8<=2^(bp x-1):=tJ oz;omega
 ·exact h5
structure Dig(V W P V' W' top next third head:Nat):Prop where
  hV:V=V'+P*(next+4294967296*top)
  hW:W=W'+P*(third+4294967296*head)
  hV':V'<P
  hW':W'<P
  hnext:next<4294967296
  hthird:third<4294967296
  htop:2147483648<=top
  htopB:top<4294967296
  hlt:W<V*4294967296
namespace Dig
variable{V W P V' W' top next third head:Nat}
theorem vpos(h:Dig V W P V' W' top next third head):0<V:=by
 have:=h.hlt;omega
theorem q_lt(h:Dig V W P V' W' top next third head):W/V<4294967296:=by
 rw[ajz h.vpos,ajt];exact h.hlt
theorem mul_le(h:Dig V W P V' W' top next third head){q:Nat}(hq:q*V<=W):q*(next+4294967296*top)<=third+4294967296*head:=by
 have h1:q*(P*(next+4294967296*top))<=q*V:=ant _ (by have:=h.hV;omega);have h2:=h.hW;have h3:=h.hW'
 have h4:P*(q*(next+4294967296*top))<P*(third+4294967296*head+1):=by
  rw[akc P _ 1,Nat.mul_one];have:P*(q*(next+4294967296*top))=q*(P*(next+4294967296*top)):=by grind
  omega
 have:=akf h4;omega
theorem up(h:Dig V W P V' W' top next third head){q:Nat}(hq:q*V<=W):q*top<=head:=by
 have h1:=h.mul_le hq;have h2:=h.hthird;rw[akc,show q*(4294967296*top)=4294967296*(q*top) by grind]at h1;omega
theorem first(h:Dig V W P V' W' top next third head):W/V<=head/top:=by
 have:=h.htop;rw[akm oz];exact h.up (Nat.div_mul_le_self W V)
theorem head_le(h:Dig V W P V' W' top next third head):head<=4294967296*top+next:=by
 have h1:=h.hlt;have h2:=h.hV;have h3:=h.hW;have h4:=h.hV'
 have h5:P*(third+4294967296*head)<P*(4294967296*(next+4294967296*top+1)):=by
  have:V*4294967296<P*(4294967296*(next+4294967296*top+1)):=by
   rw[h2,akk,show P*(next+4294967296*top)*4294967296=P*(4294967296*(next+4294967296*top)) by grind,akc 4294967296 _ 1,akc P];omega
  omega
 have:=akf h5;omega
theorem step(h:Dig V W P V' W' top next third head){g r:Nat}(hg:W/V<=g)(he:g*top+r=head)(hc:4294967296<=g\/r*4294967296+third<g*next):W/V<g:=by
 rcases hc with hc |hc
 ·have:=h.q_lt;omega
 ·refine Nat.lt_of_le_of_ne hg ?_;intro hq;have h1:=h.mul_le (Nat.div_mul_le_self W V);rw[hq,<- he,akc,akc,show g*(4294967296*top)=4294967296*(g*top) by grind]at h1;omega
theorem last(h:Dig V W P V' W' top next third head){g r:Nat}(he:g*top+r=head)(hc:¬(r<4294967296/\(4294967296<=g\/r*4294967296+third<g*next))) :
  g<4294967296/\g<=W/V+1:=by
 have hh:=h.head_le;have hn:=h.hnext;have htop:=h.htop
 have hg:g<4294967296/\g*next<=r*4294967296+third:=by
  rcases anu r 4294967296 with hr |hr
  ·have h1:¬(4294967296<=g\/r*4294967296+third<g*next):=fun h'=>hc ⟨hr,h'⟩
   omega
  ·have h1:g<4294967296:=by
    rcases anu g 4294967296 with h2 |h2
    ·exact h2
    ·have:=aod top h2;omega
   refine⟨h1,?_⟩;have h2:g*next<=4294967296*4294967296:=akw oz oz;have h3:4294967296*4294967296<=r*4294967296:=aod _ hr;omega
 refine⟨hg.1,?_⟩
 have h1:g*(next+4294967296*top)<=third+4294967296*head:=by
  rw[<- he,akc,akc,show g*(4294967296*top)=4294967296*(g*top) by grind];omega
 have h2:g*V<=W+V:=by
  have h3:g*V'<=4294967296*P:=akw oz (by have:=h.hV';omega);have h4:P*(g*(next+4294967296*top))<=P*(third+4294967296*head):=ant _ h1;have h5:P*4294967296<=P*(next+4294967296*top):=ant _ oz;have h6:=h.hV;have h7:=h.hW;have h8:g*V=g*V'+P*(g*(next+4294967296*top)):=by rw[h6];grind
  omega
 have h9:(g-1)*V<=W:=by rw[Nat.sub_mul];omega
 have:=(akm h.vpos).2 h9;omega
end Dig
theorem N5{l:List Nat}{n:Nat}:val (l.take (n+2))=val (l.take n)+4294967296^n*(an l n+4294967296*an l (n+1)):=by
 rw[eD,eD,ajq];grind
theorem SG{l:List Nat}{n:Nat}:val (l.take (n+3))=val (l.take n)+4294967296^n*(an l n+4294967296*(an l (n+2)*4294967296+an l (n+1))):=by
 rw[eD,N5,aoo];grind
theorem tV{l:List Nat}(h:Ws l)(n:Nat):val (l.take n)<4294967296^n:=by
 have h1:=cR (l.take n) (jz h n);exact an5 h1 (akl oz (by simp;omega))
theorem Yx{v p:List Nat}{n:Nat}(hv:Ws v)(hp:Ws p)(hl:v.length=n+2)(kH:p.length=n+3)(ht:2147483648<=an v (n+1))(h:val p<val v*4294967296) :
  Dig (val v) (val p) (4294967296^n) (val (v.take n)) (val (p.take n)) (an v (n+1)) (an v n) (an p n) (an p (n+2)*4294967296+an p (n+1)) where
 hV:=by rw[<- N5,gX oz]
 hW:=by rw[<- SG,gX oz]
 hV':=tV hv n
 hW':=tV hp n
 hnext:=cC hv n
 hthird:=cC hp n
 htop:=ht
 htopB:=cC hv (n+1)
 hlt:=h
theorem V6{u l:List Nat}{j:Nat}(h:j<=u.length):bP (wr u j l) j l.length=l:=by
 unfold bP wr;rw[aor,List.drop_append,aoi (by simp;omega)];simp[aj1 h]
theorem WJ{u l l':List Nat}{j:Nat}(h:j<=u.length)(hl:l.length=l'.length):wr (wr u j l) j l'=wr u j l':=by
 have h1:=Nx (l:=l) h;have h2:=W7 (l:=l) h;rw[hl]at h2;rw[wr,h1,h2,<- wr]
theorem ZX{W V g len:Nat}(hV:0<V)(Q8:V<=4294967296^len)(hW:W<4294967296^len)(h1:W/V<=g)(h2:g<=W/V+1) :
  (W<g*V->(nJ g V W len+V)%4294967296^len=W%V/\g-1=W/V/\1<=g)/\(¬W<g*V->nJ g V W len=W%V/\g=W/V):=by
 have h3:=akq W V;have h4:=akz W hV;generalize W/V=q at *;generalize W%V=r at *;have h5:V*q=q*V:=ajt _ _;refine⟨fun h=>?_,fun h=>?_⟩
 ·have hg:g=q+1:=by
   rcases anu q g with h6 |h6
   ·omega
   ·have:g=q:=by omega
    subst this;omega
  subst hg;rw[aj9]at h;refine⟨?_,by omega,by omega⟩;unfold nJ;rw[aj9,aoy oz,show W+4294967296^len-(q*V+V)+V=r+4294967296^len by omega,Nat.add_mod_right,aj4 oz]
 ·have hg:g=q:=by
   rcases anu q g with h6 |h6
   ·have:g=q+1:=by omega
    subst this;rw[aj9]at h;omega
   ·omega
  subst hg;refine⟨?_,rfl⟩;unfold nJ;rw[aoz oz];omega
theorem Xk{u q:List Nat}{k lv V U:Nat}(hu:Ws u)(hk:k+lv+1<=u.length)(hq:k<q.length)(hV:V<4294967296^lv)(h1:val (u.drop (k+1))<V)(h2:U=V*(4294967296^(k+1)*val (q.drop (k+1)))+val u) :
  val (bP u k (lv+1))<V*4294967296/\val ((wr u k (bF (lv+1) (val (bP u k (lv+1))%V))).drop k)<V /\
  U=V*(4294967296^k*val ((q.set k (val (bP u k (lv+1))/V)).drop k))+val (wr u k (bF (lv+1) (val (bP u k (lv+1))%V))):=by
 have h0:val (u.drop (k+(lv+1)))=0:=by
  have h3:=MK (u:=u) (j:=k+1) (n:=lv) oz;rw[show k+1+lv=k+(lv+1) by omega]at h3;rcases akx (val (u.drop (k+(lv+1))))with h4 |h4
  ·exact h4
  ·have:=ant (4294967296^lv) h4;omega
 have hd:=MK (u:=u) (j:=k) (n:=lv+1) oz;rw[h0,Nat.mul_zero,akn]at hd;have hw:=cC hu k;have df:=wt (l:=u) (i:=k) oz;have hW:val (bP u k (lv+1))<V*4294967296:=by rw[<- hd,df];omega
 have HX:0<V:=by omega
 have hr:=akz (val (bP u k (lv+1))) HX;have hm:=akq (val (bP u k (lv+1))) V;have bK:(bF (lv+1) (val (bP u k (lv+1))%V)).length=lv+1:=ic _ _;have hx:val (bP u k (lv+1))%V<4294967296^(lv+1):=by rw[ajq];omega
 have hwd:val ((wr u k (bF (lv+1) (val (bP u k (lv+1))%V))).drop k)=val (bP u k (lv+1))%V:=by
  rw[To oz,bK,h0,pU _ _ hx];omega
 refine⟨hW,by omega,?_⟩;rw[G1 (u:=wr u k _) (j:=k) (by rw[qG oz];omega),Nx oz,hwd,JP hq,h2,G1 (u:=u) (j:=k) oz,hd];generalize val (bP u k (lv+1))%V=r at *;generalize val (bP u k (lv+1))/V=d at *;rw[<- hm,ajq];grind
theorem ZB{A Bv n Q R:Nat}(h:2^n*A=2^n*Bv*Q+R)(hR:R<2^n*Bv):Q=A/Bv/\R/2^n=A%Bv:=by
 obtain⟨h1,h2⟩:=BJ h hR;rw[Nat.mul_div_mul_left _ _ (aki oz)]at h1;rw[Nat.mul_mod_mul_left]at h2;rw[<- h1,<- h2,Nat.mul_div_cancel_left _ (aki oz)];exact⟨rfl,rfl⟩
theorem KY:∀k v,(bF (k+1) v).take k=bF k v
 |0,_=>by simp[bF]
 |k+1,v=>by
  rw[bF,List.take_succ_cons,KY k];rfl
theorem ZZ{u:List Nat}{j n i:Nat}(h:i<n):an (bP u j n) i=an u (j+i):=by
 rw[<- CU];simp[bP,an,h]
theorem EQ{u:List Nat}{j n i:Nat}(h:i<n)(h2:j+n<=u.length):(u.map u32)[j+i]?=some (u32 (an (bP u j n) i)):=by
 rw[ZZ h];exact cU oz
theorem afc{b:List Nat}{n:Nat}(hb:Ws b)(nb:Nz b)(hl:b.length=n+2) :
  ∃sh v,sh=32-bp (an b (n+1))/\sh<32/\v=bF (n+2) (2^sh*val b)/\Ws v/\v.length=n+2/\val v=2^sh*val b/\2147483648<=an v (n+1)/\an b (n+1)≠0 /\
   4294967296^(n+1)<=val b:=by
 have ht:an b (n+1)≠0:=by
  refine nb _ ?_;rw[aly,hl];exact ni oz
 have htB:=cC hb (n+1);obtain⟨h1,h2,h3,h4⟩:=D9 ht htB;have h5:=C4 (x:=an b (n+1))
 have hv:val b=val (b.take (n+1))+4294967296^(n+1)*an b (n+1):=by
  rw[<- eD,gX oz]
 have hlt:=tV hb (n+1)
 have Q9:2^(32-bp (an b (n+1)))*(an b (n+1)+1)<=4294967296:=by
  have:=ant (2^(32-bp (an b (n+1)))) (show an b (n+1)+1<=2^bp (an b (n+1))from h5);rw[<- aoo,show 32-bp (an b (n+1))+bp (an b (n+1))=32 by omega]at this;exact this
 have xc:4294967296^(n+1)<=val b:=by
  have:=ant (4294967296^(n+1)) (show 1<=an b (n+1) by omega);omega
 generalize lF:32-bp (an b (n+1))=sh at *
 have hX:2^sh*val b<4294967296^(n+2):=by
  have e1:val b<4294967296^(n+1)*(an b (n+1)+1):=by rw[akc];omega
  have e2:2^sh*val b<2^sh*(4294967296^(n+1)*(an b (n+1)+1)):=(aka (aki oz)).2 e1;have e3:2^sh*(4294967296^(n+1)*(an b (n+1)+1))=4294967296^(n+1)*(2^sh*(an b (n+1)+1)):=by grind
  have e4:=ant (4294967296^(n+1)) Q9;rw[<- ajq]at e4;rw[e3]at e2;exact an5 e2 e4
 refine⟨sh,_,rfl,by omega,rfl,n8 _ _,ic _ _,pU _ _ hX,?_,ht,xc⟩
 have j7:val (bF (n+2) (2^sh*val b))=val ((bF (n+2) (2^sh*val b)).take (n+1))+4294967296^(n+1)*an (bF (n+2) (2^sh*val b)) (n+1):=by
  rw[<- eD,gX (by rw[ic];omega)]
 rw[pU _ _ hX]at j7;have Di:=tV (n8 (n+2) (2^sh*val b)) (n+1)
 have e5:4294967296^(n+1)*(2^sh*an b (n+1))<=2^sh*val b:=by
  have:=ant (2^sh) (show 4294967296^(n+1)*an b (n+1)<=val b by omega);have e6:2^sh*(4294967296^(n+1)*an b (n+1))=4294967296^(n+1)*(2^sh*an b (n+1)):=by grind
  omega
 have e7:4294967296^(n+1)*(2^sh*an b (n+1))<4294967296^(n+1)*(an (bF (n+2) (2^sh*val b)) (n+1)+1):=by rw[akc (4294967296^(n+1)) _ 1];omega
 have:=akf e7;omega
theorem I7{a:List Nat}{sh lq n Bv:Nat}(ha:Ws a)(lF:sh<32)(hl:a.length+1=lq+(n+2))(hB:4294967296^(n+1)<=Bv) :
  val (bF (a.length+1) (2^sh*val a))=2^sh*val a/\val ((bF (a.length+1) (2^sh*val a)).drop lq)<2^sh*Bv:=by
 have h1:=cR a ha;have h2:2^sh<=2^31:=tJ oz;have hp:0<2^sh:=aki oz;have h3:2^sh*val a<2^sh*4294967296^a.length:=(aka hp).2 h1
 have hX:2^sh*val a<4294967296^(a.length+1):=by
  have:=aod (4294967296^a.length) (show 2^sh<=4294967296 by omega);rw[ajq];omega
 refine⟨pU _ _ hX,?_⟩;have h4:=A8 (n8 (a.length+1) (2^sh*val a)) lq (by rw[ic];omega);rw[pU _ _ hX]at h4;rw[<- h4,ajz (aki oz)];have h5:a.length=(n+1)+lq:=by omega
 rw[h5,aoo]at h3;have h6:=ant (2^sh) (aod (4294967296^lq) hB);rw[akt];omega
theorem UB{s:AS}:∀(k:Nat)(z:Blk),lk ([]:Hp) k=some z->s.blk k=some z:=fun _ _ h=>by cases h
theorem hH1{s:AS}{k0:Nat}{x:Blk}(h:s.blk k0=some x):∀(k:Nat)(z:Blk),lk [(k0,some x)] k=some z->s.blk k=some z:=by
 intro k z hz;rw[a5]at hz;split at hz
 ·rename_i e;cases hz;rw[e];exact h
 ·cases hz
theorem XW{s:AS}{x y x' y':AV}(h:Sub x x')(h':Sub y y'):aD s (fu [x,y]) (.tup [x',y']) []:=by
 refine aD.pure.sub ?_;intro g S m v hr;cases hr with
 |tup hn hr =>
  refine .tup (by simpa using hn) ?_;intro j u c hu hc
  match j,hc with
  |0,hc=>cases hc;exact h _ _ _ _ (hr 0 u x hu rfl)
  |1,hc=>cases hc;exact h' _ _ _ _ (hr 1 u y hu rfl)
theorem Vq{b v:List Nat}{n X:Nat}(hn:b.length=n+2)(h:v=bF (n+2) X) :
  AV.fz 900 1 ((bF (b.length+1) X).map u32) (.ms 900 1 0 b.length)=ws v:=by
 rw[BZ (by simp[ic]),h,<- hn,aov,<- map_take,KY,ws]
theorem PH{x:Nat}(h:1<=x)(hx:x<18446744073709551616):IntKind.u64.wrap (i7 .sub (x:Int) 1)=((x-1:Nat):Int):=by
 have h1:=oA (x:=x) (y:=1) hx oz;rw[aoz h]at h1;exact h1
theorem KJ{r g G R:Nat}:(cond (aa .lss (r:Int) 4294967296) (cond (aa .geq (g:Int) 4294967296) true (aa .gtr (G:Int) (R:Int))) false)=true ↔
  (r<4294967296/\(4294967296<=g\/R<G)):=by
 have e1:aa .lss (r:Int) 4294967296=decide (r<4294967296):=by rw[amu];simp only[aa,ao0];omega
 have e2:aa .geq (g:Int) 4294967296=decide (4294967296<=g):=by rw[amu];simp only[aa,ao0];omega
 have e3:aa .gtr (G:Int) (R:Int)=decide (R<G):=by rw[amu];simp only[aa,ao0];omega
 rw[e1,e2,e3]
 by_cases h1:r<4294967296
 ·by_cases h2:4294967296<=g
  ·rw[ao3 h1,ao3 h2];exact⟨fun _=>⟨h1,.inl h2⟩,fun _=>rfl⟩
  ·rw[ao3 h1,ao4 h2];show decide (R<G)=true↔_;rw[ao0];exact⟨fun h=>⟨h1,.inr h⟩,fun h=>h.2.resolve_left h2⟩
 ·rw[ao4 h1];constructor
  ·intro h;exact Bool.noConfusion h
  ·intro h;exact ao5 h.1 h1
theorem I3{u:List Nat}{k n V r:Nat}{l:List Nat}(hk:k+n<=u.length)(hl:l.length=n)(h:(val l+V)%4294967296^n=r) :
  wr (wr u k l) k (bF n ((val (bP (wr u k l) k n)+V)%4294967296^n))=wr u k (bF n r):=by
 subst hl;rw[WJ oz (by rw[ic]),V6 oz,h]
theorem hH2{s:AS}{k1 k2:Nat}{x1 x2:Blk}(h1:s.blk k1=some x1)(h2:s.blk k2=some x2):∀(k:Nat)(z:Blk),lk [(k1,some x1),(k2,some x2)] k=some z->s.blk k=some z:=by
 intro k z hz;rw[a5]at hz;split at hz
 ·rename_i e;cases hz;rw[e];exact h1
 ·rw[a5]at hz;split at hz
  ·rename_i e;cases hz;rw[e];exact h2
  ·cases hz
theorem aT{p:Prop}(h:p:=by first |exact UB |exact hH1 rfl |exact hH2 rfl rfl):p:=h
def jJ(x y:Int):Int:=if x<y then -1 else if y<x then 1 else 0
theorem Lu(b:Bool)(n:Nat):sgn (!b) n=-(sgn b n):=by cases b <;> simp[sgn]
theorem Wh.small{w:Wh}(h:w.ok)(hl:w.mag.length<aJ):w.m.length<aJ:=aog Wh.m_le hl
theorem Qm{w:Wh}(h:w.ok):(w.m.length=0->w.z.sign=0)/\(w.m.length≠0->w.neg=true->w.z.sign=-1)/\(w.m.length≠0->w.neg=false->w.z.sign=1):=by
 have h1:w.m.length≠0->w.valid=true:=by
  intro h0;unfold Wh.m at h0;split at h0
  ·assumption
  ·exact ao5 rfl h0
 refine⟨?_,?_,?_⟩
 ·intro h0;have h2:w.m=[]:=ak0.1 h0;have h3:val w.m=0:=by rw[h2]; rfl
  have:w.z=0:=by unfold Wh.z;rw[h3];split <;> rfl
  rw[this];rfl
 ·intro h0 hn;have h2:w.n=true:=by unfold Wh.n; rw[h1 h0,hn]; rfl
  have h3:=Wh.n_val h2;rw[ame];unfold Wh.z;rw[aoz h2];omega
 ·intro h0 hn;have h2:w.n=false:=by unfold Wh.n; rw[h1 h0,hn]; rfl
  have h3:=tL w.nz (fun h=>h0 (by rw[h];rfl));rw[al7];unfold Wh.z;rw[h2];simp;omega
theorem Me{a b:Wh}(h:a.n=b.n):sgn a.n (val a.m+val b.m)=a.z+b.z:=by
 rw[Wh.z_eq,Wh.z_eq,<- h];unfold sgn;split <;> omega
theorem GS{a b:Wh}(h:a.n≠b.n)(hl:val b.m<=val a.m):sgn a.n (val a.m-val b.m)=a.z+b.z:=by
 rw[Wh.z_eq,Wh.z_eq];cases ha:a.n <;> cases hb:b.n <;> simp_all[sgn] <;> omega
theorem M5{a b:Wh}(h:a.n≠b.n)(hl:val a.m<=val b.m):sgn b.n (val b.m-val a.m)=a.z+b.z:=by
 rw[Int.add_comm];exact GS (fun h'=>h h'.symm) hl
theorem Ju{a b:Wh}:sgn (a.n != b.n) (val a.m*val b.m)=a.z*b.z:=by
 rw[Wh.z_eq,Wh.z_eq];cases a.n <;> cases b.n <;> simp[sgn,Int.neg_mul,Int.mul_neg]
theorem Ht(z:Int):(z.sign=1/\0<z)\/(z.sign=0/\z=0)\/(z.sign=-1/\z<0):=by
 rcases ama z 0 with h |h |h
 ·exact .inr (.inr ⟨ame.2 h,h⟩)
 ·subst h;exact .inr (.inl ⟨rfl,rfl⟩)
 ·exact .inl ⟨al7.2 h,h⟩
theorem Ze{a b:Wh}(h:a.z.sign≠b.z.sign):(a.z.sign<b.z.sign->jJ a.z b.z=-1)/\(¬a.z.sign<b.z.sign->jJ a.z b.z=1):=by
 have h1:=Ht a.z;have h2:=Ht b.z;unfold jJ;generalize a.z.sign=s at *;generalize b.z.sign=t at *;generalize a.z=x at *;generalize b.z=y at *;constructor <;> intro h3 <;> (repeat' split) <;> omega
theorem S0{a b:Wh}(h:a.z.sign=b.z.sign):jJ a.z b.z=(if a.n then -(if val a.m<val b.m then -1 else if val b.m<val a.m then 1 else 0:Int)else if val a.m<val b.m then -1 else if val b.m<val a.m then 1 else 0):=by
 have ha:=Wh.n_eq (w:=a);have hb:=Wh.n_eq (w:=b);have h1:=amd a.z;have jb:=Wh.z_eq (w:=a);have kF:=Wh.z_eq (w:=b)
 have hn:a.n=b.n:=by
  rw[ha,hb,decide_eq_decide,<- ame,<- ame,h]
 rw[<- hn]at kF;unfold jJ;rw[jb,kF];cases a.n <;> simp only[sgn,if_true,if_false,ams] <;> (repeat' split) <;> omega
theorem M6{a b q r:Int}(hb:b≠0)(h:a=b*q+r)(h0:0<=r)(h1:r<b.natAbs):a/b=q/\a%b=r:=by
 have h2:=Int.mul_ediv_add_emod a b;have h3:=Int.emod_nonneg a hb;have h4:=Int.emod_lt a hb;have h5:b*(a/b-q)=r-a%b:=by rw[Int.mul_sub];omega
 have h6:a/b-q=0:=by
  rcases ama (a/b-q) 0 with h |h |h
  ·exfalso;have:b.natAbs<=(r - a % b).natAbs:=by rw[<- h5,al3]; exact Nat.le_mul_of_pos_right _ oz
   omega
  ·exact h
  ·exfalso;have:b.natAbs<=(r - a % b).natAbs:=by rw[<- h5,al3]; exact Nat.le_mul_of_pos_right _ oz
   omega
 rw[h6,Int.mul_zero]at h5;omega
theorem Kj{a b:Wh}(hb:val b.m≠0)(h:¬(a.n=true/\0<val a.m%val b.m)) :
  sgn (a.n != b.n) (val a.m/val b.m)=a.z/b.z/\(val a.m%val b.m:Nat)=a.z%b.z:=by
 have h1:=akq (val a.m) (val b.m);have h2:=akz (val a.m) (show 0<val b.m by omega);have hz:=Wh.abs (w:=b);have ow:b.z≠0:=by omega
 obtain⟨e1,e2⟩:=M6 (a:=a.z) (b:=b.z) (q:=sgn (a.n != b.n) (val a.m/val b.m)) (r:=(val a.m%val b.m:Nat)) ow (by
  rw[Wh.z_eq,Wh.z_eq];generalize val a.m/val b.m=q at *;generalize val a.m%val b.m=r at *;rw[<- h1]
  have h9:a.n=true->r=0:=fun h3=>by
   rcases akx r with h4 |h4
   ·exact h4
   ·exact ao5 ⟨h3,h4⟩ h
  cases ha:a.n with
  |false=>cases Dj:b.n <;> simp[sgn] <;> grind
  |true=>have:=h9 ha;subst this;cases Dj:b.n <;> simp[sgn] <;> grind) oz oz
 exact⟨e1.symm,e2.symm⟩
theorem OE{a b:Wh}(hb:val b.m≠0)(ha:a.n=true)(hr:0<val a.m%val b.m) :
  sgn (a.n != b.n) (val a.m/val b.m+1)=a.z/b.z/\((val b.m-val a.m%val b.m:Nat):Int)=a.z%b.z:=by
 have h1:=akq (val a.m) (val b.m);have h2:=akz (val a.m) (show 0<val b.m by omega);have hz:=Wh.abs (w:=b);have ow:b.z≠0:=by omega
 obtain⟨e1,e2⟩:=M6 (a:=a.z) (b:=b.z) (q:=sgn (a.n != b.n) (val a.m/val b.m+1)) (r:=(val b.m-val a.m%val b.m:Nat)) ow (by
  rw[Wh.z_eq,Wh.z_eq];generalize val a.m/val b.m=q at *;generalize val a.m%val b.m=r at *;rw[<- h1,ha];cases Dj:b.n <;> simp[sgn] <;> rw[Int.ofNat_sub oz] <;> grind) oz oz
 exact⟨e1.symm,e2.symm⟩
abbrev iK:Nat:=137438953472
def Zs(z:Int):Prop:=∃k,k<=274877906945/\Lz k z
theorem Zs.ok{z:Int}(h:Zs z):(ofInt z).ok:=by
 obtain⟨k,hk,hz⟩:=h;refine⟨eI _,?_⟩;have:=hz.len;unfold bb;show(ofNat z.natAbs).length<=_;omega
theorem Zs.len{z:Int}(h:Zs z):(ofInt z).mag.length<=274877906945:=by
 obtain⟨k,hk,hz⟩:=h;have:=hz.len;show(ofNat z.natAbs).length<=_;omega
theorem Zs.neg{z:Int}(h:Zs z):Zs (-z):=by
 obtain⟨k,hk,hz⟩:=h;exact⟨k,hk,hz.neg⟩
theorem Zs.of_le{x y:Int}(h:Zs x)(h':y.natAbs<=x.natAbs):Zs y:=by
 obtain⟨k,hk,hz⟩:=h;exact⟨k,hk,hz.of_le h'⟩
structure Rt where
  neg:Bool
  num:List Nat
  den:List Nat
namespace Rt
def av(r:Rt):AV:=.agg [bl r.neg,ws r.num,ws r.den]
def n0(r:Rt):Wh:=⟨false,r.num⟩
def d0(r:Rt):Wh:=⟨false,r.den⟩
def valid(r:Rt):Bool :=
  if r.num=[]/\r.den=[]then !r.neg
  else if r.num=[]\/r.den=[]then false
  else r.n0.valid&&r.d0.valid&&decide (aj2 (val r.num) (val r.den)=1)
def q(r:Rt):Rat:=if r.valid=true/\r.num≠[]then mkRat (sgn r.neg (val r.num)) (val r.den)else 0
def ok(r:Rt):Prop:=Ws r.num/\Ws r.den/\r.num.length<=iK/\r.den.length<=iK
end Rt
def rt(q:Rat):Rt:=⟨decide (q.num<0),ofNat q.num.natAbs,if q.num=0 then[]else ofNat q.den⟩
def qA(q:Rat):AV:=(rt q).av
def Qs(q:Rat):Prop:=∃k,k<=iK/\Lz k q.num/\Lz k (q.den:Int)
theorem Qs.ok{q:Rat}(h:Qs q):(rt q).ok:=by
 obtain⟨k,hk,h1,h2⟩:=h;have h3:=h1.len;have h4:=h2.len;simp only[aoj]at h4;refine⟨eI _,?_,by show(ofNat q.num.natAbs).length<=_;omega,?_⟩
 ·show Ws (if q.num=0 then[]else ofNat q.den);split
  ·exact xR
  ·exact eI _
 ·show(if q.num=0 then[]else ofNat q.den).length<=_;split
  ·simp
  ·omega
theorem GC{n:Nat}:ofNat n=[]↔n=0:=by
 constructor
 ·intro h;have:=cT n;rw[h]at this;exact this.symm
 ·intro h;rw[h];rfl
theorem PI{l:List Nat}(h:l≠[])(hz:Nz l):(⟨false,l⟩:Wh).valid=true:=by
 unfold Wh.valid;dsimp only;rw[aoy h];cases hl:l.getLast? with
 |none=>rfl
 |some x=>have:=hz x hl;simp[this]
theorem KO{l:List Nat}{b:Bool}(h:l≠[])(hv:(⟨b,l⟩:Wh).valid=true):Nz l:=by
 unfold Wh.valid at hv;dsimp only at hv;rw[aoy h]at hv;intro x hx iH;rw[hx,iH]at hv;simp at hv
theorem LG(q:Rat):(rt q).valid=true:=by
 unfold rt Rt.valid Rt.n0 Rt.d0;dsimp only
 by_cases h:q.num=0
 ·rw[aoz h,h];rfl
 ·rw[aoy h];have h1:ofNat q.num.natAbs≠[]:=fun h'=>h (by have:=GC.1 h'; omega)
  have h2:ofNat q.den≠[]:=fun h'=>q.den_nz (GC.1 h')
  rw[aoy (fun h'=>h1 h'.1),aoy (by simp[h1,h2]),PI h1 (wK _),PI h2 (wK _),cT,cT];have:=q.reduced;unfold Nat.Coprime at this;simp[this]
theorem b7(q:Rat):(rt q).q=q:=by
 unfold Rt.q
 by_cases h:q.num=0
 ·rw[aoy]
  ·exact(amf.1 h).symm
  ·intro h';exact h'.2 (by show ofNat _=[];rw[h];rfl)
 ·have h1:ofNat q.num.natAbs≠[]:=fun h'=>h (by have:=GC.1 h'; omega)
  rw[aoz ⟨LG q,h1⟩];show mkRat (sgn (decide (q.num<0)) (val (ofNat q.num.natAbs))) (val (if q.num=0 then[]else ofNat q.den))=q;rw[aoy h,cT,cT]
  have:sgn (decide (q.num<0)) q.num.natAbs=q.num:=by
   unfold sgn;generalize q.num=z
   by_cases h2:z<0
   ·rw[aoz (ao3 h2)];omega
   ·rw[aoy (by rw[ao0];exact h2)];omega
  rw[this,Rat.mkRat_self]
theorem Rt.parts{r:Rt}(h:r.ok)(hv:r.valid=true)(h0:r.num≠[]) :
  r.q.num=sgn r.neg (val r.num)/\r.q.den=val r.den/\ofNat (val r.num)=r.num/\ofNat (val r.den)=r.den/\val r.num≠0/\val r.den≠0:=by
 have hv':=hv;unfold Rt.valid at hv;rw[aoy (fun h'=>h0 h'.1)]at hv;split at hv
 ·cases hv
 ·rename_i h1;simp only[anq,ao0]at hv;obtain⟨⟨hn,hd⟩,hg⟩:=hv;have h2:r.den≠[]:=fun h'=>h1 (.inr h')
  have nn:=KO h0 hn;have nd:=KO h2 hd;have pn:=tL nn h0;have pd:=tL nd h2;have hq:r.q=mkRat (sgn r.neg (val r.num)) (val r.den):=by unfold Rt.q;rw[aoz ⟨hv',h0⟩]
  have hs:(sgn r.neg (val r.num)).natAbs=val r.num:=by unfold sgn;split <;> omega
  have fB:r.q=⟨sgn r.neg (val r.num),val r.den,by omega,by unfold Nat.Coprime; rw[hs]; exact hg⟩:=by
   rw[hq];exact(Rat.mk_eq_mkRat _ _ _ _).symm
  refine⟨by rw[fB],by rw[fB],vW h.1 nn,vW h.2.1 nd,by omega,by omega⟩
theorem Rt.zero{r:Rt}(h:¬(r.valid=true/\r.num≠[])):r.q=0:=by unfold Rt.q;rw[aoy h]
theorem Rt.eq_rt{r:Rt}(h:r.ok)(hv:r.valid=true):r=rt r.q:=by
 by_cases h0:r.num=[]
 ·have hq:=Rt.zero (r:=r) (fun h'=>h'.2 h0);rw[hq];unfold Rt.valid at hv
  by_cases h1:r.den=[]
  ·rw[aoz ⟨h0,h1⟩]at hv;obtain⟨n,a,b⟩:=r;dsimp only at *;subst h0;subst h1
   cases n
   ·rfl
   ·cases hv
  ·rw[aoy (fun h'=>h1 h'.2),aoz (.inl h0)]at hv;cases hv
 ·obtain⟨h1,h2,h3,h4,h5,h6⟩:=Rt.parts h hv h0;unfold rt;have hn:r.q.num≠0:=by rw[h1]; unfold sgn; split <;> omega
  rw[aoy hn,h2,h4];have h7:r.q.num.natAbs=val r.num:=by rw[h1];unfold sgn;split <;> omega
  have h8:decide (r.q.num<0)=r.neg:=by rw[h1];unfold sgn;cases r.neg <;> simp <;> omega
  rw[h7,h3,h8]
theorem Rt.ok.qs{r:Rt}(h:r.ok):Qs r.q:=by
 by_cases h0:r.valid=true/\r.num≠[]
 ·obtain⟨h1,h2,h3,h4,h5,h6⟩:=Rt.parts h h0.1 h0.2;refine ⟨max r.num.length r.den.length,by have:=h.2.2; omega,?_,?_⟩
  ·unfold Lz;have:r.q.num.natAbs=val r.num:=by rw[h1]; unfold sgn; split <;> omega
   rw[this];exact an5 (cR _ h.1) (akl oz oz)
  ·unfold Lz;rw[h2];exact an5 (cR _ h.2.1) (akl oz oz)
 ·rw[Rt.zero h0];exact⟨1,by unfold iK;omega,by unfold Lz;decide,by unfold Lz;decide⟩
theorem Qs.num{q:Rat}(h:Qs q):Zs q.num:=by
 obtain⟨k,hk,h1,h2⟩:=h;exact⟨k,by unfold iK at hk;omega,h1⟩
theorem Qs.den{q:Rat}(h:Qs q):Zs q.den:=by
 obtain⟨k,hk,h1,h2⟩:=h;exact⟨k,by unfold iK at hk;omega,h2⟩
theorem Qs.mul{p q:Rat}(h:Qs p)(h':Qs q):Zs (p.num*q.den)/\Zs (p.num*q.num)/\Zs ((p.den:Int)*q.den)/\Zs ((p.den:Int)*q.num):=by
 obtain⟨k,hk,h1,h2⟩:=h;obtain⟨l,hl,h3,h4⟩:=h';unfold iK at *;exact⟨⟨k+l,by omega,h1.mul h4⟩,⟨k+l,by omega,h1.mul h3⟩,⟨k+l,by omega,h2.mul h4⟩,⟨k+l,by omega,h2.mul h3⟩⟩
theorem Qs.cross{p q:Rat}(h:Qs p)(h':Qs q):Zs (p.num*q.den+q.num*p.den):=by
 obtain⟨k,hk,h1,h2⟩:=h;obtain⟨l,hl,h3,h4⟩:=h';unfold iK at *;have:=(h1.mul h4).add (h3.mul h2);exact⟨_,by omega,this⟩
theorem Qs.neg{p:Rat}(h:Qs p):Qs (-p):=by
 obtain⟨k,hk,h1,h2⟩:=h;refine⟨k,hk,?_,?_⟩
 ·rw[Rat.neg_num];exact h1.neg
 ·rw[Rat.neg_den];exact h2
theorem Qs.zero:Qs 0:=⟨1,by unfold iK;omega,by unfold Lz;decide,by unfold Lz;decide⟩
theorem Rt.ok.n0{r:Rt}(h:r.ok):r.n0.ok:=⟨h.1,by have:=h.2.2.1;unfold iK at this;unfold bb;exact an4 this oz⟩
theorem Rt.ok.d0{r:Rt}(h:r.ok):r.d0.ok:=⟨h.2.1,by have:=h.2.2.2;unfold iK at this;unfold bb;exact an4 this oz⟩
theorem Rt.ok.n0l{r:Rt}(h:r.ok):r.n0.mag.length<aJ:=by have:=h.2.2.1;unfold iK at this;unfold aJ;exact aog this oz
theorem Rt.ok.d0l{r:Rt}(h:r.ok):r.d0.mag.length<aJ:=by have:=h.2.2.2;unfold iK at this;unfold aJ;exact aog this oz
theorem Cz:Zs 1:=⟨1,by omega,by unfold Lz;decide⟩
theorem Rt.gcd_zs{r:Rt}(h:r.ok):Zs (amb r.n0.z r.d0.z):=by
 have h1:=Wh.lz h.n0;have h2:=Wh.lz h.d0;have h3:r.n0.mag.length<=137438953472:=h.2.2.1;have h4:r.d0.mag.length<=137438953472:=h.2.2.2
 by_cases h0:r.n0.z=0
 ·rw[h0,Int.gcd_zero_left];exact⟨r.d0.mag.length,by omega,by unfold Lz at *;simpa using h2⟩
 ·refine⟨r.n0.mag.length,by omega,h1.of_le ?_⟩;simp only[aoj];exact Nat.le_of_dvd oz (Int.gcd_dvd_natAbs_left _ _)
theorem acg{n:Nat}:jJ (n:Int) 1=0↔n=1:=by
 unfold jJ;split
 ·constructor <;> intro h <;> omega
 ·split <;> constructor <;> intro h <;> omega
theorem Mm{l:List Nat}(h:(⟨false,l⟩:Wh).valid=true):(⟨false,l⟩:Wh).z=val l:=by
 unfold Wh.z Wh.n Wh.m;simp[h]
theorem FE{r:Rt}(h0:¬(r.num=[]/\r.den=[]))
  (h:cond (cond (cond (aa .eql (r.num.length:Int) 0) true (aa .eql (r.den.length:Int) 0)) true (!r.n0.valid)) true (!r.d0.valid)=true):r.valid=false:=by
 unfold Rt.valid;rw[aoy h0];split
 ·rfl
 ·next h1 =>
  have hn:r.num≠[]:=fun h=>h1 (.inl h)
  have hd:r.den≠[]:=fun h=>h1 (.inr h)
  have e1:aa .eql (r.num.length:Int) 0=false:=by simp[aa,hn]
  have e2:aa .eql (r.den.length:Int) 0=false:=by simp[aa,hd]
  rw[e1,e2]at h;cases hv:r.n0.valid <;> cases hw:r.d0.valid <;> simp_all
theorem LH{r:Rt}(h0:¬(r.num=[]/\r.den=[]))
  (h:cond (cond (cond (aa .eql (r.num.length:Int) 0) true (aa .eql (r.den.length:Int) 0)) true (!r.n0.valid)) true (!r.d0.valid)=false) :
  r.valid=aa .eql (jJ (amb r.n0.z r.d0.z) 1) 0:=by
 unfold Rt.valid;rw[aoy h0];cases e1:aa .eql (r.num.length:Int) 0
 ·cases e2:aa .eql (r.den.length:Int) 0
  ·have hn:r.num≠[]:=by simpa[aa] using e1
   have hd:r.den≠[]:=by simpa[aa]using e2
   rw[e1,e2]at h;cases hv:r.n0.valid <;> cases hw:r.d0.valid <;> simp[hv,hw]at h
   rw[aoy (by simp[hn,hd])];have z1:r.n0.z=val r.num:=Mm hv;have z2:r.d0.z=val r.den:=Mm hw;rw[z1,z2];show(true&&true&&decide _)=decide _;simp only[Bool.and_self,amt];rw[amu];simp only[ao0];exact acg.symm
  ·rw[e1,e2]at h;simp at h
 ·rw[e1]at h;simp at h
theorem KP{b:Bool}{num den:List Nat}(e3:ofNat (val num)=num)(e4:ofNat (val den)=den)(e5:val num≠0) :
  AV.tup [.agg [bl b,ws num],.agg [bl false,ws den]]=.tup [zA (sgn b (val num)),zA ((val den:Nat):Int)]:=by
 unfold zA ofInt Wh.av;have h1:(sgn b (val num)).natAbs=val num:=by unfold sgn;split <;> omega
 have h2:decide (sgn b (val num)<0)=b:=by unfold sgn;cases b <;> simp <;> omega
 have h3:decide (((val den:Nat):Int)<0)=false:=by simp
 dsimp only;rw[h1,h2,h3,e3,aoj,e4]
inductive SubL:List AV->List AV->Prop
  |nil:SubL [] []
  |cons {x y:AV} {l l':List AV} (h:Sub x y) (hl:SubL l l'):SubL (x::l) (y::l')
theorem SubL.len{l l':List AV}(h:SubL l l'):l.length=l'.length:=by induction h with |nil=>rfl |cons _ _ ih=>simp[ih]
theorem SubL.get{l l':List AV}(h:SubL l l'):∀(j:Nat)(x y:AV),l[j]?=some x->l'[j]?=some y->Sub x y:=by
 induction h with
 |nil=>intro j x y h;simp at h
 |cons h _ ih =>
  intro j x y hx hy;cases j with
  |zero=>simp at hx hy;subst hx;subst hy;exact h
  |succ j=>simp at hx hy;exact ih j x y hx hy
theorem Sub.tup{l l':List AV}(h:SubL l l'):Sub (.tup l) (.tup l'):=by
 intro g S m v hv;cases hv with
 |tup hn hr =>
  refine .tup (by rw[hn,h.len]) (fun j u y hu hy=>?_);obtain⟨x,hx⟩:=l6 h.len.symm hy;exact h.get j x y hx hy _ _ _ _ (hr j u x hu hx)
theorem Sub.agg{l l':List AV}(h:SubL l l')(ho:l'.all AV.one=true):Sub (.agg l) (.agg l'):=by
 intro g S m v hv;cases hv with
 |agg hn h1 hr =>
  refine .agg (by rw[hn,h.len]) (fun j c hc=>anx.1 ho c (ank hc)) (fun j u y hu hy=>?_);obtain⟨x,hx⟩:=l6 h.len.symm hy;exact h.get j x y hx hy _ _ _ _ (hr j u x hu hx)
theorem BlkSub.bL{l l':List AV}(h:SubL l l')(ho:l'.all AV.one=true):BlkSub (.box l) (.box l') :=
 .box h.len (fun j c hc=>anx.1 ho c (ank hc)) (fun j x y hx hy=>h.get j x y hx hy)
theorem JM:Sub (.agg [.v (.bool false),.v (.slice none 0 0)]) (zA 0):=.agg (.cons (.refl _) (.cons (.nil _ _ _) .nil)) rfl
theorem kA:Sub (.agg [.v (.bool false),.v (.slice none 0 0),.v (.slice none 0 0)]) (qA 0):=.agg (.cons (.refl _) (.cons (.nil _ _ _) (.cons (.nil _ _ _) .nil))) rfl
theorem IL{n d:Int}(hd:0<d)(hn:n≠0) :
  (amj n d).num=n/(amb n d:Int)/\(amj n d).den=d.natAbs/amb n d:=by
 constructor
 ·rw[Rat.num_divInt,Int.sign_eq_one_of_pos hd,Int.one_mul,Int.gcd_comm]
 ·rw[Rat.den_divInt,aoy oz,Int.gcd_comm]
theorem ae8{n d:Int}(hd:0<d)(hn:n≠0) :
  AV.agg [bl (decide (n<0)),ws (ofNat (((n.natAbs:Int)/(amb n d:Int)).natAbs)),ws (ofNat ((d/(amb n d:Int)).natAbs))]=qA (amj n d):=by
 obtain⟨h1,h2⟩:=IL hd hn;obtain⟨g,hg⟩:∃g,g=amb n d:=⟨_,rfl⟩
 have Ra:0<g:=by rw[hg];exact Int.gcd_pos_of_ne_zero_left _ hn
 have hgn:(g:Int)∣n:=by rw[hg];exact Int.gcd_dvd_left ..
 rw[<- hg]at h1 h2 ⊢;clear hg;obtain⟨k,hk⟩:=hgn;have iy:n/(g:Int)=k:=by rw[hk];exact Int.mul_ediv_cancel_left _ oz
 have j6:k≠0:=by intro h;rw[h]at hk;simp at hk;exact hn hk
 have hs:decide (n<0)=decide (k<0):=by
  rw[decide_eq_decide,hk];constructor
  ·intro h;rcases ama k 0 with h' |h' |h'
   ·exact h'
   ·exact ao5 h' j6
   ·exact ao5 (amc (Int.natCast_nonneg g) (Int.le_of_lt h')) oz
  ·intro h;exact Int.mul_neg_of_pos_of_neg oz h
 have Dg:((n.natAbs:Int)/(g:Int)).natAbs=k.natAbs:=by
  rw[hk,al3,aoj];rw[show((g*k.natAbs:Nat):Int)/(g:Int)=((g*k.natAbs/g:Nat):Int) by exact(al2 _ _).symm];rw[Nat.mul_div_cancel_left _ Ra];omega
 have hda:(d/(g:Int)).natAbs=d.natAbs/g:=by
  have:d=(d.natAbs:Int):=by omega
  rw[this,<- al2,aoj,aoj]
 unfold qA rt Rt.av;rw[h1,h2,iy,Dg,hda,hs];dsimp only;rw[aoy j6]
theorem Nj(n d:Int):amj (-n) (-d)=amj n d:=Rat.neg_divInt_neg n d
theorem EN(p q:Rat):amj (p.num*q.den+q.num*p.den) ((p.den:Int)*q.den)=p+q:=by
 rw[<- Rat.divInt_add_divInt _ _ (by have:=p.den_nz;omega) (by have:=q.den_nz;omega),amm,amm]
theorem F1(p q:Rat):amj (p.num*q.num) ((p.den:Int)*q.den)=p*q:=by
 rw[<- Rat.divInt_mul_divInt,amm,amm]
theorem Qi(p:Rat):amj (-p.num) p.den=-p:=by
 rw[<- Rat.neg_num,<- Rat.neg_den,amm]
theorem Ep(p q:Rat):amj (p.num*q.den) ((p.den:Int)*q.num)=p/q:=by
 rw[Rat.div_def,<- Rat.divInt_mul_divInt,amm];congr 1;rw[<- Rat.inv_divInt,amm]
theorem aft(p:Rat):p.num<0↔p<0:=by
 rw[Rat.lt_iff];simp
theorem WL(p:Rat):0<p.num↔0<p:=by
 rw[Rat.lt_iff];simp
def b9(p:Rat):Int:=if p<0 then -1 else if 0<p then 1 else 0
theorem OG(p:Rat):p.num.sign=b9 p:=by
 unfold b9
 by_cases h:p<0
 ·rw[aoz h];exact ame.2 ((aft p).2 h)
 ·rw[aoy h]
  by_cases h':0<p
  ·rw[aoz h'];exact al7.2 ((WL p).2 h')
  ·rw[aoy h'];have:p=0:=by grind
   rw[this];rfl
theorem Yk(p q:Rat):b9 (p-q)=if p<q then -1 else if q<p then 1 else 0:=by
 unfold b9
 by_cases h:p<q
 ·rw[aoz h,aoz (by grind)]
 ·rw[aoy h,aoy (by grind)]
  by_cases h':q<p
  ·rw[aoz h',aoz (by grind)]
  ·rw[aoy h',aoy (by grind)]
theorem aai(p q:Rat):jJ (p.num*q.den) (q.num*p.den)=b9 (p-q):=by
 rw[Yk];unfold jJ;simp only[Rat.lt_iff]
theorem aed{n d:Int}(hd:0<d)(hn:n≠0) :
  AV.agg [bl (decide (n/(amb n d:Int)<0)),ws (ofNat ((n/(amb n d:Int)).natAbs)),ws (ofNat ((d/(amb n d:Int)).natAbs))]=qA (amj n d):=by
 obtain⟨h1,h2⟩:=IL hd hn
 have h3:(d/(amb n d:Int)).natAbs=d.natAbs/amb n d:=by
  have:d=(d.natAbs:Int):=by omega
  generalize amb n d=g;rw[this,<- al2,aoj,aoj]
 have h4:n/(amb n d:Int)≠0:=by
  rw[<- h1];intro h
  have h5:=amf.1 h;have h6:=(Rat.divInt_eq_divInt_iff (show d≠0 by omega) (show(1:Int)≠0 by decide)).1 (h5.trans (Rat.zero_divInt 1).symm);omega
 unfold qA rt Rt.av;rw[h1,h2,h3];dsimp only;rw[aoy h4]
def Qb(e:Nat)(q:Rat):Prop:=q.num.natAbs<2^e/\q.den<2^e
theorem Qb.mono{e f:Nat}{q:Rat}(h:Qb e q)(hf:e<=f):Qb f q :=
 ⟨an5 h.1 (akl oz hf),an5 h.2 (akl oz hf)⟩
theorem Qb.qs{e:Nat}{q:Rat}(h:Qb e q)(he:e<=4398046511104):Qs q:=by
 have h2:(4294967296:Nat)=2^32:=by decide
 have h3:∀x,x<2^e->x<4294967296^(e/32+1):=by
  intro x hx;rw[h2,<- akb];exact an5 hx (akl oz oz)
 by_cases h4:e=4398046511104
 ·obtain⟨k,hk⟩:∃k,k=137438953472:=⟨_,rfl⟩
  refine⟨k,by unfold iK;omega,?_,?_⟩
  ·unfold Lz;have:=h.1;rw[h2,<- akb];exact an5 this (akl oz oz)
  ·unfold Lz;have:=h.2;rw[h2,<- akb];exact an5 this (akl oz oz)
 ·exact⟨e/32+1,by unfold iK;omega,h3 _ h.1,h3 _ h.2⟩
theorem Qb.neg{e:Nat}{q:Rat}(h:Qb e q):Qb e (-q):=by
 refine⟨?_,?_⟩
 ·rw[Rat.neg_num,Int.natAbs_neg];exact h.1
 ·rw[Rat.neg_den];exact h.2
theorem BH{n d:Int}(h0:d≠0):(amj n d).num.natAbs<=n.natAbs/\(amj n d).den<=d.natAbs:=by
 constructor
 ·rw[Rat.num_divInt]
  have h1:(d.sign*n).natAbs=n.natAbs:=by
   rw[al3,Int.natAbs_sign_of_ne_zero h0,Nat.one_mul]
  rw[<- h1];exact Int.natAbs_ediv_le_natAbs _ _
 ·rw[Rat.den_divInt,aoy h0];exact akd _ _
theorem Qb.mul{e f:Nat}{p q:Rat}(h:Qb e p)(h':Qb f q):Qb (e+f) (p*q):=by
 rw[<- F1];have h0:((p.den:Int)*q.den)≠0:=al9 (by have:=p.den_nz;omega) (by have:=q.den_nz;omega);obtain⟨h1,h2⟩:=BH (n:=p.num*q.num) h0;refine⟨aog h1 ?_,aog h2 ?_⟩
 ·rw[al3,aoo];exact akr h.1 h'.1
 ·rw[al3,aoo,aoj,aoj];exact akr h.2 h'.2
theorem Qb.add{e f:Nat}{p q:Rat}(h:Qb e p)(h':Qb f q):Qb (e+f+1) (p+q):=by
 rw[<- EN];have h0:((p.den:Int)*q.den)≠0:=al9 (by have:=p.den_nz;omega) (by have:=q.den_nz;omega);obtain⟨h1,h2⟩:=BH (n:=p.num*q.den+q.num*p.den) h0;refine⟨aog h1 ?_,aog h2 ?_⟩
 ·have h3:=Int.natAbs_add_le (p.num*q.den) (q.num*p.den);rw[al3,al3,aoj,aoj]at h3;have h4:=akr h.1 h'.2;have h5:=akr h'.1 h.2;rw[ajq,aoo];rw[ajt (2^f)]at h5;omega
 ·rw[al3,aoj,aoj,ajq,aoo];have:=akr h.2 h'.2;omega
theorem Qb.sub{e f:Nat}{p q:Rat}(h:Qb e p)(h':Qb f q):Qb (e+f+1) (p-q):=by
 rw[aml];exact h.add h'.neg
theorem Qb.div{e f:Nat}{p q:Rat}(h:Qb e p)(h':Qb f q):Qb (e+f) (p/q):=by
 by_cases h0:q=0
 ·subst h0;rw[Rat.div_def,Rat.inv_zero,Rat.mul_zero];have h1:0<2^e:=aku e;have h2:=h.2;have h3:=p.den_nz;refine⟨?_,?_⟩
  ·exact aku _
  ·show 1<2^(e+f);have:2^e<=2^(e+f):=akl oz oz;omega
 ·rw[<- Ep];have h0':((p.den:Int)*q.num)≠0:=al9 (by have:=p.den_nz; omega) (fun h=>h0 (amf.1 h));obtain⟨h1,h2⟩:=BH (n:=p.num*q.den) h0';refine ⟨aog h1 ?_,aog h2 ?_⟩
  ·rw[al3,aoo,aoj];exact akr h.1 h'.2
  ·rw[al3,aoo,aoj];exact akr h.2 h'.1
theorem Qb.zero:Qb 1 0:=⟨by decide,by decide⟩
theorem Qb.one:Qb 1 1:=⟨by decide,by decide⟩
theorem Rt.qb{r:Rt}{k:Nat}(h:r.ok)(hk:1<=k)(hn:r.num.length<=k)(hd:r.den.length<=k):Qb (32*k) r.q:=by
 have hB:∀{l:List Nat},Ws l->l.length<=k->val l<2^(32*k):=by
  intro l hw hl;have h1:=cR l hw;have h2:(4294967296:Nat)=2^32:=by decide
  rw[h2,<- akb]at h1;exact an5 h1 (akl oz oz)
 by_cases h0:r.valid=true/\r.num≠[]
 ·obtain⟨h1,h2,h3,h4,h5,h6⟩:=Rt.parts h h0.1 h0.2;refine⟨?_,?_⟩
  ·have:r.q.num.natAbs=val r.num:=by rw[h1]; unfold sgn; split <;> omega
   rw[this];exact hB h.1 hn
  ·rw[h2];exact hB h.2.1 hd
 ·rw[Rt.zero h0];exact Qb.zero.mono oz
theorem Tx{r:Rt}(h0:¬(r.num=[]/\r.den=[])) :
  r.valid=cond (cond (!decide (r.num=[])&&(⟨false,r.num⟩:Wh).valid) (!decide (r.den=[])&&(⟨false,r.den⟩:Wh).valid) false) (aa .eql (jJ (amb r.n0.z r.d0.z) 1) 0) false:=by
 by_cases h1:r.num=[]
 ·unfold Rt.valid;rw[aoy h0,aoz (.inl h1)];simp[h1]
 ·by_cases h2:r.den=[]
  ·unfold Rt.valid;rw[aoy h0,aoz (.inr h2)];simp[h2]
  ·have e1:aa .eql (r.num.length:Int) 0=false:=by simp[aa,h1]
   have e2:aa .eql (r.den.length:Int) 0=false:=by simp[aa,h2]
   have n0:(⟨false,r.num⟩:Wh)=r.n0:=rfl;have d0:(⟨false,r.den⟩:Wh)=r.d0:=rfl;rw[n0,d0];cases hv:r.n0.valid
   ·rw[FE h0 (by simp[hv,e1,e2])];simp
   ·cases hw:r.d0.valid
    ·rw[FE h0 (by simp[hv,hw,e1,e2])];simp
    ·rw[LH h0 (by simp[hv,hw,e1,e2])];simp[h1,h2]
theorem Con.sA{P:apb}{f:FuncId}{args args':List AV}{H H':Hp}{r:AV}(h:SubL args' args)(hc:Con P f args H r H'):Con P f args' H r H':=by
 refine⟨hc.ok,?_⟩;intro ext m w vs hext cI dG dm;refine hc.ret ext m w vs hext cI (by rw[dG,h.len]) (fun j v x hv hx=>?_);obtain⟨y,hy⟩:=l6 h.len.symm hx;exact h.get j y x hy hx _ _ _ _ (dm j v y hv hy)
@[reducible] def T:Nat->Type
  |0=>Rat
  |k+1=>T k×T k
namespace T
def zero:(k:Nat)->T k
  |0=>(0:Rat)
  |k+1=>(zero k,zero k)
def ofQ:(k:Nat)->Rat->T k
  |0,q=>q
  |k+1,q=>(ofQ k q,zero k)
def add:(k:Nat)->T k->T k->T k
  |0,x,y=>Rat.add x y
  |k+1,x,y=>(add k x.1 y.1,add k x.2 y.2)
def neg:(k:Nat)->T k->T k
  |0,x=>Rat.neg x
  |k+1,x=>(neg k x.1,neg k x.2)
def mul(r:(k:Nat)->T k):(k:Nat)->T k->T k->T k
  |0,x,y=>Rat.mul x y
  |k+1,x,y=>(add k (mul r k x.1 y.1) (mul r k (mul r k x.2 y.2) (r k)),add k (mul r k x.1 y.2) (mul r k x.2 y.1))
def norm(r:(k:Nat)->T k)(k:Nat)(x:T (k+1)):T k:=add k (mul r k x.1 x.1) (neg k (mul r k (mul r k x.2 x.2) (r k)))
def sgn3(sx sy sd sn:Int):Int:=if sd=0 then sx else if sx=sy\/sy=0 then sx else if sx=0 then sy else sx*sn
def sgn(r:(k:Nat)->T k):(k:Nat)->T k->Int
  |0,x=>b9 x
  |k+1,x=>sgn3 (sgn r k x.1) (sgn r k x.2) (sgn r k (r k)) (sgn r k (norm r k x))
theorem add_zero:∀(k:Nat)(x:T k),add k x (zero k)=x
 |0,x=>Rat.add_zero x
 |k+1,x=>by simp only[add,zero,add_zero k]
theorem zero_add:∀(k:Nat)(x:T k),add k (zero k) x=x
 |0,x=>Rat.zero_add x
 |k+1,x=>by simp only[add,zero,zero_add k]
theorem add_comm:∀(k:Nat)(x y:T k),add k x y=add k y x
 |0,x,y=>Rat.add_comm x y
 |k+1,x,y=>by simp only[add,add_comm k x.1,add_comm k x.2]
theorem add_assoc:∀(k:Nat)(x y z:T k),add k (add k x y) z=add k x (add k y z)
 |0,x,y,z=>Rat.add_assoc x y z
 |k+1,x,y,z=>by simp only[add,add_assoc k]
theorem neg_zero:∀(k:Nat),neg k (zero k)=zero k
 |0=>by show -(0:Rat)=0;grind
 |k+1=>by simp only[neg,zero,neg_zero k]
theorem add_neg:∀(k:Nat)(x:T k),add k x (neg k x)=zero k
 |0,x=>by show(x:Rat)+-x=0;grind
 |k+1,x=>by simp only[add,neg,zero,add_neg k]
theorem zero_mul(r:(k:Nat)->T k):∀(k:Nat)(x:T k),mul r k (zero k) x=zero k
 |0,x=>Rat.zero_mul x
 |k+1,x=>by simp only[mul,zero,zero_mul r k,add_zero]
theorem mul_zero(r:(k:Nat)->T k):∀(k:Nat)(x:T k),mul r k x (zero k)=zero k
 |0,x=>Rat.mul_zero x
 |k+1,x=>by
  simp only[mul,zero,mul_zero r k,add_zero]
  have h:mul r k (zero k) (r k)=zero k:=by
   have:=zero_mul r k (r k);exact this
  rw[h];simp only[add_zero]
theorem mul_comm(r:(k:Nat)->T k):∀(k:Nat)(x y:T k),mul r k x y=mul r k y x
 |0,x,y=>Rat.mul_comm x y
 |k+1,x,y=>by
  simp only[mul];rw[mul_comm r k x.1 y.1,mul_comm r k x.2 y.2,mul_comm r k x.1 y.2,mul_comm r k x.2 y.1,add_comm k (mul r k y.2 x.1)]
theorem sgn_zero(r:(k:Nat)->T k):∀k,sgn r k (zero k)=0
 |0=>rfl
 |k+1=>by
  simp only[sgn,zero,sgn_zero r k,sgn3];split
  ·rfl
  ·simp
theorem sgn_low(r:(k:Nat)->T k)(k:Nat)(x:T k):sgn r (k+1) (x,zero k)=sgn r k x:=by
 simp only[sgn,sgn_zero,sgn3];split
 ·rfl
 ·simp
theorem sgnQ_cases(q:Rat):b9 q=-1\/b9 q=0\/b9 q=1:=by
 unfold b9;split
 ·exact .inl rfl
 ·split
  ·exact .inr (.inr rfl)
  ·exact .inr (.inl rfl)
theorem sgn_cases(r:(k:Nat)->T k):∀(k:Nat)(x:T k),sgn r k x=-1\/sgn r k x=0\/sgn r k x=1
 |0,x=>sgnQ_cases x
 |k+1,x=>by
  simp only[sgn,sgn3];have h1:=sgn_cases r k x.1;have h2:=sgn_cases r k x.2;have h4:=sgn_cases r k (norm r k x);split
  ·exact h1
  ·split
   ·exact h1
   ·split
    ·exact h2
    ·rcases h1 with h |h |h <;> rcases h4 with h' |h' |h' <;> rw[h,h'] <;> simp
end T
def af:(k:Nat)->List Rat->T k
  |0,l=>l.getD 0 0
  |k+1,l=>(af k (l.take (2^k)),af k (l.drop (2^k)))
theorem o4{l:List Rat}{n i:Nat}:(l.take n).getD i 0=if i<n then l.getD i 0 else 0:=by
 simp only[anm,aof];split <;> simp
theorem oU{l:List Rat}{n i:Nat}:(l.drop n).getD i 0=l.getD (n+i) 0:=by
 simp only[anm,aop]
theorem tv:∀(k:Nat){a b:List Rat},(∀i,i<2^k->a.getD i 0=b.getD i 0)->af k a=af k b
 |0,a,b,h=>h 0 (by decide)
 |k+1,a,b,h=>by
  have h1:=tv k (a:=a.take (2^k)) (b:=b.take (2^k)) (fun i hi=>by rw[o4,o4,aoz hi,aoz hi];exact h i (by rw[ajq];omega));have h2:=tv k (a:=a.drop (2^k)) (b:=b.drop (2^k)) (fun i hi=>by rw[oU,oU];exact h _ (by rw[ajq];omega));simp only[af,h1,h2]
theorem GK:∀(k:Nat){a b c:List Rat},(∀i,i<2^k->c.getD i 0=a.getD i 0+b.getD i 0)->af k c=T.add k (af k a) (af k b)
 |0,a,b,c,h=>h 0 (by decide)
 |k+1,a,b,c,h=>by
  have h1:=GK k (a:=a.take (2^k)) (b:=b.take (2^k)) (c:=c.take (2^k)) (fun i hi=>by rw[o4,o4,o4,aoz hi,aoz hi,aoz hi];exact h i (by rw[ajq];omega));have h2:=GK k (a:=a.drop (2^k)) (b:=b.drop (2^k)) (c:=c.drop (2^k)) (fun i hi=>by rw[oU,oU,oU];exact h _ (by rw[ajq];omega));simp only[af,T.add,h1,h2]
theorem Hb:∀(k:Nat){a c:List Rat},(∀i,i<2^k->c.getD i 0=-a.getD i 0)->af k c=T.neg k (af k a)
 |0,a,c,h=>h 0 (by decide)
 |k+1,a,c,h=>by
  have h1:=Hb k (a:=a.take (2^k)) (c:=c.take (2^k)) (fun i hi=>by rw[o4,o4,aoz hi,aoz hi];exact h i (by rw[ajq];omega));have h2:=Hb k (a:=a.drop (2^k)) (c:=c.drop (2^k)) (fun i hi=>by rw[oU,oU];exact h _ (by rw[ajq];omega));simp only[af,T.neg,h1,h2]
theorem Be:∀(k:Nat){a:List Rat},(∀i,i<2^k->a.getD i 0=0)->af k a=T.zero k
 |0,a,h=>h 0 (by decide)
 |k+1,a,h=>by
  have h1:=Be k (a:=a.take (2^k)) (fun i hi=>by rw[o4,aoz hi];exact h i (by rw[ajq];omega));have h2:=Be k (a:=a.drop (2^k)) (fun i hi=>by rw[oU];exact h _ (by rw[ajq];omega));simp only[af,T.zero,h1,h2]
theorem Eu{l:List Rat}{i:Nat}(h:l.length<=i):l.getD i 0=0:=by
 simp[anm,an2 h]
theorem jX(k:Nat):af k []=T.zero k:=Be k (fun i _=>by simp)
theorem jy{k:Nat}{a:List Rat}(h:a.length<=2^k):af (k+1) a=(af k a,T.zero k):=by
 have h1:a.take (2^k)=a:=an1 h;have h2:a.drop (2^k)=[]:=aoi h;simp only[af,h1,h2,jX]
theorem pO(k:Nat)(q:Rat):af k [q]=T.ofQ k q:=by
 induction k with
 |zero=>rfl
 |succ k ih=>rw[jy (by simp;exact ajr),ih];rfl
def a7(a:List Rat)(n:Nat):List Rat:=a++als (n-a.length) 0
def cQ(a b:List Rat):List Rat:=List.zipWith (·+·) (a7 a (max a.length b.length)) (a7 b (max a.length b.length))
def dq(a:List Rat):List Rat:=a.map (- ·)
def gV(a b:List Rat)(n:Nat):List Rat:=a7 a n++a7 b n
def bN(a:List Rat):Bool:=a.all (fun q=>decide (q=0))
theorem fg{a:List Rat}{n:Nat}(h:a.length<=n):(a7 a n).length=n:=by simp[a7];omega
theorem fT{a b:List Rat}:(cQ a b).length=max a.length b.length:=by
 simp only[cQ,List.length_zipWith];rw[fg oz,fg oz];omega
theorem kP{a:List Rat}:(dq a).length=a.length:=by simp[dq]
theorem uo{a b:List Rat}{n:Nat}(h:a.length<=n)(h':b.length<=n):(gV a b n).length=n+n:=by simp[gV,fg h,fg h']
theorem tA{a:List Rat}{n i:Nat}:(a7 a n).getD i 0=a.getD i 0:=by
 simp only[a7,anm]
 by_cases h:i<a.length
 ·rw[an8 h]
 ·rw[an7 oz,an2 (l:=a) oz,aoh];split <;> rfl
theorem IK{a b:List Rat}{i:Nat}:(cQ a b).getD i 0=a.getD i 0+b.getD i 0:=by
 by_cases h:i<max a.length b.length
 ·have e:(cQ a b).getD i 0=(a7 a (max a.length b.length)).getD i 0+(a7 b (max a.length b.length)).getD i 0:=by
   have ha:i<(a7 a (max a.length b.length)).length:=by rw[fg oz];exact h
   have hb:i<(a7 b (max a.length b.length)).length:=by rw[fg oz];exact h
   simp only[cQ,anm,List.getElem?_zipWith,ano ha,ano hb,ani]
  rw[e,tA,tA]
 ·rw[Eu (by rw[fT];omega),Eu oz,Eu oz,Rat.add_zero]
theorem Nr{a:List Rat}{i:Nat}:(dq a).getD i 0=-a.getD i 0:=by
 simp only[dq,anm,anr];cases a[i]? with
 |none=>show(0:Rat)=-0;grind
 |some x=>rfl
theorem IE{a b:List Rat}{n i:Nat}(h:a.length<=n):(gV a b n).getD i 0=if i<n then a.getD i 0 else b.getD (i-n) 0:=by
 have hl:=fg h;simp only[gV];split
 ·rw[<- tA (a:=a) (n:=n),anm,anm,an8 oz]
 ·rw[<- tA (a:=b) (n:=n),anm,anm,an7 oz,hl]
theorem rO(k:Nat){a:List Rat}{n:Nat}:af k (a7 a n)=af k a:=tv k (fun i _=>tA)
theorem kU(k:Nat){a b:List Rat}:af k (cQ a b)=T.add k (af k a) (af k b):=GK k (fun i _=>IK)
theorem q9(k:Nat){a:List Rat}:af k (dq a)=T.neg k (af k a):=Hb k (fun i _=>Nr)
theorem BI{k:Nat}{a b:List Rat}(h:a.length<=2^k):af (k+1) (gV a b (2^k))=(af k a,af k b):=by
 have h1:af k ((gV a b (2^k)).take (2^k))=af k a:=tv k (fun i hi=>by rw[o4,aoz hi,IE h,aoz hi]);have h2:af k ((gV a b (2^k)).drop (2^k))=af k b:=tv k (fun i hi=>by rw[oU,IE h,aoy oz];congr 1;omega);simp only[af,h1,h2]
theorem Ez{k:Nat}{a:List Rat}(h:bN a=true):af k a=T.zero k:=by
 refine Be k (fun i _=>?_);rw[anm];cases hx:a[i]? with
 |none=>rfl
 |some x =>
  have:=anx.1 h x (ank hx);simpa using this
def Nl(k:Nat)(a:List Rat):Prop:=a=[]\/∃j,j<=k/\a.length=2^j
theorem Nl.le{k:Nat}{a:List Rat}(h:Nl k a):a.length<=2^k:=by
 rcases h with rfl |⟨j,hj,h⟩
 ·simp
 ·rw[h];exact akl oz hj
theorem Nl.mono{k l:Nat}{a:List Rat}(h:Nl k a)(hl:k<=l):Nl l a:=by
 rcases h with h |⟨j,hj,h⟩
 ·exact .inl h
 ·exact .inr ⟨j,by omega,h⟩
def az(ts:LL)(k:Nat):T k:=af k (ts.getD k [])
def pT(ts:LL):Nat->List Rat->List Rat->List Rat
  |k,a,b =>
    let x:=if a.length<b.length then b else a
    let y:=if a.length<b.length then a else b
    if bN x||bN y then[]else if x.length=1 then[x.getD 0 0*y.getD 0 0]
    else match k with
      |0=>[]
      |k+1 =>
        if y.length<=x.length/2 then gV (pT ts k (x.take (x.length/2)) y) (pT ts k (x.drop (x.length/2)) y) (x.length/2)
        else gV (cQ (pT ts k (x.take (x.length/2)) (y.take (x.length/2))) (pT ts k (pT ts k (x.drop (x.length/2)) (y.drop (x.length/2))) (ts.getD (x.length.log2-1) [])))
          (cQ (pT ts k (x.take (x.length/2)) (y.drop (x.length/2))) (pT ts k (x.drop (x.length/2)) (y.take (x.length/2)))) (x.length/2)
theorem T.mul_low(r:(k:Nat)->T k)(k:Nat)(x u:T k):T.mul r (k+1) (x,T.zero k) (u,T.zero k)=(T.mul r k x u,T.zero k):=by
 simp only[T.mul,T.mul_zero,T.zero_mul,T.add_zero]
theorem T.mul_half(r:(k:Nat)->T k)(k:Nat)(x y u:T k):T.mul r (k+1) (x,y) (u,T.zero k)=(T.mul r k x u,T.mul r k y u):=by
 simp only[T.mul,T.mul_zero,T.zero_mul,T.add_zero,T.zero_add]
theorem T.mul_ofQ(r:(k:Nat)->T k):∀(k:Nat)(p q:Rat),T.mul r k (T.ofQ k p) (T.ofQ k q)=T.ofQ k (p*q)
 |0,p,q=>rfl
 |k+1,p,q=>by simp only[T.ofQ];rw[T.mul_low,T.mul_ofQ r k]
theorem TH:bN []=true:=rfl
theorem EC(j:Nat):(2^(j+1)).log2-1=j:=by rw[Nat.log2_two_pow];omega
theorem iX{j:Nat}{a:List Rat}(h:a.length=2^(j+1)):(a.take (2^j)).length=2^j:=by
 simp[h,ajq];omega
theorem jk{j:Nat}{a:List Rat}(h:a.length=2^(j+1)):(a.drop (2^j)).length=2^j:=by
 simp[h,ajq];omega
theorem iF(j:Nat):2^(j+1)/2=2^j:=by rw[ajq];omega
theorem FV(ts:LL)(k:Nat)(a b:List Rat)(h:a.length<b.length):pT ts k a b=pT ts k b a:=by
 unfold pT;simp only[aoz h,aoy (show ¬b.length<a.length by omega)]
theorem KW(ts:LL)(Q:Nat->List Rat->List Rat->List Rat->Prop)
  (Rb:∀j a b c,Q j a b c->Q j b a c)
  (iu:∀j a b,Nl j a->Nl j b->(bN a=true\/bN b=true)->Q j a b [])
  (lG:∀j p q,Q j [p] [q] [p*q])
  (Dk:∀j a b c,Nl j a->Nl j b->Q j a b c->Q (j+1) a b c)
  (ai2:∀j a b c d,a.length=2^(j+1)->Nl j b->Q j (a.take (2^j)) b c->Q j (a.drop (2^j)) b d->Q (j+1) a b (gV c d (2^j)))
  (HY:∀j a b c1 c2 c3 c4 c5,a.length=2^(j+1)->b.length=2^(j+1)->Q j (a.take (2^j)) (b.take (2^j)) c1->Q j (a.drop (2^j)) (b.drop (2^j)) c2 ->
   Q j c2 (ts.getD j []) c3->Q j (a.take (2^j)) (b.drop (2^j)) c4->Q j (a.drop (2^j)) (b.take (2^j)) c5->Q (j+1) a b (gV (cQ c1 c3) (cQ c4 c5) (2^j)))
  (fA:∀j a b c,Q j a b c->Nl j c) (m:Nat) (hr:∀j,j<m->Nl j (ts.getD j [])) :
  ∀(j k:Nat)(a b:List Rat),j<=m->j<=k->Nl j a->Nl j b->Q j a b (pT ts k a b):=by
 intro j
 induction j with
 |zero =>
  intro k a b _ _ ha hb;have lH:=ha.le;have dU:=hb.le
  have key:∀a b:List Rat,Nl 0 a->Nl 0 b->¬a.length<b.length->Q 0 a b (pT ts k a b):=by
   intro a b ha hb hlt;have lH:=ha.le;have dU:=hb.le;unfold pT;simp only[aoy hlt];split
   ·rename_i h;rw[aos]at h;exact iu 0 a b ha hb h
   ·rename_i h;simp only [aos,not_or,Bool.not_eq_true] at h;have h1:a≠[]:=fun h'=>by rw[h'] at h; cases h.1
    have h2:b≠[]:=fun h'=>by rw[h']at h;cases h.2
    obtain⟨p,rfl⟩:∃p,a=[p]:=alm.1 (by have:=ale.2 h1;omega);obtain⟨q,rfl⟩:∃q,b=[q]:=alm.1 (by have:=ale.2 h2;omega);simp only[an0,aoa,if_true];exact lG 0 p q
  by_cases hlt:a.length<b.length
  ·rw[FV ts k a b hlt];exact Rb _ _ _ _ (key b a hb ha oz)
  ·exact key a b ha hb hlt
 |succ j ih =>
  intro k a b Rc hO ha hb
  have key:∀a b:List Rat,Nl (j+1) a->Nl (j+1) b->¬a.length<b.length->Q (j+1) a b (pT ts k a b):=by
   intro a b ha hb hlt
   by_cases hs:Nl j a
   ·have dV:Nl j b:=by
     rcases hb with rfl |⟨i,hi,h⟩
     ·exact .inl rfl
     ·by_cases dL:i<=j
      ·exact .inr ⟨i,dL,h⟩
      ·have h1:=hs.le;have h2:2^(j+1)<=2^i:=akl oz oz;rw[ajq]at h2;have:=aku j;omega
    exact Dk j a b _ hs dV (ih k a b oz oz hs dV)
   ·have bQ:a.length=2^(j+1):=by
     rcases ha with rfl |⟨i,hi,h⟩
     ·exact ao5 (.inl rfl) hs
     ·by_cases dL:i<=j
      ·exact ao5 (.inr ⟨i,dL,h⟩) hs
      ·rw[h,show i=j+1 by omega]
    obtain⟨k,rfl⟩:∃k',k=k'+1:=⟨k-1,by omega⟩
    have h2j:=aku j;have hx:Nl j (a.take (2^j)):=.inr ⟨j,anp _,iX bQ⟩;have hy:Nl j (a.drop (2^j)):=.inr ⟨j,anp _,jk bQ⟩;unfold pT;simp only[aoy hlt];split
    ·rename_i h;rw[aos]at h;exact iu _ a b ha hb h
    ·rename_i h;simp only [aos,not_or,Bool.not_eq_true] at h;rw[aoy (by rw[bQ,ajq]; omega)];simp only [bQ,iF,EC];split
     ·rename_i pb
      have dV:Nl j b:=by
       rcases hb with rfl |⟨i,hi,h'⟩
       ·exact .inl rfl
       ·by_cases dL:i<=j
        ·exact .inr ⟨i,dL,h'⟩
        ·have h2:2^(j+1)<=2^i:=akl oz oz;rw[ajq]at h2;omega
      exact ai2 j a b _ _ bQ dV (ih k _ _ oz oz hx dV) (ih k _ _ oz oz hy dV)
     ·rename_i pb
      have HZ:b.length=2^(j+1):=by
       rcases hb with rfl |⟨i,hi,h'⟩
       ·simp at pb
       ·by_cases dL:i<=j
        ·have:2^i<=2^j:=akl oz dL;omega
        ·rw[h',show i=j+1 by omega]
      have hu:Nl j (b.take (2^j)):=.inr ⟨j,anp _,iX HZ⟩;have hv:Nl j (b.drop (2^j)):=.inr ⟨j,anp _,jk HZ⟩;have h2:=ih k _ _ oz oz hy hv;exact HY j a b _ _ _ _ _ bQ HZ (ih k _ _ oz oz hx hu) h2 (ih k _ _ oz oz (fA _ _ _ _ h2) (hr j oz)) (ih k _ _ oz oz hx hv) (ih k _ _ oz oz hy hu)
  by_cases hlt:a.length<b.length
  ·rw[FV ts k a b hlt];exact Rb _ _ _ _ (key b a hb ha oz)
  ·exact key a b ha hb hlt
theorem ju(ts:LL)(m:Nat)(hr:∀j,j<m->Nl j (ts.getD j []))(j k:Nat)(a b:List Rat)(hj:j<=m)(hk:j<=k)(ha:Nl j a)(hb:Nl j b) :
  Nl j (pT ts k a b)/\af j (pT ts k a b)=T.mul (az ts) j (af j a) (af j b):=by
 refine KW ts (fun j a b c=>Nl j c/\af j c=T.mul (az ts) j (af j a) (af j b)) ?_ ?_ ?_ ?_ ?_ ?_ (fun _ _ _ _ h=>h.1) m hr j k a b hj hk ha hb
 ·intro j a b c h;exact⟨h.1,by rw[h.2,T.mul_comm]⟩
 ·intro j a b ha hb h;refine⟨.inl rfl,?_⟩;rw[jX];rcases h with h |h
  ·rw[Ez h,T.zero_mul]
  ·rw[Ez h,T.mul_zero]
 ·intro j p q;exact⟨.inr ⟨0,ans _,rfl⟩,by rw[pO,pO,pO,T.mul_ofQ]⟩
 ·intro j a b c ha hb h;refine⟨h.1.mono oz,?_⟩;rw[jy ha.le,jy hb.le,jy h.1.le,T.mul_low,h.2]
 ·intro j a b c d ha hb hc hd;refine⟨.inr ⟨j+1,anp _,?_⟩,?_⟩
  ·rw[uo hc.1.le hd.1.le,ajq];omega
  ·rw[BI hc.1.le,jy hb.le,hc.2,hd.2];simp only[af];rw[T.mul_half]
 ·intro j a b c1 c2 c3 c4 c5 ha hb h1 h2 h3 h4 h5;refine⟨.inr ⟨j+1,anp _,?_⟩,?_⟩
  ·have l1:=h1.1.le;have l3:=h3.1.le;have l4:=h4.1.le;have l5:=h5.1.le;rw[uo (by rw[fT];omega) (by rw[fT];omega),ajq];omega
  ·have l1:=h1.1.le;have l3:=h3.1.le;rw[BI (by rw[fT];omega),kU,kU,h1.2,h3.2,h4.2,h5.2,h2.2];rfl
def bI:Nat->List Rat->List Rat
  |0,a=>if bN a then[]else a
  |j+1,a=>if bN (a.drop (2^j))then bI j (a.take (2^j))else a
def T.isZ:(k:Nat)->T k->Bool
  |0,q=>decide ((q:Rat)=0)
  |k+1,x=>isZ k x.1&&isZ k x.2
theorem T.isZ_iff:∀(k:Nat)(x:T k),T.isZ k x=true↔x=T.zero k
 |0,x=>by simp only[T.isZ,ao0];rfl
 |k+1,x=>by
  simp only[T.isZ,anq,T.isZ_iff k,T.zero];constructor
  ·intro h;exact Prod.ext h.1 h.2
  ·intro h;rw[h];exact⟨rfl,rfl⟩
def enc:(k:Nat)->T k->List Rat
  |0,q=>[q]
  |k+1,x=>enc k x.1++enc k x.2
def sh:(k:Nat)->T k->List Rat
  |0,q=>if(q:Rat)=0 then[]else[q]
  |k+1,x=>if T.isZ k x.2 then sh k x.1 else enc k x.1++enc k x.2
theorem sN:∀(k:Nat)(x:T k),(enc k x).length=2^k
 |0,x=>rfl
 |k+1,x=>by simp only[enc,aoe,sN k];rw[ajq];omega
theorem Bo:∀(k:Nat)(x:T k),af k (enc k x)=x
 |0,x=>rfl
 |k+1,x=>by
  simp only[enc,af]
  rw[ak9 (by rw[sN]; exact anp _),an1 (by rw[sN]; exact anp _),al1 (by rw[sN]; exact anp _),
   aoi (by rw[sN];exact anp _),nil_append,Bo k,Bo k]
theorem wJ:∀(k:Nat)(a:List Rat),a.length=2^k->enc k (af k a)=a
 |0,a,h=>by
  obtain⟨p,rfl⟩:=alm.1 h;rfl
 |k+1,a,h=>by
  simp only[enc,af];rw[wJ k _ (iX h),wJ k _ (jk h),alg]
theorem Tq{k:Nat}{a:List Rat}(h:a.length<=2^k):bN a=T.isZ k (af k a):=by
 rw[amu,T.isZ_iff];constructor
 ·exact Ez
 ·intro h0;have h1:enc k (af k (a7 a (2^k)))=a7 a (2^k):=wJ k _ (fg h);rw[rO,h0]at h1
  have h2:∀k,bN (enc k (T.zero k))=true:=by
   intro k
   induction k with
   |zero=>rfl
   |succ k ih=>simp only[enc,T.zero,bN,all_append,anq]at ih ⊢;exact⟨ih,ih⟩
  have h3:=h2 k;rw[h1]at h3;simp only[bN,a7,all_append,anq]at h3;exact h3.1
theorem DU:∀(k:Nat){a:List Rat},Nl k a->bI k a=sh k (af k a)
 |0,a,h=>by
  have hl:=h.le;simp only[bI,sh]
  match a,hl with
  |[],_=>rfl
  |[p],_=>simp[bN,af]
 |k+1,a,h=>by
  have hl:=h.le;have h1:(a.drop (2^k)).length<=2^k:=by simp;rw[ajq]at hl;omega
  have e1:bI (k+1) a=if bN (a.drop (2^k))=true then bI k (a.take (2^k))else a:=rfl;have e2:∀x y:T k,sh (k+1) (x,y)=if T.isZ k y=true then sh k x else enc k x++enc k y:=fun _ _=>rfl
  rw[e1,show af (k+1) a=(af k (a.take (2^k)),af k (a.drop (2^k)))from rfl,e2,Tq h1]
  by_cases hz:T.isZ k (af k (a.drop (2^k)))=true
  ·rw[aoz hz,aoz hz];refine DU k ?_;rcases h with rfl |⟨j,hj,h⟩
   ·exact .inl (by simp)
   ·by_cases hO:j<=k
    ·rw[an1 (by rw[h];exact akl oz hO)];exact .inr ⟨j,hO,h⟩
    ·exact .inr ⟨k,anp _,iX (by rw[h,show j=k+1 by omega])⟩
  ·rw[aoy hz,aoy hz]
   have bK:a.length=2^(k+1):=by
    rcases h with rfl |⟨j,hj,h⟩
    ·exfalso;apply hz
     rw[List.drop_nil,T.isZ_iff,jX]
    ·by_cases hO:j<=k
     ·exfalso;apply hz
      rw[aoi (by rw[h];exact akl oz hO),T.isZ_iff,jX]
     ·rw[h,show j=k+1 by omega]
   rw[wJ k _ (iX bK),wJ k _ (jk bK),alg]
theorem ek:∀(k:Nat)(x:T k),Nl k (sh k x)
 |0,q=>by
  simp only[sh];split
  ·exact .inl rfl
  ·exact .inr ⟨0,anp _,rfl⟩
 |k+1,x=>by
  simp only[sh];split
  ·exact(ek k x.1).mono oz
  ·exact .inr ⟨k+1,anp _,by rw[aoe,sN,sN,ajq];omega⟩
theorem bn:∀(k:Nat)(x:T k),af k (sh k x)=x
 |0,q=>by
  simp only[sh];split
  ·rename_i h;exact h.symm
  ·rfl
 |k+1,x=>by
  simp only[sh];split
  ·rename_i h;rw[T.isZ_iff]at h;rw[jy (ek k x.1).le,bn k,<- h]
  ·exact Bo (k+1) x
theorem Yo{k:Nat}{x:T (k+1)}(h:T.isZ k x.2=false):(sh (k+1) x).length=2^(k+1):=by
 simp only[sh,h,ams,if_false,aoe,sN];rw[ajq];omega
def Cd(D N:Nat)(l:List Rat):Prop:=0<D/\∀q∈l,∃n:Int,q*((D:Int):Rat)=(n:Rat)/\n.natAbs<=N
theorem Cd.mono{D N N':Nat}{l:List Rat}(h:Cd D N l)(hn:N<=N'):Cd D N' l :=
 ⟨h.1,fun q hq=>by obtain⟨n,h1,h2⟩:=h.2 q hq;exact⟨n,h1,by omega⟩⟩
theorem Cd.sub{D N:Nat}{l l':List Rat}(h:Cd D N l)(hs:∀q∈l',q∈l):Cd D N l':=⟨h.1,fun q hq=>h.2 q (hs q hq)⟩
theorem Cd.scale{D N c:Nat}{l:List Rat}(h:Cd D N l)(hc:0<c):Cd (D*c) (N*c) l:=by
 refine⟨aju h.1 hc,fun q hq=>?_⟩;obtain⟨n,h1,h2⟩:=h.2 q hq;refine⟨n*c,?_,?_⟩
 ·rw[Int.natCast_mul,ami,<- Rat.mul_assoc,h1,ami]
 ·rw[al3,aoj];exact aod _ h2
theorem Cd.nil{D N:Nat}(h:0<D):Cd D N []:=⟨h,fun q hq=>by cases hq⟩
theorem Cd.app{D N:Nat}{a b:List Rat}(h:Cd D N a)(h':Cd D N b):Cd D N (a++b) :=
 ⟨h.1,fun q hq=>by rcases anz.1 hq with hq |hq;exact h.2 q hq;exact h'.2 q hq⟩
theorem Cd.zeros{D N n:Nat}(h:0<D):Cd D N (als n 0) :=
 ⟨h,fun q hq=>⟨0,by rw[(ak4.1 hq).2,Rat.zero_mul];rfl,by simp⟩⟩
theorem Cd.wide{D N n:Nat}{a:List Rat}(h:Cd D N a):Cd D N (a7 a n):=h.app (Cd.zeros h.1)
theorem Cd.join{D N n:Nat}{a b:List Rat}(h:Cd D N a)(h':Cd D N b):Cd D N (gV a b n):=h.wide.app h'.wide
theorem Cd.minus{D N:Nat}{a:List Rat}(h:Cd D N a):Cd D N (dq a):=by
 refine⟨h.1,fun q hq=>?_⟩;obtain⟨p,hp,rfl⟩:=al0.1 hq;obtain⟨n,h1,h2⟩:=h.2 p hp;refine⟨-n,?_,by omega⟩;rw[Rat.intCast_neg,<- h1,Rat.neg_mul]
theorem Cd.plus{D N N':Nat}{a b:List Rat}(h:Cd D N a)(h':Cd D N' b):Cd D (N+N') (cQ a b):=by
 refine⟨h.1,fun q hq=>?_⟩;have h1:Cd D N (a7 a (max a.length b.length)):=h.wide;have h2:Cd D N' (a7 b (max a.length b.length)):=h'.wide;unfold cQ at hq;obtain⟨i,hi,rfl⟩:=alx.1 hq;rw[List.getElem_zipWith];obtain⟨n,e1,e2⟩:=h1.2 _ (ali (by simp at hi;omega:i<(a7 a (max a.length b.length)).length));obtain⟨m,e3,e4⟩:=h2.2 _ (ali (by simp at hi;omega:i<(a7 b (max a.length b.length)).length));refine⟨n+m,?_,by have:=Int.natAbs_add_le n m;omega⟩;rw[Rat.add_mul,e1,e3,Rat.intCast_add]
theorem Cd.mul1{D N D' N':Nat}{p q:Rat}(h:Cd D N [p])(h':Cd D' N' [q]):Cd (D*D') (N*N') [p*q]:=by
 refine⟨aju h.1 h'.1,fun x hx=>?_⟩;rw[alr.1 hx];obtain⟨n,e1,e2⟩:=h.2 p (by simp);obtain⟨m,e3,e4⟩:=h'.2 q (by simp);refine⟨n*m,?_,by rw[al3];exact akw e2 e4⟩;rw[ami,<- e1,<- e3,Int.natCast_mul,ami];grind
theorem Cd.qb{D N e:Nat}{l:List Rat}(h:Cd D N l)(hD:D<2^e)(hN:N<2^e){q:Rat}(hq:q∈l):Qb e q:=by
 obtain⟨n,h1,h2⟩:=h.2 q hq
 have hD0:((D:Int):Rat)≠0:=by
  intro h0;have:(D:Int)=0:=amk.1 h0;have:=h.1;omega
 have fB:q=amj n D:=by
  rw[amg,<- h1,Rat.mul_div_cancel hD0]
 have h0:=h.1;obtain⟨e1,e2⟩:=BH (n:=n) (d:=(D:Int)) oz;rw[fB];refine⟨by omega,by rw[aoj]at e2;omega⟩
def rR(D:Nat):Nat->Nat
  |0=>1
  |j+1=>rR D j*rR D j*D
def rM(D N:Nat):Nat->Nat
  |0=>1
  |j+1=>2*(rM D N j*rM D N j*(D+N))
theorem lr{D:Nat}(h:0<D):∀j,0<rR D j
 |0=>by simp[rR]
 |j+1=>aju (aju (lr h j) (lr h j)) h
theorem oI(D N:Nat):∀j,rR D j<=rM D N j
 |0=>anp _
 |j+1=>by
  have h1:=akw (akw (oI D N j) (oI D N j)) (aj0 D N);simp only[rR,rM];omega
theorem VV(ts:LL)(m D N:Nat)(pc:∀j,j<m->Nl j (ts.getD j [])/\Cd D N (ts.getD j []))(hD:0<D)(j k:Nat)(a b:List Rat)(hj:j<=m)(hk:j<=k)(ha:Nl j a)(hb:Nl j b)
  {Da Na Db Nb:Nat} (ca:Cd Da Na a) (cb:Cd Db Nb b):Cd (Da*Db*rR D j) (Na*Nb*rM D N j) (pT ts k a b):=by
 have key:=KW ts (fun j a b c=>Nl j c/\(j<=m->∀Da Na Db Nb:Nat,Cd Da Na a->Cd Db Nb b->Cd (Da*Db*rR D j) (Na*Nb*rM D N j) c)) ?_ ?_ ?_ ?_ ?_ ?_ (fun _ _ _ _ h=>h.1) m (fun j hj=>(pc j hj).1) j k a b hj hk ha hb
 ·exact key.2 hj _ _ _ _ ca cb
 ·intro j a b c h;refine⟨h.1,fun hj Da Na Db Nb ca cb=>?_⟩;rw[ajt Da,ajt Na];exact h.2 hj _ _ _ _ cb ca
 ·intro j a b ha hb h;exact⟨.inl rfl,fun hj Da Na Db Nb ca cb=>Cd.nil (aju (aju ca.1 cb.1) (lr hD j))⟩
 ·intro j p q;refine⟨.inr ⟨0,ans _,rfl⟩,fun hj Da Na Db Nb ca cb=>?_⟩;have h1:=(ca.mul1 cb).scale (lr hD j);exact h1.mono (ant _ (oI D N j))
 ·intro j a b c ha hb h;refine ⟨h.1.mono oz,fun hj Da Na Db Nb ca cb=>?_⟩;have h1:=(h.2 oz _ _ _ _ ca cb).scale (aju (lr hD j) hD);have e1:Da*Db*rR D j*(rR D j*D)=Da*Db*rR D (j+1):=by simp only [rR]; grind
  rw[e1]at h1;refine h1.mono ?_;have h2:=ant (rM D N j) (akw (oI D N j) (aj0 D N));have h3:rM D N j*(rR D j*D)<=rM D N (j+1):=by simp only[rM,akt]at *;omega
  rw[akt (Na*Nb)];exact ant _ h3
 ·intro j a b c d ha hb hc hd;refine ⟨.inr ⟨j+1,anp _,by rw[uo hc.1.le hd.1.le,ajq]; omega⟩,fun hj Da Na Db Nb ca cb=>?_⟩;have ca1:Cd Da Na (a.take (2 ^ j)):=ca.sub (fun q hq=>aot hq);have ca2:Cd Da Na (a.drop (2 ^ j)):=ca.sub (fun q hq=>alw hq);have h1:=((hc.2 oz _ _ _ _ ca1 cb).join (hd.2 oz _ _ _ _ ca2 cb) (n:=2 ^ j)).scale (aju (lr hD j) hD);have e1:Da*Db*rR D j*(rR D j*D)=Da*Db*rR D (j+1):=by simp only [rR]; grind
  rw[e1]at h1;refine h1.mono ?_;have h2:=ant (rM D N j) (akw (oI D N j) (aj0 D N));have h3:rM D N j*(rR D j*D)<=rM D N (j+1):=by simp only[rM,akt]at *;omega
  rw[akt (Na*Nb)];exact ant _ h3
 ·intro j a b c1 c2 c3 c4 c5 ha hb h1 h2 h3 h4 h5;refine⟨.inr ⟨j+1,anp _,?_⟩,fun hj Da Na Db Nb ca cb=>?_⟩
  ·have l1:=h1.1.le;have l3:=h3.1.le;have l4:=h4.1.le;have l5:=h5.1.le;rw[uo (by rw[fT];omega) (by rw[fT];omega),ajq];omega
  have ca1:Cd Da Na (a.take (2^j)):=ca.sub (fun q hq=>aot hq);have ca2:Cd Da Na (a.drop (2^j)):=ca.sub (fun q hq=>alw hq);have cb1:Cd Db Nb (b.take (2^j)):=cb.sub (fun q hq=>aot hq);have cb2:Cd Db Nb (b.drop (2^j)):=cb.sub (fun q hq=>alw hq);have k2:=h2.2 oz _ _ _ _ ca2 cb2;have k3:=h3.2 oz _ _ _ _ k2 (pc j oz).2;have k1:=(h1.2 oz _ _ _ _ ca1 cb1).scale (aju (lr hD j) hD);have k4:=(h4.2 oz _ _ _ _ ca1 cb2).scale (aju (lr hD j) hD);have k5:=(h5.2 oz _ _ _ _ ca2 cb1).scale (aju (lr hD j) hD);have e1:Da*Db*rR D j*(rR D j*D)=Da*Db*rR D (j+1):=by simp only[rR];grind
  have e3:Da*Db*rR D j*D*rR D j=Da*Db*rR D (j+1):=by simp only[rR];grind
  rw[e1]at k1 k4 k5;rw[e3]at k3;have b1:rM D N j*(rR D j*D)<=rM D N j*rM D N j*D:=by rw[akt];exact ant _ (aod _ (oI D N j))
  have b2:∀x,Na*Nb*rM D N j*(rR D j*D)+Na*Nb*x<=Na*Nb*(rM D N j*rM D N j*D+x):=by
   intro x;rw[akc,akt (Na*Nb)];exact Nat.add_le_add_right (ant _ b1) _
  refine Cd.join (Cd.mono (k1.plus k3) ?_) (Cd.mono (k4.plus k5) ?_)
  ·have e4:Na*Nb*rM D N j*N*rM D N j=Na*Nb*(rM D N j*rM D N j*N):=by grind
   rw[e4];refine an4 (b2 _) (ant _ ?_);simp only[rM];rw[<- akc];omega
  ·have e4:Na*Nb*rM D N j*(rR D j*D)<=Na*Nb*(rM D N j*rM D N j*D):=by rw[akt (Na*Nb)]; exact ant _ b1
   refine an4 (Nat.add_le_add e4 e4) ?_;rw[<- akc];refine ant _ ?_;simp only[rM];have:=ant (rM D N j*rM D N j) (aj0 D N);omega
def eB(r:Nat):Nat->Nat
  |0=>0
  |j+1=>2*eB r j+r+2
theorem yy{D N r:Nat}(hD:D<=2^r)(hN:N<=2^r):∀j,rM D N j<=2^eB r j
 |0=>anp _
 |j+1=>by
  have h1:=yy hD hN j;have h2:=akw (akw h1 h1) (Nat.add_le_add hD hN);simp only[rM,eB]
  have e:2^(2*eB r j+r+2)=2*(2^eB r j*2^eB r j*(2^r+2^r)):=by
   rw[aoo,aoo,Nat.two_mul,aoo];grind
  rw[e];exact ant _ h2
def Cb(e:Nat)(l:List Rat):Prop:=∃D N,Cd D N l/\D<=2^e/\N<=2^e
def RB(r:Nat)(ts:LL):Prop:=∃D N,0<D/\(∀d∈ts,Cd D N d)/\D<=2^r/\N<=2^r
theorem cK{a b:Nat}(h:a<=b):2^a<=2^b:=akl oz h
theorem Cb.mono{e f:Nat}{l:List Rat}(h:Cb e l)(hf:e<=f):Cb f l:=by
 obtain⟨D,N,h1,h2,h3⟩:=h;exact⟨D,N,h1,an4 h2 (cK hf),an4 h3 (cK hf)⟩
theorem Cb.sub{e:Nat}{l l':List Rat}(h:Cb e l)(hs:∀q∈l',q∈l):Cb e l':=by
 obtain⟨D,N,h1,h2,h3⟩:=h;exact⟨D,N,h1.sub hs,h2,h3⟩
theorem Cb.take{e n:Nat}{l:List Rat}(h:Cb e l):Cb e (l.take n):=h.sub (fun q hq=>aot hq)
theorem Cb.drop{e n:Nat}{l:List Rat}(h:Cb e l):Cb e (l.drop n):=h.sub (fun q hq=>alw hq)
theorem Cb.nil:Cb 0 []:=⟨1,1,Cd.nil oz,by simp,by simp⟩
theorem Cb.wide{e n:Nat}{a:List Rat}(h:Cb e a):Cb e (a7 a n):=by
 obtain⟨D,N,h1,h2,h3⟩:=h;exact⟨D,N,h1.wide,h2,h3⟩
theorem Cb.minus{e:Nat}{a:List Rat}(h:Cb e a):Cb e (dq a):=by
 obtain⟨D,N,h1,h2,h3⟩:=h;exact⟨D,N,h1.minus,h2,h3⟩
theorem Cb.plus{e f:Nat}{a b:List Rat}(h:Cb e a)(h':Cb f b):Cb (e+f+1) (cQ a b):=by
 obtain⟨D,N,h1,h2,h3⟩:=h;obtain⟨D',N',h4,h5,h6⟩:=h';have k1:=h1.scale h4.1;have k2:=h4.scale h1.1;rw[ajt D']at k2;refine⟨_,_,k1.plus k2,?_,?_⟩
 ·rw[ajq,aoo];have:=akw h2 h5;omega
 ·rw[ajq,aoo];have e1:=akw h3 h5;have e2:=akw h6 h2;rw[ajt (2^f)]at e2;omega
theorem Cb.qb{e:Nat}{l:List Rat}(h:Cb e l){q:Rat}(hq:q∈l):Qb (e+1) q:=by
 obtain⟨D,N,h1,h2,h3⟩:=h;have:=aku e;exact h1.qb (by rw[ajq];omega) (by rw[ajq];omega) hq
theorem Cb.qs{e:Nat}{l:List Rat}(h:Cb e l)(he:e<4398046511104){q:Rat}(hq:q∈l):Qs q:=(h.qb hq).qs he
def kR(ts:LL)(m r:Nat):Prop:=(∀j,j<m->Nl j (ts.getD j []))/\RB r ts
theorem RB.get{r:Nat}{ts:LL}(h:RB r ts):∃D N,0<D/\(∀j,Cd D N (ts.getD j []))/\D<=2^r/\N<=2^r:=by
 obtain⟨D,N,h0,h1,h2,h3⟩:=h;refine⟨D,N,h0,fun j=>?_,h2,h3⟩;rw[anm];cases hx:ts[j]? with
 |none=>exact Cd.nil h0
 |some d=>exact h1 d (ank hx)
theorem RB.cb{r:Nat}{ts:LL}(h:RB r ts)(j:Nat):Cb r (ts.getD j []):=by
 obtain⟨D,N,h0,h1,h2,h3⟩:=h.get;exact⟨D,N,h1 j,h2,h3⟩
theorem Cb.mul{ts:LL}{m r:Nat}(ht:kR ts m r){j k e f:Nat}{a b:List Rat}(hj:j<=m)(hk:j<=k)(ha:Nl j a)(hb:Nl j b)(ca:Cb e a)(cb:Cb f b) :
  Cb (e+f+eB r j) (pT ts k a b):=by
 obtain⟨D,N,h0,h1,h2,h3⟩:=ht.2.get;obtain⟨Da,Na,a1,a2,a3⟩:=ca;obtain⟨Db,Nb,b1,b2,b3⟩:=cb;refine⟨_,_,VV ts m D N (fun j hj=>⟨ht.1 j hj,h1 j⟩) h0 j k a b hj hk ha hb a1 b1,?_,?_⟩
 ·rw[aoo,aoo];exact akw (akw a2 b2) (an4 (oI D N j) (yy h2 h3 j))
 ·rw[aoo,aoo];exact akw (akw a3 b3) (yy h2 h3 j)
theorem Ml(r:Nat):∀j,eB r j<=eB r (j+1):=fun j=>by simp only[eB];omega
def sB(r:Nat):Nat->Nat->Nat
  |0,e=>e
  |j+1,e=>sB r j (4*e+3*eB r j+r+1)
theorem tp(r:Nat):∀j e,e<=sB r j e
 |0,e=>anp _
 |j+1,e=>by have:=tp r j (4*e+3*eB r j+r+1);simp only[sB];omega
theorem ux(r:Nat):∀j {e f:Nat},e<=f->sB r j e<=sB r j f
 |0,e,f,h=>h
 |j+1,e,f,h=>by simp only[sB];exact ux r j oz
theorem Sl(r j e:Nat):sB r j e<=sB r (j+1) e:=by simp only[sB];exact ux r j oz
theorem xW(r e:Nat){i j:Nat}(h:i<=j):sB r i e<=sB r j e:=by
  induction j with
  | zero => have : i = 0 := by omega
            subst this;exact anp _
  |succ j ih =>
    by_cases dL:i=j+1
    · rw[dL];exact anp _
    · exact an4 (ih oz) (Sl r j e)
theorem ahw(r e:Nat){j:Nat}(h:j<=2):sB r j e<=16*e+17*r+29:=by
 refine an4 (xW r e h) ?_;simp only[sB,eB];omega
theorem YZ(r e:Nat){j:Nat}(h:j<=3):sB r j e<=64*e+177*r+333:=by
 refine an4 (xW r e h) ?_;simp only[sB,eB];omega
theorem La(r:Nat){j:Nat}(h:j<=3):eB r j<=7*(r+2):=by
 match j,h with
 |0,_=>simp only[eB];omega
 |1,_=>simp only[eB];omega
 |2,_=>simp only[eB];omega
 |3,_=>simp only[eB];omega
def lm(n:Nat):Nat:=if n<=2 then 200000000000 else 50000000000
theorem jA(n:Nat):lm n<=200000000000:=by unfold lm;split <;> omega
theorem oT(n:Nat):50000000000<=lm n:=by unfold lm;split <;> omega
theorem LB(r:Nat){j:Nat}(h:j<=5):eB r j<=31*(r+2):=by
 have:∀i,eB r i<=eB r (i+1):=Ml r
 have h5:eB r j<=eB r 5:=by
  match j,h with
  |0,_=>simp only[eB];omega
  |1,_=>simp only[eB];omega
  |2,_=>simp only[eB];omega
  |3,_=>simp only[eB];omega
  |4,_=>simp only[eB];omega
  |5,_=>exact anp _
 refine an4 h5 ?_;simp only[eB];omega
def nA(l:List Rat):AV:=.lst 3 (l.map qA)
def nR(l:List Rt):AV:=.lst 3 (l.map Rt.av)
def aZ(ts:LL):AV:=.agg [.lst 1 (ts.map nA)]
def cJ(ts:List (List Rt)):AV:=.agg [.lst 1 (ts.map nR)]
def vg(n:Nat):Nat:=if n<=1 then 0 else(n-1).log2+1
theorem PS{n k:Nat}(h1:∀j,j<k->2^j<n)(h2:n<=2^k):vg n=k:=by
 unfold vg;split
 ·rename_i h;cases k with
  |zero=>rfl
  |succ k=>have:=h1 0 oz;omega
 ·rename_i h;cases k with
  |zero=>simp at h2;omega
  |succ k =>
   have h3:=h1 k oz;congr 1;rw[Nat.log2_eq_iff oz];omega
def du(n:Nat):Int:=if 2^vg n=n then(vg n:Int)else -1
theorem WV(j:Nat):vg (2^j)=j:=PS (fun i hi=>akh oz hi) (anp _)
theorem u7(j:Nat):du (2^j)=j:=by unfold du;rw[WV,aoz rfl]
theorem Qe{n:Nat}(h:0<=du n):∃j:Nat,n=2^j/\du n=(j:Int):=by
 unfold du at h ⊢;split at h
 ·rename_i h1;exact⟨vg n,h1.symm,by rw[aoz h1]⟩
 ·omega
theorem r8{k:Nat}(hk:k<=62):IntKind.i64.wrap ((1:Int)*2^(min (k:Int).toNat IntKind.i64.bits))=((2^k:Nat):Int):=by
 have h1:min (k:Int).toNat IntKind.i64.bits=k:=by simp[IntKind.bits];omega
 have h2:2^k<=2^62:=cK hk;have h3:(2:Nat)^62=4611686018427387904:=by decide
 have h4:((2:Int)^k)=((2^k:Nat):Int):=by simp
 rw[h1,Int.one_mul,h4];generalize 2^k=x at *;exact i64_in oz
def cA(m:Nat)(a:List Rt):Nat:=if a≠[]/\(du a.length<0\/(m:Int)<du a.length)then 10 else if a.all Rt.valid then 0 else 2
theorem AW{m:Nat}{a:List Rt}(h:cA m a=0)(ci:∀r∈a,r.ok):a=(a.map Rt.q).map rt/\Nl m (a.map Rt.q):=by
 unfold cA at h;split at h
 ·cases h
 ·rename_i h1;split at h
  ·rename_i h2;rw[anx]at h2;refine⟨?_,?_⟩
   ·rw[map_map];refine(List.map_id _).symm.trans ?_;exact ak1 (fun r hr=>Rt.eq_rt (ci r hr) (h2 r hr))
   ·by_cases h0:a=[]
    ·subst h0;exact .inl rfl
    ·have h3:0<=du a.length/\du a.length<=m:=by
      constructor
      ·exact Int.not_lt.1 (fun h=>h1 ⟨h0,.inl h⟩)
      ·exact Int.not_lt.1 (fun h=>h1 ⟨h0,.inr h⟩)
     obtain⟨j,e1,e2⟩:=Qe h3.1;exact .inr ⟨j,by omega,by rw[anl,e1]⟩
  ·cases h
theorem eL(l:List Rat):nR (l.map rt)=nA l:=by
 unfold nR nA;rw[map_map];rfl
theorem Nl.len5{k:Nat}{a:List Rat}(h:Nl k a)(hk:k<=5):a.length<=32:=an4 h.le (cK (b:=5) hk)
theorem qZ:oi (.agg [.v (.bool false),.v (.slice none 0 0),.v (.slice none 0 0)]) (qA 0):=by
 refine⟨rfl,?_⟩;intro j x y hx hy
 match j,hx,hy with
 |0,hx,hy=>cases hx;cases hy;exact⟨rfl,.refl _⟩
 |1,hx,hy=>cases hx;cases hy;exact⟨rfl,.nil _ _ _⟩
 |2,hx,hy=>cases hx;cases hy;exact⟨rfl,.nil _ _ _⟩
theorem oi.refl{e:AV}(h:∀c∈e.cells,c.one=true):oi e e :=
 ⟨rfl,fun j x y hx hy=>by rw[hx]at hy;cases hy;exact⟨h x (ank hx),.refl _⟩⟩
theorem EG(q:Rat):∀c∈(qA q).cells,c.one=true:=by
 intro c hc;have:c=bl (rt q).neg\/c=ws (rt q).num\/c=ws (rt q).den:=by simpa[qA,Rt.av,AV.cells]using hc
 rcases this with rfl |rfl |rfl <;> rfl
theorem PK(a:List Rat)(n:Nat)(h:a.length<=n) :
  BlkSub (.row 3 (a.map qA++(als n (.agg [.v (.bool false),.v (.slice none 0 0),.v (.slice none 0 0)])).drop (a.map qA).length)) (.row 3 ((a7 a n).map qA)):=by
 refine .row ?_ ?_
 ·simp only[a7,aoe,anl,List.length_drop,aon]
 ·intro i e e' he he'
  by_cases hi:i<a.length
  ·rw[an8 (by simpa using hi)]at he;simp only[a7,aoc]at he';rw[an8 (by simpa using hi),he]at he';cases he';simp only[anr,ann]at he;obtain⟨q,_,rfl⟩:=he;exact oi.refl (EG q)
  ·rw[an7 (by simpa using hi),List.drop_replicate,aoh] at he;simp only [a7,aoc] at he';rw[an7 (by simpa using hi),aoq,aoh] at he';split at he
   ·cases he;split at he'
    ·cases he';exact qZ
    ·cases he'
   ·cases he
theorem FY{p w:List Rat}{i:Nat}{s:Rat}(hl:p.length=w.length)(hi:i<p.length)(hs:p[i]=s) :
  ((p.take i++w.drop i).map qA).set i (qA s)=(p.take (i+1)++w.drop (i+1)).map qA:=by
 rw[<- aou];congr 1;subst hs;rw[List.set_append_right i _ (by simp;omega)];have h1:i-(p.take i).length=0:=by simp;omega
 rw[h1,alq oz,List.set_cons_zero,ak6 hi,aor];rfl
theorem LN{a b:List Rat}{i:Nat}(hi:i<(cQ a b).length) :
  (cQ a b)[i]=(a7 a (max a.length b.length)).getD i 0+(a7 b (max a.length b.length)).getD i 0:=by
 have h:=IK (a:=a) (b:=b) (i:=i);rw[anm,ano hi,ani]at h;rw[h,tA,tA]
theorem getD_some{l:List Rat}{i:Nat}(h:i<l.length):l[i]?=some (l.getD i 0):=by
 rw[anm,ano h];rfl
theorem zW{l:List Rat}{i:Nat}(h:i<l.length):l.getD i 0∈l:=by
 rw[anm,ano h];exact ali h
theorem EW{p w:List Rat}{i:Nat}(hl:p.length=w.length)(hi:i<p.length):(p.take i++w.drop i)[i]?=some (w.getD i 0):=by
 rw[an7 (by simp;omega),aop];have:i+(i-(p.take i).length)=i:=by simp;omega
 rw[this];exact getD_some oz
theorem dR{α:Type}{l:List α}{i:Nat}{x:α}(h:l[i]?=some x):l.take (i+1)=l.take i++[x]:=by
 obtain⟨hi,rfl⟩:=alj.1 h;exact ak6 hi
theorem pR{q:Rat}(h:b9 q=0):q=0:=by
 unfold b9 at h;split at h
 ·cases h
 ·split at h
  ·cases h
  ·grind
theorem aib:rt 0=⟨false,[],[]⟩:=rfl
theorem Jo{q:Rat}(h:cond (cond (rt q).neg true (aa .gtr ((rt q).num.length:Int) 0)) true (aa .gtr ((rt q).den.length:Int) 0)=true):q≠0:=by
 intro h0;rw[h0,aib]at h;cases h
theorem IF{q:Rat}(h:cond (cond (rt q).neg true (aa .gtr ((rt q).num.length:Int) 0)) true (aa .gtr ((rt q).den.length:Int) 0)=false):q=0:=by
 cases hn:(rt q).neg
 ·rw[hn]at h;cases hm:aa .gtr ((rt q).num.length:Int) 0
  ·have h1:(rt q).num=[]:=by
    cases hl:(rt q).num with
    |nil=>rfl
    |cons x l=>rw[hl]at hm;simp[aa]at hm
   rw[<- b7 q];exact Rt.zero (fun h=>h.2 h1)
  ·rw[hm]at h;cases h
 ·rw[hn]at h;cases h
theorem iY{n:Nat}(h:n<=281474976710656):IntKind.i64.wrap ((n:Int).tdiv 2)=((n/2:Nat):Int):=by
 rw[show((n:Int).tdiv 2)=((n/2:Nat):Int)from(Int.ofNat_tdiv n 2).symm];exact i64_in oz
theorem MB{m j:Nat}{a:List Rat}(h:a.length<=2^j)(hj:j<=m):bI m a=bI j a:=by
  induction m with
  | zero => have : j = 0 := by omega
            subst this;rfl
  |succ m ih =>
    by_cases Rc:j=m+1
    · rw[Rc]
    · have h1:a.length<=2^m:=an4 h (cK oz)
      have h2:bI (m+1) a=if bN (a.drop (2^m))=true then bI m (a.take (2^m))else a:=rfl;rw[h2,aoi h1,aoz TH,an1 h1];exact ih oz
def qR(a:List Rat)(n:Nat):Prop:=(n=0/\a=[])\/∃i,n=2^i/\i<=5/\n<=a.length/\bI 5 a=bI i (a.take n)
theorem NN{a:List Rat}(h:Nl 5 a):qR a a.length:=by
 rcases h with rfl |⟨j,hj,h⟩
 ·exact .inl ⟨rfl,rfl⟩
 ·exact .inr ⟨j,h,hj,anp _,by rw[an3];exact MB oz hj⟩
theorem Ls{a:List Rat}{i:Nat}:(a.drop (2^i)).take (2^(i+1)-2^i)=(a.take (2^(i+1))).drop (2^i):=by
 rw[List.drop_take]
theorem Lh{a:List Rat}{n:Nat}(h:qR a n)(h1:1<n)(hz:bN ((a.drop (n/2)).take (n-n/2))=true):qR a (n/2):=by
 rcases h with⟨h,_⟩ |⟨i,rfl,hi,hl,hs⟩
 ·omega
 ·cases i with
  |zero=>simp at h1
  |succ i =>
   rw[iF]at hz ⊢;rw[Ls]at hz;have h2:bI (i+1) (a.take (2^(i+1)))=if bN ((a.take (2^(i+1))).drop (2^i))=true then bI i ((a.take (2^(i+1))).take (2^i))else a.take (2^(i+1)):=rfl;rw[h2,aoz hz,aln,aj1 (cK oz)]at hs;exact .inr ⟨i,rfl,by omega,an4 (cK oz) hl,hs⟩
theorem NI{a:List Rat}(h:qR a 1)(hz:bN (a.take 1)=true):bI 5 a=[]:=by
 rcases h with⟨h,_⟩ |⟨i,h0,hi,hl,hs⟩
 ·omega
 ·have:i=0:=by
   cases i with
   |zero=>rfl
   |succ i=>rw[ajq]at h0;omega
  subst this;rw[hs];show(if bN (a.take 1)=true then[]else _)=_;rw[aoz hz]
theorem MG{a:List Rat}{n:Nat}(h:qR a n)(h1:1<n->bN ((a.drop (n/2)).take (n-n/2))=false)(h2:n=1->bN (a.take 1)=false):bI 5 a=a.take n:=by
 rcases h with⟨rfl,rfl⟩ |⟨i,rfl,hi,hl,hs⟩
 ·rfl
 ·cases i with
  |zero =>
   rw[hs];show(if bN (a.take 1)=true then[]else _)=_;rw[h2 rfl];rfl
  |succ i =>
   have h3:=h1 (by have:=aku i;rw[ajq];omega);rw[iF,Ls]at h3;rw[hs];have h4:bI (i+1) (a.take (2^(i+1)))=if bN ((a.take (2^(i+1))).drop (2^i))=true then bI i ((a.take (2^(i+1))).take (2^i))else a.take (2^(i+1)):=rfl;rw[h4,h3];rfl
theorem qR.le{a:List Rat}{n:Nat}(h:qR a n):n<=a.length:=by
 rcases h with⟨rfl,rfl⟩ |⟨i,rfl,hi,hl,hs⟩
 ·exact anp _
 ·exact hl
theorem xB(a:List Rat)(l m:Nat):AV.lst 3 (((a.map qA).drop l).take m)=nA ((a.drop l).take m):=by
 unfold nA;rw[map_take,List.map_drop]
theorem zP{n:Nat}{a:List Rat}(h:Nl n a)(hn:n<=5):bI 5 a=sh n (af n a):=by
 rw[MB h.le hn,DU n h]
theorem BlkSub.of_{x y z:Blk}(h:BlkSub x y)(e:z=x):BlkSub z y:=e▸h
theorem af7{a:List Rat}{i:Nat}(hi:i<(dq a).length):(dq a)[i]=-(a.getD i 0):=by
 have h:=Nr (a:=a) (i:=i);rw[anm,ano hi,ani]at h;exact h
theorem Ve{ts:LL}{k:Nat}{x y:List Rat}(hl:y.length<=x.length)(h:bN x=true\/bN y=true):pT ts k x y=[]:=by
 unfold pT;simp only[aoy (show ¬x.length<y.length by omega)];rw[aoz (by rw[aos];exact h)]
theorem agr{ts:LL}{k:Nat}{p q:Rat}(h:¬(bN [p]=true\/bN [q]=true)):pT ts k [p] [q]=[p*q]:=by
 unfold pT;simp only[an0,aoa,Nat.lt_irrefl,if_false];rw[aoy (by rw[aos];exact h)];simp
theorem Y5{ts:LL}{k i:Nat}{x y:List Rat}(hx:x.length=2^(i+1))(hl:y.length<=2^i)(h:¬(bN x=true\/bN y=true)) :
  pT ts (k+1) x y=gV (pT ts k (x.take (2^i)) y) (pT ts k (x.drop (2^i)) y) (2^i):=by
 have h2:=aku i;have hlt:¬x.length<y.length:=by rw[hx,ajq];omega
 conv=>lhs;unfold pT
 simp only[aoy hlt];rw[aoy (by rw[aos];exact h),aoy (by rw[hx,ajq];omega)];simp only[hx,iF];rw[aoz hl]
theorem WZ{ts:LL}{k i:Nat}{x y:List Rat}(hx:x.length=2^(i+1))(hl:¬y.length<=2^i)(Dl:y.length<=x.length)(h:¬(bN x=true\/bN y=true)) :
  pT ts (k+1) x y=gV (cQ (pT ts k (x.take (2^i)) (y.take (2^i))) (pT ts k (pT ts k (x.drop (2^i)) (y.drop (2^i))) (ts.getD i [])))
   (cQ (pT ts k (x.take (2^i)) (y.drop (2^i))) (pT ts k (x.drop (2^i)) (y.take (2^i)))) (2^i):=by
 conv=>lhs;unfold pT
 simp only[aoy (show ¬x.length<y.length by omega)];have h2:=aku i;rw[aoy (by rw[aos];exact h),aoy (by rw[hx,ajq];omega)];simp only[hx,iF,EC];rw[aoy hl]
theorem kl(r:Nat){i j:Nat}(h:i<=j):eB r i<=eB r j:=by
  induction j with
  | zero => have : i = 0 := by omega
            subst this;exact anp _
  |succ j ih =>
    by_cases dL:i=j+1
    · rw[dL];exact anp _
    · exact an4 (ih oz) (Ml r j)
theorem tI{j:Nat}{x:List Rat}(h:Nl j x):x.length=0\/x.length=1\/∃i,i+1<=j/\x.length=2^(i+1):=by
 rcases h with rfl |⟨i,hi,h⟩
 ·exact .inl rfl
 ·cases i with
  |zero=>exact .inr (.inl h)
  |succ i=>exact .inr (.inr ⟨i,hi,h⟩)
theorem Yp{j i:Nat}{x:List Rat}(h:Nl j x)(hl:x.length<=2^i):Nl i x:=by
 rcases h with rfl |⟨l,hl',h⟩
 ·exact .inl rfl
 ·refine .inr ⟨l,?_,h⟩;rcases anu i l with h1 |h1
  ·have:=akh (a:=2) oz h1;omega
  ·exact h1
theorem SU{j i:Nat}{x:List Rat}(h:Nl j x)(hl:¬x.length<=2^i)(hu:x.length<=2^(i+1)):x.length=2^(i+1):=by
 rcases h with rfl |⟨l,hl',h⟩
 ·simp at hl
 ·rcases anu i l with h1 |h1
  ·rcases anu (i+1) l with h2 |h2
   ·have:=akh (a:=2) oz h2;omega
   ·rw[h,show l=i+1 by omega]
  ·have:=cK h1;omega
theorem vF{ts:LL}{j:Nat}(h:j<ts.length):(ts.map nA)[j]?=some (nA (ts.getD j [])):=by
 rw[anr,anm,ano h];rfl
theorem pH(x:List Rat)(n:Nat):AV.lst 3 (((x.map qA).drop 0).take (n-0))=nA (x.take n):=by
 rw[Nat.sub_zero,aov,<- map_take];rfl
theorem ra(x:List Rat)(n:Nat):AV.lst 3 (((x.map qA).drop n).take ((x.map qA).length-n))=nA (x.drop n):=by
 rw[<- List.map_drop,an1 (by simp)];rfl
def lw(ts:LL)(i:Nat)(a:List Rat):List Rat :=
  cQ (pT ts i (a.take (2^i)) (a.take (2^i))) (dq (pT ts i (pT ts i (a.drop (2^i)) (a.drop (2^i))) (ts.getD i [])))
theorem CG{ts:LL}{m r:Nat}(ht:kR ts m r){i e:Nat}{a:List Rat}(hi:i+1<=m)(ha:a.length=2^(i+1))(ca:Cb e a) :
  Nl i (lw ts i a)/\af i (lw ts i a)=T.norm (az ts) i (af (i+1) a)/\Cb (4*e+3*eB r i+r+1) (lw ts i a):=by
 have n1:Nl i (a.take (2^i)):=.inr ⟨i,anp _,iX ha⟩;have n2:Nl i (a.drop (2^i)):=.inr ⟨i,anp _,jk ha⟩;have s1:=ju ts m ht.1 i i _ _ oz oz n1 n1;have s2:=ju ts m ht.1 i i _ _ oz oz n2 n2;have s3:=ju ts m ht.1 i i _ _ oz oz s2.1 (ht.1 i oz);have c1:=Cb.mul ht (k:=i) (show i<=m by omega) oz n1 n1 ca.take ca.take;have c2:=Cb.mul ht (k:=i) (show i<=m by omega) oz n2 n2 ca.drop ca.drop;have c3:=Cb.mul ht (k:=i) (show i<=m by omega) oz s2.1 (ht.1 i oz) c2 (ht.2.cb i);refine⟨?_,?_,?_⟩
 ·have l1:=s1.1.le;have l3:=s3.1.le;rcases s1.1 with h1 |⟨j1,xd,h1⟩ <;> rcases s3.1 with h3 |⟨j3,hj3,h3⟩
  ·refine .inl ?_;apply alb;unfold lw;rw[fT,kP,h1,h3];rfl
  ·refine .inr ⟨j3,hj3,?_⟩;unfold lw;rw[fT,kP,h1,h3];simp
  ·refine .inr ⟨j1,xd,?_⟩;unfold lw;rw[fT,kP,h1,h3];simp
  ·refine .inr ⟨max j1 j3,by omega,?_⟩;unfold lw;rw[fT,kP,h1,h3];rcases Nat.le_total j1 j3 with h | h
   ·rw[aj5 h,aj5 (cK h)]
   ·rw[aj8 h,aj8 (cK h)]
 ·unfold lw T.norm;rw[kU,q9,s1.2,s3.2,s2.2];rfl
 ·exact(c1.plus c3.minus).mono oz
theorem T.sgn_ofQ(r:(k:Nat)->T k):∀(k:Nat)(q:Rat),T.sgn r k (T.ofQ k q)=b9 q
 |0,q=>rfl
 |k+1,q=>by simp only[T.ofQ];rw[T.sgn_low,T.sgn_ofQ r k]
theorem xt(r:(k:Nat)->T k){i j:Nat}{a:List Rat}(h:a.length<=2^i)(dL:i<=j):T.sgn r j (af j a)=T.sgn r i (af i a):=by
  induction j with
  | zero => have : i = 0 := by omega
            subst this;rfl
  |succ j ih =>
    by_cases h':i=j+1
    · rw[h']
    · rw[jy (an4 h (cK oz)),T.sgn_low]
      exact ih oz
theorem zj:∀(k:Nat){a:List Rat}{q:Rat},q∈bI k a->q∈a
 |0,a,q,h=>by
  have e:bI 0 a=if bN a=true then[]else a:=rfl;rw[e]at h;split at h
  ·cases h
  ·exact h
 |k+1,a,q,h=>by
  have e:bI (k+1) a=if bN (a.drop (2^k))=true then bI k (a.take (2^k))else a:=rfl;rw[e]at h;split at h
  ·exact aot (zj k h)
  ·exact h
theorem Cb.sh{e k:Nat}{a:List Rat}(h:Cb e a)(hn:Nl k a):Cb e (sh k (af k a)):=by
 rw[<- DU k hn];exact Cb.sub h (fun q hq=>zj k hq)
theorem EL{x y:Int}(hx:x=-1\/x=0\/x=1)(hy:y=-1\/y=0\/y=1):IntKind.i64.wrap (i7 .mul x y)=x*y:=by
 apply Fu;rcases hx with rfl |rfl |rfl <;> rcases hy with rfl |rfl |rfl <;> simp
theorem FB{x y z w:Int}(h:cond (aa .eql x y) true (aa .eql z w)=true):x=y\/z=w:=by
 cases hx:aa .eql x y
 ·rw[hx]at h;exact .inr (by simpa[aa]using h)
 ·exact .inl (by simpa[aa]using hx)
theorem G6{x y z w:Int}(h:cond (aa .eql x y) true (aa .eql z w)=false):¬(x=y\/z=w):=by
 cases hx:aa .eql x y
 ·rw[hx] at h;have h1:x≠y:=by simpa[aa] using hx
  have h2:z≠w:=by simpa[aa]using h
  exact fun h=>h.elim h1 h2
 ·rw[hx]at h;cases h
abbrev lq(a:List Rt):List Rat:=a.map Rt.q
abbrev llq(rs:List (List Rt)):LL:=rs.map lq
def si(rs:List (List Rt)):Nat->Nat->Nat
  |0,_=>0
  |f+1,k=>if(rs.getD k []).length≠2^k then 10 else if cA k (rs.getD k [])≠0 then cA k (rs.getD k [])
    else if T.sgn (az (llq rs)) k (az (llq rs) k)<0 then 3 else si rs f (k+1)
def bB(rs:List (List Rt)):Nat:=if 5<rs.length then 4 else si rs rs.length 0
def gO:List Nat->Nat
  |[]=>0
  |e::l=>if e≠0 then e else gO l
def bc(rs:List (List Rt))(xs:List (List Rt)):Nat:=if bB rs≠0 then bB rs else gO (xs.map (cA rs.length))
theorem T.mul_congr{r r':(k:Nat)->T k}:∀(k:Nat),(∀j,j<k->r j=r' j)->∀x y,T.mul r k x y=T.mul r' k x y
 |0,_,x,y=>rfl
 |k+1,h,x,y=>by
  have ih:=T.mul_congr k (fun j hj=>h j oz);simp only[T.mul,ih,h k oz]
theorem T.sgn_congr{r r':(k:Nat)->T k}:∀(k:Nat),(∀j,j<k->r j=r' j)->∀x,T.sgn r k x=T.sgn r' k x
 |0,_,x=>rfl
 |k+1,h,x=>by
  have ih:=T.sgn_congr k (fun j hj=>h j oz);have im:=T.mul_congr k (fun j hj=>h j oz);simp only[T.sgn,T.norm,ih,im,h k oz]
theorem Bk{ts:LL}{k j:Nat}(h:j<k):az (ts.take k) j=az ts j:=by
 unfold az;simp only[anm,aof,aoz h]
theorem x3(rs:List (List Rt))(k:Nat):(llq rs).getD k []=lq (rs.getD k []):=by
 simp only[anm,anr];cases rs[k]? <;> rfl
def lg(rs:List (List Rt))(k:Nat):Prop:=(rs.getD k []).length=2^k/\cA k (rs.getD k [])=0/\0<=T.sgn (az (llq rs)) k (az (llq rs) k)
theorem Kr{rs:List (List Rt)}{f k:Nat}(h:lg rs k):si rs (f+1) k=si rs f (k+1):=by
 obtain⟨h1,h2,h3⟩:=h;show(if _ then _ else _)=_;rw[aoy (by rw[h1];simp),aoy (by rw[h2];simp),aoy oz]
theorem PJ:∀{f k:Nat}{rs:List (List Rt)},si rs f k=0->∀j,k<=j->j<k+f->lg rs j
 |0,k,rs,_,j,h1,h2=>by omega
 |f+1,k,rs,h,j,h1,h2=>by
  have h':(if(rs.getD k []).length≠2^k then 10 else if cA k (rs.getD k [])≠0 then cA k (rs.getD k [])
   else if T.sgn (az (llq rs)) k (az (llq rs) k)<0 then 3 else si rs f (k+1))=0:=h
  split at h'
  ·cases h'
  ·rename_i e1;split at h'
   ·rename_i e2;exact ao5 h' e2
   ·rename_i e2;split at h'
    ·cases h'
    ·rename_i e3
     by_cases hj:j=k
     ·subst hj;exact⟨anj.1 e1,anj.1 e2,by omega⟩
     ·exact PJ h' j oz oz
theorem MO:∀{f k:Nat}{rs:List (List Rt)},(∀j,k<=j->j<k+f->lg rs j)->si rs f k=0
 |0,k,rs,_=>rfl
 |f+1,k,rs,h=>by
  rw[Kr (h k oz oz)];exact MO (fun j h1 h2=>h j oz oz)
theorem Gv{rs:List (List Rt)}(ci:∀d∈rs,∀x∈d,x.ok){k:Nat}(hk:k<=rs.length)(h:∀j,j<k->cA j (rs.getD j [])=0):(rs.take k).map nR=((llq rs).take k).map nA:=by
 apply List.ext_getElem?;intro j;simp only[anr,aof]
 by_cases hj:j<k
 ·rw[aoz hj,aoz hj];have H0:j<rs.length:=by omega
  have h1:=h j hj;rw[anm,ano H0,ani]at h1;rw[ano H0];simp only[anh];congr 1;have:=(AW h1 (fun x hx=>ci _ (ali H0) x hx)).1;rw[<- eL,<- this]
 ·rw[aoy hj,aoy hj];rfl
theorem lg.nl{rs:List (List Rt)}{k:Nat}(h:lg rs k):Nl k ((llq rs).getD k []):=by
 rw[x3];exact .inr ⟨k,anp _,by rw[anl,h.1]⟩
theorem M4{ts:LL}{k r:Nat}(h:∀j,j<k->Nl j (ts.getD j []))(hr:RB r ts):kR (ts.take k) k r:=by
 refine⟨fun j hj=>?_,?_⟩
 ·have:=h j hj;simp only[anm,aof,aoz hj]at this ⊢;exact this
 ·obtain⟨D,N,h0,h1,h2,h3⟩:=hr;exact⟨D,N,h0,fun d hd=>h1 d (aot hd),h2,h3⟩
structure Tw(ts:LL)(r:Nat):Prop where
  three:ts.length<=3
  len:∀j,j<ts.length->(ts.getD j []).length=2^j
  pos:∀j,j<ts.length->0<=T.sgn (az ts) j (az ts j)
  rb:RB r ts
  le:r<=5000000000
theorem Tw.five{ts:LL}{r:Nat}(h:Tw ts r):ts.length<=5:=an4 h.three oz
theorem Tw.ok{ts:LL}{r:Nat}(h:Tw ts r):kR ts ts.length r :=
 ⟨fun j hj=>.inr ⟨j,anp _,h.len j hj⟩,h.rb⟩
structure TR(rs:List (List Rt))(r:Nat):Prop where
  ok:∀d∈rs,∀x∈d,x.ok
  len:∀d∈rs,d.length<=281474976710656
  ll:rs.length<=281474976710656
  rb:RB r (llq rs)
  le:r<=5000000000
  three:rs.length<=3\/5<rs.length
theorem dg{rs:List (List Rt)}{r:Nat}(h:TR rs r)(hc:bB rs=0):Tw (llq rs) r/\cJ rs=aZ (llq rs):=by
 unfold bB at hc;split at hc
 ·cases hc
 ·rename_i h5;have hk:=PJ hc;have hl:(llq rs).length=rs.length:=anl _;refine ⟨⟨by have:=h.three; rw[hl]; omega,fun j hj=>?_,fun j hj=>?_,h.rb,h.le⟩,?_⟩
  ·rw[x3,anl];exact(hk j oz oz).1
  ·exact(hk j oz oz).2.2
  ·unfold cJ aZ;have:=Gv h.ok (anp rs.length) (fun j hj=>(hk j oz oz).2.1);rw[an3,an1 oz]at this;rw[this]
theorem ue{m:Nat}{a:List Rat}(h:Nl m a):cA m (a.map rt)=0:=by
 unfold cA;rw[aoy,aoz]
 ·rw[anx];intro x hx;obtain⟨q,_,rfl⟩:=al0.1 hx;exact LG q
 ·rintro⟨h0,h1⟩;rw[anl]at h1;rcases h with rfl |⟨j,hj,h⟩
  ·exact h0 rfl
  ·rw[h,u7]at h1;omega
theorem dO(a:List Rat):lq (a.map rt)=a:=by
 unfold lq;rw[map_map];refine(ak1 (fun q _=>b7 q)).trans (List.map_id _)
theorem rG(ts:LL):llq (ts.map (List.map rt))=ts:=by
 unfold llq;rw[map_map];refine(ak1 (fun a _=>dO a)).trans (List.map_id _)
theorem ko(ts:LL):cJ (ts.map (List.map rt))=aZ ts:=by
 unfold cJ aZ;rw[map_map];congr 3;exact ak1 (fun a _=>eL a)
theorem Tw.chk{ts:LL}{r:Nat}(h:Tw ts r):bB (ts.map (List.map rt))=0:=by
 unfold bB;rw[anl,aoy (by have:=h.five;omega)];refine MO (fun j _ hj=>?_)
 have e1:(ts.map (List.map rt)).getD j []=(ts.getD j []).map rt:=by
  simp only[anm,anr];cases ts[j]? <;> rfl
 refine⟨?_,?_,?_⟩
 ·rw[e1,anl];exact h.len j oz
 ·rw[e1];exact ue (.inr ⟨j,anp _,h.len j oz⟩)
 ·rw[rG];exact h.pos j oz
theorem RB.qs{r:Nat}{ts:LL}(h:RB r ts)(hr:r<=5000000000):∀d∈ts,∀q∈d,Qs q:=by
 obtain⟨D,N,h0,h1,h2,h3⟩:=h;intro d hd q hq;exact Cb.qs ⟨D,N,h1 d hd,h2,h3⟩ oz hq
theorem Tw.tr{ts:LL}{r:Nat}(h:Tw ts r):TR (ts.map (List.map rt)) r:=by
 refine⟨?_,?_,by rw[anl];have:=h.five;omega,by rw[rG];exact h.rb,h.le,by rw[anl];exact .inl h.three⟩
 ·intro d hd x hx;obtain⟨a,ha,rfl⟩:=al0.1 hd;obtain⟨q,hq,rfl⟩:=al0.1 hx;exact(h.rb.qs h.le a ha q hq).ok
 ·intro d hd;obtain⟨a,ha,rfl⟩:=al0.1 hd;obtain⟨j,hj,rfl⟩:=alx.1 ha;have:=h.len j hj;rw[anm,ano hj,ani]at this;rw[anl,this];have:=h.five;have:2^j<=2^5:=cK oz;omega
theorem tU:∀{l:List Nat},gO l=0->∀e∈l,e=0
 |[],_,e,he=>by cases he
 |x::l,h,e,he=>by
  have h':(if x≠0 then x else gO l)=0:=h;split at h'
  ·rename_i hx;exact ao5 h' hx
  ·rename_i hx;rcases an9.1 he with rfl |he
   ·exact anj.1 hx
   ·exact tU h' e he
theorem tm:∀{l:List Nat},(∀e∈l,e=0)->gO l=0
 |[],_=>rfl
 |x::l,h=>by
  show(if x≠0 then x else gO l)=0;rw[aoy (by rw[h x (by simp)];simp)];exact tm (fun e he=>h e (by simp[he]))
theorem zJ:∀(l l':List Nat),gO l=0->gO (l++l')=gO l'
 |[],l',_=>rfl
 |x::l,l',h=>by
  have h0:=tU h x (by simp);show(if x≠0 then x else gO (l++l'))=_;rw[aoy (by rw[h0];simp)];exact zJ l l' (tm (fun e he=>tU h e (by simp[he])))
theorem l9{rs xs:List (List Rt)}(h:bc rs xs=0):bB rs=0/\∀a∈xs,cA rs.length a=0:=by
 unfold bc at h;split at h
 ·rename_i h1;exact ao5 h h1
 ·rename_i h1;exact⟨anj.1 h1,fun a ha=>tU h _ (al0.2 ⟨a,ha,rfl⟩)⟩
theorem rK{rs xs:List (List Rt)}(h1:bB rs=0)(h2:∀a∈xs,cA rs.length a=0):bc rs xs=0:=by
 unfold bc;rw[aoy (by rw[h1];simp)];refine tm (fun e he=>?_);obtain⟨a,ha,rfl⟩:=al0.1 he;exact h2 a ha
structure NR(a:List Rt)(e:Nat):Prop where
  ok:∀x∈a,x.ok
  len:a.length<=281474976710656
  cb:Cb e (lq a)
theorem NR.num{a:List Rt}{e m:Nat}(h:NR a e)(hn:cA m a=0):nR a=nA (lq a)/\Nl m (lq a):=by
 obtain⟨h1,h2⟩:=AW hn h.ok;refine⟨?_,h2⟩;rw[<- eL,<- h1]
theorem rH{r j n e:Nat}(hj:j<=n)(h3:n<=3)(hr:r<=5000000000)(he:e<=lm n):sB r j e<4398046511104:=by
 unfold lm at he;split at he
 ·have:=ahw r e (j:=j) oz;omega
 ·have:=YZ r e (j:=j) oz;omega
theorem ya{rs:List (List Rt)}(h5:rs.length<=5):∀{k:Nat},k<=rs.length->(∀j,j<k->lg rs j)->bB rs=si rs (rs.length-k) k
 |0,_,_=>by unfold bB;rw[aoy oz];rfl
 |k+1,hk,h=>by
  rw[ya h5 (k:=k) oz (fun j hj=>h j oz),show rs.length-k=(rs.length-(k+1))+1 by omega,Kr (h k oz)]
theorem KZ{rs:List (List Rt)}(h5:rs.length<=5)(h:∀j,j<rs.length->lg rs j):bB rs=0:=by
 rw[ya h5 (anp _) h,Nat.sub_self];rfl
theorem Jw{rs:List (List Rt)}(h5:rs.length<=5){k:Nat}{d:List Rt}(hd:rs[k]?=some d)(h:∀j,j<k->lg rs j)(hl:d.length≠2^k):bB rs=10:=by
 have hk:=(alj.1 hd).1;have e:rs.getD k []=d:=by rw[anm,hd];rfl
 rw[ya h5 (k:=k) oz h,show rs.length-k=(rs.length-(k+1))+1 by omega];show(if _ then _ else _)=_;rw[e,aoz hl]
theorem Nt{rs:List (List Rt)}(h5:rs.length<=5){k:Nat}{d:List Rt}(hd:rs[k]?=some d)(h:∀j,j<k->lg rs j)(hl:d.length=2^k)(hn:cA k d≠0):bB rs=cA k d:=by
 have hk:=(alj.1 hd).1;have e:rs.getD k []=d:=by rw[anm,hd];rfl
 rw[ya h5 (k:=k) oz h,show rs.length-k=(rs.length-(k+1))+1 by omega];show(if _ then _ else _)=_;rw[e,aoy (by rw[hl];simp),aoz hn]
theorem Qp{rs:List (List Rt)}{k:Nat}{d:List Rt}(hd:rs[k]?=some d):az (llq rs) k=af k (lq d):=by
 unfold az;rw[x3,anm,hd];rfl
theorem PO{rs:List (List Rt)}(h5:rs.length<=5){k:Nat}{d:List Rt}(hd:rs[k]?=some d)(h:∀j,j<k->lg rs j)(hl:d.length=2^k)(hn:cA k d=0)
  (hs:T.sgn (az (llq rs)) k (af k (lq d))<0):bB rs=3:=by
 have hk:=(alj.1 hd).1;have e:rs.getD k []=d:=by rw[anm,hd];rfl
 rw[ya h5 (k:=k) oz h,show rs.length-k=(rs.length-(k+1))+1 by omega];show(if _ then _ else _)=_;rw[e,aoy (by rw[hl];simp),aoy (by rw[hn];simp),Qp hd,aoz hs]
theorem MV{rs:List (List Rt)}{k:Nat}{d:List Rt}(hd:rs[k]?=some d)(hl:d.length=2^k)(hn:cA k d=0)
  (hs:¬T.sgn (az (llq rs)) k (af k (lq d))<0):lg rs k:=by
 have e:rs.getD k []=d:=by rw[anm,hd];rfl
 exact⟨by rw[e];exact hl,by rw[e];exact hn,by rw[Qp hd];omega⟩
theorem WP{rs:List (List Rt)}(ci:∀d∈rs,∀x∈d,x.ok){k:Nat}(hk:k<=rs.length)(h:∀j,j<k->lg rs j):cJ (rs.take k)=aZ ((llq rs).take k):=by
 unfold cJ aZ;rw[Gv ci hk (fun j hj=>(h j hj).2.1)]
theorem We{α:Type}(f:α->AV)(l:List α)(n:Nat):AV.lst 1 (((l.map f).drop 0).take (n-0))=.lst 1 ((l.take n).map f):=by
 rw[Nat.sub_zero,aov,map_take]
theorem MT{rs:List (List Rt)}(h:5<rs.length):bB rs=4:=by unfold bB;rw[aoz h]
theorem C5{rs xs:List (List Rt)}(h:bB rs≠0):bc rs xs=bB rs:=by unfold bc;rw[aoz h]
theorem yW{rs xs:List (List Rt)}{i:Nat}{a:List Rt}(h:bB rs=0)(ha:xs[i]?=some a)(hb:∀x∈xs.take i,cA rs.length x=0)(hn:cA rs.length a≠0):bc rs xs=cA rs.length a:=by
 unfold bc;rw[aoy (by rw[h];simp)];have e:xs=xs.take i++xs.drop i:=(alg i xs).symm;have hi:=(alj.1 ha).1;rw[e,aoc,zJ _ _ (tm (fun e he=>by obtain⟨x,hx,rfl⟩:=al0.1 he;exact hb x hx)),alq hi];have ha':xs[i]=a:=by rw[ano hi]at ha;exact Option.some.inj ha
 rw[ha'];show(if _ then _ else _)=_;rw[aoz hn]
theorem un{n:Nat}{a:List Rat}(h:Nl n a):Nl n (dq a):=by
 rcases h with rfl |⟨j,hj,h⟩
 ·exact .inl rfl
 ·exact .inr ⟨j,hj,by rw[kP,h]⟩
theorem rI{n:Nat}{a b:List Rat}(h:Nl n a)(h':Nl n b):Nl n (cQ a b):=by
 rcases h with rfl |⟨j,hj,h⟩ <;> rcases h' with rfl |⟨i,hi,h'⟩
 ·exact .inl (alb (by rw[fT];rfl))
 ·exact .inr ⟨i,hi,by rw[fT,h'];simp⟩
 ·exact .inr ⟨j,hj,by rw[fT,h];simp⟩
 ·refine .inr ⟨max j i,by omega,?_⟩;rw[fT,h,h'];rcases Nat.le_total j i with g | g
  ·rw[aj5 g,aj5 (cK g)]
  ·rw[aj8 g,aj8 (cK g)]
theorem sL{a b:List Rt}{e f:Nat}(ha:NR a e)(hb:NR b f):∀x∈[a,b],(∀y∈x,y.ok)/\x.length<=281474976710656:=by
 intro x hx;simp only[an9,aob,or_false]at hx;rcases hx with rfl |rfl
 ·exact⟨ha.ok,ha.len⟩
 ·exact⟨hb.ok,hb.len⟩
theorem oV{rs:List (List Rt)}(h:cJ rs=aZ (llq rs)):AV.lst 1 (rs.map nR)=.lst 1 ((llq rs).map nA):=by
 unfold cJ aZ at h
 injection h with h
 injection h
theorem yv{x:Rt}:x.q+(rt 0).q=x.q:=by rw[b7,Rat.add_zero]
def rT(ts:LL):Nat->List Rat->List Rat->List Rat
  |k,a,b =>
    if(bI 5 a).length=0\/(bI 5 b).length=0 then[]
    else if max (bI 5 a).length (bI 5 b).length=1 then[(bI 5 a).getD 0 0*(bI 5 b).getD 0 0]
    else match k with
      |0=>[]
      |k+1 =>
        let n:=max (bI 5 a).length (bI 5 b).length
        let X:=a7 (bI 5 a) n
        let Y:=a7 (bI 5 b) n
        gV (cQ (rT ts k (X.take (n/2)) (Y.take (n/2))) (rT ts k (rT ts k (X.drop (n/2)) (Y.drop (n/2))) (ts.getD (n.log2-1) [])))
          (cQ (rT ts k (X.take (n/2)) (Y.drop (n/2))) (rT ts k (X.drop (n/2)) (Y.take (n/2)))) (n/2)
theorem KH{ts:LL}{k:Nat}{a b:List Rat}(h:(bI 5 a).length=0\/(bI 5 b).length=0):rT ts k a b=[]:=by
 unfold rT;rw[aoz h]
theorem IP{ts:LL}{k:Nat}{a b:List Rat}(h:¬((bI 5 a).length=0\/(bI 5 b).length=0))(h1:max (bI 5 a).length (bI 5 b).length=1) :
  rT ts k a b=[(bI 5 a).getD 0 0*(bI 5 b).getD 0 0]:=by
 unfold rT;rw[aoy h,aoz h1]
theorem KX{ts:LL}{k n i:Nat}{a b:List Rat}(hn:n=2^i)(h:¬((bI 5 a).length=0\/(bI 5 b).length=0))(h1:max (bI 5 a).length (bI 5 b).length=2^(i+1)) :
  rT ts (k+1) a b=gV (cQ (rT ts k ((a7 (bI 5 a) (2^(i+1))).take n) ((a7 (bI 5 b) (2^(i+1))).take n))
    (rT ts k (rT ts k ((a7 (bI 5 a) (2^(i+1))).drop n) ((a7 (bI 5 b) (2^(i+1))).drop n)) (ts.getD i [])))
   (cQ (rT ts k ((a7 (bI 5 a) (2^(i+1))).take n) ((a7 (bI 5 b) (2^(i+1))).drop n)) (rT ts k ((a7 (bI 5 a) (2^(i+1))).drop n) ((a7 (bI 5 b) (2^(i+1))).take n))) n:=by
 have h2:=aku i
 conv=>lhs;unfold rT
 rw[aoy h,aoy (by rw[h1,ajq];omega)];simp only[h1,iF,EC];rw[<- hn]
structure PrOk(ts:LL)(D N j:Nat)(a b c:List Rat):Prop where
  nl:Nl j c
  eq:af j c=T.mul (az ts) j (af j a) (af j b)
  cd:∀Da Na Db Nb:Nat,Cd Da Na a->Cd Db Nb b->Cd (Da*Db*rR D j) (Na*Nb*rM D N j) c
theorem PrOk.up{ts:LL}{D N j:Nat}{a b c:List Rat}(hD:0<D)(ha:a.length<=2^j)(hb:b.length<=2^j)(h:PrOk ts D N j a b c):PrOk ts D N (j+1) a b c:=by
 refine⟨h.nl.mono oz,?_,fun Da Na Db Nb ca cb=>?_⟩
 ·rw[jy ha,jy hb,jy h.nl.le,T.mul_low,h.eq]
 ·have h1:=(h.cd _ _ _ _ ca cb).scale (aju (lr hD j) hD);have e1:Da*Db*rR D j*(rR D j*D)=Da*Db*rR D (j+1):=by simp only [rR]; grind
  rw[e1]at h1;refine h1.mono ?_;have h2:=ant (rM D N j) (akw (oI D N j) (aj0 D N));have h3:rM D N j*(rR D j*D)<=rM D N (j+1):=by simp only[rM,akt]at *;omega
  rw[akt (Na*Nb)];exact ant _ h3
theorem PrOk.ups{ts:LL}{D N i j:Nat}{a b c:List Rat}(hD:0<D)(ha:a.length<=2^i)(hb:b.length<=2^i)(h:PrOk ts D N i a b c)(dL:i<=j):PrOk ts D N j a b c:=by
  induction j with
  | zero => have : i = 0 := by omega
            subst this;exact h
  |succ j ih =>
    by_cases h':i=j+1
    · subst h';exact h
    · exact(ih oz).up hD (an4 ha (cK oz)) (an4 hb (cK oz))
theorem PrOk.of{ts:LL}{D N j:Nat}{a b a' b' c:List Rat}(h:PrOk ts D N j a b c)(ea:af j a=af j a')(eb:af j b=af j b')
  (ca:∀D N,Cd D N a'->Cd D N a) (cb:∀D N,Cd D N b'->Cd D N b):PrOk ts D N j a' b' c :=
 ⟨h.nl,by rw[h.eq,ea,eb],fun Da Na Db Nb h1 h2=>h.cd _ _ _ _ (ca _ _ h1) (cb _ _ h2)⟩
theorem PrOk.full{ts:LL}{D N j:Nat}{a b c1 c2 c3 c4 c5:List Rat}(hD:0<D)(hr:Cd D N (ts.getD j []))(ha:a.length=2^(j+1))(hb:b.length=2^(j+1))
  (h1:PrOk ts D N j (a.take (2^j)) (b.take (2^j)) c1) (h2:PrOk ts D N j (a.drop (2^j)) (b.drop (2^j)) c2) (h3:PrOk ts D N j c2 (ts.getD j []) c3)
  (h4:PrOk ts D N j (a.take (2^j)) (b.drop (2^j)) c4) (h5:PrOk ts D N j (a.drop (2^j)) (b.take (2^j)) c5):PrOk ts D N (j+1) a b (gV (cQ c1 c3) (cQ c4 c5) (2^j)):=by
 have l1:=h1.nl.le;have l3:=h3.nl.le;have l4:=h4.nl.le;have l5:=h5.nl.le;refine⟨.inr ⟨j+1,anp _,by rw[uo (by rw[fT];omega) (by rw[fT];omega),ajq];omega⟩,?_,fun Da Na Db Nb ca cb=>?_⟩
 ·rw[BI (by rw[fT];omega),kU,kU,h1.eq,h3.eq,h4.eq,h5.eq,h2.eq];rfl
 ·have ca1:Cd Da Na (a.take (2 ^ j)):=ca.sub (fun q hq=>aot hq);have ca2:Cd Da Na (a.drop (2 ^ j)):=ca.sub (fun q hq=>alw hq);have cb1:Cd Db Nb (b.take (2 ^ j)):=cb.sub (fun q hq=>aot hq);have cb2:Cd Db Nb (b.drop (2 ^ j)):=cb.sub (fun q hq=>alw hq);have k2:=h2.cd _ _ _ _ ca2 cb2;have k3:=h3.cd _ _ _ _ k2 hr;have k1:=(h1.cd _ _ _ _ ca1 cb1).scale (aju (lr hD j) hD);have k4:=(h4.cd _ _ _ _ ca1 cb2).scale (aju (lr hD j) hD);have k5:=(h5.cd _ _ _ _ ca2 cb1).scale (aju (lr hD j) hD);have e1:Da*Db*rR D j*(rR D j*D)=Da*Db*rR D (j+1):=by simp only [rR]; grind
  have e3:Da*Db*rR D j*D*rR D j=Da*Db*rR D (j+1):=by simp only[rR];grind
  rw[e1]at k1 k4 k5;rw[e3]at k3;have b1:rM D N j*(rR D j*D)<=rM D N j*rM D N j*D:=by rw[akt];exact ant _ (aod _ (oI D N j))
  have b2:∀x,Na*Nb*rM D N j*(rR D j*D)+Na*Nb*x<=Na*Nb*(rM D N j*rM D N j*D+x):=by
   intro x;rw[akc,akt (Na*Nb)];exact Nat.add_le_add_right (ant _ b1) _
  refine Cd.join (Cd.mono (k1.plus k3) ?_) (Cd.mono (k4.plus k5) ?_)
  ·have e4:Na*Nb*rM D N j*N*rM D N j=Na*Nb*(rM D N j*rM D N j*N):=by grind
   rw[e4];refine an4 (b2 _) (ant _ ?_);simp only[rM];rw[<- akc];omega
  ·have e4:Na*Nb*rM D N j*(rR D j*D)<=Na*Nb*(rM D N j*rM D N j*D):=by rw[akt (Na*Nb)]; exact ant _ b1
   refine an4 (Nat.add_le_add e4 e4) ?_;rw[<- akc];refine ant _ ?_;simp only[rM];have:=ant (rM D N j*rM D N j) (aj0 D N);omega
theorem Cd.short{D N k:Nat}{a:List Rat}(h:Cd D N a):Cd D N (bI k a):=h.sub (fun q hq=>zj k hq)
theorem CL{j:Nat}{a:List Rat}(h:Nl j a)(hj:j<=5):Nl j (bI 5 a)/\af j (bI 5 a)=af j a:=by
 rw[zP h hj];exact⟨ek j _,bn j _⟩
theorem N3{j:Nat}{x y:List Rat}(hx:Nl j x)(hy:Nl j y)(h:¬(x.length=0\/y.length=0)):max x.length y.length=1\/∃i,i+1<=j/\max x.length y.length=2^(i+1):=by
 rcases tI hx with h1 |h1 |⟨i1,H3,h1⟩
 ·exact ao5 (.inl h1) h
 ·rcases tI hy with h2 |h2 |⟨i2,mt,h2⟩
  ·exact ao5 (.inr h2) h
  ·exact .inl oz
  ·exact .inr ⟨i2,mt,by have:=aku (i2+1);omega⟩
 ·rcases tI hy with h2 |h2 |⟨i2,mt,h2⟩
  ·exact ao5 (.inr h2) h
  ·exact .inr ⟨i1,H3,by have:=aku (i1+1);omega⟩
  ·rcases Nat.le_total i1 i2 with g |g
   ·exact .inr ⟨i2,mt,by have:=cK (show i1+1<=i2+1 by omega);omega⟩
   ·exact .inr ⟨i1,H3,by have:=cK (show i2+1<=i1+1 by omega);omega⟩
theorem Vd(ts:LL)(m D N:Nat)(hm:m<=5)(pc:∀j,j<m->Nl j (ts.getD j [])/\Cd D N (ts.getD j []))(hD:0<D) :
  ∀(k j:Nat)(a b:List Rat),j<=m->j<=k->Nl j a->Nl j b->PrOk ts D N j a b (rT ts k a b):=by
 intro k
 induction k using Nat.strongRecOn with
 |_ k ih =>
  intro j a b hj hO ha hb;obtain⟨nx,dx⟩:=CL ha oz;obtain⟨ny,dy⟩:=CL hb oz
  by_cases h0:(bI 5 a).length=0\/(bI 5 b).length=0
  ·rw[KH h0];refine⟨.inl rfl,?_,fun Da Na Db Nb ca cb=>Cd.nil (aju (aju ca.1 cb.1) (lr hD j))⟩;rw[jX];rcases h0 with h |h
   ·rw[<- dx,ak0.1 h,jX,T.zero_mul]
   ·rw[<- dy,ak0.1 h,jX,T.mul_zero]
  rcases N3 nx ny h0 with h1 |⟨i,hi,h1⟩
  ·rw[IP h0 h1];obtain⟨p,hp⟩:∃p,bI 5 a=[p]:=alm.1 oz;obtain⟨q,hq⟩:∃q,bI 5 b=[q]:=alm.1 oz
   have base:PrOk ts D N 0 [p] [q] [p*q]:=by
    refine⟨.inr ⟨0,ans _,rfl⟩,rfl,fun Da Na Db Nb ca cb=>?_⟩;have h1:=(ca.mul1 cb).scale (lr hD 0);exact h1.mono (ant _ (oI D N 0))
   have h2:=base.ups hD (by simp) (by simp) (ans j);rw[hp,hq];refine h2.of (by rw[<- hp];exact dx) (by rw[<- hq];exact dy) (fun D N h=>?_) (fun D N h=>?_)
   ·rw[<- hp];exact h.short
   ·rw[<- hq];exact h.short
  ·obtain⟨k',rfl⟩:∃ k',k=k'+1:=⟨k - 1,by omega⟩
   rw[KX rfl h0 h1];have lx:(a7 (bI 5 a) (2^(i+1))).length=2^(i+1):=fg oz;have ly:(a7 (bI 5 b) (2^(i+1))).length=2^(i+1):=fg oz;have n1:Nl i ((a7 (bI 5 a) (2^(i+1))).take (2^i)):=.inr ⟨i,anp _,iX lx⟩;have n2:Nl i ((a7 (bI 5 a) (2^(i+1))).drop (2^i)):=.inr ⟨i,anp _,jk lx⟩;have n3:Nl i ((a7 (bI 5 b) (2^(i+1))).take (2^i)):=.inr ⟨i,anp _,iX ly⟩;have n4:Nl i ((a7 (bI 5 b) (2^(i+1))).drop (2^i)):=.inr ⟨i,anp _,jk ly⟩;have g2:=ih k' oz i _ _ oz oz n2 n4
   have HY:=PrOk.full hD (pc i oz).2 lx ly (ih k' oz i _ _ oz oz n1 n3) g2 (ih k' oz i _ _ oz oz g2.nl (pc i oz).1)
    (ih k' oz i _ _ oz oz n1 n4) (ih k' oz i _ _ oz oz n2 n3)
   have h2:=HY.ups hD oz oz hi;exact h2.of (by rw[rO];exact dx) (by rw[rO];exact dy) (fun D N h=>h.short.wide) (fun D N h=>h.short.wide)
theorem od{ts:LL}{m r:Nat}(hm:m<=5)(ht:kR ts m r){k j e f:Nat}{a b:List Rat}(hj:j<=m)(hk:j<=k)(ha:Nl j a)(hb:Nl j b)(ca:Cb e a)(cb:Cb f b) :
  Nl j (rT ts k a b)/\af j (rT ts k a b)=T.mul (az ts) j (af j a) (af j b)/\Cb (e+f+eB r j) (rT ts k a b):=by
 obtain⟨D,N,h0,h1,h2,h3⟩:=ht.2.get;obtain⟨Da,Na,a1,a2,a3⟩:=ca;obtain⟨Db,Nb,b1,b2,b3⟩:=cb;have h:=Vd ts m D N hm (fun j hj=>⟨ht.1 j hj,h1 j⟩) h0 k j a b hj hk ha hb;refine⟨h.nl,h.eq,_,_,h.cd _ _ _ _ a1 b1,?_,?_⟩
 ·rw[aoo,aoo];exact akw (akw a2 b2) (an4 (oI D N j) (yy h2 h3 j))
 ·rw[aoo,aoo];exact akw (akw a3 b3) (yy h2 h3 j)
def uy(ts:LL)(i:Nat)(a:List Rat):List Rat :=
  cQ (rT ts i (a.take (2^i)) (a.take (2^i))) (dq (rT ts i (rT ts i (a.drop (2^i)) (a.drop (2^i))) (ts.getD i [])))
theorem XO{ts:LL}{m r:Nat}(hm:m<=5)(ht:kR ts m r){i e:Nat}{a:List Rat}(hi:i+1<=m)(ha:a.length=2^(i+1))(ca:Cb e a) :
  Nl i (uy ts i a)/\af i (uy ts i a)=T.norm (az ts) i (af (i+1) a)/\Cb (4*e+3*eB r i+r+1) (uy ts i a):=by
 have n1:Nl i (a.take (2^i)):=.inr ⟨i,anp _,iX ha⟩;have n2:Nl i (a.drop (2^i)):=.inr ⟨i,anp _,jk ha⟩;have s1:=od hm ht (k:=i) (show i<=m by omega) oz n1 n1 ca.take ca.take;have s2:=od hm ht (k:=i) (show i<=m by omega) oz n2 n2 ca.drop ca.drop;have s3:=od hm ht (k:=i) (show i<=m by omega) oz s2.1 (ht.1 i oz) s2.2.2 (ht.2.cb i);refine⟨rI s1.1 (un s3.1),?_,?_⟩
 ·unfold uy T.norm;rw[kU,q9,s1.2.1,s3.2.1,s2.2.1];rfl
 ·exact(s1.2.2.plus s3.2.2.minus).mono oz
theorem Zx{sx sy sd sn:Int}(hd:sd=0\/sd=1):T.sgn3 sx sy sd sn=if sx=sy*sd\/sy*sd=0 then sx else if sx=0 then sy*sd else sx*sn:=by
 unfold T.sgn3;rcases hd with rfl |rfl
 ·rw[aoz rfl,aoz (by simp)]
 ·rw[aoy (by decide),Int.mul_one]
def oQ(n:Nat):Nat:=if 0<=du n/\du n<=5 then(du n).toNat else 0
def oH(n:Nat):Bool:=decide (0<=du n/\du n<=5)
theorem qO{k:Nat}(h:k<=5):oQ (2^k)=k/\oH (2^k)=true:=by
 unfold oQ oH;rw[u7,aoz oz];exact⟨by omega,by rw[ao0];omega⟩
theorem Mg{n:Nat}(h:∀k,k<6->n≠2^k):oQ n=0/\oH n=false:=by
 have h1:¬(0<=du n/\du n<=5):=by
  intro h1;obtain⟨j,e1,e2⟩:=Qe h1.1;exact h j oz e1
 unfold oQ oH;rw[aoy h1];exact⟨rfl,ao4 h1⟩
theorem OS{m:Nat}(hm:m<=5)(a:List Rt):(a≠[]/\(du a.length<0\/(m:Int)<du a.length))↔(a.length≠0/\(oH a.length=false\/m<oQ a.length)):=by
 have h0:a≠[]↔a.length≠0:=by
  rw[ne_eq,ne_eq,ak0]
 rw[h0]
 have h1:(du a.length<0\/(m:Int)<du a.length)↔(oH a.length=false\/m<oQ a.length):=by
  unfold oH oQ;rw[decide_eq_false_iff_not];generalize du a.length=z
  by_cases h:0<=z/\z<=5
  ·rw[aoz h];constructor
   ·rintro(h' |h')
    ·omega
    ·exact .inr oz
   ·rintro(h' |h')
    ·exact ao5 h h'
    ·exact .inr oz
  ·rw[aoy h];constructor
   ·intro _;exact .inl h
   ·intro _;omega
 rw[h1]
theorem YC{l m k:Nat}{b:Bool}(h:cond (aa .neq (l:Int) 0) (cond (!b) true (aa .gtr (k:Int) (m:Int))) false=true):l≠0/\(b=false\/m<k):=by
 cases h1:aa .neq (l:Int) 0
 ·rw[h1]at h;cases h
 ·rw[h1] at h;refine ⟨by simpa[aa] using h1,?_⟩;cases b
  ·exact .inl rfl
  ·exact .inr (by simpa[aa]using h)
theorem Ub{l m k:Nat}{b:Bool}(h:cond (aa .neq (l:Int) 0) (cond (!b) true (aa .gtr (k:Int) (m:Int))) false=false):¬(l≠0/\(b=false\/m<k)):=by
 rintro⟨h1,h2⟩;have e1:aa .neq (l:Int) 0=true:=by simpa[aa]using h1
 rw[e1]at h;rcases h2 with rfl |h2
 ·cases h
 ·have e2:aa .gtr (k:Int) (m:Int)=true:=by simpa[aa] using h2
  rw[e2]at h;cases b <;> cases h
theorem V1(a:List Rat)(i:Nat)(h:a.length<=i) :
  BlkSub (.row 3 ((a7 a i).map qA++[.agg [.v (.bool false),.v (.slice none 0 0),.v (.slice none 0 0)]])) (.row 3 ((a7 a (i+1)).map qA)):=by
 have e:a7 a (i+1)=a7 a i++[0]:=by
  unfold a7;rw[show i+1-a.length=(i-a.length)+1 by omega,List.replicate_succ',aor]
 rw[e,aoc];refine .row (by simp) ?_;intro j x y hx hy
 by_cases hj:j<((a7 a i).map qA).length
 ·rw[an8 hj]at hx hy;rw[hx]at hy;cases hy
  simp only[anr,ann]at hx;obtain⟨q,_,rfl⟩:=hx;exact oi.refl (EG q)
 ·rw[an7 oz]at hx hy;cases hk:j-((a7 a i).map qA).length with
  |zero=>rw[hk]at hx hy;cases hx;cases hy;exact qZ
  |succ n=>rw[hk]at hx;simp at hx
theorem Cj(n:Nat):aa .neq (n:Int) 0=aa .gtr (n:Int) 0:=by
 show(((n:Int) != 0):Bool)=decide ((n:Int)>0);cases n with
 |zero=>rfl
 |succ n =>
  have h1:((((n+1:Nat):Int) != 0):Bool)=true:=by rw[bne_iff_ne];omega
  rw[h1];exact(ao3 oz).symm
theorem XE{q:Rat}(h:cond (cond (rt q).neg true (aa .neq ((rt q).num.length:Int) 0)) true (aa .neq ((rt q).den.length:Int) 0)=true):q≠0:=by
 rw[Cj,Cj]at h;exact Jo h
theorem TS{q:Rat}(h:cond (cond (rt q).neg true (aa .neq ((rt q).num.length:Int) 0)) true (aa .neq ((rt q).den.length:Int) 0)=false):q=0:=by
 rw[Cj,Cj]at h;exact IF h
theorem jI{e:Nat}(h:aa .neq (e:Int) 0=true):e≠0:=by
 have:(e:Int)≠0:=by simpa[aa]using h
 omega
theorem jp{e:Nat}(h:aa .neq (e:Int) 0=false):e=0:=by
 have:(e:Int)=0:=by simpa[aa]using h
 omega
theorem X1{rs:List (List Rt)}(ci:∀d∈rs,∀x∈d,x.ok){k j:Nat}(hk:k<=rs.length)(h:∀j,j<k->lg rs j)(hj:j<k):(rs.map nR)[j]?=some (nA (((llq rs).take k).getD j [])):=by
 have h1:=Gv ci hk (fun j hj=>(h j hj).2.1);have h2:((rs.take k).map nR)[j]?=(((llq rs).take k).map nA)[j]?:=by rw[h1]
 simp only[anr,aof,aoz hj]at h2 ⊢;rw[h2];have hl:j<(llq rs).length:=by rw[anl];omega
 simp only[anm,aof,aoz hj];rw[<- anr,ano hl];rfl
structure Tn where
  t:Rt
  half:Bool
namespace Tn
def av(x:Tn):AV:=.agg [bl x.t.neg,ws x.t.num,ws x.t.den,bl x.half]
def err(x:Tn):Nat:=if x.t.valid=true/\(x.half=true->x.t.q=0)then 0 else 2
end Tn
def d8(half:Bool)(t:Rat):Rat:=if half then -1 else(1-t*t)/(1+t*t)
def d6(half:Bool)(t:Rat):Rat:=if half then 0 else(t+t)/(1+t*t)
theorem Tn.err_yes{x:Tn}(h:cond (!x.t.valid) true (cond x.half (aa .neq (b9 x.t.q) 0) false)=true):x.err=2:=by
 unfold Tn.err;rw[aoy];rintro⟨h1,h2⟩;rw[h1]at h;cases hh:x.half
 ·rw[hh]at h;cases h
 ·rw[hh,h2 hh]at h;cases h
theorem Tn.err_no{x:Tn}(h:cond (!x.t.valid) true (cond x.half (aa .neq (b9 x.t.q) 0) false)=false):x.err=0:=by
 unfold Tn.err;rw[aoz];cases hv:x.t.valid
 ·rw[hv]at h;cases h
 ·rw[hv] at h;refine ⟨rfl,fun hh=>?_⟩;rw[hh] at h;have:b9 x.t.q=0:=by simpa[aa] using h
  exact pR this
theorem Tn.ok_valid{x:Tn}(h:x.err=0):x.t.valid=true:=by
 unfold Tn.err at h;split at h
 ·rename_i h1;exact h1.1
 ·cases h
theorem Tc(p:Rat):p/0=0:=by rw[Rat.div_def,Rat.inv_zero,Rat.mul_zero]
structure Plc where
  x:Rt
  y:Rt
def Plc.av(p:Plc):AV:=.agg [bl p.x.neg,ws p.x.num,ws p.x.den,bl p.y.neg,ws p.y.num,ws p.y.den]
structure Pse where
  turn:Tn
  at_:Plc
def Pse.av(p:Pse):AV:=.agg [bl p.turn.t.neg,ws p.turn.t.num,ws p.turn.t.den,bl p.turn.half,bl p.at_.x.neg,ws p.at_.x.num,ws p.at_.x.den,bl p.at_.y.neg,ws p.at_.y.num,ws p.at_.y.den]
def Pse.ok(p:Pse):Bool:=decide (p.turn.err=0)&&p.at_.x.valid&&p.at_.y.valid
theorem Ka(q:Rat):aa .eql (b9 q) 0=decide (q=0):=by
 by_cases h:q=0
 ·subst h;rfl
 ·rw[ao4 h];have:b9 q≠0:=fun h'=>h (pR h')
  simpa[aa]using this
theorem jw(a b:Bool):cond a b false=(a&&b):=by cases a <;> rfl
theorem Tn.err_dec(x:Tn):cond x.t.valid (cond (!x.half) true (decide (x.t.q=0))) false=decide (x.err=0):=by
 unfold Tn.err;cases x.t.valid <;> cases x.half <;> simp
theorem F9{x:Blk}(hx:x.nm=[]){k:Nat}(h:x.Names k):False:=by
 have:=h.mem;rw[hx]at this;cases this
theorem CP{ext:Nat->Prop}{k d:Nat}{x:Blk}{m m2:Nat->Option Nat}{w:apc}(hx:x.nm=[])(h:m2 d=m k)(hr:HeapRel ext [(k,some x)] m w):HeapRel ext [(d,some x)] m2 w:=by
 refine⟨?_,?_,?_⟩
 ·intro k' z hz;obtain⟨rfl,h9⟩:=iQ hz;cases h9;have h1:=hr.blk k _ (by rw[a5,aoz rfl]);rw[nU h (y:=x) (x:=x)];exact BlkRep.mono (w:=w) (fun _ _ h=>h) (fun _ _ h=>h) (fun _ _ hn=>(F9 hx hn).elim) h (fun _ _=>rfl) h1
 ·intro k1 k2 z z' b h1 h2 _ _;rw[(iQ h1).1,(iQ h2).1]
 ·intro k' z b hz hb;obtain⟨rfl,h9⟩:=iQ hz;cases h9;exact hr.sep k _ b (by rw[a5,aoz rfl]) (h▸hb)
theorem Con.rB{P:apb}{f:FuncId}{k off:Nat}{x x':Blk}{xs:List AV}{r:AV}(d:Nat)(hx:x.nm=[])(hx':x'.nm=[])(iV:(xs.all fun x=>x.nm.isEmpty)=true)(hr:r.nm=[])
  (h:Con P f (.ptr k off::xs) [(k,some x)] r [(k,some x')]):Con P f (.ptr d off::xs) [(d,some x)] r [(d,some x')]:=by
 refine⟨h.ok,?_⟩;intro ext m w vs hext cI dG dm
 have h1:=h.ret ext (fun _=>m d) w vs hext (CP (k:=d) hx rfl cI) (by simpa using dG) (by
  intro j v y hv hy;rw[nU (d:=k) (k:=d) (y:=x) (x:=x) (m2:=fun _=>m d) (m:=m) rfl]
  match j,hy with
  |0,hy =>
   cases hy;have h2:=dm 0 v _ hv rfl;cases h2 with
   |ptr hm=>exact .ptr hm
  |j+1,hy =>
   have h2:=dm (j+1) v y hv hy;refine lU ?_ h2;have:=anx.1 iV y (ank hy);simpa using this)
 refine Calls.mono h1 ?_;rintro e w' ⟨v,m',rfl,hf,hh,hn,hk,bA⟩
 have ho:bj [(k,some x)] (fun _=>m d)=bj [(d,some x)] m:=by
  funext b;apply propext;rw[nO,nO]
 refine⟨v,fun _=>m' k,rfl,ho▸hf,CP (k:=k) hx' rfl hh,?_,?_,?_⟩
 ·intro k' x b hx hb;rw[<- ho];exact hn k _ b (by rw[a5,aoz rfl]) hb
 ·intro k' x y hx hy;obtain⟨rfl,_⟩:=iQ hx;exact hk k _ _ (by rw[a5,aoz rfl]) (by rw[a5,aoz rfl])
 ·rw[nU (d:=d) (k:=k) (y:=x') (x:=x') (m2:=fun _=>m' k) (m:=m') rfl];exact lU hr bA
structure Nm(n e:Nat)(l:List Rat):Prop where
  five:n<=5
  nl:Nl n l
  cb:Cb e l
theorem Nm.mono{n e f:Nat}{l:List Rat}(h:Nm n e l)(hf:e<=f):Nm n f l:=⟨h.five,h.nl,h.cb.mono hf⟩
theorem Nm.rt{n e:Nat}{l:List Rat}(h:Nm n e l)(he:e<=lm n):NR (l.map Go.Lw.rt) e:=by
 have dW:=jA n;refine⟨?_,by have:=h.nl.len5 h.five;rw[anl];omega,by rw[dO];exact h.cb⟩;intro x hx;obtain⟨q,hq,rfl⟩:=al0.1 hx;exact(h.cb.qs oz hq).ok
theorem Nm.chk{n e:Nat}{l:List Rat}(h:Nm n e l):cA n (l.map Go.Lw.rt)=0:=ue h.nl
theorem Nm.add{n e f:Nat}{a b:List Rat}(ha:Nm n e a)(hb:Nm n f b):Nm n (e+f+1) (sh n (T.add n (af n a) (af n b))):=by
 refine⟨ha.five,ek _ _,?_⟩;rw[<- kU];exact(ha.cb.plus hb.cb).sh (rI ha.nl hb.nl)
theorem Nm.neg{n e:Nat}{a:List Rat}(ha:Nm n e a):Nm n e (sh n (T.neg n (af n a))):=by
 refine⟨ha.five,ek _ _,?_⟩;rw[<- q9];exact ha.cb.minus.sh (un ha.nl)
theorem Nm.sub{n e f:Nat}{a b:List Rat}(ha:Nm n e a)(hb:Nm n f b):Nm n (e+f+1) (sh n (T.add n (af n a) (T.neg n (af n b)))):=by
 refine⟨ha.five,ek _ _,?_⟩;rw[<- q9,<- kU];exact(ha.cb.plus hb.cb.minus).sh (rI ha.nl (un hb.nl))
abbrev kB(r n:Nat):Nat:=eB r n
theorem Nm.mul{ts:LL}{r n e f:Nat}(tw:Tw ts r)(hn:n=ts.length){a b:List Rat}(ha:Nm n e a)(hb:Nm n f b):Nm n (e+f+kB r n) (sh n (T.mul (az ts) n (af n a) (af n b))):=by
 subst hn;refine⟨ha.five,ek _ _,?_⟩;have h1:=ju ts ts.length tw.ok.1 ts.length ts.length a b (anp _) (anp _) ha.nl hb.nl;have h2:=Cb.mul tw.ok (k:=ts.length) (anp ts.length) (anp _) ha.nl hb.nl ha.cb hb.cb;rw[<- h1.2];exact h2.sh h1.1
theorem Nm.ofQ{n e:Nat}(hn:n<=5){q:Rat}(h:Cb e [q]):Nm n e (sh 0 (q:Rat)):=by
 refine⟨hn,(ek 0 q).mono (ans _),?_⟩;have:=h.sh (k:=0) (.inr ⟨0,anp _,rfl⟩);exact this
theorem Cb.one{e:Nat}{q:Rat}(h:Qb e q):Cb e [q]:=by
 refine⟨q.den,q.num.natAbs,⟨by have:=q.den_nz;omega,?_⟩,le_of_lt h.2,le_of_lt h.1⟩;intro x hx;rw[alr.1 hx];refine⟨q.num,?_,anp _⟩
 have hd:((q.den:Int):Rat)≠0:=by
  intro h0;have:(q.den:Int)=0:=amk.1 h0;have:=q.den_nz;omega
 have hq:q=(q.num:Rat)/((q.den:Int):Rat):=by
  rw[<- amg,amm]
 have h1:(q.num:Rat)/((q.den:Int):Rat)*((q.den:Int):Rat)=(q.num:Rat):=amn hd;rw[<- hq]at h1;exact h1
theorem kM(n:Nat)(q:Rat):af n (sh 0 (q:Rat))=T.ofQ n q:=by
 show af n (if q=0 then[]else[q])=_;split
 ·rename_i h;subst h;rw[jX]
  induction n with
  |zero=>rfl
  |succ n ih=>simp only[T.zero,T.ofQ,ih]
 ·exact pO n q
def aP(x y:List Rat):AV:=.agg [nA x,nA y]
def kp(ts:LL):Blk:=.box [.lst 1 (ts.map nA),.v .nilIface]
theorem BN{ts:LL}{r e:Nat}(tw:Tw ts r){a:List Rat}(ha:Nm ts.length e a):bc (ts.map (List.map rt)) [a.map rt]=0:=by
 refine rK tw.chk (fun x hx=>?_);rw[alr.1 hx,anl];exact ha.chk
theorem rQ{ts:LL}{r e f:Nat}(tw:Tw ts r){a b:List Rat}(ha:Nm ts.length e a)(hb:Nm ts.length f b):bc (ts.map (List.map rt)) [a.map rt,b.map rt]=0:=by
 refine rK tw.chk (fun x hx=>?_);rw[anl];simp only[an9,aob,or_false]at hx;rcases hx with rfl |rfl
 ·exact ha.chk
 ·exact hb.chk
def ma:List (List Rat×List Rat)->LL
  |[]=>[]
  |p::l=>p.1::p.2::ma l
theorem M2:∀(a b:List (List Rat×List Rat)),ma (a++b)=ma a++ma b
 |[],b=>rfl
 |p::a,b=>by simp only[ak5,ma,M2 a b]
theorem AI:∀(a:List (List Rat×List Rat)),(ma a).length=2*a.length
 |[]=>rfl
 |p::a=>by simp only[ma,an0,AI a];omega
theorem NG{P:List Rat->Prop}:∀{ps:List (List Rat×List Rat)},(∀p∈ps,P p.1/\P p.2)->∀l∈ma ps,P l
 |[],_,l,h=>by cases h
 |p::ps,hp,l,h=>by
  simp only[ma,an9]at h;rcases h with rfl |rfl |h
  ·exact(hp p (by simp)).1
  ·exact(hp p (by simp)).2
  ·exact NG (fun q hq=>hp q (by simp[hq])) l h
theorem bH{s:AS}{k:Nat}{x:Blk}(h:lk s.hp k=some x):∀k' z,lk [(k,some x)] k'=some z->lk s.hp k'=some z:=by
 intro k' z hz;obtain⟨rfl,h9⟩:=iQ hz;cases h9;exact h
def vE(ts:LL)(a b c d:T ts.length):T ts.length:=T.add ts.length (T.mul (az ts) ts.length a c) (T.mul (az ts) ts.length b d)
def q5(ts:LL)(a b c d:T ts.length):T ts.length:=T.add ts.length (T.mul (az ts) ts.length a d) (T.neg ts.length (T.mul (az ts) ts.length b c))
theorem C1{ts:LL}{a b c d:T ts.length}:T.add ts.length (af ts.length (sh ts.length (T.mul (az ts) ts.length a c))) (af ts.length (sh ts.length (T.mul (az ts) ts.length b d)))=vE ts a b c d:=by
 rw[bn,bn];rfl
theorem x4{ts:LL}{a b c d:T ts.length}:T.add ts.length (af ts.length (sh ts.length (T.mul (az ts) ts.length a d))) (T.neg ts.length (af ts.length (sh ts.length (T.mul (az ts) ts.length b c))))=q5 ts a b c d:=by
 rw[bn,bn];rfl
abbrev subT(ts:LL)(x y:T ts.length):T ts.length:=T.add ts.length x (T.neg ts.length y)
def vz(ts:LL)(a b c d p q:T ts.length):T ts.length:=q5 ts (subT ts c a) (subT ts d b) (subT ts p a) (subT ts q b)
theorem Pw{ts:LL}{a b c d p q:T ts.length} :
  q5 ts (af ts.length (sh ts.length (subT ts c a))) (af ts.length (sh ts.length (subT ts d b))) (af ts.length (sh ts.length (subT ts p a))) (af ts.length (sh ts.length (subT ts q b)))=vz ts a b c d p q:=by
 rw[bn,bn,bn,bn];rfl
theorem Lv{ts:LL}{r e f:Nat}(tw:Tw ts r){a b c d:List Rat}(ha:Nm ts.length e a)(hb:Nm ts.length e b)(hc:Nm ts.length f c)(hd:Nm ts.length f d) :
  Nm ts.length (2*(e+f+kB r ts.length)+1) (sh ts.length (vE ts (af ts.length a) (af ts.length b) (af ts.length c) (af ts.length d))):=by
 have h:=(ha.mul tw rfl hc).add (hb.mul tw rfl hd);rw[C1]at h;exact h.mono oz
theorem GH{ts:LL}{r e f:Nat}(tw:Tw ts r){a b c d:List Rat}(ha:Nm ts.length e a)(hb:Nm ts.length e b)(hc:Nm ts.length f c)(hd:Nm ts.length f d) :
  Nm ts.length (2*(e+f+kB r ts.length)+1) (sh ts.length (q5 ts (af ts.length a) (af ts.length b) (af ts.length c) (af ts.length d))):=by
 have h:=(ha.mul tw rfl hd).sub (hb.mul tw rfl hc);rw[x4]at h;exact h.mono oz
theorem adf{ts:LL}{r e:Nat}(tw:Tw ts r){a b c d p q:List Rat}(ha:Nm ts.length e a)(hb:Nm ts.length e b)(hc:Nm ts.length e c)(hd:Nm ts.length e d)(hp:Nm ts.length e p)(hq:Nm ts.length e q) :
  Nm ts.length (8*e+5+2*kB r ts.length) (sh ts.length (vz ts (af ts.length a) (af ts.length b) (af ts.length c) (af ts.length d) (af ts.length p) (af ts.length q))):=by
 have h:=GH tw (hc.sub ha) (hd.sub hb) (hp.sub ha) (hq.sub hb);rw[Pw]at h;exact h.mono oz
def uX(ts:LL)(cos sin x y:T ts.length):T ts.length:=q5 ts cos sin y x
def wj(ts:LL)(cos sin x y:T ts.length):T ts.length:=vE ts sin cos x y
theorem wR{ts:LL}{r e f:Nat}(tw:Tw ts r){a b c d:List Rat}(ha:Nm ts.length e a)(hb:Nm ts.length e b)(hc:Nm ts.length f c)(hd:Nm ts.length f d) :
  Nm ts.length (2*(e+f+kB r ts.length)+1) (sh ts.length (uX ts (af ts.length a) (af ts.length b) (af ts.length c) (af ts.length d))):=GH tw ha hb hd hc
theorem vR{ts:LL}{r e f:Nat}(tw:Tw ts r){a b c d:List Rat}(ha:Nm ts.length e a)(hb:Nm ts.length e b)(hc:Nm ts.length f c)(hd:Nm ts.length f d) :
  Nm ts.length (2*(e+f+kB r ts.length)+1) (sh ts.length (wj ts (af ts.length a) (af ts.length b) (af ts.length c) (af ts.length d))):=Lv tw hb ha hc hd
def vo(ts:LL)(cos sin X:T ts.length)(x y:Rat):T ts.length:=T.add ts.length (uX ts cos sin (T.ofQ ts.length x) (T.ofQ ts.length y)) X
def wW(ts:LL)(cos sin Y:T ts.length)(x y:Rat):T ts.length:=T.add ts.length (wj ts cos sin (T.ofQ ts.length x) (T.ofQ ts.length y)) Y
theorem xI{ts:LL}{cos sin X:T ts.length}{x y:Rat}:T.add ts.length (af ts.length (sh ts.length (uX ts cos sin (af ts.length (sh 0 (x:Rat))) (af ts.length (sh 0 (y:Rat)))))) X=vo ts cos sin X x y:=by
 rw[bn,kM,kM];rfl
theorem yw{ts:LL}{cos sin Y:T ts.length}{x y:Rat}:T.add ts.length (af ts.length (sh ts.length (wj ts cos sin (af ts.length (sh 0 (x:Rat))) (af ts.length (sh 0 (y:Rat)))))) Y=wW ts cos sin Y x y:=by
 rw[bn,kM,kM];rfl
theorem Sub.fn0(f:FuncId):Sub (.v (.func (.func f) #[] #[])) (.fn f []):=fun g S m v h=>by
 cases h;exact .fn rfl (fun j u c hu hc=>by simp at hc)
theorem DQ{e k m:Nat}(h:8*e+4*k+4<=m):2*(2*(e+e+k)+1)<=m:=by omega
theorem GA{rs:List (List Rt)}{a:List Rt}(h:bB rs=0):bc rs [a]=cA rs.length a:=by
 unfold bc;rw[aoy (by rw[h];simp)];show(if _ then _ else 0)=_;split
 ·rfl
 ·rename_i h1;exact(anj.1 h1).symm
def fJ(ts:LL)(x y:T ts.length):Bool:=decide (T.sgn (az ts) ts.length (subT ts x y)=0)
theorem ah7(z:Int):cond true (aa .eql z 0) false=decide (z=0):=by
 by_cases h:z=0
 ·subst h;rfl
 ·rw[ao4 h];simpa[aa]using h
theorem uz{n:Int}(h:-9223372036854775808<=n/\n<=9223372036854775807):Qs ((n:Rat)):=by
 refine⟨2,by unfold iK;omega,?_,?_⟩
 ·unfold Lz;simp only[Rat.num_intCast,Nat.reducePow];omega
 ·unfold Lz;simp only[Rat.den_intCast];decide
theorem YU(a b c d:Bool):cond (cond (cond a b false) c false) d false=(a&&b&&c&&d):=by cases a <;> cases b <;> cases c <;> rfl
def fF(s:ByteArray)(i:Nat):Nat:=(s.data.getD i 0).toNat
def gT(c:Nat):Bool:=decide (97<=c/\c<=122)||decide (65<=c/\c<=90)
def uV(c:Nat):Bool:=decide (48<=c/\c<=57)
def oY(c:Nat):Bool:=gT c||uV c||decide (c=95)
def rC(s:ByteArray):Nat->Nat->Bool
  |_,0=>true
  |i,n+1=>oY (fF s i)&&rC s (i+1) n
def kL(s:ByteArray):Bool:=decide (0<s.size/\s.size<=24)&&gT (fF s 0)&&rC s 0 s.size
def iD(s:ByteArray):Nat->Nat->Nat
  |i,0=>i
  |i,n+1=>if oY (fF s i)then iD s (i+1) n else i
theorem Po(s:ByteArray):∀(n i:Nat),i<=iD s i n/\iD s i n<=i+n
 |0,i=>⟨anp _,anp _⟩
 |n+1,i=>by
  simp only[iD];split
  ·have:=Po s n (i+1);omega
  ·omega
theorem EO(s:ByteArray):∀(n i:Nat),iD s i n=i+n↔rC s i n=true
 |0,i=>by simp[iD,rC]
 |n+1,i=>by
  simp only[iD,rC,anq];split
  ·rename_i h;rw[<- EO s n (i+1),show i+(n+1)=i+1+n by omega];simp[h]
  ·rename_i h;constructor
   ·intro h';omega
   ·intro h';exact ao5 h'.1 h
theorem VU{c:Nat}(h:gT c=true):oY c=true:=by unfold oY;rw[h];rfl
def il(s:ByteArray):Nat:=if 0<s.size/\gT (fF s 0)=true then iD s 1 (s.size-1)else 0
theorem af5(s:ByteArray):kL s=decide (0<il s/\il s=s.size/\il s<=24):=by
 unfold kL il;rw[amu];simp only[anq,ao0]
 by_cases h:0<s.size/\gT (fF s 0)=true
 ·rw[aoz h];obtain⟨h1,h2⟩:=h;have h3:=EO s (s.size-1) 1
  have h4:rC s 0 s.size=rC s 1 (s.size-1):=by
   obtain⟨n,hn⟩:∃n,s.size=n+1:=⟨s.size-1,by omega⟩
   rw[hn];simp only[rC,VU h2,amt,ajv]
  have h5:=Po s (s.size-1) 1;rw[h4,<- h3];constructor
  ·rintro⟨⟨h6,h7⟩,h8⟩;omega
  ·rintro⟨h6,h7,h8⟩;exact⟨⟨by omega,h2⟩,by omega⟩
 ·rw[aoy h];constructor
  ·rintro⟨⟨h1,h2⟩,h3⟩;exact ao5 ⟨h1.1,h2⟩ h
  ·rintro⟨h1,_⟩;omega
theorem Uf(s:ByteArray)(h0:0<s.size)(h24:s.size<=24):kL s=decide ((if gT (fF s 0)then iD s 0 s.size else 0)=s.size):=by
 unfold kL;rw[amu];simp only[anq,ao0];have h3:=EO s s.size 0;rw[akv]at h3
 by_cases h:gT (fF s 0)=true
 ·rw[aoz h,h3];exact⟨fun h=>h.2,fun h'=>⟨⟨⟨h0,h24⟩,h⟩,h'⟩⟩
 ·rw[aoy h];exact⟨fun h'=>ao5 h'.1.2 h,fun h'=>by omega⟩
def fm(a b:ByteArray):Bool:=a.toList==b.toList
def it(n:Nat)(err:Nat->Nat):Nat:=gO ((List.range n).map err)
theorem fU{n i:Nat}{err:Nat->Nat}(hi:i<n)(h:∀j,j<i->err j=0)(he:err i≠0):it n err=err i:=by
 unfold it
 have e:List.range n=List.range i++(i::(List.range' (i+1) (n-(i+1)))):=by
  obtain⟨d,rfl⟩:∃d,n=i+(d+1):=⟨n-i-1,by omega⟩
  rw[List.range_eq_range',List.range_eq_range',<- List.range'_append_1,akv,List.range'_succ,show i+(d+1)-(i+1)=d by omega]
 rw[e,aoc,zJ _ _ (tm (fun x hx=>by
  obtain⟨j,hj,rfl⟩:=al0.1 hx;exact h j (alh.1 hj)))]
 show(if err i≠0 then err i else _)=_;rw[aoz he]
theorem rF{n:Nat}{err:Nat->Nat}(h:∀j,j<n->err j=0):it n err=0 :=
 tm (fun x hx=>by obtain⟨j,hj,rfl⟩:=al0.1 hx;exact h j (alh.1 hj))
theorem xM{n:Nat}{err:Nat->Nat}(h:it n err=0):∀j,j<n->err j=0:=fun j hj =>
 tU h _ (al0.2 ⟨j,alh.2 hj,rfl⟩)
structure Mk where
  name:ByteArray
  x:Rt
  y:Rt
instance:Inhabited Mk:=⟨⟨default,⟨false,[],[]⟩,⟨false,[],[]⟩⟩⟩
def Mk.av(m:Mk):AV:=.agg [.v (.string m.name),bl m.x.neg,ws m.x.num,ws m.x.den,bl m.y.neg,ws m.y.num,ws m.y.den]
structure Bd where
  name:ByteArray
  pts:List Mk
instance:Inhabited Bd:=⟨⟨default,[]⟩⟩
def Bd.av(b:Bd):AV:=.agg [.v (.string b.name),.lst 7 (b.pts.map Mk.av)]
structure Jt where
  name:ByteArray
  kind:Int
  a:Int
  point:Int
  b:Int
  on:Int
  to:Int
instance:Inhabited Jt:=⟨⟨default,0,0,0,0,0,0⟩⟩
def Jt.av(j:Jt):AV:=.agg [.v (.string j.name),i64 j.kind,i64 j.a,i64 j.point,i64 j.b,i64 j.on,i64 j.to]
structure Dr where
  name:ByteArray
  body:Int
instance:Inhabited Dr:=⟨⟨default,0⟩⟩
def Dr.av(d:Dr):AV:=.agg [.v (.string d.name),i64 d.body]
structure Li where
  name:ByteArray
  bo:List Bd
  jo:List Jt
  dv:List Dr
def Li.av(l:Li):AV:=.agg [.v (.string l.name),.lst 2 (l.bo.map Bd.av),.lst 7 (l.jo.map Jt.av),.lst 2 (l.dv.map Dr.av)]
structure Mk.ok(m:Mk):Prop where
  x:m.x.ok
  y:m.y.ok
  qx:Qb 1000 m.x.q
  qy:Qb 1000 m.y.q
structure Bd.ok(b:Bd):Prop where
  pts:∀m∈b.pts,m.ok
  names:∀m∈b.pts,m.name.size<=281474976710656
  ll:b.pts.length<=281474976710656
  name:b.name.size<=281474976710656
structure Li.ok(l:Li):Prop where
  name:l.name.size<=281474976710656
  bo:∀b∈l.bo,b.ok
  jnames:∀j∈l.jo,j.name.size<=281474976710656
  dnames:∀d∈l.dv,d.name.size<=281474976710656
  lb:l.bo.length<=281474976710656
  lj:l.jo.length<=281474976710656
  ld:l.dv.length<=281474976710656
def jN(l:List ByteArray)(i:Nat):Bool:=(l.take i).any (fun n=>fm n (l.getD i default))
def fW(ps:List Mk)(i:Nat):Nat :=
  if kL (ps.getD i default).name=false then 5 else if jN (ps.map Mk.name) i=true then 6
  else if(ps.getD i default).x.valid=true/\(ps.getD i default).y.valid=true then 0 else 3
def fZ(bs:List Bd)(i:Nat):Nat :=
  if kL (bs.getD i default).name=false then 5 else if jN (bs.map Bd.name) i=true then 6
  else if 8<(bs.getD i default).pts.length then 4 else it (bs.getD i default).pts.length (fW (bs.getD i default).pts)
def bT(i:Int)(n:Nat):Bool:=decide (0<=i/\i<n)
def dw(l:Li)(i:Int):List Mk:=(l.bo.getD i.toNat default).pts
def f8(l:Li)(j:Jt):Nat :=
  if j.kind≠0/\j.kind≠1 then 7
  else if bT j.a l.bo.length=false\/bT j.b l.bo.length=false then 9
  else if j.a=j.b then 13
  else if bT j.point (dw l j.a).length=false\/bT j.on (dw l j.b).length=false then 9
  else if j.kind=0 then(if j.to≠0 then 2 else 0)
  else if bT j.to (dw l j.b).length=false then 9
  else if((dw l j.b).getD j.on.toNat default).x.q=((dw l j.b).getD j.to.toNat default).x.q/\((dw l j.b).getD j.on.toNat default).y.q=((dw l j.b).getD j.to.toNat default).y.q then 8
  else 0
def jr(l:Li)(i:Nat):Nat :=
  if kL (l.jo.getD i default).name=false then 5 else if jN (l.jo.map Jt.name) i=true then 6 else f8 l (l.jo.getD i default)
def fN(l:Li)(i:Nat):Nat :=
  if kL (l.dv.getD i default).name=false then 5 else if jN (l.dv.map Dr.name) i=true then 6
  else if bT (l.dv.getD i default).body l.bo.length=false then 9
  else if(l.dv.getD i default).body=0 then 7
  else if(l.dv.take i).any (fun d=>decide (d.body=(l.dv.getD i default).body))=true then 6 else 0
def kS(l:Li):Nat:=it l.bo.length (fZ l.bo)
def gN(l:Li):Nat:=if 16<l.jo.length then 4 else it l.jo.length (jr l)
def jM(l:Li):Nat:=if 2<l.dv.length then 4 else it l.dv.length (fN l)
def aM(l:Li):Nat :=
  if kL l.name=false then 5 else if l.bo.length=0 then 10 else if 8<l.bo.length then 4
  else if kS l≠0 then kS l else if gN l≠0 then gN l else jM l
theorem aw{α:Type}{l:List α}{i:Nat}{x d:α}(h:l[i]?=some x):l.getD i d=x:=by rw[anm,h];rfl
theorem sO{α:Type}(f:α->ByteArray){l:List α}{i:Nat}{x:α}(h:l[i]?=some x):jN (l.map f) i=(l.take i).any (fun y=>fm (f y) (f x)):=by
 unfold jN;have h1:(l.map f).getD i default=f x:=aw (by rw[anr,h];rfl);rw[h1,<- map_take,List.any_map];rfl
theorem oO{α:Type}{p:α->Bool}{l:List α}{k:Nat}{x:α}(h:l[k]?=some x)(hn:(l.take k).any p=false)(hp:p x=false):(l.take (k+1)).any p=false:=by
 rw[dR h,List.any_append,hn];simp[hp]
theorem pM{α:Type}{p:α->Bool}{l:List α}{k i:Nat}{x:α}(h:l[k]?=some x)(hk:k<i)(hp:p x=true):(l.take i).any p=true:=by
 rw[ald];exact⟨x,ank (by rw[aof,aoz hk];exact h),hp⟩
theorem JF(s:ByteArray):(s.toList==ByteArray.toList ⟨#[]⟩)=decide (s.size=0):=by
 have e:ByteArray.toList ⟨#[]⟩=[]:=Go.ByteArray.toList_eq _;have h:s.toList.length=s.size:=by rw[Go.ByteArray.toList_eq];cases s;rfl
 rw[e,amu,beq_iff_eq,ao0];constructor
 ·intro h';rw[h']at h;simpa using h.symm
 ·intro h';exact alb oz
theorem OL{s:ByteArray}(h:(s.toList==ByteArray.toList ⟨#[]⟩)=false):0<s.size:=by
 rw[JF,decide_eq_false_iff_not]at h;omega
theorem bf{a b:Nat}(h:aa .lss (a:Int) (b:Int)=true):a<b:=by
 have:(a:Int)<b:=ao1 h;omega
theorem wE{a b:Nat}(h:aa .lss (a:Int) (b:Int)=false):b<=a:=by
 have:¬(a:Int)<b:=ao2 h;omega
theorem TT{a b:Nat}{p:Bool}(h:cond (aa .lss (a:Int) (b:Int)) p false=true):a<b/\p=true:=by
 cases h1:aa .lss (a:Int) (b:Int)
 ·rw[h1]at h;cases h
 ·rw[h1]at h;exact⟨bf h1,h⟩
theorem aid{a b:Nat}{p:Bool}(h:cond (aa .lss (a:Int) (b:Int)) p false=false):a<b->p=false:=by
 intro h0;have h1:aa .lss (a:Int) (b:Int)=true:=ao3 (by omega:(a:Int)<b);rw[h1]at h;exact h
theorem X4{s:ByteArray}(h:cond (s.toList==ByteArray.toList ⟨#[]⟩) true (!gT (fF s 0))=true):il s=0:=by
 unfold il;rw[aoy];rintro⟨h1,h2⟩;rw[JF,ao4 oz,h2]at h;cases h
theorem Tj{s:ByteArray}(h:cond (s.toList==ByteArray.toList ⟨#[]⟩) true (!gT (fF s 0))=false):0<s.size/\gT (fF s 0)=true:=by
 cases h1:(s.toList==ByteArray.toList ⟨#[]⟩)
 ·rw[h1]at h;exact⟨OL h1,by simpa using h⟩
 ·rw[h1]at h;cases h
theorem NY{s:ByteArray}{i:Nat}(h:s.size<=i):fF s i=0:=by
 unfold fF;have:s.data.size<=i:=h;simp[anv,am2 this]
theorem ad0(s:ByteArray):cond (cond (aa .gtr (il s:Int) 0) (aa .eql (il s:Int) (s.size:Int)) false) (aa .leq (il s:Int) 24) false=kL s:=by
 rw[af5,amu,ao0];cases h1:aa .gtr (il s:Int) 0
 ·have:¬(il s:Int)>0:=ao2 h1;simp;omega
 ·have h1:(il s:Int)>0:=ao1 h1;cases h2:aa .eql (il s:Int) (s.size:Int)
  ·have:(il s:Int)≠s.size:=by simpa[aa] using h2
   simp;omega
  ·have h2:(il s:Int)=s.size:=eq_of_beq h2
   have h3:aa .leq (il s:Int) 24=true↔il s<=24:=by
    show decide ((il s:Int)<=24)=true↔_;rw[ao0];omega
   simp only[cond_true,h3];omega
theorem VZ(s:ByteArray):cond (cond (aa .gtr (s.size:Int) 0) (aa .leq (s.size:Int) 24) false) (aa .eql (((if gT (fF s 0)then iD s 0 s.size else 0:Nat)):Int) (s.size:Int)) false=kL s:=by
 cases h1:aa .gtr (s.size:Int) 0
 ·have h1:¬(s.size:Int)>0:=ao2 h1;unfold kL;rw[ao4 (show ¬(0<s.size/\s.size<=24) by omega)];rfl
 ·have h1:(s.size:Int)>0:=ao1 h1;cases h2:aa .leq (s.size:Int) 24
  ·have h2:¬(s.size:Int)<=24:=ao2 h2;unfold kL;rw[ao4 (show ¬(0<s.size/\s.size<=24) by omega)];rfl
  ·have h2:(s.size:Int)<=24:=ao1 h2;rw[Uf s oz oz];simp only[cond_true];rw[amu,ao0];generalize(if gT (fF s 0)=true then iD s 0 s.size else 0)=m;show(((m:Int)==(s.size:Int))=true)↔_;rw[beq_iff_eq];omega
theorem yC{α:Type}(sz:Nat)(f:α->AV)(l:List α)(n:Nat):AV.lst sz (((l.map f).drop 0).take (n-0))=.lst sz ((l.take n).map f):=by
 rw[Nat.sub_zero,aov,map_take]
theorem yM{α:Type}{l:List α}{i k:Nat}{x:α}(h:(l.take i)[k]?=some x):l[k]?=some x/\k<i:=by
 rw[aof]at h;split at h
 ·rename_i hk;exact⟨h,hk⟩
 ·cases h
theorem Ot(i:Int)(n:Nat):cond (aa .geq i 0) (aa .lss i (n:Int)) false=bT i n:=by
 unfold bT;rw[amu,ao0];cases h:aa .geq i 0
 ·have:¬i>=0:=ao2 h;simp;omega
 ·have h:i>=0:=ao1 h;show decide (i<(n:Int))=true↔_;rw[ao0];omega
theorem cS{i:Int}{n:Nat}(h:bT i n=true):0<=i/\i<n:=ao1 h
theorem tC{p q:Bool}(h:cond (!p) true (!q)=true):p=false\/q=false:=by cases p <;> cases q <;> simp_all
theorem tK{p q:Bool}(h:cond (!p) true (!q)=false):p=true/\q=true:=by cases p <;> cases q <;> simp_all
theorem dP{p:Bool}(h:(!p)=true):p=false:=by cases p <;> simp_all
theorem dN{p:Bool}(h:(!p)=false):p=true:=by cases p <;> simp_all
theorem lY{a b:Nat}(h:aa .gtr (a:Int) (b:Int)=true):b<a:=by
 have:(a:Int)>b:=ao1 h;omega
theorem jQ{a b:Nat}(h:aa .gtr (a:Int) (b:Int)=false):a<=b:=by
 have:¬(a:Int)>b:=ao2 h;omega
theorem bu{a b:Nat}(cF:a<=b)(h:aa .lss (a:Int) (b:Int)=false):a=b:=by have:=wE h;omega
theorem dI{x y:Int}(h:aa .eql x y=true):x=y:=by simpa[aa]using h
theorem fq{x y:Int}(h:aa .eql x y=false):x≠y:=by simpa[aa]using h
theorem xu{x y:Int}(h:aa .neq x y=true):x≠y:=by simpa[aa]using h
theorem C9{x y:Int}(h:aa .neq x y=false):x=y:=by simpa[aa]using h
theorem JO{k:Int}(h:cond (aa .neq k 0) (aa .neq k 1) false=true):k≠0/\k≠1:=by
 cases h1:aa .neq k 0
 ·rw[h1]at h;cases h
 ·rw[h1]at h;exact⟨xu h1,xu h⟩
theorem QE{k:Int}(h:cond (aa .neq k 0) (aa .neq k 1) false=false):¬(k≠0/\k≠1):=by
 rintro⟨h1,h2⟩;have e1:aa .neq k 0=true:=by simpa[aa]using h1
 have e2:aa .neq k 1=true:=by simpa[aa]using h2
 rw[e1,e2]at h;cases h
theorem Ox{p q r s:Rat}(h:cond (aa .eql (b9 (p-q)) 0) (aa .eql (b9 (r-s)) 0) false=true):p=q/\r=s:=by
 cases h1:aa .eql (b9 (p-q)) 0
 ·rw[h1]at h;cases h
 ·rw[h1]at h;have e1:=pR (dI h1);have e2:=pR (dI h);exact⟨by grind,by grind⟩
theorem Kc{p q r s:Rat}(h:cond (aa .eql (b9 (p-q)) 0) (aa .eql (b9 (r-s)) 0) false=false):¬(p=q/\r=s):=by
 rintro⟨rfl,rfl⟩;rw[Rat.sub_self,Rat.sub_self]at h;cases h
theorem tH{l:Li}{i:Int}(h:bT i l.bo.length=true):∃b,l.bo[i.toNat]?=some b/\dw l i=b.pts/\b∈l.bo/\0<=i:=by
 have h1:=cS h;obtain⟨b,hb⟩:=aB (l:=l.bo) (i:=i.toNat) oz;exact⟨b,hb,by unfold dw;rw[aw hb],ank hb,h1.1⟩
theorem vn{ps:List Mk}{i:Int}(h:bT i ps.length=true):∃m,ps[i.toNat]?=some m/\ps.getD i.toNat default=m/\m∈ps/\0<=i:=by
 have h1:=cS h;obtain⟨m,hm⟩:=aB (l:=ps) (i:=i.toNat) oz;exact⟨m,hm,aw hm,ank hm,h1.1⟩
theorem vV{x y:Int}:aa .eql x y=decide (x=y):=by
 show(x==y)=decide (x=y);rw[amu,beq_iff_eq,ao0]
theorem Jn{n:Nat}(h:aa .eql (n:Int) 0=true):n=0:=by have:=dI h;omega
theorem JT{n:Nat}(h:aa .eql (n:Int) 0=false):n≠0:=by have:=fq h;omega
theorem TQ{p q r s:Rat}:cond (aa .eql (b9 (p-q)) 0) (aa .eql (b9 (r-s)) 0) false=decide (p=q/\r=s):=by
 cases h:cond (aa .eql (b9 (p-q)) 0) (aa .eql (b9 (r-s)) 0) false
 ·exact(ao4 (Kc h)).symm
 ·exact(ao3 (Ox h)).symm
theorem agm{e:Nat}{q:Rat}(h:Qb e q):Cd q.den (2^e) [q]:=by
 refine⟨Nat.pos_of_ne_zero q.den_nz,fun p hp=>?_⟩;rw[alr.1 hp];refine⟨q.num,?_,le_of_lt h.1⟩
 have h0:((q.den:Int):Rat)≠0:=by
  intro h0;have:(q.den:Int)=0:=amk.1 h0;have:=q.den_nz;omega
 have h1:q=(q.num:Rat)/((q.den:Int):Rat):=by
  rw[<- amg];exact(amm q).symm
 have h2:=amn (a:=(q.num:Rat)) h0;rw[<- h1]at h2;exact h2
theorem Pp{e:Nat}:∀{l:List Rat},(∀q∈l,Qb e q)->∃D N,Cd D N l/\D<=2^(e*l.length)/\N<=2^(e*l.length+e)
 |[],_=>⟨1,1,Cd.nil oz,by simp,ajr⟩
 |q::l,h=>by
  obtain⟨D,N,h1,h2,h3⟩:=Pp (l:=l) (fun p hp=>h p (aom _ hp));have hq:=h q (aok ..);have e1:e*(q::l).length=e*l.length+e:=by rw[an0,akc,Nat.mul_one]
  have k1:=(h1.scale (Nat.pos_of_ne_zero q.den_nz))
  have k2:=((agm hq).scale h1.1)
  rw[ajt]at k2;refine⟨D*q.den,2^(e*l.length+e+e),?_,?_,?_⟩
  ·refine(Cd.app (a:=[q]) (k2.mono ?_) (k1.mono ?_))
   ·refine an4 (ant _ h2) ?_;rw[<- aoo];exact cK oz
   ·refine an4 (akw h3 (le_of_lt hq.2)) ?_;rw[<- aoo];exact anp _
  ·rw[e1,aoo];exact akw h2 (le_of_lt hq.2)
  ·rw[e1];exact anp _
def ul(w m:Nat)(x:List Rt):Bool:=decide (x.length<=m)&&x.all (fun r=>decide (r.num.length<=w/\r.den.length<=w))
def sa(w m:Nat)(l:List (List Rt)):Bool:=l.all (ul w m)
def uq(rs xs:List (List Rt)):Bool :=
  if rs.length<=1\/(5<rs.length/\rs.length<=8)then sa 3 40 (rs++xs)
  else if rs.length=2 then sa 1 40 (rs++xs)else if rs.length=3 then sa 1 4 (rs++xs)else false
def Rt.wok(r:Rt):Prop:=Ws r.num/\Ws r.den
theorem Rt.wok.ok{r:Rt}{k:Nat}(h:r.wok)(hn:r.num.length<=k)(hd:r.den.length<=k)(hk:k<=100):r.ok:=⟨h.1,h.2,by unfold iK;omega,by unfold iK;omega⟩
theorem Rt.ok.wok{r:Rt}(h:r.ok):r.wok:=⟨h.1,h.2.1⟩
def mW(l:List (List Rt)):Prop:=∀x∈l,(∀r∈x,r.wok)/\x.length<=281474976710656
theorem mW.app{a b:List (List Rt)}(ha:mW a)(hb:mW b):mW (a++b):=fun x hx=>by
 rcases anz.1 hx with h |h
 ·exact ha x h
 ·exact hb x h
theorem IG{w m:Nat}{x:List Rt}(h:ul w m x=true)(hw:1<=w)(xa:w<=3)(ci:∀r∈x,r.wok):x.length<=m/\(∀q∈lq x,Qb (32*w) q)/\∀r∈x,r.ok:=by
 unfold ul at h;simp only[anq,ao0,anx]at h;have ho:∀r∈x,r.ok:=fun r hr=>(ci r hr).ok (h.2 r hr).1 (h.2 r hr).2 oz
 refine⟨h.1,fun q hq=>?_,ho⟩;obtain⟨r,hr,rfl⟩:=al0.1 hq;exact Rt.qb (ho r hr) hw (h.2 r hr).1 (h.2 r hr).2
structure Pl where
  c:List Rt
  s:List Rt
  x:List Rt
  y:List Rt
instance:Inhabited Pl:=⟨⟨[],[],[],[]⟩⟩
def Pl.av(p:Pl):AV:=.agg [nR p.c,nR p.s,nR p.x,nR p.y]
def Pl.l(p:Pl):List (List Rt):=[p.c,p.s,p.x,p.y]
structure As where
  rs:List (List Rt)
  bs:List Pl
  ms:List Int
def As.av(a:As):AV:=.agg [.lst 1 (a.rs.map nR),.lst 4 (a.bs.map Pl.av),.lst 1 (a.ms.map i64)]
structure As.ok(a:As):Prop where
  rs:mW a.rs
  rl:a.rs.length<=281474976710656
  bs:∀b∈a.bs,mW b.l
  bl:a.bs.length<=281474976710656
structure AL(a:As):Prop where
  tr:TR a.rs 40000
  nr:∀b∈a.bs,∀x∈b.l,NR x 4000
  ll:a.rs.length<=8
  bl:a.bs.length<=20
structure AB(a:As):Prop where
  tr:TR a.rs 400000000
  nr:∀b∈a.bs,∀x∈b.l,NR x 50000000000
  ll:a.rs.length<=8
  bl:a.bs.length<=30
theorem RB.mono{r r':Nat}{ts:LL}(h:RB r ts)(hr:r<=r'):RB r' ts:=by
 obtain⟨D,N,h0,h1,h2,h3⟩:=h;exact⟨D,N,h0,h1,an4 h2 (cK hr),an4 h3 (cK hr)⟩
theorem TR.mono{rs:List (List Rt)}{r r':Nat}(h:TR rs r)(hr:r<=r')(hl:r'<=5000000000):TR rs r':=⟨h.ok,h.len,h.ll,h.rb.mono hr,hl,h.three⟩
theorem NR.mono{x:List Rt}{e f:Nat}(h:NR x e)(hf:e<=f):NR x f:=⟨h.ok,h.len,h.cb.mono hf⟩
theorem AL.ab{a:As}(h:AL a):AB a:=⟨h.tr.mono oz oz,fun b hb x hx=>(h.nr b hb x hx).mono oz,h.ll,by have:=h.bl;omega⟩
theorem XD:mW []:=fun x hx=>by cases hx
theorem l7{α:Type}{l:List α}{p:α->Bool}{i:Nat}{x:α}(h:(l.take i).all p=true)(hx:l[i]?=some x)(hp:p x=true):(l.take (i+1)).all p=true:=by
 rw[dR hx,all_append,h];simp[hp]
theorem kt{α:Type}{l:List α}{p:α->Bool}{i:Nat}{x:α}(hx:l[i]?=some x)(hp:p x=false):l.all p=false:=by
 refine amx.2 (fun h=>?_);rw[anx]at h;rw[h x (ank hx)]at hp;cases hp
theorem lO{α:Type}{l:List α}{p:α->Bool}{i:Nat}(hi:i=l.length)(h:(l.take i).all p=true):l.all p=true:=by
 rw[hi,an3]at h;exact h
structure Li.okw(l:Li):Prop where
  name:l.name.size<=281474976710656
  pts:∀b∈l.bo,b.name.size<=281474976710656/\b.pts.length<=281474976710656/\∀m∈b.pts,m.name.size<=281474976710656/\m.x.wok/\m.y.wok
  jnames:∀j∈l.jo,j.name.size<=281474976710656
  dnames:∀d∈l.dv,d.name.size<=281474976710656
  lb:l.bo.length<=281474976710656
  lj:l.jo.length<=281474976710656
  ld:l.dv.length<=281474976710656
def p8(m:Mk):Bool:=decide (m.x.num.length<=4/\m.x.den.length<=4/\m.y.num.length<=4/\m.y.den.length<=4)
def ui(b:Bd):Bool:=decide (b.pts.length<=30)&&b.pts.all p8
def jU(l:Li):Bool:=l.bo.all ui&&decide (l.bo.length<=30/\l.jo.length<=60/\l.dv.length<=30)
theorem XC{m:Mk}(h:p8 m=true)(hx':m.x.wok)(hy':m.y.wok):m.ok:=by
 unfold p8 at h;rw[ao0]at h;have hx:=hx'.ok h.1 h.2.1 oz;have hy:=hy'.ok h.2.2.1 h.2.2.2 oz;exact⟨hx,hy,(Rt.qb hx (k:=4) oz h.1 h.2.1).mono oz,(Rt.qb hy (k:=4) oz h.2.2.1 h.2.2.2).mono oz⟩
theorem Ej{l:Li}(h:jU l=true)(ho:l.okw):l.ok:=by
 unfold jU at h;rw[anq,anx]at h;refine⟨ho.name,fun b hb=>?_,ho.jnames,ho.dnames,ho.lb,ho.lj,ho.ld⟩;have h1:=h.1 b hb;unfold ui at h1;rw[anq,anx]at h1;obtain⟨o1,o2,o3⟩:=ho.pts b hb;exact⟨fun m hm=>XC (h1.2 m hm) (o3 m hm).2.1 (o3 m hm).2.2,fun m hm=>(o3 m hm).1,o2,o1⟩
structure Pse.rok(p:Pse):Prop where
  t:p.turn.t.ok
  x:p.at_.x.ok
  y:p.at_.y.ok
structure Pse.wok(p:Pse):Prop where
  t:p.turn.t.wok
  x:p.at_.x.wok
  y:p.at_.y.wok
theorem Pse.wok.rs{p:Pse}(h:p.wok):mW [[p.turn.t,p.at_.x],[p.at_.y]]:=by
 intro x hx;simp only[an9,aob,or_false]at hx;rcases hx with rfl |rfl
 ·refine ⟨fun r hr=>?_,by show 2<=_; omega⟩;simp only [an9,aob,or_false] at hr;rcases hr with rfl | rfl
  ·exact h.t
  ·exact h.x
 ·refine⟨fun r hr=>?_,by show 1<=_;omega⟩;simp only[an9,aob,or_false]at hr;subst hr;exact h.y
def yr(p:Pse):Bool:=uq [] [[p.turn.t,p.at_.x],[p.at_.y]]
def vG(l:Li)(ps:List Pse):Bool:=ps.all yr&&(decide (ps.length<=20)&&jU l)
def yu(l:Li)(ps:List Pse):AV:=.agg [.v (.string l.name),.lst 2 (l.bo.map Bd.av),.lst 7 (l.jo.map Jt.av),.lst 2 (l.dv.map Dr.av),.lst 10 (ps.map Pse.av)]
structure Pse.lok(p:Pse):Prop where
  ok:p.rok
  t:Qb 96 p.turn.t.q
  x:Qb 96 p.at_.x.q
  y:Qb 96 p.at_.y.q
theorem Y8{p:Pse}(h:yr p=true)(ho:p.wok):p.lok:=by
 unfold yr uq at h;rw[aoz (.inl (ans _))]at h;unfold sa at h;rw[nil_append,anx]at h;obtain⟨_,h1,o1⟩:=IG (h _ (aok ..)) oz oz (ho.rs _ (aok ..)).1;obtain⟨_,h2,o2⟩:=IG (h _ (aom _ (aok ..))) oz oz (ho.rs _ (aom _ (aok ..))).1;exact⟨⟨o1 _ (by simp),o1 _ (by simp),o2 _ (by simp)⟩,h1 _ (by simp[lq]),h1 _ (by simp[lq]),h2 _ (by simp[lq])⟩
theorem afv{a b w:Nat}(h:cond (aa .gtr (a:Int) (w:Int)) true (aa .gtr (b:Int) (w:Int))=true):¬(a<=w/\b<=w):=by
 simp only[aa]at h
 by_cases h1:(w:Int)<a
 ·omega
 ·rw[ao4 oz]at h;have:(w:Int)<b:=ao1 h;omega
theorem ab5{a b w:Nat}(h:cond (aa .gtr (a:Int) (w:Int)) true (aa .gtr (b:Int) (w:Int))=false):a<=w/\b<=w:=by
 simp only[aa]at h
 by_cases h1:(w:Int)<a
 ·rw[ao3 oz]at h;cases h
 ·rw[ao4 oz]at h;have:¬(w:Int)<b:=ao2 h;omega
theorem IH{n:Nat}:cond (aa .leq (n:Int) 1) true (cond (aa .gtr (n:Int) 5) (aa .leq (n:Int) 8) false)=decide (n<=1\/(5<n/\n<=8)):=by
 have e1:aa .leq (n:Int) 1=decide (n<=1):=decide_eq_decide.2 oz;have e2:aa .gtr (n:Int) 5=decide (5<n):=decide_eq_decide.2 oz;have e3:aa .leq (n:Int) 8=decide (n<=8):=decide_eq_decide.2 oz;rw[e1,e2,e3,amu,ao0]
 by_cases h1:n<=1
 ·rw[ao3 h1];exact⟨fun _=>.inl h1,fun _=>rfl⟩
 ·rw[ao4 h1]
  by_cases h2:5<n
  ·rw[ao3 h2];exact⟨fun h=>.inr ⟨h2,ao1 h⟩,fun h=>ao3 oz⟩
  ·rw[ao4 h2];exact⟨fun h=>(by cases h),fun h=>oz⟩
theorem Wu{n:Nat}(h:cond (aa .leq (n:Int) 1) true (cond (aa .gtr (n:Int) 5) (aa .leq (n:Int) 8) false)=true):n<=1\/(5<n/\n<=8):=by
 rw[IH]at h;exact ao1 h
theorem ZC{n:Nat}(h:cond (aa .leq (n:Int) 1) true (cond (aa .gtr (n:Int) 5) (aa .leq (n:Int) 8) false)=false):¬(n<=1\/(5<n/\n<=8)):=by
 rw[IH]at h;exact ao2 h
theorem Az{n k:Nat}:aa .leq (n:Int) (k:Int)=decide (n<=k):=by simp only[aa];exact decide_eq_decide.2 oz
theorem pW{n k:Nat}:aa .gtr (n:Int) (k:Int)=decide (k<n):=by simp only[aa];exact decide_eq_decide.2 oz
theorem km(a b:Bool):cond a true b=(a||b):=by cases a <;> rfl
theorem Xo{l:Li}(h:l.bo.all ui=true) :
  cond (cond (aa .leq (l.bo.length:Int) 30) (aa .leq (l.jo.length:Int) 60) false) (aa .leq (l.dv.length:Int) 30) false=jU l:=by
 unfold jU;have e1:=Az (n:=l.bo.length) (k:=30);have e2:=Az (n:=l.jo.length) (k:=60);have e3:=Az (n:=l.dv.length) (k:=30);rw[h,amt,jw,jw];refine(congr (ao6 _ (congr (ao6 _ e1) e2)) e3).trans ?_;rw[<- amp,<- amp];exact decide_eq_decide.2 ⟨fun h=>⟨h.1.1,h.1.2,h.2⟩,fun h=>⟨⟨h.1,h.2.1⟩,h.2.2⟩⟩
theorem Wc{l:Li}{ps:List Pse}(h:ps.all yr=true):cond (aa .leq (ps.length:Int) 20) (jU l) false=vG l ps:=by
 unfold vG;have e1:=Az (n:=ps.length) (k:=20);rw[h,amt,jw];exact ao6 (· && jU l) e1
theorem ND{m:Mk}:cond (cond (cond (aa .gtr (m.x.num.length:Int) 4) true (aa .gtr (m.x.den.length:Int) 4)) true (aa .gtr (m.y.num.length:Int) 4)) true (aa .gtr (m.y.den.length:Int) 4)=!p8 m:=by
 unfold p8;have e1:=pW (n:=m.x.num.length) (k:=4);have e2:=pW (n:=m.x.den.length) (k:=4);have e3:=pW (n:=m.y.num.length) (k:=4);have e4:=pW (n:=m.y.den.length) (k:=4);rw[km,km,km];refine(congr (ao6 _ (congr (ao6 _ (congr (ao6 _ e1) e2)) e3)) e4).trans ?_;rw[<- amy,<- amy,<- amy,<- decide_not];exact decide_eq_decide.2 oz
theorem U0{m:Mk}(h:cond (cond (cond (aa .gtr (m.x.num.length:Int) 4) true (aa .gtr (m.x.den.length:Int) 4)) true (aa .gtr (m.y.num.length:Int) 4)) true (aa .gtr (m.y.den.length:Int) 4)=true):p8 m=false:=by
 rw[ND]at h;exact dP h
theorem WA{m:Mk}(h:cond (cond (cond (aa .gtr (m.x.num.length:Int) 4) true (aa .gtr (m.x.den.length:Int) 4)) true (aa .gtr (m.y.num.length:Int) 4)) true (aa .gtr (m.y.den.length:Int) 4)=false):p8 m=true:=by
 rw[ND]at h;exact dN h
open Go.Proofs
theorem XT{m:List Nat}{n:Nat}(hm:Ws m)(hn:n<=m.length)(hv:val (m.take n)=val m)(h0:n≠0)(hw:an m (n-1)≠0) :
  AV.fz 24 1 ([]++((m.map u32).drop 0).take (n-0)) (.ms 24 1 0 (0+(((m.map u32).drop 0).take (n-0)).length))=ws (ofNat (val m)):=by
 have h1:m.take n=ofNat (val m):=by
  refine M3 (fun x hx=>hm x (aot hx)) ?_ hv;intro x hx;rw[aly,an6,aj1 hn,aof,aoz oz,ni oz]at hx;cases hx;exact hw
 rw[BZ (by simp),<- h1,ws];simp[map_take,aj1 hn,aln]
theorem WR(b:Bool)(n:Nat):AV.agg [bl (bif b then aa BinOp.gtr (↑(ofNat n).length) 0 else false),ws (ofNat n)]=zA (sgn b n):=by
 have h1:(sgn b n).natAbs=n:=by unfold sgn;split <;> omega
 unfold zA ofInt Wh.av;dsimp only;rw[h1];congr 3
 have h2:(ofNat n).length=0↔n=0:=by
  rw[ak0];constructor
  ·intro h;have:=cT n;rw[h]at this;exact this.symm
  ·intro h;rw[h];rfl
 cases b with
 |false=>simp[sgn]
 |true=>simp[sgn,aa];omega
theorem vU(m:List Nat)(i:Nat)(hm:Ws m):FP 441 [ws m,i64 i] (u64 (an m i)):=by
 refine am func441 ?_;refine gl ?_;refine gC (fun z=>?_) (fun z=>?_)
 ·simp[aa]at z;have:=cC hm i;refine gi (cU (i:=i) z) ?_;refine gv (u64_in oz) ?_;refine ai ?_;rfl
 simp[aa]at z;refine ai ?_;simp[u64,vM z]
theorem qJ(m:List Nat)(hm:Ws m)(hb:m.length<=aJ):FP 397 [ws m] (ws (ofNat (val m))):=by
 refine am func397 ?_ (0,0);refine yp (t:=0) rfl (fun hl=>?_);refine go ?_;refine gl ?_;refine aY [0] [] (fun(n:Nat)=>[pP 3 (i64 n)]) (fun _=>[]) (fun n=>n<=m.length/\val (m.take n)=val m) (fun n=>n) m.length ⟨anp _,by rw[an3]⟩ ?_;rintro n ⟨hn,hv⟩ K1 J1;refine uk (fun h=>(mL (by simp[aa]at h;omega) oz)) ?_;refine oM (fun h=>(cU (i:=n-1) (by simp[aa]at h;omega))) ?_;refine gC (fun t15=>?_) (fun t15=>?_)
 ·have t15:0<n/\an m (n - 1)=0:=by simpa[aa] using t15
  refine ga (mL oz oz) ?_;exact aS J1 (n-1) ⟨by omega,by have h:=@eD m (n-1);rw[show n-1+1=n by omega,t15.2]at h;simp at h;omega⟩
 have t15:0<n->an m (n-1)≠0:=by simpa[aa]using t15
 refine gC (fun z=>?_) (fun z=>?_)
 ·have h0:n=0:=by simpa[aa] using z
  subst h0;refine gR ?_;exact kX (by rw[show val m=0 from hv.symm.trans rfl];exact Sub.nil _ _ _)
 have h0:n≠0:=by simpa[aa]using z
 refine gs (lX T104 rfl T354 rfl rfl rfl) ?_;refine gs (dS (.tmp rfl) (.none _) (.some _ (.tmp rfl) oz) T104 rfl T354 rfl oz (by simp;omega) rfl) ?_;refine gs (cZ (.tmp rfl) rfl rfl (.tmp rfl) T104 rfl T354 rfl rfl (by unfold aJ at hb;simp only[an6,List.length_drop,anl];omega) rfl rfl) ?_ (77777,0);refine gW (Wk.freeze (k:=24) rfl) ?_;refine go ?_;refine gR ?_;exact Mj (XT hm hn hv h0 (t15 oz))
theorem Bg(w:Wh)(h:w.ok):FP 307 [w.av] (bl w.valid):=by
 have hl:w.mag.length<=bb:=h.2;refine am func307 ?_;refine gl ?_;refine gC (fun z=>?_) (fun z=>?_)
 ·have h0:w.mag=[]:=by simpa[aa] using z
  refine ai ?_;simp[bl,Wh.valid,h0]
 have h0:w.mag.length≠0:=by simpa[aa]using z
 refine gl ?_;refine ga (mL oz oz) ?_;refine gi (cU (i:=w.mag.length-1) oz) ?_;refine ai ?_;have h1:w.mag≠[]:=fun h=>h0 (by rw[h];rfl)
 simp only[bl,Wh.valid,aoy h1,aly,ni (show w.mag.length-1<w.mag.length by omega),aa];congr 2;generalize an w.mag _=x;rw[amu];simp
theorem oc(w:Wh)(h:w.ok):FP 304 [w.av] (ws w.m):=by
 refine am func304 ?_;refine gc (Bg w h) ?_;refine gC (fun z=>?_) (fun z=>?_)
 ·have h0:w.valid=false:=by simpa[aa] using z
  refine gR ?_;exact kX (by rw[show w.m=[] by simp[Wh.m,h0]];exact Sub.nil _ _ _)
 have h0:w.valid=true:=by simpa[aa]using z
 refine ai ?_;simp only[Wh.m,h0];rfl
theorem lS(w:Wh)(h:w.ok):FP 303 [w.av] (bl w.n):=by
 refine am func303 ?_;refine gc (Bg w h) ?_;refine ai ?_;simp only[Wh.n,bl];cases w.valid <;> rfl
theorem nK(b:Bool)(m:List Nat)(hm:Ws m)(hb:m.length<=aJ):FP 302 [bl b,ws m] (zA (sgn b (val m))):=by
 refine am func302 ?_;refine gc (qJ m hm hb) ?_;refine cV ?_;refine ai ?_;exact WR b (val m)
theorem GE(a b:List Nat)(ha:Ws a)(hb:Ws b)(na:Nz a)(nb:Nz b):FP 393 [ws a,ws b] (i64 (if val a<val b then -1 else if val b<val a then 1 else 0)):=by
 refine am func393 ?_ (0,0);refine yp (t:=0) rfl (fun lH=>?_);refine yp (t:=1) rfl (fun dU=>?_);unfold bb at lH dU;refine go ?_;refine gl ?_;refine gl ?_;refine gC (fun z=>?_) (fun z=>?_)
 ·have h0:a.length≠b.length:=by simpa[aa,al5] using z
  refine gl ?_;refine gl ?_;refine gC (fun z=>?_) (fun z=>?_)
  ·have h1:a.length<b.length:=by simpa[aa] using z
   have h2:=zO ha nb h1;refine ai ?_;simp[i64,h2]
  have h1:b.length<=a.length:=by simpa[aa]using z
  have h2:=zO hb na (show b.length<a.length by omega);refine ai ?_;simp[i64,h2,Nat.lt_asymm h2]
 have h0:a.length=b.length:=by simpa[aa,al5]using z
 refine gl ?_;refine ga (fc oz) ?_;refine aY [0,1] [] (fun(n:Nat)=>[pP 5 (i64 ((n:Int)-1))]) (fun _=>[]) (fun n=>n<=a.length/\a.drop n=b.drop n) (fun n=>n) a.length ⟨anp _,by rw[ak7,h0,ak7]⟩ ?_ (h1:=(.cons rfl (Sub.int rfl) .nil));rintro n ⟨hn,hd⟩ K1 J1;refine gC (fun z=>?_) (fun z=>?_)
 ·have mv:1<=n:=by have:=z; simp[aa] at this; omega
  refine gi (j4 (n:=n-1) oz (by first |omega |(simp;omega))) ?_;refine gi (j4 (n:=n-1) oz (by first |omega |(simp;omega))) ?_;refine gD ?_;refine gC (fun z=>?_) (fun z=>?_)
  ·have h3:an a (n - 1)≠an b (n - 1):=by simpa[aa,al5] using z
   refine gi (j4 (n:=n-1) oz (by first |omega |(simp;omega))) ?_;refine gi (j4 (n:=n-1) oz (by first |omega |(simp;omega))) ?_;refine gD ?_;refine gC (fun z=>?_) (fun z=>?_)
   ·have h4:an a (n - 1)<an b (n - 1):=by simpa[aa] using z
    have h5:=JL ha h0 oz (by rw[ajy mv];exact hd) h4;refine ai ?_;simp[i64,h5]
   have h4:an b (n-1)<an a (n-1):=by have:an b (n-1)<=an a (n-1):=(by simpa[aa]using z);omega
   have h5:=JL hb h0.symm oz (by rw[ajy mv];exact hd.symm) h4;refine ai ?_;simp[i64,h5,Nat.lt_asymm h5]
  have h3:an a (n-1)=an b (n-1):=by simpa[aa,al5]using z
  refine ga (fc oz) ?_;exact aS J1 (n-1) ⟨by omega,by rw[alq (show n-1<a.length by omega),alq (show n-1<b.length by omega),ajy mv,hd];congr 1;exact Tz oz oz h3⟩
 have mv:n=0:=by have:=z;simp[aa]at this;omega
 subst mv;refine ai ?_;simp at hd;simp[i64,hd]
theorem L3(a b:List Nat)(ha:Ws a)(hb:Ws b)(la:a.length<aJ)(lb:b.length<aJ):FP 392 [ws a,ws b] (ws (ofNat (val a+val b))):=by
 unfold aJ at la lb;obtain⟨n,hn⟩:∃n,n=max a.length b.length+1:=⟨_,rfl⟩
 refine am func392 ?_;refine gl ?_;refine gl ?_;refine gs (vC (.tmp rfl) (.tmp rfl) rfl) ?_;refine ga (show _=(n:Int) by rw[d5 oz];omega) ?_;refine gs (kq (.tmp rfl) T104 rfl T354 rfl rfl oz (by dsimp only;omega) rfl) ?_;refine mf [0,1,16] [] (fun(out:List Nat)(c i:Nat)=>[pP 5 (.ms 14 1 0 n),pP 6 (u64 c),pP 17 (i64 i)]) (fun out _ _=>[pP 14 (.row 1 (out.map u32))]) (fun out c i=>out.length=n/\i<=n/\Ws out/\c<=1/\val (out.take i)+c*4294967296^i=val (a.take i)+val (b.take i)) (fun _ _ i=>n-i) (als n 0) 0 0 ⟨by simp,by omega,qj n,by omega,by simp[val]⟩ ?_ (h2:=(.cons rfl (.of (by rw[aoq];rfl)) .nil))
 rintro out c i ⟨ho,hi,hw,hc,hv⟩ K1 J1;refine gC (fun z=>?_) (fun z=>?_) (st2:=(10,0))
 ·have ah:i<n:=by simpa[aa] using z
  have h1:=cC ha i;have h2:=cC hb i;refine gc (by apply vU <;> assumption) ?_;refine gc (by apply vU <;> assumption) ?_;refine ga (l8 oz) ?_;refine ga (l8 oz) ?_;refine gv (ff _) ?_;refine gs (cG (n:=i) (.tmp rfl) (.tmp rfl) T104 rfl T354 rfl oz (by first |omega |(simp;omega)) rfl) ?_;refine gs (eY (.tmp rfl) rfl (cU (i:=i) oz) rfl (.tmp rfl) rfl rfl T354 rfl rfl) ?_;refine gs (gP (.tmp rfl) (.const _) oz (jV _ 32 oz) rfl) ?_;refine ga (d5 oz) ?_;exact kz J1 (out.set i ((c+(an a i+an b i))%4294967296)) ((c+(an a i+an b i))/4294967296) (i+1) ⟨by simp[ho],by omega,jm hw oz,by omega,by rw[pZ oz,eD,eD,ajq];exact ET hv⟩ (hw:=Wk.of bg (.cons rfl (.of (by rw[aou];rfl)) .nil))
 have ah:i=n:=by have:n<=i:=(by simpa[aa]using z);omega
 refine gW ((Wk.freeze (k:=14) rfl).trans<|Wk.of (sl:=[pP 5 (ws out)]) (hp:=[]) (.cons rfl (.of (cz (by simp[ho]))) .nil) .nil) ?_;refine gc (qJ out hw (by unfold aJ;omega)) ?_;refine ai ?_;rw[LM ha hb hn ho (ah▸hv)]
theorem FQ(a b:List Nat)(ha:Ws a)(hb:Ws b)(la:a.length<=aJ)(lb:b.length<=a.length)(cF:val b<=val a):FP 394 [ws a,ws b] (ws (ofNat (val a-val b))):=by
 have la':=la;unfold aJ at la;obtain⟨n,hn⟩:∃n,n=a.length:=⟨_,rfl⟩
 refine am func394 ?_;refine gl ?_;refine gs (kq (.tmp rfl) T104 rfl T354 rfl rfl oz (by dsimp only;omega) rfl) ?_;refine mf [0,1,13] [] (fun(out:List Nat)(c i:Nat)=>[pP 5 (.ms 11 1 0 a.length),pP 6 (u64 c),pP 14 (i64 i)]) (fun out _ _=>[pP 11 (.row 1 (out.map u32))]) (fun out c i=>out.length=a.length/\i<=a.length/\Ws out/\c<=1/\val (out.take i)+val (b.take i)=val (a.take i)+c*4294967296^i) (fun _ _ i=>a.length-i) (als a.length 0) 0 0 ⟨by simp,by omega,qj _,by omega,by simp[val]⟩ ?_ (h2:=(.cons rfl (.of (by rw[aoq];rfl)) .nil))
 rintro out c i ⟨ho,hi,hw,hc,hv⟩ K1 J1;refine gC (fun z=>?_) (fun z=>?_) (st2:=(10,0))
 ·have ah:i<a.length:=by simpa[aa] using z
  have h1:=cC ha i;have h2:=cC hb i;have h3:=JU h1 h2 hc hv;obtain⟨d,hd⟩:∃d,d=if an b i+c<=an a i then an a i-an b i-c else an a i+18446744073709551616-an b i-c:=⟨_,rfl⟩
  rw[<- hd]at h3;have iI:d<18446744073709551616:=by rw[hd];split <;> omega
  refine gi (j4 (n:=i) oz (by first |omega |(simp;omega))) ?_;refine gv (u64_in oz) ?_;refine gc (by apply vU <;> assumption) ?_;refine ga (oA oz oz) ?_;refine ga (show _=(d:Int) by rw[oA (by split <;> omega) oz,hd];congr 1;(repeat' split) <;> omega) ?_;refine gD ?_;refine gv (ff _) ?_;refine gs (cG (n:=i) (.tmp rfl) (.tmp rfl) T104 rfl T354 rfl oz (by first |omega |(simp;omega)) rfl) ?_;refine gs (eY (.tmp rfl) rfl (cU (i:=i) oz) rfl (.tmp rfl) rfl rfl T354 rfl rfl) ?_;refine gs (gP (.tmp rfl) (.const _) oz (jV _ 63 oz) rfl) ?_;refine ga (d5 oz) ?_;exact kz J1 (out.set i (d%4294967296)) (d/2^63) (i+1) ⟨by simp[ho],by omega,jm hw oz,by omega,by rw[pZ oz,eD,eD,ajq];exact h3⟩ (hw:=Wk.of bg (.cons rfl (.of (by rw[aou];rfl)) .nil))
 have ah:i=a.length:=by have:a.length<=i:=(by simpa[aa]using z);omega
 refine gW ((Wk.freeze (k:=11) rfl).trans<|Wk.of (sl:=[pP 5 (ws out)]) (hp:=[]) (.cons rfl (.of (cz (by simp[ho]))) .nil) .nil) ?_;refine gc (qJ out hw (by rw[ho];exact la')) ?_;refine ai ?_;rw[TZ hw ho cF lb (ah▸hv)]
theorem XR(a b:List Nat)(ha:Ws a)(hb:Ws b)(la:a.length+b.length<=aJ):FP 395 [ws a,ws b] (ws (ofNat (val a*val b))):=by
 have la':=la;unfold aJ at la;refine am func395 ?_;refine gl ?_;refine gl ?_;refine ga (mN (by unfold bb;omega) (by unfold bb;omega)) ?_;refine gs (kq (.tmp rfl) T104 rfl T354 rfl rfl oz (by dsimp only;omega) rfl) ?_;refine gl ?_;refine jZ [0,1,17,18] [] (fun(out:List Nat)(i:Nat)=>[pP 5 (.ms 16 1 0 (a.length+b.length)),pP 19 (i64 i)]) (fun out _=>[pP 16 (.row 1 (out.map u32))]) (fun out i=>out.length=a.length+b.length/\i<=a.length/\Ws out/\val (out.take (i+b.length))=val (a.take i)*val b) (fun _ i=>a.length-i) (als (a.length+b.length) 0) 0 ⟨by simp,by omega,qj _,by simp[val,Bm]⟩ ?_ (h2:=(.cons rfl (.of (by rw[aoq];rfl)) .nil))
 rintro out i ⟨ho,hi,hw,hv⟩ K1 J1;refine gC (fun z=>?_) (fun z=>?_) (st2:=(15,0))
 ·have ah:i<a.length:=by simpa[aa] using z
  have h1:=cC ha i;refine gi (j4 (n:=i) oz (by first |omega |(simp;omega))) ?_;refine gl ?_;refine mf [0,1,17,18,19,6,7,24,25] [] (fun(o:List Nat)(c k:Nat)=>[pP 5 (.ms 16 1 0 (a.length+b.length)),pP 8 (u64 c),pP 26 (i64 k)]) (fun o _ _=>[pP 16 (.row 1 (o.map u32))]) (fun o c k=>o.length=a.length+b.length/\k<=b.length/\Ws o/\c<4294967296/\val (o.take (i+b.length))+c*4294967296^(i+k)=val (out.take (i+b.length))+4294967296^i*(an a i*val (b.take k))) (fun _ _ k=>b.length-k) out 0 0 ⟨ho,by omega,hw,by omega,by simp[val]⟩ ?_
  rintro o c k ⟨iz,hk,pg,hc,j7⟩ K2 J2;refine gC (fun z=>?_) (fun z=>?_)
  ·have bw:k<b.length:=by simpa[aa] using z
   have h2:=cC hb k;have h3:=cC pg (i+k);have h4:=AE h1 h2;have h5:=K0 (x:=(c+(an a i*an b k+an o (i+k)))%4294967296) (show i+k<o.length by omega) (show i+k<i+b.length by omega);have h6:=Nw h5 rfl j7;refine gi (j4 (n:=k) oz (by first |omega |(simp;omega))) ?_;refine gv (u64_in oz) ?_;refine gv (u64_in oz) ?_;refine ga (C0 oz) ?_;refine ga (mN (by unfold bb;omega) (by unfold bb;omega)) ?_;refine gs (cG (n:=i+k) (.tmp rfl) (.tmp rfl) T104 rfl T354 rfl oz (by first |omega |(simp;omega)) rfl) ?_;refine gs (fR (.tmp rfl) rfl (cU (i:=i+k) oz) T354 rfl rfl rfl) ?_;refine gv (u64_in oz) ?_;refine ga (l8 oz) ?_;refine ga (l8 oz) ?_;refine ga (mN (by unfold bb;omega) (by unfold bb;omega)) ?_;refine gv (ff _) ?_;refine gs (cG (n:=i+k) (.tmp rfl) (.tmp rfl) T104 rfl T354 rfl oz (by first |omega |(simp;omega)) rfl) ?_;refine gs (eY (.tmp rfl) rfl (cU (i:=i+k) oz) rfl (.tmp rfl) rfl rfl T354 rfl rfl) ?_;refine gs (gP (.tmp rfl) (.const _) oz (jV _ 32 oz) rfl) ?_;refine ga (d5 oz) ?_;exact kz J2 (o.set (i+k) ((c+(an a i*an b k+an o (i+k)))%4294967296)) ((c+(an a i*an b k+an o (i+k)))/4294967296) (k+1) ⟨by simp[iz],by omega,jm pg oz,by omega,by rw[show i+(k+1)=(i+k)+1 from rfl,ajq,h6,eD];simp only[aoo];grind⟩ (hw:=Wk.of bg (.cons rfl (.of (by rw[aou];rfl)) .nil))
  have bw:k=b.length:=by have:b.length<=k:=(by simpa[aa]using z);omega
  subst bw;have h5:=pZ (x:=c) (show i+b.length<o.length by omega);rw[an3]at j7;refine gl ?_;refine ga (mN (by unfold bb;omega) (by unfold bb;omega)) ?_;refine gv ((ff c).trans (by rw[aj4 hc])) ?_;refine gs (cG (n:=i+b.length) (.tmp rfl) (.tmp rfl) T104 rfl T354 rfl oz (by first |omega |(simp;omega)) rfl) ?_;refine gs (eY (.tmp rfl) rfl (cU (i:=i+b.length) oz) rfl (.tmp rfl) rfl rfl T354 rfl rfl) ?_;refine ga (d5 oz) ?_;exact jq J1 (o.set (i+b.length) c) (i+1) ⟨by simp[iz],by omega,jm pg hc,by rw[show i+1+b.length=i+b.length+1 by omega,h5,eD];simp only[aoo]at *;grind⟩ (hw:=Wk.of bg (.cons rfl (.of (by rw[aou];rfl)) .nil))
 have ah:i=a.length:=by have:a.length<=i:=(by simpa[aa]using z);omega
 subst ah;rw[an3,gX oz]at hv;refine gW ((Wk.freeze (k:=16) rfl).trans<|Wk.of (sl:=[pP 5 (ws out)]) (hp:=[]) (.cons rfl (.of (cz (by simp[ho]))) .nil) .nil) ?_;refine gc (qJ out hw oz) ?_;refine ai ?_;rw[hv]
theorem TL(a:List Nat)(w:Nat)(ha:Ws a)(la:a.length<=aJ)(H4:0<w)(hwB:w<4294967296):FP 442 [ws a,u32 w] (.tup [ws (ofNat (val a/w)),u32 (val a%w)]):=by
 have la':=la;unfold aJ at la;refine am func442 ?_;refine gl ?_;refine gs (kq (.tmp rfl) T104 rfl T354 rfl rfl oz (by dsimp only;omega) rfl) ?_;refine gl ?_;refine ga (fc oz) ?_;refine mf [0,1] [] (fun(out:List Nat)(r i:Nat)=>[pP 6 (.ms 11 1 0 a.length),pP 7 (u64 r),pP 8 (i64 ((i:Int)-1))]) (fun out _ _=>[pP 11 (.row 1 (out.map u32))]) (fun out r i=>out.length=a.length/\i<=a.length/\Ws out/\r<w/\val (a.drop i)=w*val (out.drop i)+r) (fun _ _ i=>i) (als a.length 0) 0 a.length ⟨by simp,by omega,qj _,by omega,by simp[val]⟩ ?_ (h2:=(.cons rfl (.of (by rw[aoq];rfl)) .nil))
 rintro out r i ⟨ho,hi,hw,hr,hv⟩ K1 J1;refine gC (fun z=>?_) (fun z=>?_) (st2:=(9,0))
 ·have mv:1<=i:=by have:=z; simp[aa] at this; omega
  obtain⟨k,rfl⟩:∃k,i=k+1:=⟨i-1,by omega⟩
  have h1:=cC ha k;have h2:=agu hr h1;refine gs (jD (.tmp rfl) (.const _) oz (v7 (n:=32) oz oz) rfl) ?_;refine gi (j4 (n:=k) oz (by first |omega |(simp;omega))) ?_;refine gv (u64_in oz) ?_;refine gs (mZ (.tmp rfl) (.tmp rfl) rfl ((yf oz oz).trans (by rw[xy oz])) rfl) ?_;refine gv (u64_in oz) ?_;refine gs (gU (.tmp rfl) (.tmp rfl) oz (JG oz) rfl) ?_;refine gv ((ff _).trans (by rw[aj4 h2])) ?_;refine gs (cG (n:=k) (.tmp rfl) (.tmp rfl) T104 rfl T354 rfl oz (by first |omega |(simp;omega)) rfl) ?_;refine gs (eY (.tmp rfl) rfl (cU (i:=k) oz) rfl (.tmp rfl) rfl rfl T354 rfl rfl) ?_;refine gv (u64_in oz) ?_;refine gs (Bh (.tmp rfl) (.tmp rfl) oz Lq rfl) ?_;refine ga (fc oz) ?_;exact kz J1 (out.set k ((r*2^32+an a k)/w)) ((r*2^32+an a k)%w) k ⟨by simp[ho],by omega,jm hw h2,akz _ H4,Sd oz oz hv⟩ (hw:=Wk.of bg (.cons rfl (.of (by rw[aou];rfl)) .nil))
 have ah:i=0:=by have:=z;simp[aa]at this;omega
 subst ah;obtain⟨h3,h4⟩:=BJ hv hr;simp only[aov]at h3 h4;refine gW ((Wk.freeze (k:=11) rfl).trans<|Wk.of (sl:=[pP 6 (ws out),pP 7 (u64 r)]) (hp:=[]) (.cons rfl (.of (cz (by simp[ho]))) (.k .nil)) .nil) ?_;refine gc (qJ out hw oz) ?_;refine gv ((ff _).trans (by rw[aj4 oz])) ?_;refine bO ?_;rw[h3,h4];rfl
theorem O8(d:Nat)(hd:aks d 1000=true)(a:List Nat)(n:Nat)(ha:Ws a)(la:a.length<aJ)(hn:n<32):Con prog 444 [ws a,i64 n] [] (.ms d 1 0 (a.length+1)) [(d,some (.row 1 ((bF (a.length+1) (2^n*val a)).map u32)))]:=by
 have la':=la;unfold aJ at la;refine gF func444 (fun k z h=>by cases h) ?_;refine gl ?_;refine ga (mN (y:=1) (by unfold bb;omega) (by unfold bb;omega)) ?_;refine gs (kq (.tmp rfl) T104 rfl T354 rfl rfl oz (by dsimp only;omega) rfl) ?_;refine gl ?_;refine jZ [0,1,13,14] [] (fun(out:List Nat)(i:Nat)=>[pP 5 (.ms 12 1 0 (a.length+1)),pP 15 (i64 i)]) (fun out _=>[pP 12 (.row 1 (out.map u32))]) (fun out i=>out.length=a.length+1/\i<=a.length/\Ws out/\an out i<2^n/\val (out.take (i+1))=2^n*val (a.take i)) (fun _ i=>a.length-i) (als (a.length+1) 0) 0 ⟨by simp,by omega,qj _,by simp[an,aki],by simp[val,List.replicate_succ]⟩ ?_ (h2:=(.cons rfl (.of (by rw[aoq];rfl)) .nil))
 rintro out i ⟨ho,hi,hw,hr,hv⟩ K1 J1;refine gC (fun u=>?_) (fun u=>?_)
 ·have ah:i<a.length:=by simpa[aa] using u
  have h1:=cC ha i;have h2:=VP (a:=a) (i:=i) (n:=n) (show i+1<out.length by omega) hv;have h3:=UE (x:=an a i) hn hr;have h4:=SR (n:=n) h1;have h5:2^n<=2^31:=tJ oz;have h6:an a i*2^n<=an a i*2^31:=ant _ h5;have h7:=cC hw i;refine gi (j4 (n:=i) oz (by first |omega |(simp;omega))) ?_;refine gv (u64_in oz) ?_;refine gs (jD (.tmp rfl) (.tmp rfl) oz (v7 oz oz) rfl) ?_;refine gs (cG (n:=i) (.tmp rfl) (.tmp rfl) T104 rfl T354 rfl oz (by first |omega |(simp;omega)) rfl) ?_;refine gs (fR (.tmp rfl) rfl (cU (i:=i) oz) T354 rfl rfl rfl) ?_;refine gv (ff _) ?_;refine gs (mZ (.tmp rfl) (.tmp rfl) rfl ((Fy oz oz).trans (by rw[W3 hn hr])) rfl) ?_;refine gs (cG (n:=i) (.tmp rfl) (.tmp rfl) T104 rfl T354 rfl oz (by first |omega |(simp;omega)) rfl) ?_;refine gs (eY (.tmp rfl) rfl (cU (i:=i) oz) rfl (.tmp rfl) rfl rfl T354 rfl rfl) ?_;refine ga (mN (y:=1) (by unfold bb;omega) (by unfold bb;omega)) ?_;refine gs (gP (.tmp rfl) (.const _) oz (jV _ 32 oz) rfl) ?_;refine gv ((ff _).trans (by rw[aj4 (show an a i*2^n/2^32<4294967296 by omega)])) ?_;refine gs (cG (n:=i+1) (.tmp rfl) (.tmp rfl) T104 rfl T354 rfl oz (by first |omega |(simp;omega)) rfl) ?_;refine gs (eY (.tmp rfl) rfl (by rw[List.getElem?_set_ne oz];exact cU (i:=i+1) oz) rfl (.tmp rfl) rfl rfl T354 rfl rfl) ?_;refine ga (d5 oz) ?_;exact jq J1 ((out.set i (an out i+an a i*2^n%4294967296)).set (i+1) (an a i*2^n/4294967296)) (i+1) ⟨by simp[ho],by omega,jm (jm hw oz) oz,by rw[ZT (by simp;omega)];exact h4,h2⟩ (hw:=Wk.of bg (.cons rfl (.of (by rw[aou,aou];rfl)) .nil))
 have ah:i=a.length:=by have:a.length<=i:=(by simpa[aa]using u);omega
 subst ah;rw[an3,gX oz]at hv;refine gR ?_;exact aD.own1 rfl hd (by rw[Bb hw ho hv])
theorem Vy(a:List Nat)(n:Nat)(ha:Ws a)(la:a.length<=aJ)(hn:n<32):FP 447 [ws a,i64 n] (ws (ofNat (val a/2^n))):=by
 have la':=la;unfold aJ at la;refine am func447 ?_;refine gl ?_;refine gs (kq (.tmp rfl) T104 rfl T354 rfl rfl oz (by dsimp only;omega) rfl) ?_;refine gl ?_;refine jZ [0,1,11] [] (fun(out:List Nat)(i:Nat)=>[pP 5 (.ms 9 1 0 a.length),pP 12 (i64 i)]) (fun out _=>[pP 9 (.row 1 (out.map u32))]) (fun out i=>out.length=a.length/\i<=a.length/\Ws out/\val (out.take i)=val a/2^n%4294967296^i) (fun _ i=>a.length-i) (als a.length 0) 0 ⟨by simp,by omega,qj _,by simp[val,Nat.mod_one]⟩ ?_ (h2:=(.cons rfl (.of (by rw[aoq];rfl)) .nil))
 rintro out i ⟨ho,hi,hw,hv⟩ K1 J1;refine gC (fun z=>?_) (fun z=>?_) (st2:=(7,0))
 ·have ah:i<a.length:=by simpa[aa] using z
  have h1:=cC ha i;have h2:=cC ha (i+1);have h3:=Kz ha ah (show i<out.length by omega) (show n<=32 by omega) hv;refine gi (j4 (n:=i) oz (by first |omega |(simp;omega))) ?_;refine gv (u64_in oz) ?_;refine ga (mN (y:=1) (by unfold bb;omega) (by unfold bb;omega)) ?_;refine gc (vU a (i+1) ha) ?_;refine gs (jD (.tmp rfl) (.const _) oz (v7 (n:=32) oz oz) rfl) ?_;refine gs (mZ (.tmp rfl) (.tmp rfl) rfl ((yf oz oz).trans (by rw[DT oz])) rfl) ?_;refine gs (gP (.tmp rfl) (.tmp rfl) oz (jV _ _ oz) rfl) ?_;refine gv (ff _) ?_;refine gs (cG (n:=i) (.tmp rfl) (.tmp rfl) T104 rfl T354 rfl oz (by first |omega |(simp;omega)) rfl) ?_;refine gs (eY (.tmp rfl) rfl (cU (i:=i) oz) rfl (.tmp rfl) rfl rfl T354 rfl rfl) ?_;refine gD ?_;refine ga (d5 oz) ?_;exact jq J1 (out.set i ((an a i+an a (i+1)*2^32)/2^n%4294967296)) (i+1) ⟨by simp[ho],by omega,jm hw oz,h3⟩ (hw:=Wk.of bg (.cons rfl (.of (by rw[aou];rfl)) .nil))
 have ah:i=a.length:=by have:a.length<=i:=(by simpa[aa]using z);omega
 refine gW ((Wk.freeze (k:=9) rfl).trans<|Wk.of (sl:=[pP 5 (ws out)]) (hp:=[]) (.cons rfl (.of (cz (by simp[ho]))) .nil) .nil) ?_;refine gc (qJ out hw oz) ?_;refine ai ?_;rw[VE ha ho (ah▸hv)]
theorem XY{b:Nat}{p:Prop}[Decidable p](h:b=1↔p):fu [AV.v (Value.bool (aa BinOp.eql (b:Int) 1))]=bl (decide p):=by
 have:((b:Int)==1)=decide (b=1):=by rw[amu];simp;omega
 simp only[fu,aa,this,bl];rw[decide_eq_decide.2 h]
theorem UG(u v:List Nat)(off len n:Nat)(hu:Ws u)(hv:Ws v)(pa:v.length+1<=len)(hj:off+len<=u.length)(hn:n<4294967296)(lu:u.length<=bb) :
  Con prog 445 [.ms 1000 1 off len,ws v,u64 n] [pP 1000 (.row 1 (u.map u32))] (bl (decide (val (bP u off len)<n*val v)))
   [pP 1000 (.row 1 ((wr u off (bF len (nJ n (val v) (val (bP u off len)) len))).map u32))]:=by
 unfold bb at lu;refine gF func445 (fun k z h=>bW h) ?_;refine JK [1,2,12] [] (fun(o:List Nat)(c b lo i:Nat)=>[pP 0 (.ms 1000 1 off len),pP 7 (u64 c),pP 8 (u64 b),pP 13 (i64 i)]) (fun o _ _ _ _=>[pP 1000 (.row 1 (o.map u32))]) (fun o c b lo i=>o.length=u.length/\i<=len/\Ws o/\c<4294967296/\b<=1/\o.take off=u.take off/\o.drop (off+i)=u.drop (off+i)/\lo+c*4294967296^i=n*val (v.take i)/\val (bP o off i)+lo=val (bP u off i)+b*4294967296^i) (fun _ _ _ _ i=>len-i) u 0 0 0 0 ⟨rfl,by omega,hu,by omega,by omega,rfl,rfl,by simp[val],by simp[]⟩ ?_
 rintro o c b lo i ⟨ho,hi,hw,hc,hb,iI,df,xe,j7⟩ K1 J1;refine gC (fun y=>?_) (fun y=>?_)
 ·have ah:i<len:=by simpa[aa] using y
  have h1:=cC hu (off+i);have h2:=cC hv i;have h0:=wk df;have h4:=AE hn h2;obtain⟨c1,jc⟩:∃c1,c1=c+n*an v i:=⟨_,rfl⟩
  have h3:=JU h1 (show c1%4294967296<4294967296 by omega) hb j7;obtain⟨d,hd⟩:∃d,d=if c1%4294967296+b<=an u (off+i)then an u (off+i)-c1%4294967296-b else an u (off+i)+18446744073709551616-c1%4294967296-b:=⟨_,rfl⟩
  rw[<- hd]at h3;have hd3:d<18446744073709551616:=by rw[hd];split <;> omega
  have h5:=Zn (w:=an v i) xe;refine gc (by apply vU <;> assumption) ?_;refine ga (C0 oz) ?_;refine ga ((l8 oz).trans (by rw[<- jc])) ?_;refine gs (rV (n:=i) (.tmp rfl) (.tmp rfl) T104 rfl T354 rfl oz (by first |omega |(simp;omega)) rfl) ?_;refine gs (fR (.tmp rfl) rfl (by rw[cU (show off+i<o.length by omega),h0]) T354 rfl rfl rfl) ?_;refine gv (u64_in oz) ?_;refine gv (ff _) ?_;refine gv (u64_in oz) ?_;refine ga (oA oz oz) ?_;refine ga (show _=(d:Int) by rw[oA (by split <;> omega) oz,hd];congr 1;(repeat' split) <;> omega) ?_;refine gv (ff _) ?_;refine gs (rV (n:=i) (.tmp rfl) (.tmp rfl) T104 rfl T354 rfl oz (by first |omega |(simp;omega)) rfl) ?_;refine gs (eY (.tmp rfl) rfl (cU (i:=off+i) oz) rfl (.tmp rfl) rfl rfl T354 rfl rfl) ?_;refine gs (gP (.tmp rfl) (.const _) oz (jV _ 63 oz) rfl) ?_;refine gs (gP (.tmp rfl) (.const _) oz (jV _ 32 oz) rfl) ?_;refine ga (d5 oz) ?_;exact Mh J1 (o.set (off+i) (d%4294967296)) (c1/4294967296) (d/2^63) (lo+4294967296^i*(c1%4294967296)) (i+1) ⟨by simp[ho],by omega,jm hw oz,by omega,by omega,by rw[List.take_set_of_le oz];exact iI,zM df,by rw[eD,ajq,jc];exact h5,by rw[Nk oz,PF,ajq];exact h3⟩ (hw:=Wk.of bg (.cons rfl (.of (by rw[aou];rfl)) .nil))
 have ah:i=len:=by have:len<=i:=(by simpa[aa]using y);omega
 subst ah;obtain⟨h6,h7⟩:=RY hu hw ho hj hv pa hn iI df hb xe j7;refine gR ?_;exact aD.own2 rfl (by rw[<- h6]) (XY h7)
theorem V8(u v:List Nat)(off len:Nat)(hu:Ws u)(hv:Ws v)(pa:v.length<=len)(hj:off+len<=u.length)(lu:u.length<=bb) :
  Con prog 446 [.ms 1000 1 off len,ws v] [pP 1000 (.row 1 (u.map u32))] (.tup [])
   [pP 1000 (.row 1 ((wr u off (bF len ((val (bP u off len)+val v)%4294967296^len))).map u32))]:=by
 unfold bb at lu;refine gF func446 (fun k z h=>bW h) ?_;refine mf [1,7] [] (fun(o:List Nat)(c i:Nat)=>[pP 0 (.ms 1000 1 off len),pP 4 (u64 c),pP 8 (i64 i)]) (fun o _ _=>[pP 1000 (.row 1 (o.map u32))]) (fun o c i=>o.length=u.length/\i<=len/\Ws o/\c<=1/\o.take off=u.take off/\o.drop (off+i)=u.drop (off+i)/\val (bP o off i)+c*4294967296^i=val (bP u off i)+val (v.take i)) (fun _ _ i=>len-i) u 0 0 ⟨rfl,by omega,hu,by omega,rfl,rfl,by simp[val]⟩ ?_
 rintro o c i ⟨ho,hi,hw,hc,iI,df,j7⟩ K1 J1;refine gC (fun y=>?_) (fun y=>?_)
 ·have ah:i<len:=by simpa[aa] using y
  have h1:=cC hu (off+i);have h2:=cC hv i;have h0:=wk df;have h3:=ET (u:=an u (off+i)) (w:=an v i) j7;refine gs (rV (n:=i) (.tmp rfl) (.tmp rfl) T104 rfl T354 rfl oz (by first |omega |(simp;omega)) rfl) ?_;refine gs (fR (.tmp rfl) rfl (by rw[cU (show off+i<o.length by omega),h0]) T354 rfl rfl rfl) ?_;refine gv (u64_in oz) ?_;refine gc (by apply vU <;> assumption) ?_;refine ga (l8 oz) ?_;refine ga (l8 oz) ?_;refine gD ?_;refine gv (ff _) ?_;refine gs (rV (n:=i) (.tmp rfl) (.tmp rfl) T104 rfl T354 rfl oz (by first |omega |(simp;omega)) rfl) ?_;refine gs (eY (.tmp rfl) rfl (cU (i:=off+i) oz) rfl (.tmp rfl) rfl rfl T354 rfl rfl) ?_;refine gs (gP (.tmp rfl) (.const _) oz (jV _ 32 oz) rfl) ?_;refine ga (d5 oz) ?_;exact kz J1 (o.set (off+i) ((c+(an u (off+i)+an v i))%4294967296)) ((c+(an u (off+i)+an v i))/4294967296) (i+1) ⟨by simp[ho],by omega,jm hw oz,by omega,by rw[List.take_set_of_le oz];exact iI,zM df,by rw[Nk oz,PF,eD,ajq];exact h3⟩ (hw:=Wk.of bg (.cons rfl (.of (by rw[aou];rfl)) .nil))
 have ah:i=len:=by have:len<=i:=(by simpa[aa]using y);omega
 subst ah;have h6:=Wt hw ho hj pa iI df j7;refine gR ?_;exact aD.own2 rfl (by rw[<- h6]) rfl
theorem age(x:Nat)(hx:x<4294967296):FP 411 [u32 x] (i64 (bp x)):=by
 refine am func411 ?_;refine gC (fun u=>?_) (fun u=>?_)
 ·obtain⟨y,hy,h2,h3⟩:∃ y,y=x / 2 ^ 16/\y<65536/\bp x=16+bp y:=⟨_,rfl,by omega,zH (by have:=u; simp[aa] at this; omega)⟩
  refine gs (gP (.tmp rfl) (.const _) oz ((u4 x 16 oz).trans (by rw[<- hy])) rfl) ?_;refine gC (fun t8=>?_) (fun t8=>?_)
  ·have h5:2 ^ 8<=y:=by simp[aa] at t8; omega
   obtain⟨z,hz,h6,h7⟩:∃z,z=y/2^8/\z<256/\bp x=(bp x-bp y)+8+bp z:=⟨_,rfl,by omega,by have:=zH h5;omega⟩
   refine gs (gP (.tmp rfl) (.const _) oz ((u4 _ 8 oz).trans (show _=(z:Int) by first |(rw[hz];done) |(rw[hz,hy];done))) rfl) ?_;refine ga (d5 oz) ?_;refine gv (show IntKind.u8.wrap _=(z:Int) by first |exact mQ h6 |(rw[hz];exact mQ oz) |(rw[hz,hy];exact mQ oz)) ?_;refine gs (x5 (y:=z) (.const _) (.tmp rfl) T9 rfl (by kernel_rfl) (by first |rfl |omega) oz rfl) ?_;refine gv (i64_in (by have:=mb h6;omega)) ?_;refine ga (d5 (by have:=mb h6;omega)) ?_;refine ai ?_;simp only[i64];congr 2;have:=mb h6;omega
  have h5:y<2^8:=by simp[aa]at t8;omega
  obtain⟨z,hz,h6,h7⟩:∃z,z=y/\z<256/\bp x=(bp x-bp y)+bp z:=⟨_,rfl,by omega,by omega⟩
  refine gv (show IntKind.u8.wrap _=(z:Int) by first |exact mQ h6 |(rw[hz];exact mQ oz) |(rw[hz,hy];exact mQ oz)) ?_;refine gs (x5 (y:=z) (.const _) (.tmp rfl) T9 rfl (by kernel_rfl) (by first |rfl |omega) oz rfl) ?_;refine gv (i64_in (by have:=mb h6;omega)) ?_;refine ga (d5 (by have:=mb h6;omega)) ?_;refine ai ?_;simp only[i64];congr 2;have:=mb h6;omega
 obtain⟨y,hy,h2,h3⟩:∃y,y=x/\y<65536/\bp x=0+bp y:=⟨_,rfl,by have:=u;simp[aa]at this;omega,by omega⟩
 refine gC (fun t8=>?_) (fun t8=>?_)
 ·have h5:2 ^ 8<=y:=by simp[aa] at t8; omega
  obtain⟨z,hz,h6,h7⟩:∃z,z=y/2^8/\z<256/\bp x=(bp x-bp y)+8+bp z:=⟨_,rfl,by omega,by have:=zH h5;omega⟩
  refine gs (gP (.tmp rfl) (.const _) oz ((u4 _ 8 oz).trans (show _=(z:Int) by first |(rw[hz];done) |(rw[hz,hy];done))) rfl) ?_;refine ga (d5 oz) ?_;refine gv (show IntKind.u8.wrap _=(z:Int) by first |exact mQ h6 |(rw[hz];exact mQ oz) |(rw[hz,hy];exact mQ oz)) ?_;refine gs (x5 (y:=z) (.const _) (.tmp rfl) T9 rfl (by kernel_rfl) (by first |rfl |omega) oz rfl) ?_;refine gv (i64_in (by have:=mb h6;omega)) ?_;refine ga (d5 (by have:=mb h6;omega)) ?_;refine ai ?_;simp only[i64];congr 2;have:=mb h6;omega
 have h5:y<2^8:=by simp[aa]at t8;omega
 obtain⟨z,hz,h6,h7⟩:∃z,z=y/\z<256/\bp x=(bp x-bp y)+bp z:=⟨_,rfl,by omega,by omega⟩
 refine gv (show IntKind.u8.wrap _=(z:Int) by first |exact mQ h6 |(rw[hz];exact mQ oz) |(rw[hz,hy];exact mQ oz)) ?_;refine gs (x5 (y:=z) (.const _) (.tmp rfl) T9 rfl (by kernel_rfl) (by first |rfl |omega) oz rfl) ?_;refine gv (i64_in (by have:=mb h6;omega)) ?_;refine ga (d5 (by have:=mb h6;omega)) ?_;refine ai ?_;simp only[i64];congr 2;have:=mb h6;omega
theorem Ur(x:Nat)(hx:x<4294967296):FP 443 [u32 x] (i64 (32-bp x:Nat)):=by
 have h1:bp x<=32:=by
  by_cases h:x=0
  ·subst h;decide
  ·exact(D9 h hx).1
 refine am func443 ?_;refine gc (age x hx) ?_;refine ga (i64_in (by simp only[i7];omega)) ?_;refine ai ?_;simp only[i64,i7];congr 2;omega
theorem MH(a b:List Nat)(ha:Ws a)(hb:Ws b)(na:Nz a)(nb:Nz b)(ow:b≠[])(la:a.length<aJ)(lb:b.length<aJ) :
  FP 396 [ws a,ws b] (.tup [ws (ofNat (val a/val b)),ws (ofNat (val a%val b))]):=by
 have la':=la;unfold aJ at la lb;refine am func396 ?_;refine gc (GE a b ha hb na nb) ?_;refine gC (fun t22=>?_) (fun t22=>?_)
 ·have h1:val a<val b:=by
   simp only[aa]at t22;split at t22
   ·assumption
   ·split at t22 <;> simp at t22
  refine gc (qJ a ha oz) ?_;refine gR ?_;exact XW (by rw[Nat.div_eq_of_lt h1];exact Sub.nil _ _ _) (by rw[aj4 h1];exact Sub.refl _)
 have h1:val b<=val a:=by
  simp only[aa]at t22;split at t22
  ·simp at t22
  ·omega
 refine gl ?_;refine gC (fun z=>?_) (fun z=>?_)
 ·have hl:b.length=1:=by have:=z; simp[aa] at this; omega
  obtain⟨x,rfl⟩:∃x,b=[x]:=alm.1 hl;have hx:x≠0:=nb x rfl;have hxB:x<4294967296:=hb x (by simp);have hv:val [x]=x:=by simp[val]
  have hm:=akz (val a) (show 0<x by omega);refine gi (show _=some (u32 x)from rfl) ?_;refine gc (TL a x ha oz oz hxB) ?_;refine gc (qJ [val a%x] (yY oz) (by simp[aJ])) ?_;refine bO ?_;rw[hv];simp[val]
 have hl:b.length≠1:=by have:=z;simp[aa]at this;omega
 obtain⟨n,hn⟩:∃n,b.length=n+2:=⟨b.length-2,by have:=ale.2 ow;omega⟩
 obtain⟨sh,v,lF,Ac,hv,wv,lv,vv,hvt,htop,xc⟩:=afc hb nb hn
 have Rd:b.length<=a.length:=by
  rcases anu a.length b.length with h2 |h2
  ·have:=zO ha nb h2;omega
  ·exact h2
 obtain⟨lq,Re⟩:∃lq,a.length+1=lq+(n+2):=⟨a.length+1-(n+2),by omega⟩
 have Dm:=cC hb (n+1);refine gl ?_;refine ga (show _=((n+1:Nat):Int) by rw[fc oz];omega) ?_;refine gi (j4 (n:=n+1) oz (by first |omega |(simp;omega))) ?_;refine gc (show lR _ _ _ (i64 (sh:Nat)) by rw[lF];exact Ur _ Dm) ?_;refine gt (aR (O8 900 rfl b sh hb (by unfold aJ;omega) Ac) (b8 rfl rfl) aT rfl rfl) ?_;refine gl ?_;refine gs (CJ (.tmp rfl) (.none _) (.some _ (.tmp rfl) oz) T104 rfl T354 rfl oz oz rfl) ?_;refine gt (aR (O8 901 rfl a sh ha (by unfold aJ;omega) Ac) (b8 rfl rfl) aT rfl rfl) ?_;refine gD ?_ (8,0);refine gW ((Wk.freeze (k:=900) rfl).trans<|Wk.of (sl:=[pP 0 (ws a),pP 1 (ws b),pP 8 (i64 sh),pP 9 (ws v),pP 10 (.ms 901 1 0 (a.length+1))]) (hp:=[pP 901 (.row 1 ((bF (a.length+1) (2^sh*val a)).map u32))]) (.k (.k (.k (.cons rfl (.of (Vq hn hv)) (.k .nil))))) (.k .nil)) ?_;refine gl ?_;refine ga (show _=(lq:Int) by rw[lv,fc oz];omega) ?_;refine gs (kq (.tmp rfl) T104 rfl T354 rfl rfl oz (by dsimp only;omega) rfl) ?_;refine gl ?_;refine ga (show _=((n+1:Nat):Int) by rw[lv,fc oz];omega) ?_;refine gi (j4 (n:=n+1) oz (by first |omega |(simp;omega))) ?_;refine gv (u64_in (by have:=cC wv (n+1);omega)) ?_;refine gl ?_;refine ga (show _=(n:Int) by rw[lv,fc oz];omega) ?_;refine gi (j4 (n:=n) oz (by first |omega |(simp;omega))) ?_;refine gv (u64_in (by have:=cC wv n;omega)) ?_;refine gD ?_;refine ga (fc oz) ?_;refine mf [8,9,12,13] [] (fun(q u:List Nat)(j:Nat)=>[pP 10 (.ms 901 1 0 (a.length+1)),pP 11 (.ms 61 1 0 lq),pP 14 (i64 ((j:Int)-1))]) (fun q u _=>[pP 901 (.row 1 (u.map u32)),pP 61 (.row 1 (q.map u32))]) (fun q u j=>q.length=lq/\u.length=a.length+1/\Ws q/\Ws u/\j<=lq/\val (u.drop j)<val v/\2^sh*val a=val v*(4294967296^j*val (q.drop j))+val u) (fun _ _ j=>j) (als lq 0) (bF (a.length+1) (2^sh*val a)) lq ⟨by simp,ic _ _,qj _,n8 _ _,anp _,by rw[vv];exact(I7 ha Ac Re xc).2,by rw[(I7 ha Ac Re xc).1];simp[val]⟩ ?_ (h2:=(.k (.cons rfl (.of (by rw[aoq];rfl)) .nil)))
 rintro q u j ⟨tc,xf,wq,wu,hj,hlt,hU⟩ K1 J1;refine gC (fun z=>?_) (fun z=>?_) (st2:=(23,0))
 ·have jd:1<=j:=by have:=z; simp[aa] at this; omega
  obtain⟨k,rfl⟩:∃k,j=k+1:=⟨j-1,by omega⟩
  obtain⟨W,hW⟩:∃W,W=val (bP u k (n+3)):=⟨_,rfl⟩
  have Q8:val v<4294967296^(n+2):=by have:=cR v wv;rwa [lv]at this
  obtain⟨e1,e2,e3⟩:=Xk (u:=u) (q:=q) (k:=k) (lv:=n+2) wu oz oz Q8 hlt hU;simp only[show n+2+1=n+3 from rfl]at e1 e2 e3;have ph:=Yx wv (rY wu k (n+3)) lv (tB oz) hvt e1;rw[<- hW]at e1 e2 e3 ph;have wp:=rY wu k (n+3);have b1:=cC wp n;have b2:=cC wp (n+1);have b3:=cC wp (n+2);have b4:=ph.htop;have b5:=ph.htopB;have b6:=ph.hnext;obtain⟨top,Rf⟩:∃top,top=an v (n+1):=⟨_,rfl⟩
  obtain⟨nx,Rg⟩:∃nx,nx=an v n:=⟨_,rfl⟩
  obtain⟨hd,Rh⟩:∃hd,hd=an (bP u k (n+3)) (n+2)*4294967296+an (bP u k (n+3)) (n+1):=⟨_,rfl⟩
  obtain⟨th,Dn⟩:∃th,th=an (bP u k (n+3)) n:=⟨_,rfl⟩
  rw[<- Rf,<- Rg,<- Rh,<- Dn]at ph;rw[<- Rf]at b4 b5 ⊢;rw[<- Rg]at b6 ⊢;rw[<- Dn]at b1;have hdB:hd<18446744073709551616:=by omega
  refine gl ?_;refine ga (show _=((k+n+2:Nat):Int) by rw[lv,d5 oz];omega) ?_;refine ga (show _=((k+n+3:Nat):Int) by rw[d5 oz];omega) ?_;refine gs (CJ (.tmp rfl) (.some _ (.tmp rfl) oz) (.some _ (.tmp rfl) oz) T104 rfl T354 rfl oz oz rfl) ?_ (14,0);refine gW (Wk.of (sl:=[pP 8 (i64 sh),pP 9 (ws v),pP 10 (.ms 901 1 0 (a.length+1)),pP 11 (.ms 61 1 0 lq),pP 12 (u64 top),pP 13 (u64 nx),pP 14 (i64 k),pP 15 (.ms 901 1 k (n+3))]) (hp:=[pP 901 (.row 1 (u.map u32)),pP 61 (.row 1 (q.map u32))]) (.k (.k (.k (.k (.k (.k (.cons rfl (Sub.int oz) (.cons rfl (.of (by congr 1 <;> omega)) .nil)))))))) (.k (.k .nil))) ?_
  refine gl ?_;refine gs (rV (n:=n+2) (.tmp rfl) (.tmp rfl) T104 rfl T354 rfl oz oz rfl) ?_;refine gs (fR (.tmp rfl) rfl (EQ (n:=n+3) (i:=n+2) oz oz) T354 rfl rfl rfl) ?_;refine gv (u64_in oz) ?_;refine gs (jD (.tmp rfl) (.const _) oz (v7 (n:=32) oz oz) rfl) ?_;refine gl ?_;refine ga (show _=((n+1:Nat):Int) by rw[lv,fc oz];omega) ?_;refine gs (rV (n:=n+1) (.tmp rfl) (.tmp rfl) T104 rfl T354 rfl oz oz rfl) ?_;refine gs (fR (.tmp rfl) rfl (EQ (n:=n+3) (i:=n+1) oz oz) T354 rfl rfl rfl) ?_;refine gv (u64_in oz) ?_;refine gs (mZ (.tmp rfl) (.tmp rfl) rfl ((yf oz oz).trans (show _=(hd:Int) by rw[xy oz,Rh])) rfl) ?_;refine gD ?_;refine gs (gU (.tmp rfl) (.tmp rfl) oz (JG hdB) rfl) ?_;refine gs (Bh (.tmp rfl) (.tmp rfl) oz Lq rfl) ?_;refine gD ?_;refine jZ [8,9,12,13,14] [901,61] (fun(g r:Nat)=>[pP 10 (.ms 901 1 0 (a.length+1)),pP 11 (.ms 61 1 0 lq),pP 15 (.ms 901 1 k (n+3)),pP 17 (u64 g),pP 18 (u64 r)]) (fun _ _=>[]) (fun g r=>W/val v<=g/\g*top+r=hd/\g<18446744073709551616/\r<8589934592) (fun g _=>g) (hd/top) (hd%top) ⟨ph.first,by rw[ajt];exact akq _ _,by have:=akd hd top;omega,by have:=akz hd (show 0<top by omega);omega⟩ ?_
  rintro g r ⟨hg,lE,hgB,hrB⟩ K2 J2;refine uk (fun⟨h,h2⟩=>(C0 (by simp[aa]at h2;have:=AE (x:=g) (y:=nx) oz b6;omega))) ?_;refine gs (wD rfl rfl rfl (fun h h2=>jD (.opt rfl (o2 h h2)) (.const _) oz (v7 (n:=32) oz (by simp[aa]at h;omega)) rfl)) ?_;refine cV ?_;refine uk (fun _=>(show _=(n:Int) by rw[lv,fc oz];omega)) ?_;refine gs (wD rfl rfl rfl (fun h h2=>rV (n:=n) (.opt rfl (o2 h h2)) (.opt rfl (o2 h h2)) T104 rfl T354 rfl oz oz rfl)) ?_;refine gs (wD rfl rfl rfl (fun h h2=>fR (.opt rfl (o2 h h2)) rfl (EQ (n:=n+3) (i:=n) oz oz) T354 rfl rfl rfl)) ?_;refine gvG (fun _=>(u64_in oz)) ?_;refine gs (wD rfl rfl rfl (fun h h2=>mZ (.opt rfl (o2 h h2)) (.opt rfl (o2 h h2)) rfl ((yf (by simp[aa]at h;omega) oz).trans (by rw[xy oz])) rfl)) ?_;refine gC (fun t133=>?_) (fun t133=>?_)
  ·have hc:r<4294967296/\(4294967296<=g\/r*4294967296+th<g*nx):=by
    rw[Dn];have h9:=KJ.1 t133
    rwa [show r*2^32=r*4294967296 from rfl]at h9
   have rm:=ph.step hg lE hc.2;have Ra:1<=g:=Nat.succ_le_of_lt (aog (ans _) rm);refine ga (PH oz oz) ?_;refine ga (l8 oz) ?_;exact jq J2 (g-1) (r+top) ⟨Nat.le_sub_one_of_lt rm,by rw[Nat.sub_mul];have:=aod top (show 1<=g by omega);omega,by omega,by omega⟩
  have hc:¬(r<4294967296/\(4294967296<=g\/r*4294967296+th<g*nx)):=by
   rw[Dn];intro hh;rw[show r*4294967296=r*2^32 from rfl]at hh;exact amx.1 t133 (KJ.2 hh)
  obtain⟨ai3,hgq⟩:=ph.last lE hc;have HX:=ph.vpos;have Ri:val (bP u k (n+3))<4294967296^(n+3):=by have:=cR _ wp;rwa [tB oz]at this
  obtain⟨p1,p2⟩:=ZX HX (show val v<=4294967296^(n+3) by have:=akl (show 0<4294967296 by omega) (show n+2<=n+3 by omega);omega) (hW▸Ri) hg hgq;have H5:k+(n+3)<=u.length:=by omega
  have w6:(wr u k (bF (n+3) (nJ g (val v) W (n+3)))).length=a.length+1:=by rw[qG (by rw[ic];omega),xf]
  refine gt (aR (Con.rk 901 rfl rfl (UG u v k (n+3) g wu wv oz H5 ai3 (by unfold bb;omega))) (aV rfl rfl rfl) aT rfl rfl) ?_;refine gC (fun z=>?_) (fun z=>?_)
  ·have Di:W<g*val v:=by rw[hW]; simpa using z
   obtain⟨q1,q2,q3⟩:=p1 Di;have uK:nJ g (val v) W (n+3)<4294967296^(n+3):=by unfold nJ;rw[aoy oz];rw[<- hW]at Ri;omega
   refine ga (PH oz oz) ?_;refine gt (aR (Con.rk 901 rfl rfl (V8 (wr u k (bF (n+3) (nJ g (val v) (val (bP u k (n+3))) (n+3)))) v k (n+3) (vq wu (n8 _ _)) wv oz (by rw[<- hW,w6];omega) (by rw[<- hW,w6];unfold bb;omega))) (b8 rfl rfl) aT rfl rfl) ?_;refine gv ((ff _).trans (by rw[aj4 oz])) ?_;refine gs (cG (n:=k) (.tmp rfl) (.tmp rfl) T104 rfl T354 rfl oz oz rfl) ?_;refine gs (eY (.tmp rfl) rfl (cU (i:=k) oz) rfl (.tmp rfl) rfl rfl T354 rfl rfl) ?_;refine ga (fc oz) ?_;exact kz J1 (q.set k (W/val v)) (wr u k (bF (n+3) (W%val v))) k ⟨by simp[tc],by rw[qG (by rw[ic];omega),xf],jm wq ph.q_lt,vq wu (n8 _ _),by omega,e2,e3⟩ (hw:=Wk.of bg (.cons rfl (.of (by rw[<- hW];first |(rw[q1];done) |(rw[I3 (r:=W%val v) H5 (ic _ _) (by rw[pU _ _ uK];exact q1)];done))) (.cons rfl (.of (by rw[aou,q2];rfl)) .nil)))
  have Di:¬W<g*val v:=by rw[hW];simpa using z
  obtain⟨q1,q2⟩:=p2 Di;refine gv ((ff _).trans (by rw[aj4 oz])) ?_;refine gs (cG (n:=k) (.tmp rfl) (.tmp rfl) T104 rfl T354 rfl oz oz rfl) ?_;refine gs (eY (.tmp rfl) rfl (cU (i:=k) oz) rfl (.tmp rfl) rfl rfl T354 rfl rfl) ?_;refine ga (fc oz) ?_;exact kz J1 (q.set k (W/val v)) (wr u k (bF (n+3) (W%val v))) k ⟨by simp[tc],by rw[qG (by rw[ic];omega),xf],jm wq ph.q_lt,vq wu (n8 _ _),by omega,e2,e3⟩ (hw:=Wk.of bg (.cons rfl (.of (by rw[<- hW];first |(rw[q1];done) |(rw[I3 (r:=W%val v) H5 (ic _ _) (by rw[pU _ _ uK];exact q1)];done))) (.cons rfl (.of (by rw[aou,q2];rfl)) .nil)))
 have jd:j=0:=by have:=z;simp[aa]at this;omega
 subst jd;have hU':2^sh*val a=2^sh*val b*val q+val u:=by rw[<- vv];simpa using hU
 obtain⟨hQ,hR⟩:=ZB hU' (by rw[<- vv];simpa using hlt);refine gW ((Wk.freeze (k:=61) rfl).trans<|(Wk.freeze (k:=901) rfl).trans<|Wk.of (sl:=[pP 8 (i64 sh),pP 10 (ws u),pP 11 (ws q)]) (hp:=[]) (.k (.cons rfl (.of (cz (by simp[xf]))) (.cons rfl (.of (by rw[show AV.fz 61 1 (q.map u32) (.ms 61 1 0 lq)=ws q from cz (by simp[tc])];rfl)) .nil))) .nil) ?_;refine gc (qJ q wq (by unfold aJ;omega)) ?_;refine gc (Vy u sh wu (by unfold aJ;omega) Ac) ?_;refine bO ?_;rw[<- hQ,<- hR]
end Go.Lw
