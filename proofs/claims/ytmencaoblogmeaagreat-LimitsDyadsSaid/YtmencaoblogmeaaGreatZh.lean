/- LimitsDyads: for any linkage and any turn the law returns true and leaves its arguments as they were. No other condition. Part 8 of 9: what the later parts need -/
import Derived.Test.YtmencaoblogmeaaGreatZg
import Derived.Laws.Pointers
set_option linter.unusedVariables false
open List (cons_append nil_append map_nil map_map)
open List renaming mem_of_getElem? → ar1, mem_cons_of_mem → ass, mem_append → ar9, map_cons → atb, mem_cons → asj, mem_cons_self → as2, getElem?_eq_none → asg, all_eq_true → asd, not_mem_nil → asf, replicate → apf, mem_singleton → aqf
open Nat renaming eq_of_beq_eq_true → ar4, le_refl → ar8, lt_or_ge → asb, le_trans → asv, ble_eq → an7, blt → aob, blt_eq → aoh, zero_add → aoj, ne_of_beq_eq_false → aor, beq → ao6
open Option renaming map_some → arz
open Bool renaming and_eq_true → ar5, false_eq_true → aq9
open Array renaming getElem?_eq_getElem → aro, toList_inj → arq
open Int renaming toNat_natCast → as4, ofNat_eq_natCast → aqk, natCast_nonneg → aqs
open Rat renaming num_divInt_den → aq1, divInt → aq3
open Go renaming Operand → atn, Value → ato, TypeId → atp, Program → atq, World → atr
open Go.Result renaming andThen_ok → ats
open Go.Sem renaming run_bind → att, run_pure → atu
open Go.Proofs.Tryz
namespace Go.Lw
variable{P:atq}{N:Nat}
def dF(s:AS):atn->Option AV
  | .tmp t=>match s.get t with
    |some x=>match x with
      | .opt _ _=>none
      |x=>some x
    |none=>none
  | .const c=>some (.v c)
  | .func f=>some (.v (.func (.func f) #[] #[]))
  | .global _=>none
theorem bO{s:AS}{o:atn}{x:AV}(h:dF s o=some x):Ev s o x:=by
 cases o with
 |tmp t =>
  simp only[dF]at h;split at h
  ·rename_i y hy;split at h
   ·cases h
   ·cases h;exact .tmp hy
  ·cases h
 |const c=>cases h;exact .const c
 |func f=>cases h;exact .func f
 |global n=>cases h
def sU(s:AS):List atn->Option (List AV)
  |[]=>some []
  |o::os=>match dF s o with
    |some x=>match sU s os with
      |some xs=>some (x::xs)
      |none=>none
    |none=>none
theorem uf{s:AS}:∀{os:List atn}{xs:List AV},sU s os=some xs->EvL s os xs
 |[],xs,h=>by cases h;exact .nil
 |o::os,xs,h=>by
  unfold sU at h;split at h
  ·rename_i x h1;split at h
   ·rename_i ys h2;cases h;exact .cons (bO h1) (uf h2)
   ·cases h
  ·cases h
def wN{α:Type}(n:Nat)(f:Nat->α):α:=match n with
  |0=>f 0
  |m+1=>f (m+1)
theorem r4{α:Type}(n:Nat)(f:Nat->α):wN n f=f n:=by cases n <;> rfl
def wI{α:Type}(z:Int)(f:Int->α):α:=match z with
  | .ofNat n=>match n with
    |0=>f 0
    |m+1=>f (Int.ofNat (m+1))
  | .negSucc n=>f (.negSucc n)
theorem oL{α:Type}(z:Int)(f:Int->α):wI z f=f z:=by
 cases z with
 |ofNat n=>cases n <;> rfl
 |negSucc n=>rfl
structure V1 where
  x:AV
  rt:List Nat
  rd:List Nat
def NU:ato->Bool
  | .nilIface=>true
  | .iface _ _=>true
  |_=>false
theorem La{v:ato}(h:NU v=true):II v:=by
 cases v <;> first |exact .inl rfl |exact .inr ⟨_,_,rfl⟩ |cases h
def IE:BinOp->Bool
  | .and | .or | .xor | .andNot=>true
  |_=>false
theorem U6:∀{op:BinOp},IE op=true->(match op with | .and | .or | .xor | .andNot=>true |_=>false)=true:=by intro op;cases op <;> intro h <;> first |rfl |cases h
def vh(op:BinOp)(x y:atn)(k k':IntKind)(a b:Int):Option V1:=match op with
  | .add | .sub | .mul=>match ao6 (fq k) (fq k')with
    |true=>wI (k.wrap (gw op a b)) fun z=>some ⟨.v (.int k z),aj x++aj y,[]⟩
    |false=>none
  | .quo=>match ao6 (fq k) (fq k')with
    |true=>match b with
      | .ofNat 0=>none
      |b=>wI (k.wrap (a.tdiv b)) fun z=>some ⟨.v (.int k z),aj x++aj y,[]⟩
    |false=>none
  | .rem=>match ao6 (fq k) (fq k')with
    |true=>match b with
      | .ofNat 0=>none
      |b=>wI (a.tmod b) fun z=>some ⟨.v (.int k z),aj x++aj y,[]⟩
    |false=>none
  | .shl=>match b with
    | .ofNat n=>wI (k.wrap (a*2^(min n k.bits))) fun z=>some ⟨.v (.int k z),aj x++aj y,[]⟩
    | .negSucc _=>none
  | .shr=>match b with
    | .ofNat n=>wI (a.fdiv (2^(min n k.bits))) fun z=>some ⟨.v (.int k z),aj x++aj y,[]⟩
    | .negSucc _=>none
  | .eql | .neq | .lss | .leq | .gtr | .geq=>match ao6 (fq k) (fq k')with
    |true=>match aa op a b with
      |true=>some ⟨.v (.bool true),aj x++aj y,[]⟩
      |false=>some ⟨.v (.bool false),aj x++aj y,[]⟩
    |false=>none
  |op=>match IE op&&ao6 (fq k) (fq k')with
    |true=>wI (p5 op k a b) fun z=>some ⟨.v (.int k z),aj x++aj y,[]⟩
    |false=>none
section
variable{s:AS}{R:Array Oper}{d:Nat}{t T:atp}{pos:String}{after:Array Edge}
theorem ae0{op:BinOp}{x y:atn}{k k':IntKind}{a b:Int}{S:atp}{r:V1}(hx:Ev s x (.v (.int k a)))(hy:Ev s y (.v (.int k' b)))(h:vh op x y k k' a b=some r)(hN:aob d N=true) :
  Step P N R s ⟨some d,.binOp op S x y T,t,pos,after,none⟩ ⟨some r.x,[],r.rt,r.rd⟩:=by
 have hc:∀(op:BinOp),Bg op=true->(match ao6 (fq k) (fq k')with
  |true=>match aa op a b with
   |true=>some (⟨.v (.bool true),aj x++aj y,[]⟩:V1)
   |false=>some ⟨.v (.bool false),aj x++aj y,[]⟩
  |false=>none)=some r->Step P N R s ⟨some d,.binOp op S x y T,t,pos,after,none⟩ ⟨some r.x,[],r.rt,r.rd⟩:=by
  intro op cS h';split at h'
  ·rename_i hk;cases p6 hk;have:=Om (P:=P) (R:=R) (op:=op) (S:=S) (T:=T) (t:=t) (pos:=pos) (after:=after) hx hy (by cases op <;> simp_all [Bg]) hN;split at h'
   ·rename_i hb;cases h';rw[hb]at this;exact this
   ·rename_i hb;cases h';rw[hb]at this;exact this
  ·cases h'
 have ha:∀(op:BinOp),GF op=true->(match ao6 (fq k) (fq k')with
  |true=>wI (k.wrap (gw op a b)) fun z=>some (⟨.v (.int k z),aj x++aj y,[]⟩:V1)
  |false=>none)=some r->Step P N R s ⟨some d,.binOp op S x y T,t,pos,after,none⟩ ⟨some r.x,[],r.rt,r.rd⟩:=by
  intro op cS h';split at h'
  ·rename_i hk;cases p6 hk;rw[oL]at h';cases h';exact MP hx hy (Py cS) hN
  ·cases h'
 have hb:∀(op:BinOp),(match IE op&&ao6 (fq k) (fq k')with
  |true=>wI (p5 op k a b) fun z=>some (⟨.v (.int k z),aj x++aj y,[]⟩:V1)
  |false=>none)=some r->Step P N R s ⟨some d,.binOp op S x y T,t,pos,after,none⟩ ⟨some r.x,[],r.rt,r.rd⟩:=by
  intro op h';split at h'
  ·rename_i hk;simp only[ar5]at hk;cases p6 hk.2;rw[oL]at h';cases h';exact Ny hx hy (U6 hk.1) hN
  ·cases h'
 cases op with
 |add=>exact ha _ rfl h
 |sub=>exact ha _ rfl h
 |mul=>exact ha _ rfl h
 |quo =>
  simp only[vh]at h;split at h
  ·rename_i hk;cases p6 hk;split at h
   ·cases h
   ·rename_i iP;rw[oL]at h;cases h
    exact Nd hx hy (fun e=>iP (by rw[e];rfl)) hN
  ·cases h
 |rem =>
  simp only[vh]at h;split at h
  ·rename_i hk;cases p6 hk;split at h
   ·cases h
   ·rename_i iP;rw[oL]at h;cases h
    exact Pr hx hy (fun e=>iP (by rw[e];rfl)) hN
  ·cases h
 |shl =>
  simp only[vh]at h;split at h
  ·rename_i n;rw[oL]at h;obtain rfl:=Option.some.inj h;have:=Tt (P:=P) (R:=R) (S:=S) (T:=T) (t:=t) (pos:=pos) (after:=after) hx hy (aqs n) hN;simp only[aqk,as4]at this;exact this
  ·cases h
 |shr =>
  simp only[vh]at h;split at h
  ·rename_i n;rw[oL]at h;obtain rfl:=Option.some.inj h;have:=Oj (P:=P) (R:=R) (S:=S) (T:=T) (t:=t) (pos:=pos) (after:=after) hx hy (aqs n) hN;simp only[aqk,as4]at this;exact this
  ·cases h
 |eql=>exact hc _ rfl h
 |neq=>exact hc _ rfl h
 |lss=>exact hc _ rfl h
 |leq=>exact hc _ rfl h
 |gtr=>exact hc _ rfl h
 |geq=>exact hc _ rfl h
 |_=>exact hb _ h
end
def uo(op:BinOp)(b:Bool):Bool:=match op with
  | .eql=>b
  |_=>!b
def IF:AV->Option Bool
  | .v (.slice none 0 0)=>some true
  | .lst _ (_::_)=>some false
  | .ms _ _ _ (_+1)=>some false
  |_=>none
theorem abw{S:atp}{w:atr}{E:atp}(h3:(underlying S).run P w=.ok (.slice E) w){a:Option Addr}{n c:Nat} :
  (Op.equal S (.slice a n c) (.slice none 0 0)).run P w=.ok a.isNone w:=by
 show(Op.equalIn (9999+1) S _ _).run P w=_;rw[Op.equalIn];cases a <;> simp[h3]
theorem WQ{s:AS}{R:Array Oper}{d:Nat}{x:atn}{xv:AV}{b:Bool}{op:BinOp}{S T t E:atp}{ti:TI}{pos:String}{after:Array Edge}(cS:op=.eql\/op=.neq)
  (hx:Ev s x xv) (hv:IF xv=some b) (hS:au P S=some ti) (hk:ti.k=.slice E) (hN:aob d N=true) :
  Step P N R s ⟨some d,.binOp op S x (.const (.slice none 0 0)) T,t,pos,after,none⟩ ⟨some (.v (.bool (uo op b))),[],aj x,[]⟩ :=
 dw rfl rfl hN fun s' ao C m a w hr=>⟨.bool (uo op b),by
  have h:=(hx.agree ao (fun _ h=>h)).rep hr;obtain⟨d2,h3,h4,-,-⟩:=dX hS w;obtain rfl:=i9 (h4.trans hk);have h2:a.eval (.const (.slice none 0 0))=.slice none 0 0:=rfl
  obtain⟨ad,n,c,he,hb⟩:∃ad n c,a.eval x=.slice ad n c/\ad.isNone=b:=by
   generalize a.eval x=u at h;unfold IF at hv;split at hv
   ·cases hv;cases h;exact⟨_,_,_,rfl,rfl⟩
   ·cases hv;cases h with
    |lst u hb hc hl hs h1 hu hr=>exact⟨_,_,_,rfl,rfl⟩
   ·cases hv;cases h with
    |ms hm hc hS=>exact⟨_,_,_,rfl,rfl⟩
   ·cases hv
  have h5:=abw (P:=P) (a:=ad) (n:=n) (c:=c) h3;rcases cS with rfl |rfl <;> simp[execOp,he,h2,eqGuard,binOp,h5,hb,uo],.v _⟩
theorem YE{s:AS}{R:Array Oper}{d:Nat}{x:atn}{lo hi:Option atn}{T E t:atp}{ti te:TI}{pos:String}{after:Array Edge}
  (hx:Ev s x (.v (.slice none 0 0))) (hl:EvI s lo 0 0) (hh:EvI s hi 0 0) (hT:au P T=some ti) (hk:ti.k=.slice E) (hE:au P E=some te) (hN:aob d N=true) :
  Step P N R s ⟨some d,.slice T x lo hi none,t,pos,after,none⟩ ⟨some (.v (.slice none 0 0)),[],aj x++(l0 lo++l0 hi),[]⟩ :=
 dw rfl rfl hN fun s' ao C m a w hr=>by
  have d8:=pV hr (hx.agree ao (fun _ h=>ar9.2 (.inl h)));have hl':=hl.agree ao (fun _ h=>ar9.2 (.inr (ar9.2 (.inl h))));have hh':=hh.agree ao (fun _ h=>ar9.2 (.inr (ar9.2 (.inr h))));obtain⟨d2,hu,h3,-,-⟩:=dX hT w;obtain rfl:=i9 (h3.trans hk);have:=zz (P:=P) hr (cap:=0) true hl' hh' (ar8 _) (ar8 _);exact⟨.slice none 0 0,by simp[execOp,d8,Instr.sliceAt,hu,Instr.slice,this,gd hE],.v _⟩
theorem ale{s:AS}{R:Array Oper}{d:Nat}{x:atn}{k1 k2:IntKind}{sz:Nat}{es:List AV}{T E t:atp}{ti te:TI}{pos:String}{after:Array Edge}
  (hx:Ev s x (.lst sz es)) (hT:au P T=some ti) (hk:ti.k=.slice E) (hE:au P E=some te) (a5:te.size=sz) (hN:aob d N=true) :
  Step P N R s ⟨some d,.slice T x none (some (.const (.int k1 0))) (some (.const (.int k2 0))),t,pos,after,none⟩ ⟨some (.ms d sz 0 0),[(d,some (.row sz []))],aj x,[]⟩:=by
 refine zE rfl ?_;intro s' ao bP C m a w next hC hr hnext
 have hfr:s'.Fresh d:=by
  rcases bP d (by simp)with h |h
  ·cases h
  ·exact h
 have et:=(hx.agree ao (fun _ h=>h)).rep hr;obtain⟨d2,hu,h3,-,-⟩:=dX hT w;obtain rfl:=i9 (h3.trans hk)
 obtain⟨ad,n,c,he⟩:∃ad n c,a.eval x=.slice ad n c:=by
  generalize a.eval x=u at et;cases et with
  |lst0 a cap=>exact⟨_,_,_,rfl⟩
  |lst u hb hc hl hs h1 hu hr=>exact⟨_,_,_,rfl⟩
 have e1:a.eval (.const (.int k1 0))=.int k1 0:=rfl;have e2:a.eval (.const (.int k2 0))=.int k2 0:=rfl
 have l9:(execOp a.eval ⟨some d,.slice T x none (some (.const (.int k1 0))) (some (.const (.int k2 0))),t,pos,after,none⟩).run P w=.ok (.value (.slice ad 0 0)) w:=by
  simp[execOp,he,e1,e2,Instr.sliceAt,hu,Instr.slice,Instr.sliceBounds,Instr.sliceBound,asIntOf,gd hE]
 rw[l9];rw[aoh]at hN;simp only[Oper.upon,Act.put];obtain⟨m2,h1⟩:∃m2,RelM C ⟨s'.sl,(d,some (.row sz []))::s'.hp⟩ m2 a w:=⟨_,hr.virt sz hfr⟩
 refine hnext m2 _ _ ?_
 have:=h1.put d (.slice ad 0 0) (some (.ms d sz 0 0)) (fun z hz=>by
  cases hz;exact⟨by have:=hr.nt;omega,.ms0 _ _ _ _⟩)
 simpa[AS.app]using this
variable[Inhabited (Tys P)]
def QN:BinOp->Bool
  | .eql | .neq=>true
  |_=>false
def Di:List UInt8->List UInt8->Bool
  |[],y=>match y with
    |[]=>true
    |_=>false
  |x::l,y=>match y with
    |x'::l'=>match ao6 x.toNat x'.toNat with
      |true=>Di l l'
      |false=>false
    |[]=>false
theorem FW:∀{a b:List UInt8},Di a b=(a==b)
 |[],[]=>rfl
 |[],_::_=>rfl
 |_::_,[]=>rfl
 |x::l,x'::l'=>by
  show(match ao6 x.toNat x'.toNat with |true=>Di l l' |false=>false)=_;cases h:ao6 x.toNat x'.toNat with
  |true =>
   have:x=x':=UInt8.toNat_inj.1 (ar4 h);subst this;simp only[FW (a:=l)];simp
  |false =>
   have:x≠x':=fun e=>aor h (by rw[e])
   simp[this]
def pL(a b:ByteArray):Bool:=Di a.data.toList b.data.toList
theorem Ix(a b:ByteArray):(a.toList==b.toList)=pL a b:=by
 unfold pL;rw[FW,ByteArray.toList_eq,ByteArray.toList_eq]
def Ga(P:atq)[Inhabited (Tys P)](op:BinOp)(S:atp)(x y:atn)(vx vy:ato):Option V1:=match vx with
  | .int k a=>match vy with
    | .int k' b=>vh op x y k k' a b
    |_=>none
  |vx=>match vy with
    | .nilIface=>match y with
      | .const _=>match NU vx with
        |true=>match cF P S with
          |some ti=>match ti.k with
            | .iface _=>match op with
              | .eql=>some ⟨.v (.bool (fc vx)),aj x++[],[]⟩
              | .neq=>some ⟨.v (.bool !(fc vx)),aj x++[],[]⟩
              |_=>none
            |_=>none
          |none=>none
        |false=>none
      |_=>none
    | .string b=>match vx with
      | .string a=>match op with
        | .eql=>match pL a b with
          |true=>some ⟨.v (.bool true),aj x++aj y,[]⟩
          |false=>some ⟨.v (.bool false),aj x++aj y,[]⟩
        | .neq=>match pL a b with
          |true=>some ⟨.v (.bool false),aj x++aj y,[]⟩
          |false=>some ⟨.v (.bool true),aj x++aj y,[]⟩
        |_=>none
      |_=>none
    |vy=>match uX P op S x y [] vx vy with
      |some r=>match r.ob with
        |[]=>some ⟨r.x,r.rt,r.rd⟩
        |_=>none
      |none=>none
def sQ(P:atq)[Inhabited (Tys P)](T sz:Nat):Bool:=match cF P T with
  |some ti=>match ti.k with
    | .slice E=>match cF P E with
      |some te=>ao6 te.size sz
      |none=>false
    |_=>false
  |none=>false
theorem zR{T sz:Nat}(h:sQ P T sz=true):∃ti E te,au P T=some ti/\ti.k=.slice E/\au P E=some te/\te.size=sz:=by
 unfold sQ at h;split at h
 ·rename_i ti bZ;split at h
  ·rename_i E hk;split at h
   ·rename_i te Ac;exact⟨ti,E,te,bW bZ,hk,bW Ac,ar4 h⟩
   ·cases h
  ·cases h
 ·cases h
def rP(s:AS)(o:Option atn)(d:Nat):Option Nat:=match o with
  |none=>some d
  |some x=>match dF s x with
    |some (.v (.int _ (.ofNat n)))=>some n
    |_=>none
theorem vB{s:AS}{o:Option atn}{d n:Nat}(h:rP s o d=some n):EvI s o d n:=by
 cases o with
 |none=>cases h;exact .none d
 |some x =>
  simp only[rP]at h;split at h
  ·rename_i hx;cases h;exact .some (i:=Int.ofNat n) d (bO hx) (aqs _)
  ·cases h
def Io(ti:TI)(l:List AV):Option AV:=match ti.ag with
  |true=>match jP (l.take ti.size)with
    |some r=>some (.agg r)
    |none=>none
  |false=>match ao6 ti.size 1 with
    |true=>match l with
      |x::_=>some x
      |[]=>none
    |false=>none
theorem Wc{ti:TI}{l:List AV}{x:AV}(h:Io ti l=some x):(ti.ag||ao6 ti.size 1)=true/\x=lJ ti.ag (l.take ti.size):=by
 unfold Io at h;split at h
 ·rename_i ha;split at h
  ·rename_i r hr;cases h;rw[ha,kR hr];exact⟨rfl,rfl⟩
  ·cases h
 ·rename_i ha;split at h
  ·rename_i h1;split at h
   ·cases h;rw[ha,ar4 h1];exact⟨rfl,rfl⟩
   ·cases h
  ·cases h
def wP:List AV->List AV->Option (List ato×List Nat)
  |[],[]=>some ([],[])
  | .v (.int .i64 a)::l,.v (.int .i64 b)::l'=>match a==b with
    |true=>match wP l l' with
      |some (vs,ks)=>some (.int .i64 a::vs,1::ks)
      |none=>none
    |false=>none
  | .v (.string a)::l,.v (.string b)::l'=>match pL a b with
    |true=>match wP l l' with
      |some (vs,ks)=>some (.string a::vs,2::ks)
      |none=>none
    |false=>none
  |_,_=>none
theorem Yn{a b:ByteArray}(h:pL a b=true):a=b:=by
 rw[<- Ix,beq_iff_eq,ByteArray.toList_eq,ByteArray.toList_eq]at h;cases a;cases b;congr 1
 exact Array.ext' h
theorem Il:∀{l l':List AV}{vs:List ato}{ks:List Nat},wP l l'=some (vs,ks)->l=vs.map .v/\l'=vs.map .v/\vs.map vk=ks
 |[],[],_,_,h=>by cases h;exact⟨rfl,rfl,rfl⟩
 | .v (.int .i64 a)::l,.v (.int .i64 b)::l',_,_,h=>by
  rw[wP]at h;split at h
  ·rename_i he;split at h
   ·rename_i vs ks hs;obtain⟨h1,h2,h3⟩:=Il hs;cases h;cases eq_of_beq he;exact⟨by rw[h1];rfl,by rw[h2];rfl,by rw[<- h3];rfl⟩
   ·cases h
  ·cases h
 | .v (.string a)::l,.v (.string b)::l',_,_,h=>by
  rw[wP]at h;split at h
  ·rename_i he;split at h
   ·rename_i vs ks hs;obtain⟨h1,h2,h3⟩:=Il hs;cases h;cases Yn he;exact⟨by rw[h1];rfl,by rw[h2];rfl,by rw[<- h3];rfl⟩
   ·cases h
  ·cases h
def H9(P:atq)(op:BinOp)(S:atp)(x y:atn)(cs cs':List AV):Option V1:=match op with
  | .neq=>match wP cs cs' with
    |some (_,ks)=>match Br P S ks with
      |true=>some ⟨.v (.bool false),aj x++aj y,[]⟩
      |false=>none
    |none=>none
  |_=>none
omit [Inhabited (Tys P)] in
theorem alt{s:AS}{R:Array Oper}{d:Nat}{x y:atn}{cs cs':List AV}{op:BinOp}{S T t:atp}{pos:String}{after:Array Edge}{r:V1}(h:H9 P op S x y cs cs'=some r)
  (hx:Ev s x (.agg cs)) (hy:Ev s y (.agg cs')) (hN:aob d N=true):Step P N R s ⟨some d,.binOp op S x y T,t,pos,after,none⟩ ⟨some r.x,[],r.rt,r.rd⟩:=by
 unfold H9 at h;split at h
 ·split at h
  ·rename_i vs ks hs;obtain⟨h1,h2,h3⟩:=Il hs;subst h1;subst h2
   split at h
   ·rename_i hS;cases h;exact aa1 hx hy h3 hS hN
   ·cases h
  ·cases h
 ·cases h
def CB(P:atq)(t:atp):Bool:=match P.underlying t with |some (.pointer _)=>true |_=>false
omit [Inhabited (Tys P)] in
theorem VV{t:atp}(h:CB P t=true):P.underlying t=some (.pointer (P.pointee t)):=by
 unfold CB at h;split at h
 ·rename_i e he;rw[he];unfold Program.pointee;rw[he]
 ·cases h
omit [Inhabited (Tys P)] in
theorem ae6{s:AS}{R:Array Oper}{d:Nat}{x:atn}{k off:Nat}{op:BinOp}{S T t:atp}{pos:String}{after:Array Edge}(cS:op=.eql\/op=.neq)
  (hx:Ev s x (.ptr k off)) (hS:CB P S=true) (hN:aob d N=true) :
  Step P N R s ⟨some d,.binOp op S x (.const (.pointer none)) T,t,pos,after,none⟩ ⟨some (.v (.bool (uo op false))),[],aj x,[]⟩ :=
 dw rfl rfl hN fun s' ao C m a w hr=>⟨.bool (uo op false),by
  have h:=(hx.agree ao (fun _ h=>h)).rep hr;have h2:a.eval (.const (.pointer none))=.pointer none:=rfl;have hu:=VV hS;generalize ha:a.eval x=u at h;cases h;rcases cS with rfl |rfl
  ·simp[execOp,ha,h2,eqGuard,run_eql_pointer_nil w S _ hu,uo]
  ·simp[execOp,ha,h2,eqGuard,run_neq_pointer_nil w S _ hu,uo],.v _⟩
def Gz(P:atq)(op:BinOp)(S:atp)(x y:atn):Option V1:=match y with
  | .const (.pointer none)=>match QN op with
    |true=>match CB P S with
      |true=>match op with
        | .eql=>some ⟨.v (.bool false),aj x,[]⟩
        |_=>some ⟨.v (.bool true),aj x,[]⟩
      |false=>none
    |false=>none
  |_=>none
omit [Inhabited (Tys P)] in
theorem adu{s:AS}{R:Array Oper}{d:Nat}{x y:atn}{k off:Nat}{op:BinOp}{S T t:atp}{pos:String}{after:Array Edge}{r:V1}(h:Gz P op S x y=some r)
  (hx:Ev s x (.ptr k off)) (hN:aob d N=true):Step P N R s ⟨some d,.binOp op S x y T,t,pos,after,none⟩ ⟨some r.x,[],r.rt,r.rd⟩:=by
 unfold Gz at h;split at h
 ·split at h
  ·rename_i cS;have cS:op = .eql \/ op = .neq:=by cases op <;> first | exact .inl rfl | exact .inr rfl | cases cS
   split at h
   ·rename_i hS;have h9:=ae6 (P:=P) (R:=R) (T:=T) (t:=t) (pos:=pos) (after:=after) cS hx hS hN;rcases cS with rfl |rfl <;> (cases h;exact h9)
   ·cases h
  ·cases h
 ·cases h
def Rj(P:atq)(op:BinOp)(S:atp)(x y:atn)(a b c e:Int):Option V1:=match op with
  | .eql=>match Dz P S with
    |true=>match a==c&&b==e with
      |true=>some ⟨.v (.bool true),aj x++aj y,[]⟩
      |false=>some ⟨.v (.bool false),aj x++aj y,[]⟩
    |false=>none
  |_=>none
def yb(P:atq)[Inhabited (Tys P)](s:AS)(op:Op):Option V1:=match op with
  | .pick c x y=>match dF s c with
    |some (.v (.bool b))=>match b with
      |true=>match dF s x with
        |some (.v (.bool z))=>some ⟨.v (.bool z),aj c++(aj x++aj y),[]⟩
        |_=>none
      |false=>match dF s y with
        |some (.v (.bool z))=>some ⟨.v (.bool z),aj c++(aj x++aj y),[]⟩
        |_=>none
    |_=>none
  | .binOp op S x (.const (.slice none 0 0)) _=>match QN op with
    |true=>match dF s x with
      |some xv=>match IF xv with
        |some b=>match cF P S with
          |some ti=>match ti.k with
            | .slice _=>match op with
              | .eql=>some ⟨.v (.bool b),aj x,[]⟩
              |_=>match b with
                |true=>some ⟨.v (.bool false),aj x,[]⟩
                |false=>some ⟨.v (.bool true),aj x,[]⟩
            |_=>none
          |none=>none
        |none=>none
      |none=>none
    |false=>none
  | .binOp op S x y _=>match dF s x with
    |some (.v vx)=>match dF s y with
      |some (.v vy)=>Ga P op S x y vx vy
      |_=>none
    |some (.agg [.v (.int .i64 a),.v (.int .i64 b)])=>match dF s y with
      |some (.agg [.v (.int .i64 c),.v (.int .i64 e)])=>Rj P op S x y a b c e
      |_=>none
    |some (.ptr _ _)=>Gz P op S x y
    |some (.agg cs)=>match dF s y with
      |some (.agg cs')=>H9 P op S x y cs cs'
      |_=>none
    |_=>none
  | .unOp .neg _ x=>match dF s x with
    |some (.v (.int k n))=>wI (k.wrap (0-n)) fun z=>some ⟨.v (.int k z),aj x,[]⟩
    |_=>none
  | .convert S T x=>match dF s x with
    |some (.v (.int _ n))=>match cF P S with
      |some _=>match cF P T with
        |some ti=>match ti.k with
          | .int k'=>wI (k'.wrap n) fun z=>some ⟨.v (.int k' z),aj x,[]⟩
          |_=>none
        |none=>none
      |none=>none
    |_=>none
  | .indexAddr T x ix=>match dF s ix with
    |some (.v (.int _ (.ofNat i)))=>match dF s x with
      |some (.lst sz es)=>match sQ P T sz with
        |true=>match es[i]? with
          |some e=>some ⟨.iptr e.cells,aj x++aj ix,[]⟩
          |none=>none
        |false=>none
      |some (.ms k sz off len)=>match sQ P T sz&&aob i len with
        |true=>wN (off+i) fun n=>some ⟨.eptr k sz n 0,aj x++aj ix,[]⟩
        |false=>none
      |some (.ptr k off)=>match cF P T with
        |some ti=>match ti.k with
          | .array n E=>match cF P E with
            |some te=>match aob i n with
              |true=>wN (off+i*te.size) fun m=>some ⟨.ptr k m,aj x++aj ix,[]⟩
              |false=>none
            |none=>none
          |_=>none
        |none=>none
      |_=>none
    |_=>none
  | .load T x=>match dF s x with
    |some (.eptr k sz i off)=>match s.blk k with
      |some (.row sz' es)=>match ao6 sz sz' with
        |true=>match es[i]? with
          |some e=>match cF P T with
            |some ti=>match Nat.ble (off+ti.size) e.cells.length with
              |true=>match Io ti (e.cells.drop off)with
                |some v=>some ⟨v,aj x,[k]⟩
                |none=>none
              |false=>none
            |none=>none
          |none=>none
        |false=>none
      |_=>none
    |some y=>match cF P T with
      |some ti=>match uK P s ti x [] y with
        |some r=>some ⟨r.x,r.rt,r.rd⟩
        |none=>none
      |none=>none
    |none=>none
  | .index T x ix=>match dF s ix with
    |some (.v (.int _ (.ofNat i)))=>match dF s x with
      |some (.v (.string b))=>match cF P T with
        |some ti=>match ti.k with
          | .string=>match aob i b.size with
            |true=>wN (b.data.getD i 0).toNat fun n=>some ⟨.v (.int .u8 (Int.ofNat n)),aj x++aj ix,[]⟩
            |false=>none
          |_=>none
        |none=>none
      |_=>none
    |_=>none
  | .slice T x lo hi none=>match dF s x with
    |some (.lst sz es)=>match rP s lo 0 with
      |some l=>match rP s hi es.length with
        |some h=>match sQ P T sz&&Nat.ble l h&&Nat.ble h es.length with
          |true=>match jP ((es.drop l).take (h-l))with
            |some r=>some ⟨.lst sz r,aj x++(l0 lo++l0 hi),[]⟩
            |none=>none
          |false=>none
        |none=>none
      |none=>none
    |some (.v (.slice none 0 0))=>match rP s lo 0 with
      |some 0=>match rP s hi 0 with
        |some 0=>match cF P T with
          |some ti=>match ti.k with
            | .slice E=>match cF P E with
              |some _=>some ⟨.v (.slice none 0 0),aj x++(l0 lo++l0 hi),[]⟩
              |none=>none
            |_=>none
          |none=>none
        |_=>none
      |_=>none
    |some (.ms k sz off len)=>match rP s lo 0 with
      |some l=>match rP s hi len with
        |some h=>match sQ P T sz&&Nat.ble l h&&Nat.ble h len with
          |true=>wN (off+l) fun a=>wN (h-l) fun b=>some ⟨.ms k sz a b,aj x++(l0 lo++l0 hi),[]⟩
          |false=>none
        |none=>none
      |none=>none
    |_=>none
  | .call ⟨.builtin .len,args,ts⟩=>match args.toList with
    |[x]=>match ts.toList with
      |[T]=>match dF s x with
        |some (.lst _ es)=>match cF P T with
          |some ti=>match ti.k with
            | .slice _=>wN es.length fun n=>some ⟨.v (.int .i64 (Int.ofNat n)),aj x,[]⟩
            |_=>none
          |none=>none
        |some y=>match we P x T [] y with
          |some r=>some ⟨r.x,r.rt,r.rd⟩
          |none=>none
        |none=>none
      |_=>none
    |_=>none
  | .call ⟨.builtin .max,args,ts⟩=>match args.toList with
    |[x,y]=>match dF s x with
      |some (.v (.int .i64 a))=>match dF s y with
        |some (.v (.int .i64 b))=>wI (if b>a then b else a) fun z=>some ⟨.v (.int .i64 z),aj x++aj y,[]⟩
        |_=>none
      |_=>none
    |_=>none
  | .call ⟨.builtin .min,args,ts⟩=>match args.toList with
    |[x,y]=>match dF s x with
      |some (.v (.int .i64 a))=>match dF s y with
        |some (.v (.int .i64 b))=>wI (if b<a then b else a) fun z=>some ⟨.v (.int .i64 z),aj x++aj y,[]⟩
        |_=>none
      |_=>none
    |_=>none
  |op=>match yL P false True s op with
    |some r=>match r.ob with
      |[]=>some ⟨r.x,r.rt,r.rd⟩
      |_=>none
    |none=>none
omit [Inhabited (Tys P)] in
theorem Xa{N d:Nat}{s:AS}{R:Array Oper}{x y:atn}{a b:Int}{t:atp}{ts:Array atp}{pos:String}{after:Array Edge}(hx:Ev s x (.v (.int .i64 a)))(hy:Ev s y (.v (.int .i64 b)))(hN:aob d N=true) :
  Step P N R s ⟨some d,.call ⟨.builtin .max,#[x,y],ts⟩,t,pos,after,none⟩ ⟨some (.v (.int .i64 (if b>a then b else a))),[],aj x++aj y,[]⟩ :=
 dw rfl rfl hN fun s' ao C m ac w hr=>⟨.int .i64 (if b>a then b else a),by
  have h:=(hx.agree ao (fun _ h=>ar9.2 (.inl h))).rep hr;have h':=(hy.agree ao (fun _ h=>ar9.2 (.inr h))).rep hr;generalize hu:ac.eval x=u at h;generalize hv:ac.eval y=v at h';cases h;cases h'
  simp[execOp,resolve,hu,hv,invoke,builtin,Builtin.max_,Builtin.max2],.v _⟩
omit [Inhabited (Tys P)] in
theorem Zg{N d:Nat}{s:AS}{R:Array Oper}{x y:atn}{a b:Int}{t:atp}{ts:Array atp}{pos:String}{after:Array Edge}(hx:Ev s x (.v (.int .i64 a)))(hy:Ev s y (.v (.int .i64 b)))(hN:aob d N=true) :
  Step P N R s ⟨some d,.call ⟨.builtin .min,#[x,y],ts⟩,t,pos,after,none⟩ ⟨some (.v (.int .i64 (if b<a then b else a))),[],aj x++aj y,[]⟩ :=
 dw rfl rfl hN fun s' ao C m ac w hr=>⟨.int .i64 (if b<a then b else a),by
  have h:=(hx.agree ao (fun _ h=>ar9.2 (.inl h))).rep hr;have h':=(hy.agree ao (fun _ h=>ar9.2 (.inr h))).rep hr;generalize hu:ac.eval x=u at h;generalize hv:ac.eval y=v at h';cases h;cases h'
  simp[execOp,resolve,hu,hv,invoke,builtin,Builtin.min_,Builtin.min2],.v _⟩
section
variable{s:AS}{R:Array Oper}{d:Nat}{t T:atp}{pos:String}{after:Array Edge}
theorem Y6{op:BinOp}{x y:atn}{vx vy:ato}{S:atp}{r:V1}(hx:Ev s x (.v vx))(hy:Ev s y (.v vy))(h:Ga P op S x y vx vy=some r)(hN:aob d N=true) :
  Step P N R s ⟨some d,.binOp op S x y T,t,pos,after,none⟩ ⟨some r.x,[],r.rt,r.rd⟩:=by
 unfold Ga at h;split at h
 ·split at h
  ·exact ae0 hx hy h hN
  ·cases h
 ·split at h
  ·split at h
   ·rename_i c;have hc:c = .nilIface:=by cases hy; rfl
    subst hc;split at h
    ·rename_i he;split at h
     ·rename_i ti bZ;split at h
      ·rename_i hk;split at h
       ·cases h;exact Tj hx (La he) (bW bZ) hk hN
       ·cases h;exact Tf hx (La he) (bW bZ) hk hN
       ·cases h
      ·cases h
     ·cases h
    ·cases h
   ·cases h
  ·split at h
   ·split at h
    ·have h9:=KM (P:=P) (R:=R) (S:=S) (T:=T) (t:=t) (pos:=pos) (after:=after) hx hy hN;rw[Ix]at h9;split at h
     ·rename_i hb;rw[hb]at h9;cases h;exact h9
     ·rename_i hb;rw[hb]at h9;cases h;exact h9
    ·have h9:=LV (P:=P) (R:=R) (S:=S) (T:=T) (t:=t) (pos:=pos) (after:=after) hx hy hN;rw[Ix]at h9;split at h
     ·rename_i hb;rw[hb]at h9;cases h;exact h9
     ·rename_i hb;rw[hb]at h9;cases h;exact h9
    ·cases h
   ·cases h
  ·split at h
   ·rename_i r' h1;split at h
    ·rename_i ho;cases h;exact P4 hx hy h1 (by rw[ho];exact .nil) hN
    ·cases h
   ·cases h
theorem IA{op:Op}{r:V1}(h:yb P s op=some r)(hN:aob d N=true):Step P N R s ⟨some d,op,t,pos,after,none⟩ ⟨some r.x,[],r.rt,r.rd⟩:=by
 unfold yb at h;split at h
 ·split at h
  ·rename_i hc;split at h
   ·split at h
    ·rename_i z hz;cases h
     exact FZ (bz:=z) (bO hc) (fun _=>bO hz) (fun e=>by cases e) hN
    ·cases h
   ·split at h
    ·rename_i z hz;cases h
     exact FZ (bx:=z) (bO hc) (fun e=>by cases e) (fun _=>bO hz) hN
    ·cases h
  ·cases h
 ·rename_i op S x T;split at h
  ·rename_i cS;have cS:op = .eql \/ op = .neq:=by cases op <;> first | exact .inl rfl | exact .inr rfl | cases cS
   split at h
   ·rename_i xv hx;split at h
    ·rename_i b hv;split at h
     ·rename_i ti bZ;split at h
      ·rename_i hk;have h9:=WQ (P:=P) (R:=R) (T:=T) (t:=t) (pos:=pos) (after:=after) cS (bO hx) hv (bW bZ) hk hN;rcases cS with rfl |rfl
       ·cases h;exact h9
       ·cases b <;> (cases h;exact h9)
      ·cases h
     ·cases h
    ·cases h
   ·cases h
  ·cases h
 ·rename_i T aO;split at h
  ·rename_i hx;split at h
   ·rename_i hy;exact Y6 (bO hx) (bO hy) h hN
   ·cases h
  ·rename_i hx;split at h
   ·rename_i hy;unfold Rj at h;split at h
    ·split at h
     ·rename_i he;have h9:=aiy (P:=P) (R:=R) (T:=T) (t:=t) (pos:=pos) (after:=after) (bO hx) (bO hy) he hN;split at h
      ·rename_i hb;rw[hb]at h9;cases h;exact h9
      ·rename_i hb;rw[hb]at h9;cases h;exact h9
     ·cases h
    ·cases h
   ·cases h
  ·rename_i hx;exact adu h (bO hx) hN
  ·rename_i hx;split at h
   ·rename_i hy;exact alt h (bO hx) (bO hy) hN
   ·cases h
  ·cases h
 ·split at h
  ·rename_i hx;rw[oL]at h;cases h;exact CI (bO hx) hN
  ·cases h
 ·split at h
  ·rename_i hx;split at h
   ·rename_i hS;split at h
    ·rename_i hT;split at h
     ·rename_i hk;rw[oL]at h;cases h;exact MV (bO hx) hN (bW hS) (bW hT) hk
     ·cases h
    ·cases h
   ·cases h
  ·cases h
 ·split at h
  ·rename_i i hi;split at h
   ·rename_i hx;split at h
    ·rename_i hs;obtain⟨ti,E,te,h1,h2,h3,h4⟩:=zR hs;split at h
     ·rename_i e he;cases h
      exact K6 (i:=Int.ofNat i) (bO hx) (bO hi) h1 h2 h3 h4 (aqs _) he hN
     ·cases h
    ·cases h
   ·rename_i hx;split at h
    ·rename_i hs;simp only[ar5,aoh]at hs;obtain⟨ti,E,te,h1,h2,h3,h4⟩:=zR hs.1;rw[r4]at h;cases h
     exact mL (i:=Int.ofNat i) (bO hx) (bO hi) h1 h2 h3 h4 (aqs _) (Int.ofNat_lt.2 hs.2) hN
    ·cases h
   ·rename_i hx;split at h
    ·rename_i hT;split at h
     ·rename_i hk;split at h
      ·rename_i hE;split at h
       ·rename_i hlt;rw[r4]at h;cases h
        exact ah7 (i:=Int.ofNat i) (bO hx) (bO hi) (bW hT) hk (bW hE) rfl (aqs _) (Int.ofNat_lt.2 (by rw[aoh]at hlt;exact hlt)) hN
       ·cases h
      ·cases h
     ·cases h
    ·cases h
   ·cases h
  ·cases h
 ·split at h
  ·rename_i hx;split at h
   ·rename_i hk;split at h
    ·rename_i hs;split at h
     ·rename_i e he;split at h
      ·rename_i ti hT;split at h
       ·rename_i bR;split at h
        ·rename_i v hv;cases h;cases ar4 hs;obtain⟨h1,rfl⟩:=Wc hv;exact dt (bO hx) hk he (bW hT) bR h1 hN
        ·cases h
       ·cases h
      ·cases h
     ·cases h
    ·cases h
   ·cases h
  ·rename_i hx;split at h
   ·rename_i ti hT;split at h
    ·rename_i h1;cases h;exact LN (bO hx) (bW hT) h1 hN
    ·cases h
   ·cases h
  ·cases h
 ·split at h
  ·rename_i i hi;split at h
   ·rename_i hx;split at h
    ·rename_i ti hT;split at h
     ·rename_i hk;split at h
      ·rename_i hb;rw[aoh]at hb;rw[r4]at h;cases h
       exact yt (i:=Int.ofNat i) (bO hx) (bO hi) (bW hT) hk (aqs _) (Int.ofNat_lt.2 hb) hN
      ·cases h
     ·cases h
    ·cases h
   ·cases h
  ·cases h
 ·split at h
  ·rename_i hx;split at h
   ·rename_i l hl;split at h
    ·rename_i hh Kp;split at h
     ·rename_i hs;simp only[ar5,an7]at hs;obtain⟨ti,E,te,h1,h2,h3,h4⟩:=zR hs.1.1;split at h
      ·rename_i hr;cases h;cases kR hr
       exact fC (bO hx) (vB hl) (vB Kp) h1 h2 h3 h4 hs.1.2 hs.2 hN
      ·cases h
     ·cases h
    ·cases h
   ·cases h
  ·rename_i hx;split at h
   ·rename_i hl;split at h
    ·rename_i hh;split at h
     ·rename_i ti hT;split at h
      ·rename_i E hk;split at h
       ·rename_i te hE;cases h;exact YE (bO hx) (vB hl) (vB hh) (bW hT) hk (bW hE) hN
       ·cases h
      ·cases h
     ·cases h
    ·cases h
   ·cases h
  ·rename_i hx;split at h
   ·rename_i l hl;split at h
    ·rename_i hh Kp;split at h
     ·rename_i hs;simp only[ar5,an7]at hs;obtain⟨ti,E,te,h1,h2,h3,h4⟩:=zR hs.1.1;rw[r4,r4]at h;cases h
      exact ua (bO hx) (vB hl) (vB Kp) h1 h2 h3 h4 hs.1.2 hs.2 hN
     ·cases h
    ·cases h
   ·cases h
  ·cases h
 ·rename_i args ts;split at h
  ·rename_i x hx;split at h
   ·rename_i T hT;have e1:args = #[x]:=by apply arq.1; simpa using hx
    have e2:ts=#[T]:=by apply arq.1;simpa using hT
    subst e1;subst e2
    split at h
    ·rename_i h1;split at h
     ·rename_i ti bZ;split at h
      ·rename_i hk;rw[r4]at h;cases h;exact PQ (bO h1) (bW bZ) hk hN
      ·cases h
     ·cases h
    ·rename_i h1;split at h
     ·rename_i h2;cases h;exact RH (bO h1) h2 hN
     ·cases h
    ·cases h
   ·cases h
  ·cases h
 ·rename_i args ts;split at h
  ·rename_i x y hx;split at h
   ·rename_i h1;split at h
    ·rename_i h2;have e1:args = #[x,y]:=by apply arq.1; simpa using hx
     subst e1;rw[oL]at h;cases h;exact Xa (bO h1) (bO h2) hN
    ·cases h
   ·cases h
  ·cases h
 ·rename_i args ts;split at h
  ·rename_i x y hx;split at h
   ·rename_i h1;split at h
    ·rename_i h2;have e1:args = #[x,y]:=by apply arq.1; simpa using hx
     subst e1;rw[oL]at h;cases h;exact Zg (bO h1) (bO h2) hN
    ·cases h
   ·cases h
  ·cases h
 ·split at h
  ·rename_i h1;split at h
   ·rename_i ho;cases h;exact CT h1 (by rw[ho];exact .nil) trivial hN
   ·cases h
  ·cases h
end
end Go.Lw
namespace Go.Lw
variable{P:atq}{N:Nat}
def tr(a b k:Nat):Nat:=match ao6 k a with
  |true=>b
  |false=>match ao6 k b with
    |true=>a
    |false=>k
theorem Y3(a b k:Nat):tr a b k=if k=a then b else if k=b then a else k:=by
 unfold tr;split
 ·rename_i h;rw[ate (ar4 h)]
 ·rename_i h;rw[atd (aor h)]
  split
  ·rename_i h;rw[ate (ar4 h)]
  ·rename_i h;rw[atd (aor h)]
theorem BS(a b k:Nat):tr a b (tr a b k)=k:=by
 simp only[Y3]
 by_cases h1:k=a
 ·subst h1
  by_cases h2:b=k
  ·simp[h2]
  ·simp[h2]
 ·by_cases h2:k=b
  ·subst h2;simp[h1]
  ·simp[h1,h2]
theorem Ot{σ:Nat->Nat}(hσ:∀k,σ (σ k)=k):∀H:Hp,ig σ (ig σ H)=H
 |[]=>rfl
 |(k,x)::l=>by
  simp only[ig,hσ,Ot hσ l];cases x with
  |none=>rfl
  |some x=>simp only[Blk.pm_pm hσ]
def tA:List (Nat×Nat)->List AV->List AV
  |[],xs=>xs
  |p::L,xs=>tA L (xs.map (AV.pm (tr p.1 p.2)))
def tH:List (Nat×Nat)->Hp->Hp
  |[],H=>H
  |p::L,H=>tH L (ig (tr p.1 p.2) H)
def rB:List (Nat×Nat)->AV->AV
  |[],r=>r
  |p::L,r=>(rB L r).pm (tr p.1 p.2)
def hB:List (Nat×Nat)->Hp->Hp
  |[],H=>H
  |p::L,H=>ig (tr p.1 p.2) (hB L H)
theorem Ol{f:FuncId}:∀{L:List (Nat×Nat)}{xs:List AV}{H H':Hp}{r:AV},Con P f (tA L xs) (tH L H) r H'->Con P f xs H (rB L r) (hB L H')
 |[],xs,H,H',r,h=>h
 |p::L,xs,H,H',r,h=>by
  have h1:=(Ol (L:=L) h).pm (BS p.1 p.2);rw[Ot (BS p.1 p.2),map_map]at h1;have e:(AV.pm (tr p.1 p.2) ∘ AV.pm (tr p.1 p.2))=id:=by funext x;exact AV.pm_pm (BS p.1 p.2) x
  rw[e,List.map_id]at h1;exact h1
def PH:Nat->List Nat->List (Nat×Nat)
  |_,[]=>[]
  |b,k::ks=>(k,b)::PH (b+1) ks
def lW(k:Nat):List Nat->Bool
  |[]=>false
  |x::l=>match ao6 k x with
    |true=>true
    |false=>lW k l
def uZ(s:AS):Nat->List Nat->List Nat->List Nat
  |0,_,acc=>acc
  |n+1,ks,acc=>match ks with
    |[]=>acc
    |k::ks=>match lW k acc with
      |true=>uZ s n ks acc
      |false=>match s.blk k with
        |some z=>uZ s n (z.nm++ks) (acc++[k])
        |none=>uZ s n ks acc
def sY(s:AS):List Nat->Hp
  |[]=>[]
  |k::ks=>match s.blk k with
    |some z=>(k,some z)::sY s ks
    |none=>sY s ks
theorem yT{s:AS}:∀{ks:List Nat}{k:Nat}{z:Blk},lk (sY s ks) k=some z->lk s.hp k=some z
 |[],k,z,h=>by cases h
 |k'::ks,k,z,h=>by
  unfold sY at h;split at h
  ·rename_i y hy;rw[aE]at h;split at h
   ·rename_i e;cases h;rw[e];exact hy
   ·exact yT h
  ·exact yT h
structure Ent(P:atq) where
  f:FuncId
  xs:List AV
  r:AV
  H':Hp
  con:Con P f xs [] r H'
structure FE(P:atq) where
  f:FuncId
  fn:Func
  c:Code
  rs:List ResultVar
  hf:P.funcs[f]?=some fn
  hb:fn.body=some c
  hn : (fn.name == "runtime.NumGoroutine") = false
  hrs:fn.results=rs.toArray
structure Env(P:atq) where
  orc:FuncId->Option (List AV->Option (Ent P))
  fe:FuncId->Option (FE P)
  mt:FuncId->Bool
def fR:ato->ato->Bool
  | .int k a,.int k' b=>ao6 (fq k) (fq k')&&aa .eql a b
  | .bool a,.bool b=>a==b
  | .nilIface,.nilIface=>true
  | .string a,.string b=>pL a b
  | .slice none 0 0,.slice none 0 0=>true
  | .func (.func f) ⟨[]⟩ ⟨[]⟩,.func (.func g) ⟨[]⟩ ⟨[]⟩=>ao6 f g
  | .nilFunc,.nilFunc=>true
  | .pointer none,.pointer none=>true
  | .iface T v,.iface T' v'=>ao6 T T'&&fR v v'
  |_,_=>false
theorem W8{a b:ByteArray}(h:pL a b=true):a=b:=by
 unfold pL at h;rw[FW]at h;have h:=eq_of_beq h;have e:∀c:ByteArray,c=⟨⟨c.data.toList⟩⟩:=fun c=>by cases c;rfl
 rw[e a,e b,h]
theorem DZ:∀(a b:ato),fR a b=true->a=b
 | .iface T v,b,h=>by
  cases b with
  |iface T' v' =>
   simp only[fR,ar5]at h;rw[ar4 h.1,DZ v v' h.2]
  |_=>simp[fR]at h
 | .int k a,b,h=>by
  cases b with
  |int k' b =>
   simp only[fR,ar5]at h;rw[p6 h.1,eq_of_beq (show(a==b)=true from h.2)]
  |_=>simp[fR]at h
 | .bool a,b,h=>by
  cases b with
  |bool b=>simp only[fR,beq_iff_eq]at h;rw[h]
  |_=>simp[fR]at h
 | .string a,b,h=>by
  cases b with
  |string b=>simp only[fR]at h;rw[W8 h]
  |_=>simp[fR]at h
 | .nilIface,b,h=>by
  cases b <;> simp[fR]at h
  rfl
 | .slice x n c,b,h=>by
  unfold fR at h;split at h <;> simp_all
 | .float ..,b,h=>by simp[fR]at h
 | .complex ..,b,h=>by simp[fR]at h
 | .pointer p,b,h=>by
  unfold fR at h;split at h <;> simp_all
 | .map _,b,h=>by simp[fR]at h
 | .chan _,b,h=>by simp[fR]at h
 | .func f x y,b,h=>by
  unfold fR at h;split at h <;> first |(simp_all;done) |(simp_all;exact ar4 h)
 | .nilFunc,b,h=>by
  unfold fR at h;split at h <;> simp_all
 | .agg _,b,h=>by simp[fR]at h
 | .tuple _,b,h=>by simp[fR]at h
mutual
def fD:AV->AV->Bool
  | .v a,y=>match y with
    | .v b=>fR a b
    | .lst _ es=>match es with
      |[]=>match a with
        | .slice _ 0 _=>true
        |_=>false
      |_=>false
    |_=>false
  | .lst sz es,y=>match y with
    | .lst sz' es'=>ao6 sz sz'&&uh es es'
    |_=>false
  | .agg cs,y=>match y with
    | .agg cs'=>tM cs cs'
    |_=>false
  | .tup cs,y=>match y with
    | .tup cs'=>wH cs cs'
    |_=>false
  |_,_=>false
def tM:List AV->List AV->Bool
  |[],y=>match y with
    |[]=>true
    |_=>false
  |x::l,y=>match y with
    |x'::l'=>x'.one&&fD x x'&&tM l l'
    |[]=>false
def wH:List AV->List AV->Bool
  |[],y=>match y with
    |[]=>true
    |_=>false
  |x::l,y=>match y with
    |x'::l'=>fD x x'&&wH l l'
    |[]=>false
def uh:List AV->List AV->Bool
  |[],y=>match y with
    |[]=>true
    |_=>false
  |x::l,y=>match y with
    |x'::l'=>iL x x'&&uh l l'
    |[]=>false
def iL:AV->AV->Bool
  | .agg cs,y=>match y with
    | .agg cs'=>tM cs cs'
    |_=>false
  | .v a,y=>match y with
    | .v b=>fR a b&&b.oneCell'
    | .lst _ es=>match es with
      |[]=>match a with
        | .slice _ 0 _=>true
        |_=>false
      |_=>false
    |_=>false
  | .lst sz es,y=>match y with
    | .lst sz' es'=>ao6 sz sz'&&uh es es'
    |_=>false
  |_,_=>false
end
theorem N6{a:ato}{y:AV}(h:fD (.v a) y=true):Sub (.v a) y:=by
 cases y with
 |v b=>simp only[fD]at h;rw[DZ _ _ h];exact .refl _
 |lst sz es =>
  cases es with
  |nil =>
   cases a with
   |slice x n c =>
    cases n with
    |zero=>exact .nil _ _ _
    |succ n=>simp[fD]at h
   |_=>simp[fD]at h
  |cons e es=>simp[fD]at h
 |_=>simp[fD]at h
mutual
theorem GC:∀(x y:AV),fD x y=true->Sub x y
 | .v a,y,h=>N6 h
 | .lst sz es,y,h=>by
  cases y with
  |lst sz' es' =>
   simp only[fD,ar5]at h;cases ar4 h.1;exact Sub.lst (xV es es' h.2).1 (xV es es' h.2).2
  |_=>simp[fD]at h
 | .agg cs,y,h=>by
  cases y with
  |agg cs' =>
   simp only[fD]at h;exact Sub.agg (Em cs cs' h).1 (Em cs cs' h).2
  |_=>simp[fD]at h
 | .tup cs,y,h=>by
  cases y with
  |tup cs' =>
   simp only[fD]at h;exact Sub.tup (Ra cs cs' h)
  |_=>simp[fD]at h
 | .iptr _,y,h=>by simp[fD]at h
 | .ms ..,y,h=>by simp[fD]at h
 | .ptr ..,y,h=>by simp[fD]at h
 | .eptr ..,y,h=>by simp[fD]at h
 | .fn ..,y,h=>by simp[fD]at h
 | .opt ..,y,h=>by simp[fD]at h
 | .yl ..,y,h=>by simp[fD]at h
 | .cl ..,y,h=>by simp[fD]at h
theorem Em:∀(l l':List AV),tM l l'=true->SubL l l'/\l'.all AV.one=true
 |[],[],h=>⟨.nil,rfl⟩
 |[],_::_,h=>by simp[tM]at h
 |_::_,[],h=>by simp[tM]at h
 |x::l,x'::l',h=>by
  simp only[tM,ar5]at h;obtain⟨h1,h2⟩:=Em l l' h.2;exact⟨.cons (GC x x' h.1.2) h1,by simp only[List.all_cons,h.1.1,h2,Bool.and_self]⟩
theorem Ra:∀(l l':List AV),wH l l'=true->SubL l l'
 |[],[],h=>.nil
 |[],_::_,h=>by simp[wH]at h
 |_::_,[],h=>by simp[wH]at h
 |x::l,x'::l',h=>by
  simp only[wH,ar5]at h;exact .cons (GC x x' h.1) (Ra l l' h.2)
theorem xV:∀(l l':List AV),uh l l'=true->l.length=l'.length/\∀(i:Nat)(e e':AV),l[i]?=some e->l'[i]?=some e'->jN e e'
 |[],[],h=>⟨rfl,fun i e e' h=>by simp at h⟩
 |[],_::_,h=>by simp[uh]at h
 |_::_,[],h=>by simp[uh]at h
 |x::l,x'::l',h=>by
  simp only[uh,ar5]at h;obtain⟨h1,h2⟩:=xV l l' h.2;refine⟨by simp[h1],?_⟩;intro i e e' he he';cases i with
  |zero=>simp at he he';subst he;subst he';exact abu x x' h.1
  |succ i=>exact h2 i e e' (by simpa using he) (by simpa using he')
theorem abu:∀(x y:AV),iL x y=true->jN x y
 | .v a,y,h=>by
  have one:∀{z:AV},z.cells=[z]->z.one=true->Sub (.v a) z->jN (.v a) z:=by
   intro z h1 h2 h3;refine⟨by rw[h1];rfl,?_⟩;intro j x y hx hy;rw[h1]at hy;cases j with
   |zero=>simp[AV.cells]at hx hy;subst hx;subst hy;exact⟨h2,h3⟩
   |succ j=>simp at hy
  cases y with
  |v b =>
   simp only[iL,ar5]at h;exact one rfl h.2 (by rw[DZ _ _ h.1];exact .refl _)
  |lst sz es =>
   refine one rfl rfl (N6 ?_);cases es with
   |nil=>unfold iL at h;unfold fD;exact h
   |cons=>simp[iL]at h
  |_=>simp[iL]at h
 | .lst sz es,y,h=>by
  cases y with
  |lst sz' es' =>
   simp only[iL,ar5]at h;cases ar4 h.1;refine⟨rfl,?_⟩;intro j x y hx hy;cases j with
   |zero =>
    simp[AV.cells]at hx hy;subst hx;subst hy
    exact⟨rfl,Sub.lst (xV es es' h.2).1 (xV es es' h.2).2⟩
   |succ j=>simp[AV.cells]at hy
  |_=>simp[iL]at h
 | .agg cs,y,h=>by
  cases y with
  |agg cs' =>
   simp only[iL]at h;obtain⟨h1,h2⟩:=Em cs cs' h;exact⟨h1.len,fun j x y hx hy=>⟨asd.1 h2 y (ar1 hy),h1.get j x y hx hy⟩⟩
  |_=>simp[iL]at h
 | .tup ..,y,h=>by simp[iL]at h
 | .iptr _,y,h=>by simp[iL]at h
 | .ms ..,y,h=>by simp[iL]at h
 | .ptr ..,y,h=>by simp[iL]at h
 | .eptr ..,y,h=>by simp[iL]at h
 | .fn ..,y,h=>by simp[iL]at h
 | .opt ..,y,h=>by simp[iL]at h
 | .yl ..,y,h=>by simp[iL]at h
 | .cl ..,y,h=>by simp[iL]at h
end
end Go.Lw
namespace Go.Lw
variable{P:atq}{N:Nat}{R:Array Oper}{s:AS}{pos:String}{after:Array Edge}
theorem YA{d n:Nat}{os:List atn}{es:List AV}{T E t:atp}{ti te:TI}{parts:Array (Nat×atn)}
  (hp:parts=(mN 0 os).toArray) (hx:EvL s os es) (hT:au P T=some ti) (hk:ti.k=.slice E) (hE:au P E=some te) (hz:te.zero.all Value.oneCell'=true)
  (bb:ao6 te.zero.length te.size=true) (gk:(es.all fun e=>ao6 e.cells.length te.size&&e.ok)=true) (hnm:AV.nms es=[])
  (hn:n=es.length) (hb:Nat.ble (n*te.size) 16777216=true) (hb':Nat.ble n 16777216=true) (hN:aob d N=true) :
  Step P N R s ⟨some d,.buildSlice T n parts,t,pos,after,none⟩ ⟨some (.ms d te.size 0 n),[(d,some (.row te.size es))],dk os,[]⟩ :=
 vO rfl rfl hN (by simp) fun s' ao hfr C m a w hr => by
  subst hp;rw[an7]at hb hb';have hx':=hx.agree ao (fun _ h=>h);obtain⟨c,h1,h2⟩:=GO (w:=w) hT hk hE hz bb (fun o x h=>h.rep hr) hx' gk hn oz;refine⟨.slice (some ⟨w.heap.size,0,none⟩) n n,c,E,w.drawn,?_,fun h=>h,?_,?_⟩
  ·have : ((mN 0 os).toArray.map fun p => (p.1, a.eval p.2)) = ((mN 0 os).map fun p => (p.1, a.eval p.2)).toArray := by simp
   simp only[execOp,att,this,h1,ats,atu]
  ·intro g S m' w' hg hS hm hw;subst hn
   have Jy:∀x∈gx es,x.nm=[]:=by
    have hh:=Ec hnm;clear h2 h1 hx' hx gk hb hb' hnm ao
    induction es with
    |nil=>intro x hx;cases hx
    |cons e es ih =>
     intro x hx;simp only[gx,ar9]at hx;rcases hx with hx |hx
     ·have := hh e (by simp)
      cases e <;> simp only[AV.cells,aqf]at hx <;> first
       |(subst hx;exact this)
       |(exact Ec this x hx)
     ·exact ih (fun e he=>hh e (by simp[he])) x hx
   have h3:dY g S dO c.toList (gx es):=h2.mono hg hS (fun x hx k b hk _=>by have:=hk.mem;rw[Jy x hx]at this;cases this);have hs:=IB gk;have cm:=AJ es hs;have a5:c.size=es.length*te.size:=by have:=h3.1;simp at this;omega
   have gj:∀(i j:Nat)(e x:AV),es[i]?=some e->e.cells[j]?=some x->∃u,c[i*te.size+j]?=some u/\x.one=true/\Rep g S dO u x:=by
    intro i j e x he hx;have hf:=Jb es hs i j e x he hx
    have hlt:i*te.size+j<(gx es).length:=by
     rcases asb (i*te.size+j) (gx es).length with h |h
     ·exact h
     ·rw[asg h]at hf;cases hf
    have zZ:i*te.size+j<c.size:=by omega
    refine⟨c[i*te.size+j],aro zZ,h3.2.1 _ x hf,h3.2.2 _ _ x (by simp[zZ]) hf⟩
   refine .row hw oz (by unfold aF;omega) (fun i e he=>hs e (ar1 he)) ?_ ?_
   ·intro i j e x he hx;obtain⟨u,_,h,_⟩:=gj i j e x he hx;exact h
   ·intro i j e u x he hx hu;obtain⟨u',h,_,h2⟩:=gj i j e x he hx;rw[hu]at h;cases h
    exact h2
  ·intro g S m' hm hS
   have:=Rep.ms (g:=g) (S:=S) (m:=m') (k:=d) (sz:=te.size) (off:=0) (len:=n) (cap:=n) hm (ar8 _) (by
    have hl:=AJ es (IB gk);have h9:=h2.1;have e:c.size=n*te.size:=by simp at h9;rw[hn];omega
    rw[aoj,<- e];exact hS)
   simpa using this
end Go.Lw
namespace Go.Lw
variable{P:atq}{N:Nat}
inductive OR where
  |ok (u:Out)
  |need (k:Nat)
  |no
inductive CR where
  |ok (H:Hp) (r:AV) (H':Hp)
  |need (k:Nat)
  |no
def rN:List AV->List AV->Bool
  |[],y=>match y with
    |[]=>true
    |_=>false
  |x::l,y=>match y with
    |x'::l'=>fD x x'&&rN l l'
    |[]=>false
theorem Nh:∀{l l':List AV},rN l l'=true->SubL l l'
 |[],[],h=>.nil
 |[],_::_,h=>by simp[rN]at h
 |_::_,[],h=>by simp[rN]at h
 |x::l,x'::l',h=>by
  simp only[rN,ar5]at h;exact .cons (GC x x' h.1) (Nh h.2)
def mx:Nat->List Nat->Nat
  |m,[]=>m
  |m,k::l=>match aob m k&&aob k 1000 with
    |true=>mx k l
    |false=>mx m l
def E3(s:AS):Nat->Nat->Nat
  |0,k=>k
  |n+1,k=>match s.freshB k with
    |true=>k
    |false=>E3 s n (k+1)
def nxt(s:AS)(av:List Nat):Nat:=E3 s 100 (mx (mx 299 (s.hp.map (·.1))) av+1)
mutual
theorem AV.pm_id(σ:Nat->Nat):∀x:AV,x.nm=[]->x.pm σ=x
 | .ms k sz off len,h=>by simp[AV.nm]at h
 | .ptr k off,h=>by simp[AV.nm]at h
 | .eptr k sz i off,h=>by simp[AV.nm]at h
 | .yl k,h=>by simp[AV.nm]at h
 | .agg cs,h=>by simp only[AV.pm];rw[AV.pms_id σ cs (by simpa only[AV.nm]using h)]
 | .tup cs,h=>by simp only[AV.pm];rw[AV.pms_id σ cs (by simpa only[AV.nm]using h)]
 | .fn f cs,h=>by simp only[AV.pm];rw[AV.pms_id σ cs (by simpa only[AV.nm]using h)]
 | .opt b x,h=>by simp only[AV.pm];rw[AV.pm_id σ x (by simpa only[AV.nm]using h)]
 | .v x,h=>rfl
 | .lst sz l,h=>rfl
 | .iptr l,h=>rfl
 | .cl f cs ds,h=>rfl
theorem AV.pms_id(σ:Nat->Nat):∀l:List AV,AV.nms l=[]->AV.pms σ l=l
 |[],h=>rfl
 |x::l,h=>by
  simp only[AV.nms,List.append_eq_nil_iff]at h;simp only[AV.pms];rw[AV.pm_id σ x h.1,AV.pms_id σ l h.2]
end
theorem ZT{f:FuncId}{xs:List AV}{r:AV}{H':Hp}(h:Con P f xs [] r H')(hx:AV.nms xs=[])(k d:Nat):Con P f xs [] (r.pm (tr k d)) (ig (tr k d) H'):=by
 have h1:=h.pm (BS k d);rw[<- AV.pms_eq,AV.pms_id _ xs hx]at h1;exact h1
abbrev iF:=List Nat->FuncId->List AV->Hp->Option (AV×Hp)
def iF.Ok(P:atq)(F:iF):Prop:=∀av f xs H r H',F av f xs H=some (r,H')->Con P f xs H r H'
def QQ(s:AS):List Nat->Option Nat
  |[]=>none
  |k::ks=>match s.blk k with
    |some (.row _ _)=>some k
    |_=>QQ s ks
def H4:bN->List Nat
  |[]=>[]
  |(_,x)::l=>match x with
    |some y=>y.nm++H4 l
    |none=>H4 l
def Cp(F:iF)(s:AS)(av:List Nat)(f:FuncId)(xs:List AV):CR :=
  match sY s (uZ s 300 (AV.nms xs) [])with
  |H=>match F (s.hp.map (·.1)++(H4 s.sl++av)) f xs H with
    |some (r,H')=>.ok H r H'
    |none=>.no
def yJ(E:Env P)(F:iF)(s:AS)(av:List Nat)(f:FuncId)(xs:List AV):CR:=match E.mt f with
  |true=>Cp F s av f xs
  |false=>match QQ s (AV.nms xs)with
    |some k=>.need k
    |none=>Cp F s av f xs
def tF(E:Env P)(F:iF)(s:AS)(av:List Nat)(f:FuncId)(xs:List AV):CR:=match E.orc f with
  |some g=>match AV.nms xs with
    |k::_=>.need k
    |[]=>match g xs with
      |some e=>match ao6 e.f f&&rN xs e.xs with
        |true=>match e.H' with
          |(k,some z)::l=>.ok [] (e.r.pm (tr k (nxt s av))) (ig (tr k (nxt s av)) e.H')
          |_=>.ok [] e.r e.H'
        |false=>yJ E F s av f xs
      |none=>yJ E F s av f xs
  |none=>yJ E F s av f xs
theorem Kq{F:iF}(hF:F.Ok P){s:AS}{av:List Nat}{f:FuncId}{xs:List AV}{H H':Hp}{r:AV}(h:Cp F s av f xs=.ok H r H'):Con P f xs H r H'/\∀k z,lk H k=some z->s.blk k=some z:=by
 unfold Cp at h;simp only at h;split at h
 ·rename_i h1;cases h;exact⟨hF _ _ _ _ _ _ h1,fun k z hz=>yT hz⟩
 ·cases h
theorem Jg{E:Env P}{F:iF}(hF:F.Ok P){s:AS}{av:List Nat}{f:FuncId}{xs:List AV}{H H':Hp}{r:AV}(h:yJ E F s av f xs=.ok H r H'):Con P f xs H r H'/\∀k z,lk H k=some z->s.blk k=some z:=by
 unfold yJ at h;split at h
 ·exact Kq hF h
 ·split at h
  ·cases h
  ·exact Kq hF h
theorem zl{E:Env P}{F:iF}(hF:F.Ok P){s:AS}{av:List Nat}{f:FuncId}{xs:List AV}{H H':Hp}{r:AV}(h:tF E F s av f xs=.ok H r H'):Con P f xs H r H'/\∀k z,lk H k=some z->s.blk k=some z:=by
 unfold tF at h;split at h
 ·split at h
  ·cases h
  ·rename_i hn;split at h
   ·rename_i e he;split at h
    ·rename_i hc;simp only[ar5]at hc;have hf:=ar4 hc.1;subst hf;have h9:=Con.sA (Nh hc.2) e.con;split at h
     ·rename_i k z l _;obtain⟨rfl,rfl,rfl⟩:=CR.ok.inj h;exact⟨ZT h9 hn _ _,fun k z hz=>by cases hz⟩
     ·obtain⟨rfl,rfl,rfl⟩:=CR.ok.inj h;exact⟨h9,fun k z hz=>by cases hz⟩
    ·exact Jg hF h
   ·exact Jg hF h
 ·exact Jg hF h
theorem aee{s:AS}{R:Array Oper}{d q sz cap0:Nat}{a0:Option Addr}{xs:List AV}{x y:atn}{T E t:atp}{ti te:TI}{pos:String}{after:Array Edge}
  (hx:Ev s x (.v (.slice a0 0 0))) (hy:Ev s y (.lst sz xs)) (hT:au P T=some ti) (jG:ti.k=.slice E) (hE:au P E=some te)
  (a5:te.size=sz) (bb:(ao6 te.zero.length te.size&&aob 0 te.size&&aob 0 te.bytes)=true) (hb:(0+xs.length)*te.bytes<=140737488355328) (jg:ao6 d q=false)
  (hN:aob d N=true) :
  Step P N R s ⟨some d,.call ⟨.builtin .append,#[x,y],#[T,T]⟩,t,pos,after,none⟩
   ⟨some (.ms d sz 0 (0+xs.length)),[(d,some (.row sz ([]++xs))),(q,none)],aj x++aj y,[]⟩:=by
 refine⟨fun s' ao bP C m a w Q next hC hr hnext=>?_⟩
 have hq:s'.Fresh q:=by
  rcases bP q (by simp)with h |h
  ·cases h
  ·exact h
 have hd:s'.Fresh d:=by
  rcases bP d (by simp)with h |h
  ·cases h
  ·exact h
 have JY:=aor jg;have hx':=hx.agree ao (fun _ h=>ar9.2 (.inl h));have hy':=hy.agree ao (fun _ h=>ar9.2 (.inr h))
 let s2:AS:=⟨s'.sl,(q,some (.row sz []))::s'.hp⟩
 have evs:∀{o:atn}{z:AV},Ev s' o z->Ev s2 o z:=fun h=>by
  cases h with
  |tmp h=>exact .tmp h
  |opt h hb=>exact .opt h hb
  |const c=>exact .const c
  |func f=>exact .func f
 have st:=Qf (P:=P) (N:=N) (R:=R) (s:=s2) (d:=d) (k:=q) (t:=t) (pos:=pos) (after:=after) (es:=[]) (evs hx') (fun g S m v h=>Sub.nM a0 q sz g S m v h) (by simp[s2,AS.blk,aE]) rfl (evs hy') hT jG hE a5 bb hb jg hN;refine st.run s2 ⟨fun _ _=>rfl,fun _ _=>rfl⟩ ?_ C _ a w Q next hC (hr.virt sz hq) (fun m' a' w' hr'=>hnext m' a' w' ?_)
 ·intro k hk;simp only[atb,map_nil,asj,asf,or_false]at hk;rcases hk with rfl |rfl
  ·exact .inr (Fresh.row hd JY (fun h=>h))
  ·exact .inl (by simp)
 ·refine RelM.congr ?_ ?_ hr'
  ·intro t;rfl
  ·intro k;simp only[AS.app,AS.blk,s2,cons_append,nil_append,aE];split
   ·rfl
   ·split <;> rfl
mutual
def kI:AV->AV->Bool
  | .v a,y=>match y with
    | .v b=>fR a b
    |_=>false
  | .lst sz es,y=>match y with
    | .lst sz' es'=>ao6 sz sz'&&mT es es'
    |_=>false
  | .agg cs,y=>match y with
    | .agg cs'=>mT cs cs'
    |_=>false
  | .tup cs,y=>match y with
    | .tup cs'=>mT cs cs'
    |_=>false
  | .iptr cs,y=>match y with
    | .iptr cs'=>mT cs cs'
    |_=>false
  | .ms k sz off len,y=>match y with
    | .ms k' sz' off' len'=>ao6 k k'&&(ao6 sz sz'&&(ao6 off off'&&ao6 len len'))
    |_=>false
  | .ptr k off,y=>match y with
    | .ptr k' off'=>ao6 k k'&&ao6 off off'
    |_=>false
  | .eptr k sz i off,y=>match y with
    | .eptr k' sz' i' off'=>ao6 k k'&&(ao6 sz sz'&&(ao6 i i'&&ao6 off off'))
    |_=>false
  | .fn f cs,y=>match y with
    | .fn f' cs'=>ao6 f f'&&mT cs cs'
    |_=>false
  | .opt _ _,_=>false
  | .yl _,_=>false
  | .cl _ _ _,_=>false
def mT:List AV->List AV->Bool
  |[],y=>match y with
    |[]=>true
    |_=>false
  |x::l,y=>match y with
    |x'::l'=>kI x x'&&mT l l'
    |[]=>false
end
mutual
theorem Vc:∀(x y:AV),kI x y=true->x=y
 | .v a,y,h=>by cases y <;> simp[kI]at h;rw[DZ _ _ h]
 | .lst sz es,y,h=>by
  cases y <;> simp only[kI,ar5,aq9]at h
  rw[ar4 h.1,rJ _ _ h.2]
 | .agg cs,y,h=>by cases y <;> simp only[kI,aq9]at h;rw[rJ _ _ h]
 | .tup cs,y,h=>by cases y <;> simp only[kI,aq9]at h;rw[rJ _ _ h]
 | .iptr cs,y,h=>by cases y <;> simp only[kI,aq9]at h;rw[rJ _ _ h]
 | .ms k sz off len,y,h=>by
  cases y <;> simp only[kI,ar5,aq9]at h
  rw[ar4 h.1,ar4 h.2.1,ar4 h.2.2.1,ar4 h.2.2.2]
 | .ptr k off,y,h=>by
  cases y <;> simp only[kI,ar5,aq9]at h
  rw[ar4 h.1,ar4 h.2]
 | .eptr k sz i off,y,h=>by
  cases y <;> simp only[kI,ar5,aq9]at h
  rw[ar4 h.1,ar4 h.2.1,ar4 h.2.2.1,ar4 h.2.2.2]
 | .fn f cs,y,h=>by
  cases y <;> simp only[kI,ar5,aq9]at h
  rw[ar4 h.1,rJ _ _ h.2]
 | .opt ..,y,h=>by simp[kI]at h
 | .yl ..,y,h=>by simp[kI]at h
 | .cl ..,y,h=>by simp[kI]at h
theorem rJ:∀(l l':List AV),mT l l'=true->l=l'
 |[],[],h=>rfl
 |[],_::_,h=>by simp[mT]at h
 |_::_,[],h=>by simp[mT]at h
 |x::l,x'::l',h=>by
  simp only[mT,ar5]at h;rw[Vc x x' h.1,rJ l l' h.2]
end
def Gt:Blk->Blk->Bool
  | .box cs,.box cs'=>mT cs cs'
  | .row sz es,.row sz' es'=>ao6 sz sz'&&mT es es'
  |_,_=>false
theorem adh{x y:Blk}(h:Gt x y=true):x=y:=by
 cases x <;> cases y <;> simp only[Gt,aq9]at h
 ·rw[rJ _ _ h]
 ·simp only[ar5]at h;rw[ar4 h.1,rJ _ _ h.2]
theorem pR{k:Nat}:∀{l:List Nat},lW k l=true↔k∈l
 |[]=>by simp[lW]
 |x::l=>by
  unfold lW;split
  ·rename_i h;simp[ar4 h]
  ·rename_i h;rw[pR (l:=l)];simp[aor h]
def iw(H:Hp):List Nat->Hp->Hp
  |_,[]=>[]
  |seen,(k,x)::l=>match lW k seen with
    |true=>iw H seen l
    |false=>match x with
      |some z=>match lk H k with
        |some y=>match Gt y z with
          |true=>iw H (k::seen) l
          |false=>(k,some z)::iw H (k::seen) l
        |none=>(k,some z)::iw H (k::seen) l
      |none=>(k,none)::iw H (k::seen) l
theorem Fu{H R:Hp}(hR:∀t y,lk H t=some y->lk R t=some y):∀{l:Hp}{seen:List Nat}{t:Nat},t∉seen->lk (iw H seen l++R) t=if t∈l.map (·.1)then lk l t else lk R t
 |[],seen,t,h=>by simp[iw]
 |(k,x)::l,seen,t,h=>by
  have rest:t≠k->lk (iw H (k::seen) l++R) t=if t∈((k,x)::l).map (·.1)then lk ((k,x)::l) t else lk R t:=by
   intro aO;rw[Fu hR (fun hh=>by rcases asj.1 hh with e |e;exact aO e;exact h e)];simp only[atb,asj,aO,false_or];rw[aE,atd aO]
  have head:lk ((k,x)::(iw H (k::seen) l++R)) t=if t∈((k,x)::l).map (·.1)then lk ((k,x)::l) t else lk R t:=by
   rw[aE]
   by_cases e:t=k
   ·rw[ate e,aE,ate e];simp[e]
   ·rw[atd e,rest e]
  unfold iw;split
  ·rename_i hm;have aO:t ≠ k:=fun e=>h (by rw [e]; exact pR.1 hm)
   rw[Fu hR h];simp only[atb,asj,aO,false_or];rw[aE,atd aO]
  ·split
   ·rename_i z;split
    ·rename_i y hy;split
     ·rename_i he
      by_cases e:t=k
      ·rw[chg_none (by rw[e];exact as2 ..),e,hR k y hy,adh he];simp[aE]
      ·exact rest e
     ·exact head
    ·exact head
   ·exact head
where
 chg_none {H R:Hp}:∀{l:Hp}{seen:List Nat}{t:Nat},t∈seen->lk (iw H seen l++R) t=lk R t
  |[],seen,t,h=>rfl
  |(k,x)::l,seen,t,h=>by
   unfold iw;split
   ·exact chg_none h
   ·rename_i hm;have aO:t ≠ k:=fun e=>by rw [e] at h; rw [pR.2 h] at hm; cases hm
    have ih:=chg_none (H:=H) (R:=R) (l:=l) (ass k h);split
    ·split
     ·split
      ·exact ih
      ·show lk (_::(_++R)) t=_;rw[aE,atd aO];exact ih
     ·show lk (_::(_++R)) t=_;rw[aE,atd aO];exact ih
    ·show lk (_::(_++R)) t=_;rw[aE,atd aO];exact ih
theorem IZ{H:Hp}:∀{l:Hp}{seen:List Nat}{k:Nat},k∈l.map (·.1)->k∉seen->k∈(iw H seen l).map (·.1)\/∃y,lk H k=some y
 |[],seen,k,h,_=>by simp at h
 |(k',x)::l,seen,k,h,hs=>by
  unfold iw
  by_cases e:k=k'
  ·subst e
   have hm:lW k seen=false:=by
    cases hq:lW k seen with
    |true=>exact atk (pR.1 hq) hs
    |false=>rfl
   simp only[hm];split
   ·split
    ·rename_i y hy;split
     ·exact .inr ⟨y,hy⟩
     ·exact .inl (by simp)
    ·exact .inl (by simp)
   ·exact .inl (by simp)
  ·have h' : k ∈ l.map (·.1) := by simpa [e] using h
   have hs':k∉k'::seen:=fun hh=>by rcases asj.1 hh with e' |e';exact e e';exact hs e'
   have ih1:=IZ (H:=H) h' hs;have ih2:=IZ (H:=H) h' hs';split
   ·exact ih1
   ·split
    ·split
     ·split
      ·exact ih2
      ·rcases ih2 with h |h
       ·exact .inl (ass _ h)
       ·exact .inr h
     ·rcases ih2 with h |h
      ·exact .inl (ass _ h)
      ·exact .inr h
    ·rcases ih2 with h |h
     ·exact .inl (ass _ h)
     ·exact .inr h
theorem zo{R:Array Oper}{s:AS}{o:Oper}{x:Option AV}{H U:Hp}{rt:List Nat}(hH:∀k z,lk H k=some z->s.blk k=some z)(h:Step P N R s o ⟨x,U,rt,H.map (·.1)⟩) :
  Step P N R s o ⟨x,iw H [] U,rt,H.map (·.1)⟩:=by
 refine⟨fun s' ao bP C m a w Q next hC hr hnext=>?_⟩;have hH':∀k z,lk H k=some z->lk s'.hp k=some z:=fun k z hz=>(ao.2 k (lX hz)).trans (hH k z hz)
 refine h.run s' ao (fun k hk=>?_) C m a w Q next hC hr (fun m' a' w' hr'=>hnext m' a' w' ?_)
 ·rcases IZ (H := H) hk (seen := []) (by simp) with h1 | ⟨y, hy⟩
  ·exact bP k h1
  ·exact .inl (lX hy)
 ·refine RelM.congr (s:=s'.app o.dst ⟨x,U,rt,H.map (·.1)⟩) (fun t=>rfl) (fun k=>?_) hr';simp only[AS.blk,AS.app];rw[Fu hH' (by simp),mj]
variable[Inhabited (Tys P)]
def FO(P:atq)[Inhabited (Tys P)](s:AS)(d:Nat)(x y:atn)(T:atp):OR:=match dF s y with
  |some (.lst sz xs)=>match cF P T with
    |some ti=>match ti.k with
      | .slice E=>match cF P E with
        |some te=>match ao6 te.size sz&&(ao6 te.zero.length te.size&&aob 0 te.size&&aob 0 te.bytes)with
          |true=>match dF s x with
            |some (.ms k sz' off len)=>match s.blk k with
              |some (.row sz2 es)=>match ao6 sz' sz&&ao6 off 0&&ao6 sz2 sz&&ao6 len es.length&&Nat.ble ((len+xs.length)*te.bytes) 140737488355328 with
                |true=>match ao6 d k with
                  |true=>.no
                  |false=>match jP (es++xs)with
                    |some l=>wN (len+xs.length) fun n=>.ok ⟨some (.ms d sz 0 n),[(d,some (.row sz l)),(k,none)],aj x++aj y,[k]⟩
                    |none=>.no
                |false=>.no
              |_=>.no
            |some (.v (.slice a0 0 0))=>match Nat.ble ((0+xs.length)*te.bytes) 140737488355328 with
              |true=>match ao6 d 299 with
                |true=>.no
                |false=>match jP ([]++xs)with
                  |some l=>wN (0+xs.length) fun n=>.ok ⟨some (.ms d sz 0 n),[(d,some (.row sz l)),(299,none)],aj x++aj y,[]⟩
                  |none=>.no
              |false=>.no
            |_=>.no
          |false=>.no
        |none=>.no
      |_=>.no
    |none=>.no
  |some (.ms k _ _ _)=>.need k
  |_=>.no
theorem ahx{s:AS}{R:Array Oper}{d:Nat}{x y:atn}{T t:atp}{u:Out}{pos:String}{after:Array Edge}(h:FO P s d x y T=.ok u)(hN:aob d N=true) :
  Step P N R s ⟨some d,.call ⟨.builtin .append,#[x,y],#[T,T]⟩,t,pos,after,none⟩ u:=by
 unfold FO at h;split at h
 ·rename_i sz xs hy;split at h
  ·rename_i ti hT;split at h
   ·rename_i E hk;split at h
    ·rename_i te hE;split at h
     ·rename_i hc;simp only [ar5] at hc;have a5:=ar4 hc.1;have bb:(ao6 te.zero.length te.size && aob 0 te.size && aob 0 te.bytes) = true:=by simp only [ar5]; exact hc.2
      split at h
      ·rename_i k sz' off len hx;split at h
       ·rename_i sz2 es hb;split at h
        ·rename_i hg;simp only[ar5,an7]at hg;obtain⟨⟨⟨⟨g1,g2⟩,g3⟩,g4⟩,g5⟩:=hg;cases ar4 g1;cases ar4 g2;cases ar4 g3;split at h
         ·cases h
         ·rename_i jg;split at h
          ·rename_i l hl;cases kR hl;rw[r4]at h;cases h
           exact eQ (bO hx) hb (ar4 g4) (bO hy) (bW hT) hk (bW hE) a5 bb g5 jg hN
          ·cases h
        ·cases h
       ·cases h
      ·rename_i a0 hx;split at h
       ·rename_i g5;rw[an7]at g5;split at h
        ·cases h
        ·rename_i jg;split at h
         ·rename_i l hl;cases kR hl;rw[r4]at h;cases h
          exact aee (cap0:=0) (bO hx) (bO hy) (bW hT) hk (bW hE) a5 bb g5 jg hN
         ·cases h
       ·cases h
      ·cases h
     ·cases h
    ·cases h
   ·cases h
  ·cases h
 ·cases h
 ·cases h
def G2(P:atq)[Inhabited (Tys P)](s:AS)(T:atp)(x y:atn):OR:=match dF s x with
  |some (.eptr k sz i off)=>match dF s y with
    |some v=>match v.nm with
      |k'::_=>.need k'
      |[]=>match s.blk k with
        |some (.row sz' es)=>match es[i]? with
          |some e=>match cF P T with
            |some ti=>match ao6 sz sz'&&v.ok&&ao6 v.cells.length ti.size&&Nat.ble (off+ti.size) e.cells.length with
              |true=>match e with
                | .agg cs=>match jP (over cs off v.cells)with
                  |some l=>match jP (es.set i (.agg l))with
                    |some es'=>.ok ⟨none,[(k,some (.row sz es'))],aj x++aj y,[k]⟩
                    |none=>.no
                  |none=>.no
                |e=>match ao6 off 0&&ao6 v.cells.length 1 with
                  |true=>match jP (es.set i v)with
                    |some es'=>.ok ⟨none,[(k,some (.row sz es'))],aj x++aj y,[k]⟩
                    |none=>.no
                  |false=>.no
              |false=>.no
            |none=>.no
          |none=>.no
        |_=>.no
    |none=>.no
  |_=>.no
theorem abt{e:AV}(h:∀cs,e≠.agg cs):e.cells=[e]:=by
 cases e <;> first |rfl |exact atk rfl (h _)
theorem ac3{s:AS}{R:Array Oper}{x y:atn}{T t:atp}{u:Out}{pos:String}{after:Array Edge}(h:G2 P s T x y=.ok u) :
  Step P N R s ⟨none,.store T x y,t,pos,after,none⟩ u:=by
 unfold G2 at h;split at h
 ·rename_i k sz i off hx;split at h
  ·rename_i v hy;split at h
   ·cases h
   ·rename_i hnm;split at h
    ·rename_i sz' es hb;split at h
     ·rename_i e he;split at h
      ·rename_i ti hT;split at h
       ·rename_i hc;simp only[ar5]at hc;obtain⟨⟨⟨c1,c2⟩,c3⟩,c4⟩:=hc;cases ar4 c1;split at h
        ·rename_i cs;split at h
         ·rename_i l hl;split at h
          ·rename_i es' gk;cases h;cases kR hl;cases kR gk;exact El (bO hx) hb he (bO hy) c2 hnm (bW hT) c3 c4 rfl
          ·cases h
         ·cases h
        ·rename_i aO;split at h
         ·rename_i hg;simp only[ar5]at hg;split at h
          ·rename_i es' gk;cases h;cases kR gk;cases ar4 hg.1;refine El (bO hx) hb he (bO hy) c2 hnm (bW hT) c3 c4 ?_;rw[abt aO];have:=ar4 hg.2;simp[over,this]
          ·cases h
         ·cases h
       ·cases h
      ·cases h
     ·cases h
    ·cases h
  ·cases h
 ·cases h
def Hw(P:atq)[Inhabited (Tys P)](d:Nat)(T:atp)(n:Int)(rt:List Nat):OR:=match cF P T with
  |some ti=>match ti.k with
    | .slice E=>match cF P E with
      |some te=>match te.zero.all Value.oneCell'&&(ao6 te.zero.length te.size&&aob 0 te.size&&aob 0 te.bytes&&(te.ag||ao6 te.size 1))with
        |true=>match n with
          | .ofNat n=>match Nat.ble (n*te.bytes) 281474976710656 with
            |true=>match jP (apf n (lJ te.ag (te.zero.map .v)))with
              |some l=>.ok ⟨some (.ms d te.size 0 n),[(d,some (.row te.size l))],rt,[]⟩
              |none=>.no
            |false=>.no
          | .negSucc _=>.no
        |false=>.no
      |none=>.no
    |_=>.no
  |none=>.no
theorem al2{s:AS}{R:Array Oper}{d:Nat}{x:atn}{T t:atp}{n:Int}{u:Out}{pos:String}{after:Array Edge}(hx:Ev s x (.v (.int .i64 n)))(h:Hw P d T n (aj x)=.ok u)(hN:aob d N=true) :
  Step P N R s ⟨some d,.makeSlice T x x,t,pos,after,none⟩ u:=by
 unfold Hw at h;split at h
 ·rename_i ti hT;split at h
  ·rename_i E hk;split at h
   ·rename_i te hE;split at h
    ·rename_i hc;rw[ar5]at hc;split at h
     ·rename_i n;split at h
      ·rename_i hb;rw[an7]at hb;split at h
       ·rename_i l hl;cases h;cases kR hl;exact it (n:=Int.ofNat n) hx (bW hT) hk (bW hE) hc.1 hc.2 (aqs _) (by simp only[aqk];omega) hN
       ·cases h
      ·cases h
     ·cases h
    ·cases h
   ·cases h
  ·cases h
 ·cases h
theorem ait{P:atq}{N:Nat}{s:AS}{R:Array Oper}{d f:Nat}{g:atn}{args:Array atn}{ts:Array atp}{xs:List AV}{H H':Hp}{r:AV}{t:atp}{pos:String}{after:Array Edge}
  (hg:Ev s g (.v (.func (.func f) #[] #[]))) (dh:Con P f xs H r H') (ha:EvL s args.toList xs) (hH:∀k z,lk H k=some z->s.blk k=some z) (bm:g9 s H H' r=true) (hN:aob d N=true) :
  Step P N R s ⟨some d,.call ⟨.value g,args,ts⟩,t,pos,after,none⟩ ⟨some r,H'++cU H,aj g++dk args.toList,H.map (·.1)⟩ :=
 xQ rfl (fun d' h => by cases h; exact ⟨hN, rfl⟩) dh hH bm fun s' ao C m a w hr => by
  have kv:iC s s' ⟨none,[],aj g++dk args.toList,[]⟩:=⟨ao,fun k hk=>by cases hk⟩
  have ha':=ha.agree kv (fun _ h=>ar9.2 (.inr h));have jh:=(hg.agree kv (fun _ h=>ar9.2 (.inl h))).rep hr;generalize hv:a.eval g=u at jh;cases jh;refine⟨args.map a.eval,SB (caps:=#[]) rfl hv dh.ok (by simp),?_,?_⟩
  ·have:=ha'.length;simpa using this
  ·intro j v x hv hx;exact ha'.rep hr j v x (by simpa using hv) hx
def Iq:atn->atn->Bool
  | .tmp a,.tmp b=>ao6 a b
  | .const (.int k a),.const (.int k' b)=>ao6 (fq k) (fq k')&&aa .eql a b
  |_,_=>false
theorem Wd{x y:atn}(h:Iq x y=true):y=x:=by
 unfold Iq at h;split at h
 ·rw[ar4 h]
 ·rename_i k a k' b;simp only[ar5]at h;rw[p6 h.1,eq_of_beq (show(a==b)=true from h.2)]
 ·cases h
def F6(P:atq)[Inhabited (Tys P)](s:AS)(d:Nat)(T n:Nat)(parts:Array (Nat×atn)):Option Out:=match cF P T with
  |some ti=>match ti.k with
    | .slice E=>match cF P E with
      |some te=>match te.k with
        | .slice _=>match sU s (parts.toList.map (·.2))with
          |some es=>match xW 0 parts.toList&&te.zero.all Value.oneCell'&&ao6 te.zero.length te.size&&(es.all fun e=>ao6 e.cells.length te.size&&e.ok) &&
              DN (AV.nms es)&&ao6 n es.length&&Nat.ble (n*te.size) 16777216&&Nat.ble n 16777216 with
            |true=>some ⟨some (.ms d te.size 0 n),[(d,some (.row te.size es))],dk (parts.toList.map (·.2)),[]⟩
            |false=>none
          |none=>none
        |_=>none
      |none=>none
    |_=>none
  |none=>none
theorem aay{P:atq}[Inhabited (Tys P)]{N:Nat}{s:AS}{R:Array Oper}{d T n:Nat}{parts:Array (Nat×atn)}{u:Out}{t:atp}{pos:String}{after:Array Edge}(h:F6 P s d T n parts=some u)(hN:aob d N=true) :
  Step P N R s ⟨some d,.buildSlice T n parts,t,pos,after,none⟩ u:=by
 unfold F6 at h;split at h
 ·rename_i ti bZ;split at h
  ·rename_i E hk;split at h
   ·rename_i te Ac;split at h
    ·split at h
     ·rename_i es h1;split at h
      ·rename_i hc;cases h;simp only[ar5]at hc;obtain⟨⟨⟨⟨⟨⟨⟨c1,c2⟩,c3⟩,c4⟩,c5⟩,c6⟩,c7⟩,c8⟩:=hc;exact YA (by rw[<- HS c1]) (uf h1) (bW bZ) hk (bW Ac) c2 c3 (by simpa only[ar5]using c4) (No c5) (ar4 c6) c7 c8 hN
      ·cases h
     ·cases h
    ·cases h
   ·cases h
  ·cases h
 ·cases h
def CQ(E:Env P)(F:iF)(av:List Nat)(s:AS)(d:Nat)(op:Op):OR:=match op with
  | .call c=>match c with
    |⟨.value g,args,ts⟩=>match sU s args.toList with
      |some xs=>match g with
        | .func f=>match tF E F s av f xs with
          | .ok H r H'=>match g9 s H H' r with
            |true=>.ok ⟨some r,iw H [] (H'++cU H),dk args.toList,H.map (·.1)⟩
            |false=>.no
          | .need k=>.need k
          | .no=>.no
        |g=>match dF s g with
          |some (.fn f caps)=>match tF E F s av f (xs++caps)with
            | .ok H r H'=>match g9 s H H' r with
              |true=>.ok ⟨some r,iw H [] (H'++cU H),aj g++dk args.toList,H.map (·.1)⟩
              |false=>.no
            | .need k=>.need k
            | .no=>.no
          |some (.v (.func (.func f) ⟨[]⟩ ⟨[]⟩))=>match tF E F s av f xs with
            | .ok H r H'=>match g9 s H H' r with
              |true=>.ok ⟨some r,iw H [] (H'++cU H),aj g++dk args.toList,H.map (·.1)⟩
              |false=>.no
            | .need k=>.need k
            | .no=>.no
          |some (.cl f pre caps)=>match tF E F s av f (pre++xs++caps)with
            | .ok H r H'=>match g9 s H H' r with
              |true=>.ok ⟨some r,iw H [] (H'++cU H),aj g++dk args.toList,H.map (·.1)⟩
              |false=>.no
            | .need k=>.need k
            | .no=>.no
          |_=>.no
      |none=>.no
    |⟨.builtin .append,args,ts⟩=>match args.toList with
      |[x,y]=>match ts.toList with
        |[T,T']=>match ao6 T T' with
          |true=>FO P s d x y T
          |false=>.no
        |_=>.no
      |_=>.no
    |c=>match yb P s (.call c)with
      |some r=>.ok ⟨some r.x,[],r.rt,r.rd⟩
      |none=>.no
  | .makeSlice T x y=>match Iq x y with
    |true=>match dF s x with
      |some (.v (.int .i64 n))=>Hw P d T n (aj x)
      |_=>.no
    |false=>.no
  | .slice T x none (some (.const (.int k1 (.ofNat 0)))) (some (.const (.int k2 (.ofNat 0))))=>match dF s x with
    |some (.lst sz es)=>match sQ P T sz with
      |true=>.ok ⟨some (.ms d sz 0 0),[(d,some (.row sz []))],aj x,[]⟩
      |false=>.no
    |_=>.no
  | .buildSlice T n parts=>match n with
    |0=>match parts.toList with
      |[]=>match cF P T with
        |some ti=>match ti.k with
          | .slice E=>match cF P E with
            |some te=>match te.zero.all Value.oneCell'&&ao6 te.zero.length te.size with
              |true=>.ok ⟨some (.ms d te.size 0 0),[(d,some (.row te.size []))],[],[]⟩
              |false=>.no
            |none=>.no
          |_=>.no
        |none=>.no
      |_=>.no
    |n+1=>match F6 P s d T (n+1) parts with
     |some u=>.ok u
     |none=>match yb P s (.buildSlice T (n+1) parts)with
      |some r=>.ok ⟨some r.x,[],r.rt,r.rd⟩
      |none=>match sU s (parts.toList.map (·.2))with
        |some xs=>match AV.nms xs with
          |k::_=>.need k
          |[]=>.no
        |none=>.no
  |op=>match yb P s op with
    |some r=>.ok ⟨some r.x,[],r.rt,r.rd⟩
    |none=>match C2 P s d op with
      |some r=>match r.2 with
        |[]=>.ok r.1
        |_=>.no
      |none=>.no
theorem MZ{E:Env P}{F:iF}(hF:F.Ok P){av:List Nat}{s:AS}{R:Array Oper}{d:Nat}{op:Op}{u:Out}{t:atp}{pos:String}{after:Array Edge}(h:CQ E F av s d op=.ok u)(hN:aob d N=true) :
  Step P N R s ⟨some d,op,t,pos,after,none⟩ u:=by
 unfold CQ at h;split at h
 ·split at h
  ·rename_i g args ts;split at h
   ·rename_i xs ji;split at h
    ·rename_i f;split at h
     ·rename_i H r H' hc;split at h
      ·rename_i bm;cases h;obtain⟨h1,h2⟩:=zl hF hc;exact zo h2 (aG h1 (uf ji) h2 bm hN)
      ·cases h
     ·cases h
     ·cases h
    ·split at h
     ·rename_i f caps hg;split at h
      ·rename_i H r H' hc;split at h
       ·rename_i bm;cases h;obtain⟨h1,h2⟩:=zl hF hc;exact zo h2 (PV (bO hg) h1 (uf ji) h2 bm hN)
       ·cases h
      ·cases h
      ·cases h
     ·rename_i f hg;split at h
      ·rename_i H r H' hc;split at h
       ·rename_i bm;cases h;obtain⟨h1,h2⟩:=zl hF hc;exact zo h2 (ait (bO hg) h1 (uf ji) h2 bm hN)
       ·cases h
      ·cases h
      ·cases h
     ·rename_i f pre caps hg;split at h
      ·rename_i H r H' hc;split at h
       ·rename_i bm;cases h;obtain⟨h1,h2⟩:=zl hF hc;exact zo h2 (KE (bO hg) h1 (uf ji) h2 bm hN)
       ·cases h
      ·cases h
      ·cases h
     ·cases h
   ·cases h
  ·rename_i args ts;split at h
   ·rename_i x y hx;split at h
    ·rename_i T T' hT;split at h
     ·rename_i hTT;cases ar4 hTT;have e1:args = #[x,y]:=by apply arq.1; simpa using hx
      have e2:ts=#[T,T]:=by apply arq.1;simpa using hT
      subst e1;subst e2
      exact ahx h hN
     ·cases h
    ·cases h
   ·cases h
  ·split at h
   ·rename_i h1;cases h;exact IA h1 hN
   ·cases h
 ·split at h
  ·rename_i he;cases Wd he;split at h
   ·rename_i hx;exact al2 (bO hx) h hN
   ·cases h
  ·cases h
 ·split at h
  ·rename_i hx;split at h
   ·rename_i hs;obtain⟨ti,E,te,h1,h2,h3,h4⟩:=zR hs;cases h;exact ale (bO hx) h1 h2 h3 h4 hN
   ·cases h
  ·cases h
 ·rename_i T n parts;split at h
  ·split at h
   ·rename_i hp;have:parts = #[]:=by apply arq.1; simpa using hp
    subst this;split at h
    ·rename_i ti hT;split at h
     ·rename_i E hk;split at h
      ·rename_i te hE;split at h
       ·rename_i hc;rw[ar5]at hc;cases h;exact tf (bW hT) hk (bW hE) hc.1 hc.2 hN
       ·cases h
      ·cases h
     ·cases h
    ·cases h
   ·cases h
  ·split at h
   ·rename_i h1;cases h;exact aay h1 hN
   ·split at h
    ·rename_i h1;cases h;exact IA h1 hN
    ·split at h
     ·split at h <;> cases h
     ·cases h
 ·split at h
  ·rename_i h1;cases h;exact IA h1 hN
  ·split at h
   ·rename_i h1;split at h
    ·rename_i ho;cases h;exact N1 h1 (by rw[ho];exact .nil) hN
    ·cases h
   ·cases h
def HV(E:Env P)(F:iF)(av:List Nat)(s:AS)(op:Op):OR:=match op with
  | .call c=>match c with
    |⟨.value (.func f),args,ts⟩=>match sU s args.toList with
      |some xs=>match tF E F s av f xs with
        | .ok H r H'=>match g9 s H H' r with
          |true=>.ok ⟨none,iw H [] (H'++cU H),dk args.toList,H.map (·.1)⟩
          |false=>.no
        | .need k=>.need k
        | .no=>.no
      |none=>.no
    |_=>.no
  | .store T x y=>match AY P s (.store T x y)with
    |some r=>match r.2 with
      |[]=>.ok r.1
      |_=>.no
    |none=>G2 P s T x y
  |_=>.no
theorem ak0{E:Env P}{F:iF}(hF:F.Ok P){av:List Nat}{s:AS}{R:Array Oper}{op:Op}{u:Out}{t:atp}{pos:String}{after:Array Edge}(h:HV E F av s op=.ok u) :
  Step P N R s ⟨none,op,t,pos,after,none⟩ u:=by
 unfold HV at h;split at h
 ·split at h
  ·rename_i f args ts;split at h
   ·rename_i xs ji;split at h
    ·rename_i H r H' hc;split at h
     ·rename_i bm;cases h;obtain⟨h1,h2⟩:=zl hF hc;exact zo h2 (aav h1 (uf ji) h2 bm)
     ·cases h
    ·cases h
    ·cases h
   ·cases h
  ·cases h
 ·split at h
  ·rename_i h1;split at h
   ·rename_i ho;cases h;exact MO h1 (by rw[ho];exact .nil)
   ·cases h
  ·exact ac3 h
 ·cases h
theorem Step.sub{P:atq}{N:Nat}{R:Array Oper}{s:AS}{o:Oper}{x y:AV}{upd:Hp}{rt rd:List Nat}(h:Step P N R s o ⟨some x,upd,rt,rd⟩)(hs:Sub x y):Step P N R s o ⟨some y,upd,rt,rd⟩:=by
 refine⟨fun s' ao bP C m a w Q next hC hr hnext=>h.run s' ao bP C m a w Q next hC hr (fun m' a' w' hr'=>hnext m' a' w' ?_)⟩;refine hr'.weak (fun t z hz=>?_) (fun k z hz=>⟨z,hz,.refl _⟩);rw[jb]at hz;split at hz
 ·rename_i ht;cases hz;exact⟨x,by rw[jb,ate ht],hs⟩
 ·rename_i ht;exact⟨z,by rw[jb,atd ht];exact hz,.refl _⟩
theorem Sub.opt_true(x:AV):Sub (.opt true x) x:=fun g S m v h=>by cases h with |opt h _=>exact h rfl
theorem GT(f:AV->AV)(k:Nat):∀l:Hp,(gp f k l).map (·.1)=l.map (·.1)
 |[]=>rfl
 |(k',x)::l=>by simp only[gp,atb,GT f k l]
theorem YP{P:atq}{N:Nat}{R:Array Oper}{s:AS}{o:Oper}{d:Nat}{x:AV}{upd:Hp}{rt rd:List Nat}{k sz:Nat}{es:List AV}(hd:o.dst=some d)(hk:lk upd k=some (.row sz es))(zU:k∉rd)
  (h:Step P N R s o ⟨some x,upd,rt,rd⟩):Step P N R s o ⟨some (x.fz k sz es),gp (AV.fz k sz es) k upd,rt,rd⟩:=by
 refine⟨fun s' ao bP C m a w Q next hC hr hnext=>?_⟩;have z7:k9 s' ⟨some x,upd,rt,rd⟩:=fun k' hk'=>bP k' (by rw[GT];exact hk')
 have hfr:s'.Fresh k:=by
  rcases z7 k (lX hk)with h |h
  ·exact atk h zU
  ·exact h
 refine h.run s' ao z7 C m a w Q next hC hr (fun m' a' w' hr'=>?_);rw[hd]at hr'
 have dg:(s'.app (some d) ⟨some x,upd,rt,rd⟩).blk k=some (.row sz es):=by
  show lk (upd++s'.hp) k=_;rw[mj,ate (lX hk),hk]
 obtain⟨m2,fy⟩:=Wk.freeze dg C m' a' w' hr';refine hnext m2 a' w' ?_;rw[hd];refine fy.congr ?_ ?_
 ·intro t;simp only[AS.get,tY,AS.app,aE];split
  ·rfl
  ·cases hx:lk s'.sl t with
   |none=>rfl
   |some y=>simp only[arz];rw[AV.fz_id _ _ _ _ (hfr.2.2.1 t y hx)]
 ·intro k';simp only[AS.blk,AS.app];rw[oN,mj,mj,GT,oN]
  by_cases h1:k'=k
  ·subst h1;rw[ate rfl,ate (lX hk),ate rfl]
  ·rw[atd h1,atd h1];split
   ·rfl
   ·cases hx:lk s'.hp k' with
    |none=>rfl
    |some y=>simp only[arz];rw[K0 (hfr.2.2.2 k' y hx)]
def ui:List Nat->Out->Out
  |[],u=>u
  |k::ks,u=>match u.val with
    |some x=>match lk u.upd k with
      |some (.row sz es)=>match lW k u.rd with
        |false=>ui ks ⟨some (x.fz k sz es),gp (AV.fz k sz es) k u.upd,u.rt,u.rd⟩
        |true=>ui ks u
      |_=>ui ks u
    |none=>u
theorem yK{P:atq}{N:Nat}{R:Array Oper}{s:AS}{o:Oper}{d:Nat}(hd:o.dst=some d):∀{ks:List Nat}{u:Out},Step P N R s o u->Step P N R s o (ui ks u)
 |[],u,h=>h
 |k::ks,u,h=>by
  unfold ui;split
  ·rename_i x hx;split
   ·rename_i sz es hk;split
    ·rename_i hm;refine yK hd ?_;obtain⟨val,upd,rt,rd⟩:=u;simp only at hx hk hm;subst hx;exact YP hd hk (fun hh=>by rw[pR.2 hh]at hm;cases hm) h
    ·exact yK hd h
   ·exact yK hd h
  ·exact h
def Ir(E:Env P)(F:iF)(av fz:List Nat)(N:Nat)(R:List Oper)(s:AS)(o:Oper):OR:=match o.guard with
  |none=>match o.dst with
    |some d=>match aob d N with
      |true=>match CQ E F av s d o.op with
        | .ok u=>.ok (ui fz u)
        |r=>r
      |false=>.no
    |none=>HV E F av s o.op
  |some (j,want)=>match R[j]? with
    |some og=>match og.dst with
      |some g=>match o.dst with
        |some d=>match aob d N with
          |true=>match s.get g with
            |some (.v (.bool b))=>match b==want with
              |true=>match CQ E F av s d o.op with
                | .ok u=>match(ui fz u)with
                  |⟨some x,upd,rt,rd⟩=>.ok ⟨some x,upd,g::rt,rd⟩
                  |⟨none,_,_,_⟩=>.no
                |r=>r
              |false=>.ok ⟨some (.opt false (.v (.bool false))),[],[g],[]⟩
            |some (.opt false (.v (.bool b)))=>.ok ⟨some (.opt false (.v (.bool false))),[],[g],[]⟩
            |_=>.no
          |false=>.no
        |none=>.no
      |none=>.no
    |none=>.no
theorem ac7{E:Env P}{F:iF}(hF:F.Ok P){av fz:List Nat}{R:List Oper}{s:AS}{o:Oper}{u:Out}(h:Ir E F av fz N R s o=.ok u):Step P N R.toArray s o u:=by
 obtain⟨dst,op,ty,pos,after,guard⟩:=o;unfold Ir at h;simp only at h;split at h
 ·split at h
  ·split at h
   ·rename_i hN;split at h
    ·rename_i u' h1;cases h;exact yK rfl (MZ hF h1 hN)
    ·rename_i jF;exact atk h (jF u)
   ·cases h
  ·exact ak0 hF h
 ·rename_i j want;split at h
  ·rename_i og sD;split at h
   ·rename_i g hg;split at h
    ·rename_i d;split at h
     ·rename_i hN;have hj:(R.toArray[j]?).bind (·.dst) = some g:=by simp [sD,hg]
      split at h
      ·rename_i b hb;split at h
       ·rename_i hw;split at h
        ·rename_i u' h1;have hs:=yK (ks:=fz) rfl (MZ (R:=R.toArray) (t:=ty) (pos:=pos) (after:=after) hF h1 hN);split at h
         ·rename_i x upd rt rd hx;cases h;rw[hx]at hs;have h2:=NV (want:=want) hj hb hN (fun aO=>atk (eq_of_beq hw) aO) (fun _=>hs);rw[hw]at h2;exact h2.sub (.opt_true x)
         ·cases h
        ·rename_i jF;exact atk h (jF u)
       ·rename_i hw;cases h;have h2:=fM (P:=P) (op:=op) (t:=ty) (pos:=pos) (after:=after) (want:=want) (x:=.v (.bool false)) (rt:=[]) (rd:=[]) hj hb hN (fun e=>by rw[e]at hw;simp at hw);rw[hw]at h2;exact h2
      ·rename_i b hb;cases h;exact tO (P:=P) (op:=op) (t:=ty) (pos:=pos) (after:=after) (want:=want) (x:=.v (.bool false)) (rt:=[]) (rd:=[]) hj hb hN (fun e=>by cases e)
      ·cases h
     ·cases h
    ·cases h
   ·cases h
  ·cases h
end Go.Lw
namespace Go.Lw
variable{P:atq}{N:Nat}[Inhabited (Tys P)]
theorem X9{P:atq}{N:Nat}{c:Code}{Q Q':Exit->AS->Prop}{s:AS}(h:bC P N c Q s)(hq:∀e s,Q e s->∃s',Wk s s'/\Q' e s'):bC P N c Q' s :=
 fun C m a w n hN hr=>wpIn_mono (h C m a w n hN hr) fun e _ _ ⟨s',m',hQ,hr'⟩=>by
  obtain⟨s2,hw,hQ'⟩:=hq e s' hQ;obtain⟨m2,fy⟩:=hw C m' _ _ hr';exact⟨s2,m2,hQ',fy⟩
def dd{α:Type}:List Nat->List (Nat×Option α)->List (Nat×Option α)
  |_,[]=>[]
  |seen,(t,x)::l=>match lW t seen with
    |true=>dd seen l
    |false=>match x with
      |some v=>(t,some v)::dd (t::seen) l
      |none=>dd (t::seen) l
theorem yi{α:Type}:∀{l:List (Nat×Option α)}{seen:List Nat}{t:Nat}{x:α},lk (dd seen l) t=some x->t∉seen/\lk l t=some x
 |[],seen,t,x,h=>by cases h
 |(t',y)::l,seen,t,x,h=>by
  unfold dd at h;rw[aE];split at h
  ·rename_i hm;obtain⟨h1,h2⟩:=yi h;refine⟨h1,?_⟩;rw[atd (fun(e:t=t')=>h1 (by rw[e];exact pR.1 hm))];exact h2
  ·rename_i hm;have hm':t' ∉ seen:=fun hh=>by rw [pR.2 hh] at hm; cases hm
   split at h
   ·rw[aE]at h;split at h
    ·rename_i e;cases h;subst e;exact⟨hm',by rw[ate rfl]⟩
    ·rename_i e;obtain⟨h1,h2⟩:=yi h;rw[atd e];exact⟨fun hh=>h1 (ass _ hh),h2⟩
   ·obtain ⟨h1, h2⟩:=yi h;have aO:t ≠ t':=fun e=>h1 (by rw [e]; exact as2 ..)
    rw[atd aO];exact⟨fun hh=>h1 (ass _ hh),h2⟩
theorem Jl{s:AS}{sl:bN}{hp:Hp}(h1:∀t x,lk sl t=some x->lk s.sl t=some x)(h2:∀k x,lk hp k=some x->lk s.hp k=some x):Wk s ⟨sl,hp⟩ :=
 fun C m a w hr=>⟨m,hr.weak (fun t x hx=>⟨x,h1 t x hx,.refl _⟩) (fun k x hx=>⟨x,h2 k x hx,.refl _⟩)⟩
def Qj(s:AS):AS:=⟨dd [] s.sl,dd [] s.hp⟩
theorem ajq(s:AS):Wk s (Qj s):=Jl (fun t x h=>(yi h).2) (fun t x h=>(yi h).2)
def rg(k:Nat):List Nat->bN->bN
  |_,[]=>[]
  |seen,(t,x)::l=>match lW t seen with
    |true=>rg k seen l
    |false=>match x with
      |some v=>match lW k v.nm with
        |true=>rg k (t::seen) l
        |false=>(t,some v)::rg k (t::seen) l
      |none=>rg k (t::seen) l
theorem Eg{k:Nat}:∀{l:bN}{seen:List Nat}{t:Nat}{x:AV},lk (rg k seen l) t=some x->t∉seen/\lk l t=some x
 |[],seen,t,x,h=>by cases h
 |(t',y)::l,seen,t,x,h=>by
  unfold rg at h;rw[aE]
  have rest:∀{l':bN},lk (rg k (t'::seen) l) t=some x->t∉seen/\(if t=t' then y else lk l t)=some x:=by
   intro _ h;obtain⟨h1,h2⟩:=Eg h;rw[atd (fun(e:t=t')=>h1 (by rw[e];exact as2 ..))];exact⟨fun hh=>h1 (ass _ hh),h2⟩
  split at h
  ·rename_i hm;obtain⟨h1,h2⟩:=Eg h;refine⟨h1,?_⟩;rw[atd (fun(e:t=t')=>h1 (by rw[e];exact pR.1 hm))];exact h2
  ·rename_i hm;have hm':t' ∉ seen:=fun hh=>by rw [pR.2 hh] at hm; cases hm
   split at h
   ·split at h
    ·exact rest (l':=l) h
    ·rw[aE]at h;split at h
     ·rename_i e;cases h;subst e;exact⟨hm',by rw[ate rfl]⟩
     ·rename_i e;obtain⟨h1,h2⟩:=Eg h;rw[atd e];exact⟨fun hh=>h1 (ass _ hh),h2⟩
   ·exact rest (l':=l) h
def SG(s:AS)(k d:Nat)(y:Blk):AS:=⟨kj (AV.rn k d) s.sl,pJ k d y s.hp⟩
def I9(s:AS)(av:List Nat)(d:Nat):Option AS:=match s.freshB d with
  |true=>some s
  |false=>match s.blk d with
    |some y=>match s.freshB (nxt s av)with
      |true=>some (SG s d (nxt s av) y)
      |false=>none
    |none=>some ⟨rg d [] s.sl,s.hp⟩
theorem abe{s s':AS}{av:List Nat}{d:Nat}(h:I9 s av d=some s'):Wk s s':=by
 unfold I9 at h;split at h
 ·cases h;exact .refl _
 ·split at h
  ·rename_i y hy;split at h
   ·rename_i hf;cases h;exact Wk.rk hy hf
   ·cases h
  ·cases h;exact Jl (fun t x h=>(Eg h).2) (fun _ _ h=>h)
def Xm(o:Oper):Option Nat:=match o.dst with
  |some d=>match o.op with
    | .alloc _=>some d
    | .box _ _=>some d
    | .makeSlice _ _ _=>some d
    | .buildSlice _ 0 _=>some d
    | .slice _ _ _ _ (some _)=>some d
    | .call ⟨.builtin .append,_,_⟩=>some d
    |_=>none
  |none=>none
def yh(av:List Nat):List Oper->AS->Option AS
  |[],s=>some s
  |o::os,s=>match Xm o with
    |some d=>match I9 s av d with
      |some s'=>yh av os s'
      |none=>none
    |none=>yh av os s
theorem IL{av:List Nat}:∀{os:List Oper}{s s':AS},yh av os s=some s'->Wk s s'
 |[],s,s',h=>by cases h;exact .refl _
 |o::os,s,s',h=>by
  unfold yh at h;split at h
  ·split at h
   ·rename_i h1;exact(abe h1).trans (IL h)
   ·cases h
  ·exact IL h
inductive RR where
  |ok (s:AS) (us:List Out)
  |need (k:Nat)
  |no
def nB{α:Type}:List α->Bool
  |[]=>true
  |_=>false
def Dy(E:Env P)(F:iF)(av fz:List Nat)(N:Nat)(R:List Oper):List Oper->AS->List Out->RR
  |[],s,us=>.ok s us
  |o::os,s,us=>match Ir E F av fz N R s o with
    | .ok u=>match nB u.upd||Fz s u with
      |true=>match s.app o.dst u with
        |⟨sl,hp⟩=>Dy E F av fz N R os ⟨sl,hp⟩ (us++[u])
      |false=>.no
    | .need k=>.need k
    | .no=>.no
theorem My{E:Env P}{F:iF}(hF:F.Ok P){av fz:List Nat}{R:List Oper}:∀{os:List Oper}{s:AS}{us:List Out}{s':AS}{us':List Out},Dy E F av fz N R os s us=.ok s' us' ->
  iZ P N R.toArray os s us (fun s2 us2=>s2=s'/\us2=us')
 |[],s,us,s',us',h=>by cases h;exact⟨rfl,rfl⟩
 |o::os,s,us,s',us',h=>by
  unfold Dy at h;split at h
  ·rename_i u hu;split at h
   ·rename_i hn;refine⟨u,ac7 hF hu,?_,My hF h⟩;cases hu':nB u.upd with
    |true =>
     intro k hk;have:u.upd=[]:=by cases hq:u.upd with |nil=>rfl |cons a b=>rw[hq]at hu';cases hu'
     rw[this]at hk;cases hk
    |false=>rw[hu']at hn;exact yF hn
   ·cases h
  ·cases h
  ·cases h
structure Sys where
  code:Nat->Nat->List Nat->Code->AS->Option (Exit×AS)
  fn:Nat->List Nat->FuncId->List AV->Hp->Option (AV×Hp)
def Hn(S:Sys)(base:Nat):iF:=fun av f xs H=>match PH base (H.map (·.1))with
  |L=>match S.fn (base+100) av f (tA L xs) (tH L H)with
    |some (r,H')=>some (rB L r,hB L H')
    |none=>none
def RN(e:Exit):Bool:=match e with
  | .normal=>true
  |_=>false
def Gu(s:AS)(k:Nat):Option AS:=match s.blk k with
  |some (.row sz es)=>some ⟨kj (AV.fz k sz es) s.sl,gp (AV.fz k sz es) k s.hp⟩
  |_=>none
theorem ae5{s s':AS}{k:Nat}(h:Gu s k=some s'):Wk s s':=by
 unfold Gu at h;split at h
 ·rename_i hk;cases h;exact Wk.freeze hk
 ·cases h
def xG(E:Env P)(F:iF)(av:List Nat)(N:Nat)(A:List Oper)(d:Bool):Nat->List Nat->AS->Option AS
  |0,_,_=>none
  |n+1,fz,s0=>match Dy E F av fz N A A s0 []with
    | .ok s' us=>match d with
      |false=>some s'
      |true=>match chk A us s0 with
        |true=>some s'
        |false=>none
    | .need k=>match Gu s0 k with
      |some ⟨sl,hp⟩=>xG E F av N A d n fz ⟨sl,hp⟩
      |none=>match lW k fz with
        |true=>none
        |false=>xG E F av N A d n (k::fz) s0
    | .no=>none
theorem G3{E:Env P}{F:iF}(hF:F.Ok P){av:List Nat}{id:Nat}{A:Array Oper}{d:Bool}(cE:A.toList.all nd=true):∀{n:Nat}{fz:List Nat}{s s1:AS},xG E F av N A.toList d n fz s=some s1 ->
  bC P N (.region id A d) (fun e' s'=>e'=.normal/\s'=s1) s
 |0,fz,s,s1,h=>by cases h
 |n+1,fz,s,s1,h=>by
  unfold xG at h;split at h
  ·rename_i s' us h1;refine Kt (Q:=fun e' s'=>e'=.normal/\s'=s1) (k:=[]) cE (fun _=>(default:Tys P).mix) (Bb ?_ (My hF h1));rintro s2 us2 ⟨hs,hu⟩;rw[hs,hu];split at h
   ·obtain rfl:=Option.some.inj h;exact⟨(fun e=>by cases e),rfl,rfl⟩
   ·split at h
    ·rename_i hc;obtain rfl:=Option.some.inj h;exact⟨fun _=>hc,rfl,rfl⟩
    ·cases h
  ·split at h
   ·rename_i sl hp hf;exact tc (ae5 hf) (G3 hF cE h)
   ·split at h
    ·cases h
    ·exact G3 hF cE h
  ·cases h
def rL(E:Env P)(S:Sys)(N base:Nat)(av:List Nat)(c:Code)(s:AS):Option (Exit×AS):=match c with
  | .skip=>some (.normal,s)
  | .ret=>some (.ret,s)
  | .exit id=>some (.exit id,s)
  | .seq x y=>match S.code N base av x s with
    |some (e,s1)=>match RN e with
      |true=>S.code N base av y s1
      |false=>some (e,s1)
    |none=>none
  | .block id c=>match S.code N base av c s with
    |some (e,s1)=>match e with
      | .exit id'=>match ao6 id' id with
        |true=>some (.normal,s1)
        |false=>some (.exit id',s1)
      |e=>some (e,s1)
    |none=>none
  | .cond c x y=>match dF s c with
    |some (.v (.bool b))=>match b with
      |true=>S.code N base av x s
      |false=>S.code N base av y s
    |_=>none
  | .loop c=>match S.code N base av c s with
    |some (e,s1)=>match RN e with
      |true=>match Qj s1 with
        |⟨sl,hp⟩=>S.code N base av (.loop c) ⟨sl,hp⟩
      |false=>some (e,s1)
    |none=>none
  | .region id A d=>match zg A.toList with
    |true=>match yh av A.toList s with
      |some s0=>match xG E (Hn S base) av N A.toList d 20 [] s0 with
        |some s'=>some (.normal,s')
        |none=>none
      |none=>none
    |false=>none
  |_=>none
def xI(st:Nat):List Nat->AS->Option AS
  |[],s=>some s
  |k::ks,s=>match s.blk k with
    |some y=>match E3 s 100 st with
      |d=>match s.freshB d with
        |true=>xI st ks (SG s k d y)
        |false=>none
    |none=>none
theorem Is{st:Nat}:∀{ks:List Nat}{s s':AS},xI st ks s=some s'->Wk s s'
 |[],s,s',h=>by cases h;exact .refl _
 |k::ks,s,s',h=>by
  unfold xI at h;split at h
  ·rename_i y hy;simp only at h;split at h
   ·rename_i hf;exact(Wk.rk (s:=s) hy hf).trans (Is h)
   ·cases h
  ·cases h
def O7:Nat->List Nat->List Nat
  |_,[]=>[]
  |n,_::l=>n::O7 (n+1) l
def HZ:List Nat->List Nat
  |[]=>[]
  |k::ks=>match aob k 1000 with
    |true=>k::HZ ks
    |false=>HZ ks
def wG(sl:bN):List Nat->bN
  |[]=>[]
  |t::ts=>match lk sl t with
    |some x=>(t,some x)::wG sl ts
    |none=>wG sl ts
theorem G8{sl:bN}:∀{ts:List Nat}{t:Nat}{x:AV},lk (wG sl ts) t=some x->lk sl t=some x
 |[],t,x,h=>by cases h
 |t'::ts,t,x,h=>by
  unfold wG at h;split at h
  ·rename_i y hy;rw[aE]at h;split at h
   ·rename_i e;cases h;rw[e];exact hy
   ·exact G8 h
  ·exact G8 h
def Gj:List ResultVar->List Nat
  |[]=>[]
  |r::rs=>(match r with
    | .tmp t=>t
    | .cell t _=>t)::Gj rs
def Ef(P:atq)[Inhabited (Tys P)](rs:List ResultVar)(Hk:List Nat)(s:AS):Option (AV×Hp):=match rI P s rs with
  |some ys=>some (d7 ys,sY s (uZ s 300 (AV.nms ys++Hk) []))
  |none=>none
theorem MI{rs:List ResultVar}{Hk:List Nat}{s:AS}{r:AV}{H':Hp}(h:Ef P rs Hk s=some (r,H')):∃xs,ResL P s rs xs/\aD s (d7 xs) r H':=by
 unfold Ef at h;split at h
 ·rename_i ys hy;cases h;exact⟨ys,Hq hy,.keep (fun k z hz=>yT hz)⟩
 ·cases h
def Ft(P:atq)[Inhabited (Tys P)](av:List Nat)(rs:List ResultVar)(Hk:List Nat)(s:AS):Option (AV×Hp):=match uZ s 300 (AV.nms ((wG s.sl (Gj rs)).filterMap (·.2))++Hk) []with
  |K=>match HZ K with
    |[]=>Ef P rs Hk s
    |k::ks=>match xI 700 (k::ks) ⟨wG s.sl (Gj rs),sY s K⟩with
      |some s2=>match xI (mx 299 av+1) (O7 700 (k::ks)) s2 with
        |some s3=>Ef P rs Hk s3
        |none=>none
      |none=>none
theorem ak9{av:List Nat}{rs:List ResultVar}{Hk:List Nat}{s:AS}{r:AV}{H':Hp}(h:Ft P av rs Hk s=some (r,H')):∃s2,Wk s s2/\∃xs,ResL P s2 rs xs/\aD s2 (d7 xs) r H':=by
 unfold Ft at h;simp only at h;split at h
 ·exact⟨s,.refl _,MI h⟩
 ·split at h
  ·rename_i s2 h2;split at h
   ·rename_i s3 h3;exact⟨s3,((Jl (fun t x=>G8) (fun k x=>yT)).trans (Is h2)).trans (Is h3),MI h⟩
   ·cases h
  ·cases h
def Dx:Hp->Bool
  |[]=>true
  |(k,_)::l=>Nat.ble 1000 k&&Dx l
theorem Q6:∀{H:Hp}{k:Nat}{z:Blk},Dx H=true->lk H k=some z->1000<=k
 |[],k,z,_,h=>by cases h
 |(k',x)::l,k,z,h0,h=>by
  simp only[Dx,ar5,an7]at h0;rw[aE]at h;split at h
  ·rename_i e;rw[e];exact h0.1
  ·exact Q6 h0.2 h
def FJ(E:Env P)(S:Sys)(base:Nat)(av:List Nat)(f:FuncId)(xs:List AV)(H:Hp):Option (AV×Hp):=match E.fe f with
  |some fe=>match ao6 fe.f f&&Dx H with
    |true=>match wz 0 xs with
      |some sl=>match S.code fe.fn.ntmps base av fe.c ⟨sl,H⟩with
        |some (e,s1)=>match ya e with
          |true=>Ft P av fe.rs (H.map (·.1)) s1
          |false=>none
        |none=>none
      |none=>none
    |false=>none
  |none=>none
def ev(E:Env P)(n:Nat):Sys:=Nat.rec ⟨fun _ _ _ _ _=>none,fun _ _ _ _ _=>none⟩ (fun _ S=>⟨rL E S,FJ E S⟩) n
structure SysOk(P:atq)(S:Sys):Prop where
  code:∀N base av c s e s1,S.code N base av c s=some (e,s1)->bC P N c (fun e' s'=>e'=e/\s'=s1) s
  fn:∀base av f xs H r H',S.fn base av f xs H=some (r,H')->Con P f xs H r H'
theorem Za{P:atq}{S:Sys}(h:SysOk P S)(base:Nat):(Hn S base).Ok P:=by
 intro av f xs H r H' h1;unfold Hn at h1;simp only at h1;split at h1
 ·rename_i h2;cases h1;exact Ol (h.fn _ _ _ _ _ _ _ h2)
 ·cases h1
theorem Zn{E:Env P}{S:Sys}(h:SysOk P S){base:Nat}{av:List Nat}{f:FuncId}{xs:List AV}{H H':Hp}{r:AV}(h1:FJ E S base av f xs H=some (r,H')):Con P f xs H r H':=by
 unfold FJ at h1;split at h1
 ·rename_i fe hfe;split at h1
  ·rename_i hc;simp only[ar5]at hc;have hf:=ar4 hc.1;subst hf;split at h1
   ·rename_i sl fm;cases CC fm;split at h1
    ·rename_i e s1 h2;split at h1
     ·rename_i he;refine Jp fe.hf fe.hb fe.hn fe.hrs rfl (fun k z hz=>Q6 hc.2 hz) ?_;refine X9 (h.code _ _ _ _ _ _ _ h2) ?_;rintro e' s' ⟨he',hs'⟩;rw[he',hs'];obtain⟨s2,hw,hx⟩:=ak9 h1;refine⟨s2,hw,?_⟩;cases e <;> first |exact hx |exact(nomatch he)
     ·cases h1
    ·cases h1
   ·cases h1
  ·cases h1
 ·cases h1
theorem D9(E:Env P):∀n m,m<=n->SysOk P (ev E m)
 |0,m,hm=>by
  have:m=0:=by omega
  subst this;exact { code:=(fun _ _ _ _ _ _ _ h=>by cases h),fn:=(fun _ _ _ _ _ _ _ h=>by cases h) }
 |n+1,m,hm=>by
  by_cases hmn:m<=n
  ·exact D9 E n m hmn
  ·have : m = n + 1 := by omega
   subst this;have ih:=D9 E n n (ar8 _);refine⟨?_,fun base av f xs H r H' h=>Zn ih h⟩;intro N base av c s e s1 h
   change rL E (ev E n) N base av c s=some (e,s1)at h
   cases c with
   |skip=>cases h;exact PK ⟨rfl,rfl⟩
   |ret=>cases h;exact Md ⟨rfl,rfl⟩
   |exit id=>cases h;exact MH ⟨rfl,rfl⟩
   |seq x y =>
    simp only[rL]at h;split at h
    ·rename_i e1 s2 h1;refine OT fun K hK=>jO (ih.code _ _ _ _ _ _ _ h1) ?_
     rintro e' s' ⟨he,hs⟩;rw[he,hs];split at h
     ·rename_i hr;cases e1 <;> first |exact hK _ (ih.code _ _ _ _ _ _ _ h) |exact(nomatch hr)
     ·rename_i hr;obtain⟨rfl,rfl⟩:=Prod.mk.inj (Option.some.inj h);cases e1 <;> first |exact⟨rfl,rfl⟩ |exact(nomatch hr)
    ·cases h
   |block id c =>
    simp only[rL]at h;split at h
    ·rename_i e1 s2 h1;refine Q3 (jO (ih.code _ _ _ _ _ _ _ h1) ?_);rintro e' s' ⟨he,hs⟩;rw[he,hs];split at h
     ·rename_i id';show match ao6 id' id with |true=>_ |false=>_
      split at h
      ·rename_i hb;obtain⟨rfl,rfl⟩:=Prod.mk.inj (Option.some.inj h);simp only[];exact⟨trivial,trivial⟩
      ·rename_i hb;obtain⟨rfl,rfl⟩:=Prod.mk.inj (Option.some.inj h);simp only[];exact⟨trivial,trivial⟩
     ·rename_i aO;obtain⟨rfl,rfl⟩:=Prod.mk.inj (Option.some.inj h);cases e1 <;> first |exact⟨rfl,rfl⟩ |exact atk rfl (aO _)
    ·cases h
   |cond c x y =>
    simp only[rL]at h;split at h
    ·rename_i b hb;split at h
     ·exact BZ (bO hb) (fun _=>ih.code _ _ _ _ _ _ _ h) (fun e=>by cases e)
     ·exact BZ (bO hb) (fun e=>by cases e) (fun _=>ih.code _ _ _ _ _ _ _ h)
    ·cases h
   |loop c =>
    refine ue (fun m s=>m<=n+1/\(ev E m).code N base av (.loop c) s=some (e,s1)) (n:=n+1) (.refl _) ⟨ar8 _,h⟩ ?_;rintro m s ⟨hm,hI⟩ K hK;cases m with
    |zero=>cases hI
    |succ m =>
     change rL E (ev E m) N base av (.loop c) s=some (e,s1)at hI
     have ihm:=D9 E n m oz;simp only[rL]at hI;split at hI
     ·rename_i e1 s2 h1;refine jO (ihm.code _ _ _ _ _ _ _ h1) ?_;rintro e' s' ⟨he,hs⟩;rw[he,hs];split at hI
      ·rename_i hr;cases e1 <;> first |exact hK _ _ m (ajq s2) ⟨by omega,hI⟩ oz |exact(nomatch hr)
      ·rename_i hr;obtain⟨rfl,rfl⟩:=Prod.mk.inj (Option.some.inj hI);cases e1 <;> first |exact⟨rfl,rfl⟩ |exact(nomatch hr)
     ·cases hI
   |region id A d =>
    simp only[rL]at h;split at h
    ·rename_i cE;split at h
     ·rename_i s0 h0;refine tc (IL h0) ?_;split at h
      ·rename_i s' h1;obtain⟨rfl,rfl⟩:=Prod.mk.inj (Option.some.inj h);exact G3 (Za ih base) (In cE) h1
      ·cases h
     ·cases h
    ·cases h
   |_=>cases h
theorem cC(E:Env P)(n:Nat){base:Nat}{av:List Nat}{f:FuncId}{xs:List AV}{H H':Hp}{r:AV}(h:(ev E n).fn base av f xs H=some (r,H')):Con P f xs H r H' :=
 (D9 E n n (ar8 _)).fn _ _ _ _ _ _ _ h
end Go.Lw
namespace Go.Lw
def BN(s:ByteArray)(n:Int):Bd:=⟨s,[⟨⟨#[97]⟩,rt ((0:Int):Rat),rt ((0:Int):Rat)⟩,⟨⟨#[98]⟩,rt (n:Rat),rt ((0:Int):Rat)⟩]⟩
def fb:Li:=⟨⟨#[102,111,117,114,98,97,114]⟩,[BN ⟨#[102,114,97,109,101]⟩ 4,BN ⟨#[99,114,97,110,107]⟩ 3,BN ⟨#[99,111,117,112,108,101,114]⟩ 5,BN ⟨#[114,111,99,107,101,114]⟩ 6],
  [⟨⟨#[111]⟩,0,1,0,0,0,0⟩,⟨⟨#[112]⟩,0,2,0,1,1,0⟩,⟨⟨#[113]⟩,0,3,0,0,1,0⟩,⟨⟨#[114]⟩,0,2,1,3,1,0⟩],[⟨⟨#[100]⟩,1⟩]⟩
def t0:Tn:=⟨⟨false,[],[]⟩,false⟩
theorem vt(a b:ByteArray):ez a b=(a.data.toList==b.data.toList):=by
 unfold ez;rw[Go.ByteArray.toList_eq,Go.ByteArray.toList_eq]
open Go.Proofs
def cA(P:atq)(n:Nat):Option (FE P):=match h:P.funcs[n]? with
  |none=>none
  |some fn=>match hb:fn.body with
    |none=>none
    | some c => match hn : (fn.name == "runtime.NumGoroutine") with
      |true=>none
      |false=>some ⟨n,fn,c,fn.results.toList,h,hb,hn,by simp⟩
def mD(q:Rat):Bool:=aob q.num.natAbs 18446744073709551616&&aob q.den 18446744073709551616
def n0(q:Rat):AV:=nA (sh 0 (q:Rat))
def z0:AV:=bA []
def dW:List AV->Nat
  |[]=>0
  |x::l=>match x with
    | .v (.int _ (.ofNat n))=>n+4294967296*dW l
    |_=>0
def Be:AV->Nat
  | .lst _ l=>dW l
  |_=>0
def dQ(x:AV):Rat:=match x with
  | .agg (.v (.bool s)::n::d::_)=>match s with
    |true=>mkRat (-(Be n:Int)) (Be d)
    |false=>mkRat (Be n:Int) (Be d)
  |_=>0
abbrev En:=Option (Ent prog)
def w2(f:FuncId)(g:Rat->Rat->AV)(h:∀p q,mD p=true->mD q=true->FP f [qA p,qA q] (g p q))(p q:Rat):En:=match hh:mD p&&mD q with
  |true=>some ⟨f,[qA p,qA q],g p q,[],h p q (by rw[ar5]at hh;exact hh.1) (by rw[ar5]at hh;exact hh.2)⟩
  |false=>none
def w1(f:FuncId)(a:Rat->AV)(g:Rat->AV)(h:∀p,mD p=true->FP f [a p] (g p))(p:Rat):En:=match hh:mD p with
  |true=>some ⟨f,[a p],g p,[],h p hh⟩
  |false=>none
def w3(f:FuncId)(g:Rat->Rat->AV)(h:∀p q,mD p=true->mD q=true->FP f [z0,n0 p,n0 q] (g p q))(p q:Rat):En:=match hh:mD p&&mD q with
  |true=>some ⟨f,[z0,n0 p,n0 q],g p q,[],h p q (by rw[ar5]at hh;exact hh.1) (by rw[ar5]at hh;exact hh.2)⟩
  |false=>none
def w4(f:FuncId)(g:Rat->AV)(h:∀p,mD p=true->FP f [z0,n0 p] (g p))(p:Rat):En:=match hh:mD p with
  |true=>some ⟨f,[z0,n0 p],g p,[],h p hh⟩
  |false=>none
def oC(f:FuncId)(ys:List AV)(r:AV)(h:FP f ys r)(xs:List AV):En:=some ⟨f,ys,r,[],h⟩
def dI(x:AV):Int:=match x with
  | .v (.int _ z)=>z
  |_=>0
def oI(f:FuncId)(g:Int->AV)(h:∀z,(-9223372036854775808<=z/\z<=9223372036854775807)->FP f [i64 z] (g z))(xs:List AV):En:=match xs with
  |[a]=>match(atm:Decidable (-9223372036854775808<=dI a/\dI a<=9223372036854775807))with
    | .isTrue hh=>some ⟨f,[i64 (dI a)],g (dI a),[],h (dI a) hh⟩
    | .isFalse _=>none
  |_=>none
def SJ:List (Ent prog)->FuncId->Bool
  |[],_=>false
  |e::l,f=>match ao6 e.f f with
    |true=>true
    |false=>SJ l f
def Ps(xs:List AV)(f:FuncId):List (Ent prog)->En
  |[]=>none
  |e::l=>match ao6 e.f f&&rN xs e.xs with
    |true=>some e
    |false=>Ps xs f l
def cz(L:List (Ent prog))(o:FuncId->Option (List AV->En))(f:FuncId):Option (List AV->En):=match SJ L f with
  |true=>some fun xs=>match Ps xs f L with
    |some e=>some e
    |none=>match o f with
      |some g=>g xs
      |none=>none
  |false=>o f
def cw(n:FuncId):Bool:=ao6 n 124||(ao6 n 224||ao6 n 322)
def Cn(p:Rat):Rat:=if p<0 then -p else p
theorem S7{p:Rat}:aa .lss (a9 p) 0=decide (p<0):=by
 have h:aa .lss (a9 p) 0=decide (a9 p<0):=rfl;rw[h];apply decide_eq_decide.2;unfold a9;split
 ·rename_i h1;exact⟨fun _=>h1,fun _=>by omega⟩
 ·rename_i h1;split
  ·exact⟨fun h9=>atk h9 oz,fun h9=>atk h9 h1⟩
  ·exact⟨fun h9=>atk h9 oz,fun h9=>atk h9 h1⟩
theorem ZP{p:Rat}(hp:Qs p):FP 390 [qA p] (qA (Cn p)):=by
 have hP:=nU (rt p) hp.ok;rw[bE]at hP;refine am func390 ?_;refine gc (wR hp) ?_;refine gC (fun z=>?_) (fun z=>?_)
 ·have h1 : p < 0 := by rw [S7] at z; exact atg z
  refine gc (yy hp) ?_;refine ah ?_;unfold Cn;rw[ate h1];rfl
 have h1:¬p<0:=by rw[S7]at z;exact ath z
 refine gc hP ?_;refine gc (vR hp.num hp.den (by have:=p.den_nz;omega)) ?_;refine ah ?_;unfold Cn;rw[atd h1,aq1];rfl
theorem amg{a b:Int}(ha:-9223372036854775808<=a/\a<=9223372036854775807)(hb:-9223372036854775808<=b/\b<=9223372036854775807):FP 407 [i64 a,i64 b] (.tup [qA (aq3 a b),bQ (if b=0 then 8 else 0)]):=by
 have za:Zs a:=⟨2,by omega,by unfold Lz;simp only[Nat.reducePow];omega⟩
 have zb:Zs b:=⟨2,by omega,by unfold Lz;simp only[Nat.reducePow];omega⟩
 refine am func407 ?_;refine gc (DR a ha) ?_;refine gc (DR b hb) ?_;refine gc (Oy za zb) ?_;refine bu ?_
 first |rfl |(simp;done)
theorem ajv:FP 396 [] (qA (aq3 1 2)):=by
 refine am func396 ?_;refine gc (amg (a:=1) (b:=2) oz oz) ?_;refine ah ?_
 first |rfl |(simp;done)
def n7(q:Rat):Bool:=aob q.num.natAbs (2^4000)&&aob q.den (2^4000)
theorem kV{q:Rat}(h:n7 q=true):Qs q:=by
 obtain⟨k,hk⟩:∃k,k=4000:=⟨_,rfl⟩
 unfold n7 at h;rw[<- hk]at h;simp only[ar5,aoh]at h;exact Qb.qs (e:=k) h oz
def w2b(f:FuncId)(g:Rat->Rat->AV)(h:∀p q,n7 p=true->n7 q=true->FP f [qA p,qA q] (g p q))(p q:Rat):En:=match hh:n7 p&&n7 q with
  |true=>some ⟨f,[qA p,qA q],g p q,[],h p q (by rw[ar5]at hh;exact hh.1) (by rw[ar5]at hh;exact hh.2)⟩
  |false=>none
def yc(f:FuncId)(g:Rat->Rat->AV)(h:∀p q,n7 p=true->n7 q=true->FP f [qA p,qA q] (g p q))(xs:List AV):En:=match xs with
  |[a,b]=>w2b f g h (dQ a) (dQ b)
  |_=>none
def w1b(f:FuncId)(a:Rat->AV)(g:Rat->AV)(h:∀p,n7 p=true->FP f [a p] (g p))(p:Rat):En:=match hh:n7 p with
  |true=>some ⟨f,[a p],g p,[],h p hh⟩
  |false=>none
def CN(f:FuncId)(g:Rat->AV)(h:∀p,n7 p=true->FP f [qA p] (g p))(xs:List AV):En:=match xs with
  |[a]=>w1b f qA g h (dQ a)
  |_=>none
def RT:FuncId->Option (List AV->En)
  |45=>some (yc 45 (fun p q=>qA (p+q)) fun _ _ h h'=>rU (kV h) (kV h'))
  |172=>some (yc 172 (fun p q=>qA (p-q)) fun _ _ h h'=>oW (kV h) (kV h'))
  |71=>some (yc 71 (fun p q=>qA (p*q)) fun _ _ h h'=>iG (kV h) (kV h'))
  |389=>some (yc 389 (fun p q=>.tup [qA (p/q),bQ (if q=0 then 8 else 0)]) fun _ _ h h'=>HW (kV h) (kV h'))
  |279=>some (CN 279 (fun p=>qA (-p)) fun _ h=>yy (kV h))
  |24=>some (CN 24 (fun p=>i64 (a9 p)) fun _ h=>wR (kV h))
  |104=>some (CN 104 (fun p=>bl (rt p).valid) fun _ h=>sW _ (kV h).ok)
  |352=>some (yc 352 (fun p q=>i64 (a9 (p-q))) fun _ _ h h'=>Yj (kV h) (kV h'))
  |390=>some (CN 390 (fun p=>qA (Cn p)) fun _ h=>ZP (kV h))
  |396=>some (oC 396 [] _ ajv)
  |19=>some (oI 19 (fun z=>qA z) kW)
  |82=>some (oI 82 (fun z=>qA z) ww)
  |_=>none
def sb(s p q:ByteArray)(n:Int):Bd:=⟨s,[⟨p,rt ((0:Int):Rat),rt ((0:Int):Rat)⟩,⟨q,rt (n:Rat),rt ((0:Int):Rat)⟩]⟩
def f3(n:Int):Li:=⟨⟨#[102,111,117,114,98,97,114]⟩,[sb ⟨#[102,114,97,109,101]⟩ ⟨#[97]⟩ ⟨#[100]⟩ 4,sb ⟨#[99,114,97,110,107]⟩ ⟨#[97]⟩ ⟨#[98]⟩ 1,sb ⟨#[99,111,117,112,108,101,114]⟩ ⟨#[98]⟩ ⟨#[99]⟩ 4,sb ⟨#[114,111,99,107,101,114]⟩ ⟨#[100]⟩ ⟨#[99]⟩ n],
  [⟨⟨#[106,49]⟩,0,0,0,1,0,0⟩,⟨⟨#[106,50]⟩,0,1,1,2,0,0⟩,⟨⟨#[106,51]⟩,0,0,1,3,0,0⟩,⟨⟨#[106,52]⟩,0,2,1,3,1,0⟩],[⟨⟨#[109]⟩,1⟩]⟩
theorem agy:ax (f3 1)=0:=by
 have h1:jx (f3 1)=0:=by
  unfold jx fI fv ic fi;simp only[vt];decide +kernel
 have h2:fE (f3 1)=0:=by
  unfold fE fI iK ic;simp only[vt];decide +kernel
 have h3:iW (f3 1)=0:=by
  unfold iW fI eL ic;simp only[vt];decide +kernel
 unfold ax;rw[h1,h2,h3];decide +kernel
theorem akh:ax (f3 2)=0:=by
 have h1:jx (f3 2)=0:=by
  unfold jx fI fv ic fi;simp only[vt];decide +kernel
 have h2:fE (f3 2)=0:=by
  unfold fE fI iK ic;simp only[vt];decide +kernel
 have h3:iW (f3 2)=0:=by
  unfold iW fI eL ic;simp only[vt];decide +kernel
 unfold ax;rw[h1,h2,h3];decide +kernel
theorem Cu{s p q:ByteArray}(hs:s.size<=1000)(hp:p.size<=1000)(hq:q.size<=1000){n:Int}(hn:-9223372036854775808<=n/\n<=9223372036854775807) :
  (sb s p q n).name.size<=281474976710656/\(sb s p q n).pts.length<=281474976710656/\∀m∈(sb s p q n).pts,m.name.size<=281474976710656/\m.x.wok/\m.y.wok:=by
 have h0:(rt ((0:Int):Rat)).ok:=(zw oz).ok;have h1:(rt (n:Rat)).ok:=(zw hn).ok;refine⟨asv hs oz,by show 2<=_;omega,fun m hm=>?_⟩;simp only[sb,asj,asf,or_false]at hm;rcases hm with rfl |rfl
 ·exact⟨asv hp oz,h0.wok,h0.wok⟩
 ·exact⟨asv hq oz,h1.wok,h0.wok⟩
theorem Nt{n:Int}(hn:-9223372036854775808<=n/\n<=9223372036854775807):(f3 n).okw:=by
 refine⟨by show 7<=_;omega,fun b hb=>?_,fun j hj=>?_,fun d hd=>?_,by show 4<=_;omega,by show 4<=_;omega,by show 1<=_;omega⟩
 ·simp only[f3,asj,asf,or_false]at hb;rcases hb with rfl |rfl |rfl |rfl
  ·exact Cu (by decide) (by decide) (by decide) oz
  ·exact Cu (by decide) (by decide) (by decide) oz
  ·exact Cu (by decide) (by decide) (by decide) oz
  ·exact Cu (by decide) (by decide) (by decide) hn
 ·simp only[f3,asj,asf,or_false]at hj;rcases hj with rfl |rfl |rfl |rfl <;> decide
 ·simp only[f3,asj,asf,or_false]at hd;rcases hd with rfl;decide
theorem akn:(f3 1).ok:=Jd (by decide +kernel) (Nt oz)
theorem abn:(f3 2).ok:=Jd (by decide +kernel) (Nt oz)
def aa6(o1 o2:FuncId->Option (List AV->En))(f:FuncId):Option (List AV->En):=match o1 f with
  |some g1=>match o2 f with
    |some g2=>some fun xs=>match g1 xs with
      |some e=>match rN xs e.xs with
        |true=>some e
        |false=>g2 xs
      |none=>g2 xs
    |none=>some g1
  |none=>o2 f
theorem FH:dR (f3 1)=0:=by
 unfold dR;rw[agy];decide +kernel
theorem IU:dR (f3 2)=0:=by
 unfold dR;rw[akh];decide +kernel
theorem ak6:dH (f3 1)=[[0,0,256]]:=by
 unfold dH;rw[ate FH];decide +kernel
theorem ae8:dH (f3 2)=[[135,0,622,0,231]]:=by
 unfold dH;rw[ate IU];decide +kernel
theorem afg:fu (f3 1)=[4]:=by
 unfold fu;rw[ate FH];decide +kernel
theorem Y2:fu (f3 2)=[4]:=by
 unfold fu;rw[ate IU];decide +kernel
theorem aas:FP 33 [(f3 1).av] (.tup [.lst 1 [nA [0,0,256]],.lst 1 [i64 4],.v .nilIface]):=by
 have h:=I2 (f3 1) akn;rw[ak6,afg,FH]at h;exact h
theorem ajn:FP 33 [(f3 2).av] (.tup [.lst 1 [nA [135,0,622,0,231]],.lst 1 [i64 4],.v .nilIface]):=by
 have h:=I2 (f3 2) abn;rw[ae8,Y2,IU]at h;exact h
def abb(o:FuncId->Option (List AV->En)):FuncId->Option (List AV->En)
  |33=>some (oC 33 [(f3 1).av] _ aas)
  |f=>o f
def akj(o:FuncId->Option (List AV->En)):FuncId->Option (List AV->En)
  |33=>some (oC 33 [(f3 2).av] _ ajn)
  |f=>o f
def cu:FuncId->Option (List AV->En):=aa6 (abb RT) (akj RT)
end Go.Lw
