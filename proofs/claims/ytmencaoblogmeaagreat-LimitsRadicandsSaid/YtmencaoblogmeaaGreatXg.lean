/- LimitsRadicands: for any linkage the law returns true and leaves its argument as it was. No other condition. Part 7 of 8: what the later parts need -/
import Derived.Test.YtmencaoblogmeaaGreatXf
import Derived.Laws.Pointers
set_option linter.unusedVariables false
open List (nil_append map_map)
open List renaming mem_of_getElem? → ahg, mem_cons_of_mem → ah6, mem_append → ahn, map_cons → aiq, mem_cons → ah3, mem_cons_self → aig, getElem?_eq_none → aht, all_eq_true → ahs, not_mem_nil → ahy, mem_singleton → ae4, cons_append → afj, replicate → afq
open Nat renaming eq_of_beq_eq_true → ahi, le_refl → ahr, lt_or_ge → ahq, le_trans → ah8, zero_le → ahv, blt_eq → adx, ne_of_beq_eq_false → ad3, beq → ad9, ble_eq → aee, zero_add → aeg, blt → aem
open Option renaming map_some → ahd
open Bool renaming and_eq_true → ahj, false_eq_true → agv
open Array renaming toList_inj → ag5, getElem?_eq_getElem → ag7
open Int renaming toNat_natCast → aij, ofNat_eq_natCast → af0, natCast_nonneg → af7
open Rat renaming divInt → agl, num_divInt_den → agm
open Go renaming Operand → ai2, Value → ai3, TypeId → ai4, Program → ai5, World → ai6
open Go.Result renaming andThen_ok → ai7
open Go.Sem renaming run_bind → ai8, run_pure → ai9
open Go.Proofs.Tryz
namespace Go.Lw
open Go.Proofs
theorem S4{l:Li}(hw:l.okw)(h:mv l=true):l.ok:=by
 unfold mv at h;rw[ahj,ahj]at h;exact J8 hw (dS h.1) h.2.1
theorem Tp(PG:FP 7 [] (bl true))(l:Li)(hw:l.okw):FP 3 [l.av] (bl true):=by
 refine ak func3 ?_;refine gc (ab6 l hw) ?_;refine bJ (fun _=>PG) ?_;refine gC (fun z=>?_) (fun z=>?_)
 ·refine gc PG ?_;refine ah ?_
  first |rfl |(simp;done)
 have hs:mv l=true:=by cases h9:mv l;rw[h9]at z;cases z;rfl
 have hl:=S4 hw hs;obtain⟨e1,e2⟩:=I5 l;refine gc (Vi l hl) ?_;refine gc (Od l hl) ?_;refine gc (WZ (dB l)) ?_;refine cm ?_;refine cm ?_;refine bJ (fun _=>(TO (dR l) oz)) ?_;refine gC (fun z=>?_) (fun z=>?_) (st1:=(6,0))
 ·revert z;simp[aa]
 refine gl ?_;refine aL [3,6,47,48] [] (fun(i:Nat)=>[pP 49 (i64 i)]) (fun _=>[]) (fun i=>i<=(dX l).length) (fun i=>(dX l).length-i) 0 (ahv _) ?_;rintro i hi K1 J1;refine gC (fun z=>?_) (fun z=>?_)
 ·have af:=aK z;obtain⟨p,hp⟩:=aB af;have PH:=WD hl (ahg hp);have kj:=PH.len;refine gi (ay hp) ?_;refine gi (ay hp) ?_;refine gc (TT PH.b oz oz) ?_;refine gD ?_;refine gf ?_;refine ga aF ?_;exact aE J1 (i+1) af
 refine ah ?_
 first |rfl |(simp;done)
variable{P:ai5}{N:Nat}
def cH(s:AS):ai2->Option AV
  | .tmp t=>match s.get t with
    |some x=>match x with
      | .opt _ _=>none
      |x=>some x
    |none=>none
  | .const c=>some (.v c)
  | .func f=>some (.v (.func (.func f) #[] #[]))
  | .global _=>none
theorem bi{s:AS}{o:ai2}{x:AV}(h:cH s o=some x):Ev s o x:=by
 cases o with
 |tmp t =>
  simp only[cH]at h;split at h
  ·rename_i y hy;split at h
   ·cases h
   ·cases h;exact .tmp hy
  ·cases h
 |const c=>cases h;exact .const c
 |func f=>cases h;exact .func f
 |global n=>cases h
def qj(s:AS):List ai2->Option (List AV)
  |[]=>some []
  |o::os=>match cH s o with
    |some x=>match qj s os with
      |some xs=>some (x::xs)
      |none=>none
    |none=>none
theorem rf{s:AS}:∀{os:List ai2}{xs:List AV},qj s os=some xs->EvL s os xs
 |[],xs,h=>by cases h;exact .nil
 |o::os,xs,h=>by
  unfold qj at h;split at h
  ·rename_i x h1;split at h
   ·rename_i ys h2;cases h;exact .cons (bi h1) (rf h2)
   ·cases h
  ·cases h
def wN{α:Type}(n:Nat)(f:Nat->α):α:=match n with
  |0=>f 0
  |m+1=>f (m+1)
theorem oP{α:Type}(n:Nat)(f:Nat->α):wN n f=f n:=by cases n <;> rfl
def wI{α:Type}(z:Int)(f:Int->α):α:=match z with
  | .ofNat n=>match n with
    |0=>f 0
    |m+1=>f (Int.ofNat (m+1))
  | .negSucc n=>f (.negSucc n)
theorem ma{α:Type}(z:Int)(f:Int->α):wI z f=f z:=by
 cases z with
 |ofNat n=>cases n <;> rfl
 |negSucc n=>rfl
structure V1 where
  x:AV
  rt:List Nat
  rd:List Nat
def ME:ai3->Bool
  | .nilIface=>true
  | .iface _ _=>true
  |_=>false
theorem Id{v:ai3}(h:ME v=true):De v:=by
 cases v <;> first |exact .inl rfl |exact .inr ⟨_,_,rfl⟩ |cases h
def Ci:BinOp->Bool
  | .and | .or | .xor | .andNot=>true
  |_=>false
theorem Rf:∀{op:BinOp},Ci op=true->(match op with | .and | .or | .xor | .andNot=>true |_=>false)=true:=by intro op;cases op <;> intro h <;> first |rfl |cases h
def sS(op:BinOp)(x y:ai2)(k k':IntKind)(a b:Int):Option V1:=match op with
  | .add | .sub | .mul=>match ad9 (ee k) (ee k')with
    |true=>wI (k.wrap (fu op a b)) fun z=>some ⟨.v (.int k z),ai x++ai y,[]⟩
    |false=>none
  | .quo=>match ad9 (ee k) (ee k')with
    |true=>match b with
      | .ofNat 0=>none
      |b=>wI (k.wrap (a.tdiv b)) fun z=>some ⟨.v (.int k z),ai x++ai y,[]⟩
    |false=>none
  | .rem=>match ad9 (ee k) (ee k')with
    |true=>match b with
      | .ofNat 0=>none
      |b=>wI (a.tmod b) fun z=>some ⟨.v (.int k z),ai x++ai y,[]⟩
    |false=>none
  | .shl=>match b with
    | .ofNat n=>wI (k.wrap (a*2^(min n k.bits))) fun z=>some ⟨.v (.int k z),ai x++ai y,[]⟩
    | .negSucc _=>none
  | .shr=>match b with
    | .ofNat n=>wI (a.fdiv (2^(min n k.bits))) fun z=>some ⟨.v (.int k z),ai x++ai y,[]⟩
    | .negSucc _=>none
  | .eql | .neq | .lss | .leq | .gtr | .geq=>match ad9 (ee k) (ee k')with
    |true=>match aa op a b with
      |true=>some ⟨.v (.bool true),ai x++ai y,[]⟩
      |false=>some ⟨.v (.bool false),ai x++ai y,[]⟩
    |false=>none
  |op=>match Ci op&&ad9 (ee k) (ee k')with
    |true=>wI (nG op k a b) fun z=>some ⟨.v (.int k z),ai x++ai y,[]⟩
    |false=>none
section
variable{s:AS}{R:Array Oper}{d:Nat}{t T:ai4}{pos:String}{after:Array Edge}
theorem Rx{op:BinOp}{x y:ai2}{k k':IntKind}{a b:Int}{S:ai4}{r:V1}(hx:Ev s x (.v (.int k a)))(hy:Ev s y (.v (.int k' b)))(h:sS op x y k k' a b=some r)(hN:aem d N=true) :
  Step P N R s ⟨some d,.binOp op S x y T,t,pos,after,none⟩ ⟨some r.x,[],r.rt,r.rd⟩:=by
 have hc:∀(op:BinOp),Al op=true->(match ad9 (ee k) (ee k')with
  |true=>match aa op a b with
   |true=>some (⟨.v (.bool true),ai x++ai y,[]⟩:V1)
   |false=>some ⟨.v (.bool false),ai x++ai y,[]⟩
  |false=>none)=some r->Step P N R s ⟨some d,.binOp op S x y T,t,pos,after,none⟩ ⟨some r.x,[],r.rt,r.rd⟩:=by
  intro op eh h';split at h'
  ·rename_i hk;cases ni hk;have:=I9 (P:=P) (R:=R) (op:=op) (S:=S) (T:=T) (t:=t) (pos:=pos) (after:=after) hx hy (by cases op <;> simp_all [Al]) hN;split at h'
   ·rename_i hb;cases h';rw[hb]at this;exact this
   ·rename_i hb;cases h';rw[hb]at this;exact this
  ·cases h'
 have ha:∀(op:BinOp),Fe op=true->(match ad9 (ee k) (ee k')with
  |true=>wI (k.wrap (fu op a b)) fun z=>some (⟨.v (.int k z),ai x++ai y,[]⟩:V1)
  |false=>none)=some r->Step P N R s ⟨some d,.binOp op S x y T,t,pos,after,none⟩ ⟨some r.x,[],r.rt,r.rd⟩:=by
  intro op eh h';split at h'
  ·rename_i hk;cases ni hk;rw[ma]at h';cases h';exact LW hx hy (JL eh) hN
  ·cases h'
 have hb:∀(op:BinOp),(match Ci op&&ad9 (ee k) (ee k')with
  |true=>wI (nG op k a b) fun z=>some (⟨.v (.int k z),ai x++ai y,[]⟩:V1)
  |false=>none)=some r->Step P N R s ⟨some d,.binOp op S x y T,t,pos,after,none⟩ ⟨some r.x,[],r.rt,r.rd⟩:=by
  intro op h';split at h'
  ·rename_i hk;simp only[ahj]at hk;cases ni hk.2;rw[ma]at h';cases h';exact MP hx hy (Rf hk.1) hN
  ·cases h'
 cases op with
 |add=>exact ha _ rfl h
 |sub=>exact ha _ rfl h
 |mul=>exact ha _ rfl h
 |quo =>
  simp only[sS]at h;split at h
  ·rename_i hk;cases ni hk;split at h
   ·cases h
   ·rename_i iA;rw[ma]at h;cases h
    exact G8 hx hy (fun e=>iA (by rw[e];rfl)) hN
  ·cases h
 |rem =>
  simp only[sS]at h;split at h
  ·rename_i hk;cases ni hk;split at h
   ·cases h
   ·rename_i iA;rw[ma]at h;cases h
    exact Oi hx hy (fun e=>iA (by rw[e];rfl)) hN
  ·cases h
 |shl =>
  simp only[sS]at h;split at h
  ·rename_i n;rw[ma]at h;obtain rfl:=Option.some.inj h;have:=GK (P:=P) (R:=R) (S:=S) (T:=T) (t:=t) (pos:=pos) (after:=after) hx hy (af7 n) hN;simp only[af0,aij]at this;exact this
  ·cases h
 |shr =>
  simp only[sS]at h;split at h
  ·rename_i n;rw[ma]at h;obtain rfl:=Option.some.inj h;have:=GC (P:=P) (R:=R) (S:=S) (T:=T) (t:=t) (pos:=pos) (after:=after) hx hy (af7 n) hN;simp only[af0,aij]at this;exact this
  ·cases h
 |eql=>exact hc _ rfl h
 |neq=>exact hc _ rfl h
 |lss=>exact hc _ rfl h
 |leq=>exact hc _ rfl h
 |gtr=>exact hc _ rfl h
 |geq=>exact hc _ rfl h
 |_=>exact hb _ h
end
def q9(op:BinOp)(b:Bool):Bool:=match op with
  | .eql=>b
  |_=>!b
def EW:AV->Option Bool
  | .v (.slice none 0 0)=>some true
  | .lst _ (_::_)=>some false
  | .ms _ _ _ (_+1)=>some false
  |_=>none
theorem Uy{S:ai4}{w:ai6}{E:ai4}(h3:(underlying S).run P w=.ok (.slice E) w){a:Option Addr}{n c:Nat} :
  (Op.equal S (.slice a n c) (.slice none 0 0)).run P w=.ok a.isNone w:=by
 show(Op.equalIn (9999+1) S _ _).run P w=_;rw[Op.equalIn];cases a <;> simp[h3]
theorem Qn{s:AS}{R:Array Oper}{d:Nat}{x:ai2}{xv:AV}{b:Bool}{op:BinOp}{S T t E:ai4}{ti:TI}{pos:String}{after:Array Edge}(eh:op=.eql\/op=.neq)
  (hx:Ev s x xv) (hv:EW xv=some b) (hS:aq P S=some ti) (hk:ti.k=.slice E) (hN:aem d N=true) :
  Step P N R s ⟨some d,.binOp op S x (.const (.slice none 0 0)) T,t,pos,after,none⟩ ⟨some (.v (.bool (q9 op b))),[],ai x,[]⟩ :=
 cA rfl rfl hN fun s' am C m a w hr=>⟨.bool (q9 op b),by
  have h:=(hx.agree am (fun _ h=>h)).rep hr;obtain⟨d2,h3,h4,-,-⟩:=cM hS w;obtain rfl:=gI (h4.trans hk);have h2:a.eval (.const (.slice none 0 0))=.slice none 0 0:=rfl
  obtain⟨ad,n,c,he,hb⟩:∃ad n c,a.eval x=.slice ad n c/\ad.isNone=b:=by
   generalize a.eval x=u at h;unfold EW at hv;split at hv
   ·cases hv;cases h;exact⟨_,_,_,rfl,rfl⟩
   ·cases hv;cases h with
    |lst u hb hc hl hs h1 hu hr=>exact⟨_,_,_,rfl,rfl⟩
   ·cases hv;cases h with
    |ms hm hc hS=>exact⟨_,_,_,rfl,rfl⟩
   ·cases hv
  have h5:=Uy (P:=P) (a:=ad) (n:=n) (c:=c) h3;rcases eh with rfl |rfl <;> simp[execOp,he,h2,eqGuard,binOp,h5,hb,q9],.v _⟩
theorem TD{s:AS}{R:Array Oper}{d:Nat}{x:ai2}{lo hi:Option ai2}{T E t:ai4}{ti te:TI}{pos:String}{after:Array Edge}
  (hx:Ev s x (.v (.slice none 0 0))) (hl:EvI s lo 0 0) (hh:EvI s hi 0 0) (hT:aq P T=some ti) (hk:ti.k=.slice E) (hE:aq P E=some te) (hN:aem d N=true) :
  Step P N R s ⟨some d,.slice T x lo hi none,t,pos,after,none⟩ ⟨some (.v (.slice none 0 0)),[],ai x++(jM lo++jM hi),[]⟩ :=
 cA rfl rfl hN fun s' am C m a w hr=>by
  have db:=m9 hr (hx.agree am (fun _ h=>ahn.2 (.inl h)));have hl':=hl.agree am (fun _ h=>ahn.2 (.inr (ahn.2 (.inl h))));have hh':=hh.agree am (fun _ h=>ahn.2 (.inr (ahn.2 (.inr h))));obtain⟨d2,hu,h3,-,-⟩:=cM hT w;obtain rfl:=gI (h3.trans hk);have:=vz (P:=P) hr (cap:=0) true hl' hh' (ahr _) (ahr _);exact⟨.slice none 0 0,by simp[execOp,db,Instr.sliceAt,hu,Instr.slice,this,eM hE],.v _⟩
theorem Wt{s:AS}{R:Array Oper}{d:Nat}{x:ai2}{k1 k2:IntKind}{sz:Nat}{es:List AV}{T E t:ai4}{ti te:TI}{pos:String}{after:Array Edge}
  (hx:Ev s x (.lst sz es)) (hT:aq P T=some ti) (hk:ti.k=.slice E) (hE:aq P E=some te) (aN:te.size=sz) (hN:aem d N=true) :
  Step P N R s ⟨some d,.slice T x none (some (.const (.int k1 0))) (some (.const (.int k2 0))),t,pos,after,none⟩ ⟨some (.ms d sz 0 0),[(d,some (.row sz []))],ai x,[]⟩:=by
 refine w7 rfl ?_;intro s' am bj C m a w next hC hr hnext
 have hfr:s'.Fresh d:=by
  rcases bj d (by simp)with h |h
  ·cases h
  ·exact h
 have di:=(hx.agree am (fun _ h=>h)).rep hr;obtain⟨d2,hu,h3,-,-⟩:=cM hT w;obtain rfl:=gI (h3.trans hk)
 obtain⟨ad,n,c,he⟩:∃ad n c,a.eval x=.slice ad n c:=by
  generalize a.eval x=u at di;cases di with
  |lst0 a cap=>exact⟨_,_,_,rfl⟩
  |lst u hb hc hl hs h1 hu hr=>exact⟨_,_,_,rfl⟩
 have e1:a.eval (.const (.int k1 0))=.int k1 0:=rfl;have e2:a.eval (.const (.int k2 0))=.int k2 0:=rfl
 have kl:(execOp a.eval ⟨some d,.slice T x none (some (.const (.int k1 0))) (some (.const (.int k2 0))),t,pos,after,none⟩).run P w=.ok (.value (.slice ad 0 0)) w:=by
  simp[execOp,he,e1,e2,Instr.sliceAt,hu,Instr.slice,Instr.sliceBounds,Instr.sliceBound,asIntOf,eM hE]
 rw[kl];rw[adx]at hN;simp only[Oper.upon,Act.put];obtain⟨m2,h1⟩:∃m2,RelM C ⟨s'.sl,(d,some (.row sz []))::s'.hp⟩ m2 a w:=⟨_,hr.virt sz hfr⟩
 refine hnext m2 _ _ ?_
 have:=h1.put d (.slice ad 0 0) (some (.ms d sz 0 0)) (fun z hz=>by
  cases hz;exact⟨by have:=hr.nt;omega,.ms0 _ _ _ _⟩)
 simpa[AS.app]using this
variable[Inhabited (Tys P)]
def Je:BinOp->Bool
  | .eql | .neq=>true
  |_=>false
def ya:List UInt8->List UInt8->Bool
  |[],y=>match y with
    |[]=>true
    |_=>false
  |x::l,y=>match y with
    |x'::l'=>match ad9 x.toNat x'.toNat with
      |true=>ya l l'
      |false=>false
    |[]=>false
theorem BW:∀{a b:List UInt8},ya a b=(a==b)
 |[],[]=>rfl
 |[],_::_=>rfl
 |_::_,[]=>rfl
 |x::l,x'::l'=>by
  show(match ad9 x.toNat x'.toNat with |true=>ya l l' |false=>false)=_;cases h:ad9 x.toNat x'.toNat with
  |true =>
   have:x=x':=UInt8.toNat_inj.1 (ahi h);subst this;simp only[BW (a:=l)];simp
  |false =>
   have:x≠x':=fun e=>ad3 h (by rw[e])
   simp[this]
def nH(a b:ByteArray):Bool:=ya a.data.toList b.data.toList
theorem Du(a b:ByteArray):(a.toList==b.toList)=nH a b:=by
 unfold nH;rw[BW,ByteArray.toList_eq,ByteArray.toList_eq]
def Fx(P:ai5)[Inhabited (Tys P)](op:BinOp)(S:ai4)(x y:ai2)(vx vy:ai3):Option V1:=match vx with
  | .int k a=>match vy with
    | .int k' b=>sS op x y k k' a b
    |_=>none
  |vx=>match vy with
    | .nilIface=>match y with
      | .const _=>match ME vx with
        |true=>match bR P S with
          |some ti=>match ti.k with
            | .iface _=>match op with
              | .eql=>some ⟨.v (.bool (eK vx)),ai x++[],[]⟩
              | .neq=>some ⟨.v (.bool !(eK vx)),ai x++[],[]⟩
              |_=>none
            |_=>none
          |none=>none
        |false=>none
      |_=>none
    | .string b=>match vx with
      | .string a=>match op with
        | .eql=>match nH a b with
          |true=>some ⟨.v (.bool true),ai x++ai y,[]⟩
          |false=>some ⟨.v (.bool false),ai x++ai y,[]⟩
        | .neq=>match nH a b with
          |true=>some ⟨.v (.bool false),ai x++ai y,[]⟩
          |false=>some ⟨.v (.bool true),ai x++ai y,[]⟩
        |_=>none
      |_=>none
    |vy=>match sW P op S x y [] vx vy with
      |some r=>match r.ob with
        |[]=>some ⟨r.x,r.rt,r.rd⟩
        |_=>none
      |none=>none
def qu(P:ai5)[Inhabited (Tys P)](T sz:Nat):Bool:=match bR P T with
  |some ti=>match ti.k with
    | .slice E=>match bR P E with
      |some te=>ad9 te.size sz
      |none=>false
    |_=>false
  |none=>false
theorem uN{T sz:Nat}(h:qu P T sz=true):∃ti E te,aq P T=some ti/\ti.k=.slice E/\aq P E=some te/\te.size=sz:=by
 unfold qu at h;split at h
 ·rename_i ti bQ;split at h
  ·rename_i E hk;split at h
   ·rename_i te xp;exact⟨ti,E,te,bw bQ,hk,bw xp,ahi h⟩
   ·cases h
  ·cases h
 ·cases h
def oN(s:AS)(o:Option ai2)(d:Nat):Option Nat:=match o with
  |none=>some d
  |some x=>match cH s x with
    |some (.v (.int _ (.ofNat n)))=>some n
    |_=>none
theorem sC{s:AS}{o:Option ai2}{d n:Nat}(h:oN s o d=some n):EvI s o d n:=by
 cases o with
 |none=>cases h;exact .none d
 |some x =>
  simp only[oN]at h;split at h
  ·rename_i hx;cases h;exact .some (i:=Int.ofNat n) d (bi hx) (af7 _)
  ·cases h
def Ec(ti:TI)(l:List AV):Option AV:=match ti.ag with
  |true=>match iI (l.take ti.size)with
    |some r=>some (.agg r)
    |none=>none
  |false=>match ad9 ti.size 1 with
    |true=>match l with
      |x::_=>some x
      |[]=>none
    |false=>none
theorem TB{ti:TI}{l:List AV}{x:AV}(h:Ec ti l=some x):(ti.ag||ad9 ti.size 1)=true/\x=j8 ti.ag (l.take ti.size):=by
 unfold Ec at h;split at h
 ·rename_i ha;split at h
  ·rename_i r hr;cases h;rw[ha,ju hr];exact⟨rfl,rfl⟩
  ·cases h
 ·rename_i ha;split at h
  ·rename_i h1;split at h
   ·cases h;rw[ha,ahi h1];exact⟨rfl,rfl⟩
   ·cases h
  ·cases h
def tD:List AV->List AV->Option (List ai3×List Nat)
  |[],[]=>some ([],[])
  | .v (.int .i64 a)::l,.v (.int .i64 b)::l'=>match a==b with
    |true=>match tD l l' with
      |some (vs,ks)=>some (.int .i64 a::vs,1::ks)
      |none=>none
    |false=>none
  | .v (.string a)::l,.v (.string b)::l'=>match nH a b with
    |true=>match tD l l' with
      |some (vs,ks)=>some (.string a::vs,2::ks)
      |none=>none
    |false=>none
  |_,_=>none
theorem Za{a b:ByteArray}(h:nH a b=true):a=b:=by
 rw[<- Du,beq_iff_eq,ByteArray.toList_eq,ByteArray.toList_eq]at h;cases a;cases b;congr 1
 exact Array.ext' h
theorem DB:∀{l l':List AV}{vs:List ai3}{ks:List Nat},tD l l'=some (vs,ks)->l=vs.map .v/\l'=vs.map .v/\vs.map vk=ks
 |[],[],_,_,h=>by cases h;exact⟨rfl,rfl,rfl⟩
 | .v (.int .i64 a)::l,.v (.int .i64 b)::l',_,_,h=>by
  rw[tD]at h;split at h
  ·rename_i he;split at h
   ·rename_i vs ks hs;obtain⟨h1,h2,h3⟩:=DB hs;cases h;cases eq_of_beq he;exact⟨by rw[h1];rfl,by rw[h2];rfl,by rw[<- h3];rfl⟩
   ·cases h
  ·cases h
 | .v (.string a)::l,.v (.string b)::l',_,_,h=>by
  rw[tD]at h;split at h
  ·rename_i he;split at h
   ·rename_i vs ks hs;obtain⟨h1,h2,h3⟩:=DB hs;cases h;cases Za he;exact⟨by rw[h1];rfl,by rw[h2];rfl,by rw[<- h3];rfl⟩
   ·cases h
  ·cases h
def Fl(P:ai5)(op:BinOp)(S:ai4)(x y:ai2)(cs cs':List AV):Option V1:=match op with
  | .neq=>match tD cs cs' with
    |some (_,ks)=>match zX P S ks with
      |true=>some ⟨.v (.bool false),ai x++ai y,[]⟩
      |false=>none
    |none=>none
  |_=>none
omit [Inhabited (Tys P)] in
theorem YB{s:AS}{R:Array Oper}{d:Nat}{x y:ai2}{cs cs':List AV}{op:BinOp}{S T t:ai4}{pos:String}{after:Array Edge}{r:V1}(h:Fl P op S x y cs cs'=some r)
  (hx:Ev s x (.agg cs)) (hy:Ev s y (.agg cs')) (hN:aem d N=true):Step P N R s ⟨some d,.binOp op S x y T,t,pos,after,none⟩ ⟨some r.x,[],r.rt,r.rd⟩:=by
 unfold Fl at h;split at h
 ·split at h
  ·rename_i vs ks hs;obtain⟨h1,h2,h3⟩:=DB hs;subst h1;subst h2
   split at h
   ·rename_i hS;cases h;exact UJ hx hy h3 hS hN
   ·cases h
  ·cases h
 ·cases h
def zl(P:ai5)(t:ai4):Bool:=match P.underlying t with |some (.pointer _)=>true |_=>false
omit [Inhabited (Tys P)] in
theorem XA{t:ai4}(h:zl P t=true):P.underlying t=some (.pointer (P.pointee t)):=by
 unfold zl at h;split at h
 ·rename_i e he;rw[he];unfold Program.pointee;rw[he]
 ·cases h
omit [Inhabited (Tys P)] in
theorem Q5{s:AS}{R:Array Oper}{d:Nat}{x:ai2}{k off:Nat}{op:BinOp}{S T t:ai4}{pos:String}{after:Array Edge}(eh:op=.eql\/op=.neq)
  (hx:Ev s x (.ptr k off)) (hS:zl P S=true) (hN:aem d N=true) :
  Step P N R s ⟨some d,.binOp op S x (.const (.pointer none)) T,t,pos,after,none⟩ ⟨some (.v (.bool (q9 op false))),[],ai x,[]⟩ :=
 cA rfl rfl hN fun s' am C m a w hr=>⟨.bool (q9 op false),by
  have h:=(hx.agree am (fun _ h=>h)).rep hr;have h2:a.eval (.const (.pointer none))=.pointer none:=rfl;have hu:=XA hS;generalize ha:a.eval x=u at h;cases h;rcases eh with rfl |rfl
  ·simp[execOp,ha,h2,eqGuard,run_eql_pointer_nil w S _ hu,q9]
  ·simp[execOp,ha,h2,eqGuard,run_neq_pointer_nil w S _ hu,q9],.v _⟩
def BL(P:ai5)(op:BinOp)(S:ai4)(x y:ai2):Option V1:=match y with
  | .const (.pointer none)=>match Je op with
    |true=>match zl P S with
      |true=>match op with
        | .eql=>some ⟨.v (.bool false),ai x,[]⟩
        |_=>some ⟨.v (.bool true),ai x,[]⟩
      |false=>none
    |false=>none
  |_=>none
omit [Inhabited (Tys P)] in
theorem TV{s:AS}{R:Array Oper}{d:Nat}{x y:ai2}{k off:Nat}{op:BinOp}{S T t:ai4}{pos:String}{after:Array Edge}{r:V1}(h:BL P op S x y=some r)
  (hx:Ev s x (.ptr k off)) (hN:aem d N=true):Step P N R s ⟨some d,.binOp op S x y T,t,pos,after,none⟩ ⟨some r.x,[],r.rt,r.rd⟩:=by
 unfold BL at h;split at h
 ·split at h
  ·rename_i eh;have eh:op = .eql \/ op = .neq:=by cases op <;> first | exact .inl rfl | exact .inr rfl | cases eh
   split at h
   ·rename_i hS;have h9:=Q5 (P:=P) (R:=R) (T:=T) (t:=t) (pos:=pos) (after:=after) eh hx hS hN;rcases eh with rfl |rfl <;> (cases h;exact h9)
   ·cases h
  ·cases h
 ·cases h
def Iq(P:ai5)(op:BinOp)(S:ai4)(x y:ai2)(a b c e:Int):Option V1:=match op with
  | .eql=>match zY P S with
    |true=>match a==c&&b==e with
      |true=>some ⟨.v (.bool true),ai x++ai y,[]⟩
      |false=>some ⟨.v (.bool false),ai x++ai y,[]⟩
    |false=>none
  |_=>none
def vZ(P:ai5)[Inhabited (Tys P)](s:AS)(op:Op):Option V1:=match op with
  | .pick c x y=>match cH s c with
    |some (.v (.bool b))=>match b with
      |true=>match cH s x with
        |some (.v (.bool z))=>some ⟨.v (.bool z),ai c++(ai x++ai y),[]⟩
        |_=>none
      |false=>match cH s y with
        |some (.v (.bool z))=>some ⟨.v (.bool z),ai c++(ai x++ai y),[]⟩
        |_=>none
    |_=>none
  | .binOp op S x (.const (.slice none 0 0)) _=>match Je op with
    |true=>match cH s x with
      |some xv=>match EW xv with
        |some b=>match bR P S with
          |some ti=>match ti.k with
            | .slice _=>match op with
              | .eql=>some ⟨.v (.bool b),ai x,[]⟩
              |_=>match b with
                |true=>some ⟨.v (.bool false),ai x,[]⟩
                |false=>some ⟨.v (.bool true),ai x,[]⟩
            |_=>none
          |none=>none
        |none=>none
      |none=>none
    |false=>none
  | .binOp op S x y _=>match cH s x with
    |some (.v vx)=>match cH s y with
      |some (.v vy)=>Fx P op S x y vx vy
      |_=>none
    |some (.agg [.v (.int .i64 a),.v (.int .i64 b)])=>match cH s y with
      |some (.agg [.v (.int .i64 c),.v (.int .i64 e)])=>Iq P op S x y a b c e
      |_=>none
    |some (.ptr _ _)=>BL P op S x y
    |some (.agg cs)=>match cH s y with
      |some (.agg cs')=>Fl P op S x y cs cs'
      |_=>none
    |_=>none
  | .unOp .neg _ x=>match cH s x with
    |some (.v (.int k n))=>wI (k.wrap (0-n)) fun z=>some ⟨.v (.int k z),ai x,[]⟩
    |_=>none
  | .convert S T x=>match cH s x with
    |some (.v (.int _ n))=>match bR P S with
      |some _=>match bR P T with
        |some ti=>match ti.k with
          | .int k'=>wI (k'.wrap n) fun z=>some ⟨.v (.int k' z),ai x,[]⟩
          |_=>none
        |none=>none
      |none=>none
    |_=>none
  | .indexAddr T x ix=>match cH s ix with
    |some (.v (.int _ (.ofNat i)))=>match cH s x with
      |some (.lst sz es)=>match qu P T sz with
        |true=>match es[i]? with
          |some e=>some ⟨.iptr e.cells,ai x++ai ix,[]⟩
          |none=>none
        |false=>none
      |some (.ms k sz off len)=>match qu P T sz&&aem i len with
        |true=>wN (off+i) fun n=>some ⟨.eptr k sz n 0,ai x++ai ix,[]⟩
        |false=>none
      |some (.ptr k off)=>match bR P T with
        |some ti=>match ti.k with
          | .array n E=>match bR P E with
            |some te=>match aem i n with
              |true=>wN (off+i*te.size) fun m=>some ⟨.ptr k m,ai x++ai ix,[]⟩
              |false=>none
            |none=>none
          |_=>none
        |none=>none
      |_=>none
    |_=>none
  | .load T x=>match cH s x with
    |some (.eptr k sz i off)=>match s.blk k with
      |some (.row sz' es)=>match ad9 sz sz' with
        |true=>match es[i]? with
          |some e=>match bR P T with
            |some ti=>match Nat.ble (off+ti.size) e.cells.length with
              |true=>match Ec ti (e.cells.drop off)with
                |some v=>some ⟨v,ai x,[k]⟩
                |none=>none
              |false=>none
            |none=>none
          |none=>none
        |false=>none
      |_=>none
    |some y=>match bR P T with
      |some ti=>match r6 P s ti x [] y with
        |some r=>some ⟨r.x,r.rt,r.rd⟩
        |none=>none
      |none=>none
    |none=>none
  | .index T x ix=>match cH s ix with
    |some (.v (.int _ (.ofNat i)))=>match cH s x with
      |some (.v (.string b))=>match bR P T with
        |some ti=>match ti.k with
          | .string=>match aem i b.size with
            |true=>wN (b.data.getD i 0).toNat fun n=>some ⟨.v (.int .u8 (Int.ofNat n)),ai x++ai ix,[]⟩
            |false=>none
          |_=>none
        |none=>none
      |_=>none
    |_=>none
  | .slice T x lo hi none=>match cH s x with
    |some (.lst sz es)=>match oN s lo 0 with
      |some l=>match oN s hi es.length with
        |some h=>match qu P T sz&&Nat.ble l h&&Nat.ble h es.length with
          |true=>match iI ((es.drop l).take (h-l))with
            |some r=>some ⟨.lst sz r,ai x++(jM lo++jM hi),[]⟩
            |none=>none
          |false=>none
        |none=>none
      |none=>none
    |some (.v (.slice none 0 0))=>match oN s lo 0 with
      |some 0=>match oN s hi 0 with
        |some 0=>match bR P T with
          |some ti=>match ti.k with
            | .slice E=>match bR P E with
              |some _=>some ⟨.v (.slice none 0 0),ai x++(jM lo++jM hi),[]⟩
              |none=>none
            |_=>none
          |none=>none
        |_=>none
      |_=>none
    |some (.ms k sz off len)=>match oN s lo 0 with
      |some l=>match oN s hi len with
        |some h=>match qu P T sz&&Nat.ble l h&&Nat.ble h len with
          |true=>wN (off+l) fun a=>wN (h-l) fun b=>some ⟨.ms k sz a b,ai x++(jM lo++jM hi),[]⟩
          |false=>none
        |none=>none
      |none=>none
    |_=>none
  | .call ⟨.builtin .len,args,ts⟩=>match args.toList with
    |[x]=>match ts.toList with
      |[T]=>match cH s x with
        |some (.lst _ es)=>match bR P T with
          |some ti=>match ti.k with
            | .slice _=>wN es.length fun n=>some ⟨.v (.int .i64 (Int.ofNat n)),ai x,[]⟩
            |_=>none
          |none=>none
        |some y=>match sV P x T [] y with
          |some r=>some ⟨r.x,r.rt,r.rd⟩
          |none=>none
        |none=>none
      |_=>none
    |_=>none
  | .call ⟨.builtin .max,args,ts⟩=>match args.toList with
    |[x,y]=>match cH s x with
      |some (.v (.int .i64 a))=>match cH s y with
        |some (.v (.int .i64 b))=>wI (if b>a then b else a) fun z=>some ⟨.v (.int .i64 z),ai x++ai y,[]⟩
        |_=>none
      |_=>none
    |_=>none
  | .call ⟨.builtin .min,args,ts⟩=>match args.toList with
    |[x,y]=>match cH s x with
      |some (.v (.int .i64 a))=>match cH s y with
        |some (.v (.int .i64 b))=>wI (if b<a then b else a) fun z=>some ⟨.v (.int .i64 z),ai x++ai y,[]⟩
        |_=>none
      |_=>none
    |_=>none
  |op=>match vQ P false True s op with
    |some r=>match r.ob with
      |[]=>some ⟨r.x,r.rt,r.rd⟩
      |_=>none
    |none=>none
omit [Inhabited (Tys P)] in
theorem YM{N d:Nat}{s:AS}{R:Array Oper}{x y:ai2}{a b:Int}{t:ai4}{ts:Array ai4}{pos:String}{after:Array Edge}(hx:Ev s x (.v (.int .i64 a)))(hy:Ev s y (.v (.int .i64 b)))(hN:aem d N=true) :
  Step P N R s ⟨some d,.call ⟨.builtin .max,#[x,y],ts⟩,t,pos,after,none⟩ ⟨some (.v (.int .i64 (if b>a then b else a))),[],ai x++ai y,[]⟩ :=
 cA rfl rfl hN fun s' am C m ac w hr=>⟨.int .i64 (if b>a then b else a),by
  have h:=(hx.agree am (fun _ h=>ahn.2 (.inl h))).rep hr;have h':=(hy.agree am (fun _ h=>ahn.2 (.inr h))).rep hr;generalize hu:ac.eval x=u at h;generalize hv:ac.eval y=v at h';cases h;cases h'
  simp[execOp,resolve,hu,hv,invoke,builtin,Builtin.max_,Builtin.max2],.v _⟩
omit [Inhabited (Tys P)] in
theorem YQ{N d:Nat}{s:AS}{R:Array Oper}{x y:ai2}{a b:Int}{t:ai4}{ts:Array ai4}{pos:String}{after:Array Edge}(hx:Ev s x (.v (.int .i64 a)))(hy:Ev s y (.v (.int .i64 b)))(hN:aem d N=true) :
  Step P N R s ⟨some d,.call ⟨.builtin .min,#[x,y],ts⟩,t,pos,after,none⟩ ⟨some (.v (.int .i64 (if b<a then b else a))),[],ai x++ai y,[]⟩ :=
 cA rfl rfl hN fun s' am C m ac w hr=>⟨.int .i64 (if b<a then b else a),by
  have h:=(hx.agree am (fun _ h=>ahn.2 (.inl h))).rep hr;have h':=(hy.agree am (fun _ h=>ahn.2 (.inr h))).rep hr;generalize hu:ac.eval x=u at h;generalize hv:ac.eval y=v at h';cases h;cases h'
  simp[execOp,resolve,hu,hv,invoke,builtin,Builtin.min_,Builtin.min2],.v _⟩
section
variable{s:AS}{R:Array Oper}{d:Nat}{t T:ai4}{pos:String}{after:Array Edge}
theorem Vg{op:BinOp}{x y:ai2}{vx vy:ai3}{S:ai4}{r:V1}(hx:Ev s x (.v vx))(hy:Ev s y (.v vy))(h:Fx P op S x y vx vy=some r)(hN:aem d N=true) :
  Step P N R s ⟨some d,.binOp op S x y T,t,pos,after,none⟩ ⟨some r.x,[],r.rt,r.rd⟩:=by
 unfold Fx at h;split at h
 ·split at h
  ·exact Rx hx hy h hN
  ·cases h
 ·split at h
  ·split at h
   ·rename_i c;have hc:c = .nilIface:=by cases hy; rfl
    subst hc;split at h
    ·rename_i he;split at h
     ·rename_i ti bQ;split at h
      ·rename_i hk;split at h
       ·cases h;exact Ni hx (Id he) (bw bQ) hk hN
       ·cases h;exact HS hx (Id he) (bw bQ) hk hN
       ·cases h
      ·cases h
     ·cases h
    ·cases h
   ·cases h
  ·split at h
   ·split at h
    ·have h9:=KQ (P:=P) (R:=R) (S:=S) (T:=T) (t:=t) (pos:=pos) (after:=after) hx hy hN;rw[Du]at h9;split at h
     ·rename_i hb;rw[hb]at h9;cases h;exact h9
     ·rename_i hb;rw[hb]at h9;cases h;exact h9
    ·have h9:=Mf (P:=P) (R:=R) (S:=S) (T:=T) (t:=t) (pos:=pos) (after:=after) hx hy hN;rw[Du]at h9;split at h
     ·rename_i hb;rw[hb]at h9;cases h;exact h9
     ·rename_i hb;rw[hb]at h9;cases h;exact h9
    ·cases h
   ·cases h
  ·split at h
   ·rename_i r' h1;split at h
    ·rename_i ho;cases h;exact I2 hx hy h1 (by rw[ho];exact .nil) hN
    ·cases h
   ·cases h
theorem Eb{op:Op}{r:V1}(h:vZ P s op=some r)(hN:aem d N=true):Step P N R s ⟨some d,op,t,pos,after,none⟩ ⟨some r.x,[],r.rt,r.rd⟩:=by
 unfold vZ at h;split at h
 ·split at h
  ·rename_i hc;split at h
   ·split at h
    ·rename_i z hz;cases h
     exact EG (bz:=z) (bi hc) (fun _=>bi hz) (fun e=>by cases e) hN
    ·cases h
   ·split at h
    ·rename_i z hz;cases h
     exact EG (bx:=z) (bi hc) (fun e=>by cases e) (fun _=>bi hz) hN
    ·cases h
  ·cases h
 ·rename_i op S x T;split at h
  ·rename_i eh;have eh:op = .eql \/ op = .neq:=by cases op <;> first | exact .inl rfl | exact .inr rfl | cases eh
   split at h
   ·rename_i xv hx;split at h
    ·rename_i b hv;split at h
     ·rename_i ti bQ;split at h
      ·rename_i hk;have h9:=Qn (P:=P) (R:=R) (T:=T) (t:=t) (pos:=pos) (after:=after) eh (bi hx) hv (bw bQ) hk hN;rcases eh with rfl |rfl
       ·cases h;exact h9
       ·cases b <;> (cases h;exact h9)
      ·cases h
     ·cases h
    ·cases h
   ·cases h
  ·cases h
 ·rename_i T aG;split at h
  ·rename_i hx;split at h
   ·rename_i hy;exact Vg (bi hx) (bi hy) h hN
   ·cases h
  ·rename_i hx;split at h
   ·rename_i hy;unfold Iq at h;split at h
    ·split at h
     ·rename_i he;have h9:=XV (P:=P) (R:=R) (T:=T) (t:=t) (pos:=pos) (after:=after) (bi hx) (bi hy) he hN;split at h
      ·rename_i hb;rw[hb]at h9;cases h;exact h9
      ·rename_i hb;rw[hb]at h9;cases h;exact h9
     ·cases h
    ·cases h
   ·cases h
  ·rename_i hx;exact TV h (bi hx) hN
  ·rename_i hx;split at h
   ·rename_i hy;exact YB h (bi hx) (bi hy) hN
   ·cases h
  ·cases h
 ·split at h
  ·rename_i hx;rw[ma]at h;cases h;exact yr (bi hx) hN
  ·cases h
 ·split at h
  ·rename_i hx;split at h
   ·rename_i hS;split at h
    ·rename_i hT;split at h
     ·rename_i hk;rw[ma]at h;cases h;exact Nf (bi hx) hN (bw hS) (bw hT) hk
     ·cases h
    ·cases h
   ·cases h
  ·cases h
 ·split at h
  ·rename_i i hi;split at h
   ·rename_i hx;split at h
    ·rename_i hs;obtain⟨ti,E,te,h1,h2,h3,h4⟩:=uN hs;split at h
     ·rename_i e he;cases h
      exact Hy (i:=Int.ofNat i) (bi hx) (bi hi) h1 h2 h3 h4 (af7 _) he hN
     ·cases h
    ·cases h
   ·rename_i hx;split at h
    ·rename_i hs;simp only[ahj,adx]at hs;obtain⟨ti,E,te,h1,h2,h3,h4⟩:=uN hs.1;rw[oP]at h;cases h
     exact m5 (i:=Int.ofNat i) (bi hx) (bi hi) h1 h2 h3 h4 (af7 _) (Int.ofNat_lt.2 hs.2) hN
    ·cases h
   ·rename_i hx;split at h
    ·rename_i hT;split at h
     ·rename_i hk;split at h
      ·rename_i hE;split at h
       ·rename_i hlt;rw[oP]at h;cases h
        exact VE (i:=Int.ofNat i) (bi hx) (bi hi) (bw hT) hk (bw hE) rfl (af7 _) (Int.ofNat_lt.2 (by rw[adx]at hlt;exact hlt)) hN
       ·cases h
      ·cases h
     ·cases h
    ·cases h
   ·cases h
  ·cases h
 ·split at h
  ·rename_i hx;split at h
   ·rename_i hk;split at h
    ·rename_i hs;split at h
     ·rename_i e he;split at h
      ·rename_i ti hT;split at h
       ·rename_i bA;split at h
        ·rename_i v hv;cases h;cases ahi hs;obtain⟨h1,rfl⟩:=TB hv;exact dx (bi hx) hk he (bw hT) bA h1 hN
        ·cases h
       ·cases h
      ·cases h
     ·cases h
    ·cases h
   ·cases h
  ·rename_i hx;split at h
   ·rename_i ti hT;split at h
    ·rename_i h1;cases h;exact Il (bi hx) (bw hT) h1 hN
    ·cases h
   ·cases h
  ·cases h
 ·split at h
  ·rename_i i hi;split at h
   ·rename_i hx;split at h
    ·rename_i ti hT;split at h
     ·rename_i hk;split at h
      ·rename_i hb;rw[adx]at hb;rw[oP]at h;cases h
       exact wP (i:=Int.ofNat i) (bi hx) (bi hi) (bw hT) hk (af7 _) (Int.ofNat_lt.2 hb) hN
      ·cases h
     ·cases h
    ·cases h
   ·cases h
  ·cases h
 ·split at h
  ·rename_i hx;split at h
   ·rename_i l hl;split at h
    ·rename_i hh Gs;split at h
     ·rename_i hs;simp only[ahj,aee]at hs;obtain⟨ti,E,te,h1,h2,h3,h4⟩:=uN hs.1.1;split at h
      ·rename_i hr;cases h;cases ju hr
       exact eF (bi hx) (sC hl) (sC Gs) h1 h2 h3 h4 hs.1.2 hs.2 hN
      ·cases h
     ·cases h
    ·cases h
   ·cases h
  ·rename_i hx;split at h
   ·rename_i hl;split at h
    ·rename_i hh;split at h
     ·rename_i ti hT;split at h
      ·rename_i E hk;split at h
       ·rename_i te hE;cases h;exact TD (bi hx) (sC hl) (sC hh) (bw hT) hk (bw hE) hN
       ·cases h
      ·cases h
     ·cases h
    ·cases h
   ·cases h
  ·rename_i hx;split at h
   ·rename_i l hl;split at h
    ·rename_i hh Gs;split at h
     ·rename_i hs;simp only[ahj,aee]at hs;obtain⟨ti,E,te,h1,h2,h3,h4⟩:=uN hs.1.1;rw[oP,oP]at h;cases h
      exact qN (bi hx) (sC hl) (sC Gs) h1 h2 h3 h4 hs.1.2 hs.2 hN
     ·cases h
    ·cases h
   ·cases h
  ·cases h
 ·rename_i args ts;split at h
  ·rename_i x hx;split at h
   ·rename_i T hT;have e1:args = #[x]:=by apply ag5.1; simpa using hx
    have e2:ts=#[T]:=by apply ag5.1;simpa using hT
    subst e1;subst e2
    split at h
    ·rename_i h1;split at h
     ·rename_i ti bQ;split at h
      ·rename_i hk;rw[oP]at h;cases h;exact Hw (bi h1) (bw bQ) hk hN
      ·cases h
     ·cases h
    ·rename_i h1;split at h
     ·rename_i h2;cases h;exact Kh (bi h1) h2 hN
     ·cases h
    ·cases h
   ·cases h
  ·cases h
 ·rename_i args ts;split at h
  ·rename_i x y hx;split at h
   ·rename_i h1;split at h
    ·rename_i h2;have e1:args = #[x,y]:=by apply ag5.1; simpa using hx
     subst e1;rw[ma]at h;cases h;exact YM (bi h1) (bi h2) hN
    ·cases h
   ·cases h
  ·cases h
 ·rename_i args ts;split at h
  ·rename_i x y hx;split at h
   ·rename_i h1;split at h
    ·rename_i h2;have e1:args = #[x,y]:=by apply ag5.1; simpa using hx
     subst e1;rw[ma]at h;cases h;exact YQ (bi h1) (bi h2) hN
    ·cases h
   ·cases h
  ·cases h
 ·split at h
  ·rename_i h1;split at h
   ·rename_i ho;cases h;exact z7 h1 (by rw[ho];exact .nil) trivial hN
   ·cases h
  ·cases h
end
end Go.Lw
namespace Go.Lw
variable{P:ai5}{N:Nat}
def tr(a b k:Nat):Nat:=match ad9 k a with
  |true=>b
  |false=>match ad9 k b with
    |true=>a
    |false=>k
theorem Vv(a b k:Nat):tr a b k=if k=a then b else if k=b then a else k:=by
 unfold tr;split
 ·rename_i h;rw[ait (ahi h)]
 ·rename_i h;rw[ais (ad3 h)]
  split
  ·rename_i h;rw[ait (ahi h)]
  ·rename_i h;rw[ais (ad3 h)]
theorem zd(a b k:Nat):tr a b (tr a b k)=k:=by
 simp only[Vv]
 by_cases h1:k=a
 ·subst h1
  by_cases h2:b=k
  ·simp[h2]
  ·simp[h2]
 ·by_cases h2:k=b
  ·subst h2;simp[h1]
  ·simp[h1,h2]
theorem JD{σ:Nat->Nat}(hσ:∀k,σ (σ k)=k):∀H:Hp,fV σ (fV σ H)=H
 |[]=>rfl
 |(k,x)::l=>by
  simp only[fV,hσ,JD hσ l];cases x with
  |none=>rfl
  |some x=>simp only[Blk.pm_pm hσ]
def tA:List (Nat×Nat)->List AV->List AV
  |[],xs=>xs
  |p::L,xs=>tA L (xs.map (AV.pm (tr p.1 p.2)))
def tH:List (Nat×Nat)->Hp->Hp
  |[],H=>H
  |p::L,H=>tH L (fV (tr p.1 p.2) H)
def rB:List (Nat×Nat)->AV->AV
  |[],r=>r
  |p::L,r=>(rB L r).pm (tr p.1 p.2)
def hB:List (Nat×Nat)->Hp->Hp
  |[],H=>H
  |p::L,H=>fV (tr p.1 p.2) (hB L H)
theorem IJ{f:FuncId}:∀{L:List (Nat×Nat)}{xs:List AV}{H H':Hp}{r:AV},Con P f (tA L xs) (tH L H) r H'->Con P f xs H (rB L r) (hB L H')
 |[],xs,H,H',r,h=>h
 |p::L,xs,H,H',r,h=>by
  have h1:=(IJ (L:=L) h).pm (zd p.1 p.2);rw[JD (zd p.1 p.2),map_map]at h1;have e:(AV.pm (tr p.1 p.2) ∘ AV.pm (tr p.1 p.2))=id:=by funext x;exact AV.pm_pm (zd p.1 p.2) x
  rw[e,List.map_id]at h1;exact h1
def JA:Nat->List Nat->List (Nat×Nat)
  |_,[]=>[]
  |b,k::ks=>(k,b)::JA (b+1) ks
def j7(k:Nat):List Nat->Bool
  |[]=>false
  |x::l=>match ad9 k x with
    |true=>true
    |false=>j7 k l
def tF(s:AS):Nat->List Nat->List Nat->List Nat
  |0,_,acc=>acc
  |n+1,ks,acc=>match ks with
    |[]=>acc
    |k::ks=>match j7 k acc with
      |true=>tF s n ks acc
      |false=>match s.blk k with
        |some z=>tF s n (z.nm++ks) (acc++[k])
        |none=>tF s n ks acc
def q6(s:AS):List Nat->Hp
  |[]=>[]
  |k::ks=>match s.blk k with
    |some z=>(k,some z)::q6 s ks
    |none=>q6 s ks
theorem vJ{s:AS}:∀{ks:List Nat}{k:Nat}{z:Blk},lk (q6 s ks) k=some z->lk s.hp k=some z
 |[],k,z,h=>by cases h
 |k'::ks,k,z,h=>by
  unfold q6 at h;split at h
  ·rename_i y hy;rw[aA]at h;split at h
   ·rename_i e;cases h;rw[e];exact hy
   ·exact vJ h
  ·exact vJ h
structure Ent(P:ai5) where
  f:FuncId
  xs:List AV
  r:AV
  H':Hp
  con:Con P f xs [] r H'
structure FE(P:ai5) where
  f:FuncId
  fn:Func
  c:Code
  rs:List ResultVar
  hf:P.funcs[f]?=some fn
  hb:fn.body=some c
  hn : (fn.name == "runtime.NumGoroutine") = false
  hrs:fn.results=rs.toArray
structure Env(P:ai5) where
  orc:FuncId->Option (List AV->Option (Ent P))
  fe:FuncId->Option (FE P)
  mt:FuncId->Bool
def eH:ai3->ai3->Bool
  | .int k a,.int k' b=>ad9 (ee k) (ee k')&&aa .eql a b
  | .bool a,.bool b=>a==b
  | .nilIface,.nilIface=>true
  | .string a,.string b=>nH a b
  | .slice none 0 0,.slice none 0 0=>true
  | .func (.func f) ⟨[]⟩ ⟨[]⟩,.func (.func g) ⟨[]⟩ ⟨[]⟩=>ad9 f g
  | .nilFunc,.nilFunc=>true
  | .pointer none,.pointer none=>true
  | .iface T v,.iface T' v'=>ad9 T T'&&eH v v'
  |_,_=>false
theorem UF{a b:ByteArray}(h:nH a b=true):a=b:=by
 unfold nH at h;rw[BW]at h;have h:=eq_of_beq h;have e:∀c:ByteArray,c=⟨⟨c.data.toList⟩⟩:=fun c=>by cases c;rfl
 rw[e a,e b,h]
theorem xS:∀(a b:ai3),eH a b=true->a=b
 | .iface T v,b,h=>by
  cases b with
  |iface T' v' =>
   simp only[eH,ahj]at h;rw[ahi h.1,xS v v' h.2]
  |_=>simp[eH]at h
 | .int k a,b,h=>by
  cases b with
  |int k' b =>
   simp only[eH,ahj]at h;rw[ni h.1,eq_of_beq (show(a==b)=true from h.2)]
  |_=>simp[eH]at h
 | .bool a,b,h=>by
  cases b with
  |bool b=>simp only[eH,beq_iff_eq]at h;rw[h]
  |_=>simp[eH]at h
 | .string a,b,h=>by
  cases b with
  |string b=>simp only[eH]at h;rw[UF h]
  |_=>simp[eH]at h
 | .nilIface,b,h=>by
  cases b <;> simp[eH]at h
  rfl
 | .slice x n c,b,h=>by
  unfold eH at h;split at h <;> simp_all
 | .float ..,b,h=>by simp[eH]at h
 | .complex ..,b,h=>by simp[eH]at h
 | .pointer p,b,h=>by
  unfold eH at h;split at h <;> simp_all
 | .map _,b,h=>by simp[eH]at h
 | .chan _,b,h=>by simp[eH]at h
 | .func f x y,b,h=>by
  unfold eH at h;split at h <;> first |(simp_all;done) |(simp_all;exact ahi h)
 | .nilFunc,b,h=>by
  unfold eH at h;split at h <;> simp_all
 | .agg _,b,h=>by simp[eH]at h
 | .tuple _,b,h=>by simp[eH]at h
mutual
def en:AV->AV->Bool
  | .v a,y=>match y with
    | .v b=>eH a b
    | .lst _ es=>match es with
      |[]=>match a with
        | .slice _ 0 _=>true
        |_=>false
      |_=>false
    |_=>false
  | .lst sz es,y=>match y with
    | .lst sz' es'=>ad9 sz sz'&&qM es es'
    |_=>false
  | .agg cs,y=>match y with
    | .agg cs'=>qg cs cs'
    |_=>false
  | .tup cs,y=>match y with
    | .tup cs'=>tK cs cs'
    |_=>false
  |_,_=>false
def qg:List AV->List AV->Bool
  |[],y=>match y with
    |[]=>true
    |_=>false
  |x::l,y=>match y with
    |x'::l'=>x'.one&&en x x'&&qg l l'
    |[]=>false
def tK:List AV->List AV->Bool
  |[],y=>match y with
    |[]=>true
    |_=>false
  |x::l,y=>match y with
    |x'::l'=>en x x'&&tK l l'
    |[]=>false
def qM:List AV->List AV->Bool
  |[],y=>match y with
    |[]=>true
    |_=>false
  |x::l,y=>match y with
    |x'::l'=>f8 x x'&&qM l l'
    |[]=>false
def f8:AV->AV->Bool
  | .agg cs,y=>match y with
    | .agg cs'=>qg cs cs'
    |_=>false
  | .v a,y=>match y with
    | .v b=>eH a b&&b.oneCell'
    | .lst _ es=>match es with
      |[]=>match a with
        | .slice _ 0 _=>true
        |_=>false
      |_=>false
    |_=>false
  | .lst sz es,y=>match y with
    | .lst sz' es'=>ad9 sz sz'&&qM es es'
    |_=>false
  |_,_=>false
end
theorem JU{a:ai3}{y:AV}(h:en (.v a) y=true):Sub (.v a) y:=by
 cases y with
 |v b=>simp only[en]at h;rw[xS _ _ h];exact .refl _
 |lst sz es =>
  cases es with
  |nil =>
   cases a with
   |slice x n c =>
    cases n with
    |zero=>exact .nil _ _ _
    |succ n=>simp[en]at h
   |_=>simp[en]at h
  |cons e es=>simp[en]at h
 |_=>simp[en]at h
mutual
theorem Dt:∀(x y:AV),en x y=true->Sub x y
 | .v a,y,h=>JU h
 | .lst sz es,y,h=>by
  cases y with
  |lst sz' es' =>
   simp only[en,ahj]at h;cases ahi h.1;exact Sub.lst (ww es es' h.2).1 (ww es es' h.2).2
  |_=>simp[en]at h
 | .agg cs,y,h=>by
  cases y with
  |agg cs' =>
   simp only[en]at h;exact Sub.agg (Ae cs cs' h).1 (Ae cs cs' h).2
  |_=>simp[en]at h
 | .tup cs,y,h=>by
  cases y with
  |tup cs' =>
   simp only[en]at h;exact Sub.tup (LX cs cs' h)
  |_=>simp[en]at h
 | .iptr _,y,h=>by simp[en]at h
 | .ms ..,y,h=>by simp[en]at h
 | .ptr ..,y,h=>by simp[en]at h
 | .eptr ..,y,h=>by simp[en]at h
 | .fn ..,y,h=>by simp[en]at h
 | .opt ..,y,h=>by simp[en]at h
 | .yl ..,y,h=>by simp[en]at h
 | .cl ..,y,h=>by simp[en]at h
theorem Ae:∀(l l':List AV),qg l l'=true->SubL l l'/\l'.all AV.one=true
 |[],[],h=>⟨.nil,rfl⟩
 |[],_::_,h=>by simp[qg]at h
 |_::_,[],h=>by simp[qg]at h
 |x::l,x'::l',h=>by
  simp only[qg,ahj]at h;obtain⟨h1,h2⟩:=Ae l l' h.2;exact⟨.cons (Dt x x' h.1.2) h1,by simp only[List.all_cons,h.1.1,h2,Bool.and_self]⟩
theorem LX:∀(l l':List AV),tK l l'=true->SubL l l'
 |[],[],h=>.nil
 |[],_::_,h=>by simp[tK]at h
 |_::_,[],h=>by simp[tK]at h
 |x::l,x'::l',h=>by
  simp only[tK,ahj]at h;exact .cons (Dt x x' h.1) (LX l l' h.2)
theorem ww:∀(l l':List AV),qM l l'=true->l.length=l'.length/\∀(i:Nat)(e e':AV),l[i]?=some e->l'[i]?=some e'->i7 e e'
 |[],[],h=>⟨rfl,fun i e e' h=>by simp at h⟩
 |[],_::_,h=>by simp[qM]at h
 |_::_,[],h=>by simp[qM]at h
 |x::l,x'::l',h=>by
  simp only[qM,ahj]at h;obtain⟨h1,h2⟩:=ww l l' h.2;refine⟨by simp[h1],?_⟩;intro i e e' he he';cases i with
  |zero=>simp at he he';subst he;subst he';exact X0 x x' h.1
  |succ i=>exact h2 i e e' (by simpa using he) (by simpa using he')
theorem X0:∀(x y:AV),f8 x y=true->i7 x y
 | .v a,y,h=>by
  have one:∀{z:AV},z.cells=[z]->z.one=true->Sub (.v a) z->i7 (.v a) z:=by
   intro z h1 h2 h3;refine⟨by rw[h1];rfl,?_⟩;intro j x y hx hy;rw[h1]at hy;cases j with
   |zero=>simp[AV.cells]at hx hy;subst hx;subst hy;exact⟨h2,h3⟩
   |succ j=>simp at hy
  cases y with
  |v b =>
   simp only[f8,ahj]at h;exact one rfl h.2 (by rw[xS _ _ h.1];exact .refl _)
  |lst sz es =>
   refine one rfl rfl (JU ?_);cases es with
   |nil=>unfold f8 at h;unfold en;exact h
   |cons=>simp[f8]at h
  |_=>simp[f8]at h
 | .lst sz es,y,h=>by
  cases y with
  |lst sz' es' =>
   simp only[f8,ahj]at h;cases ahi h.1;refine⟨rfl,?_⟩;intro j x y hx hy;cases j with
   |zero =>
    simp[AV.cells]at hx hy;subst hx;subst hy
    exact⟨rfl,Sub.lst (ww es es' h.2).1 (ww es es' h.2).2⟩
   |succ j=>simp[AV.cells]at hy
  |_=>simp[f8]at h
 | .agg cs,y,h=>by
  cases y with
  |agg cs' =>
   simp only[f8]at h;obtain⟨h1,h2⟩:=Ae cs cs' h;exact⟨h1.len,fun j x y hx hy=>⟨ahs.1 h2 y (ahg hy),h1.get j x y hx hy⟩⟩
  |_=>simp[f8]at h
 | .tup ..,y,h=>by simp[f8]at h
 | .iptr _,y,h=>by simp[f8]at h
 | .ms ..,y,h=>by simp[f8]at h
 | .ptr ..,y,h=>by simp[f8]at h
 | .eptr ..,y,h=>by simp[f8]at h
 | .fn ..,y,h=>by simp[f8]at h
 | .opt ..,y,h=>by simp[f8]at h
 | .yl ..,y,h=>by simp[f8]at h
 | .cl ..,y,h=>by simp[f8]at h
end
end Go.Lw
namespace Go.Lw
variable{P:ai5}{N:Nat}{R:Array Oper}{s:AS}{pos:String}{after:Array Edge}
theorem Y5{d n:Nat}{os:List ai2}{es:List AV}{T E t:ai4}{ti te:TI}{parts:Array (Nat×ai2)}
  (hp:parts=(ko 0 os).toArray) (hx:EvL s os es) (hT:aq P T=some ti) (hk:ti.k=.slice E) (hE:aq P E=some te) (hz:te.zero.all Value.oneCell'=true)
  (aX:ad9 te.zero.length te.size=true) (ff:(es.all fun e=>ad9 e.cells.length te.size&&e.ok)=true) (hnm:AV.nms es=[])
  (hn:n=es.length) (hb:Nat.ble (n*te.size) 16777216=true) (hb':Nat.ble n 16777216=true) (hN:aem d N=true) :
  Step P N R s ⟨some d,.buildSlice T n parts,t,pos,after,none⟩ ⟨some (.ms d te.size 0 n),[(d,some (.row te.size es))],cB os,[]⟩ :=
 tX rfl rfl hN (by simp) fun s' am hfr C m a w hr => by
  subst hp;rw[aee]at hb hb';have hx':=hx.agree am (fun _ h=>h);obtain⟨c,h1,h2⟩:=Fg (w:=w) hT hk hE hz aX (fun o x h=>h.rep hr) hx' ff hn oz;refine⟨.slice (some ⟨w.heap.size,0,none⟩) n n,c,E,w.drawn,?_,fun h=>h,?_,?_⟩
  ·have : ((ko 0 os).toArray.map fun p => (p.1, a.eval p.2)) = ((ko 0 os).map fun p => (p.1, a.eval p.2)).toArray := by simp
   simp only[execOp,ai8,this,h1,ai7,ai9]
  ·intro g S m' w' hg hS hm hw;subst hn
   have FF:∀x∈fA es,x.nm=[]:=by
    have hh:=yG hnm;clear h2 h1 hx' hx ff hb hb' hnm am
    induction es with
    |nil=>intro x hx;cases hx
    |cons e es ih =>
     intro x hx;simp only[fA,ahn]at hx;rcases hx with hx |hx
     ·have := hh e (by simp)
      cases e <;> simp only[AV.cells,ae4]at hx <;> first
       |(subst hx;exact this)
       |(exact yG this x hx)
     ·exact ih (fun e he=>hh e (by simp[he])) x hx
   have h3:cS g S cQ c.toList (fA es):=h2.mono hg hS (fun x hx k b hk _=>by have:=hk.mem;rw[FF x hx]at this;cases this);have hs:=EV ff;have ch:=xY es hs;have aN:c.size=es.length*te.size:=by have:=h3.1;simp at this;omega
   have fd:∀(i j:Nat)(e x:AV),es[i]?=some e->e.cells[j]?=some x->∃u,c[i*te.size+j]?=some u/\x.one=true/\Rep g S cQ u x:=by
    intro i j e x he hx;have hf:=BP es hs i j e x he hx
    have hlt:i*te.size+j<(fA es).length:=by
     rcases ahq (i*te.size+j) (fA es).length with h |h
     ·exact h
     ·rw[aht h]at hf;cases hf
    have xf:i*te.size+j<c.size:=by omega
    refine⟨c[i*te.size+j],ag7 xf,h3.2.1 _ x hf,h3.2.2 _ _ x (by simp[xf]) hf⟩
   refine .row hw oz (by unfold az;omega) (fun i e he=>hs e (ahg he)) ?_ ?_
   ·intro i j e x he hx;obtain⟨u,_,h,_⟩:=fd i j e x he hx;exact h
   ·intro i j e u x he hx hu;obtain⟨u',h,_,h2⟩:=fd i j e x he hx;rw[hu]at h;cases h
    exact h2
  ·intro g S m' hm hS
   have:=Rep.ms (g:=g) (S:=S) (m:=m') (k:=d) (sz:=te.size) (off:=0) (len:=n) (cap:=n) hm (ahr _) (by
    have hl:=xY es (EV ff);have h9:=h2.1;have e:c.size=n*te.size:=by simp at h9;rw[hn];omega
    rw[aeg,<- e];exact hS)
   simpa using this
end Go.Lw
namespace Go.Lw
variable{P:ai5}{N:Nat}
inductive OR where
  |ok (u:Out)
  |need (k:Nat)
  |no
inductive CR where
  |ok (H:Hp) (r:AV) (H':Hp)
  |need (k:Nat)
  |no
def pc:List AV->List AV->Bool
  |[],y=>match y with
    |[]=>true
    |_=>false
  |x::l,y=>match y with
    |x'::l'=>en x x'&&pc l l'
    |[]=>false
theorem If:∀{l l':List AV},pc l l'=true->SubL l l'
 |[],[],h=>.nil
 |[],_::_,h=>by simp[pc]at h
 |_::_,[],h=>by simp[pc]at h
 |x::l,x'::l',h=>by
  simp only[pc,ahj]at h;exact .cons (Dt x x' h.1) (If h.2)
def mx:Nat->List Nat->Nat
  |m,[]=>m
  |m,k::l=>match aem m k&&aem k 1000 with
    |true=>mx k l
    |false=>mx m l
def Bs(s:AS):Nat->Nat->Nat
  |0,k=>k
  |n+1,k=>match s.freshB k with
    |true=>k
    |false=>Bs s n (k+1)
def nxt(s:AS)(av:List Nat):Nat:=Bs s 100 (mx (mx 299 (s.hp.map (·.1))) av+1)
mutual
theorem AV.pm_id(σ:Nat->Nat):∀x:AV,x.nm=[]->x.pm σ=x
 | .ms k sz off len,h=>by simp[AV.nm]at h
 | .ptr k off,h=>by simp[AV.nm]at h
 | .eptr k sz i off,h=>by simp[AV.nm]at h
 | .yl k,h=>by simp[AV.nm]at h
 | .agg cs,h=>by simp only[AV.pm];rw[AV.pms_id σ cs (by simpa only[AV.nm]using h)]
 | .tup cs,h=>by simp only[AV.pm];rw[AV.pms_id σ cs (by simpa only[AV.nm]using h)]
 | .fn f cs,h=>by simp only[AV.pm];rw[AV.pms_id σ cs (by simpa only[AV.nm]using h)]
 | .opt b x,h=>by simp only[AV.pm];rw[AV.pm_id σ x (by simpa only[AV.nm]using h)]
 | .v x,h=>rfl
 | .lst sz l,h=>rfl
 | .iptr l,h=>rfl
 | .cl f cs ds,h=>rfl
theorem AV.pms_id(σ:Nat->Nat):∀l:List AV,AV.nms l=[]->AV.pms σ l=l
 |[],h=>rfl
 |x::l,h=>by
  simp only[AV.nms,List.append_eq_nil_iff]at h;simp only[AV.pms];rw[AV.pm_id σ x h.1,AV.pms_id σ l h.2]
end
theorem Tv{f:FuncId}{xs:List AV}{r:AV}{H':Hp}(h:Con P f xs [] r H')(hx:AV.nms xs=[])(k d:Nat):Con P f xs [] (r.pm (tr k d)) (fV (tr k d) H'):=by
 have h1:=h.pm (zd k d);rw[<- AV.pms_eq,AV.pms_id _ xs hx]at h1;exact h1
abbrev gd:=List Nat->FuncId->List AV->Hp->Option (AV×Hp)
def gd.Ok(P:ai5)(F:gd):Prop:=∀av f xs H r H',F av f xs H=some (r,H')->Con P f xs H r H'
def Ho(s:AS):List Nat->Option Nat
  |[]=>none
  |k::ks=>match s.blk k with
    |some (.row _ _)=>some k
    |_=>Ho s ks
def Fs:bm->List Nat
  |[]=>[]
  |(_,x)::l=>match x with
    |some y=>y.nm++Fs l
    |none=>Fs l
def AA(F:gd)(s:AS)(av:List Nat)(f:FuncId)(xs:List AV):CR :=
  match q6 s (tF s 300 (AV.nms xs) [])with
  |H=>match F (s.hp.map (·.1)++(Fs s.sl++av)) f xs H with
    |some (r,H')=>.ok H r H'
    |none=>.no
def wb(E:Env P)(F:gd)(s:AS)(av:List Nat)(f:FuncId)(xs:List AV):CR:=match E.mt f with
  |true=>AA F s av f xs
  |false=>match Ho s (AV.nms xs)with
    |some k=>.need k
    |none=>AA F s av f xs
def qi(E:Env P)(F:gd)(s:AS)(av:List Nat)(f:FuncId)(xs:List AV):CR:=match E.orc f with
  |some g=>match AV.nms xs with
    |k::_=>.need k
    |[]=>match g xs with
      |some e=>match ad9 e.f f&&pc xs e.xs with
        |true=>match e.H' with
          |(k,some z)::l=>.ok [] (e.r.pm (tr k (nxt s av))) (fV (tr k (nxt s av)) e.H')
          |_=>.ok [] e.r e.H'
        |false=>wb E F s av f xs
      |none=>wb E F s av f xs
  |none=>wb E F s av f xs
theorem NQ{F:gd}(hF:F.Ok P){s:AS}{av:List Nat}{f:FuncId}{xs:List AV}{H H':Hp}{r:AV}(h:AA F s av f xs=.ok H r H'):Con P f xs H r H'/\∀k z,lk H k=some z->s.blk k=some z:=by
 unfold AA at h;simp only at h;split at h
 ·rename_i h1;cases h;exact⟨hF _ _ _ _ _ _ h1,fun k z hz=>vJ hz⟩
 ·cases h
theorem CI{E:Env P}{F:gd}(hF:F.Ok P){s:AS}{av:List Nat}{f:FuncId}{xs:List AV}{H H':Hp}{r:AV}(h:wb E F s av f xs=.ok H r H'):Con P f xs H r H'/\∀k z,lk H k=some z->s.blk k=some z:=by
 unfold wb at h;split at h
 ·exact NQ hF h
 ·split at h
  ·cases h
  ·exact NQ hF h
theorem vK{E:Env P}{F:gd}(hF:F.Ok P){s:AS}{av:List Nat}{f:FuncId}{xs:List AV}{H H':Hp}{r:AV}(h:qi E F s av f xs=.ok H r H'):Con P f xs H r H'/\∀k z,lk H k=some z->s.blk k=some z:=by
 unfold qi at h;split at h
 ·split at h
  ·cases h
  ·rename_i hn;split at h
   ·rename_i e he;split at h
    ·rename_i hc;simp only[ahj]at hc;have hf:=ahi hc.1;subst hf;have h9:=Con.sA (If hc.2) e.con;split at h
     ·rename_i k z l _;obtain⟨rfl,rfl,rfl⟩:=CR.ok.inj h;exact⟨Tv h9 hn _ _,fun k z hz=>by cases hz⟩
     ·obtain⟨rfl,rfl,rfl⟩:=CR.ok.inj h;exact⟨h9,fun k z hz=>by cases hz⟩
    ·exact CI hF h
   ·exact CI hF h
 ·exact CI hF h
theorem Si{s:AS}{R:Array Oper}{d q sz cap0:Nat}{a0:Option Addr}{xs:List AV}{x y:ai2}{T E t:ai4}{ti te:TI}{pos:String}{after:Array Edge}
  (hx:Ev s x (.v (.slice a0 0 0))) (hy:Ev s y (.lst sz xs)) (hT:aq P T=some ti) (iw:ti.k=.slice E) (hE:aq P E=some te)
  (aN:te.size=sz) (aX:(ad9 te.zero.length te.size&&aem 0 te.size&&aem 0 te.bytes)=true) (hb:(0+xs.length)*te.bytes<=140737488355328) (gS:ad9 d q=false)
  (hN:aem d N=true) :
  Step P N R s ⟨some d,.call ⟨.builtin .append,#[x,y],#[T,T]⟩,t,pos,after,none⟩
   ⟨some (.ms d sz 0 (0+xs.length)),[(d,some (.row sz ([]++xs))),(q,none)],ai x++ai y,[]⟩:=by
 refine⟨fun s' am bj C m a w Q next hC hr hnext=>?_⟩
 have hq:s'.Fresh q:=by
  rcases bj q (by simp)with h |h
  ·cases h
  ·exact h
 have hd:s'.Fresh d:=by
  rcases bj d (by simp)with h |h
  ·cases h
  ·exact h
 have hdq:=ad3 gS;have hx':=hx.agree am (fun _ h=>ahn.2 (.inl h));have hy':=hy.agree am (fun _ h=>ahn.2 (.inr h))
 let s2:AS:=⟨s'.sl,(q,some (.row sz []))::s'.hp⟩
 have evs:∀{o:ai2}{z:AV},Ev s' o z->Ev s2 o z:=fun h=>by
  cases h with
  |tmp h=>exact .tmp h
  |opt h hb=>exact .opt h hb
  |const c=>exact .const c
  |func f=>exact .func f
 have st:=N6 (P:=P) (N:=N) (R:=R) (s:=s2) (d:=d) (k:=q) (t:=t) (pos:=pos) (after:=after) (es:=[]) (evs hx') (fun g S m v h=>Sub.nM a0 q sz g S m v h) (by simp[s2,AS.blk,aA]) rfl (evs hy') hT iw hE aN aX hb gS hN;refine st.run s2 ⟨fun _ _=>rfl,fun _ _=>rfl⟩ ?_ C _ a w Q next hC (hr.virt sz hq) (fun m' a' w' hr'=>hnext m' a' w' ?_)
 ·intro k hk;simp only[aiq,List.map_nil,ah3,ahy,or_false]at hk;rcases hk with rfl |rfl
  ·exact .inr (Fresh.row hd hdq (fun h=>h))
  ·exact .inl (by simp)
 ·refine RelM.congr ?_ ?_ hr'
  ·intro t;rfl
  ·intro k;simp only[AS.app,AS.blk,s2,afj,nil_append,aA];split
   ·rfl
   ·split <;> rfl
mutual
def jq:AV->AV->Bool
  | .v a,y=>match y with
    | .v b=>eH a b
    |_=>false
  | .lst sz es,y=>match y with
    | .lst sz' es'=>ad9 sz sz'&&ky es es'
    |_=>false
  | .agg cs,y=>match y with
    | .agg cs'=>ky cs cs'
    |_=>false
  | .tup cs,y=>match y with
    | .tup cs'=>ky cs cs'
    |_=>false
  | .iptr cs,y=>match y with
    | .iptr cs'=>ky cs cs'
    |_=>false
  | .ms k sz off len,y=>match y with
    | .ms k' sz' off' len'=>ad9 k k'&&(ad9 sz sz'&&(ad9 off off'&&ad9 len len'))
    |_=>false
  | .ptr k off,y=>match y with
    | .ptr k' off'=>ad9 k k'&&ad9 off off'
    |_=>false
  | .eptr k sz i off,y=>match y with
    | .eptr k' sz' i' off'=>ad9 k k'&&(ad9 sz sz'&&(ad9 i i'&&ad9 off off'))
    |_=>false
  | .fn f cs,y=>match y with
    | .fn f' cs'=>ad9 f f'&&ky cs cs'
    |_=>false
  | .opt _ _,_=>false
  | .yl _,_=>false
  | .cl _ _ _,_=>false
def ky:List AV->List AV->Bool
  |[],y=>match y with
    |[]=>true
    |_=>false
  |x::l,y=>match y with
    |x'::l'=>jq x x'&&ky l l'
    |[]=>false
end
mutual
theorem Wp:∀(x y:AV),jq x y=true->x=y
 | .v a,y,h=>by cases y <;> simp[jq]at h;rw[xS _ _ h]
 | .lst sz es,y,h=>by
  cases y <;> simp only[jq,ahj,agv]at h
  rw[ahi h.1,oA _ _ h.2]
 | .agg cs,y,h=>by cases y <;> simp only[jq,agv]at h;rw[oA _ _ h]
 | .tup cs,y,h=>by cases y <;> simp only[jq,agv]at h;rw[oA _ _ h]
 | .iptr cs,y,h=>by cases y <;> simp only[jq,agv]at h;rw[oA _ _ h]
 | .ms k sz off len,y,h=>by
  cases y <;> simp only[jq,ahj,agv]at h
  rw[ahi h.1,ahi h.2.1,ahi h.2.2.1,ahi h.2.2.2]
 | .ptr k off,y,h=>by
  cases y <;> simp only[jq,ahj,agv]at h
  rw[ahi h.1,ahi h.2]
 | .eptr k sz i off,y,h=>by
  cases y <;> simp only[jq,ahj,agv]at h
  rw[ahi h.1,ahi h.2.1,ahi h.2.2.1,ahi h.2.2.2]
 | .fn f cs,y,h=>by
  cases y <;> simp only[jq,ahj,agv]at h
  rw[ahi h.1,oA _ _ h.2]
 | .opt ..,y,h=>by simp[jq]at h
 | .yl ..,y,h=>by simp[jq]at h
 | .cl ..,y,h=>by simp[jq]at h
theorem oA:∀(l l':List AV),ky l l'=true->l=l'
 |[],[],h=>rfl
 |[],_::_,h=>by simp[ky]at h
 |_::_,[],h=>by simp[ky]at h
 |x::l,x'::l',h=>by
  simp only[ky,ahj]at h;rw[Wp x x' h.1,oA l l' h.2]
end
def Dh:Blk->Blk->Bool
  | .box cs,.box cs'=>ky cs cs'
  | .row sz es,.row sz' es'=>ad9 sz sz'&&ky es es'
  |_,_=>false
theorem SW{x y:Blk}(h:Dh x y=true):x=y:=by
 cases x <;> cases y <;> simp only[Dh,agv]at h
 ·rw[oA _ _ h]
 ·simp only[ahj]at h;rw[ahi h.1,oA _ _ h.2]
theorem nE{k:Nat}:∀{l:List Nat},j7 k l=true↔k∈l
 |[]=>by simp[j7]
 |x::l=>by
  unfold j7;split
  ·rename_i h;simp[ahi h]
  ·rename_i h;rw[nE (l:=l)];simp[ad3 h]
def fN(H:Hp):List Nat->Hp->Hp
  |_,[]=>[]
  |seen,(k,x)::l=>match j7 k seen with
    |true=>fN H seen l
    |false=>match x with
      |some z=>match lk H k with
        |some y=>match Dh y z with
          |true=>fN H (k::seen) l
          |false=>(k,some z)::fN H (k::seen) l
        |none=>(k,some z)::fN H (k::seen) l
      |none=>(k,none)::fN H (k::seen) l
theorem C0{H R:Hp}(hR:∀t y,lk H t=some y->lk R t=some y):∀{l:Hp}{seen:List Nat}{t:Nat},t∉seen->lk (fN H seen l++R) t=if t∈l.map (·.1)then lk l t else lk R t
 |[],seen,t,h=>by simp[fN]
 |(k,x)::l,seen,t,h=>by
  have rest:t≠k->lk (fN H (k::seen) l++R) t=if t∈((k,x)::l).map (·.1)then lk ((k,x)::l) t else lk R t:=by
   intro aG;rw[C0 hR (fun hh=>by rcases ah3.1 hh with e |e;exact aG e;exact h e)];simp only[aiq,ah3,aG,false_or];rw[aA,ais aG]
  have head:lk ((k,x)::(fN H (k::seen) l++R)) t=if t∈((k,x)::l).map (·.1)then lk ((k,x)::l) t else lk R t:=by
   rw[aA]
   by_cases e:t=k
   ·rw[ait e,aA,ait e];simp[e]
   ·rw[ais e,rest e]
  unfold fN;split
  ·rename_i hm;have aG:t ≠ k:=fun e=>h (by rw [e]; exact nE.1 hm)
   rw[C0 hR h];simp only[aiq,ah3,aG,false_or];rw[aA,ais aG]
  ·split
   ·rename_i z;split
    ·rename_i y hy;split
     ·rename_i he
      by_cases e:t=k
      ·rw[chg_none (by rw[e];exact aig ..),e,hR k y hy,SW he];simp[aA]
      ·exact rest e
     ·exact head
    ·exact head
   ·exact head
where
 chg_none {H R:Hp}:∀{l:Hp}{seen:List Nat}{t:Nat},t∈seen->lk (fN H seen l++R) t=lk R t
  |[],seen,t,h=>rfl
  |(k,x)::l,seen,t,h=>by
   unfold fN;split
   ·exact chg_none h
   ·rename_i hm;have aG:t ≠ k:=fun e=>by rw [e] at h; rw [nE.2 h] at hm; cases hm
    have ih:=chg_none (H:=H) (R:=R) (l:=l) (ah6 k h);split
    ·split
     ·split
      ·exact ih
      ·show lk (_::(_++R)) t=_;rw[aA,ais aG];exact ih
     ·show lk (_::(_++R)) t=_;rw[aA,ais aG];exact ih
    ·show lk (_::(_++R)) t=_;rw[aA,ais aG];exact ih
theorem Fk{H:Hp}:∀{l:Hp}{seen:List Nat}{k:Nat},k∈l.map (·.1)->k∉seen->k∈(fN H seen l).map (·.1)\/∃y,lk H k=some y
 |[],seen,k,h,_=>by simp at h
 |(k',x)::l,seen,k,h,hs=>by
  unfold fN
  by_cases e:k=k'
  ·subst e
   have hm:j7 k seen=false:=by
    cases hq:j7 k seen with
    |true=>exact aiz (nE.1 hq) hs
    |false=>rfl
   simp only[hm];split
   ·split
    ·rename_i y hy;split
     ·exact .inr ⟨y,hy⟩
     ·exact .inl (by simp)
    ·exact .inl (by simp)
   ·exact .inl (by simp)
  ·have h' : k ∈ l.map (·.1) := by simpa [e] using h
   have hs':k∉k'::seen:=fun hh=>by rcases ah3.1 hh with e' |e';exact e e';exact hs e'
   have ih1:=Fk (H:=H) h' hs;have ih2:=Fk (H:=H) h' hs';split
   ·exact ih1
   ·split
    ·split
     ·split
      ·exact ih2
      ·rcases ih2 with h |h
       ·exact .inl (ah6 _ h)
       ·exact .inr h
     ·rcases ih2 with h |h
      ·exact .inl (ah6 _ h)
      ·exact .inr h
    ·rcases ih2 with h |h
     ·exact .inl (ah6 _ h)
     ·exact .inr h
theorem uH{R:Array Oper}{s:AS}{o:Oper}{x:Option AV}{H U:Hp}{rt:List Nat}(hH:∀k z,lk H k=some z->s.blk k=some z)(h:Step P N R s o ⟨x,U,rt,H.map (·.1)⟩) :
  Step P N R s o ⟨x,fN H [] U,rt,H.map (·.1)⟩:=by
 refine⟨fun s' am bj C m a w Q next hC hr hnext=>?_⟩;have hH':∀k z,lk H k=some z->lk s'.hp k=some z:=fun k z hz=>(am.2 k (j6 hz)).trans (hH k z hz)
 refine h.run s' am (fun k hk=>?_) C m a w Q next hC hr (fun m' a' w' hr'=>hnext m' a' w' ?_)
 ·rcases Fk (H := H) hk (seen := []) (by simp) with h1 | ⟨y, hy⟩
  ·exact bj k h1
  ·exact .inl (j6 hy)
 ·refine RelM.congr (s:=s'.app o.dst ⟨x,U,rt,H.map (·.1)⟩) (fun t=>rfl) (fun k=>?_) hr';simp only[AS.blk,AS.app];rw[C0 hH' (by simp),kL]
variable[Inhabited (Tys P)]
def Di(P:ai5)[Inhabited (Tys P)](s:AS)(d:Nat)(x y:ai2)(T:ai4):OR:=match cH s y with
  |some (.lst sz xs)=>match bR P T with
    |some ti=>match ti.k with
      | .slice E=>match bR P E with
        |some te=>match ad9 te.size sz&&(ad9 te.zero.length te.size&&aem 0 te.size&&aem 0 te.bytes)with
          |true=>match cH s x with
            |some (.ms k sz' off len)=>match s.blk k with
              |some (.row sz2 es)=>match ad9 sz' sz&&ad9 off 0&&ad9 sz2 sz&&ad9 len es.length&&Nat.ble ((len+xs.length)*te.bytes) 140737488355328 with
                |true=>match ad9 d k with
                  |true=>.no
                  |false=>match iI (es++xs)with
                    |some l=>wN (len+xs.length) fun n=>.ok ⟨some (.ms d sz 0 n),[(d,some (.row sz l)),(k,none)],ai x++ai y,[k]⟩
                    |none=>.no
                |false=>.no
              |_=>.no
            |some (.v (.slice a0 0 0))=>match Nat.ble ((0+xs.length)*te.bytes) 140737488355328 with
              |true=>match ad9 d 299 with
                |true=>.no
                |false=>match iI ([]++xs)with
                  |some l=>wN (0+xs.length) fun n=>.ok ⟨some (.ms d sz 0 n),[(d,some (.row sz l)),(299,none)],ai x++ai y,[]⟩
                  |none=>.no
              |false=>.no
            |_=>.no
          |false=>.no
        |none=>.no
      |_=>.no
    |none=>.no
  |some (.ms k _ _ _)=>.need k
  |_=>.no
theorem SB{s:AS}{R:Array Oper}{d:Nat}{x y:ai2}{T t:ai4}{u:Out}{pos:String}{after:Array Edge}(h:Di P s d x y T=.ok u)(hN:aem d N=true) :
  Step P N R s ⟨some d,.call ⟨.builtin .append,#[x,y],#[T,T]⟩,t,pos,after,none⟩ u:=by
 unfold Di at h;split at h
 ·rename_i sz xs hy;split at h
  ·rename_i ti hT;split at h
   ·rename_i E hk;split at h
    ·rename_i te hE;split at h
     ·rename_i hc;simp only [ahj] at hc;have aN:=ahi hc.1;have aX:(ad9 te.zero.length te.size && aem 0 te.size && aem 0 te.bytes) = true:=by simp only [ahj]; exact hc.2
      split at h
      ·rename_i k sz' off len hx;split at h
       ·rename_i sz2 es hb;split at h
        ·rename_i hg;simp only[ahj,aee]at hg;obtain⟨⟨⟨⟨g1,g2⟩,g3⟩,g4⟩,g5⟩:=hg;cases ahi g1;cases ahi g2;cases ahi g3;split at h
         ·cases h
         ·rename_i gS;split at h
          ·rename_i l hl;cases ju hl;rw[oP]at h;cases h
           exact eD (bi hx) hb (ahi g4) (bi hy) (bw hT) hk (bw hE) aN aX g5 gS hN
          ·cases h
        ·cases h
       ·cases h
      ·rename_i a0 hx;split at h
       ·rename_i g5;rw[aee]at g5;split at h
        ·cases h
        ·rename_i gS;split at h
         ·rename_i l hl;cases ju hl;rw[oP]at h;cases h
          exact Si (cap0:=0) (bi hx) (bi hy) (bw hT) hk (bw hE) aN aX g5 gS hN
         ·cases h
       ·cases h
      ·cases h
     ·cases h
    ·cases h
   ·cases h
  ·cases h
 ·cases h
 ·cases h
def DM(P:ai5)[Inhabited (Tys P)](s:AS)(T:ai4)(x y:ai2):OR:=match cH s x with
  |some (.eptr k sz i off)=>match cH s y with
    |some v=>match v.nm with
      |k'::_=>.need k'
      |[]=>match s.blk k with
        |some (.row sz' es)=>match es[i]? with
          |some e=>match bR P T with
            |some ti=>match ad9 sz sz'&&v.ok&&ad9 v.cells.length ti.size&&Nat.ble (off+ti.size) e.cells.length with
              |true=>match e with
                | .agg cs=>match iI (over cs off v.cells)with
                  |some l=>match iI (es.set i (.agg l))with
                    |some es'=>.ok ⟨none,[(k,some (.row sz es'))],ai x++ai y,[k]⟩
                    |none=>.no
                  |none=>.no
                |e=>match ad9 off 0&&ad9 v.cells.length 1 with
                  |true=>match iI (es.set i v)with
                    |some es'=>.ok ⟨none,[(k,some (.row sz es'))],ai x++ai y,[k]⟩
                    |none=>.no
                  |false=>.no
              |false=>.no
            |none=>.no
          |none=>.no
        |_=>.no
    |none=>.no
  |_=>.no
theorem X1{e:AV}(h:∀cs,e≠.agg cs):e.cells=[e]:=by
 cases e <;> first |rfl |exact aiz rfl (h _)
theorem Yj{s:AS}{R:Array Oper}{x y:ai2}{T t:ai4}{u:Out}{pos:String}{after:Array Edge}(h:DM P s T x y=.ok u) :
  Step P N R s ⟨none,.store T x y,t,pos,after,none⟩ u:=by
 unfold DM at h;split at h
 ·rename_i k sz i off hx;split at h
  ·rename_i v hy;split at h
   ·cases h
   ·rename_i hnm;split at h
    ·rename_i sz' es hb;split at h
     ·rename_i e he;split at h
      ·rename_i ti hT;split at h
       ·rename_i hc;simp only[ahj]at hc;obtain⟨⟨⟨c1,c2⟩,c3⟩,c4⟩:=hc;cases ahi c1;split at h
        ·rename_i cs;split at h
         ·rename_i l hl;split at h
          ·rename_i es' ff;cases h;cases ju hl;cases ju ff;exact Eg (bi hx) hb he (bi hy) c2 hnm (bw hT) c3 c4 rfl
          ·cases h
         ·cases h
        ·rename_i aG;split at h
         ·rename_i hg;simp only[ahj]at hg;split at h
          ·rename_i es' ff;cases h;cases ju ff;cases ahi hg.1;refine Eg (bi hx) hb he (bi hy) c2 hnm (bw hT) c3 c4 ?_;rw[X1 aG];have:=ahi hg.2;simp[over,this]
          ·cases h
         ·cases h
       ·cases h
      ·cases h
     ·cases h
    ·cases h
  ·cases h
 ·cases h
def DJ(P:ai5)[Inhabited (Tys P)](d:Nat)(T:ai4)(n:Int)(rt:List Nat):OR:=match bR P T with
  |some ti=>match ti.k with
    | .slice E=>match bR P E with
      |some te=>match te.zero.all Value.oneCell'&&(ad9 te.zero.length te.size&&aem 0 te.size&&aem 0 te.bytes&&(te.ag||ad9 te.size 1))with
        |true=>match n with
          | .ofNat n=>match Nat.ble (n*te.bytes) 281474976710656 with
            |true=>match iI (afq n (j8 te.ag (te.zero.map .v)))with
              |some l=>.ok ⟨some (.ms d te.size 0 n),[(d,some (.row te.size l))],rt,[]⟩
              |none=>.no
            |false=>.no
          | .negSucc _=>.no
        |false=>.no
      |none=>.no
    |_=>.no
  |none=>.no
theorem Z5{s:AS}{R:Array Oper}{d:Nat}{x:ai2}{T t:ai4}{n:Int}{u:Out}{pos:String}{after:Array Edge}(hx:Ev s x (.v (.int .i64 n)))(h:DJ P d T n (ai x)=.ok u)(hN:aem d N=true) :
  Step P N R s ⟨some d,.makeSlice T x x,t,pos,after,none⟩ u:=by
 unfold DJ at h;split at h
 ·rename_i ti hT;split at h
  ·rename_i E hk;split at h
   ·rename_i te hE;split at h
    ·rename_i hc;rw[ahj]at hc;split at h
     ·rename_i n;split at h
      ·rename_i hb;rw[aee]at hb;split at h
       ·rename_i l hl;cases h;cases ju hl;exact gh (n:=Int.ofNat n) hx (bw hT) hk (bw hE) hc.1 hc.2 (af7 _) (by simp only[af0];omega) hN
       ·cases h
      ·cases h
     ·cases h
    ·cases h
   ·cases h
  ·cases h
 ·cases h
theorem Vs{P:ai5}{N:Nat}{s:AS}{R:Array Oper}{d f:Nat}{g:ai2}{args:Array ai2}{ts:Array ai4}{xs:List AV}{H H':Hp}{r:AV}{t:ai4}{pos:String}{after:Array Edge}
  (hg:Ev s g (.v (.func (.func f) #[] #[]))) (cF:Con P f xs H r H') (ha:EvL s args.toList xs) (hH:∀k z,lk H k=some z->s.blk k=some z) (bc:fW s H H' r=true) (hN:aem d N=true) :
  Step P N R s ⟨some d,.call ⟨.value g,args,ts⟩,t,pos,after,none⟩ ⟨some r,H'++cw H,ai g++cB args.toList,H.map (·.1)⟩ :=
 wE rfl (fun d' h => by cases h; exact ⟨hN, rfl⟩) cF hH bc fun s' am C m a w hr => by
  have jk:gg s s' ⟨none,[],ai g++cB args.toList,[]⟩:=⟨am,fun k hk=>by cases hk⟩
  have ha':=ha.agree jk (fun _ h=>ahn.2 (.inr h));have gT:=(hg.agree jk (fun _ h=>ahn.2 (.inl h))).rep hr;generalize hv:a.eval g=u at gT;cases gT;refine⟨args.map a.eval,M2 (caps:=#[]) rfl hv cF.ok (by simp),?_,?_⟩
  ·have:=ha'.length;simpa using this
  ·intro j v x hv hx;exact ha'.rep hr j v x (by simpa using hv) hx
def BS:ai2->ai2->Bool
  | .tmp a,.tmp b=>ad9 a b
  | .const (.int k a),.const (.int k' b)=>ad9 (ee k) (ee k')&&aa .eql a b
  |_,_=>false
theorem ST{x y:ai2}(h:BS x y=true):y=x:=by
 unfold BS at h;split at h
 ·rw[ahi h]
 ·rename_i k a k' b;simp only[ahj]at h;rw[ni h.1,eq_of_beq (show(a==b)=true from h.2)]
 ·cases h
def Cr(P:ai5)[Inhabited (Tys P)](s:AS)(d:Nat)(T n:Nat)(parts:Array (Nat×ai2)):Option Out:=match bR P T with
  |some ti=>match ti.k with
    | .slice E=>match bR P E with
      |some te=>match te.k with
        | .slice _=>match qj s (parts.toList.map (·.2))with
          |some es=>match vp 0 parts.toList&&te.zero.all Value.oneCell'&&ad9 te.zero.length te.size&&(es.all fun e=>ad9 e.cells.length te.size&&e.ok) &&
              Ai (AV.nms es)&&ad9 n es.length&&Nat.ble (n*te.size) 16777216&&Nat.ble n 16777216 with
            |true=>some ⟨some (.ms d te.size 0 n),[(d,some (.row te.size es))],cB (parts.toList.map (·.2)),[]⟩
            |false=>none
          |none=>none
        |_=>none
      |none=>none
    |_=>none
  |none=>none
theorem Z0{P:ai5}[Inhabited (Tys P)]{N:Nat}{s:AS}{R:Array Oper}{d T n:Nat}{parts:Array (Nat×ai2)}{u:Out}{t:ai4}{pos:String}{after:Array Edge}(h:Cr P s d T n parts=some u)(hN:aem d N=true) :
  Step P N R s ⟨some d,.buildSlice T n parts,t,pos,after,none⟩ u:=by
 unfold Cr at h;split at h
 ·rename_i ti bQ;split at h
  ·rename_i E hk;split at h
   ·rename_i te xp;split at h
    ·split at h
     ·rename_i es h1;split at h
      ·rename_i hc;cases h;simp only[ahj]at hc;obtain⟨⟨⟨⟨⟨⟨⟨c1,c2⟩,c3⟩,c4⟩,c5⟩,c6⟩,c7⟩,c8⟩:=hc;exact Y5 (by rw[<- EM c1]) (rf h1) (bw bQ) hk (bw xp) c2 c3 (by simpa only[ahj]using c4) (H0 c5) (ahi c6) c7 c8 hN
      ·cases h
     ·cases h
    ·cases h
   ·cases h
  ·cases h
 ·cases h
def zy(E:Env P)(F:gd)(av:List Nat)(s:AS)(d:Nat)(op:Op):OR:=match op with
  | .call c=>match c with
    |⟨.value g,args,ts⟩=>match qj s args.toList with
      |some xs=>match g with
        | .func f=>match qi E F s av f xs with
          | .ok H r H'=>match fW s H H' r with
            |true=>.ok ⟨some r,fN H [] (H'++cw H),cB args.toList,H.map (·.1)⟩
            |false=>.no
          | .need k=>.need k
          | .no=>.no
        |g=>match cH s g with
          |some (.fn f caps)=>match qi E F s av f (xs++caps)with
            | .ok H r H'=>match fW s H H' r with
              |true=>.ok ⟨some r,fN H [] (H'++cw H),ai g++cB args.toList,H.map (·.1)⟩
              |false=>.no
            | .need k=>.need k
            | .no=>.no
          |some (.v (.func (.func f) ⟨[]⟩ ⟨[]⟩))=>match qi E F s av f xs with
            | .ok H r H'=>match fW s H H' r with
              |true=>.ok ⟨some r,fN H [] (H'++cw H),ai g++cB args.toList,H.map (·.1)⟩
              |false=>.no
            | .need k=>.need k
            | .no=>.no
          |some (.cl f pre caps)=>match qi E F s av f (pre++xs++caps)with
            | .ok H r H'=>match fW s H H' r with
              |true=>.ok ⟨some r,fN H [] (H'++cw H),ai g++cB args.toList,H.map (·.1)⟩
              |false=>.no
            | .need k=>.need k
            | .no=>.no
          |_=>.no
      |none=>.no
    |⟨.builtin .append,args,ts⟩=>match args.toList with
      |[x,y]=>match ts.toList with
        |[T,T']=>match ad9 T T' with
          |true=>Di P s d x y T
          |false=>.no
        |_=>.no
      |_=>.no
    |c=>match vZ P s (.call c)with
      |some r=>.ok ⟨some r.x,[],r.rt,r.rd⟩
      |none=>.no
  | .makeSlice T x y=>match BS x y with
    |true=>match cH s x with
      |some (.v (.int .i64 n))=>DJ P d T n (ai x)
      |_=>.no
    |false=>.no
  | .slice T x none (some (.const (.int k1 (.ofNat 0)))) (some (.const (.int k2 (.ofNat 0))))=>match cH s x with
    |some (.lst sz es)=>match qu P T sz with
      |true=>.ok ⟨some (.ms d sz 0 0),[(d,some (.row sz []))],ai x,[]⟩
      |false=>.no
    |_=>.no
  | .buildSlice T n parts=>match n with
    |0=>match parts.toList with
      |[]=>match bR P T with
        |some ti=>match ti.k with
          | .slice E=>match bR P E with
            |some te=>match te.zero.all Value.oneCell'&&ad9 te.zero.length te.size with
              |true=>.ok ⟨some (.ms d te.size 0 0),[(d,some (.row te.size []))],[],[]⟩
              |false=>.no
            |none=>.no
          |_=>.no
        |none=>.no
      |_=>.no
    |n+1=>match Cr P s d T (n+1) parts with
     |some u=>.ok u
     |none=>match vZ P s (.buildSlice T (n+1) parts)with
      |some r=>.ok ⟨some r.x,[],r.rt,r.rd⟩
      |none=>match qj s (parts.toList.map (·.2))with
        |some xs=>match AV.nms xs with
          |k::_=>.need k
          |[]=>.no
        |none=>.no
  |op=>match vZ P s op with
    |some r=>.ok ⟨some r.x,[],r.rt,r.rd⟩
    |none=>match AI P s d op with
      |some r=>match r.2 with
        |[]=>.ok r.1
        |_=>.no
      |none=>.no
theorem Ly{E:Env P}{F:gd}(hF:F.Ok P){av:List Nat}{s:AS}{R:Array Oper}{d:Nat}{op:Op}{u:Out}{t:ai4}{pos:String}{after:Array Edge}(h:zy E F av s d op=.ok u)(hN:aem d N=true) :
  Step P N R s ⟨some d,op,t,pos,after,none⟩ u:=by
 unfold zy at h;split at h
 ·split at h
  ·rename_i g args ts;split at h
   ·rename_i xs jK;split at h
    ·rename_i f;split at h
     ·rename_i H r H' hc;split at h
      ·rename_i bc;cases h;obtain⟨h1,h2⟩:=vK hF hc;exact uH h2 (bq h1 (rf jK) h2 bc hN)
      ·cases h
     ·cases h
     ·cases h
    ·split at h
     ·rename_i f caps hg;split at h
      ·rename_i H r H' hc;split at h
       ·rename_i bc;cases h;obtain⟨h1,h2⟩:=vK hF hc;exact uH h2 (YS (bi hg) h1 (rf jK) h2 bc hN)
       ·cases h
      ·cases h
      ·cases h
     ·rename_i f hg;split at h
      ·rename_i H r H' hc;split at h
       ·rename_i bc;cases h;obtain⟨h1,h2⟩:=vK hF hc;exact uH h2 (Vs (bi hg) h1 (rf jK) h2 bc hN)
       ·cases h
      ·cases h
      ·cases h
     ·rename_i f pre caps hg;split at h
      ·rename_i H r H' hc;split at h
       ·rename_i bc;cases h;obtain⟨h1,h2⟩:=vK hF hc;exact uH h2 (KU (bi hg) h1 (rf jK) h2 bc hN)
       ·cases h
      ·cases h
      ·cases h
     ·cases h
   ·cases h
  ·rename_i args ts;split at h
   ·rename_i x y hx;split at h
    ·rename_i T T' hT;split at h
     ·rename_i hTT;cases ahi hTT;have e1:args = #[x,y]:=by apply ag5.1; simpa using hx
      have e2:ts=#[T,T]:=by apply ag5.1;simpa using hT
      subst e1;subst e2
      exact SB h hN
     ·cases h
    ·cases h
   ·cases h
  ·split at h
   ·rename_i h1;cases h;exact Eb h1 hN
   ·cases h
 ·split at h
  ·rename_i he;cases ST he;split at h
   ·rename_i hx;exact Z5 (bi hx) h hN
   ·cases h
  ·cases h
 ·split at h
  ·rename_i hx;split at h
   ·rename_i hs;obtain⟨ti,E,te,h1,h2,h3,h4⟩:=uN hs;cases h;exact Wt (bi hx) h1 h2 h3 h4 hN
   ·cases h
  ·cases h
 ·rename_i T n parts;split at h
  ·split at h
   ·rename_i hp;have:parts = #[]:=by apply ag5.1; simpa using hp
    subst this;split at h
    ·rename_i ti hT;split at h
     ·rename_i E hk;split at h
      ·rename_i te hE;split at h
       ·rename_i hc;rw[ahj]at hc;cases h;exact qS (bw hT) hk (bw hE) hc.1 hc.2 hN
       ·cases h
      ·cases h
     ·cases h
    ·cases h
   ·cases h
  ·split at h
   ·rename_i h1;cases h;exact Z0 h1 hN
   ·split at h
    ·rename_i h1;cases h;exact Eb h1 hN
    ·split at h
     ·split at h <;> cases h
     ·cases h
 ·split at h
  ·rename_i h1;cases h;exact Eb h1 hN
  ·split at h
   ·rename_i h1;split at h
    ·rename_i ho;cases h;exact Ke h1 (by rw[ho];exact .nil) hN
    ·cases h
   ·cases h
def Do(E:Env P)(F:gd)(av:List Nat)(s:AS)(op:Op):OR:=match op with
  | .call c=>match c with
    |⟨.value (.func f),args,ts⟩=>match qj s args.toList with
      |some xs=>match qi E F s av f xs with
        | .ok H r H'=>match fW s H H' r with
          |true=>.ok ⟨none,fN H [] (H'++cw H),cB args.toList,H.map (·.1)⟩
          |false=>.no
        | .need k=>.need k
        | .no=>.no
      |none=>.no
    |_=>.no
  | .store T x y=>match zR P s (.store T x y)with
    |some r=>match r.2 with
      |[]=>.ok r.1
      |_=>.no
    |none=>DM P s T x y
  |_=>.no
theorem aae{E:Env P}{F:gd}(hF:F.Ok P){av:List Nat}{s:AS}{R:Array Oper}{op:Op}{u:Out}{t:ai4}{pos:String}{after:Array Edge}(h:Do E F av s op=.ok u) :
  Step P N R s ⟨none,op,t,pos,after,none⟩ u:=by
 unfold Do at h;split at h
 ·split at h
  ·rename_i f args ts;split at h
   ·rename_i xs jK;split at h
    ·rename_i H r H' hc;split at h
     ·rename_i bc;cases h;obtain⟨h1,h2⟩:=vK hF hc;exact uH h2 (V7 h1 (rf jK) h2 bc)
     ·cases h
    ·cases h
    ·cases h
   ·cases h
  ·cases h
 ·split at h
  ·rename_i h1;split at h
   ·rename_i ho;cases h;exact Iy h1 (by rw[ho];exact .nil)
   ·cases h
  ·exact Yj h
 ·cases h
theorem Step.sub{P:ai5}{N:Nat}{R:Array Oper}{s:AS}{o:Oper}{x y:AV}{upd:Hp}{rt rd:List Nat}(h:Step P N R s o ⟨some x,upd,rt,rd⟩)(hs:Sub x y):Step P N R s o ⟨some y,upd,rt,rd⟩:=by
 refine⟨fun s' am bj C m a w Q next hC hr hnext=>h.run s' am bj C m a w Q next hC hr (fun m' a' w' hr'=>hnext m' a' w' ?_)⟩;refine hr'.weak (fun t z hz=>?_) (fun k z hz=>⟨z,hz,.refl _⟩);rw[gH]at hz;split at hz
 ·rename_i ht;cases hz;exact⟨x,by rw[gH,ait ht],hs⟩
 ·rename_i ht;exact⟨z,by rw[gH,ais ht];exact hz,.refl _⟩
theorem Sub.opt_true(x:AV):Sub (.opt true x) x:=fun g S m v h=>by cases h with |opt h _=>exact h rfl
theorem BE(f:AV->AV)(k:Nat):∀l:Hp,(fi f k l).map (·.1)=l.map (·.1)
 |[]=>rfl
 |(k',x)::l=>by simp only[fi,aiq,BE f k l]
theorem Y8{P:ai5}{N:Nat}{R:Array Oper}{s:AS}{o:Oper}{d:Nat}{x:AV}{upd:Hp}{rt rd:List Nat}{k sz:Nat}{es:List AV}(hd:o.dst=some d)(hk:lk upd k=some (.row sz es))(xa:k∉rd)
  (h:Step P N R s o ⟨some x,upd,rt,rd⟩):Step P N R s o ⟨some (x.fz k sz es),fi (AV.fz k sz es) k upd,rt,rd⟩:=by
 refine⟨fun s' am bj C m a w Q next hC hr hnext=>?_⟩;have xj:jx s' ⟨some x,upd,rt,rd⟩:=fun k' hk'=>bj k' (by rw[BE];exact hk')
 have hfr:s'.Fresh k:=by
  rcases xj k (j6 hk)with h |h
  ·exact aiz h xa
  ·exact h
 refine h.run s' am xj C m a w Q next hC hr (fun m' a' w' hr'=>?_);rw[hd]at hr'
 have cp:(s'.app (some d) ⟨some x,upd,rt,rd⟩).blk k=some (.row sz es):=by
  show lk (upd++s'.hp) k=_;rw[kL,ait (j6 hk),hk]
 obtain⟨m2,ef⟩:=Wk.freeze cp C m' a' w' hr';refine hnext m2 a' w' ?_;rw[hd];refine ef.congr ?_ ?_
 ·intro t;simp only[AS.get,qW,AS.app,aA];split
  ·rfl
  ·cases hx:lk s'.sl t with
   |none=>rfl
   |some y=>simp only[ahd];rw[AV.fz_id _ _ _ _ (hfr.2.2.1 t y hx)]
 ·intro k';simp only[AS.blk,AS.app];rw[md,kL,kL,BE,md]
  by_cases h1:k'=k
  ·subst h1;rw[ait rfl,ait (j6 hk),ait rfl]
  ·rw[ais h1,ais h1];split
   ·rfl
   ·cases hx:lk s'.hp k' with
    |none=>rfl
    |some y=>simp only[ahd];rw[Gt (hfr.2.2.2 k' y hx)]
def qe:List Nat->Out->Out
  |[],u=>u
  |k::ks,u=>match u.val with
    |some x=>match lk u.upd k with
      |some (.row sz es)=>match j7 k u.rd with
        |false=>qe ks ⟨some (x.fz k sz es),fi (AV.fz k sz es) k u.upd,u.rt,u.rd⟩
        |true=>qe ks u
      |_=>qe ks u
    |none=>u
theorem wm{P:ai5}{N:Nat}{R:Array Oper}{s:AS}{o:Oper}{d:Nat}(hd:o.dst=some d):∀{ks:List Nat}{u:Out},Step P N R s o u->Step P N R s o (qe ks u)
 |[],u,h=>h
 |k::ks,u,h=>by
  unfold qe;split
  ·rename_i x hx;split
   ·rename_i sz es hk;split
    ·rename_i hm;refine wm hd ?_;obtain⟨val,upd,rt,rd⟩:=u;simp only at hx hk hm;subst hx;exact Y8 hd hk (fun hh=>by rw[nE.2 hh]at hm;cases hm) h
    ·exact wm hd h
   ·exact wm hd h
  ·exact h
def Co(E:Env P)(F:gd)(av fz:List Nat)(N:Nat)(R:List Oper)(s:AS)(o:Oper):OR:=match o.guard with
  |none=>match o.dst with
    |some d=>match aem d N with
      |true=>match zy E F av s d o.op with
        | .ok u=>.ok (qe fz u)
        |r=>r
      |false=>.no
    |none=>Do E F av s o.op
  |some (j,want)=>match R[j]? with
    |some og=>match og.dst with
      |some g=>match o.dst with
        |some d=>match aem d N with
          |true=>match s.get g with
            |some (.v (.bool b))=>match b==want with
              |true=>match zy E F av s d o.op with
                | .ok u=>match(qe fz u)with
                  |⟨some x,upd,rt,rd⟩=>.ok ⟨some x,upd,g::rt,rd⟩
                  |⟨none,_,_,_⟩=>.no
                |r=>r
              |false=>.ok ⟨some (.opt false (.v (.bool false))),[],[g],[]⟩
            |some (.opt false (.v (.bool b)))=>.ok ⟨some (.opt false (.v (.bool false))),[],[g],[]⟩
            |_=>.no
          |false=>.no
        |none=>.no
      |none=>.no
    |none=>.no
theorem Wd{E:Env P}{F:gd}(hF:F.Ok P){av fz:List Nat}{R:List Oper}{s:AS}{o:Oper}{u:Out}(h:Co E F av fz N R s o=.ok u):Step P N R.toArray s o u:=by
 obtain⟨dst,op,ty,pos,after,guard⟩:=o;unfold Co at h;simp only at h;split at h
 ·split at h
  ·split at h
   ·rename_i hN;split at h
    ·rename_i u' h1;cases h;exact wm rfl (Ly hF h1 hN)
    ·rename_i iu;exact aiz h (iu u)
   ·cases h
  ·exact aae hF h
 ·rename_i j want;split at h
  ·rename_i og pS;split at h
   ·rename_i g hg;split at h
    ·rename_i d;split at h
     ·rename_i hN;have hj:(R.toArray[j]?).bind (·.dst) = some g:=by simp [pS,hg]
      split at h
      ·rename_i b hb;split at h
       ·rename_i hw;split at h
        ·rename_i u' h1;have hs:=wm (ks:=fz) rfl (Ly (R:=R.toArray) (t:=ty) (pos:=pos) (after:=after) hF h1 hN);split at h
         ·rename_i x upd rt rd hx;cases h;rw[hx]at hs;have h2:=K0 (want:=want) hj hb hN (fun aG=>aiz (eq_of_beq hw) aG) (fun _=>hs);rw[hw]at h2;exact h2.sub (.opt_true x)
         ·cases h
        ·rename_i iu;exact aiz h (iu u)
       ·rename_i hw;cases h;have h2:=fT (P:=P) (op:=op) (t:=ty) (pos:=pos) (after:=after) (want:=want) (x:=.v (.bool false)) (rt:=[]) (rd:=[]) hj hb hN (fun e=>by rw[e]at hw;simp at hw);rw[hw]at h2;exact h2
      ·rename_i b hb;cases h;exact rx (P:=P) (op:=op) (t:=ty) (pos:=pos) (after:=after) (want:=want) (x:=.v (.bool false)) (rt:=[]) (rd:=[]) hj hb hN (fun e=>by cases e)
      ·cases h
     ·cases h
    ·cases h
   ·cases h
  ·cases h
end Go.Lw
namespace Go.Lw
variable{P:ai5}{N:Nat}[Inhabited (Tys P)]
theorem Se{P:ai5}{N:Nat}{c:Code}{Q Q':Exit->AS->Prop}{s:AS}(h:ba P N c Q s)(hq:∀e s,Q e s->∃s',Wk s s'/\Q' e s'):ba P N c Q' s :=
 fun C m a w n hN hr=>wpIn_mono (h C m a w n hN hr) fun e _ _ ⟨s',m',hQ,hr'⟩=>by
  obtain⟨s2,hw,hQ'⟩:=hq e s' hQ;obtain⟨m2,ef⟩:=hw C m' _ _ hr';exact⟨s2,m2,hQ',ef⟩
def dd{α:Type}:List Nat->List (Nat×Option α)->List (Nat×Option α)
  |_,[]=>[]
  |seen,(t,x)::l=>match j7 t seen with
    |true=>dd seen l
    |false=>match x with
      |some v=>(t,some v)::dd (t::seen) l
      |none=>dd (t::seen) l
theorem vO{α:Type}:∀{l:List (Nat×Option α)}{seen:List Nat}{t:Nat}{x:α},lk (dd seen l) t=some x->t∉seen/\lk l t=some x
 |[],seen,t,x,h=>by cases h
 |(t',y)::l,seen,t,x,h=>by
  unfold dd at h;rw[aA];split at h
  ·rename_i hm;obtain⟨h1,h2⟩:=vO h;refine⟨h1,?_⟩;rw[ais (fun(e:t=t')=>h1 (by rw[e];exact nE.1 hm))];exact h2
  ·rename_i hm;have hm':t' ∉ seen:=fun hh=>by rw [nE.2 hh] at hm; cases hm
   split at h
   ·rw[aA]at h;split at h
    ·rename_i e;cases h;subst e;exact⟨hm',by rw[ait rfl]⟩
    ·rename_i e;obtain⟨h1,h2⟩:=vO h;rw[ais e];exact⟨fun hh=>h1 (ah6 _ hh),h2⟩
   ·obtain ⟨h1, h2⟩:=vO h;have aG:t ≠ t':=fun e=>h1 (by rw [e]; exact aig ..)
    rw[ais aG];exact⟨fun hh=>h1 (ah6 _ hh),h2⟩
theorem C5{s:AS}{sl:bm}{hp:Hp}(h1:∀t x,lk sl t=some x->lk s.sl t=some x)(h2:∀k x,lk hp k=some x->lk s.hp k=some x):Wk s ⟨sl,hp⟩ :=
 fun C m a w hr=>⟨m,hr.weak (fun t x hx=>⟨x,h1 t x hx,.refl _⟩) (fun k x hx=>⟨x,h2 k x hx,.refl _⟩)⟩
def LU(s:AS):AS:=⟨dd [] s.sl,dd [] s.hp⟩
theorem Z7(s:AS):Wk s (LU s):=C5 (fun t x h=>(vO h).2) (fun t x h=>(vO h).2)
def pg(k:Nat):List Nat->bm->bm
  |_,[]=>[]
  |seen,(t,x)::l=>match j7 t seen with
    |true=>pg k seen l
    |false=>match x with
      |some v=>match j7 k v.nm with
        |true=>pg k (t::seen) l
        |false=>(t,some v)::pg k (t::seen) l
      |none=>pg k (t::seen) l
theorem zh{k:Nat}:∀{l:bm}{seen:List Nat}{t:Nat}{x:AV},lk (pg k seen l) t=some x->t∉seen/\lk l t=some x
 |[],seen,t,x,h=>by cases h
 |(t',y)::l,seen,t,x,h=>by
  unfold pg at h;rw[aA]
  have rest:∀{l':bm},lk (pg k (t'::seen) l) t=some x->t∉seen/\(if t=t' then y else lk l t)=some x:=by
   intro _ h;obtain⟨h1,h2⟩:=zh h;rw[ais (fun(e:t=t')=>h1 (by rw[e];exact aig ..))];exact⟨fun hh=>h1 (ah6 _ hh),h2⟩
  split at h
  ·rename_i hm;obtain⟨h1,h2⟩:=zh h;refine⟨h1,?_⟩;rw[ais (fun(e:t=t')=>h1 (by rw[e];exact nE.1 hm))];exact h2
  ·rename_i hm;have hm':t' ∉ seen:=fun hh=>by rw [nE.2 hh] at hm; cases hm
   split at h
   ·split at h
    ·exact rest (l':=l) h
    ·rw[aA]at h;split at h
     ·rename_i e;cases h;subst e;exact⟨hm',by rw[ait rfl]⟩
     ·rename_i e;obtain⟨h1,h2⟩:=zh h;rw[ais e];exact⟨fun hh=>h1 (ah6 _ hh),h2⟩
   ·exact rest (l':=l) h
def Np(s:AS)(k d:Nat)(y:Blk):AS:=⟨je (AV.rn k d) s.sl,mZ k d y s.hp⟩
def D7(s:AS)(av:List Nat)(d:Nat):Option AS:=match s.freshB d with
  |true=>some s
  |false=>match s.blk d with
    |some y=>match s.freshB (nxt s av)with
      |true=>some (Np s d (nxt s av) y)
      |false=>none
    |none=>some ⟨pg d [] s.sl,s.hp⟩
theorem Qo{s s':AS}{av:List Nat}{d:Nat}(h:D7 s av d=some s'):Wk s s':=by
 unfold D7 at h;split at h
 ·cases h;exact .refl _
 ·split at h
  ·rename_i y hy;split at h
   ·rename_i hf;cases h;exact Wk.rk hy hf
   ·cases h
  ·cases h;exact C5 (fun t x h=>(zh h).2) (fun _ _ h=>h)
def Xb(o:Oper):Option Nat:=match o.dst with
  |some d=>match o.op with
    | .alloc _=>some d
    | .box _ _=>some d
    | .makeSlice _ _ _=>some d
    | .buildSlice _ 0 _=>some d
    | .slice _ _ _ _ (some _)=>some d
    | .call ⟨.builtin .append,_,_⟩=>some d
    |_=>none
  |none=>none
def w6(av:List Nat):List Oper->AS->Option AS
  |[],s=>some s
  |o::os,s=>match Xb o with
    |some d=>match D7 s av d with
      |some s'=>w6 av os s'
      |none=>none
    |none=>w6 av os s
theorem Dp{av:List Nat}:∀{os:List Oper}{s s':AS},w6 av os s=some s'->Wk s s'
 |[],s,s',h=>by cases h;exact .refl _
 |o::os,s,s',h=>by
  unfold w6 at h;split at h
  ·split at h
   ·rename_i h1;exact(Qo h1).trans (Dp h)
   ·cases h
  ·exact Dp h
inductive RR where
  |ok (s:AS) (us:List Out)
  |need (k:Nat)
  |no
def nB{α:Type}:List α->Bool
  |[]=>true
  |_=>false
def zm(E:Env P)(F:gd)(av fz:List Nat)(N:Nat)(R:List Oper):List Oper->AS->List Out->RR
  |[],s,us=>.ok s us
  |o::os,s,us=>match Co E F av fz N R s o with
    | .ok u=>match nB u.upd||Eh s u with
      |true=>match s.app o.dst u with
        |⟨sl,hp⟩=>zm E F av fz N R os ⟨sl,hp⟩ (us++[u])
      |false=>.no
    | .need k=>.need k
    | .no=>.no
theorem Om{E:Env P}{F:gd}(hF:F.Ok P){av fz:List Nat}{R:List Oper}:∀{os:List Oper}{s:AS}{us:List Out}{s':AS}{us':List Out},zm E F av fz N R os s us=.ok s' us' ->
  gE P N R.toArray os s us (fun s2 us2=>s2=s'/\us2=us')
 |[],s,us,s',us',h=>by cases h;exact⟨rfl,rfl⟩
 |o::os,s,us,s',us',h=>by
  unfold zm at h;split at h
  ·rename_i u hu;split at h
   ·rename_i hn;refine⟨u,Wd hF hu,?_,Om hF h⟩;cases hu':nB u.upd with
    |true =>
     intro k hk;have:u.upd=[]:=by cases hq:u.upd with |nil=>rfl |cons a b=>rw[hq]at hu';cases hu'
     rw[this]at hk;cases hk
    |false=>rw[hu']at hn;exact vW hn
   ·cases h
  ·cases h
  ·cases h
structure Sys where
  code:Nat->Nat->List Nat->Code->AS->Option (Exit×AS)
  fn:Nat->List Nat->FuncId->List AV->Hp->Option (AV×Hp)
def E0(S:Sys)(base:Nat):gd:=fun av f xs H=>match JA base (H.map (·.1))with
  |L=>match S.fn (base+100) av f (tA L xs) (tH L H)with
    |some (r,H')=>some (rB L r,hB L H')
    |none=>none
def IV(e:Exit):Bool:=match e with
  | .normal=>true
  |_=>false
def CE(s:AS)(k:Nat):Option AS:=match s.blk k with
  |some (.row sz es)=>some ⟨je (AV.fz k sz es) s.sl,fi (AV.fz k sz es) k s.hp⟩
  |_=>none
theorem QQ{s s':AS}{k:Nat}(h:CE s k=some s'):Wk s s':=by
 unfold CE at h;split at h
 ·rename_i hk;cases h;exact Wk.freeze hk
 ·cases h
def wR(E:Env P)(F:gd)(av:List Nat)(N:Nat)(A:List Oper)(d:Bool):Nat->List Nat->AS->Option AS
  |0,_,_=>none
  |n+1,fz,s0=>match zm E F av fz N A A s0 []with
    | .ok s' us=>match d with
      |false=>some s'
      |true=>match chk A us s0 with
        |true=>some s'
        |false=>none
    | .need k=>match CE s0 k with
      |some ⟨sl,hp⟩=>wR E F av N A d n fz ⟨sl,hp⟩
      |none=>match j7 k fz with
        |true=>none
        |false=>wR E F av N A d n (k::fz) s0
    | .no=>none
theorem DA{E:Env P}{F:gd}(hF:F.Ok P){av:List Nat}{id:Nat}{A:Array Oper}{d:Bool}(b7:A.toList.all nd=true):∀{n:Nat}{fz:List Nat}{s s1:AS},wR E F av N A.toList d n fz s=some s1 ->
  ba P N (.region id A d) (fun e' s'=>e'=.normal/\s'=s1) s
 |0,fz,s,s1,h=>by cases h
 |n+1,fz,s,s1,h=>by
  unfold wR at h;split at h
  ·rename_i s' us h1;refine LO (Q:=fun e' s'=>e'=.normal/\s'=s1) (k:=[]) b7 (fun _=>(default:Tys P).mix) (yK ?_ (Om hF h1));rintro s2 us2 ⟨hs,hu⟩;rw[hs,hu];split at h
   ·obtain rfl:=Option.some.inj h;exact⟨(fun e=>by cases e),rfl,rfl⟩
   ·split at h
    ·rename_i hc;obtain rfl:=Option.some.inj h;exact⟨fun _=>hc,rfl,rfl⟩
    ·cases h
  ·split at h
   ·rename_i sl hp hf;exact q5 (QQ hf) (DA hF b7 h)
   ·split at h
    ·cases h
    ·exact DA hF b7 h
  ·cases h
def pb(E:Env P)(S:Sys)(N base:Nat)(av:List Nat)(c:Code)(s:AS):Option (Exit×AS):=match c with
  | .skip=>some (.normal,s)
  | .ret=>some (.ret,s)
  | .exit id=>some (.exit id,s)
  | .seq x y=>match S.code N base av x s with
    |some (e,s1)=>match IV e with
      |true=>S.code N base av y s1
      |false=>some (e,s1)
    |none=>none
  | .block id c=>match S.code N base av c s with
    |some (e,s1)=>match e with
      | .exit id'=>match ad9 id' id with
        |true=>some (.normal,s1)
        |false=>some (.exit id',s1)
      |e=>some (e,s1)
    |none=>none
  | .cond c x y=>match cH s c with
    |some (.v (.bool b))=>match b with
      |true=>S.code N base av x s
      |false=>S.code N base av y s
    |_=>none
  | .loop c=>match S.code N base av c s with
    |some (e,s1)=>match IV e with
      |true=>match LU s1 with
        |⟨sl,hp⟩=>S.code N base av (.loop c) ⟨sl,hp⟩
      |false=>some (e,s1)
    |none=>none
  | .region id A d=>match v8 A.toList with
    |true=>match w6 av A.toList s with
      |some s0=>match wR E (E0 S base) av N A.toList d 20 [] s0 with
        |some s'=>some (.normal,s')
        |none=>none
      |none=>none
    |false=>none
  |_=>none
def vG(st:Nat):List Nat->AS->Option AS
  |[],s=>some s
  |k::ks,s=>match s.blk k with
    |some y=>match Bs s 100 st with
      |d=>match s.freshB d with
        |true=>vG st ks (Np s k d y)
        |false=>none
    |none=>none
theorem D6{st:Nat}:∀{ks:List Nat}{s s':AS},vG st ks s=some s'->Wk s s'
 |[],s,s',h=>by cases h;exact .refl _
 |k::ks,s,s',h=>by
  unfold vG at h;split at h
  ·rename_i y hy;simp only at h;split at h
   ·rename_i hf;exact(Wk.rk (s:=s) hy hf).trans (D6 h)
   ·cases h
  ·cases h
def Gz:Nat->List Nat->List Nat
  |_,[]=>[]
  |n,_::l=>n::Gz (n+1) l
def CN:List Nat->List Nat
  |[]=>[]
  |k::ks=>match aem k 1000 with
    |true=>k::CN ks
    |false=>CN ks
def sk(sl:bm):List Nat->bm
  |[]=>[]
  |t::ts=>match lk sl t with
    |some x=>(t,some x)::sk sl ts
    |none=>sk sl ts
theorem Cp{sl:bm}:∀{ts:List Nat}{t:Nat}{x:AV},lk (sk sl ts) t=some x->lk sl t=some x
 |[],t,x,h=>by cases h
 |t'::ts,t,x,h=>by
  unfold sk at h;split at h
  ·rename_i y hy;rw[aA]at h;split at h
   ·rename_i e;cases h;rw[e];exact hy
   ·exact Cp h
  ·exact Cp h
def B0:List ResultVar->List Nat
  |[]=>[]
  |r::rs=>(match r with
    | .tmp t=>t
    | .cell t _=>t)::B0 rs
def yu(P:ai5)[Inhabited (Tys P)](rs:List ResultVar)(Hk:List Nat)(s:AS):Option (AV×Hp):=match oF P s rs with
  |some ys=>some (dD ys,q6 s (tF s 300 (AV.nms ys++Hk) []))
  |none=>none
theorem Oj{rs:List ResultVar}{Hk:List Nat}{s:AS}{r:AV}{H':Hp}(h:yu P rs Hk s=some (r,H')):∃xs,ResL P s rs xs/\aI s (dD xs) r H':=by
 unfold yu at h;split at h
 ·rename_i ys hy;cases h;exact⟨ys,C3 hy,.keep (fun k z hz=>vJ hz)⟩
 ·cases h
def BC(P:ai5)[Inhabited (Tys P)](av:List Nat)(rs:List ResultVar)(Hk:List Nat)(s:AS):Option (AV×Hp):=match tF s 300 (AV.nms ((sk s.sl (B0 rs)).filterMap (·.2))++Hk) []with
  |K=>match CN K with
    |[]=>yu P rs Hk s
    |k::ks=>match vG 700 (k::ks) ⟨sk s.sl (B0 rs),q6 s K⟩with
      |some s2=>match vG (mx 299 av+1) (Gz 700 (k::ks)) s2 with
        |some s3=>yu P rs Hk s3
        |none=>none
      |none=>none
theorem Qh{av:List Nat}{rs:List ResultVar}{Hk:List Nat}{s:AS}{r:AV}{H':Hp}(h:BC P av rs Hk s=some (r,H')):∃s2,Wk s s2/\∃xs,ResL P s2 rs xs/\aI s2 (dD xs) r H':=by
 unfold BC at h;simp only at h;split at h
 ·exact⟨s,.refl _,Oj h⟩
 ·split at h
  ·rename_i s2 h2;split at h
   ·rename_i s3 h3;exact⟨s3,((C5 (fun t x=>Cp) (fun k x=>vJ)).trans (D6 h2)).trans (D6 h3),Oj h⟩
   ·cases h
  ·cases h
def zQ:Hp->Bool
  |[]=>true
  |(k,_)::l=>Nat.ble 1000 k&&zQ l
theorem H4:∀{H:Hp}{k:Nat}{z:Blk},zQ H=true->lk H k=some z->1000<=k
 |[],k,z,_,h=>by cases h
 |(k',x)::l,k,z,h0,h=>by
  simp only[zQ,ahj,aee]at h0;rw[aA]at h;split at h
  ·rename_i e;rw[e];exact h0.1
  ·exact H4 h0.2 h
def B6(E:Env P)(S:Sys)(base:Nat)(av:List Nat)(f:FuncId)(xs:List AV)(H:Hp):Option (AV×Hp):=match E.fe f with
  |some fe=>match ad9 fe.f f&&zQ H with
    |true=>match tR 0 xs with
      |some sl=>match S.code fe.fn.ntmps base av fe.c ⟨sl,H⟩with
        |some (e,s1)=>match uY e with
          |true=>BC P av fe.rs (H.map (·.1)) s1
          |false=>none
        |none=>none
      |none=>none
    |false=>none
  |none=>none
def ev(E:Env P)(n:Nat):Sys:=Nat.rec ⟨fun _ _ _ _ _=>none,fun _ _ _ _ _=>none⟩ (fun _ S=>⟨pb E S,B6 E S⟩) n
structure SysOk(P:ai5)(S:Sys):Prop where
  code:∀N base av c s e s1,S.code N base av c s=some (e,s1)->ba P N c (fun e' s'=>e'=e/\s'=s1) s
  fn:∀base av f xs H r H',S.fn base av f xs H=some (r,H')->Con P f xs H r H'
theorem aap{P:ai5}{S:Sys}(h:SysOk P S)(base:Nat):(E0 S base).Ok P:=by
 intro av f xs H r H' h1;unfold E0 at h1;simp only at h1;split at h1
 ·rename_i h2;cases h1;exact IJ (h.fn _ _ _ _ _ _ _ h2)
 ·cases h1
theorem Ru{E:Env P}{S:Sys}(h:SysOk P S){base:Nat}{av:List Nat}{f:FuncId}{xs:List AV}{H H':Hp}{r:AV}(h1:B6 E S base av f xs H=some (r,H')):Con P f xs H r H':=by
 unfold B6 at h1;split at h1
 ·rename_i fe hfe;split at h1
  ·rename_i hc;simp only[ahj]at hc;have hf:=ahi hc.1;subst hf;split at h1
   ·rename_i sl eA;cases y8 eA;split at h1
    ·rename_i e s1 h2;split at h1
     ·rename_i he;refine Fm fe.hf fe.hb fe.hn fe.hrs rfl (fun k z hz=>H4 hc.2 hz) ?_;refine Se (h.code _ _ _ _ _ _ _ h2) ?_;rintro e' s' ⟨he',hs'⟩;rw[he',hs'];obtain⟨s2,hw,hx⟩:=Qh h1;refine⟨s2,hw,?_⟩;cases e <;> first |exact hx |exact(nomatch he)
     ·cases h1
    ·cases h1
   ·cases h1
  ·cases h1
 ·cases h1
theorem zE(E:Env P):∀n m,m<=n->SysOk P (ev E m)
 |0,m,hm=>by
  have:m=0:=by omega
  subst this;exact { code:=(fun _ _ _ _ _ _ _ h=>by cases h),fn:=(fun _ _ _ _ _ _ _ h=>by cases h) }
 |n+1,m,hm=>by
  by_cases hmn:m<=n
  ·exact zE E n m hmn
  ·have : m = n + 1 := by omega
   subst this;have ih:=zE E n n (ahr _);refine⟨?_,fun base av f xs H r H' h=>Ru ih h⟩;intro N base av c s e s1 h
   change pb E (ev E n) N base av c s=some (e,s1)at h
   cases c with
   |skip=>cases h;exact LE ⟨rfl,rfl⟩
   |ret=>cases h;exact GA ⟨rfl,rfl⟩
   |exit id=>cases h;exact K9 ⟨rfl,rfl⟩
   |seq x y =>
    simp only[pb]at h;split at h
    ·rename_i e1 s2 h1;refine Mc fun K hK=>jb (ih.code _ _ _ _ _ _ _ h1) ?_
     rintro e' s' ⟨he,hs⟩;rw[he,hs];split at h
     ·rename_i hr;cases e1 <;> first |exact hK _ (ih.code _ _ _ _ _ _ _ h) |exact(nomatch hr)
     ·rename_i hr;obtain⟨rfl,rfl⟩:=Prod.mk.inj (Option.some.inj h);cases e1 <;> first |exact⟨rfl,rfl⟩ |exact(nomatch hr)
    ·cases h
   |block id c =>
    simp only[pb]at h;split at h
    ·rename_i e1 s2 h1;refine Nn (jb (ih.code _ _ _ _ _ _ _ h1) ?_);rintro e' s' ⟨he,hs⟩;rw[he,hs];split at h
     ·rename_i id';show match ad9 id' id with |true=>_ |false=>_
      split at h
      ·rename_i hb;obtain⟨rfl,rfl⟩:=Prod.mk.inj (Option.some.inj h);simp only[];exact⟨trivial,trivial⟩
      ·rename_i hb;obtain⟨rfl,rfl⟩:=Prod.mk.inj (Option.some.inj h);simp only[];exact⟨trivial,trivial⟩
     ·rename_i aG;obtain⟨rfl,rfl⟩:=Prod.mk.inj (Option.some.inj h);cases e1 <;> first |exact⟨rfl,rfl⟩ |exact aiz rfl (aG _)
    ·cases h
   |cond c x y =>
    simp only[pb]at h;split at h
    ·rename_i b hb;split at h
     ·exact yO (bi hb) (fun _=>ih.code _ _ _ _ _ _ _ h) (fun e=>by cases e)
     ·exact yO (bi hb) (fun e=>by cases e) (fun _=>ih.code _ _ _ _ _ _ _ h)
    ·cases h
   |loop c =>
    refine ui (fun m s=>m<=n+1/\(ev E m).code N base av (.loop c) s=some (e,s1)) (n:=n+1) (.refl _) ⟨ahr _,h⟩ ?_;rintro m s ⟨hm,hI⟩ K hK;cases m with
    |zero=>cases hI
    |succ m =>
     change pb E (ev E m) N base av (.loop c) s=some (e,s1)at hI
     have ihm:=zE E n m oz;simp only[pb]at hI;split at hI
     ·rename_i e1 s2 h1;refine jb (ihm.code _ _ _ _ _ _ _ h1) ?_;rintro e' s' ⟨he,hs⟩;rw[he,hs];split at hI
      ·rename_i hr;cases e1 <;> first |exact hK _ _ m (Z7 s2) ⟨by omega,hI⟩ oz |exact(nomatch hr)
      ·rename_i hr;obtain⟨rfl,rfl⟩:=Prod.mk.inj (Option.some.inj hI);cases e1 <;> first |exact⟨rfl,rfl⟩ |exact(nomatch hr)
     ·cases hI
   |region id A d =>
    simp only[pb]at h;split at h
    ·rename_i b7;split at h
     ·rename_i s0 h0;refine q5 (Dp h0) ?_;split at h
      ·rename_i s' h1;obtain⟨rfl,rfl⟩:=Prod.mk.inj (Option.some.inj h);exact DA (aap ih base) (DG b7) h1
      ·cases h
     ·cases h
    ·cases h
   |_=>cases h
theorem bK(E:Env P)(n:Nat){base:Nat}{av:List Nat}{f:FuncId}{xs:List AV}{H H':Hp}{r:AV}(h:(ev E n).fn base av f xs H=some (r,H')):Con P f xs H r H' :=
 (zE E n n (ahr _)).fn _ _ _ _ _ _ _ h
end Go.Lw
namespace Go.Lw
def xZ(s:ByteArray)(n:Int):Bd:=⟨s,[⟨⟨#[97]⟩,rt ((0:Int):Rat),rt ((0:Int):Rat)⟩,⟨⟨#[98]⟩,rt (n:Rat),rt ((0:Int):Rat)⟩]⟩
def fb:Li:=⟨⟨#[102,111,117,114,98,97,114]⟩,[xZ ⟨#[102,114,97,109,101]⟩ 4,xZ ⟨#[99,114,97,110,107]⟩ 3,xZ ⟨#[99,111,117,112,108,101,114]⟩ 5,xZ ⟨#[114,111,99,107,101,114]⟩ 6],
  [⟨⟨#[111]⟩,0,1,0,0,0,0⟩,⟨⟨#[112]⟩,0,2,0,1,1,0⟩,⟨⟨#[113]⟩,0,3,0,0,1,0⟩,⟨⟨#[114]⟩,0,2,1,3,1,0⟩],[⟨⟨#[100]⟩,1⟩]⟩
def t0:Tn:=⟨⟨false,[],[]⟩,false⟩
theorem tQ(a b:ByteArray):dw a b=(a.data.toList==b.data.toList):=by
 unfold dw;rw[Go.ByteArray.toList_eq,Go.ByteArray.toList_eq]
open Go.Proofs
def bO(P:ai5)(n:Nat):Option (FE P):=match h:P.funcs[n]? with
  |none=>none
  |some fn=>match hb:fn.body with
    |none=>none
    | some c => match hn : (fn.name == "runtime.NumGoroutine") with
      |true=>none
      |false=>some ⟨n,fn,c,fn.results.toList,h,hb,hn,by simp⟩
def kC(q:Rat):Bool:=aem q.num.natAbs 18446744073709551616&&aem q.den 18446744073709551616
def n0(q:Rat):AV:=nA (sh 0 (q:Rat))
def z0:AV:=jX []
def dW:List AV->Nat
  |[]=>0
  |x::l=>match x with
    | .v (.int _ (.ofNat n))=>n+4294967296*dW l
    |_=>0
def x6:AV->Nat
  | .lst _ l=>dW l
  |_=>0
def dQ(x:AV):Rat:=match x with
  | .agg (.v (.bool s)::n::d::_)=>match s with
    |true=>mkRat (-(x6 n:Int)) (x6 d)
    |false=>mkRat (x6 n:Int) (x6 d)
  |_=>0
abbrev En:=Option (Ent prog)
def w2(f:FuncId)(g:Rat->Rat->AV)(h:∀p q,kC p=true->kC q=true->FP f [qA p,qA q] (g p q))(p q:Rat):En:=match hh:kC p&&kC q with
  |true=>some ⟨f,[qA p,qA q],g p q,[],h p q (by rw[ahj]at hh;exact hh.1) (by rw[ahj]at hh;exact hh.2)⟩
  |false=>none
def w1(f:FuncId)(a:Rat->AV)(g:Rat->AV)(h:∀p,kC p=true->FP f [a p] (g p))(p:Rat):En:=match hh:kC p with
  |true=>some ⟨f,[a p],g p,[],h p hh⟩
  |false=>none
def w3(f:FuncId)(g:Rat->Rat->AV)(h:∀p q,kC p=true->kC q=true->FP f [z0,n0 p,n0 q] (g p q))(p q:Rat):En:=match hh:kC p&&kC q with
  |true=>some ⟨f,[z0,n0 p,n0 q],g p q,[],h p q (by rw[ahj]at hh;exact hh.1) (by rw[ahj]at hh;exact hh.2)⟩
  |false=>none
def w4(f:FuncId)(g:Rat->AV)(h:∀p,kC p=true->FP f [z0,n0 p] (g p))(p:Rat):En:=match hh:kC p with
  |true=>some ⟨f,[z0,n0 p],g p,[],h p hh⟩
  |false=>none
def oC(f:FuncId)(ys:List AV)(r:AV)(h:FP f ys r)(xs:List AV):En:=some ⟨f,ys,r,[],h⟩
def dI(x:AV):Int:=match x with
  | .v (.int _ z)=>z
  |_=>0
def oI(f:FuncId)(g:Int->AV)(h:∀z,(-9223372036854775808<=z/\z<=9223372036854775807)->FP f [i64 z] (g z))(xs:List AV):En:=match xs with
  |[a]=>match(ai1:Decidable (-9223372036854775808<=dI a/\dI a<=9223372036854775807))with
    | .isTrue hh=>some ⟨f,[i64 (dI a)],g (dI a),[],h (dI a) hh⟩
    | .isFalse _=>none
  |_=>none
def IA:List (Ent prog)->FuncId->Bool
  |[],_=>false
  |e::l,f=>match ad9 e.f f with
    |true=>true
    |false=>IA l f
def KN(xs:List AV)(f:FuncId):List (Ent prog)->En
  |[]=>none
  |e::l=>match ad9 e.f f&&pc xs e.xs with
    |true=>some e
    |false=>KN xs f l
def bN(L:List (Ent prog))(o:FuncId->Option (List AV->En))(f:FuncId):Option (List AV->En):=match IA L f with
  |true=>some fun xs=>match KN xs f L with
    |some e=>some e
    |none=>match o f with
      |some g=>g xs
      |none=>none
  |false=>o f
def bM(n:FuncId):Bool:=ad9 n 124||(ad9 n 224||ad9 n 322)
def yP(p:Rat):Rat:=if p<0 then -p else p
theorem NM{p:Rat}:aa .lss (a7 p) 0=decide (p<0):=by
 have h:aa .lss (a7 p) 0=decide (a7 p<0):=rfl;rw[h];apply decide_eq_decide.2;unfold a7;split
 ·rename_i h1;exact⟨fun _=>h1,fun _=>by omega⟩
 ·rename_i h1;split
  ·exact⟨fun h9=>aiz h9 oz,fun h9=>aiz h9 h1⟩
  ·exact⟨fun h9=>aiz h9 oz,fun h9=>aiz h9 h1⟩
theorem Wf{p:Rat}(hp:Qs p):FP 390 [qA p] (qA (yP p)):=by
 have hP:=lC (rt p) hp.ok;rw[bG]at hP;refine ak func390 ?_;refine gc (uR hp) ?_;refine gC (fun z=>?_) (fun z=>?_)
 ·have h1 : p < 0 := by rw [NM] at z; exact aiv z
  refine gc (wX hp) ?_;refine ah ?_;unfold yP;rw[ait h1];rfl
 have h1:¬p<0:=by rw[NM]at z;exact aiw z
 refine gc hP ?_;refine gc (tM hp.num hp.den (by have:=p.den_nz;omega)) ?_;refine ah ?_;unfold yP;rw[ais h1,agm];rfl
theorem XD{a b:Int}(ha:-9223372036854775808<=a/\a<=9223372036854775807)(hb:-9223372036854775808<=b/\b<=9223372036854775807):FP 407 [i64 a,i64 b] (.tup [qA (agl a b),dh (if b=0 then 8 else 0)]):=by
 have za:Zs a:=⟨2,by omega,by unfold Lz;simp only[Nat.reducePow];omega⟩
 have zb:Zs b:=⟨2,by omega,by unfold Lz;simp only[Nat.reducePow];omega⟩
 refine ak func407 ?_;refine gc (zV a ha) ?_;refine gc (zV b hb) ?_;refine gc (IN za zb) ?_;refine bZ ?_
 first |rfl |(simp;done)
theorem TA:FP 396 [] (qA (agl 1 2)):=by
 refine ak func396 ?_;refine gc (XD (a:=1) (b:=2) oz oz) ?_;refine ah ?_
 first |rfl |(simp;done)
def lJ(q:Rat):Bool:=aem q.num.natAbs (2^4000)&&aem q.den (2^4000)
theorem jA{q:Rat}(h:lJ q=true):Qs q:=by
 obtain⟨k,hk⟩:∃k,k=4000:=⟨_,rfl⟩
 unfold lJ at h;rw[<- hk]at h;simp only[ahj,adx]at h;exact Qb.qs (e:=k) h oz
def Rg(f:FuncId)(g:Rat->Rat->AV)(h:∀p q,lJ p=true->lJ q=true->FP f [qA p,qA q] (g p q))(p q:Rat):En:=match hh:lJ p&&lJ q with
  |true=>some ⟨f,[qA p,qA q],g p q,[],h p q (by rw[ahj]at hh;exact hh.1) (by rw[ahj]at hh;exact hh.2)⟩
  |false=>none
def wk(f:FuncId)(g:Rat->Rat->AV)(h:∀p q,lJ p=true->lJ q=true->FP f [qA p,qA q] (g p q))(xs:List AV):En:=match xs with
  |[a,b]=>Rg f g h (dQ a) (dQ b)
  |_=>none
def S6(f:FuncId)(a:Rat->AV)(g:Rat->AV)(h:∀p,lJ p=true->FP f [a p] (g p))(p:Rat):En:=match hh:lJ p with
  |true=>some ⟨f,[a p],g p,[],h p hh⟩
  |false=>none
def Af(f:FuncId)(g:Rat->AV)(h:∀p,lJ p=true->FP f [qA p] (g p))(xs:List AV):En:=match xs with
  |[a]=>S6 f qA g h (dQ a)
  |_=>none
def LH:FuncId->Option (List AV->En)
  |45=>some (wk 45 (fun p q=>qA (p+q)) fun _ _ h h'=>zu (jA h) (jA h'))
  |172=>some (wk 172 (fun p q=>qA (p-q)) fun _ _ h h'=>tc (jA h) (jA h'))
  |71=>some (wk 71 (fun p q=>qA (p*q)) fun _ _ h h'=>jP (jA h) (jA h'))
  |389=>some (wk 389 (fun p q=>.tup [qA (p/q),dh (if q=0 then 8 else 0)]) fun _ _ h h'=>MM (jA h) (jA h'))
  |279=>some (Af 279 (fun p=>qA (-p)) fun _ h=>wX (jA h))
  |24=>some (Af 24 (fun p=>i64 (a7 p)) fun _ h=>uR (jA h))
  |104=>some (Af 104 (fun p=>bl (rt p).valid) fun _ h=>u9 _ (jA h).ok)
  |352=>some (wk 352 (fun p q=>i64 (a7 (p-q))) fun _ _ h h'=>YW (jA h) (jA h'))
  |390=>some (Af 390 (fun p=>qA (yP p)) fun _ h=>Wf (jA h))
  |396=>some (oC 396 [] _ TA)
  |19=>some (oI 19 (fun z=>qA z) oG)
  |82=>some (oI 82 (fun z=>qA z) sY)
  |_=>none
def oV(s p q:ByteArray)(n:Int):Bd:=⟨s,[⟨p,rt ((0:Int):Rat),rt ((0:Int):Rat)⟩,⟨q,rt (n:Rat),rt ((0:Int):Rat)⟩]⟩
def f3(n:Int):Li:=⟨⟨#[102,111,117,114,98,97,114]⟩,[oV ⟨#[102,114,97,109,101]⟩ ⟨#[97]⟩ ⟨#[100]⟩ 4,oV ⟨#[99,114,97,110,107]⟩ ⟨#[97]⟩ ⟨#[98]⟩ 1,oV ⟨#[99,111,117,112,108,101,114]⟩ ⟨#[98]⟩ ⟨#[99]⟩ 4,oV ⟨#[114,111,99,107,101,114]⟩ ⟨#[100]⟩ ⟨#[99]⟩ n],
  [⟨⟨#[106,49]⟩,0,0,0,1,0,0⟩,⟨⟨#[106,50]⟩,0,1,1,2,0,0⟩,⟨⟨#[106,51]⟩,0,0,1,3,0,0⟩,⟨⟨#[106,52]⟩,0,2,1,3,1,0⟩],[⟨⟨#[109]⟩,1⟩]⟩
theorem Sd:ax (f3 1)=0:=by
 have h1:hO (f3 1)=0:=by
  unfold hO ew dZ fQ dK;simp only[tQ];decide +kernel
 have h2:et (f3 1)=0:=by
  unfold et ew f6 fQ;simp only[tQ];decide +kernel
 have h3:gG (f3 1)=0:=by
  unfold gG ew dq fQ;simp only[tQ];decide +kernel
 unfold ax;rw[h1,h2,h3];decide +kernel
theorem Vl:ax (f3 2)=0:=by
 have h1:hO (f3 2)=0:=by
  unfold hO ew dZ fQ dK;simp only[tQ];decide +kernel
 have h2:et (f3 2)=0:=by
  unfold et ew f6 fQ;simp only[tQ];decide +kernel
 have h3:gG (f3 2)=0:=by
  unfold gG ew dq fQ;simp only[tQ];decide +kernel
 unfold ax;rw[h1,h2,h3];decide +kernel
theorem zD{s p q:ByteArray}(hs:s.size<=1000)(hp:p.size<=1000)(hq:q.size<=1000){n:Int}(hn:-9223372036854775808<=n/\n<=9223372036854775807) :
  (oV s p q n).name.size<=281474976710656/\(oV s p q n).pts.length<=281474976710656/\∀m∈(oV s p q n).pts,m.name.size<=281474976710656/\m.x.wok/\m.y.wok:=by
 have h0:(rt ((0:Int):Rat)).ok:=(BB oz).ok;have h1:(rt (n:Rat)).ok:=(BB hn).ok;refine⟨ah8 hs oz,by show 2<=_;omega,fun m hm=>?_⟩;simp only[oV,ah3,ahy,or_false]at hm;rcases hm with rfl |rfl
 ·exact⟨ah8 hp oz,h0.wok,h0.wok⟩
 ·exact⟨ah8 hq oz,h1.wok,h0.wok⟩
theorem LV{n:Int}(hn:-9223372036854775808<=n/\n<=9223372036854775807):(f3 n).okw:=by
 refine⟨by show 7<=_;omega,fun b hb=>?_,fun j hj=>?_,fun d hd=>?_,by show 4<=_;omega,by show 4<=_;omega,by show 1<=_;omega⟩
 ·simp only[f3,ah3,ahy,or_false]at hb;rcases hb with rfl |rfl |rfl |rfl
  ·exact zD (by decide) (by decide) (by decide) oz
  ·exact zD (by decide) (by decide) (by decide) oz
  ·exact zD (by decide) (by decide) (by decide) oz
  ·exact zD (by decide) (by decide) (by decide) hn
 ·simp only[f3,ah3,ahy,or_false]at hj;rcases hj with rfl |rfl |rfl |rfl <;> decide
 ·simp only[f3,ah3,ahy,or_false]at hd;rcases hd with rfl;decide
theorem Td:(f3 1).ok:=C2 (by decide +kernel) (LV oz)
theorem Rc:(f3 2).ok:=C2 (by decide +kernel) (LV oz)
def VZ(o1 o2:FuncId->Option (List AV->En))(f:FuncId):Option (List AV->En):=match o1 f with
  |some g1=>match o2 f with
    |some g2=>some fun xs=>match g1 xs with
      |some e=>match pc xs e.xs with
        |true=>some e
        |false=>g2 xs
      |none=>g2 xs
    |none=>some g1
  |none=>o2 f
theorem Ei:dB (f3 1)=0:=by
 unfold dB;rw[Sd];decide +kernel
theorem E2:dB (f3 2)=0:=by
 unfold dB;rw[Vl];decide +kernel
theorem abt:dX (f3 1)=[[0,0,256]]:=by
 unfold dX;rw[ait Ei];decide +kernel
theorem Zc:dX (f3 2)=[[135,0,622,0,231]]:=by
 unfold dX;rw[ait E2];decide +kernel
theorem Xc:dR (f3 1)=[4]:=by
 unfold dR;rw[ait Ei];decide +kernel
theorem Sq:dR (f3 2)=[4]:=by
 unfold dR;rw[ait E2];decide +kernel
theorem XL:FP 33 [(f3 1).av] (.tup [.lst 1 [nA [0,0,256]],.lst 1 [i64 4],.v .nilIface]):=by
 have h:=By (f3 1) Td;rw[abt,Xc,Ei]at h;exact h
theorem Xq:FP 33 [(f3 2).av] (.tup [.lst 1 [nA [135,0,622,0,231]],.lst 1 [i64 4],.v .nilIface]):=by
 have h:=By (f3 2) Rc;rw[Zc,Sq,E2]at h;exact h
def Wl(o:FuncId->Option (List AV->En)):FuncId->Option (List AV->En)
  |33=>some (oC 33 [(f3 1).av] _ XL)
  |f=>o f
def TW(o:FuncId->Option (List AV->En)):FuncId->Option (List AV->En)
  |33=>some (oC 33 [(f3 2).av] _ Xq)
  |f=>o f
def bH:FuncId->Option (List AV->En):=VZ (Wl LH) (TW LH)
end Go.Lw
