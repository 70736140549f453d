/- ModesImage: for any linkage and any turns the law returns true and leaves its arguments as they were. No other condition. Part 6 of 8: what the later parts need -/
import Derived.Test.YtokaoegjfpjjnaaGreatQe
import Derived.Laws.Cover3
set_option linter.unusedVariables false
open List (all_cons nil_append map_nil map_map range_succ)
open List renaming mem_of_getElem? → apo, mem_append → ap2, map_cons → aq2, mem_cons → aqf, length_cons → ap4, length_append → aqk, length_nil → ap9, getD_eq_getElem?_getD → apq, getElem?_append_left → aqc, all_eq_true → ap3, getElem?_take → aqh, getElem?_drop → aqv, getElem?_map → apv, getElem?_append_right → aqb, getElem?_eq_getElem → aps, getElem?_replicate → aql, map_append → ap8, length_take → ap7, take_of_length_le → aqa, drop_zero → aq1, take_length → ap5, not_mem_nil → aqg, length_map → apr, length_replicate → aqp, map_replicate → aqu, map_set → aq0, length_set → aq4, mem_singleton → am8, replicate → ana, drop_eq_getElem_cons → ani, mem_or_eq_of_mem_set → ank, take_append_drop → ann, cons_append → ans, mem_map → anx, getElem?_eq_some_iff → anz, mem_range → an2, mem_replicate → an5, contains_iff_mem → an8
open Nat renaming eq_of_beq_eq_true → apy, le_refl → apu, lt_of_lt_of_le → aqd, lt_or_ge → apz, le_trans → aqe, zero_le → apx, pow_add → aqs, mul_assoc → alu, mul_comm → alx, blt → aly, mul_le_mul → alz, blt_eq → al5, mul_add → ame, add_zero → amj, mul_pos → aml, beq → amq, zero_add → ams, add_mul → amt
open Option renaming map_eq_some_iff → apt, map_some → apm
open Bool renaming and_eq_true → apw, not_true → aoy, false_eq_true → aoz, not_eq_true' → ao0
open Array renaming getD_eq_getD_getElem? → ap1, getElem?_eq_getElem → apa, getElem?_toList → apd, getElem?_eq_none → apj
open Int renaming toNat_natCast → aqo
open Decidable renaming not_not → apn
open Go renaming Operand → arg, Value → arh, TypeId → ari, Program → arj, World → ark
open Go.Result renaming andThen_ok → arl
open Go.Sem renaming run_bind → arm, run_pure → arn
open Go.Proofs.Tryz
namespace Go.Lw
variable{P:arj}{N:Nat}{R:Array Oper}{s:AS}{pos:String}{after:Array Edge}
theorem Eo{d:Nat}{x:arg}{n:Nat}{z:arh}{T E t:ari}{ti te:TI}(hx:Ev s x (.v (.int .i64 n)))
    (hT:aJ P T=some ti) (hk:ti.k=.slice E) (hE:aJ P E=some te) (hz:te.zero=[z]) (iT:z.oneCell'=true) (hs:amq te.size 1=true) (uQ:aly 0 te.bytes=true)
    (hb:(n:Int)*te.bytes<=281474976710656) (hN:aly d N=true) :
    Step P N R s ⟨some d,.makeSlice T x x,t,pos,after,none⟩
      ⟨some (.ms d 1 0 n),[(d,some (.vec (ana n z)))],az x,[]⟩ :=
  zH rfl rfl hN (by simp) fun s' aH hfr C m a w hr => by
    have ig:=uF hr (hx.agree aH (fun _ h=>h));have hs:=apy hs;rw[al5]at uQ;obtain⟨d2,h3,h4,-,-⟩:=f6 hT w;obtain rfl:=mb (h4.trans hk);obtain⟨zv,h5,h6⟩:=xy hE w;obtain⟨ie,h7,h8,-⟩:=JL hE w;have h6':zv.cells.toList=[z]:=h6.trans hz;have IC:zv.cells=#[z]:=by rw[<- Array.toArray_toList (xs:=zv.cells),h6']
    have Aj:(n:Int)<=281474976710656:=by
      have:(n:Int)*1<=n*te.bytes:=Int.mul_le_mul_of_nonneg_left oz oz;omega
    have oy:IntKind.i64.wrap (n:Int)=n:=IntWalk.i64_in n oz;obtain⟨zero,iH⟩:∃zero:Array arh,zero=(if n*te.size=0 then #[]else zv.cells):=⟨_,rfl⟩
    refine⟨.slice (some ⟨w.heap.size,0,none⟩) n n,(Array.range (n*te.size)).map (zero[· % zero.size]!),E,w.drawn,?_,?_,?_,?_⟩
    · have ii:(Instr.makeSlice T (.int .i64 n) (.int .i64 n)).run P w =
          .ok (.slice (some ⟨w.heap.size,0,none⟩) n n) { w with heap:=w.heap.push (.cells ((Array.range (n*te.size)).map (zero[· % zero.size]!)) E) }:=by
        have hc:¬(((n:Int)<0\/281474976710656<(ie.bytes:Int)*n)\/(n:Int)<0):=by
          rw[h8,Int.mul_comm];omega
        simp only[Instr.makeSlice,arm,h3,arl,asInt,asIntOf,arn,h7,oy];rw[aq6 (by simpa using hc)];simp only[arm,run_askRoom,arl,kj hE,aqo]
        by_cases h0:n*te.size=0
        · rw[aq7 h0]at iH ⊢
          subst iH;simp only[arm,arn,arl,newRow,run_newObj]
        · rw[aq6 h0]at iH ⊢
          subst iH;simp only[arm,arn,arl,h5,newRow,run_newObj]
      simp only[execOp,ig,arm,ii,arl,arn]
    · exact fun h=>h
    · intro g S m' w' hg hS hm hw
      refine .vec hw ?_ (fun v hv=>by rw[List.eq_of_mem_replicate hv];exact iT);apply List.ext_getElem?;intro j;rw[apd,aql]
      by_cases hj:j<n
      · have jR : ¬ n * te.size = 0 := by rw [hs]; omega
        rw[aq6 jR,IC]at iH;subst iH;rw[aq7 hj];simp only[Array.getElem?_map,Array.getElem?_range,show j<n*te.size by rw[hs];omega,if_true,apm,Option.some.injEq];simp[Nat.mod_one]
      · rw[aq6 hj,apj (by simp[hs];omega)]
    · intro g S m' hm hS
      have:=Rep.ms (g:=g) (S:=S) (m:=m') (k:=d) (sz:=1) (off:=0) (len:=n) (cap:=n) hm (apu _) (by simpa[hs]using hS);simpa using this
theorem Bf{x y:arg}{k i:Nat}{vs:List arh}{v:arh}{T t:ari}{ti:TI}
  (hx:Ev s x (.eptr k 1 i 0)) (hk:s.blk k=some (.vec vs)) (hi:i<vs.length) (hy:Ev s y (.v v)) (hv:v.oneCell'=true) (hT:aJ P T=some ti) (bH:amq ti.size 1=true) :
  Step P N R s ⟨none,.store T x y,t,pos,after,none⟩ ⟨none,[(k,some (.vec (vs.set i v)))],az x++az y,[k]⟩ :=
 ER rfl rfl (by simp) hk fun s' aH C m a w hr => by
  have bH:=apy bH;obtain⟨b,hm,ig⟩:=C1 hr (hx.agree aH (fun _ h=>ap2.2 (.inl h)));have mj:=uF hr (hy.agree aH (fun _ h=>ap2.2 (.inr h)));have hb:=hr.heap.blk k _ ((aH.2 k (by simp)).trans hk);rw[hm]at hb;cases hb with
  | @vec _ _ c t2 hw hc h1 =>
   have cB:c.size=vs.length:=by rw[<- hc];simp
   have D7:v.cells=#[v]:=by cases v <;> simp_all [Value.cells,Value.oneCell']
   refine⟨b,c,(over c.toList i v.cells.toList).toArray,t2,hm,hw,?_,?_,?_⟩
   ·simp[over,D7];omega
   ·have gO := Hs (P := P) (off := i) (v := v) hT hw (by rw[D7,bH];rfl) oz (by rw[D7];simpa using hv);simp[execOp,Instr.storeAt,ig,Instr.sureAddr,mj,gO]
   ·intro g S w' hg hS hw';refine .vec hw' ?_ (fun u hu=>?_)
    ·rw[hc,D7];unfold over;rw[List.set_eq_take_append_cons_drop,aq7 hi];simp
    ·rcases ank hu with h9 |h9
     ·exact h1 u h9
     ·rw[h9];exact hv
inductive Lent(H:Hp)(hid:List Nat):AV->AV->Prop
  |same {x:AV} (h:x.nm=[]):Lent H hid x x
  |ms {k off len:Nat} {vs:List arh} (hk:lk H k=some (.vec vs)) (hh:k∉hid) (hl:off+len<=vs.length) (hm:vs.length<=bf):Lent H hid (.ms k 1 off len) (.lst 1 (((vs.drop off).take len).map .v))
theorem Lv{g:Nat->Array arh->Prop}{S:Nat->Nat->Prop}{m:Nat->Option Nat}{u y:arh}(h:Rep g S m u (.v y)):u=y:=by cases h;rfl
theorem CU{m:Nat->Option Nat}{b:Nat}:¬bh [] m b:=by rintro⟨k,x,h,_⟩;cases h
def wT(ext:Nat->Prop)(H:Hp)(hid:List Nat)(m:Nat->Option Nat)(b:Nat):Prop:=ext b\/∃k z,k∈hid/\lk H k=some z/\m k=some b
theorem acy{ext:Nat->Prop}{H:Hp}{hid:List Nat}{m m2:Nat->Option Nat}{w:ark}{b:Nat}{cs:Array arh}(h:Im ext H m w b cs):Im (wT ext H hid m) [] m2 w b cs :=
 ⟨fun h'=>h'.elim h.1 (fun⟨k,z,_,hz,hb⟩=>h.2.1 ⟨k,z,hz,hb⟩),CU,h.2.2⟩
theorem JS{ext:Nat->Prop}{H:Hp}{hid:List Nat}{m:Nat->Option Nat}{w:ark}(hh:HeapRel ext H m w){k b:Nat}{z:Blk}(hk:lk H k=some z)(hb:m k=some b)(hn:k∉hid):¬wT ext H hid m b:=by
 rintro(h |⟨k',z',h1,h2,h3⟩)
 ·exact(hh.sep k z b hk hb).1 h
 ·have:=hh.inj k k' z z' b hk h2 hb h3;subst this;exact hn h1
theorem Lent.rep{ext:Nat->Prop}{H:Hp}{hid:List Nat}{m:Nat->Option Nat}{w:ark}(hh:HeapRel ext H m w){x x':AV}(h:Lent H hid x x') :
  ∀{v:arh},Rep (Im ext H m w) (Sz w) m v x->∀m2:Nat->Option Nat,Rep (Im (wT ext H hid m) [] m w) (Sz w) m2 v x':=by
 cases h with
 |same hn=>intro v hv m2;exact(ma hn hv).mono (fun _ _ h=>acy h) (fun _ _ h=>h) (fun _ _ _ h=>h)
 | @ms k off len vs hk hnh hl hm =>
  intro v hr m2;have hb:=hh.blk k _ hk;cases hr with
  |ms0 a=>simp only[List.take_zero];exact .lst0 _ _ _
  | @ms _ _ _ _ _ cap b ii hc hS =>
   rw[ii]at hb;cases hb with
   | @vec _ _ c t hw qD h1 =>
    have cB:c.size=vs.length:=by rw[<- qD];simp
    have bV:(((vs.drop off).take len).map AV.v).length=len:=by rw[apr,ap7,List.length_drop];omega
    have he':∀(i:Nat)(e:AV),(((vs.drop off).take len).map AV.v)[i]?=some e->∃u,e=.v u/\c[off+i]?=some u/\u∈vs:=by
     intro i e he;rw[apv,apt]at he;obtain⟨u,he,rfl⟩:=he;rw[aqh]at he;split at he
     ·rw[aqv]at he;exact⟨u,rfl,by rw[<- apd,qD];exact he,apo he⟩
     ·cases he
    have:=Rep.lst (g:=Im (wT ext H hid m) [] m w) (S:=Sz w) (m:=m2) (b:=b) (off:=off) (cap:=cap) (sz:=1) (es:=((vs.drop off).take len).map AV.v) (cs:=c) (fun i j=>c.getD (off+i) undef)
     ⟨JS hh hk ii hnh,CU,t,(0,0),hw⟩ oz oz ?_ ?_ ?_ ?_
    ·rw[bV]at this;simpa using this
    ·intro i e he;obtain⟨u,rfl,_⟩:=he' i e he;rfl
    ·intro i j e x he hx;obtain⟨u,rfl,_,hm⟩:=he' i e he;cases j with
     |zero=>cases hx;exact h1 u hm
     |succ j=>cases hx
    ·intro i j e x he hx;obtain⟨u,rfl,hu,_⟩:=he' i e he;cases j with
     |zero=>rw[Nat.mul_one,amj,ap1,hu];rfl
     |succ j=>cases hx
    ·intro i j e x he hx;obtain⟨u,rfl,hu,_⟩:=he' i e he;cases j with
     |zero=>cases hx;rw[ap1,hu];exact .v _
     |succ j=>cases hx
def RF:AV->Bool
  | .v (.int _ _)=>true
  |_=>false
def Qc:AV->Bool
  | .v (.int _ _)=>false
  | .v _=>true
  | .lst _ _=>true
  | .ms _ _ _ _=>true
  |_=>false
mutual
def AV.li:AV->Bool
  | .v _=>true
  | .agg cs=>AV.lis cs
  | .tup cs=>AV.lis cs
  | .lst sz es=>amq sz 1&&es.all RF
  |_=>false
def AV.lis:List AV->Bool
  |[]=>true
  |x::l=>x.li&&AV.lis l
end
theorem AV.lis_mem:∀{l:List AV}{c:AV},AV.lis l=true->c∈l->c.li=true
 |x::l,c,h,hc=>by
  simp only[AV.lis,apw]at h;rcases aqf.1 hc with rfl |hc
  ·exact h.1
  ·exact AV.lis_mem h.2 hc
theorem UD{g:Nat->Array arh->Prop}{S:Nat->Nat->Prop}{m:Nat->Option Nat}{u:arh}{x:AV}(hx:Qc x=true)(h:Rep g S m u x)(kk:IntKind)(z:Int):u≠.int kk z:=by
 rintro rfl;cases h <;> cases hx
theorem YA{g g':Nat->Array arh->Prop}{S S':Nat->Nat->Prop}{m m':Nat->Option Nat}{v:arh}{x:AV}(hx:x.li=true)
  (hg:∀b cs (o:Nat)(kk:IntKind)(z:Int),cs[o]?=some (.int kk z)->g b cs->g' b cs) (h:Rep g S m v x):Rep g' S' m' v x:=by
 induction h with
 |v=>exact .v _
 |agg hn h1 hr ih=>exact .agg hn h1 (fun j u c hu hc=>ih j u c hu hc (AV.lis_mem hx (apo hc)))
 |tup hn hr ih=>exact .tup hn (fun j u c hu hc=>ih j u c hu hc (AV.lis_mem hx (apo hc)))
 |lst0 a cap sz=>exact .lst0 _ _ _
 | @lst _ b off cap sz es cs u hb hc hl hs h1 hu hr _ =>
  simp only[AV.li,apw]at hx;have bH:=apy hx.1;subst bH
  match es,hx,hc,hl,hs,h1,hu,hr with
  |[],_,_,_,_,_,_,_=>exact .lst0 _ _ _
  |e::es,hx,hc,hl,hs,h1,hu,hr =>
   have jd:∀(i j:Nat)(e' c:AV),(e::es)[i]?=some e'->e'.cells[j]?=some c->∃kk z,c=.v (.int kk z):=by
    intro i j e' c he hc';have h9:=ap3.1 hx.2 e' (apo he);cases e' with
    |v y=>cases y with
     |int kk z =>
      cases j with
      |zero=>cases hc';exact⟨_,_,rfl⟩
      |succ j=>cases hc'
     |_=>cases h9
    |_=>cases h9
   have uZ:∃kk z,e=.v (.int kk z):=by
    have h9:=ap3.1 hx.2 e (by simp);cases e with
    |v y=>cases y with
     |int kk z=>exact⟨_,_,rfl⟩
     |_=>cases h9
    |_=>cases h9
   obtain⟨kk,z,rfl⟩:=uZ;have h8:=hu 0 0 _ _ rfl rfl;have h7:=hr 0 0 _ _ rfl rfl;have h6:u 0 0=.int kk z:=Lv h7;rw[h6]at h8;refine .lst u (hg b cs _ kk z h8 hb) hc hl hs h1 hu (fun i j e' c he hc'=>?_);obtain⟨k2,z2,rfl⟩:=jd i j e' c he hc';rw[Lv (hr i j _ _ he hc')];exact .v _
 |_=>cases hx
theorem Con.lend{f:FuncId}{k:Nat}{cs:List AV}{cs':arh->List AV}{H:Hp}{r:AV}(hid:List Nat)(j0:Nat)(hk:lk H k=some (.box cs))(hkh:k∉hid)
  (hc:∀v:arh,v.oneCell'=true->(cs' v).length=cs.length/\(∀(j:Nat)(x:AV),(cs' v)[j]?=some x->x.one=true) /\
   ∀(j:Nat)(x x':AV),cs[j]?=some x->(cs' v)[j]?=some x'->(j=j0/\x'=.v v)\/Lent H hid x x')
  (hj:j0<cs.length)
  (hH:∀k z,lk H k=some z->k∈hid\/(∃cs,z=.box cs/\cs.all Qc=true)\/∃vs,z=.vec vs/\∀v∈vs,∀kk z,v≠.int kk z) (hr:r.li=true) (h:∀v:arh,kK P f [.iptr (cs' v)] r):Con P f [.ptr k 0] H r H:=by
 refine⟨(h undef).ok,?_⟩;intro ext m w vs hext cQ dW dC;have bH:0<vs.size:=by rw[dW];exact Nat.one_pos
 have no:=dC 0 vs[0] _ (apa bH) rfl;have hb:=cQ.blk k _ hk;generalize pc:vs[0]=v0 at no;cases no with
 | @ptr _ _ _ b ii =>
  rw[ii]at hb;cases hb with
  | @box _ _ c t hw hn h1 bn =>
   have jB:j0<c.size:=by omega
   have ik:=aps (l:=cs) (i:=j0) oz;have rF:(c[j0]).oneCell'=true:=(bn j0 _ _ (apa jB) ik).one (h1 j0 _ ik);obtain⟨g1,g2,g3⟩:=hc c[j0] rF
   have IE:∀b,wT ext H hid m b->b<w.heap.size:=by
    rintro b (h9 |⟨k',z',_,h2,h3⟩)
    ·exact hext b h9
    ·exact(cQ.sep k' z' b h2 h3).2
   have alf := (h c[j0]).ret (wT ext H hid m) m w vs IE ⟨fun k z hz => by (cases hz), fun k k' x x' b hx => by (cases hx), fun k x b hx => by (cases hx)⟩ (by rw [dW]; rfl) (by
    intro j v x hv hx
    match j,hx with
    |0,hx =>
     cases hx;rw[apa bH,pc]at hv;cases hv;refine .iptr (cs:=c) (fun j=>c.getD j undef) ⟨JS cQ hk ii hkh,CU,t,(0,0),hw⟩ g2 ?_ ?_
     ·intro j x hx;have hlt:j < c.size:=by rw [hn,<- g1]; exact (anz.1 hx).1
      rw[ams,ap1,apa hlt];rfl
     ·intro j x hx;have hlt:j < c.size:=by rw [hn,<- g1]; exact (anz.1 hx).1
      obtain⟨y,hy⟩:=l0 g1 hx;have qD:c[j]?=some (c.getD j undef):=by rw[ap1,apa hlt];rfl
      rcases g3 j y x hy hx with⟨rfl,rfl⟩ |hl
      ·have : c.getD j undef = c[j] := by rw [apa hlt] at qD; exact (Option.some.inj qD).symm
       rw[this];exact .v _
      ·exact hl.rep cQ (bn j _ y qD hy) eP)
   refine Calls.mono alf ?_;rintro e w' ⟨v,m',rfl,hf,hh,eK,uN,mo⟩;have D8:∀b,b<w.heap.size->w'.heap[b]?=w.heap[b]? := fun b hb=>hf.keep b hb CU
   have Ar:Frame (bh H m) w w':=⟨hf.os,hf.tape,hf.output,hf.size,hf.sz,fun b hb _=>D8 b hb⟩
   have eM:=ia (ext:=ext) Ar (hp':=H) (m':=m) (fun k x b hk hb=>.inl ⟨k,x,hk,hb⟩);refine⟨v,m,rfl,Ar,⟨?_,cQ.inj,?_⟩,fun k x b hk hb=>.inl ⟨k,x,hk,hb⟩,fun _ _ _ _ _=>rfl,?_⟩
   ·intro k z hz;exact BlkRep.mono (w:=w) eM hf.sz (fun _ _ _ h=>h) rfl (fun b hb=>D8 b (cQ.sep k z b hz hb).2) (cQ.blk k z hz)
   ·intro k z b hz hb;have:=cQ.sep k z b hz hb;exact⟨this.1,aqd this.2 hf.size⟩
   ·refine YA hr ?_ mo;rintro b2 cs2 o kk z ho ⟨g1,g2,t2,fl,g3⟩;refine⟨fun h9=>g1 (.inl h9),?_,t2,fl,g3⟩;rintro⟨k2,y,dj,bF⟩;have hlt:=fun b hb=>(cQ.sep k2 _ b dj hb).2
    have h3:=cQ.blk k2 _ dj;rw[bF]at h3;rcases hH k2 y dj with h9 |⟨cl,rfl,f7⟩ |⟨vs2,rfl,pf⟩
    ·exact g1 (.inr ⟨k2,y,h9,dj,bF⟩)
    ·cases h3 with
     | @box _ _ c2 t' mt s9 h12 IP =>
      have Ja:c2=cs2:=by
       rw[D8 b2 (hlt b2 bF),mt]at g3
       injection g3 with g3
       injection g3
      subst Ja;have ho':o<c2.size:=(Array.getElem?_eq_some_iff.1 ho).1;have hx:=aps (l:=cl) (i:=o) oz;exact UD (ap3.1 f7 _ (apo hx)) (IP o _ _ ho hx) kk z rfl
    ·cases h3 with
     | @vec _ _ c2 t' mt sW h12 =>
      have Ja:c2=cs2:=by
       rw[D8 b2 (hlt b2 bF),mt]at g3
       injection g3 with g3
       injection g3
      subst Ja;have:Value.int kk z∈vs2:=by rw[<- sW];exact Array.mem_toList_iff.2 (Array.mem_of_getElem? ho)
      exact pf _ this kk z rfl
end Go.Lw
namespace Go.Lw
open Go.Proofs
def bv(xs:List Bool):List arh:=xs.map .bool
theorem kf(xs:List Bool):(bv xs).length=xs.length:=apr _
theorem Bb(xs:List Bool)(n:Nat):(bv xs).set n (.bool true)=bv (xs.set n true):=by unfold bv;rw[aq0]
theorem Fy(xs:List Bool):∀v∈bv xs,∀kk z,v≠.int kk z:=by
 intro v hv kk z;obtain⟨b,_,rfl⟩:=anx.1 hv;exact fun h=>by cases h
theorem Ch(xs:List Bool):(bv xs).map AV.v=xs.map bl:=by unfold bv;rw[map_map];rfl
theorem G4(n:Nat):ana n (Value.bool false)=bv (ana n false):=by unfold bv;rw[aqu]
theorem XE(xs:List Int):(xs.map i64).all RF=true:=by
 rw[ap3];intro x hx;obtain⟨b,_,rfl⟩:=anx.1 hx;rfl
theorem Yy(g:Gr)(b:Bool):(AV.tup [g.av,bl b]).li=true:=by
 simp only[AV.li,AV.lis,Gr.av,XE];rfl
def tT(l:Li)(n:Nat):Blk:=.box (l.av.cells++[.ms 23 1 0 l.bo.length,.ms 27 1 0 l.bo.length,.ms 31 1 0 l.jo.length,.ms 900 4 0 n])
def r5(l:Li)(kw used:List Bool)(out:List Gr):Hp :=
  [pP 33 (tT l out.length),pP 23 (.vec (bv kw)),pP 27 (.vec (bv (cR l))),pP 31 (.vec (bv used)),pP 900 (.row 4 (out.map Gr.av))]
theorem Hy{xs:List Bool}{n:Nat}(h:xs.length=n):AV.lst 1 ((((bv xs).drop 0).take n).map .v)=.lst 1 (xs.map bl):=by
 rw[aq1,aqa (by rw[kf];omega),Ch]
theorem KA(l:Li)(hl:l.ok)(au:aG l=0)(kw used:List Bool)(hk:kw.length=l.bo.length)(hu:used.length=l.jo.length)(hm:l.bo.length<=bf/\l.jo.length<=bf)(out:List Gr) :
  Con prog 344 [.ptr 33 0] (r5 l kw used out) (.tup [((nextG l kw).getD default).av,bl (nextG l kw).isSome]) (r5 l kw used out):=by
 refine Con.lend (cs:=l.av.cells++[.ms 23 1 0 l.bo.length,.ms 27 1 0 l.bo.length,.ms 31 1 0 l.jo.length,.ms 900 4 0 out.length])
  (cs':=fun v=>fx l kw (cR l) [.lst 1 (used.map bl),.v v]) [900] 7 rfl (by decide) ?_ (by simp[Li.av,AV.cells]) ?_ (Yy _ _) (fun v=>ZC l hl au kw hk _)
 ·intro v hv;refine⟨rfl,?_,?_⟩
  ·intro j x hx
   match j,hx with
   |0,hx=>cases hx;rfl
   |1,hx=>cases hx;rfl
   |2,hx=>cases hx;rfl
   |3,hx=>cases hx;rfl
   |4,hx=>cases hx;rfl
   |5,hx=>cases hx;rfl
   |6,hx=>cases hx;rfl
   |7,hx=>cases hx;exact hv
   |j+8,hx=>cases hx
  ·intro j x x' hx hx'
   match j,hx,hx' with
   |0,hx,hx'=>cases hx;cases hx';exact .inr (.same rfl)
   |1,hx,hx'=>cases hx;cases hx';exact .inr (.same rfl)
   |2,hx,hx'=>cases hx;cases hx';exact .inr (.same rfl)
   |3,hx,hx'=>cases hx;cases hx';exact .inr (.same rfl)
   |4,hx,hx' =>
    cases hx;cases hx'
    have h:=Lent.ms (H:=r5 l kw used out) (hid:=[900]) (k:=23) (off:=0) (len:=l.bo.length) (vs:=bv kw) rfl (by decide) (by rw[kf];omega) (by rw[kf];omega);rw[Hy hk]at h;exact .inr h
   |5,hx,hx' =>
    cases hx;cases hx'
    have h:=Lent.ms (H:=r5 l kw used out) (hid:=[900]) (k:=27) (off:=0) (len:=l.bo.length) (vs:=bv (cR l)) rfl (by decide) (by rw[kf,xR];omega) (by rw[kf,xR];omega);rw[Hy (xR l)]at h;exact .inr h
   |6,hx,hx' =>
    cases hx;cases hx'
    have h:=Lent.ms (H:=r5 l kw used out) (hid:=[900]) (k:=31) (off:=0) (len:=l.jo.length) (vs:=bv used) rfl (by decide) (by rw[kf];omega) (by rw[kf];omega);rw[Hy hu]at h;exact .inr h
   |7,hx,hx'=>cases hx;cases hx';exact .inl ⟨rfl,rfl⟩
   |j+8,hx,hx'=>cases hx
 ·intro k z hz;simp only[r5,a5]at hz;split at hz
  ·cases hz;exact .inr (.inl ⟨_,rfl,rfl⟩)
  split at hz
  ·cases hz;exact .inr (.inr ⟨_,rfl,Fy _⟩)
  split at hz
  ·cases hz;exact .inr (.inr ⟨_,rfl,Fy _⟩)
  split at hz
  ·cases hz;exact .inr (.inr ⟨_,rfl,Fy _⟩)
  split at hz
  ·subst_vars;exact .inl (by decide)
  ·cases hz
def vr(l:Li):AV:=if aG l=0 then .iptr (fx l (cD l) (cR l) [.lst 1 ((fM l).map bl),.lst 4 ((findG l).map Gr.av)])else .v (.pointer none)
def mJ(l:Li)(out:List Gr):List Bool:=out.foldl (fun k g=>bQ k g.jo) (ana l.jo.length false)
theorem Er(l:Li)(out:List Gr):(mJ l out).length=l.jo.length:=by unfold mJ;rw[wQ,aqp]
theorem Vw(l:Li)(out:List Gr)(g:Gr):mJ l (out++[g])=bQ (mJ l out) g.jo:=by unfold mJ;rw[List.foldl_append];rfl
theorem FS{k:List Bool}{bs:List Int}{i:Nat}{b:Int}(h:bs[i]?=some b):bQ k (bs.take (i+1))=(bQ k (bs.take i)).set b.toNat true:=by
 unfold bQ;rw[dJ h,List.foldl_append];rfl
theorem aev{l:Li}(au:aG l=0){kw:List Bool}{out:List Gr}{g:Gr}(hk:kw.length=l.bo.length)(h:findFrom l (fA kw) kw out=(cD l,findG l))(hg:nextG l kw=some g) :
  findFrom l (fA (bQ kw g.bo)) (bQ kw g.bo) (out++[g])=(cD l,findG l):=by
 have hlt:=yw au hk hg;obtain⟨n,hn⟩:∃n,fA kw=n+1:=⟨fA kw-1,by omega⟩
 rw[hn]at h;unfold findFrom at h;rw[hg]at h;rw[<- h];exact Hr au _ _ _ _ (by rw[mI];exact hk) (apu _) oz
theorem ad4{l:Li}{kw:List Bool}{out:List Gr}(h:findFrom l (fA kw) kw out=(cD l,findG l))(hg:nextG l kw=none):kw=cD l/\out=findG l:=by
 cases hn:fA kw with
 |zero=>rw[hn]at h;exact⟨(Prod.mk.inj h).1,(Prod.mk.inj h).2⟩
 |succ n=>rw[hn]at h;unfold findFrom at h;rw[hg]at h;exact⟨(Prod.mk.inj h).1,(Prod.mk.inj h).2⟩
theorem abw{n:Nat}:fA (dw n 0)<=n:=by
 unfold fA;exact aqe List.countP_le_length (Nat.le_of_eq (kN _ _))
theorem aa6{l:Li}(au:aG l=0):findFrom l (fA (dw l.bo.length 0)) (dw l.bo.length 0) []=(cD l,findG l):=by
 rw[<- Qu];exact Hr au _ _ _ _ (kN _ _) (apu _) abw
theorem aee{l:Li}(au:aG l=0){kw:List Bool}{out:List Gr}(hk:kw.length=l.bo.length)(h:findFrom l (fA kw) kw out=(cD l,findG l)):out.length<=8:=by
 obtain⟨gs,e⟩:=E5 (l:=l) (fA kw) kw out;rw[e]at h;have h1:=(wc au).2;have h2:out++gs=findG l:=(Prod.mk.inj h).2;rw[<- h2,aqk]at h1;omega
theorem XL(l:Li)(kw used:List Bool)(out:List Gr)(hk:kw.length=l.bo.length)(hu:used.length=l.jo.length)(hm:l.bo.length<=bf/\l.jo.length<=bf) :
  Wk ⟨[pP 5 (.ptr 33 0)],r5 l kw used out⟩ ⟨[pP 5 (.iptr (fx l kw (cR l) [.lst 1 (used.map bl),.lst 4 (out.map Gr.av)]))],[]⟩:=by
 have hd:=xR l;have q1:.ms 23 1 0 l.bo.length=AV.ms 23 1 0 ((bv kw).map AV.v).length:=by rw[apr,kf,hk]
 refine(Wk.of (sl:=[pP 5 (.ptr 33 0)]) (hp:=[pP 33 (tT l out.length),pP 23 (.row 1 ((bv kw).map .v)),pP 27 (.row 1 ((bv (cR l)).map .v)),pP 31 (.row 1 ((bv used).map .v)),pP 900 (.row 4 (out.map Gr.av))])
  (.k .nil) (.k (.cons rfl (.vecRow (by rw[kf];omega)) (.cons rfl (.vecRow (by rw[kf];omega)) (.cons rfl (.vecRow (by rw[kf];omega)) (.k .nil)))))).trans ?_
 refine(Wk.freeze (k:=23) rfl).trans ?_
 refine(Wk.of (sl:=[pP 5 (.ptr 33 0)]) (hp:=[pP 33 (.box (l.av.cells++[.lst 1 (kw.map bl),.ms 27 1 0 l.bo.length,.ms 31 1 0 l.jo.length,.ms 900 4 0 out.length])),pP 27 (.row 1 ((bv (cR l)).map .v)),pP 31 (.row 1 ((bv used).map .v)),pP 900 (.row 4 (out.map Gr.av))])
  (.k .nil) (.cons rfl (BlkSub.bL (.cons (.refl _) (.cons (.refl _) (.cons (.refl _) (.cons (.refl _) (.cons (.of ((b8 (by rw[apr,kf,hk])).trans (by rw[Ch]))) (.cons (.refl _) (.cons (.refl _) (.cons (.refl _) .nil)))))))) rfl) (.k (.k (.k .nil))))).trans ?_
 refine(Wk.freeze (k:=27) rfl).trans ?_
 refine(Wk.of (sl:=[pP 5 (.ptr 33 0)]) (hp:=[pP 33 (.box (l.av.cells++[.lst 1 (kw.map bl),.lst 1 ((cR l).map bl),.ms 31 1 0 l.jo.length,.ms 900 4 0 out.length])),pP 31 (.row 1 ((bv used).map .v)),pP 900 (.row 4 (out.map Gr.av))])
  (.k .nil) (.cons rfl (BlkSub.bL (.cons (.refl _) (.cons (.refl _) (.cons (.refl _) (.cons (.refl _) (.cons (.refl _) (.cons (.of ((b8 (by rw[apr,kf,hd])).trans (by rw[Ch]))) (.cons (.refl _) (.cons (.refl _) .nil)))))))) rfl) (.k (.k .nil)))).trans ?_
 refine(Wk.freeze (k:=31) rfl).trans ?_
 refine(Wk.of (sl:=[pP 5 (.ptr 33 0)]) (hp:=[pP 33 (.box (l.av.cells++[.lst 1 (kw.map bl),.lst 1 ((cR l).map bl),.lst 1 (used.map bl),.ms 900 4 0 out.length])),pP 900 (.row 4 (out.map Gr.av))])
  (.k .nil) (.cons rfl (BlkSub.bL (.cons (.refl _) (.cons (.refl _) (.cons (.refl _) (.cons (.refl _) (.cons (.refl _) (.cons (.refl _) (.cons (.of ((b8 (by rw[apr,kf,hu])).trans (by rw[Ch]))) (.cons (.refl _) .nil)))))))) rfl) (.k .nil))).trans ?_
 refine(Wk.freeze (k:=900) rfl).trans ?_
 refine(Wk.of (sl:=[pP 5 (.ptr 33 0)]) (hp:=[pP 33 (.box (fx l kw (cR l) [.lst 1 (used.map bl),.lst 4 (out.map Gr.av)]))])
  (.k .nil) (.cons rfl (BlkSub.bL (.cons (.refl _) (.cons (.refl _) (.cons (.refl _) (.cons (.refl _) (.cons (.refl _) (.cons (.refl _) (.cons (.refl _) (.cons (.of (b8 (by rw[apr]))) .nil)))))))) rfl) .nil)).trans ?_
 refine(Wk.freezeB (k:=33) rfl rfl).trans ?_;exact Wk.of (.k .nil) .nil
theorem WQ(l:Li)(hl:l.ok):FP 222 [l.av] (.tup [vr l,bG (aG l)]):=by
 refine ai func222 ?_;refine gc (Dl l hl) ?_;refine gC (fun y=>?_) (fun y=>?_)
 ·have h1:=ef y;refine bK ?_;unfold vr;rw[aq6 h1]
 have au:=dS y;have h8:=(dK au).2.2.2.1;have h0:=(dK au).2.2.2.2;have I6:l.jo.length<=16:=by have:=(dK au).2.1;unfold fR at this;split at this;cases this;omega
 have rJ:=hl.ld;have hm:l.bo.length<=bf/\l.jo.length<=bf:=by unfold bf;omega
 refine gl ?_;refine gs (Eo (.tmp rfl) T320 rfl T4 rfl rfl rfl rfl (by dsimp only;omega) rfl) ?_;refine gl ?_;refine gs (Eo (.tmp rfl) T320 rfl T4 rfl rfl rfl rfl (by dsimp only;omega) rfl) ?_;refine gl ?_;refine gs (Eo (.tmp rfl) T320 rfl T4 rfl rfl rfl rfl (by dsimp only;omega) rfl) ?_;refine gD ?_;refine gs (cM (n:=0) (.tmp rfl) (.const _) T320 rfl T4 rfl rfl oz rfl) ?_;refine gs (Bf (.tmp rfl) rfl (by rw[aqp];omega) (.const _) rfl T4 rfl) ?_ (6,0);refine gW (Wk.of (sl:=[pP 1 (.ptr 1 0),pP 5 (.ptr 33 0)]) (hp:=[pP 1 (.box l.av.cells),pP 33 (.box (l.av.cells++[.ms 23 1 0 l.bo.length,.ms 27 1 0 l.bo.length,.ms 31 1 0 l.jo.length,nS])),pP 23 (.vec (bv (dw l.bo.length 0))),pP 27 (.vec (bv (ana l.bo.length false))),pP 31 (.vec (bv (ana l.jo.length false)))]) a6 (.k (.k (.cons rfl (.of (by rw[G4,Bb];rfl)) (.cons rfl (.of (by rw[G4])) (.cons rfl (.of (by rw[G4])) .nil)))))) ?_
 refine gl ?_;refine aS [1,5,40,41] [1,23,31] (fun(i:Nat)=>[pP 42 (i64 i)]) (fun i=>[pP 33 (.box (l.av.cells++[.ms 23 1 0 l.bo.length,.ms 27 1 0 l.bo.length,.ms 31 1 0 l.jo.length,nS])),pP 27 (.vec (bv (bQ (ana l.bo.length false) ((l.dv.map Dr.body).take i))))]) (fun i=>i<=l.dv.length) (fun i=>l.dv.length-i) 0 (apx _) ?_;rintro i hi K1 J1;refine gC (fun y=>?_) (fun y=>?_) (st2:=(11,0))
 ·have ae:=a7 y;obtain⟨d,hd⟩:=ay ae;have hb:=d5 (pW au hd);have hmt:=FS (k:=ana l.bo.length false) (bs:=l.dv.map Dr.body) (i:=i) (b:=d.body) (by rw[apv,hd];rfl);refine gi (aA hd) ?_;refine gs (cM (n:=d.body.toNat) (.tmp rfl) (.tmp rfl) T320 rfl T4 rfl oz oz rfl) ?_;refine gs (Bf (.tmp rfl) rfl (by rw[kf,mI,aqp];omega) (.const _) rfl T4 rfl) ?_;refine gD ?_;refine ga aN ?_;exact aM J1 (i+1) ae (hw:=Wk.of a6 (.k (.cons rfl (.of (by rw[Bb,hmt])) (.k (.k (.k .nil))))))
 have ae:=bj hi y;have Jb:bQ (ana l.bo.length false) ((l.dv.map Dr.body).take i)=cR l:=by rw[ae];unfold cR;rw[aqa (by rw[apr];omega)]
 refine gW ((Wk.virt 900 4 rfl).trans<|Wk.of (sl:=[pP 1 (.ptr 1 0),pP 5 (.ptr 33 0)]) (hp:=[pP 33 (tT l 0),pP 23 (.vec (bv (dw l.bo.length 0))),pP 27 (.vec (bv (cR l))),pP 31 (.vec (bv (ana l.jo.length false))),pP 900 (.row 4 [])]) a6 (.cons rfl (BlkSub.bL (.cons (.refl _) (.cons (.refl _) (.cons (.refl _) (.cons (.refl _) (.cons (.refl _) (.cons (.refl _) (.cons (.refl _) (.cons (Sub.nM _ _ _) .nil)))))))) rfl) (.k (.cons rfl (.of (by rw[Jb])) (.k (.k .nil)))))) ?_
 refine gt (aK (KA l hl au (dw l.bo.length 0) (ana l.jo.length false) (kN _ _) aqp hm []) (du rfl) (fun k z h=>h) rfl rfl) ?_;refine kg [5,8] [] (fun(kw:List Bool)(out:List Gr)=>[pP 9 (bl (nextG l kw).isSome)]) (fun kw out=>[pP 8 (.box ((nextG l kw).getD default).av.cells),pP 33 (tT l out.length),pP 23 (.vec (bv kw)),pP 27 (.vec (bv (cR l))),pP 31 (.vec (bv (mJ l out))),pP 900 (.row 4 (out.map Gr.av))]) (fun kw out=>kw.length=l.bo.length/\findFrom l (fA kw) kw out=(cD l,findG l)) (fun kw _=>fA kw) (dw l.bo.length 0) ([]) ⟨kN _ _,aa6 au⟩ ?_
 rintro kw out ⟨hk,hf⟩ K2 J2;refine gC (fun y=>?_) (fun y=>?_) (st1:=(77777,0)) (st2:=(27,0))
 ·obtain ⟨g, hg⟩:=Gv y;have ff:=C0 au hg;have alp:=aee au hk hf;refine gW (Wk.of (sl:=[pP 5 (.ptr 33 0),pP 8 (.ptr 8 0)]) (hp:=[pP 8 (.box g.av.cells),pP 33 (tT l out.length),pP 23 (.vec (bv kw)),pP 27 (.vec (bv (cR l))),pP 31 (.vec (bv (mJ l out))),pP 900 (.row 4 (out.map Gr.av))]) a6 (.cons rfl (.of (by rw [hg]; rfl)) (.k (.k (.k (.k (.k .nil))))))) ?_;refine gl ?_;refine aS [5,8,66,67] [8,33,27,31,900] (fun (j:Nat)=>[pP 68 (i64 j)]) (fun j=>[pP 23 (.vec (bv (bQ kw (g.bo.take j))))]) (fun j=>j <= g.bo.length) (fun j=>g.bo.length - j) 0 (apx _) ?_;rintro j hj K3 J3;refine gC (fun y=>?_) (fun y=>?_)
  ·have ae:=a7 y;obtain⟨b,hb⟩:=ay ae;have uQ:=ff.b b (apo hb);have eY:=ff.lb;refine gi (aA hb) ?_;refine gs (cM (n:=b.toNat) (.tmp rfl) (.tmp rfl) T320 rfl T4 rfl oz oz rfl) ?_;refine gs (Bf (.tmp rfl) rfl (by rw[kf,mI];omega) (.const _) rfl T4 rfl) ?_;refine ga aN ?_;exact aM J3 (j+1) ae (hw:=Wk.of a6 (.cons rfl (.of (by rw[Bb,FS hb])) (.k (.k (.k (.k (.k .nil)))))))
  have ae:=bj hj y;subst ae;refine gl ?_;refine aS [5,8,80,81] [8,33,27,900] (fun(q:Nat)=>[pP 82 (i64 q)]) (fun q=>[pP 23 (.vec (bv (bQ kw g.bo))),pP 31 (.vec (bv (bQ (mJ l out) (g.jo.take q))))]) (fun q=>q<=g.jo.length) (fun q=>g.jo.length-q) 0 (apx _) ?_ (h2:=(.cons rfl (.of (by rw[ap5])) (.k .nil)));rintro q hq K4 J4;refine gC (fun y=>?_) (fun y=>?_)
  ·have ae:=a7 y;obtain⟨b,hb⟩:=ay ae;have uQ:=ff.j b (apo hb);have tk:=ff.lj;refine gi (aA hb) ?_;refine gs (cM (n:=b.toNat) (.tmp rfl) (.tmp rfl) T320 rfl T4 rfl oz oz rfl) ?_;refine gs (Bf (.tmp rfl) rfl (by rw[kf,mI,Er];omega) (.const _) rfl T4 rfl) ?_;refine ga aN ?_;exact aM J4 (q+1) ae (hw:=Wk.of a6 (.k (.cons rfl (.of (by rw[Bb,FS hb])) (.k (.k (.k (.k .nil)))))))
  have ae:=bj hq y;subst ae;refine gs (cF (.tmp rfl) rfl (by rw[apr]) (.tmp rfl) T130 rfl T169 rfl rfl (by simp only[ap4,ap9];omega) rfl rfl) ?_;refine gD ?_ (25,0);refine gW (Wk.of (sl:=[pP 5 (.ptr 33 0),pP 8 (.ptr 8 0)]) (hp:=[pP 8 (.box g.av.cells),pP 33 (.box (l.av.cells++[.ms 23 1 0 l.bo.length,.ms 27 1 0 l.bo.length,.ms 31 1 0 l.jo.length,.ms 100 4 0 (out++[g]).length])),pP 100 (.row 4 ((out++[g]).map Gr.av)),pP 23 (.vec (bv (bQ kw g.bo))),pP 27 (.vec (bv (cR l))),pP 31 (.vec (bv (mJ l (out++[g]))))]) a6 (.k (.cons rfl (.of (by rw[aqk];rfl)) (.cons rfl (.of (by rw[ap8];rfl)) (.k (.k (.cons rfl (.of (by rw[Vw,ap5])) .nil))))))) ?_ (25,0)
  refine gW (Wk.rk (k:=100) (d:=900) rfl rfl) ?_ (26,0);refine gW (Wk.o (sl:=[pP 5 (.ptr 33 0),pP 103 (g.av)]) (hp:=[pP 33 (tT l (out++[g]).length),pP 23 (.vec (bv (bQ kw g.bo))),pP 27 (.vec (bv (cR l))),pP 31 (.vec (bv (mJ l (out++[g])))),pP 900 (.row 4 ((out++[g]).map Gr.av))])) ?_;refine gt (aK (KA l hl au (bQ kw g.bo) (mJ l (out++[g])) (by rw[mI];exact hk) (Er _ _) hm (out++[g])) (du rfl) (by intro k z h;simp only[r5,a5]at h;split at h;(subst_vars;exact h);split at h;(subst_vars;exact h);split at h;(subst_vars;exact h);split at h;(subst_vars;exact h);split at h;(subst_vars;exact h);cases h) rfl rfl) ?_;exact jI J2 (bQ kw g.bo) (out++[g]) ⟨by rw[mI];exact hk,aev au hk hf hg⟩ (yw au hk hg)
 have hg:=HO y;obtain⟨e1,e2⟩:=ad4 hf hg;subst e1 e2;refine gW (Wk.o (sl:=[pP 5 (.ptr 33 0)]) (hp:=[pP 33 (tT l (findG l).length),pP 23 (.vec (bv (cD l))),pP 27 (.vec (bv (cR l))),pP 31 (.vec (bv (mJ l (findG l)))),pP 900 (.row 4 ((findG l).map Gr.av))])) ?_ (27,0);refine gW (XL l (cD l) (mJ l (findG l)) (findG l) hk (Er _ _) hm) ?_;refine bK ?_;unfold vr;rw[aq7 au,au];rfl
theorem LZ{α:Type}[BEq α][LawfulBEq α]{xs:List α}{b:α}{ok:Nat->Bool}(h:∀i x,xs[i]?=some x->ok i=!(b==x)):decide (0<=mF (dt xs.length ok))=xs.contains b:=by
 cases hf:dt xs.length ok with
 |some i =>
  obtain⟨h1,h2⟩:=ip hf;obtain⟨x,hx⟩:=ay h1;rw[h i x hx]at h2;have:b=x:=by simpa using h2
  subst this;rw[an8.2 (apo hx)];exact arb (by show(0:Int)<=(i:Int);omega)
 |none =>
  rw[arc (by show ¬(0:Int) <= -1;decide)]
  symm
  rw[<- Bool.not_eq_true,an8];intro hm;obtain⟨i,hi⟩:=List.mem_iff_getElem?.1 hm;have hlt:=(anz.1 hi).1;unfold dt at hf;rw[List.find?_eq_none]at hf;have:=hf i (an2.2 hlt);rw[h i b hi]at this;simp at this
theorem Xm(xs:List Bool)(b:Bool)(hl:xs.length<=281474976710656):FP 345 [.lst 1 (xs.map bl),bl b] (i64 (mF (dt xs.length (fun i=>!(b==xs.getD i false))))):=by
 refine ai func345 ?_;refine gl ?_;refine aS [0,1,7] [] (fun(i:Nat)=>[pP 8 (i64 i)]) (fun _=>[]) (fun i=>i<=xs.length/\∀j,j<i->(!(b==xs.getD j false))=true) (fun i=>xs.length-i) 0 ⟨apx _,fun j h=>by omega⟩ ?_;rintro i ⟨hi,hj⟩ K1 J1;refine gC (fun z=>?_) (fun z=>?_)
 ·have ae:=a7 z;obtain⟨x,hx⟩:=ay ae;have hg:xs.getD i false=x:=ax hx;refine gi (aA hx) ?_;refine gC (fun z=>?_) (fun z=>?_)
  ·have h2:(b==x)=true:=z;refine ah ?_;rw[j7 ae hj (by rw[hg,h2];rfl)];rfl
  have h2:(b==x)=false:=z;refine ga aN ?_;exact aM J1 (i+1) ⟨ae,fun j h9=>by rcases apz j i with g |g;exact hj j g;(have:j=i:=by omega);subst this;rw[hg,h2];rfl⟩
 have ae:=bj hi z;subst ae;refine ah ?_;rw[jm hj];rfl
theorem Ms(xs:List Bool)(b:Bool)(hl:xs.length<=281474976710656):FP 223 [.lst 1 (xs.map bl),bl b] (bl (xs.contains b)):=by
 refine ai func223 ?_;refine gc (Xm xs b hl) ?_;refine ah ?_;rw[<- LZ (xs:=xs) (b:=b) (ok:=fun i=>!(b==xs.getD i false)) (fun i x hx=>by rw[ax hx])];rfl
theorem ahj(xs:List Int)(b:Int)(hl:xs.length<=281474976710656):FP 401 [.lst 1 (xs.map i64),i64 b] (i64 (mF (dt xs.length (fun i=>!(b==xs.getD i 0))))):=by
 refine ai func401 ?_;refine gl ?_;refine aS [0,1,7] [] (fun(i:Nat)=>[pP 8 (i64 i)]) (fun _=>[]) (fun i=>i<=xs.length/\∀j,j<i->(!(b==xs.getD j 0))=true) (fun i=>xs.length-i) 0 ⟨apx _,fun j h=>by omega⟩ ?_;rintro i ⟨hi,hj⟩ K1 J1;refine gC (fun z=>?_) (fun z=>?_)
 ·have ae:=a7 z;obtain⟨x,hx⟩:=ay ae;have hg:xs.getD i 0=x:=ax hx;refine gi (aA hx) ?_;refine gC (fun z=>?_) (fun z=>?_)
  ·have h2:(b==x)=true:=z;refine ah ?_;rw[j7 ae hj (by rw[hg,h2];rfl)];rfl
  have h2:(b==x)=false:=z;refine ga aN ?_;exact aM J1 (i+1) ⟨ae,fun j h9=>by rcases apz j i with g |g;exact hj j g;(have:j=i:=by omega);subst this;rw[hg,h2];rfl⟩
 have ae:=bj hi z;subst ae;refine ah ?_;rw[jm hj];rfl
theorem LI(xs:List Int)(b:Int)(hl:xs.length<=281474976710656):FP 318 [.lst 1 (xs.map i64),i64 b] (bl (xs.contains b)):=by
 refine ai func318 ?_;refine gc (ahj xs b hl) ?_;refine ah ?_;rw[<- LZ (xs:=xs) (b:=b) (ok:=fun i=>!(b==xs.getD i 0)) (fun i x hx=>by rw[ax hx])];rfl
theorem GV(l:Li)(hl:l.ok):FP 113 [l.av] (.tup [.lst 4 (((if aG l=0 then splitG l else[])).map Gr.av),bG (if aG l=0 then splitE l else aG l)]):=by
 refine ai func113 ?_;refine gc (WQ l hl) (hnm:=(by unfold vr;split <;> rfl)) ?_;refine gC (fun z=>?_) (fun z=>?_) (st2:=(77777,0))
 ·have h1:=ef z;refine gR ?_;exact fv (by rw[aq6 h1,aq6 h1];exact Sub.tup (.cons (.nil _ _ _) (.cons (.refl _) .nil)))
 have au:=dS z;have h8:=(dK au).2.2.2.1;have I6:l.jo.length<=16:=by have:=(dK au).2.1;unfold fR at this;split at this;cases this;omega
 have lk1:(cD l).length=l.bo.length:=by unfold cD;rw[wQ,kN]
 have lk2:(fM l).length=l.jo.length:=by unfold fM;rw[wQ,aqp]
 have e1:vr l=.iptr (fx l (cD l) (cR l) [.lst 1 ((fM l).map bl),.lst 4 ((findG l).map Gr.av)]):=by unfold vr;rw[aq7 au]
 have c1:=Bx (k:=cD l);have c2:=Bx (k:=fM l);refine gW (Wk.of (sl:=[pP 4 (.iptr (fx l (cD l) (cR l) [.lst 1 ((fM l).map bl),.lst 4 ((findG l).map Gr.av)])),pP 5 (bG (aG l))]) (hp:=[]) (.cons rfl (.of e1) (.k .nil)) .nil) ?_;refine gc (Ms (cD l) false oz) ?_;refine bT (fun _=>(Ms (fM l) false oz)) ?_;refine gC (fun t25=>?_) (fun t25=>?_)
 ·have h2:splitE l=7:=by
   unfold splitE;rw[aq6];intro h;have h3:(cD l).contains false=false:=c1.1 oz;have h4:(fM l).contains false=false:=c2.1 oz;rw[h3,h4]at t25;cases t25
  refine gR ?_;exact fv (by rw[aq7 au,aq7 au];unfold splitG;rw[aq6 (by rw[h2];simp),h2];exact Sub.tup (.cons (.nil _ _ _) (.cons (.refl _) .nil)))
 have h2:splitE l=0:=by
  unfold splitE;rw[aq7];cases h3:(cD l).contains false <;> cases h4:(fM l).contains false <;> rw[h3,h4]at t25 <;> first |(cases t25;done) |(have g1:=c1.2 h3;have g2:=c2.2 h4;omega)
 refine bK ?_;rw[aq7 au,aq7 au,h2];unfold splitG;rw[aq7 h2];rfl
def SO(ys:List Int)(i:Nat):Prop:=∀p q,p<q->q<i->ys.getD p 0<=ys.getD q 0
def SI(ys:List Int)(i j:Nat):Prop:=∀p q,p<q->q<=i->q≠j->ys.getD p 0<=ys.getD q 0
theorem ag7{xs ys:List Int}{i:Nat}(hp:ys.Perm xs)(hi:ys.length<=i)(h:SO ys i):ys=gG xs:=by
 refine UX hp (List.pairwise_iff_getElem.2 fun p q hp hq hpq=>?_);have h1:=h p q hpq oz;rw[ax (aps hp),ax (aps hq)]at h1;exact h1
theorem aft{ys:List Int}{i:Nat}(h:SO ys i):SI ys i i:=fun p q h1 h2 h3=>h p q h1 oz
theorem TZ{ys:List Int}{i j:Nat}(h:SI ys i j)(hj:j=0\/ys.getD (j-1) 0<=ys.getD j 0):SO ys (i+1):=by
 intro p q h1 h2
 by_cases hq:q=j
 ·subst hq;rcases hj with hj |hj
  ·omega
  ·by_cases hp:p=q-1
   ·subst hp;exact hj
   ·exact Int.le_trans (h p (q-1) oz oz oz) hj
 ·exact h p q h1 oz hq
theorem Ov(ys:List Int)(i:Nat)(x:Int)(p:Nat)(hi:i<ys.length):(ys.set i x).getD p 0=if p=i then x else ys.getD p 0:=by
 rw[apq,apq,List.getElem?_set]
 by_cases h:i=p
 ·subst h;simp[hi]
 ·rw[aq6 h,aq6 (fun e=>h e.symm)]
theorem ajp{ys:List Int}{i j:Nat}(h:SI ys i j)(hj:0<j)(hi:j<=i)(hl:i<ys.length)(hlt:ys.getD j 0<ys.getD (j-1) 0):SI ((ys.set j (ys.getD (j-1) 0)).set (j-1) (ys.getD j 0)) i (j-1):=by
 intro p q h1 h2 h3
 have e:∀r,((ys.set j (ys.getD (j-1) 0)).set (j-1) (ys.getD j 0)).getD r 0=if r=j-1 then ys.getD j 0 else if r=j then ys.getD (j-1) 0 else ys.getD r 0:=fun r=>by
  rw[Ov _ _ _ _ (by rw[aq4];omega),Ov _ _ _ _ oz]
 rw[e,e,aq6 h3]
 by_cases hq:q=j
 ·rw[aq7 hq]
  by_cases hp:p=j-1
  ·rw[aq7 hp];omega
  ·rw[aq6 hp,aq6 oz];exact h p (j-1) oz oz oz
 ·rw[aq6 hq]
  by_cases hp:p=j-1
  ·rw[aq7 hp];exact h j q oz h2 hq
  ·rw[aq6 hp]
   by_cases ku:p=j
   ·rw[aq7 ku];exact h (j-1) q oz h2 hq
   ·rw[aq6 ku];exact h p q h1 h2 hq
theorem aav{ys:List Int}{j:Nat}{a b:Int}(ha:ys[j]?=some a)(hb:ys[j-1]?=some b):((ys.set j b).set (j-1) a).Perm ys:=by
 obtain⟨h1,rfl⟩:=anz.1 ha;obtain⟨h2,rfl⟩:=anz.1 hb;exact List.set_set_perm h1 h2
theorem Wj{j:Nat}{a b:Int}(h:cond (aa .gtr (j:Int) 0) (decide (a<b)) false=true):0<j/\a<b:=by
 cases h1:aa .gtr (j:Int) 0 <;> rw[h1]at h
 ·cases h
 ·exact⟨my (b:=0) h1,aq9 h⟩
theorem TH{j:Nat}{a b:Int}(h:cond (aa .gtr (j:Int) 0) (decide (a<b)) false=false):j=0\/b<=a:=by
 cases h1:aa .gtr (j:Int) 0 <;> rw[h1]at h
 ·have:=kD (b:=0) h1;omega
 ·have h2:decide (a<b)=false:=h;have:=ara h2;omega
theorem aif(ys:List Int)(j:Nat)(a b:Int):((ys.map i64).set j (i64 b)).set (j-1) (i64 a)=((ys.set j b).set (j-1) a).map i64:=by rw[aq0,aq0]
theorem Rz(a:Int):FP 454 [i64 a] (bl false):=by
 refine ai func454 ?_;refine ah ?_;simp[aa];rfl
theorem ZJ(a b:Int):FP 408 [i64 a,i64 b] (bl (decide (a<b))):=by
 refine ai func408 ?_;refine gc (Rz a) ?_;refine bT (fun _=>(Rz b)) ?_;refine ah ?_
 first |rfl |(simp;done)
theorem aig(xs:List Int)(hl:xs.length<=12):Con prog 402 [.ms 1000 1 0 xs.length,i64 0,i64 xs.length] [pP 1000 (.row 1 (xs.map i64))] (.tup []) [pP 1000 (.row 1 ((gG xs).map i64))]:=by
 refine gF func402 (fun k z h=>bX h) ?_;refine ga (show _=((1:Nat):Int)from rfl) ?_;refine kg [1,2] [] (fun(ys:List Int)(i:Nat)=>[pP 0 (.ms 1000 1 0 xs.length),pP 6 (i64 i)]) (fun ys _=>[pP 1000 (.row 1 (ys.map i64))]) (fun ys i=>ys.length=xs.length/\ys.Perm xs/\1<=i/\SO ys i) (fun _ i=>xs.length+1-i) xs 1 ⟨rfl,.refl _,apu _,fun p q h1 h2=>by omega⟩ ?_;rintro ys i ⟨tf,SH,IU,SJ⟩ K1 J1;refine gC (fun y=>?_) (fun y=>?_)
 ·have ae:=a7 y;refine kg [1,2,6] [] (fun (zs:List Int) (j:Nat)=>[pP 0 (.ms 1000 1 0 xs.length),pP 7 (i64 j)]) (fun zs _=>[pP 1000 (.row 1 (zs.map i64))]) (fun zs j=>zs.length = xs.length /\ zs.Perm xs /\ j <= i /\ SI zs i j) (fun _ j=>j) ys i ⟨tf,SH,apu _,aft SJ⟩ ?_;rintro zs j ⟨SK,SL,rL,SM⟩ K2 J2;obtain ⟨a,ha⟩:=ay (show j < zs.length by omega);obtain ⟨b,hb⟩:=ay (show j - 1 < zs.length by omega);refine gs (gK rfl rfl rfl (fun h=>cM (n:=j) (.opt rfl (o1 h)) (.opt rfl (o1 h)) T46 rfl T3 rfl oz oz rfl)) ?_;refine gs (gK rfl rfl rfl (fun h=>f0 (.opt rfl (o1 h)) rfl (aA ha) T3 rfl rfl rfl)) ?_;refine uv (fun h=>(mU (my (b:=0) h) (by unfold bf; omega))) ?_;refine gs (gK rfl rfl rfl (fun h=>cM (n:=(j - 1)) (.opt rfl (o1 h)) (.opt rfl (o1 h)) T46 rfl T3 rfl oz oz rfl)) ?_;refine gs (gK rfl rfl rfl (fun h=>f0 (.opt rfl (o1 h)) rfl (aA hb) T3 rfl rfl rfl)) ?_;refine bT (fun _=>(ZJ a b)) ?_;refine gD ?_;refine gC (fun y=>?_) (fun y=>?_)
  ·obtain⟨jB,Si⟩:=Wj y;refine ga (mU jB (by unfold bf;omega)) ?_;refine ga (mU jB (by unfold bf;omega)) ?_;refine gs (cM (n:=(j-1)) (.tmp rfl) (.tmp rfl) T46 rfl T3 rfl oz oz rfl) ?_;refine gs (f0 (.tmp rfl) rfl (aA hb) T3 rfl rfl rfl) ?_;refine gs (cM (n:=j) (.tmp rfl) (.tmp rfl) T46 rfl T3 rfl oz oz rfl) ?_;refine gs (f0 (.tmp rfl) rfl (aA ha) T3 rfl rfl rfl) ?_;refine gs (cM (n:=j) (.tmp rfl) (.tmp rfl) T46 rfl T3 rfl oz oz rfl) ?_;refine gs (fg (.tmp rfl) rfl (aA ha) rfl (.tmp rfl) rfl rfl T3 rfl rfl) ?_;refine gs (cM (n:=(j-1)) (.tmp rfl) (.tmp rfl) T46 rfl T3 rfl oz oz rfl) ?_;refine gs (fg (.tmp rfl) rfl ((List.getElem?_set_ne oz).trans (aA hb)) rfl (.tmp rfl) rfl rfl T3 rfl rfl) ?_;refine gD ?_;refine ga (mU jB (by unfold bf;omega)) ?_;exact jI J2 ((zs.set j b).set (j-1) a) (j-1) ⟨by rw[aq4,aq4];exact SK,(aav ha hb).trans SL,by omega,by have h9:=ajp SM jB rL oz (by rw[ax ha,ax hb];exact Si);rw[ax ha,ax hb]at h9;exact h9⟩ (hw:=Wk.of a6 (.cons rfl (.of (are (Blk.row 1) (aif zs j a b))) .nil))
  have hs:=TH y;refine ga aN ?_;exact jI J1 zs (i+1) ⟨SK,SL,by omega,TZ SM (by rw[ax ha,ax hb];exact hs)⟩
 have ae:=yf y;refine gR ?_;exact aD.own2 rfl (by rw[<- ag7 SH oz SJ]) rfl
theorem Wv(xs:List Int)(hl:xs.length<=12)(m:Int):Con prog 319 [.ms 1000 1 0 xs.length,i64 0,i64 xs.length,i64 m] [pP 1000 (.row 1 (xs.map i64))] (.tup []) [pP 1000 (.row 1 ((gG xs).map i64))]:=by
 refine gF func319 (fun k z h=>bX h) ?_;refine gL0 [1,2,3,8,9] [1000] [pP 0 (.ms 1000 1 0 xs.length)] [] (True) (0) trivial ?_;rintro-K1 J1;refine ga (fu oz) ?_;refine gC (fun y=>?_) (fun y=>?_) (st2:=(77777,0))
 ·refine gt (aK (aig xs hl) (aO rfl rfl rfl) aL rfl rfl) ?_;refine gR ?_;exact aD.own2 rfl rfl rfl
 (rw[show aa .leq ((xs.length:Int)-0) 12=true from arb oz]at y;cases y)
theorem W3(x:Nat)(hx:x<256):FP 412 [u64 x] (i64 (bm x)):=by
 refine ai func412 ?_;refine gC (fun z=>?_) (fun z=>?_) (st1:=(2,0))
 ·(have:=z;simp[aa]at this;omega)
 refine gC (fun z=>?_) (fun z=>?_) (st1:=(5,0))
 ·(have:=z;simp[aa]at this;omega)
 refine gC (fun z=>?_) (fun z=>?_) (st1:=(8,0))
 ·(have:=z;simp[aa]at this;omega)
 refine gv (mP hx) ?_;refine gs (yT (y:=x) (.const _) (.tmp rfl) T9 rfl (by kernel_rfl) (by first |rfl |omega) oz rfl) ?_;refine gv (i64_in (by have:=mc hx;omega)) ?_;refine ga (eF (by have:=mc hx;omega)) ?_;refine ah ?_;simp only[i64];congr 2;omega
theorem aj2(x:Nat)(hx:x<256):FP 320 [u64 x] (i64 (bm x)):=by
 refine ai func320 ?_;refine gC (fun SN=>?_) (fun SN=>?_) (st1:=(1,0));cases SN;refine gc (W3 x hx) ?_;refine ah ?_
 first |rfl |(simp;done)
theorem Yi(xs:List Int)(hl:xs.length<=12):Con prog 196 [.ms 1000 1 0 xs.length] [pP 1000 (.row 1 (xs.map i64))] (.tup []) [pP 1000 (.row 1 ((gG xs).map i64))]:=by
 refine gF func196 (fun k z h=>bX h) ?_;refine gv (show IntKind.u64.wrap _=((xs.length:Nat):Int)from u64_in oz) ?_;refine gc (aj2 xs.length oz) ?_;refine gt (aK (Wv xs hl _) (.cons (.tmp rfl) (.cons (.const _) (bO rfl rfl))) aL rfl rfl) ?_;refine gR ?_;exact aD.own2 rfl rfl rfl
theorem ai2{l:Li}{g:Gr}{i:Nat}{z:Int}{j:Jt}(hz:g.jo[i]?=some z)(hj:l.jo[z.toNat]?=some j):(ju l g)[i]?=some (mK g j):=by
 unfold ju;rw[apv,hz,apm,ax hj]
theorem GI{l:Li}{g:Gr}{i:Nat}{z:Int}{j:Jt}{a:Int}(hz:g.jo[i]?=some z)(hj:l.jo[z.toNat]?=some j)(ha:mK g j=a):((ju l g).take i).map i64++[i64 a]=((ju l g).take (i+1)).map i64:=by
 rw[dJ (ai2 hz hj),ha,ap8];rfl
theorem afe{z:Int}{n:Nat}(h0:0<=z)(h1:z<n):cond (aa .lss z 0) true (aa .geq z (n:Int))=false:=by
 rw[show aa .lss z 0=false from arc oz];exact arc oz
theorem TU(l:Li)(hl:l.ok)(au:aG l=0)(g:Gr)(hg:GrOk l g):Con prog 195 [l.av,g.av] [] (.tup [.ms 900 1 0 g.jo.length,.v .nilIface]) [pP 900 (.row 1 ((ju l g).map i64))]:=by
 have eY:=hg.lb;have tk:=hg.lj;refine gF func195 (fun k z h=>by cases h) ?_;refine gc (Dl l hl) ?_;refine gC (fun q=>?_) (fun q=>?_) (st1:=(3,0))
 ·(rw[au]at q;cases q)
 refine gl ?_;refine gW ((Wk.virt 900 1 rfl).trans<|Wk.of (sl:=[pP 2 (.ptr 2 0),pP 3 (.ptr 3 0),pP 7 (.ms 900 1 0 0),pP 19 (.lst 1 (g.jo.map i64)),pP 20 (i64 g.jo.length),pP 21 (i64 0)]) (hp:=[pP 2 (.box l.av.cells),pP 3 (.box g.av.cells),pP 900 (.row 1 [])]) (.k (.k (.cons rfl (Sub.nM _ _ _) (.k (.k (.k .nil)))))) (.k (.k (.k .nil)))) ?_;refine aS [2,3,19,20] [2,3] (fun(i:Nat)=>[pP 7 (.ms 900 1 0 i),pP 21 (i64 i)]) (fun i=>[pP 900 (.row 1 (((ju l g).take i).map i64))]) (fun i=>i<=g.jo.length) (fun i=>g.jo.length-i) 0 (apx _) ?_;rintro i hi K1 J1;refine gC (fun q=>?_) (fun q=>?_) (st2:=(18,0))
 ·have ae:=a7 q;obtain ⟨z,hz⟩:=ay ae;obtain ⟨z0,z1⟩:=hg.j z (apo hz);obtain ⟨j,hj⟩:∃ j,l.jo[z.toNat]? = some j:=ay oz;have hlt:(((ju l g).take i).map i64).length = i:=by rw [apr,ap7,wG]; omega
  refine gi (aA hz) ?_;refine cA ?_;refine gC (fun q=>?_) (fun q=>?_) (st1:=(9,0))
  ·(rw[afe z0 z1]at q;cases q)
  refine gi (ko (n:=z.toNat) oz hj) ?_;refine gc (LI g.bo j.a oz) ?_;refine gc (LI g.bo j.b oz) ?_;refine gD ?_;refine gC (fun t55=>?_) (fun t55=>?_)
  ·have ha : mK g j = -1 := by unfold mK; cases h1 : g.bo.contains j.a <;> cases h2 : g.bo.contains j.b <;> rw [h1, h2] at t55 <;> first | (cases t55; done) | rfl
   refine gs (cF (.tmp rfl) rfl hlt.symm (.tmp rfl) T46 rfl T3 rfl rfl (by simp only[ap4,ap9];omega) rfl rfl) ?_ (17,0);refine gW (Wk.of (sl:=[pP 2 (.ptr 2 0),pP 3 (.ptr 3 0),pP 7 (.ms 62 1 0 (i+1)),pP 19 (.lst 1 (g.jo.map i64)),pP 20 (i64 g.jo.length),pP 21 (i64 i)]) (hp:=[pP 2 (.box l.av.cells),pP 3 (.box g.av.cells),pP 62 (.row 1 (((ju l g).take (i+1)).map i64))]) a6 (.k (.k (.cons rfl (.of (are (Blk.row 1) (GI hz hj ha))) .nil)))) ?_ (17,0);refine gW (Wk.rk (k:=62) (d:=900) rfl rfl) ?_;refine ga aN ?_;exact aM J1 (i+1) ae
  refine gC (fun q=>?_) (fun q=>?_)
  ·have ha : mK g j = j.b := by unfold mK; cases h1 : g.bo.contains j.a <;> cases h2 : g.bo.contains j.b <;> rw [h1] at q <;> rw [h1, h2] at t55 <;> first | (cases t55; done) | (cases q; done) | rfl
   refine gs (cF (.tmp rfl) rfl hlt.symm (.tmp rfl) T46 rfl T3 rfl rfl (by simp only[ap4,ap9];omega) rfl rfl) ?_ (17,0);refine gW (Wk.of (sl:=[pP 2 (.ptr 2 0),pP 3 (.ptr 3 0),pP 7 (.ms 69 1 0 (i+1)),pP 19 (.lst 1 (g.jo.map i64)),pP 20 (i64 g.jo.length),pP 21 (i64 i)]) (hp:=[pP 2 (.box l.av.cells),pP 3 (.box g.av.cells),pP 69 (.row 1 (((ju l g).take (i+1)).map i64))]) a6 (.k (.k (.cons rfl (.of (are (Blk.row 1) (GI hz hj ha))) .nil)))) ?_ (17,0);refine gW (Wk.rk (k:=69) (d:=900) rfl rfl) ?_;refine ga aN ?_;exact aM J1 (i+1) ae
  have ha:mK g j=j.a:=by unfold mK;rw[aq6 (by rw[show g.bo.contains j.a=false from q];simp)]
  refine gs (cF (.tmp rfl) rfl hlt.symm (.tmp rfl) T46 rfl T3 rfl rfl (by simp only[ap4,ap9];omega) rfl rfl) ?_ (17,0);refine gW (Wk.of (sl:=[pP 2 (.ptr 2 0),pP 3 (.ptr 3 0),pP 7 (.ms 54 1 0 (i+1)),pP 19 (.lst 1 (g.jo.map i64)),pP 20 (i64 g.jo.length),pP 21 (i64 i)]) (hp:=[pP 2 (.box l.av.cells),pP 3 (.box g.av.cells),pP 54 (.row 1 (((ju l g).take (i+1)).map i64))]) a6 (.k (.k (.cons rfl (.of (are (Blk.row 1) (GI hz hj ha))) .nil)))) ?_ (17,0);refine gW (Wk.rk (k:=54) (d:=900) rfl rfl) ?_;refine ga aN ?_;exact aM J1 (i+1) ae
 have ae:=bj hi q;subst ae;refine gW (Wk.of (sl:=[pP 7 (.ms 900 1 0 g.jo.length)]) (hp:=[pP 900 (.row 1 ((ju l g).map i64))]) a6 (.cons rfl (.of (by rw[aqa (by rw[wG];exact apu _)])) .nil)) ?_;refine gR ?_;exact aD.keep (bB rfl)
section
variable{ts:LL}{u k:Nat}{a b a2 b2:List Rat}{x y x2 y2:Et ts}{w v w' v' w2 v2 w3 v3:Nat}
theorem If(c:Ct ts u k)(h:w+v+(w'+v')<=10000):w*u+v*k+(w'*u+v'*k)+1<=lm ts.length:=by
 have h1:=Rx c (w:=w+w') (v:=v+v') (m:=10000) oz;have h2:=mD ts.length;rw[BJ];omega
theorem Ou(c:Ct ts u k){R:Nat}(h:eB R ts.length<=k):2*(2500*1000000+2500*1000000+kB R ts.length)<=lm ts.length:=by
 have h1:=c.kk h;have h2:=mD ts.length;omega
theorem Z5 [c : Ct ts u k] [ha : Zl ts u k a x w v] [hb : Zl ts u k b y w' v'] (h : w + v + (w' + v') <= 10000 := by decide) : FP 250 [aZ ts, nA a, nA b] (.tup [nA (sX (x + y)), .v .nilIface]) := by
 obtain⟨R,tw,hk⟩:=c.ex;have h0:=If c h;have h1:=F7 tw ha.nm hb.nm oz;rw[ha.eq,hb.eq]at h1;exact h1
theorem JA [c : Ct ts u k] [ha : Zl ts u k a x w v] [hb : Zl ts u k b y w' v'] (h : w + v + (w' + v') <= 10000 := by decide) : FP 209 [aZ ts, nA a, nA b] (.tup [nA (sX (x - y)), .v .nilIface]) := by
 obtain⟨R,tw,hk⟩:=c.ex;have h0:=If c h;have h1:=tR tw ha.nm hb.nm oz;rw[ha.eq,hb.eq]at h1;exact h1
theorem QO [c : Ct ts u k] [ha : Zl ts u k a x w v] [hb : Zl ts u k b y w' v'] (h : w + v + (w' + v') <= 10000 := by decide) : FP 210 [aZ ts, nA a, nA b] (.tup [nA (sX (x * y)), .v .nilIface]) := by
 obtain⟨R,tw,hk⟩:=c.ex;have h0:=If c h;have h1:=G2 tw ha.nm hb.nm oz;rw[ha.eq,hb.eq]at h1;exact h1
theorem TX [c : Ct ts u k] [ha : Zl ts u k a x w v] [hb : Zl ts u k b y w' v'] [u4 : Zl ts u k a2 x2 w2 v2] [bF : Zl ts u k b2 y2 w3 v3] (h : w + v + (w' + v') + (w2 + v2 + (w3 + v3)) <= 2500 := by decide) :
  FP 102 [aZ ts,aR a b,aR a2 b2] (.tup [nA (sX (dotE x y x2 y2)),.v .nilIface]):=by
 obtain⟨R,tw,hk⟩:=c.ex;have h0:=Ou c hk;have h1:=xr (e:=2500*1000000) tw (ha.up c oz) (hb.up c oz) (u4.up c oz) (bF.up c oz) oz;rw[ha.eq,hb.eq,u4.eq,bF.eq]at h1;exact h1
def atXE(c s X:Et ts)(p q:Rat):Et ts:=(c*qE p-s*qE q)+X
def atYE(c s Y:Et ts)(p q:Rat):Et ts:=(s*qE p+c*qE q)+Y
instance Zu.atXE[c:Ct ts u k]{x y z:Et ts}{p q:Rat}{w1 v1 w2 v2 w3 v3 w4 w5:Nat}[Zu u k x w1 v1][Zu u k y w2 v2][Zu u k z w3 v3][Qz u p w4][Qz u q w5]:Zu u k (atXE x y z p q) (w1+w4+(w2+w5)+w3) (v1+0+1+(v2+0+1)+1+v3+1) :=
  (arf:Zu u k ((x*Lw.qE p-y*Lw.qE q)+z) _ _)
instance Zu.atYE[c:Ct ts u k]{x y z:Et ts}{p q:Rat}{w1 v1 w2 v2 w3 v3 w4 w5:Nat}[Zu u k x w1 v1][Zu u k y w2 v2][Zu u k z w3 v3][Qz u p w4][Qz u q w5]:Zu u k (atYE x y z p q) (w2+w4+(w1+w5)+w3) (v2+0+1+(v1+0+1)+1+v3+1) :=
  (arf:Zu u k ((y*Lw.qE p+x*Lw.qE q)+z) _ _)
end
abbrev svC(l:Li)(g:Gr)(a:As):List AV:=[.v (.string l.name),.lst 2 (l.bo.map Bd.av),.lst 7 (l.jo.map Jt.av),.lst 2 (l.dv.map Dr.av),i64 g.kind,.lst 1 (g.bo.map i64),.lst 1 (g.jo.map i64),i64 g.driver,
  .lst 1 (a.rs.map nR),.lst 4 (a.bs.map Pl.av),.lst 1 (a.ms.map i64),.v .nilIface]
abbrev c9(l:Li)(g:Gr)(a:As):Blk:=.box (svC l g a)
def vF(e:Nat):AV:=if e=0 then .ptr 900 0 else .v (.pointer none)
def KU(e:Nat)(l:Li)(g:Gr)(a:As):Hp:=if e=0 then[pP 900 (c9 l g a)]else[]
theorem pK{e:Nat}(h:e≠0):vF e=.v (.pointer none):=aq6 h
theorem vf{e:Nat}{l:Li}{g:Gr}{a:As}(h:e≠0):KU e l g a=[]:=aq6 h
theorem Qv(l:Li)(g:Gr):dR l g true=ju l g++g.bo:=rfl
theorem Kg(l:Li)(g:Gr):dR l g false=ju l g:=by unfold dR;simp
theorem ZN{rs:List (List Rt)}{b:Pl}{i:Nat}{x:List Rt}(h:bS rs=0)(hx:b.l[i]?=some x)(hb:∀y∈b.l.take i,de rs.length y=0)(hn:de rs.length x≠0):bY rs b.l=de rs.length x:=Ia h hx hb hn
theorem Zj{l:Li}{g:Gr}{a:As}{own:Bool}{j:Nat}{b:Int}(hb:(gG (dR l g own))[j]?=some b)(hj:∀c∈(gG (dR l g own)).take j,jW a c=0)(hn:jW a b≠0):fV ((gG (dR l g own)).map (jW a))=jW a b:=by
 have h1:gG (dR l g own)=(gG (dR l g own)).take j++b::(gG (dR l g own)).drop (j+1):=by
  obtain⟨hi,e⟩:=anz.1 hb;rw[<- e,<- ani hi,ann]
 generalize gG (dR l g own)=xs at *;rw[h1,ap8,yc _ _ (rf hj),aq2,QL,aq7 hn]
theorem Qd(l:Li)(hl:l.ok)(k:Int)(a:As)(al:AB a)(own:Bool) :
  Con prog 90 [l.av,i64 k,a.av,bl own] [] (.tup [vF (iY l k a own),bG (iY l k a own)]) (KU (iY l k a own) l (lO l k) a):=by
 have nv:=al.bl;refine gF func90 (fun k z h=>by cases h) ?_;refine gc (GV l hl) ?_;refine gC (fun y=>?_) (fun y=>?_)
 ·have h1:=ef y;refine gR ?_;rw[VL rfl h1,pK h1,vf h1];exact oJ rfl
 have h1:=dS y;obtain⟨au,jT⟩:=P3 h1;rw[show(if aG l=0 then splitG l else[])=splitG l from aq7 au];have ez:=(dK au).2.2.2.1;have SG:=(wc au).2;have io:splitG l=findG l:=by unfold splitG;rw[aq7 jT]
 refine cA ?_;refine gC (fun y=>?_) (fun y=>?_)
 ·have h2:=acs y;have he:iY l k a own=9:=(vP au).trans (V7 jT h2);refine gR ?_;rw[he,pK (by decide),vf (by decide)];exact oJ rfl
 have h2:=Vu y;refine gl ?_;refine gl ?_;refine gC (fun y=>?_) (fun y=>?_)
 ·have h3:=wN y;have he:iY l k a own=10:=(vP au).trans (afy jT h2 h3);refine gR ?_;rw[he,pK (by decide),vf (by decide)];exact oJ rfl
 have h3:=yn y;refine gc (wB a.rs 400000000 al.tr) ?_;refine gC (fun y=>?_) (fun y=>?_)
 ·have h4:=ef y;refine gR ?_;rw[(vP au).trans (ajs jT h2 h3 h4),pK h4,vf h4];exact oJ rfl
 have h4:=dS y;obtain⟨i,rfl,hi⟩:=US h2;obtain⟨g,hg⟩:=ay hi;obtain⟨hgd,ff⟩:=vj au (apo hg);have mw:lO l (i:Nat)=g:=ax hg;rw[mw];have SP:iY l (i:Nat) a own=fV ((gG (dR l g own)).map (jW a)):=by rw[<- mw];exact(vP au).trans (KH jT h2 h3 h4)
 have fI:(dR l g own).length<=5:=ab9 ff;have mi:=ff.lb;have Jc:=ff.lj;refine gi (aA hg) ?_;refine gt (aK (TU l hl au g ff) (bO rfl rfl) aL rfl rfl) ?_;refine gD ?_;refine gf ?_;refine Gu [1,4,6,10] [4,6] [pP 13 (.ms 900 1 0 (dR l g own).length)] [pP 900 (.row 1 ((dR l g own).map i64))] (True) ?_ ?_
 ·intro K1 J1;refine gC (fun y=>?_) (fun y=>?_)
  ·have ho:own=true:=y;subst ho;refine gi (aA hg) ?_;refine gs (cF (.tmp rfl) rfl (by rw[apr,wG]) (.tmp rfl) T46 rfl T3 rfl rfl (by simp only[apr];omega) rfl rfl) ?_;exact tL J1 trivial (hw:=(Wk.of (sl:=[pP 1 (i64 i),pP 4 (.ptr 4 0),pP 6 (.ptr 6 0),pP 10 (.lst 4 ((splitG l).map Gr.av)),pP 13 (.ms 71 1 0 (dR l g true).length)]) (hp:=[pP 4 (.box l.av.cells),pP 6 (.box a.av.cells),pP 71 (.row 1 ((dR l g true).map i64))]) (.k (.k (.k (.k (.cons rfl (.of (by rw[Qv,aqk,wG,apr])) .nil))))) (.k (.k (.cons rfl (.of (by rw[Qv,ap8])) .nil)))).trans<|(Wk.rk (k:=71) (d:=900) rfl rfl).trans<|Wk.o)
  have ho:own=false:=y;subst ho;exact tL J1 trivial (hw:=Wk.of (.cons rfl (.of (by rw[Kg,wG])) (.k (.k (.k (.k .nil))))) (.cons rfl (.of (by rw[Kg])) (.k (.k .nil))))
 rintro -;refine gt (aK (Con.rk 900 rfl rfl (Yi (dR l g own) oz)) (du rfl) aL rfl rfl) ?_ (17,0);refine gW ((Wk.freeze (k:=900) rfl).trans<|Wk.of (sl:=[pP 1 (i64 i),pP 4 (.ptr 4 0),pP 6 (.ptr 6 0),pP 10 (.lst 4 ((splitG l).map Gr.av)),pP 13 (.lst 1 ((gG (dR l g own)).map i64))]) (hp:=[pP 4 (.box l.av.cells),pP 6 (.box a.av.cells)]) (.k (.k (.k (.k (.cons rfl (.of (b8 (by rw[apr,OY]))) .nil))))) (.k (.k .nil))) ?_;refine gl ?_;refine aS [1,4,6,10,74,75] [4,6] (fun(j:Nat)=>[pP 76 (i64 j)]) (fun _=>[]) (fun j=>j<=(gG (dR l g own)).length/\∀b∈(gG (dR l g own)).take j,jW a b=0) (fun j=>(gG (dR l g own)).length-j) 0 ⟨apx _,fun b hb=>by simp at hb⟩ ?_;rintro j ⟨hj,xm⟩ K2 J2;refine gC (fun y=>?_) (fun y=>?_)
 ·have fL:=a7 y;obtain ⟨b,hb⟩:=ay fL;have Jd:=H3.1 (apo hb);have hbr:=GF au ff b Jd;have dD:(gG (dR l g own)).length <= 5:=by rw [OY]; exact fI
  refine gi (aA hb) ?_;refine gC (fun y=>?_) (fun y=>?_)
  ·have hz : jW a b = 0 := by unfold jW; rw [aq7 (by simpa [aa] using y)]
   refine ga aN ?_;exact aM J2 (j+1) ⟨fL,fun c hc=>by rw[dJ hb]at hc;rcases ap2.1 hc with h9 |h9;exact xm c h9;(rw[am8.1 h9];exact hz)⟩
  have mr:0<=b:=by have:=ara (p:=b<0) y;omega
  obtain⟨p,hp⟩:=ay (l:=a.bs) (i:=b.toNat) oz;have iL:=al.nr p (apo hp);have dN:jW a b=bY a.rs p.l:=by unfold jW;rw[aq6 oz,ax hp]
  refine gi (ko (n:=b.toNat) oz hp) ?_;refine ge rfl ?_;refine aS [1,4,6,10,74,75,76,95,96] [4,6] (fun(q:Nat)=>[pP 97 (i64 q)]) (fun _=>[]) (fun q=>q<=4/\∀x∈p.l.take q,de a.rs.length x=0) (fun q=>4-q) 0 ⟨apx _,fun x hx=>by simp at hx⟩ ?_;rintro q ⟨hq,AE⟩ K3 J3;refine gC (fun y=>?_) (fun y=>?_)
  ·have dF:q<4:=a7 (b:=4) y;obtain⟨x,hx⟩:∃x,p.l[q]?=some x:=ay (show q<p.l.length from dF);have hxn:=iL x (apo hx);have rF:bY a.rs [x]=de a.rs.length x:=adj h4;refine gi (aA hx) ?_;refine gc (Qj a.rs 400000000 al.tr x 50000000000 hxn (VH _)) ?_;refine gC (fun y=>?_) (fun y=>?_)
   ·have h5:=ef y;rw [rF] at h5 ⊢;have h6:jW a b = de a.rs.length x:=dN.trans (ZN h4 hx AE h5);have h7:iY l (i:Nat) a own = de a.rs.length x:=by rw [SP,Zj hb xm (by rw [h6]; exact h5),h6]
    refine gR ?_;rw[h7,pK h5,vf h5];exact oJ rfl
   have h5:=dS y;rw[rF]at h5;refine ga aN ?_;exact aM J3 (q+1) ⟨dF,fun z hz=>by rw[dJ hx]at hz;rcases ap2.1 hz with h9 |h9;exact AE z h9;(rw[am8.1 h9];exact h5)⟩
  have dF:q=4:=bj (b:=4) hq y;subst dF;have AE:∀x∈p.l,de a.rs.length x=0:=AE;refine ga aN ?_;exact aM J2 (j+1) ⟨fL,fun c hc=>by rw[dJ hb]at hc;rcases ap2.1 hc with h9 |h9;exact xm c h9;(rw[am8.1 h9,dN];exact z8 h4 AE)⟩
 have fL:=bj hj y
 have h8:iY l (i:Nat) a own=0:=by
  rw[SP];exact rf (fun b hb=>xm b (by rw[fL,ap5];exact hb))
 refine gi (aA hg) ?_;refine gD ?_ (77777,0);refine gW (Wk.o (sl:=[pP 8 (.ptr 120 0),pP 9 (.v .nilIface)]) (hp:=[pP 120 (c9 l g a)])) ?_ (77777,0);refine gW (Wk.rk (k:=120) (d:=900) rfl rfl) ?_;refine gR ?_;rw[h8];exact aD.keep (bB rfl)
theorem FV{ts:LL}{r e:Nat}(tw:Tw ts r){a b c d:List Rat}(ha:Nm ts.length e a)(hb:Nm ts.length e b)(hc:Nm ts.length e c)(hd:Nm ts.length e d)(he:2*e<=lm ts.length) :
  FP 98 [aZ ts,aR a b,aR c d] (.tup [aR (sh ts.length (subT ts (af ts.length a) (af ts.length c))) (sh ts.length (subT ts (af ts.length b) (af ts.length d))),.v .nilIface]):=by
 refine ai func98 ?_;refine gc (uu (e:=e) tw [(a,b),(c,d)] (by simp only[aqf,aqg,or_false];rintro p (rfl |rfl);exact⟨ha,hb⟩;exact⟨hc,hd⟩) oz (by simp)) ?_;refine gf ?_;refine gt (aK (Con.rB 21 rfl rfl rfl rfl (BP tw ha hb hc hd he)) (aO rfl rfl rfl) aL rfl rfl) ?_;refine gt (aK (Con.rB 21 rfl rfl rfl rfl (C2 _ _ _)) (bO rfl rfl) aL rfl rfl) ?_;refine bK ?_;rfl
theorem Gq{ts:LL}{r e:Nat}(tw:Tw ts r){a b c d:List Rat}(ha:Nm ts.length e a)(hb:Nm ts.length e b)(hc:Nm ts.length e c)(hd:Nm ts.length e d)(he:2*(e+e+kB r ts.length)<=lm ts.length) :
  FP 99 [aZ ts,aR a b,aR c d] (.tup [nA (sh ts.length (sw ts (af ts.length a) (af ts.length b) (af ts.length c) (af ts.length d))),.v .nilIface]):=by
 refine ai func99 ?_;refine gc (Con.sA (.cons (.refl _) (.cons (.refl _) (.cons (.refl _) (.cons (Sub.fn0 _) .nil)))) (Ju tw ha hb hc hd oz _ _ (PR tw ha hb hc hd he))) ?_;refine bK ?_
 first |rfl |(simp;done)
section
variable{ts:LL}{u k:Nat}{a b a2 b2:List Rat}{x y x2 y2:Et ts}{w v w' v' w2 v2 w3 v3:Nat}
theorem aht [c : Ct ts u k] [ha : Zl ts u k a x w v] [hb : Zl ts u k b y w' v'] [u4 : Zl ts u k a2 x2 w2 v2] [bF : Zl ts u k b2 y2 w3 v3] (h : w + v + (w' + v') + (w2 + v2 + (w3 + v3)) <= 2500 := by decide) :
  FP 98 [aZ ts,aR a b,aR a2 b2] (.tup [aR (sX (x-x2)) (sX (y-y2)),.v .nilIface]):=by
 obtain⟨R,tw,hk⟩:=c.ex;have h0:=Ou c hk;have h1:=FV (e:=2500*1000000) tw (ha.up c oz) (hb.up c oz) (u4.up c oz) (bF.up c oz) oz;rw[ha.eq,hb.eq,u4.eq,bF.eq]at h1;exact h1
end
variable{P:arj}{N:Nat}{R:Array Oper}{s:AS}{pos:String}{after:Array Edge}
theorem a9{d f k:Nat}{bx:Blk}{args:Array arg}{ts:Array ari}{xs:List AV}{r:AV}{t:ari}
  (fe:Con P f xs [(k,some bx)] r [(k,some bx)]) (ha:EvL s args.toList xs) (hk:s.blk k=some bx) (cT:lY s [(k,some bx)] [(k,some bx)] r=true) (hN:aly d N=true) :
  Step P N R s ⟨some d,.call ⟨.value (.func f),args,ts⟩,t,pos,after,none⟩ ⟨some r,[],gE args.toList,[k]⟩:=by
 refine Step.weaken (aK (d:=d) fe ha (fun k' z h=>by
  obtain⟨rfl,h9⟩:=i9 h;cases h9;exact hk) cT hN) (fun s' h=>h) (fun s' h k' hk'=>?_) (fun s' h=>?_)
 ·left;simp only[ap8,eO,aq2,map_nil,ap2,aqf,aqg,or_false]at hk' ⊢;rcases hk' with h9 |h9 <;> exact h9
 ·intro C m a w hr;refine⟨m,hr.weak (fun t x hx=>⟨x,hx,.refl _⟩) (fun k' x hx=>⟨x,?_,.refl _⟩)⟩;have hb:lk s'.hp k=some bx:=(h.2 k (am8.2 rfl)).trans hk;show lk ([(k,some bx)]++eO [(k,some bx)]++s'.hp) k'=some x;have hx':lk s'.hp k'=some x:=hx;simp only[eO,aq2,map_nil,ans,nil_append,a5]
  by_cases e:k'=k
  ·rw[aq7 e];rw[e,hb]at hx';exact hx'
  ·rw[aq6 e,aq6 e];exact hx'
theorem rY{k1 k2 k':Nat}{x y:Option Blk}{z:Blk}(h:lk [(k1,x),(k2,y)] k'=some z):(k'=k1/\x=some z)\/(k'≠k1/\k'=k2/\y=some z):=by
 rw[a5]at h
 by_cases e:k'=k1
 ·rw[aq7 e]at h;exact .inl ⟨e,h⟩
 ·rw[aq6 e]at h;obtain⟨h1,h2⟩:=i9 h;exact .inr ⟨e,h1,h2⟩
theorem sa{k1 k2:Nat}{x y:Option Blk}:lk [(k1,x),(k2,y)] k1=x:=by rw[a5,aq7 rfl]
theorem sC{k1 k2:Nat}{x y:Option Blk}(h:k1≠k2):lk [(k1,x),(k2,y)] k2=y:=by rw[a5,aq6 (fun e=>h e.symm),a5,aq7 rfl]
theorem RE{k1 k2:Nat}(b9:k1≠k2){x y:Blk}{m:Nat->Option Nat}{b:Nat}:bh [(k1,some x),(k2,some y)] m b↔m k1=some b\/m k2=some b:=by
 constructor
 ·rintro⟨k',z,hz,hb⟩;rcases rY hz with⟨e,_⟩ |⟨_,e,_⟩
  ·exact .inl (e▸hb)
  ·exact .inr (e▸hb)
 ·rintro(h |h)
  ·exact⟨k1,x,sa,h⟩
  ·exact⟨k2,y,sC b9,h⟩
theorem Nf{k1 k2 d1 d2:Nat}(hk:k1≠k2)(hd:d1≠d2){x y x' y':Blk}{m m2:Nat->Option Nat}(h1:m2 d1=m k1)(h2:m2 d2=m k2):bh [(d1,some x'),(d2,some y')] m2=bh [(k1,some x),(k2,some y)] m:=by
 funext b;apply propext;rw[RE hk,RE hd,h1,h2]
theorem Gz{ext:Nat->Prop}{k1 k2 d1 d2:Nat}(hk:k1≠k2)(hd:d1≠d2){x y x' y':Blk}{m m2:Nat->Option Nat}{w:ark}(h1:m2 d1=m k1)(h2:m2 d2=m k2):Im ext [(d1,some x'),(d2,some y')] m2 w=Im ext [(k1,some x),(k2,some y)] m w:=by
 funext b cs;simp only[Im,Nf hk hd (x:=x) (y:=y) (x':=x') (y':=y') h1 h2]
theorem M7{ext:Nat->Prop}{k1 k2 d1 d2:Nat}(hk:k1≠k2)(hd:d1≠d2){x y:Blk}{m m2:Nat->Option Nat}{w:ark}(hx:x.nm=[])(hy:y.nm=[])(h1:m2 d1=m k1)(h2:m2 d2=m k2)
  (hr:HeapRel ext [(k1,some x),(k2,some y)] m w):HeapRel ext [(d1,some x),(d2,some y)] m2 w:=by
 refine⟨?_,?_,?_⟩
 ·intro k' z hz;rw[Gz hk hd (x:=x) (y:=y) h1 h2];rcases rY hz with⟨rfl,h9⟩ |⟨_,rfl,h9⟩
  ·cases h9;exact BlkRep.mono (w:=w) (fun _ _ h=>h) (fun _ _ h=>h) (fun _ _ hn=>(EX hx hn).elim) h1 (fun _ _=>rfl) (hr.blk k1 _ sa)
  ·cases h9;exact BlkRep.mono (w:=w) (fun _ _ h=>h) (fun _ _ h=>h) (fun _ _ hn=>(EX hy hn).elim) h2 (fun _ _=>rfl) (hr.blk k2 _ (sC hk))
 ·intro k k' z z' b hz hz' hb hb';rcases rY hz with⟨rfl,_⟩ |⟨_,rfl,_⟩ <;> rcases rY hz' with⟨rfl,_⟩ |⟨_,rfl,_⟩
  ·rfl
  ·exact ard (hr.inj k1 k2 _ _ b sa (sC hk) (h1▸hb) (h2▸hb')) hk
  ·exact ard (hr.inj k1 k2 _ _ b sa (sC hk) (h1▸hb') (h2▸hb)) hk
  ·rfl
 ·intro k' z b hz hb;rcases rY hz with⟨rfl,h9⟩ |⟨_,rfl,h9⟩
  ·exact hr.sep k1 _ b sa (h1▸hb)
  ·exact hr.sep k2 _ b (sC hk) (h2▸hb)
theorem Con.rekeyBB{P:arj}{f:FuncId}{k1 k2 o1 o2:Nat}{x y x' y':Blk}{xs:List AV}{r:AV}(d1 d2:Nat)(hk:k1≠k2)(hd:d1≠d2)(hx:x.nm=[])(hy:y.nm=[])(hx':x'.nm=[])(hy':y'.nm=[])(pb:(xs.all fun x=>x.nm.isEmpty)=true)(hr:r.nm=[])
  (h:Con P f (.ptr k1 o1 :: .ptr k2 o2::xs) [(k1,some x),(k2,some y)] r [(k1,some x'),(k2,some y')]):Con P f (.ptr d1 o1 :: .ptr d2 o2::xs) [(d1,some x),(d2,some y)] r [(d1,some x'),(d2,some y')]:=by
 refine⟨h.ok,?_⟩;intro ext m w vs hext cQ dW dC;obtain⟨m2,e1,e2⟩:∃m2:Nat->Option Nat,m2 k1=m d1/\m2 k2=m d2:=⟨fun k=>if k=k1 then m d1 else m d2,aq7 rfl,aq6 (fun e=>hk e.symm)⟩
 have h1 := h.ret ext m2 w vs hext (M7 hd hk hx hy e1 e2 cQ) (by simpa using dW) (by
  intro j v z hv hz;rw[Gz hd hk (x:=x) (y:=y) e1 e2]
  match j,hz with
  |0,hz =>
   cases hz;have h2:=dC 0 v _ hv rfl;cases h2 with
   |ptr hm=>exact .ptr (e1.trans hm)
  |1,hz =>
   cases hz;have h2:=dC 1 v _ hv rfl;cases h2 with
   |ptr hm=>exact .ptr (e2.trans hm)
  |j+2,hz =>
   have h2:=dC (j+2) v z hv hz;refine ma ?_ h2;have:=ap3.1 pb z (apo hz);simpa using this)
 refine Calls.mono h1 ?_;rintro e w' ⟨v,m',rfl,hf,hh,hn,DJ,bn⟩;have ho:=Nf hd hk (x:=x) (y:=y) (x':=x) (y':=y) e1 e2;obtain⟨m3,f1,f2⟩:∃m3:Nat->Option Nat,m3 d1=m' k1/\m3 d2=m' k2:=⟨fun k=>if k=d1 then m' k1 else m' k2,aq7 rfl,aq6 (fun e=>hd e.symm)⟩
 refine⟨v,m3,rfl,ho▸hf,M7 hk hd hx' hy' f1 f2 hh,?_,?_,?_⟩
 ·intro k' z b hz hb;rw[<- ho];rcases rY hz with⟨rfl,_⟩ |⟨_,rfl,_⟩
  ·exact hn k1 _ b sa (f1▸hb)
  ·exact hn k2 _ b (sC hk) (f2▸hb)
 ·intro k' z z' hz hz';rcases rY hz with⟨rfl,_⟩ |⟨_,rfl,_⟩
  ·rw[f1,<- e1];exact DJ k1 _ _ sa sa
  ·rw[f2,<- e2];exact DJ k2 _ _ (sC hk) (sC hk)
 ·rw[Gz hk hd (x:=x') (y:=y') f1 f2];exact ma hr bn
end Go.Lw
namespace Go.Lw
open Go.Proofs
theorem Lh{l:Li}{body pt:Int}{n k:Nat}{bd:Bd}{m:Mk}(h:MkP l body pt n k bd m):qP (aX l body pt)=.agg [bl m.x.neg,ws m.x.num,ws m.x.den,bl m.y.neg,ws m.y.num,ws m.y.den]:=by
 rw[h.ex,h.ey]
theorem uy{p q:Rat×Rat}{e f:Nat}(hp:Sm e p)(hq:Sm f q)(he:e<=1000000)(hf:f<=1000000):FP 202 [qP p,qP q] (qP (cf p q)):=by
 refine ai func202 ?_;refine gc (Bp (hp.x.qs oz) (hq.x.qs oz)) ?_;refine gc (Bp (hp.y.qs oz) (hq.y.qs oz)) ?_;refine gD ?_;refine ah ?_
 first |rfl |(simp;done)
theorem PW{p q:Rat×Rat}{e f:Nat}(hp:Sm e p)(hq:Sm f q)(he:e<=1000000)(hf:f<=1000000):FP 329 [qP p,qP q] (qA (cr p q)):=by
 refine ai func329 ?_;refine gc (zN (hp.x.qs oz) (hq.x.qs oz)) ?_;refine gc (zN (hp.y.qs oz) (hq.y.qs oz)) ?_;refine gc (Gl ((hp.x.mul hq.x).qs oz) ((hp.y.mul hq.y).qs oz)) ?_;refine gD ?_;refine ah ?_
 first |rfl |(simp;done)
theorem ajz{p q:Rat×Rat}{e f:Nat}(hp:Sm e p)(hq:Sm f q)(he:e<=1000000)(hf:f<=1000000):FP 212 [qP p,qP q] (qA (we p q)):=by
 refine ai func212 ?_;refine gc (zN (hp.x.qs oz) (hq.y.qs oz)) ?_;refine gc (zN (hp.y.qs oz) (hq.x.qs oz)) ?_;refine gc (Bp ((hp.x.mul hq.y).qs oz) ((hp.y.mul hq.x).qs oz)) ?_;refine gD ?_;refine ah ?_
 first |rfl |(simp;done)
theorem EG{p:Rat×Rat}{e:Nat}(hp:Sm e p)(he:e<=1000000):FP 201 [qP p] (nA (sh 0 (cr p p:Rat))):=by
 refine ai func201 ?_;refine gc (PW hp hp he he) ?_;refine gc (qI ((hp.dot hp).qs oz)) ?_;refine ah ?_
 first |rfl |(simp;done)
theorem WE:FP 91 [] (nA (sh 0 ((1:Int):Rat))):=by
 refine ai func91 ?_;refine gc (oQ 1 oz) ?_;refine gc (qI (yj oz)) ?_;refine ah ?_
 first |rfl |(simp;done)
theorem sk{l:Li}(hl:l.ok)(au:aG l=0)(g:Gr)(a:As){body pt:Int}(h1:bR body l.bo.length=true)(h2:bR pt (dm l body).length=true) :
  Con prog 203 [.ptr 1000 0,i64 body,i64 pt] [pP 1000 (c9 l g a)] (qP (aX l body pt)) [pP 1000 (c9 l g a)]:=by
 obtain⟨n,k,bd,m,mp⟩:=vY hl au h1 h2;rw[Lh mp];have hn:=mp.hn;have hk:=mp.hk;have eY:=hl.lb;subst hn;subst hk;refine gF func203 (fun k z h=>bX h) ?_;refine gi (aA mp.gbd) ?_;refine gi (aA mp.gm) ?_;refine gR ?_;exact aD.keep (bB rfl)
theorem uB{E:Nat}{l:Li}(hl:l.ok)(au:aG l=0)(g:Gr){a:As}(al:AB a)(hc:bS a.rs=0){body pt:Int}(h1:bR body l.bo.length=true)(h2:bR pt (dm l body).length=true)(hE:E<=20000000000)(h3:(llq a.rs).length<=2)(hb:Pd E a body) :
  Con prog 191 [.ptr 1000 0,i64 body,i64 pt] [pP 1000 (c9 l g a)] (aR (sX (bi l a body pt).1) (sX (bi l a body pt).2)) [pP 1000 (c9 l g a)]:=by
 obtain⟨n,k,bd,m,b,hp⟩:=zy hl au al hc h1 h2 hb;obtain⟨tw,D9⟩:=d9 al.tr hc
 have kb:kB 400000000 (llq a.rs).length<=1200000006:=by
  have h9:=kR 400000000 h3;have h8:eB 400000000 2=1200000006:=by decide
  show eB 400000000 _<=_;omega
 have dp:lm (llq a.rs).length=200000000000:=by unfold lm;rw[aq7 h3]
 have eY:=hl.lb;have nv:=al.bl;have ii:=sk hl au g a h1 h2;show Con prog _ _ _ (aR (sh (llq a.rs).length (zY l a body pt).1) (sh (llq a.rs).length (zY l a body pt).2)) _;rw[hp.eq];have hn:=hp.mp.hn;rw[Lh hp.mp]at ii
 have nG:FP 139 [dU a.rs,b.av,m.x.av,m.y.av] (.tup [aR (sh (llq a.rs).length (tV (llq a.rs) b m).1) (sh (llq a.rs).length (tV (llq a.rs) b m).2),.v .nilIface]):=by
  rw[D9,hp.av,hp.mp.ex,hp.mp.ey];have h9:=FB tw (hp.ok.c.mono (f:=E+1000) oz) (hp.ok.s.mono oz) (hp.ok.x.mono oz) (hp.ok.y.mono oz) (hp.mp.sm.x.mono (f:=E+1000) oz) (hp.mp.sm.y.mono (f:=E+1000) oz) oz;unfold tV;rw[hp.mp.ex,hp.mp.ey,bN,bN];exact h9
 refine gF func191 (fun k z h=>bX h) ?_;refine gt (aK ii (aO rfl rfl rfl) aL rfl rfl) ?_;refine gi (ko (n:=n) hn hp.gb) ?_;refine gc nG ?_;refine gD ?_;refine gC (fun y=>?_) (fun y=>?_) (st2:=(77777,0))
 ·refine gR ?_;exact aD.keep (bB rfl)
 cases y
theorem xY{E:Nat}(hE:E<=20000000000){l:Li}(hl:l.ok)(au:aG l=0)(g:Gr)(hg:GrOk l g){a:As}(al:AB a)(hc:bS a.rs=0){k:Nat}{z b:Int}{j:Jt}(hz:g.jo[k]?=some z)(hj:l.jo[z.toNat]?=some j)(h3:(llq a.rs).length<=2)(h:PinP E l a j b) :
  Con prog 197 [.ptr 1000 0,i64 k,i64 b] [pP 1000 (c9 l g a)] (.tup [qP (am l j b),aR (sX (aC l a j b).1) (sX (aC l a j b).2)]) [pP 1000 (c9 l g a)]:=by
 obtain⟨z0,z1⟩:=hg.j z (apo hz);obtain⟨i1,i2,i3,i4,_⟩:=ee au hj;have Jc:=hg.lj;have tk:=hl.lj;refine gF func197 (fun k z h=>bX h) ?_;refine gi (aA hz) ?_;refine gi (ko (n:=z.toNat) oz hj) ?_;refine gD ?_;refine gC (fun y=>?_) (fun y=>?_)
 ·have e:j.a = b:=dL y;have hb:Pd E a j.b:=by rcases h.tie with h9 | h9; exact h9.2; exact ard e h9.1
  have eq1:am l j b=aX l b j.point:=aq7 e;have eq2:aC l a j b=bi l a j.b j.on:=aq7 e;rw[eq1,eq2];subst e;refine gt (aK (sk hl au g a i1 i3) (aO rfl rfl rfl) aL rfl rfl) ?_;refine gt (aK (uB hl au g al hc i2 i4 hE h3 hb) (aO rfl rfl rfl) aL rfl rfl) ?_;refine gD ?_;refine gR ?_;exact aD.keep (bB rfl)
 have e:j.a≠b:=eZ y;have e2:j.b=b/\Pd E a j.a:=by rcases h.tie with h9 |h9;exact ard h9.1 e;exact h9.2
 have eq1:am l j b=aX l b j.on:=aq6 e;have eq2:aC l a j b=bi l a j.a j.point:=aq6 e;rw[eq1,eq2];obtain⟨e2,hb⟩:=e2;subst e2;refine gt (aK (sk hl au g a i2 i4) (aO rfl rfl rfl) aL rfl rfl) ?_;refine gt (aK (uB hl au g al hc i1 i3 hE h3 hb) (aO rfl rfl rfl) aL rfl rfl) ?_;refine gD ?_;refine gR ?_;exact aD.keep (bB rfl)
theorem LY{l:Li}(hl:l.ok)(au:aG l=0)(g:Gr)(hg:GrOk l g)(a:As){z b:Int}{j:Jt}(hz:g.jo[2]?=some z)(hj:l.jo[z.toNat]?=some j)(h:j.a=b\/j.b=b) :
  Con prog 198 [.ptr 1000 0,i64 b] [pP 1000 (c9 l g a)] (qP (am l j b)) [pP 1000 (c9 l g a)]:=by
 obtain⟨z0,z1⟩:=hg.j z (apo hz);obtain⟨i1,i2,i3,i4,_⟩:=ee au hj;have Jc:=hg.lj;have tk:=hl.lj;have h2:=(anz.1 hz).1;refine gF func198 (fun k z h=>bX h) ?_;refine gi (aA hz) ?_;refine gi (ko (n:=z.toNat) oz hj) ?_;refine gD ?_;refine gC (fun y=>?_) (fun y=>?_)
 ·have e:j.a=b:=dL y;have eq1:am l j b=aX l b j.point:=aq7 e;rw[eq1];subst e;refine gt (aK (sk hl au g a i1 i3) (aO rfl rfl rfl) aL rfl rfl) ?_;refine gR ?_;exact aD.keep (bB rfl)
 have e:j.a≠b:=eZ y;have e2:j.b=b:=by rcases h with h9 |h9;exact ard h9 e;exact h9
 have eq1:am l j b=aX l b j.on:=aq6 e;rw[eq1];subst e2;refine gt (aK (sk hl au g a i2 i4) (aO rfl rfl rfl) aL rfl rfl) ?_;refine gR ?_;exact aD.keep (bB rfl)
theorem Gt{l:Li}(hl:l.ok)(g:Gr)(hg:GrOk l g)(a:As){z:Int}{j:Jt}(hz:g.jo[1]?=some z)(hj:l.jo[z.toNat]?=some j) :
  Con prog 190 [.ptr 1000 0] [pP 1000 (c9 l g a)] j.av [pP 1000 (c9 l g a)]:=by
 obtain⟨z0,z1⟩:=hg.j z (apo hz);have Jc:=hg.lj;have tk:=hl.lj;have h2:=(anz.1 hz).1;refine gF func190 (fun k z h=>bX h) ?_;refine gi (aA hz) ?_;refine gi (ko (n:=z.toNat) oz hj) ?_;refine gD ?_;refine gR ?_;exact aD.keep (bB rfl)
abbrev YZ{ts:LL}(p:Rat×Rat)(at_:Et ts×Et ts)(c:Rat×Rat):List AV :=
  [bl (rt p.1).neg,ws (rt p.1).num,ws (rt p.1).den,bl (rt p.2).neg,ws (rt p.2).num,ws (rt p.2).den,nA (sX at_.1),nA (sX at_.2),bl (rt c.1).neg,ws (rt c.1).num,ws (rt c.1).den,bl (rt c.2).neg,ws (rt c.2).num,ws (rt c.2).den]
abbrev Bn{ts:LL}(p:Rat×Rat)(at_:Et ts×Et ts)(c:Rat×Rat):AV:=.agg (YZ p at_ c)
abbrev crA{ts:LL}(p:Rat×Rat)(at_:Et ts×Et ts)(c:Rat×Rat):AV:=.agg [nA (sX at_.1),nA (sX at_.2),nA (sh 0 (bI c p:Rat))]
theorem Ee{ts:LL}{p c:Rat×Rat}(hp:Sm 1000 p)(hc:Sm 1000 c)(at_:Et ts×Et ts):FP 95 [Bn p at_ c] (crA p at_ c):=by
 refine ai func95 ?_;refine gc (uy hc hp oz oz) ?_;refine gc (EG (hc.sub hp) oz) ?_;refine gD ?_;refine ah ?_
 first |rfl |(simp;done)
theorem OG{E:Nat}{l:Li}(hl:l.ok)(au:aG l=0){a:As}(al:AB a)(hc:bS a.rs=0)(h3:(llq a.rs).length<=2){i k z0 z1 z2:Int}{j0 j1 j2:Jt}(hg:GrOk l ⟨1,[i,k],[z0,z1,z2],0⟩)
  (h0:l.jo[z0.toNat]?=some j0) (h1:l.jo[z1.toNat]?=some j1) (h2:l.jo[z2.toNat]?=some j2) (p0:PinP E l a j0 i) (p1:PinP E l a j1 k) (t1:j2.a=i\/j2.b=i) (t2:j2.a=k\/j2.b=k) (hE:E<=20000000000:=by omega) :
  Con prog 92 [.ptr 1000 0] [pP 1000 (c9 l ⟨1,[i,k],[z0,z1,z2],0⟩ a)] (.tup [Bn (am l j0 i) (aC l a j0 i) (am l j2 i),Bn (am l j1 k) (aC l a j1 k) (am l j2 k)]) [pP 1000 (c9 l ⟨1,[i,k],[z0,z1,z2],0⟩ a)]:=by
 refine gF func92 (fun k z h=>bX h) ?_;refine gi (rfl) ?_;refine gi (rfl) ?_;refine gD ?_;refine gt (aK (xY oz hl au _ hg al hc (k:=0) rfl h0 h3 p0) (.cons (.tmp rfl) (.cons (.const _) (du rfl))) aL rfl rfl) ?_;refine gt (aK (xY oz hl au _ hg al hc (k:=1) rfl h1 h3 p1) (.cons (.tmp rfl) (.cons (.const _) (du rfl))) aL rfl rfl) ?_;refine gt (aK (LY hl au _ hg a rfl h2 t1) (bO rfl rfl) aL rfl rfl) ?_;refine gt (aK (LY hl au _ hg a rfl h2 t2) (bO rfl rfl) aL rfl rfl) ?_;refine gD ?_;refine gR ?_;exact aD.keep (bB rfl)
theorem PY{E:Nat}{l:Li}(hl:l.ok)(au:aG l=0){a:As}(al:AB a)(hc:bS a.rs=0)(h3:(llq a.rs).length<=2){i z0 z1:Int}{j0 j1:Jt}(hg:GrOk l ⟨2,[i],[z0,z1],0⟩)
  (h0:l.jo[z0.toNat]?=some j0) (h1:l.jo[z1.toNat]?=some j1) (p0:PinP E l a j0 i) (ha:j1.a=i) (hk:j1.kind≠0) (hb:Pd E a j1.b) (hE:E<=20000000000:=by omega) :
  Con prog 96 [.ptr 1000 0] [pP 1000 (c9 l ⟨2,[i],[z0,z1],0⟩ a)] (.tup [Bn (am l j0 i) (aC l a j0 i) (aX l i j1.point),aR (sX (bi l a j1.b j1.on).1) (sX (bi l a j1.b j1.on).2),aR (sX (bi l a j1.b j1.to).1) (sX (bi l a j1.b j1.to).2)]) [pP 1000 (c9 l ⟨2,[i],[z0,z1],0⟩ a)]:=by
 obtain⟨i1,i2,i3,i4,i5⟩:=ee au h1;rw[ha]at i1 i3;refine gF func96 (fun k z h=>bX h) ?_;refine gi (rfl) ?_;refine gt (a9 (Gt hl _ hg a rfl h1) (du rfl) rfl rfl rfl) ?_;refine gD ?_;refine gt (aK (xY oz hl au _ hg al hc (k:=0) rfl h0 h3 p0) (.cons (.tmp rfl) (.cons (.const _) (du rfl))) aL rfl rfl) ?_;refine gt (aK (sk hl au _ a i1 i3) (aO rfl rfl rfl) aL rfl rfl) ?_;refine gt (aK (uB hl au _ al hc i2 i4 oz h3 hb) (aO rfl rfl rfl) aL rfl rfl) ?_;refine gt (aK (uB hl au _ al hc i2 (i5 hk) oz h3 hb) (aO rfl rfl rfl) aL rfl rfl) ?_;refine gD ?_;refine gR ?_;exact aD.keep (bB rfl)
structure Vr where
  w:List Rt
  x:List Rt
  y:List Rt
instance:Inhabited Vr:=⟨⟨[],[],[]⟩⟩
def Vr.av(v:Vr):AV:=.agg [nR v.w,nR v.x,nR v.y]
def Vr.l(v:Vr):List (List Rt):=[v.w,v.x,v.y]
abbrev cC(rs:List (List Rt)):Blk:=.box [.lst 1 (rs.map nR),.v .nilIface]
theorem tx(rs:List (List Rt))(a:List Rat):Con prog 93 [.ptr 1000 0,nA a,.v .nilIface] [pP 1000 (cC rs)] (nA a) [pP 1000 (cC rs)]:=by
 refine gF func93 (fun k z h=>bX h) ?_;refine gC (fun y=>?_) (fun y=>?_) (st2:=(77777,0))
 ·refine gR ?_;exact aD.keep (bB rfl)
 cases y
theorem ru(rs:List (List Rt))(a b:List Rat):Con prog 97 [.ptr 1000 0,aR a b,.v .nilIface] [pP 1000 (cC rs)] (aR a b) [pP 1000 (cC rs)]:=by
 refine gF func97 (fun k z h=>bX h) ?_;refine gC (fun q=>?_) (fun q=>?_) (st2:=(77777,0))
 ·refine gR ?_;exact aD.keep (bB rfl)
 cases q
abbrev He(f:FuncId)(rs:List (List Rt))(a b c:List Rat):Prop:=Con prog f [.ptr 1000 0,nA a,nA b] [pP 1000 (cC rs)] (nA c) [pP 1000 (cC rs)]
section
variable{rs:List (List Rt)}{r u k:Nat}{a b c:List Rat}{x y:Et (llq rs)}{w v w' v':Nat}
theorem ag8(hx:FP 210 [.agg [.lst 1 (rs.map nR)],nA a,nA b] (.tup [nA c,.v .nilIface])):Con prog 101 [.ptr 1000 0,nA a,nA b] [pP 1000 (cC rs)] (nA c) [pP 1000 (cC rs)]:=by
 refine gF func101 (fun k z h=>bX h) ?_;refine gc hx ?_;refine gt (aK (tx _ _) (aO rfl rfl rfl) aL rfl rfl) ?_;refine gR ?_;exact aD.keep (bB rfl)
theorem ade(hx:FP 209 [.agg [.lst 1 (rs.map nR)],nA a,nA b] (.tup [nA c,.v .nilIface])):Con prog 100 [.ptr 1000 0,nA a,nA b] [pP 1000 (cC rs)] (nA c) [pP 1000 (cC rs)]:=by
 refine gF func100 (fun k z h=>bX h) ?_;refine gc hx ?_;refine gt (aK (tx _ _) (aO rfl rfl rfl) aL rfl rfl) ?_;refine gR ?_;exact aD.keep (bB rfl)
theorem QH (h : TR rs r) (hc : bS rs = 0) [c0 : Ct (llq rs) u k] [ha : Zl (llq rs) u k a x w v] [hb : Zl (llq rs) u k b y w' v'] (hs : w + v + (w' + v') <= 10000 := by decide) :
  Con prog 101 [.ptr 1000 0,nA a,nA b] [pP 1000 (cC rs)] (nA (sX (x*y))) [pP 1000 (cC rs)]:=by
 have hx:=QO (ha:=ha) (hb:=hb) hs;rw[pI h hc]at hx;exact ag8 hx
theorem YJ (h : TR rs r) (hc : bS rs = 0) [c0 : Ct (llq rs) u k] [ha : Zl (llq rs) u k a x w v] [hb : Zl (llq rs) u k b y w' v'] (hs : w + v + (w' + v') <= 10000 := by decide) :
  Con prog 100 [.ptr 1000 0,nA a,nA b] [pP 1000 (cC rs)] (nA (sX (x-y))) [pP 1000 (cC rs)]:=by
 have hx:=JA (ha:=ha) (hb:=hb) hs;rw[pI h hc]at hx;exact ade hx
end
structure DyW(l:Li)(a:As):Prop where
  hl:l.ok
  li:aG l=0
  al:AB a
  hc:bS a.rs=0
structure DyR(l:Li)(a:As):Prop extends DyW l a where
  s:DyS a
theorem DyR.two{l:Li}{a:As}(D:DyR l a):(llq a.rs).length<=2:=aqe (D.s.one D.hc) oz
theorem FL{n:Nat}(hn:n<=1):kB 64990 n<=65000:=by
 have h1:=kR 64990 hn;have h2:eB 64990 1=64992:=by simp only[eB]
 show eB 64990 _<=_;omega
theorem tB{n:Nat}(h3:n<=2):kB 400000000 n<=1200000006:=by
 have h9:=kR 400000000 h3;have h8:eB 400000000 2=1200000006:=by decide
 show eB 400000000 _<=_;omega
abbrev vc(l:Li)(a:As)(i:Int)(j0 j:Jt):List AV :=
  qC (am l j0 i)++([nA (sX (aC l a j0 i).1),nA (sX (aC l a j0 i).2)]++(qC (cK l i j)++[nA (sh 0 (cH l i j0 j:Rat)),nA (sh 0 (jr l i j:Rat)),nA (sX (cO l a i j0 j)),nA (sX (cm l a i j0 j).1),nA (sX (cm l a i j0 j).2)]))
theorem OB{l:Li}{a:As}(D:DyR l a){n:Nat}{i:Int}{j0 j:Jt}(h0:l.jo[n]?=some j0)(p0:PinP 3900000 l a j0 i){m:Nat}(h1:l.jo[m]?=some j)(hb:Pd 3900000 a j.a) :
  Zu 310000 65000 (cm l a i j0 j).1 80 81/\Zu 310000 65000 (cm l a i j0 j).2 80 81:=by
 obtain⟨i1,i2,i3,i4,_⟩:=ee D.li h1;obtain⟨z1,z2⟩:=qT D.hl D.li D.al D.s D.hc h0 p0;obtain⟨y1,y2⟩:=sT D.hl D.li D.al D.s D.hc i1 i3 hb;haveI c:=D.s.ct D.hc;haveI:=z1;haveI:=z2;haveI:=y1;haveI:=y2
 exact⟨(arf:Zu 310000 65000 ((bi l a j.a j.point).1-(aC l a j0 i).1) _ _),(arf:Zu 310000 65000 ((bi l a j.a j.point).2-(aC l a j0 i).2) _ _)⟩
theorem OC{E:Nat}(hE:E<=20000000000){l:Li}{a:As}(D:DyW l a)(h3:(llq a.rs).length<=2){i z0 z1:Int}{j0 j:Jt}(hg:GrOk l ⟨3,[i],[z0,z1],0⟩)
  (h0:l.jo[z0.toNat]?=some j0) (h1:l.jo[z1.toNat]?=some j) (p0:PinP E l a j0 i) (hi:j.b=i) (hk:j.kind≠0) (hb:Pd E a j.a)
  (lF:FP 98 [.agg [.lst 1 (a.rs.map nR)],aR (sX (bi l a j.a j.point).1) (sX (bi l a j.a j.point).2),aR (sX (aC l a j0 i).1) (sX (aC l a j0 i).2)] (.tup [aR (sX (cm l a i j0 j).1) (sX (cm l a i j0 j).2),.v .nilIface]))
  (xn:FP 102 [.agg [.lst 1 (a.rs.map nR)],aR (sX (cm l a i j0 j).1) (sX (cm l a i j0 j).2),aR (sX (cm l a i j0 j).1) (sX (cm l a i j0 j).2)] (.tup [nA (sX (cO l a i j0 j)),.v .nilIface])) :
  Con prog 103 [.ptr 1000 0,.ptr 1001 0] [pP 1000 (c9 l ⟨3,[i],[z0,z1],0⟩ a),pP 1001 (cC a.rs)] (.agg (vc l a i j0 j)) [pP 1000 (c9 l ⟨3,[i],[z0,z1],0⟩ a),pP 1001 (cC a.rs)]:=by
 obtain⟨i1,i2,i3,i4,i5⟩:=ee D.li h1;have iI:Sm 1000 (am l j0 i):=ki D.hl D.li h0 (by rcases p0.tie with h9 |h9;exact .inl h9.1;exact .inr h9.2.1);subst hi;have gP:=oa D.hl D.li i2 i4;have mx:=oa D.hl D.li i2 (i5 hk);have hv:=mx.sub gP;refine gF func103 (fun k z h=>WF h) ?_;refine gi (rfl) ?_;refine gt (a9 (Gt D.hl _ hg a rfl h1) (du rfl) rfl rfl rfl) ?_;refine gD ?_;refine gt (aK (xY hE D.hl D.li _ hg D.al D.hc (k:=0) rfl h0 h3 p0) (.cons (.tmp rfl) (.cons (.const _) (du rfl))) aL rfl rfl) ?_;refine gt (a9 (sk D.hl D.li _ a i2 i4) (aO rfl rfl rfl) rfl rfl rfl) ?_;refine gt (a9 (sk D.hl D.li _ a i2 (i5 hk)) (aO rfl rfl rfl) rfl rfl rfl) ?_;refine gc (uy mx gP oz oz) ?_;refine gD ?_;refine gc (uy gP iI oz oz) ?_;refine gc (ajz hv (gP.sub iI) oz oz) ?_;refine gc (qI ((hv.cross (gP.sub iI)).qs oz)) ?_;refine gc (EG hv oz) ?_;refine gD ?_;refine gt (aK (uB D.hl D.li _ D.al D.hc i1 i3 hE h3 hb) (aO rfl rfl rfl) aL rfl rfl) ?_;refine gC (fun y=>?_) (fun y=>?_) (st2:=(77777,0))
 ·refine gc lF ?_;refine gt (aK (Con.rB 1001 rfl rfl rfl rfl (ru _ _ _)) (aO rfl rfl rfl) aL rfl rfl) ?_;refine gD ?_;refine gc xn ?_;refine gt (aK (Con.rB 1001 rfl rfl rfl rfl (tx _ _)) (aO rfl rfl rfl) aL rfl rfl) ?_;refine gD ?_;refine gR ?_;exact aD.keep (q6 rfl rfl)
 cases y
theorem XN{l:Li}{a:As}(D:DyR l a){i z0 z1:Int}{j0 j:Jt}(hg:GrOk l ⟨3,[i],[z0,z1],0⟩)
  (h0:l.jo[z0.toNat]?=some j0) (h1:l.jo[z1.toNat]?=some j) (p0:PinP 3900000 l a j0 i) (hi:j.b=i) (hk:j.kind≠0) (hb:Pd 3900000 a j.a) :
  Con prog 103 [.ptr 1000 0,.ptr 1001 0] [pP 1000 (c9 l ⟨3,[i],[z0,z1],0⟩ a),pP 1001 (cC a.rs)] (.agg (vc l a i j0 j)) [pP 1000 (c9 l ⟨3,[i],[z0,z1],0⟩ a),pP 1001 (cC a.rs)]:=by
 obtain⟨i1,i2,i3,i4,i5⟩:=ee D.li h1;obtain⟨z1',z2'⟩:=qT D.hl D.li D.al D.s D.hc h0 p0;obtain⟨y1,y2⟩:=sT D.hl D.li D.al D.s D.hc i1 i3 hb;obtain⟨w1,w2⟩:=OB D h0 p0 h1 hb;haveI c:=D.s.ct D.hc;haveI:=z1';haveI:=z2';haveI:=y1;haveI:=y2;haveI:=w1;haveI:=w2
 have lF:=aht (ts:=llq a.rs) (u:=310000) (k:=65000) (a:=sX (bi l a j.a j.point).1) (b:=sX (bi l a j.a j.point).2) (a2:=sX (aC l a j0 i).1) (b2:=sX (aC l a j0 i).2);have xn:=TX (ts:=llq a.rs) (u:=310000) (k:=65000) (a:=sX (cm l a i j0 j).1) (b:=sX (cm l a i j0 j).2) (a2:=sX (cm l a i j0 j).1) (b2:=sX (cm l a i j0 j).2);rw[pI D.s.tr D.hc]at lF xn;exact OC oz D.toDyW D.two hg h0 h1 p0 hi hk hb lF xn
theorem WC{l:Li}{a:As}{i:Int}{j0 j:Jt}{p1 p2 p3:List Rat}(m1:He 101 a.rs (sh 0 (jr l i j:Rat)) (sX (cO l a i j0 j)) p1)(m2:He 101 a.rs (sh 0 (cH l i j0 j:Rat)) (sh 0 (cH l i j0 j:Rat)) p2)(m3:He 100 a.rs p1 p2 p3) :
  Con prog 104 [.agg (vc l a i j0 j),.ptr 1001 0] [pP 1001 (cC a.rs)] (nA p3) [pP 1001 (cC a.rs)]:=by
 refine gF func104 (fun k z h=>by have:=(i9 h).1;omega) ?_;refine gt (aK (Con.rB 1001 rfl rfl rfl rfl m1) (aO rfl rfl rfl) aL rfl rfl) ?_;refine gt (aK (Con.rB 1001 rfl rfl rfl rfl m2) (aO rfl rfl rfl) aL rfl rfl) ?_;refine gt (aK (Con.rB 1001 rfl rfl rfl rfl m3) (aO rfl rfl rfl) aL rfl rfl) ?_;refine gD ?_;refine gR ?_;exact aD.keep (bB rfl)
theorem Ys{l:Li}{a:As}(D:DyR l a){i:Int}{j0 j:Jt}{w v:Nat}[z1:Zl (llq a.rs) 310000 65000 (sh 0 (cH l i j0 j:Rat)) (qE (cH l i j0 j)) 3 0][z2:Zl (llq a.rs) 310000 65000 (sh 0 (jr l i j:Rat)) (qE (jr l i j)) 3 0][z3:Zu 310000 65000 (cO l a i j0 j) w v](hw:w+v<=2000) :
  Con prog 104 [.agg (vc l a i j0 j),.ptr 1001 0] [pP 1001 (cC a.rs)] (nA (sX (qE (jr l i j)*cO l a i j0 j-qE (cH l i j0 j)*qE (cH l i j0 j)))) [pP 1001 (cC a.rs)]:=by
 haveI c:=D.s.ct D.hc;haveI:=z1.zu;haveI:=z2.zu
 exact WC (QH (a:=sh 0 (jr l i j:Rat)) (b:=sX (cO l a i j0 j)) D.s.tr D.hc oz) (QH (a:=sh 0 (cH l i j0 j:Rat)) (b:=sh 0 (cH l i j0 j:Rat)) D.s.tr D.hc oz)
  (YJ (a:=sX (qE (jr l i j)*cO l a i j0 j)) (b:=sX (qE (cH l i j0 j)*qE (cH l i j0 j):Et (llq a.rs))) D.s.tr D.hc oz)
abbrev Ci:Type:=List Rat×List Rat×List Rat
abbrev Lt(c:Ci):AV:=.agg [nA c.1,nA c.2.1,nA c.2.2]
structure CiZ(rs:List (List Rt))(c:Ci):Prop where
  x:Nm (llq rs).length 2500000000 c.1
  y:Nm (llq rs).length 2500000000 c.2.1
  r:Nm (llq rs).length 2500000000 c.2.2
  sg:0<=ao (dE (llq rs) c.2.2)
theorem UZ{ts:LL}(p q:Et ts×Et ts):dotE (q.1-p.1) (q.2-p.2) (q.1-p.1) (q.2-p.2)=aE p q:=by
 unfold aE cJ aT dotE;dsimp only;grind
theorem Ll{ts:LL}(c:Ct ts 310000 65000){x y x2 y2:Et ts}(h1:Zu 310000 65000 x 40 40)(h2:Zu 310000 65000 y 40 40)(h3:Zu 310000 65000 x2 40 40)(h4:Zu 310000 65000 y2 40 40):Zu 310000 65000 (aE (x,y) (x2,y2)) 320 327:=by
 haveI:=c;haveI:=h1;haveI:=h2;haveI:=h3;haveI:=h4
 exact(arf:Zu 310000 65000 (dotE (x-x2) (y-y2) (x-x2) (y-y2)) _ _)
section
variable{rs:List (List Rt)}{r:Nat}{a b c a2 b2 c2:List Rat}
theorem Ng(h:TR rs r)(hc:bS rs=0){e:Nat}(ha:Nm (llq rs).length e a)(hb:Nm (llq rs).length e b)(he:e<=lm (llq rs).length):FP 342 [dU rs,aR a b] (.v .nilIface):=by
 obtain⟨tw,etw⟩:=d9 h hc;have AF:=uu tw [(a,b)] (fun p hp=>by rw[am8.1 hp];exact⟨ha,hb⟩) he (by show 1<=500;omega);rw[<- etw]at AF;refine ai func342 ?_;refine gc AF ?_;refine ah ?_;rfl
theorem Mp(h:TR rs r)(hc:bS rs=0){e:Nat}(ha:Nm (llq rs).length e a)(hb:Nm (llq rs).length e b)(hn:Nm (llq rs).length e c)(he:e+1<=lm (llq rs).length):FP 321 [dU rs,.agg [nA a,nA b,nA c]] (.v .nilIface):=by
 obtain⟨tw,etw⟩:=d9 h hc;have kX:=F6 tw hn oz;rw[<- etw]at kX;refine ai func321 ?_;refine gc (Ng h hc ha hb oz) ?_;refine gf ?_;refine gc kX ?_;refine ah ?_;rfl
theorem Pb(h:TR rs r)(hc:bS rs=0)(cs:List Ci)(hz:∀c∈cs,CiZ rs c)(hl:cs.length<=100):FP 322 [dU rs,.lst 3 (cs.map Lt)] (.v .nilIface):=by
 obtain⟨tw,etw⟩:=d9 h hc;have dp:=mD (llq rs).length;refine ai func322 ?_;refine gl ?_;refine aS [2,9,10] [2] (fun(i:Nat)=>[pP 11 (i64 i)]) (fun _=>[]) (fun i=>i<=cs.length) (fun i=>cs.length-i) 0 (apx _) ?_;rintro i hi K1 J1;refine gC (fun y=>?_) (fun y=>?_)
 ·have ae:=a7 y;obtain⟨z,AG⟩:=ay ae;have xp:=hz z (apo AG);have hs:=By tw xp.r oz;rw[<- etw]at hs;refine gi (aA AG) ?_;refine gc hs ?_;refine gf ?_;refine gC (fun y=>?_) (fun y=>?_) (st1:=(8,0));exact ard y (by have h9:=xp.sg;unfold ao dE at h9;simp only[aa,aq8];omega);refine ga aN ?_;exact aM J1 (i+1) ae
 refine ah ?_;rfl
theorem aeo(h:TR rs r)(hc:bS rs=0)(cs:List Ci)(hz:∀c∈cs,CiZ rs c)(hl:cs.length<=100):FP 199 [dU rs,.lst 3 (cs.map Lt)] (.v .nilIface):=by
 have dp:=mD (llq rs).length;have nF:=wB rs r h;rw[hc]at nF;refine ai func199 ?_;refine gc nF ?_;refine gf ?_;refine gl ?_;refine aS [1,2,14,15] [2] (fun(i:Nat)=>[pP 16 (i64 i)]) (fun _=>[]) (fun i=>i<=cs.length) (fun i=>cs.length-i) 0 (apx _) ?_;rintro i hi K1 J1;refine gC (fun y=>?_) (fun y=>?_)
 ·have ae:=a7 y;obtain⟨z,AG⟩:=ay ae;have xp:=hz z (apo AG);refine gi (aA AG) ?_;refine gc (Mp h hc xp.x xp.y xp.r oz) ?_;refine gf ?_;refine ga aN ?_;exact aM J1 (i+1) ae
 refine gc (Pb h hc cs hz hl) ?_;refine ah ?_;rfl
theorem Wx(hc:bS rs=0)(h:TR rs r){R e:Nat}(tw:Tw (llq rs) R){x y x2 y2:Et (llq rs)}(n1:Nm (llq rs).length e a)(n2:Nm (llq rs).length e b)(n4:Nm (llq rs).length e a2)(n5:Nm (llq rs).length e b2)(e1:af (llq rs).length a=x)(e2:af (llq rs).length b=y)(e4:af (llq rs).length a2=x2)(e5:af (llq rs).length b2=y2)(he:8*e+2*kB R (llq rs).length+8<=lm (llq rs).length) :
  FP 324 [dU rs,aR a b,aR a2 b2] (.tup [nA (sX (aE (x,y) (x2,y2))),.v .nilIface]):=by
 obtain⟨_,etw⟩:=d9 h hc
 have AF:=uu tw [(a,b),(a2,b2)] (e:=e) (fun p hp=>by
  simp only[aqf,aqg,or_false]at hp;rcases hp with rfl |rfl
  ·exact⟨n1,n2⟩
  ·exact⟨n4,n5⟩) oz (by show 2<=500;omega)
 rw[<- etw]at AF;have cG:=BP tw n4 n5 n1 n2 oz;have m1:=n4.sub n1;have m2:=n5.sub n2;have SQ:=NB tw m1 m2 m1 m2 oz;rw[e1,e2,e4,e5]at cG;rw[e1,e2,e4,e5,bu,bu]at SQ;have dP:=UZ (x,y) (x2,y2);refine ai func324 ?_;refine gc AF ?_;refine gf ?_ (5,0);refine gW (Wk.of (sl:=[pP 4 (.ptr 4 0),pP 5 (.ptr 5 0),pP 9 (.ptr 21 0)]) (hp:=[pP 4 (.box [nA a,nA b]),pP 5 (.box [nA a2,nA b2]),pP 21 (.box [.lst 1 ((llq rs).map nA),.v .nilIface])]) a6 (.k (.k (.cons rfl (BlkSub.bL (.cons (.of (rg etw)) (.cons (.refl _) .nil)) rfl) .nil)))) ?_;refine gt (aK (Con.rB 21 rfl rfl rfl rfl cG) (aO rfl rfl rfl) aL rfl rfl) ?_;refine gt (aK (Con.rB 21 rfl rfl rfl rfl SQ) (aO rfl rfl rfl) aL rfl rfl) ?_;refine gt (aK (Con.rB 21 rfl rfl rfl rfl (Gf _ _)) (bO rfl rfl) aL rfl rfl) ?_;refine bK ?_;rw[<- dP];rfl
theorem aca(h:TR rs r)(hc:bS rs=0){x y x2 y2:Et (llq rs)}[c0:Ct (llq rs) 310000 65000][i1:Zl (llq rs) 310000 65000 a x 40 40][i2:Zl (llq rs) 310000 65000 b y 40 40][i4:Zl (llq rs) 310000 65000 a2 x2 40 40][i5:Zl (llq rs) 310000 65000 b2 y2 40 40] :
  FP 324 [dU rs,aR a b,aR a2 b2] (.tup [nA (sX (aE (x,y) (x2,y2))),.v .nilIface]):=by
 obtain⟨R,tw,hk⟩:=c0.ex;have kk:=c0.kk hk;have dp:=mD (llq rs).length;exact Wx hc h tw (e:=40*310000+40*65000) i1.nm i2.nm i4.nm i5.nm i1.eq i2.eq i4.eq i5.eq oz
theorem yq(rs:List (List Rt))(a:List Rat):Con prog 323 [.ptr 1000 0,nA a,.v .nilIface] [pP 1000 (cC rs)] (nA a) [pP 1000 (cC rs)]:=by
 refine gF func323 (fun k z h=>bX h) ?_;refine gC (fun y=>?_) (fun y=>?_) (st2:=(77777,0))
 ·refine gR ?_;exact aD.keep (bB rfl)
 cases y
abbrev ud(f:FuncId)(rs:List (List Rt))(v:AV)(b c:List Rat):Prop:=Con prog f [.ptr 1000 0,v,nA b] [pP 1000 (cC rs)] (nA c) [pP 1000 (cC rs)]
theorem WJ(hx:FP 250 [.agg [.lst 1 (rs.map nR)],nA a,nA b] (.tup [nA c,.v .nilIface])):Con prog 326 [.ptr 1000 0,nA a,nA b] [pP 1000 (cC rs)] (nA c) [pP 1000 (cC rs)]:=by
 refine gF func326 (fun k z h=>bX h) ?_;refine gc hx ?_;refine gt (aK (yq _ _) (aO rfl rfl rfl) aL rfl rfl) ?_;refine gR ?_;exact aD.keep (bB rfl)
theorem Y6(hx:FP 209 [.agg [.lst 1 (rs.map nR)],nA a,nA b] (.tup [nA c,.v .nilIface])):Con prog 325 [.ptr 1000 0,nA a,nA b] [pP 1000 (cC rs)] (nA c) [pP 1000 (cC rs)]:=by
 refine gF func325 (fun k z h=>bX h) ?_;refine gc hx ?_;refine gt (aK (yq _ _) (aO rfl rfl rfl) aL rfl rfl) ?_;refine gR ?_;exact aD.keep (bB rfl)
theorem air(hx:FP 210 [.agg [.lst 1 (rs.map nR)],nA a,nA b] (.tup [nA c,.v .nilIface])):Con prog 328 [.ptr 1000 0,nA a,nA b] [pP 1000 (cC rs)] (nA c) [pP 1000 (cC rs)]:=by
 refine gF func328 (fun k z h=>bX h) ?_;refine gc hx ?_;refine gt (aK (yq _ _) (aO rfl rfl rfl) aL rfl rfl) ?_;refine gR ?_;exact aD.keep (bB rfl)
theorem ZI(n:Int)(hn:-9223372036854775808<=n/\n<=9223372036854775807)(hm:ud 328 rs (nA (sh 0 ((n:Rat):Rat))) a c):Con prog 327 [.ptr 1000 0,i64 n,nA a] [pP 1000 (cC rs)] (nA c) [pP 1000 (cC rs)]:=by
 refine gF func327 (fun k z h=>bX h) ?_;refine gc (oQ n hn) ?_;refine gc (qI (yj hn)) ?_;refine gt (aK hm (aO rfl rfl rfl) aL rfl rfl) ?_;refine gR ?_;exact aD.keep (bB rfl)
end
section
variable{rs:List (List Rt)}{r u k:Nat}{a b:List Rat}{x y:Et (llq rs)}{w v w' v':Nat}
theorem ZE (h : TR rs r) (hc : bS rs = 0) [c0 : Ct (llq rs) u k] [ha : Zl (llq rs) u k a x w v] [hb : Zl (llq rs) u k b y w' v'] (hs : w + v + (w' + v') <= 10000 := by decide) :
  Con prog 326 [.ptr 1000 0,nA a,nA b] [pP 1000 (cC rs)] (nA (sX (x+y))) [pP 1000 (cC rs)]:=by
 have hx:=Z5 (ha:=ha) (hb:=hb) hs;rw[pI h hc]at hx;exact WJ hx
theorem KR (h : TR rs r) (hc : bS rs = 0) [c0 : Ct (llq rs) u k] [ha : Zl (llq rs) u k a x w v] [hb : Zl (llq rs) u k b y w' v'] (hs : w + v + (w' + v') <= 10000 := by decide) :
  Con prog 325 [.ptr 1000 0,nA a,nA b] [pP 1000 (cC rs)] (nA (sX (x-y))) [pP 1000 (cC rs)]:=by
 have hx:=JA (ha:=ha) (hb:=hb) hs;rw[pI h hc]at hx;exact Y6 hx
theorem HC (h : TR rs r) (hc : bS rs = 0) [c0 : Ct (llq rs) u k] [ha : Zl (llq rs) u k a x w v] [hb : Zl (llq rs) u k b y w' v'] (hs : w + v + (w' + v') <= 10000 := by decide) :
  Con prog 328 [.ptr 1000 0,nA a,nA b] [pP 1000 (cC rs)] (nA (sX (x*y))) [pP 1000 (cC rs)]:=by
 have hx:=QO (ha:=ha) (hb:=hb) hs;rw[pI h hc]at hx;exact air hx
theorem X5 (h : TR rs r) (hc : bS rs = 0) [c0 : Ct (llq rs) u k] (n : Int) (hn : -9223372036854775808 <= n /\ n <= 9223372036854775807) [hq : Qz u (n : Rat) w'] [ha : Zl (llq rs) u k a x w v] (hs : w' + 0 + (w + v) <= 10000 := by decide) :
  Con prog 327 [.ptr 1000 0,i64 n,nA a] [pP 1000 (cC rs)] (nA (sX (qE (n:Rat)*x))) [pP 1000 (cC rs)]:=by
 have hm:=HC (a:=sh 0 ((n:Rat):Rat)) (b:=a) h hc hs;exact ZI n hn hm
end
section
variable{rs:List (List Rt)}{r:Nat}{a b c a2 b2 c2:List Rat}{x y z x2 y2 z2:Et (llq rs)}
theorem VF{dd s1 s2 p1 p2 p3 p4:List Rat}(hd:FP 324 [dU rs,aR a b,aR a2 b2] (.tup [nA dd,.v .nilIface]))(m1:ud 326 rs (nA c) dd s1)(m2:ud 325 rs (nA s1) c2 s2)
  (m3:ud 328 rs (nA c) dd p1) (m4:ud 327 rs (i64 4) p1 p2) (m5:ud 328 rs (nA s2) s2 p3) (m6:ud 325 rs (nA p2) p3 p4) :
  Con prog 200 [.ptr 1000 0,.agg [nA a,nA b,nA c],.agg [nA a2,nA b2,nA c2]] [pP 1000 (cC rs)] (.tup [nA p4,nA dd]) [pP 1000 (cC rs)]:=by
 refine gF func200 (fun k z h=>bX h) ?_;refine gc hd ?_;refine gt (a9 (yq _ _) (aO rfl rfl rfl) rfl rfl rfl) ?_;refine gD ?_;refine gt (a9 m1 (aO rfl rfl rfl) rfl rfl rfl) ?_;refine gt (a9 m2 (aO rfl rfl rfl) rfl rfl rfl) ?_;refine gD ?_;refine gt (a9 m3 (aO rfl rfl rfl) rfl rfl rfl) ?_;refine gt (a9 m4 (.cons (.tmp rfl) (.cons (.const _) (du rfl))) rfl rfl rfl) ?_;refine gt (a9 m5 (aO rfl rfl rfl) rfl rfl rfl) ?_;refine gt (a9 m6 (aO rfl rfl rfl) rfl rfl rfl) ?_;refine gR ?_;exact aD.keep (bB rfl)
theorem akm(h:TR rs r)(hc:bS rs=0)[c0:Ct (llq rs) 310000 65000][i1:Zl (llq rs) 310000 65000 a x 40 40][i2:Zl (llq rs) 310000 65000 b y 40 40][i3:Zl (llq rs) 310000 65000 c z 3 0][i4:Zl (llq rs) 310000 65000 a2 x2 40 40][i5:Zl (llq rs) 310000 65000 b2 y2 40 40][i6:Zl (llq rs) 310000 65000 c2 z2 3 0] :
  Con prog 200 [.ptr 1000 0,.agg [nA a,nA b,nA c],.agg [nA a2,nA b2,nA c2]] [pP 1000 (cC rs)] (.tup [nA (sX (bw (x,y) z (x2,y2) z2)),nA (sX (aE (x,y) (x2,y2)))]) [pP 1000 (cC rs)]:=by
 have hd:=aca (a:=a) (b:=b) (a2:=a2) (b2:=b2) h hc;haveI:=i3.zu;haveI:=i6.zu;haveI zd:=Ll c0 i1.zu i2.zu i4.zu i5.zu;haveI q4:Qz 310000 ((4:Int):Rat) 1:=Qz.int (c:=Ct.cx (c:=c0)) (by decide);have m1:=ZE (a:=c) (b:=sX (aE (x,y) (x2,y2))) h hc (by decide);have m2:=KR (a:=sX (z+aE (x,y) (x2,y2))) (b:=c2) h hc (by decide);have m3:=HC (a:=c) (b:=sX (aE (x,y) (x2,y2))) h hc (by decide);have m4:=X5 (a:=sX (z*aE (x,y) (x2,y2))) h hc 4 oz (by decide);have m5:=HC (a:=sX (z+aE (x,y) (x2,y2)-z2)) (b:=sX (z+aE (x,y) (x2,y2)-z2)) h hc (by decide);have m6:=KR (a:=sX (qE ((4:Int):Rat)*(z*aE (x,y) (x2,y2)))) (b:=sX ((z+aE (x,y) (x2,y2)-z2)*(z+aE (x,y) (x2,y2)-z2))) h hc (by decide);exact VF hd m1 m2 m3 m4 m5 m6
end
class Cy(ts:LL)(u k:outParam Nat):Prop where
  ex:∃R,Tw ts R/\eB R ts.length<=k
  k1:1<=k
  u3:3<=u
  two:ts.length<=2
instance Cy.cx{ts:LL}{u k:Nat}[c:Cy ts u k]:Cx (aw ts) ts.length u k:=by
  obtain⟨R,tw,h⟩:=c.ex;exact⟨⟨R,Q7 tw▸tw,h⟩,c.k1,c.u3⟩
theorem Cy.zq{ts:LL}{u k:Nat}[c:Cy ts u k]{q:Rat}{w:Nat}[h:Qz u q w]:Zl ts u k (sh 0 (q:Rat)) (qE q:Et ts) w 0:=⟨kl _ q,by
 obtain⟨R,tw,_⟩:=c.ex;exact(Nm.ofQ tw.five h.cb).eq oz⟩
theorem Cy.lm{ts:LL}{u k:Nat}(c:Cy ts u k):lm ts.length=200000000000:=by unfold Go.Lw.lm;rw[aq7 c.two]
def iE{ts:LL}(y:Et ts):Et ts:=T.inv (aw ts) ts.length y
abbrev br(ts:LL):Blk:=.box [.lst 1 (ts.map nA),.v .nilIface]
theorem Hn(ts:LL):cC (ts.map (List.map rt))=br ts:=by
 have h:=lM ts;unfold dU aZ at h;have h1:=AV.agg.inj h
 injection h1 with h2
 show Blk.box [.lst 1 ((ts.map (List.map rt)).map nR),.v .nilIface]=_;rw[h2]
section
variable{ts:LL}{u k:Nat}{a b:List Rat}{x y:Et ts}{w v w' v':Nat}
theorem ad8[c:Cy ts u k][ha:Zl ts u k a x w v][hb:Zl ts u k b y w' v'](hs:w*u+v*k+(w'*u+v'*k)<200000000000):FP 250 [aZ ts,nA a,nA b] (.tup [nA (sX (x+y)),.v .nilIface]):=by
 obtain⟨R,tw,hk⟩:=c.ex;have h1:=F7 tw ha.nm hb.nm (by rw[c.lm];omega);rw[ha.eq,hb.eq]at h1;exact h1
theorem Z8[c:Cy ts u k][ha:Zl ts u k a x w v][hb:Zl ts u k b y w' v'](hs:w*u+v*k+(w'*u+v'*k)<200000000000):FP 209 [aZ ts,nA a,nA b] (.tup [nA (sX (x-y)),.v .nilIface]):=by
 obtain⟨R,tw,hk⟩:=c.ex;have h1:=tR tw ha.nm hb.nm (by rw[c.lm];omega);rw[ha.eq,hb.eq]at h1;exact h1
theorem Ta[c:Cy ts u k][ha:Zl ts u k a x w v][hb:Zl ts u k b y w' v'](hs:w*u+v*k+(w'*u+v'*k)<200000000000):FP 210 [aZ ts,nA a,nA b] (.tup [nA (sX (x*y)),.v .nilIface]):=by
 obtain⟨R,tw,hk⟩:=c.ex;have h1:=G2 tw ha.nm hb.nm (by rw[c.lm];omega);rw[ha.eq,hb.eq]at h1;exact h1
theorem OV[c:Cy ts u k][ha:Zl ts u k a x w v](hs:w*u+v*k<200000000000):FP 128 [aZ ts,nA a] (.tup [nA (sX (-x)),.v .nilIface]):=by
 obtain⟨R,tw,hk⟩:=c.ex;have h1:=F6 tw ha.nm (by rw[c.lm];omega);rw[ha.eq]at h1;exact h1
theorem QB[c:Cy ts u k][ha:Zl ts u k a x w v](hs:w*u+v*k<200000000000):FP 87 [aZ ts,nA a] (.tup [i64 (ao x),.v .nilIface]):=by
 obtain⟨R,tw,hk⟩:=c.ex;have h1:=By tw ha.nm (by rw[c.lm];omega);rw[ha.eq]at h1;exact h1
theorem Zn{j m:Nat}[c:Cy ts u k][ha:Zl ts u k a x w v][hb:Zl ts u k b y w' v'](nb:Nl j b)(hj:j<=ts.length)(h0:ao y≠0)(hm:∀R,eB R ts.length<=k->iB R j (w'*u+v'*k)<=m)(hf:w'*u+v'*k<200000000000)(hs:w*u+v*k+m+k<=200000000000) :
  FP 350 [aZ ts,nA a,nA b] (.tup [nA (sX (x*iE y)),.v .nilIface])/\Nm ts.length (w*u+v*k+m+k) (sX (x*iE y)):=by
 obtain⟨R,tw,hk⟩:=c.ex;have hi:=hm R hk;have he:=hb.eq;have h1:T.sgn (aw ts) ts.length (af ts.length b)≠0:=by rw[he];exact h0
 have hd:=Gm tw ha.nm hb.nm hj nb h1 (by rw[c.lm];omega) oz;have hn:=Fj tw ha.nm hb.nm hj nb h1 (by rw[c.lm];omega) oz;rw[ha.eq,he]at hd hn;exact⟨hd,hn.mono oz⟩
theorem vm{j:Nat}[c:Cy ts u k][ha:Zl ts u k a x w v][hb:Zl ts u k b y w' v'](nb:Nl j b)(hj:j<=ts.length)(xg:j<=1)(h0:ao y≠0)(hs:(w+5*w')*u+(v+5*v'+3)*k<=200000000000) :
  FP 350 [aZ ts,nA a,nA b] (.tup [nA (sX (x*iE y)),.v .nilIface])/\Zu u k (x*iE y) (w+5*w') (v+5*v'+3):=by
 have e:(w+5*w')*u+(v+5*v'+3)*k=w*u+v*k+(5*(w'*u+v'*k)+2*k)+k:=by
  simp only[amt,ame,alu];omega
 rw[e]at hs
 have h:=Zn (a:=a) (b:=b) (m:=5*(w'*u+v'*k)+2*k) nb hj h0 (fun R hR=>by
  have h2:=ahz R (w'*u+v'*k) xg;have h3:=kR R hj;omega) oz hs
 exact⟨h.1,⟨h.2.eq e.symm⟩⟩
theorem tC(ts:LL)(a:List Rat):Con prog 323 [.ptr 1000 0,nA a,.v .nilIface] [pP 1000 (br ts)] (nA a) [pP 1000 (br ts)]:=by
 have h:=yq (ts.map (List.map rt)) a;rw[Hn]at h;exact h
theorem w7(ts:LL)(a:List Rat):Con prog 93 [.ptr 1000 0,nA a,.v .nilIface] [pP 1000 (br ts)] (nA a) [pP 1000 (br ts)]:=by
 have h:=tx (ts.map (List.map rt)) a;rw[Hn]at h;exact h
theorem n8[c:Cy ts u k][ha:Zl ts u k a x w v][hb:Zl ts u k b y w' v'](hs:w*u+v*k+(w'*u+v'*k)<200000000000) :
  Con prog 326 [.ptr 1000 0,nA a,nA b] [pP 1000 (br ts)] (nA (sX (x+y))) [pP 1000 (br ts)]:=by
 refine gF func326 (fun k z h=>bX h) ?_;refine gc (ad8 hs) ?_;refine gt (aK (tC _ _) (aO rfl rfl rfl) aL rfl rfl) ?_;refine gR ?_;exact aD.keep (bB rfl)
theorem qo[c:Cy ts u k][ha:Zl ts u k a x w v][hb:Zl ts u k b y w' v'](hs:w*u+v*k+(w'*u+v'*k)<200000000000) :
  Con prog 325 [.ptr 1000 0,nA a,nA b] [pP 1000 (br ts)] (nA (sX (x-y))) [pP 1000 (br ts)]:=by
 refine gF func325 (fun k z h=>bX h) ?_;refine gc (Z8 hs) ?_;refine gt (aK (tC _ _) (aO rfl rfl rfl) aL rfl rfl) ?_;refine gR ?_;exact aD.keep (bB rfl)
theorem m8[c:Cy ts u k][ha:Zl ts u k a x w v][hb:Zl ts u k b y w' v'](hs:w*u+v*k+(w'*u+v'*k)<200000000000) :
  Con prog 328 [.ptr 1000 0,nA a,nA b] [pP 1000 (br ts)] (nA (sX (x*y))) [pP 1000 (br ts)]:=by
 refine gF func328 (fun k z h=>bX h) ?_;refine gc (Ta hs) ?_;refine gt (aK (tC _ _) (aO rfl rfl rfl) aL rfl rfl) ?_;refine gR ?_;exact aD.keep (bB rfl)
theorem zU{q:List Rat}(hd:FP 350 [aZ ts,nA a,nA b] (.tup [nA q,.v .nilIface])) :
  Con prog 436 [.ptr 1000 0,nA a,nA b] [pP 1000 (br ts)] (nA q) [pP 1000 (br ts)]:=by
 refine gF func436 (fun k z h=>bX h) ?_;refine gc hd ?_;refine gt (aK (tC _ _) (aO rfl rfl rfl) aL rfl rfl) ?_;refine gR ?_;exact aD.keep (bB rfl)
theorem wR[c:Cy ts u k][ha:Zl ts u k a x w v](hs:w*u+v*k<200000000000) :
  Con prog 432 [.ptr 1000 0,nA a] [pP 1000 (br ts)] (i64 (ao x)) [pP 1000 (br ts)]:=by
 refine gF func432 (fun k z h=>bX h) ?_;refine gf ?_;refine gc (QB hs) ?_;refine gR ?_;exact aD.keep (bB rfl)
theorem Dm{q:List Rat}(hd:FP 350 [aZ ts,nA a,nA b] (.tup [nA q,.v .nilIface])) :
  Con prog 383 [.ptr 1000 0,nA a,nA b] [pP 1000 (br ts)] (nA q) [pP 1000 (br ts)]:=by
 refine gF func383 (fun k z h=>bX h) ?_;refine gc hd ?_;refine gt (aK (w7 _ _) (aO rfl rfl rfl) aL rfl rfl) ?_;refine gR ?_;exact aD.keep (bB rfl)
theorem ED[c:Cy ts u k][ha:Zl ts u k a x w v](hs:w*u+v*k<200000000000) :
  Con prog 380 [.ptr 1000 0,nA a] [pP 1000 (br ts)] (i64 (ao x)) [pP 1000 (br ts)]:=by
 refine gF func380 (fun k z h=>bX h) ?_;refine gf ?_;refine gc (QB hs) ?_;refine gR ?_;exact aD.keep (bB rfl)
theorem GQ[c:Cy ts u k](n:Int)(hn:-9223372036854775808<=n/\n<=9223372036854775807)[hq:Qz u (n:Rat) w'][ha:Zl ts u k a x w v](hs:w'*u+0*k+(w*u+v*k)<200000000000) :
  Con prog 327 [.ptr 1000 0,i64 n,nA a] [pP 1000 (br ts)] (nA (sX (qE (n:Rat)*x))) [pP 1000 (br ts)]:=by
 haveI:=Cy.zq (ts:=ts) (u:=u) (k:=k) (q:=(n:Rat)) (w:=w');have hm:=m8 (ts:=ts) (u:=u) (k:=k) (a:=sh 0 ((n:Rat):Rat)) (b:=a) (x:=qE (n:Rat)) (y:=x) hs;refine gF func327 (fun k z h=>bX h) ?_;refine gc (oQ n hn) ?_;refine gc (qI (yj hn)) ?_;refine gt (aK hm (aO rfl rfl rfl) aL rfl rfl) ?_;refine gR ?_;exact aD.keep (bB rfl)
theorem xH{p1 p2 v1 v2 c m1 m2 q1 q2:List Rat}(h1:Con prog 328 [.ptr 1000 0,nA c,nA v1] [pP 1000 (br ts)] (nA m1) [pP 1000 (br ts)])
  (h2:Con prog 328 [.ptr 1000 0,nA c,nA v2] [pP 1000 (br ts)] (nA m2) [pP 1000 (br ts)])
  (h3:Con prog 326 [.ptr 1000 0,nA p1,nA m1] [pP 1000 (br ts)] (nA q1) [pP 1000 (br ts)])
  (h4:Con prog 326 [.ptr 1000 0,nA p2,nA m2] [pP 1000 (br ts)] (nA q2) [pP 1000 (br ts)]) :
  Con prog 435 [.ptr 1000 0,aR p1 p2,nA c,aR v1 v2] [pP 1000 (br ts)] (aR q1 q2) [pP 1000 (br ts)]:=by
 refine gF func435 (fun k z h=>bX h) ?_;refine gt (aK h1 (aO rfl rfl rfl) aL rfl rfl) ?_;refine gt (aK h3 (aO rfl rfl rfl) aL rfl rfl) ?_;refine gt (aK h2 (aO rfl rfl rfl) aL rfl rfl) ?_;refine gt (aK h4 (aO rfl rfl rfl) aL rfl rfl) ?_;refine gD ?_;refine gR ?_;exact aD.keep (bB rfl)
theorem Og{r e:Nat}(tw:Tw ts r)(ha:Nm ts.length e a)(he:e<=lm ts.length)(hs:0<=T.sgn (aw ts) ts.length (af ts.length a)) :
  Con prog 437 [.ptr 1000 0,nA a] [pP 1000 (br ts)] (nA (dg ts.length)) [pP 1000 (br (aW ts a))]:=by
 refine gF func437 (fun k z h=>bX h) ?_;refine gf ?_;refine gc (OR tw ha he hs) ?_;refine gf ?_;refine gR ?_;exact aD.keep (bB rfl)
abbrev Hj(ts:LL)(ps:List AV):AV:=.agg [.lst 1 (ts.map nA),.lst 2 ps]
theorem WS{r:Nat}(tw:Tw ts r):Con prog 461 [.ptr 1000 0] [pP 1000 (br ts)] (aZ ts) [pP 1000 (br ts)]:=by
 have h3:=tw.three;have jS:=tw.rb.qs tw.le;refine gF func461 (fun k z h=>bX h) ?_;refine gl ?_;refine gW (Wk.virt 900 1 rfl) ?_;refine aS [2,3,13,14] [1000,2] (fun(i:Nat)=>[pP 15 (i64 i)]) (fun i=>[pP 3 (.box [.ms 900 1 0 i]),pP 900 (.row 1 ((ts.take i).map nA))]) (fun i=>i<=ts.length) (fun i=>ts.length-i) 0 (apx _) ?_ (h2:=(.cons rfl (BlkSub.bL (.cons (.nM _ _ _) .nil) rfl) (.k .nil)));rintro i hi K1 J1;refine gC (fun y=>?_) (fun y=>?_) (st2:=(13,0))
 ·have ae:=a7 y;obtain⟨d,hd⟩:=ay ae
  have tg:d.length<=32:=by
   have h9:=tw.len i ae;rw[ax hd]at h9;have:2^i<=32:=cV (b:=5) oz;omega
  have I4:=jS d (apo hd);refine gi (aA hd) ?_;refine gl ?_;refine gW (Wk.virt 901 3 rfl) ?_;refine aS [2,3,13,14,15,19,20] [1000,2,3,900] (fun(j:Nat)=>[pP 6 (.ms 901 3 0 j),pP 21 (i64 j)]) (fun j=>[pP 901 (.row 3 ((d.take j).map qA))]) (fun j=>j<=d.length) (fun j=>d.length-j) 0 (apx _) ?_;rintro j hj K2 J2;refine gC (fun y=>?_) (fun y=>?_) (st2:=(11,0))
  ·have fL:=a7 y;obtain ⟨q,hq⟩:=ay fL;have jf:=sH (rt q) (rt 0) (I4 q (apo hq)).ok Qs.zero.ok;rw [zD,bN] at jf;refine gi (aA hq) ?_;refine gc (Con.sA (.cons (.refl _) (.cons mV .nil)) jf) ?_;refine gs (cF (.tmp rfl) rfl (by rw [apr,ap7]; omega) (.tmp rfl) T53 rfl T106 rfl rfl (by simp only [ap4,ap9]; omega) rfl rfl) ?_ (10,0);refine gW (Wk.of (sl:=[pP 2 (.ptr 2 0),pP 3 (.ptr 3 0),pP 13 (.lst 1 (ts.map nA)),pP 14 (i64 ts.length),pP 15 (i64 i),pP 6 (.ms 30 3 0 (j + 1)),pP 19 (nA d),pP 20 (i64 d.length),pP 21 (i64 j)]) (hp:=[pP 1000 (br ts),pP 2 (.box [nS]),pP 3 (.box [.ms 900 1 0 i]),pP 900 (.row 1 ((ts.take i).map nA)),pP 30 (.row 3 ((d.take (j + 1)).map qA))]) a6 (.k (.k (.k (.k (.cons rfl (.of (by rw [dJ hq,ap8]; rfl)) .nil)))))) ?_ (10,0)
   refine gW (Wk.rk (k:=30) (d:=901) rfl rfl) ?_;refine ga aN ?_;exact aM J2 (j+1) fL
  have fL:=bj hj y;subst fL;refine gW ((Wk.freeze (k:=901) rfl).trans<|Wk.of (sl:=[pP 2 (.ptr 2 0),pP 3 (.ptr 3 0),pP 13 (.lst 1 (ts.map nA)),pP 14 (i64 ts.length),pP 15 (i64 i),pP 6 (nA d)]) (hp:=[pP 1000 (br ts),pP 2 (.box [nS]),pP 3 (.box [.ms 900 1 0 i]),pP 900 (.row 1 ((ts.take i).map nA))]) (.k (.k (.k (.k (.k (.cons rfl (.of (by rw[b8 (by simp)];simp[nA])) .nil)))))) (.k (.k (.k (.k .nil))))) ?_
  refine gs (cF (.tmp rfl) rfl (by rw[apr,ap7];omega) (.tmp rfl) T42 rfl T53 rfl rfl (by simp only[ap4,ap9];omega) rfl rfl) ?_ (12,0);refine gW (Wk.of (sl:=[pP 2 (.ptr 2 0),pP 3 (.ptr 3 0),pP 13 (.lst 1 (ts.map nA)),pP 14 (i64 ts.length),pP 15 (i64 i)]) (hp:=[pP 1000 (br ts),pP 2 (.box [nS]),pP 3 (.box [.ms 36 1 0 (i+1)]),pP 36 (.row 1 ((ts.take (i+1)).map nA))]) a6 (.k (.k (.k (.cons rfl (.of (by rw[dJ hd,ap8];rfl)) .nil))))) ?_ (12,0);refine gW (Wk.rk (k:=36) (d:=900) rfl rfl) ?_;refine ga aN ?_;exact aM J1 (i+1) ae
 have ae:=bj hi y;subst ae;refine gW ((Wk.freeze (k:=900) rfl).trans<|Wk.of (sl:=[pP 2 (.ptr 2 0),pP 3 (.ptr 3 0)]) (hp:=[pP 1000 (br ts),pP 2 (.box [nS]),pP 3 (.box [.lst 1 (ts.map nA)])]) a6 (.k (.k (.cons rfl (BlkSub.bL (.cons (.of (by rw[b8 (by simp)];simp)) .nil) rfl) .nil)))) ?_;refine gR ?_;exact aD.keep (bB rfl)
theorem sI{r:Nat}(tw:Tw ts r)(ps:List AV):Con prog 434 [.ptr 1000 0,.lst 2 ps] [pP 1000 (br ts)] (.tup [Hj ts ps,.v .nilIface]) [pP 1000 (br ts)]:=by
 refine gF func434 (fun k z h=>bX h) ?_;refine gf ?_;refine gt (aK (WS tw) (du rfl) aL rfl rfl) ?_;refine gR ?_;exact aD.keep (bB rfl)
end
theorem fp(ts:LL)(a:List Rat):(aW ts a).length=ts.length+1:=by simp[aW]
theorem Ol{ts:LL}{a:List Rat}{j:Nat}(h:j<ts.length):(aW ts a).getD j []=ts.getD j []:=by
 unfold aW;rw[apq,apq,aqc h]
theorem zf(ts:LL)(a:List Rat):(aW ts a).getD ts.length []=bc a (2^ts.length):=by
 unfold aW;rw[apq,aqb (apu _),Nat.sub_self];rfl
theorem BW{ts:LL}{a:List Rat}{j:Nat}(h:j<ts.length):aw (aW ts a) j=aw ts j:=by
 unfold aw;rw[Ol h]
theorem A5{ts:LL}{a:List Rat}{j:Nat}(h:j<=ts.length)(x:T j):T.sgn (aw (aW ts a)) j x=T.sgn (aw ts) j x :=
 T.sgn_congr j (fun i hi=>BW oz) x
theorem RB.ext{r e:Nat}{ts:LL}{a:List Rat}(h:RB r ts)(ha:Cb e a):RB (r+e) (aW ts a):=by
 obtain⟨D,N,h0,h1,h2,h3⟩:=h;obtain⟨D',N',k1,k2,k3⟩:=ha.wide (n:=2^ts.length);have hN:N<=2^r:=h3;refine⟨D*D',max (N*D') (N'*D),aml h0 k1.1,?_,?_,?_⟩
 ·intro d hd;rcases ap2.1 hd with h9 |h9
  ·exact((h1 d h9).scale k1.1).mono (Nat.le_max_left _ _)
  ·rw[am8.1 h9,alx D];exact(k1.scale h0).mono (Nat.le_max_right _ _)
 ·rw[aqs];exact alz h2 k2
 ·rw[aqs];refine Nat.max_le.2 ⟨alz h3 k2,?_⟩;rw[alx (2^r)];exact alz k3 h2
theorem HV{r e:Nat}{ts:LL}{a:List Rat}(tw:Tw ts r)(h2:ts.length<=2)(ha:Nm ts.length e a)(he:r+e<=5000000000)(hs:0<=T.sgn (aw ts) ts.length (af ts.length a)):Tw (aW ts a) (r+e):=by
 refine⟨by rw[fp];omega,?_,?_,tw.rb.ext ha.cb,he⟩
 ·intro j hj;rw[fp]at hj;rcases apz j ts.length with h |h
  ·rw[Ol h];exact tw.len j h
  ·have : j = ts.length := by omega
   subst this;rw[zf];exact ft ha.nl.le
 ·intro j hj;rw[fp]at hj;rw[A5 oz];rcases apz j ts.length with h |h
  ·rw[BW h];exact tw.pos j h
  ·have : j = ts.length := by omega
   subst this
   have e1:aw (aW ts a) ts.length=af ts.length a:=by
    show af ts.length ((aW ts a).getD ts.length [])=_;rw[zf,rS]
   rw[e1];exact hs
theorem q8{ts:LL}{a l:List Rat}{e:Nat}(h:Nm ts.length e l)(h4:ts.length<=4):Nm (aW ts a).length e l:=by
 rw[fp];exact⟨by omega,h.nl.mono oz,h.cb⟩
theorem Ug{ts:LL}{a l:List Rat}(h:Nl ts.length l):ao (dE (aW ts a) l)=ao (dE ts l):=by
 unfold ao dE;rw[fp];show T.sgn (aw (aW ts a)) (ts.length+1) (af (ts.length+1) l)=_;rw[yN (aw (aW ts a)) h.le (Nat.le_succ _),A5 (apu _)]
theorem yP{ts:LL}{a:List Rat}(h4:ts.length<=4):Nm (aW ts a).length 1 (dg ts.length):=by
 rw[fp];refine⟨by omega,.inr ⟨_,apu _,Fs _⟩,1,1,⟨by omega,?_⟩,by omega,by omega⟩;intro q hq;unfold dg at hq;rcases ank hq with h |h
 ·rw[(an5.1 h).2];exact⟨0,by rw[Rat.zero_mul];rfl,by simp⟩
 ·rw[h];exact⟨1,by rw[Rat.one_mul];rfl,by simp⟩
theorem aj9{r e k:Nat}{ts:LL}{a:List Rat}(tw:Tw ts r)(h1:ts.length<=1)(ha:Nm ts.length e a)(he:r+e<=5000000000)(hs:0<=T.sgn (aw ts) ts.length (af ts.length a)){u:Nat}(hu:3<=u)(hk:3*(r+e)+6<=k):Cy (aW ts a) u k :=
 ⟨⟨r+e,HV tw oz ha he hs,by
  rw[fp];have h:=kR (r+e) (show ts.length+1<=2 by omega);have h2:eB (r+e) 2=3*(r+e)+6:=by simp only[eB];omega
  omega⟩,by omega,hu,by rw[fp];omega⟩
structure Mt where
  ts:LL
  ps:List (List Rat×List Rat)
abbrev eU(p:List Rat×List Rat):AV:=aR p.1 p.2
abbrev Mt.av(m:Mt):AV:=Hj m.ts (m.ps.map eU)
abbrev P2(ts:LL):Type:=Et ts×Et ts
abbrev P2.l{ts:LL}(p:P2 ts):List Rat×List Rat:=(sX p.1,sX p.2)
abbrev aP{ts:LL}(X:Et ts)(x:Et ts):Et (aW ts (sX X)):=dE (aW ts (sX X)) (sX x)
section
variable{ts:LL}
def gp(d:Et ts):Et ts:=qE ((2:Int):Rat)*d
def gT(p q:P2 ts):P2 ts:=(q.1-p.1,q.2-p.2)
def cW(p:P2 ts)(k:Et ts)(v:P2 ts):P2 ts:=(p.1+k*v.1,p.2+k*v.2)
def dH(p q:P2 ts)(z z2:Et ts):P2 ts:=cW p ((z+aE p q-z2)*iE (gp (aE p q))) (gT p q)
def fS(X d:Et ts):Et (aW ts (sX X)):=dE _ (dg ts.length)*iE (aP X (gp d))
def i7(X:Et ts)(f v:P2 ts)(c:Et (aW ts (sX X))):P2 (aW ts (sX X)):=cW (aP X f.1,aP X f.2) c (qE ((-1:Int):Rat)*aP X v.2,aP X v.1)
def k9(p:P2 ts)(z z2:Et ts):Mt:=if ao (z-z2)≠0 then⟨ts,[]⟩else if 0<ao z then⟨[],[]⟩else⟨ts,[(cW p 0 p).l]⟩
def d6(p q:P2 ts)(z z2:Et ts):Mt :=
  if ao (aE p q)=0 then k9 p z z2
  else if ao (bw p z q z2)<0 then⟨ts,[]⟩
  else if ao (bw p z q z2)=0 then⟨ts,[(dH p q z z2).l]⟩
  else⟨aW ts (sX (bw p z q z2)),[(i7 (bw p z q z2) (dH p q z z2) (gT p q) (fS (bw p z q z2) (aE p q))).l,
    (i7 (bw p z q z2) (dH p q z z2) (gT p q) (qE ((-1:Int):Rat)*fS (bw p z q z2) (aE p q))).l]⟩
def pZ(z z2:Et ts):Nat:=if ao (z-z2)=0/\0<ao z then 15 else 0
def gq(p q:P2 ts)(z z2:Et ts):Nat:=if ao (aE p q)=0 then pZ z z2 else 0
theorem M9:Sub (.agg [nS,nS]) (Hj [] []):=Sub.agg (.cons (.nil _ _ _) (.cons (.nil _ _ _) .nil)) rfl
end
theorem ajw {ts : LL} {u k : Nat} [c : Cy ts u k] : Zl ts u k [] (0 : Et ts) 0 0 := ⟨by rw [jM]; exact E.zero_def.symm, by
 obtain⟨R,tw,_⟩:=c.ex;exact⟨tw.five,.inl rfl,Cb.nil.mono (apx _)⟩⟩
section
variable{ts:LL}{a b c a2 b2 c2:List Rat}{x y z x2 y2 z2:Et ts}
theorem U6{r:Nat}(tw:Tw ts r)[c0:Cy ts 310000 65000][i1:Zl ts 310000 65000 a x 40 40][i2:Zl ts 310000 65000 b y 40 40][i3:Zl ts 310000 65000 c z 3 0][i6:Zl ts 310000 65000 c2 z2 3 0] :
  Con prog 433 [.ptr 1000 0,.agg [nA a,nA b,nA c],.agg [nA a2,nA b2,nA c2]] [pP 1000 (br ts)]
   (.tup [(k9 (x,y) z z2).av,bG (pZ z z2)]) [pP 1000 (br ts)]:=by
 haveI:=i1.zu;haveI:=i2.zu;haveI:=i3.zu;haveI:=i6.zu;have uS:=Con.sA (.cons (.refl _) (.cons (Sub.nil 2 none 0) .nil)) (sI tw []);have m1:=qo (ts:=ts) (u:=310000) (k:=65000) (a:=c) (b:=c2) (by decide);have m2:=wR (ts:=ts) (u:=310000) (k:=65000) (a:=sX (z-z2)) (by decide);have m3:=wR (ts:=ts) (u:=310000) (k:=65000) (a:=c) (by decide);haveI zn:Zl ts 310000 65000 [] (0:Et ts) 0 0:=ajw;have n1:=m8 (ts:=ts) (u:=310000) (k:=65000) (a:=[]) (b:=a) (by decide);have n2:=m8 (ts:=ts) (u:=310000) (k:=65000) (a:=[]) (b:=b) (by decide);have n3:=n8 (ts:=ts) (u:=310000) (k:=65000) (a:=a) (b:=sX (0*x)) (by decide);have n4:=n8 (ts:=ts) (u:=310000) (k:=65000) (a:=b) (b:=sX (0*y)) (by decide);have bU:=Con.sA (.cons (.refl _) (.cons (.refl _) (.cons (Sub.nil 3 none 0) (.cons (.refl _) .nil)))) (xH n1 n2 n3 n4);refine gF func433 (fun k z h=>bX h) ?_;refine gt (a9 m1 (aO rfl rfl rfl) rfl rfl rfl) ?_;refine gt (a9 m2 (bO rfl rfl) rfl rfl rfl) ?_;refine gC (fun v=>?_) (fun v=>?_)
 ·have h1:ao (z-z2)≠0:=ut v;refine gt (a9 uS (.cons (.tmp rfl) (.cons (.const _) .nil)) rfl rfl rfl) ?_;refine gR ?_;exact(aD.keep (bB rfl)).sub (.of (by unfold k9 pZ;rw[aq7 h1,aq6 (fun h=>h1 h.1)];rfl))
 have h1:ao (z-z2)=0:=Cz v;refine gt (a9 m3 (bO rfl rfl) rfl rfl rfl) ?_;refine gC (fun v=>?_) (fun v=>?_)
 ·have h2:0<ao z:=aq9 v;refine gR ?_;exact(aD.keep (bB rfl)).sub (by unfold k9 pZ;rw[aq6 oz,aq7 h2,aq7 ⟨h1,h2⟩];exact Sub.tup (.cons M9 (.cons (.refl _) .nil)))
 have h2:¬0<ao z:=ara v;refine gt (a9 bU (.cons (.tmp rfl) (.cons (.tmp rfl) (.cons (.const _) (du rfl)))) rfl rfl rfl) ?_;refine gt (a9 (sI tw [aR (sX (x+0*x)) (sX (y+0*y))]) (bO rfl rfl) rfl rfl rfl) ?_;refine gR ?_;exact(aD.keep (bB rfl)).sub (.of (by unfold k9 pZ;rw[aq6 oz,aq6 h2,aq6 (fun h=>h2 h.2)];rfl))
end
section
variable{rs:List (List Rt)}{r:Nat}{a b c a2 b2 c2:List Rat}{x y z x2 y2 z2:Et (llq rs)}
structure CirP(ts:LL)(p q:P2 ts)(z z2:Et ts):Prop where
  zd:Zu 310000 65000 (aE p q) 320 327
  zX:Zu 310000 65000 (bw p z q z2) 976 989
  zt:Zu 310000 65000 (gp (aE p q)) 321 328
  z1:Zu 310000 65000 (gT p q).1 80 81
  z2:Zu 310000 65000 (gT p q).2 80 81
theorem Rv{ts:LL}{x y z x2 y2 z2:Et ts}(c:Ct ts 310000 65000)(h1:Zu 310000 65000 x 40 40)(h2:Zu 310000 65000 y 40 40)(h3:Zu 310000 65000 z 3 0)(h4:Zu 310000 65000 x2 40 40)(h5:Zu 310000 65000 y2 40 40)(h6:Zu 310000 65000 z2 3 0) :
  CirP ts (x,y) (x2,y2) z z2:=by
 haveI:=c;haveI:=h1;haveI:=h2;haveI:=h3;haveI:=h4;haveI:=h5;haveI:=h6
 haveI zd:=Ll c h1 h2 h4 h5;haveI q4:Qz 310000 ((4:Int):Rat) 1:=Qz.int (c:=Ct.cx (c:=c)) (by decide);haveI q2:Qz 310000 ((2:Int):Rat) 1:=Qz.int (c:=Ct.cx (c:=c)) (by decide)
 exact⟨zd,(arf:Zu 310000 65000 (qE ((4:Int):Rat)*(z*aE (x,y) (x2,y2))-(z+aE (x,y) (x2,y2)-z2)*(z+aE (x,y) (x2,y2)-z2)) _ _),
  (arf:Zu 310000 65000 (qE ((2:Int):Rat)*aE (x,y) (x2,y2)) _ _),(arf:Zu 310000 65000 (x2-x) _ _),(arf:Zu 310000 65000 (y2-y) _ _)⟩
theorem NL{ts:LL}{x y z x2 y2 z2:Et ts}[c0:Cy ts 310000 65000](hn:ts.length<=1)(h1:Zu 310000 65000 x 40 40)(h2:Zu 310000 65000 y 40 40)(h3:Zu 310000 65000 z 3 0)(h6:Zu 310000 65000 z2 3 0)(P:CirP ts (x,y) (x2,y2) z z2)
  (h0:ao (gp (aE (x,y) (x2,y2)))≠0) :
  FP 350 [aZ ts,nA (sX (z+aE (x,y) (x2,y2)-z2)),nA (sX (gp (aE (x,y) (x2,y2))))] (.tup [nA (sX ((z+aE (x,y) (x2,y2)-z2)*iE (gp (aE (x,y) (x2,y2))))),.v .nilIface]) /\
  Zu 310000 65000 ((z+aE (x,y) (x2,y2)-z2)*iE (gp (aE (x,y) (x2,y2)))) 1931 1972/\Zu 310000 65000 (dH (x,y) (x2,y2) z z2).1 2051 2095/\Zu 310000 65000 (dH (x,y) (x2,y2) z z2).2 2051 2095:=by
 haveI:=h1;haveI:=h2;haveI:=h3;haveI:=h6;haveI:=P.zd;haveI:=P.zt
 have hd:=vm (ts:=ts) (u:=310000) (k:=65000) (a:=sX (z+aE (x,y) (x2,y2)-z2)) (b:=sX (gp (aE (x,y) (x2,y2)))) (j:=ts.length) P.zt.nm.nl (apu _) hn h0 (by decide);haveI zk:=hd.2;haveI:=P.z1;haveI:=P.z2
 exact⟨hd.1,zk,(arf:Zu 310000 65000 (x+((z+aE (x,y) (x2,y2)-z2)*iE (gp (aE (x,y) (x2,y2))))*(gT (x,y) (x2,y2)).1) _ _),
  (arf:Zu 310000 65000 (y+((z+aE (x,y) (x2,y2)-z2)*iE (gp (aE (x,y) (x2,y2))))*(gT (x,y) (x2,y2)).2) _ _)⟩
structure ExtP{ts:LL}(X:Et ts):Prop where
  tw:Tw (aW ts (sX X)) 366909990
  cy:Cy (aW ts (sX X)) 773000000 1101400000
theorem yS{ts:LL}{X:Et ts}(tw:Tw ts 64990)(hn:ts.length<=1)(hx:Zu 310000 65000 X 976 989)(hs:0<=ao X):ExtP X:=by
 have h9:0<=T.sgn (aw ts) ts.length (af ts.length (sX X)):=by rw[show af ts.length (sX X)=X from bu _ _];exact hs
 have hm:=hx.nm;exact⟨HV tw oz hm (by decide) h9,aj9 tw hn hm (by decide) h9 oz (by decide)⟩
theorem ou{ts:LL}{X x:Et ts}{w v:Nat}(hn:ts.length<=1)(h:Zu 310000 65000 x w v)(hs:w*310000+v*65000<=773000000):Zl (aW ts (sX X)) 773000000 1101400000 (sX x) (aP X x) 1 0:=Zl.at (q8 h.nm oz) hs
theorem tG{ts:LL}{X x:Et ts}:ao (aP X x)=ao x:=by
 show ao (dE (aW ts (sX X)) (sX x))=_;rw[Ug (l:=sX x) (gk _ _)];show ao (dE ts (sX x))=_;rw[show dE ts (sX x)=x from bu _ _]
theorem CC{ts:LL}{r:Nat}(tw:Tw ts r)(d:Et ts):ao (gp d)=ao d:=by
 have h:=fZ (aw ts) ts.length tw.pos
 have h2:sg (aw ts) ts.length (qE ((2:Int):Rat):Et ts)=1:=by
  show T.sgn (aw ts) ts.length (T.ofQ ts.length ((2:Int):Rat))=1;rw[T.sgn_ofQ];rfl
 have h3:=h.mul (qE ((2:Int):Rat)) d;rw[h2,Int.one_mul]at h3;exact h3
structure SideP{ts:LL}(X d:Et ts)(f v:P2 ts):Prop where
  hd:FP 350 [aZ (aW ts (sX X)),nA (dg ts.length),nA (sX (gp d))] (.tup [nA (sX (fS X d)),.v .nilIface])
  ht:Con prog 327 [.ptr 1000 0,i64 (-1),nA (sX v.2)] [pP 1000 (br (aW ts (sX X)))] (nA (sX (qE ((-1:Int):Rat)*aP X v.2))) [pP 1000 (br (aW ts (sX X)))]
  hu:Con prog 327 [.ptr 1000 0,i64 (-1),nA (sX (fS X d))] [pP 1000 (br (aW ts (sX X)))] (nA (sX (qE ((-1:Int):Rat)*fS X d))) [pP 1000 (br (aW ts (sX X)))]
  a1:Con prog 435 [.ptr 1000 0,aR (sX f.1) (sX f.2),nA (sX (fS X d)),aR (sX (qE ((-1:Int):Rat)*aP X v.2)) (sX v.1)] [pP 1000 (br (aW ts (sX X)))] (eU (i7 X f v (fS X d)).l) [pP 1000 (br (aW ts (sX X)))]
  a2:Con prog 435 [.ptr 1000 0,aR (sX f.1) (sX f.2),nA (sX (qE ((-1:Int):Rat)*fS X d)),aR (sX (qE ((-1:Int):Rat)*aP X v.2)) (sX v.1)] [pP 1000 (br (aW ts (sX X)))] (eU (i7 X f v (qE ((-1:Int):Rat)*fS X d)).l) [pP 1000 (br (aW ts (sX X)))]
  n1:Zu 773000000 1101400000 (i7 X f v (fS X d)).1 9 6/\Zu 773000000 1101400000 (i7 X f v (fS X d)).2 9 6
  n2:Zu 773000000 1101400000 (i7 X f v (qE ((-1:Int):Rat)*fS X d)).1 10 7/\Zu 773000000 1101400000 (i7 X f v (qE ((-1:Int):Rat)*fS X d)).2 10 7
theorem O0{ts:LL}{X d:Et ts}{f v:P2 ts}(hn:ts.length<=1)(E:ExtP X)(hd:Zu 310000 65000 (gp d) 321 328)(h0:ao (gp d)≠0)(f1:Zu 310000 65000 f.1 2051 2095)(f2:Zu 310000 65000 f.2 2051 2095)
  (v1:Zu 310000 65000 v.1 80 81) (v2:Zu 310000 65000 v.2 80 81):SideP X d f v:=by
 haveI cy:=E.cy;haveI zr:Zl (aW ts (sX X)) 773000000 1101400000 (dg ts.length) (dE _ (dg ts.length)) 1 0:=Zl.at (yP oz) (by decide);haveI zd:=ou (X:=X) hn hd (by decide);haveI zf1:=ou (X:=X) hn f1 (by decide);haveI zf2:=ou (X:=X) hn f2 (by decide);haveI zv1:=ou (X:=X) hn v1 (by decide);haveI zv2:=ou (X:=X) hn v2 (by decide);haveI:=zf1.zu;haveI:=zf2.zu;haveI:=zv1.zu;haveI:=zv2.zu
 have AH:=vm (ts:=aW ts (sX X)) (u:=773000000) (k:=1101400000) (a:=dg ts.length) (b:=sX (gp d)) (j:=ts.length) hd.nm.nl (by rw[fp];omega) hn (by rw[tG];exact h0) (by decide);haveI zs:Zu 773000000 1101400000 (fS X d) 6 3:=AH.2;haveI qm:Qz 773000000 ((-1:Int):Rat) 1:=Qz.int (c:=Cy.cx (c:=cy)) (by decide);haveI zm:Zu 773000000 1101400000 (qE ((-1:Int):Rat)*aP X v.2) 2 1:=arf;haveI zu:Zu 773000000 1101400000 (qE ((-1:Int):Rat)*fS X d) 7 4:=arf;have ht:=GQ (ts:=aW ts (sX X)) (u:=773000000) (k:=1101400000) (a:=sX v.2) (-1) oz (by decide);have hu:=GQ (ts:=aW ts (sX X)) (u:=773000000) (k:=1101400000) (a:=sX (fS X d)) (-1) oz (by decide)
 have al:∀{c:Et (aW ts (sX X))}{w k:Nat}(zc:Zu 773000000 1101400000 c w k),w<=7->k<=4 ->
   Con prog 435 [.ptr 1000 0,aR (sX f.1) (sX f.2),nA (sX c),aR (sX (qE ((-1:Int):Rat)*aP X v.2)) (sX v.1)] [pP 1000 (br (aW ts (sX X)))] (eU (i7 X f v c).l) [pP 1000 (br (aW ts (sX X)))]:=by
  intro c w k zc hw hk;haveI:=zc;have m1:=m8 (ts:=aW ts (sX X)) (u:=773000000) (k:=1101400000) (a:=sX c) (b:=sX (qE ((-1:Int):Rat)*aP X v.2)) oz;have m2:=m8 (ts:=aW ts (sX X)) (u:=773000000) (k:=1101400000) (a:=sX c) (b:=sX v.1) oz;have m3:=n8 (ts:=aW ts (sX X)) (u:=773000000) (k:=1101400000) (a:=sX f.1) (b:=sX (c*(qE ((-1:Int):Rat)*aP X v.2))) oz;have m4:=n8 (ts:=aW ts (sX X)) (u:=773000000) (k:=1101400000) (a:=sX f.2) (b:=sX (c*aP X v.1)) oz;exact xH m1 m2 m3 m4
 exact⟨AH.1,ht,hu,al zs oz oz,al zu oz oz,
  ⟨(arf:Zu 773000000 1101400000 (aP X f.1+fS X d*(qE ((-1:Int):Rat)*aP X v.2)) 9 6),⟨(arf:Zu 773000000 1101400000 (aP X f.2+fS X d*aP X v.1) _ _).nm.mono (by decide)⟩⟩,
  ⟨(arf:Zu 773000000 1101400000 (aP X f.1+qE ((-1:Int):Rat)*fS X d*(qE ((-1:Int):Rat)*aP X v.2)) 10 7),⟨(arf:Zu 773000000 1101400000 (aP X f.2+qE ((-1:Int):Rat)*fS X d*aP X v.1) _ _).nm.mono (by decide)⟩⟩⟩
theorem Te(h:TR rs 64990)(hc:bS rs=0)(hn:(llq rs).length<=1)[c0:Ct (llq rs) 310000 65000][i1:Zl (llq rs) 310000 65000 a x 40 40][i2:Zl (llq rs) 310000 65000 b y 40 40][i3:Zl (llq rs) 310000 65000 c z 3 0][i4:Zl (llq rs) 310000 65000 a2 x2 40 40][i5:Zl (llq rs) 310000 65000 b2 y2 40 40][i6:Zl (llq rs) 310000 65000 c2 z2 3 0]
  (ha:a=sX x) (hb:b=sX y) (s1:0<=ao z) (s2:0<=ao z2):FP 377 [dU rs,.agg [nA a,nA b,nA c],.agg [nA a2,nA b2,nA c2]] (.tup [(d6 (x,y) (x2,y2) z z2).av,bG (gq (x,y) (x2,y2) z z2)]):=by
 have hz:∀q∈[(a,b,c),(a2,b2,c2)],CiZ rs q:=fun q hq=>by
  simp only[aqf,aqg,or_false]at hq;rcases hq with rfl |rfl
  ·exact⟨i1.nm.mono oz,i2.nm.mono oz,i3.nm.mono oz,by show 0<=ao (dE (llq rs) c);rw[show dE (llq rs) c=z from i3.eq];exact s1⟩
  ·exact⟨i4.nm.mono oz,i5.nm.mono oz,i6.nm.mono oz,by show 0<=ao (dE (llq rs) c2);rw[show dE (llq rs) c2=z2 from i6.eq];exact s2⟩
 have nF:=aeo h hc [(a,b,c),(a2,b2,c2)] hz (by show 2<=100;omega);obtain⟨tw,etw⟩:=d9 h hc;haveI cy:Cy (llq rs) 310000 65000:=⟨c0.ex,by omega,by omega,by omega⟩
 have P:=Rv c0 i1.zu i2.zu i3.zu i4.zu i5.zu i6.zu;haveI:=P.zd;haveI:=P.zX;haveI:=i3.zu;haveI:=i6.zu;have m1:=wR (ts:=llq rs) (u:=310000) (k:=65000) (a:=sX (aE (x,y) (x2,y2))) (by decide);have m2:=wR (ts:=llq rs) (u:=310000) (k:=65000) (a:=sX (bw (x,y) z (x2,y2) z2)) (by decide);have m0:=Con.sA (.cons (.refl _) (.cons (Sub.nil 2 none 0) .nil)) (sI tw []);have w1:=qo (ts:=llq rs) (u:=310000) (k:=65000) (a:=a2) (b:=a) (by decide);have w2:=qo (ts:=llq rs) (u:=310000) (k:=65000) (a:=b2) (b:=b) (by decide);haveI q2:Qz 310000 ((2:Int):Rat) 1:=Qz.int (c:=Cy.cx (c:=cy)) (by decide);have t2:=GQ (ts:=llq rs) (u:=310000) (k:=65000) (a:=sX (aE (x,y) (x2,y2))) 2 oz (by decide);have k1:=n8 (ts:=llq rs) (u:=310000) (k:=65000) (a:=c) (b:=sX (aE (x,y) (x2,y2))) (by decide);have k2:=qo (ts:=llq rs) (u:=310000) (k:=65000) (a:=sX (z+aE (x,y) (x2,y2))) (b:=c2) (by decide);subst ha;subst hb;refine ai func377 ?_;refine gc nF ?_;refine gf ?_ (5,0);refine gW (Wk.o (sl:=[pP 4 (.ptr 4 0),pP 5 (.ptr 5 0),pP 6 (.ptr 6 0),pP 9 (.ptr 29 0)]) (hp:=[pP 4 (.box [nA (sX x),nA (sX y),nA c]),pP 5 (.box [nA a2,nA b2,nA c2]),pP 6 (.box [nS,nS]),pP 29 (cC rs)])) ?_;refine gt (aK (Con.rB 29 rfl rfl rfl rfl (akm h hc)) (aO rfl rfl rfl) aL rfl rfl) ?_ (6,0);refine gW (Wk.of (sl:=[pP 4 (.ptr 4 0),pP 5 (.ptr 5 0),pP 6 (.ptr 6 0),pP 9 (.ptr 29 0),pP 10 (nA (sX (bw (x,y) z (x2,y2) z2))),pP 11 (nA (sX (aE (x,y) (x2,y2))))]) (hp:=[pP 4 (.box [nA (sX x),nA (sX y),nA c]),pP 5 (.box [nA a2,nA b2,nA c2]),pP 6 (.box [nS,nS]),pP 29 (br (llq rs))]) a6 (.k (.k (.k (.cons rfl (BlkSub.bL (.cons (.of (rg etw)) (.cons (.refl _) .nil)) rfl) .nil))))) ?_
 refine gt (a9 (Con.rB 29 rfl rfl rfl rfl m1) (bO rfl rfl) rfl rfl rfl) ?_;refine gC (fun w=>?_) (fun w=>?_)
 ·have f9:ao (aE (x,y) (x2,y2))=0:=dL w;refine gt (a9 (Con.rB 29 rfl rfl rfl rfl (U6 (a:=sX x) (b:=sX y) (c:=c) (a2:=a2) (b2:=b2) (c2:=c2) tw)) (aO rfl rfl rfl) rfl rfl rfl) ?_;refine bK ?_;unfold d6 gq;rw[aq7 f9,aq7 f9]
 have f9:¬ao (aE (x,y) (x2,y2))=0:=eZ w;refine gt (a9 (Con.rB 29 rfl rfl rfl rfl m2) (bO rfl rfl) rfl rfl rfl) ?_;refine gC (fun w=>?_) (fun w=>?_)
 ·have ik:ao (bw (x,y) z (x2,y2) z2)<0:=aq9 w;refine gt (a9 (Con.rB 29 rfl rfl rfl rfl m0) (.cons (.tmp rfl) (.cons (.const _) .nil)) rfl rfl rfl) ?_;refine bK ?_;unfold d6 gq;rw[aq6 f9,aq6 f9,aq7 ik];rfl
 have ik:¬ao (bw (x,y) z (x2,y2) z2)<0:=ara w;have tm:ao (gp (aE (x,y) (x2,y2)))≠0:=by rw[CC tw];exact f9
 obtain⟨fd,fk,f1,f2⟩:=NL hn i1.zu i2.zu i3.zu i6.zu P tm;haveI:=fk;haveI:=P.z1;haveI:=P.z2;have g1:=m8 (ts:=llq rs) (u:=310000) (k:=65000) (a:=sX ((z+aE (x,y) (x2,y2)-z2)*iE (gp (aE (x,y) (x2,y2))))) (b:=sX (gT (x,y) (x2,y2)).1) (by decide);have g2:=m8 (ts:=llq rs) (u:=310000) (k:=65000) (a:=sX ((z+aE (x,y) (x2,y2)-z2)*iE (gp (aE (x,y) (x2,y2))))) (b:=sX (gT (x,y) (x2,y2)).2) (by decide);have g3:=n8 (ts:=llq rs) (u:=310000) (k:=65000) (a:=sX x) (b:=sX ((z+aE (x,y) (x2,y2)-z2)*iE (gp (aE (x,y) (x2,y2)))*(gT (x,y) (x2,y2)).1)) (by decide);have g4:=n8 (ts:=llq rs) (u:=310000) (k:=65000) (a:=sX y) (b:=sX ((z+aE (x,y) (x2,y2)-z2)*iE (gp (aE (x,y) (x2,y2)))*(gT (x,y) (x2,y2)).2)) (by decide);have gal:=xH g1 g2 g3 g4;refine gt (a9 (Con.rB 29 rfl rfl rfl rfl w1) (aO rfl rfl rfl) rfl rfl rfl) ?_;refine gt (a9 (Con.rB 29 rfl rfl rfl rfl w2) (aO rfl rfl rfl) rfl rfl rfl) ?_;refine gD ?_;refine gt (a9 (Con.rB 29 rfl rfl rfl rfl t2) (.cons (.tmp rfl) (.cons (.const _) (du rfl))) rfl rfl rfl) ?_;refine gt (a9 (Con.rB 29 rfl rfl rfl rfl k1) (aO rfl rfl rfl) rfl rfl rfl) ?_;refine gt (a9 (Con.rB 29 rfl rfl rfl rfl k2) (aO rfl rfl rfl) rfl rfl rfl) ?_;refine gt (a9 (Con.rB 29 rfl rfl rfl rfl (zU fd)) (aO rfl rfl rfl) rfl rfl rfl) ?_;refine gt (a9 (Con.rB 29 rfl rfl rfl rfl gal) (.cons (.tmp rfl) (.cons (.tmp rfl) (.cons (.tmp rfl) (.cons (.tmp rfl) .nil)))) rfl rfl rfl) ?_;refine gD ?_;refine gC (fun w=>?_) (fun w=>?_)
 ·have mh:ao (bw (x,y) z (x2,y2) z2)=0:=dL w;refine gt (a9 (Con.rB 29 rfl rfl rfl rfl (sI tw [eU (dH (x,y) (x2,y2) z z2).l])) (bO rfl rfl) rfl rfl rfl) ?_;refine bK ?_;unfold d6 gq;rw[aq6 f9,aq6 f9,aq6 ik,aq7 mh];rfl
 have mh:¬ao (bw (x,y) z (x2,y2) z2)=0:=eZ w;have E:ExtP (bw (x,y) z (x2,y2) z2):=yS tw hn P.zX oz;have S:=O0 (X:=bw (x,y) z (x2,y2) z2) (d:=aE (x,y) (x2,y2)) (f:=dH (x,y) (x2,y2) z z2) (v:=gT (x,y) (x2,y2)) hn E P.zt tm f1 f2 P.z1 P.z2;have kt:=Og (a:=sX (bw (x,y) z (x2,y2) z2)) tw P.zX.nm (by rw[cy.lm];decide) (by rw[show af (llq rs).length (sX (bw (x,y) z (x2,y2) z2))=bw (x,y) z (x2,y2) z2 from bu _ _];show 0<=ao (bw (x,y) z (x2,y2) z2);omega);refine gt (aK (Con.rB 29 rfl rfl rfl rfl kt) (bO rfl rfl) aL rfl rfl) ?_;refine gt (a9 (Con.rB 29 rfl rfl rfl rfl (zU S.hd)) (aO rfl rfl rfl) rfl rfl rfl) ?_;refine gt (a9 (Con.rB 29 rfl rfl rfl rfl S.ht) (.cons (.tmp rfl) (.cons (.const _) (du rfl))) rfl rfl rfl) ?_;refine gD ?_;refine gt (a9 (Con.rB 29 rfl rfl rfl rfl S.a1) (.cons (.tmp rfl) (.cons (.tmp rfl) (.cons (.tmp rfl) (.cons (.tmp rfl) .nil)))) rfl rfl rfl) ?_;refine gt (a9 (Con.rB 29 rfl rfl rfl rfl S.hu) (.cons (.tmp rfl) (.cons (.const _) (du rfl))) rfl rfl rfl) ?_;refine gt (a9 (Con.rB 29 rfl rfl rfl rfl S.a2) (.cons (.tmp rfl) (.cons (.tmp rfl) (.cons (.tmp rfl) (.cons (.tmp rfl) .nil)))) rfl rfl rfl) ?_;refine gt (a9 (Con.rB 29 rfl rfl rfl rfl (sI E.tw [eU (i7 (bw (x,y) z (x2,y2) z2) (dH (x,y) (x2,y2) z z2) (gT (x,y) (x2,y2)) (fS (bw (x,y) z (x2,y2) z2) (aE (x,y) (x2,y2)))).l,eU (i7 (bw (x,y) z (x2,y2) z2) (dH (x,y) (x2,y2) z z2) (gT (x,y) (x2,y2)) (qE ((-1:Int):Rat)*fS (bw (x,y) z (x2,y2) z2) (aE (x,y) (x2,y2)))).l])) (bO rfl rfl) rfl rfl rfl) ?_;refine gD ?_;refine bK ?_;unfold d6 gq;rw[aq6 f9,aq6 f9,aq6 ik,aq6 mh];rfl
end
section
variable{ts:LL}
abbrev bq(p q:P2 ts):Et ts:=cJ (aT q p) (aT q p)
abbrev bW(p q c:P2 ts):Et ts:=cJ (aT q p) (aT c p)
abbrev iD(p q c:P2 ts):Et ts:=j8 (aT q p) (aT c p)
abbrev aY(p q c:P2 ts)(z:Et ts):Et ts:=bq p q*z-iD p q c*iD p q c
def iw(X:Et ts)(S:Et ts)(k:Et (aW ts (sX X))):Et (aW ts (sX X)):=k*iE (aP X S)
def kM(X:Et ts)(p v:P2 ts)(k:Et (aW ts (sX X))):P2 (aW ts (sX X)):=cW (aP X p.1,aP X p.2) k (aP X v.1,aP X v.2)
abbrev bJ(X:Et ts):Et (aW ts (sX X)):=dE _ (dg ts.length)
def eg(p q c:P2 ts)(z:Et ts):Mt :=
  if ao (bq p q)=0 then⟨[],[]⟩else if ao (aY p q c z)=-1 then⟨ts,[]⟩else if ao (aY p q c z)=0 then⟨ts,[(cW p (bW p q c*iE (bq p q)) (aT q p)).l]⟩
  else⟨aW ts (sX (aY p q c z)),[(kM (aY p q c z) p (aT q p) (iw (aY p q c z) (bq p q) (aP (aY p q c z) (bW p q c)+bJ (aY p q c z)))).l,
    (kM (aY p q c z) p (aT q p) (iw (aY p q c z) (bq p q) (aP (aY p q c z) (bW p q c)-bJ (aY p q c z)))).l]⟩
def gd(p q:P2 ts):Nat:=if ao (bq p q)=0 then 8 else 0
structure LinP(p q c:P2 ts)(z:Et ts):Prop where
  v1:Zu 310000 65000 (aT q p).1 80 81
  v2:Zu 310000 65000 (aT q p).2 80 81
  w1:Zu 310000 65000 (aT c p).1 80 81
  w2:Zu 310000 65000 (aT c p).2 80 81
  zs:Zu 310000 65000 (bq p q) 320 327
  ze:Zu 310000 65000 (bW p q c) 320 327
  zc:Zu 310000 65000 (iD p q c) 320 327
  zX:Zu 310000 65000 (aY p q c z) 963 984
theorem N0{p q c:P2 ts}{z:Et ts}(c0:Cy ts 310000 65000)(h1:Zu 310000 65000 p.1 40 40)(h2:Zu 310000 65000 p.2 40 40)(h3:Zu 310000 65000 q.1 40 40)(h4:Zu 310000 65000 q.2 40 40)(h5:Zu 310000 65000 c.1 40 40)(h6:Zu 310000 65000 c.2 40 40)(h7:Zu 310000 65000 z 3 0):LinP p q c z:=by
 haveI:=c0;haveI:=h1;haveI:=h2;haveI:=h3;haveI:=h4;haveI:=h5;haveI:=h6;haveI:=h7
 haveI v1:=(arf:Zu 310000 65000 (q.1-p.1) 80 81)
 haveI v2:=(arf:Zu 310000 65000 (q.2-p.2) 80 81)
 haveI w1:=(arf:Zu 310000 65000 (c.1-p.1) 80 81)
 haveI w2:=(arf:Zu 310000 65000 (c.2-p.2) 80 81)
 haveI zs:Zu 310000 65000 (bq p q) 320 327:=(arf:Zu 310000 65000 ((q.1-p.1)*(q.1-p.1)+(q.2-p.2)*(q.2-p.2)) _ _)
 haveI ze:Zu 310000 65000 (bW p q c) 320 327:=(arf:Zu 310000 65000 ((q.1-p.1)*(c.1-p.1)+(q.2-p.2)*(c.2-p.2)) _ _)
 haveI zc:Zu 310000 65000 (iD p q c) 320 327:=(arf:Zu 310000 65000 ((q.1-p.1)*(c.2-p.2)-(q.2-p.2)*(c.1-p.1)) _ _)
 exact⟨v1,v2,w1,w2,zs,ze,zc,arf⟩
structure LinQ(p q c:P2 ts):Prop where
  hd:FP 350 [aZ ts,nA (sX (bW p q c)),nA (sX (bq p q))] (.tup [nA (sX (bW p q c*iE (bq p q))),.v .nilIface])
  al:Con prog 435 [.ptr 1000 0,aR (sX p.1) (sX p.2),nA (sX (bW p q c*iE (bq p q))),aR (sX (aT q p).1) (sX (aT q p).2)] [pP 1000 (br ts)] (eU (cW p (bW p q c*iE (bq p q)) (aT q p)).l) [pP 1000 (br ts)]
  n1:Zu 310000 65000 (cW p (bW p q c*iE (bq p q)) (aT q p)).1 2040 2088
  n2:Zu 310000 65000 (cW p (bW p q c*iE (bq p q)) (aT q p)).2 2040 2088
theorem Qq{p q c:P2 ts}{z:Et ts}(c0:Cy ts 310000 65000)(hn:ts.length<=1)(h1:Zu 310000 65000 p.1 40 40)(h2:Zu 310000 65000 p.2 40 40)(P:LinP p q c z)(h0:ao (bq p q)≠0):LinQ p q c:=by
 haveI:=c0;haveI:=h1;haveI:=h2;haveI:=P.v1;haveI:=P.v2;haveI:=P.zs;haveI:=P.ze
 have hd:=vm (ts:=ts) (u:=310000) (k:=65000) (a:=sX (bW p q c)) (b:=sX (bq p q)) (j:=ts.length) P.zs.nm.nl (apu _) hn h0 (by decide);haveI:=hd.2;have m1:=m8 (ts:=ts) (u:=310000) (k:=65000) (a:=sX (bW p q c*iE (bq p q))) (b:=sX (aT q p).1) (by decide);have m2:=m8 (ts:=ts) (u:=310000) (k:=65000) (a:=sX (bW p q c*iE (bq p q))) (b:=sX (aT q p).2) (by decide);have m3:=n8 (ts:=ts) (u:=310000) (k:=65000) (a:=sX p.1) (b:=sX (bW p q c*iE (bq p q)*(aT q p).1)) (by decide);have m4:=n8 (ts:=ts) (u:=310000) (k:=65000) (a:=sX p.2) (b:=sX (bW p q c*iE (bq p q)*(aT q p).2)) (by decide);exact⟨hd.1,xH m1 m2 m3 m4,(arf:Zu 310000 65000 (p.1+bW p q c*iE (bq p q)*(aT q p).1) _ _),(arf:Zu 310000 65000 (p.2+bW p q c*iE (bq p q)*(aT q p).2) _ _)⟩
structure LinS(X:Et ts)(S:Et ts)(p v:P2 ts)(k:Et (aW ts (sX X))):Prop where
  hd:FP 350 [aZ (aW ts (sX X)),nA (sX k),nA (sX S)] (.tup [nA (sX (iw X S k)),.v .nilIface])
  al:Con prog 435 [.ptr 1000 0,aR (sX p.1) (sX p.2),nA (sX (iw X S k)),aR (sX v.1) (sX v.2)] [pP 1000 (br (aW ts (sX X)))] (eU (kM X p v (iw X S k)).l) [pP 1000 (br (aW ts (sX X)))]
  n1:Zu 773000000 1101400000 (kM X p v (iw X S k)).1 9 6
  n2:Zu 773000000 1101400000 (kM X p v (iw X S k)).2 9 6
theorem BL{X S:Et ts}{p v:P2 ts}{k:Et (aW ts (sX X))}(hn:ts.length<=1)(E:ExtP X)(hs:Zu 310000 65000 S 320 327)(h0:ao S≠0)(p1:Zu 310000 65000 p.1 40 40)(p2:Zu 310000 65000 p.2 40 40)(v1:Zu 310000 65000 v.1 80 81)(v2:Zu 310000 65000 v.2 80 81)
  (hk:Zu 773000000 1101400000 k 2 1):LinS X S p v k:=by
 haveI cy:=E.cy;haveI:=hk;haveI zs:=ou (X:=X) hn hs (by decide);haveI zp1:=ou (X:=X) hn p1 (by decide);haveI zp2:=ou (X:=X) hn p2 (by decide);haveI zv1:=ou (X:=X) hn v1 (by decide);haveI zv2:=ou (X:=X) hn v2 (by decide);haveI:=zp1.zu;haveI:=zp2.zu;haveI:=zv1.zu;haveI:=zv2.zu
 have AH:=vm (ts:=aW ts (sX X)) (u:=773000000) (k:=1101400000) (a:=sX k) (b:=sX S) (j:=ts.length) hs.nm.nl (by rw[fp];omega) hn (by rw[tG];exact h0) (by decide);haveI zk:Zu 773000000 1101400000 (iw X S k) 7 4:=AH.2;have m1:=m8 (ts:=aW ts (sX X)) (u:=773000000) (k:=1101400000) (a:=sX (iw X S k)) (b:=sX v.1) (by decide);have m2:=m8 (ts:=aW ts (sX X)) (u:=773000000) (k:=1101400000) (a:=sX (iw X S k)) (b:=sX v.2) (by decide);have m3:=n8 (ts:=aW ts (sX X)) (u:=773000000) (k:=1101400000) (a:=sX p.1) (b:=sX (iw X S k*aP X v.1)) (by decide);have m4:=n8 (ts:=aW ts (sX X)) (u:=773000000) (k:=1101400000) (a:=sX p.2) (b:=sX (iw X S k*aP X v.2)) (by decide);exact⟨AH.1,xH m1 m2 m3 m4,(arf:Zu 773000000 1101400000 (aP X p.1+iw X S k*aP X v.1) 9 6),(arf:Zu 773000000 1101400000 (aP X p.2+iw X S k*aP X v.2) 9 6)⟩
theorem Ig{X:Et ts}{w v w' v' u k:Nat}(h:Zu u k X w v)(hw:w<=w')(hv:v<=v'):Zu u k X w' v':=⟨h.nm.mono (F1 hw hv)⟩
theorem XP{x:Int}(h:cond (cond (gI Value.nilIface) (aa .eql x 0) false) (gI Value.nilIface) false=true):x=0:=by
 cases h9:aa .eql x 0
 ·rw[h9]at h;cases h
 ·exact dL h9
theorem Ti{x:Int}(h:cond (cond (gI Value.nilIface) (aa .eql x 0) false) (gI Value.nilIface) false=false):x≠0:=by
 cases h9:aa .eql x 0
 ·exact eZ h9
 ·rw[h9]at h;cases h
theorem Up{x y:AV}{i:Nat}{Q:AV->Prop}(hi:i<2)(hx:Q x)(hy:Q y):∃z,[x,y][i]?=some z/\Q z:=by
 have h:i=0\/i=1:=by omega
 rcases h with rfl |rfl
 ·exact⟨x,rfl,hx⟩
 ·exact⟨y,rfl,hy⟩
theorem PH{r e:Nat}{a b c d:Et ts}(tw:Tw ts r)(hl:lm ts.length=200000000000)(h1:Nm ts.length e (sX a))(h2:Nm ts.length e (sX b))(h3:Nm ts.length e (sX c))(h4:Nm ts.length e (sX d))(he:e+e+kB r ts.length<=100000000000) :
  FP 102 [aZ ts,aR (sX a) (sX b),aR (sX c) (sX d)] (.tup [nA (sX (a*c+b*d)),.v .nilIface]):=by
 have h:=xr tw h1 h2 h3 h4 (by rw[hl];omega);rw[show af ts.length (sX a)=a from bu _ _,show af ts.length (sX b)=b from bu _ _,show af ts.length (sX c)=c from bu _ _,show af ts.length (sX d)=d from bu _ _]at h;exact h
theorem aby{r e:Nat}{a b c d:Et ts}(tw:Tw ts r)(hl:lm ts.length=200000000000)(h1:Nm ts.length e (sX a))(h2:Nm ts.length e (sX b))(h3:Nm ts.length e (sX c))(h4:Nm ts.length e (sX d))(he:e+e+kB r ts.length<=100000000000) :
  FP 99 [aZ ts,aR (sX a) (sX b),aR (sX c) (sX d)] (.tup [nA (sX (a*d-b*c)),.v .nilIface]):=by
 have h:=Gq tw h1 h2 h3 h4 (by rw[hl];omega);rw[show af ts.length (sX a)=a from bu _ _,show af ts.length (sX b)=b from bu _ _,show af ts.length (sX c)=c from bu _ _,show af ts.length (sX d)=d from bu _ _]at h;exact h
end
section
variable{rs:List (List Rt)}{c:List Rat}{o p q:P2 (llq rs)}{z:Et (llq rs)}
theorem abb(h:TR rs 64990)(hc:bS rs=0)(hn:(llq rs).length<=1)(c0:Ct (llq rs) 310000 65000)(iU:Zu 310000 65000 o.1 40 40)(iJ:Zu 310000 65000 o.2 40 40)(p1:Zu 310000 65000 p.1 40 40)(p2:Zu 310000 65000 p.2 40 40)(q1:Zu 310000 65000 q.1 40 40)(q2:Zu 310000 65000 q.2 40 40)
  [i3:Zl (llq rs) 310000 65000 c z 3 0] (s1:0<=ao z):FP 379 [dU rs,.agg [nA (sX o.1),nA (sX o.2),nA c],eU p.l,eU q.l] (.tup [(eg p q o z).av,bG (gd p q)]):=by
 obtain⟨tw,etw⟩:=d9 h hc;haveI cy:Cy (llq rs) 310000 65000:=⟨c0.ex,by obtain⟨_,h9,_⟩:=c0;exact h9,by obtain⟨_,_,h9,_⟩:=c0;exact h9,by omega⟩
 have dp:=cy.lm;have nF:=wB rs 64990 h;rw[hc]at nF;have P:=N0 cy p1 p2 q1 q2 iU iJ i3.zu;haveI:=iU;haveI:=iJ;haveI:=p1;haveI:=p2;haveI:=q1;haveI:=q2;haveI:=P.v1;haveI:=P.v2;haveI:=P.w1;haveI:=P.w2;haveI:=P.zs;haveI:=P.ze;haveI:=P.zc;haveI:=P.zX
 have hci:=Mp (e:=40*310000+40*65000) h hc iU.nm iJ.nm (i3.nm.mono (by decide)) (by rw[dp];decide)
 have hra:=Pb h hc [(sX o.1,sX o.2,c)] (fun y hy=>by
  rw[am8.1 hy];exact⟨iU.nm.mono (by decide),iJ.nm.mono (by decide),i3.nm.mono (by decide),by show 0<=ao (dE (llq rs) c);rw[show dE (llq rs) c=z from i3.eq];exact s1⟩) (by show 1<=100;omega)
 have a1:=qo (ts:=llq rs) (u:=310000) (k:=65000) (a:=sX q.1) (b:=sX p.1) (by decide);have a2:=qo (ts:=llq rs) (u:=310000) (k:=65000) (a:=sX q.2) (b:=sX p.2) (by decide);have a3:=qo (ts:=llq rs) (u:=310000) (k:=65000) (a:=sX o.1) (b:=sX p.1) (by decide);have a4:=qo (ts:=llq rs) (u:=310000) (k:=65000) (a:=sX o.2) (b:=sX p.2) (by decide);have kT:80*310000+81*65000+(80*310000+81*65000)+kB 64990 (llq rs).length<=100000000000:=by have:=FL hn;omega
 have b1:=PH tw dp P.v1.nm P.v2.nm P.v1.nm P.v2.nm kT;have b2:=PH tw dp P.v1.nm P.v2.nm P.w1.nm P.w2.nm kT;have b3:=aby tw dp P.v1.nm P.v2.nm P.w1.nm P.w2.nm kT;rw[<- etw]at b1 b2 b3;have m1:=wR (ts:=llq rs) (u:=310000) (k:=65000) (a:=sX (bq p q)) (by decide);have m2:=m8 (ts:=llq rs) (u:=310000) (k:=65000) (a:=sX (bq p q)) (b:=c) (by decide);have m3:=m8 (ts:=llq rs) (u:=310000) (k:=65000) (a:=sX (iD p q o)) (b:=sX (iD p q o)) (by decide);haveI zz:=i3.zu;have m4:=qo (ts:=llq rs) (u:=310000) (k:=65000) (a:=sX (bq p q*z)) (b:=sX (iD p q o*iD p q o)) (by decide);have m5:=wR (ts:=llq rs) (u:=310000) (k:=65000) (a:=sX (aY p q o z)) (by decide);have m0:=Con.sA (.cons (.refl _) (.cons (Sub.nil 2 none 0) .nil)) (sI tw []);refine ai func379 ?_;refine gc nF ?_;refine gf ?_;refine gc hci ?_;refine gf ?_;refine ge rfl ?_;refine aS [4,5,6,7,8,39,40] [4,5,6,7,8] (fun(i:Nat)=>[pP 41 (i64 i)]) (fun _=>[]) (fun i=>i<=2) (fun i=>2-i) 0 (apx _) ?_;rintro i hi K1 J1;refine gC (fun t=>?_) (fun t=>?_)
 ·have ae:i<2:=a7 (b:=2) t;obtain⟨zz2,jy,u,v,hu,hv,rfl⟩:=Up (x:=eU p.l) (y:=eU q.l) (Q:=fun w=>∃u v,Nm (llq rs).length (40*310000+40*65000) u/\Nm (llq rs).length (40*310000+40*65000) v/\w=aR u v) ae ⟨_,_,p1.nm,p2.nm,rfl⟩ ⟨_,_,q1.nm,q2.nm,rfl⟩;refine gi jy ?_;refine gc (Ng h hc hu hv (by rw[dp];decide)) ?_;refine gf ?_;refine ga aN ?_;exact aM J1 (i+1) ae
 refine gc hra ?_;refine gf ?_ (18,0);refine gW (Wk.of (sl:=[pP 4 (.ptr 4 0),pP 5 (.ptr 5 0),pP 6 (.ptr 6 0),pP 7 (.ptr 7 0),pP 8 (.ptr 8 0),pP 16 (.ptr 63 0)]) (hp:=[pP 4 (.box [.lst 1 (rs.map nR)]),pP 5 (.box [nA (sX o.1),nA (sX o.2),nA c]),pP 6 (.box [nA (sX p.1),nA (sX p.2)]),pP 7 (.box [nA (sX q.1),nA (sX q.2)]),pP 8 (.box [nS,nS]),pP 63 (br (llq rs))]) a6 (.k (.k (.k (.k (.k (.cons rfl (BlkSub.bL (.cons (.of (rg etw)) (.cons (.refl _) .nil)) rfl) .nil))))))) ?_
 refine gt (a9 (Con.rB 63 rfl rfl rfl rfl a1) (aO rfl rfl rfl) rfl rfl rfl) ?_;refine gt (a9 (Con.rB 63 rfl rfl rfl rfl a2) (aO rfl rfl rfl) rfl rfl rfl) ?_;refine gD ?_;refine gt (a9 (Con.rB 63 rfl rfl rfl rfl a3) (aO rfl rfl rfl) rfl rfl rfl) ?_;refine gt (a9 (Con.rB 63 rfl rfl rfl rfl a4) (aO rfl rfl rfl) rfl rfl rfl) ?_;refine gD ?_;refine gc b1 ?_;refine gt (a9 (Con.rB 63 rfl rfl rfl rfl (tC _ _)) (aO rfl rfl rfl) rfl rfl rfl) ?_;refine gu (gK rfl rfl rfl (fun h=>a9 (Con.rB 63 rfl rfl rfl rfl m1) (.cons (.opt rfl (o1 h)) (.cons (.opt rfl (o1 h)) .nil)) rfl rfl rfl)) ?_;refine gC (fun t=>?_) (fun t=>?_)
 ·have h0:ao (bq p q)=0:=XP t;refine gR ?_;exact fv (by unfold eg gd;rw[aq7 h0,aq7 h0];exact Sub.tup (.cons M9 (.cons (.refl _) .nil)))
 have h0:ao (bq p q)≠0:=Ti t;have Q:=Qq cy hn p1 p2 P h0;refine gc b2 ?_;refine gt (a9 (Con.rB 63 rfl rfl rfl rfl (tC _ _)) (aO rfl rfl rfl) rfl rfl rfl) ?_;refine gc b3 ?_;refine gt (a9 (Con.rB 63 rfl rfl rfl rfl (tC _ _)) (aO rfl rfl rfl) rfl rfl rfl) ?_;refine gt (a9 (Con.rB 63 rfl rfl rfl rfl m2) (aO rfl rfl rfl) rfl rfl rfl) ?_;refine gt (a9 (Con.rB 63 rfl rfl rfl rfl m3) (aO rfl rfl rfl) rfl rfl rfl) ?_;refine gt (a9 (Con.rB 63 rfl rfl rfl rfl m4) (aO rfl rfl rfl) rfl rfl rfl) ?_;refine gt (a9 (Con.rB 63 rfl rfl rfl rfl m5) (bO rfl rfl) rfl rfl rfl) ?_;refine gC (fun t=>?_) (fun t=>?_)
 ·have h1:ao (aY p q o z)=-1:=dL t;refine gt (a9 (Con.rB 63 rfl rfl rfl rfl m0) (.cons (.tmp rfl) (.cons (.const _) .nil)) rfl rfl rfl) ?_;refine bK ?_;unfold eg gd;rw[aq6 h0,aq6 h0,aq7 h1];rfl
 have h1:¬ao (aY p q o z)=-1:=eZ t;refine gC (fun t=>?_) (fun t=>?_)
 ·have h2:ao (aY p q o z)=0:=dL t;refine gt (a9 (Con.rB 63 rfl rfl rfl rfl (zU Q.hd)) (aO rfl rfl rfl) rfl rfl rfl) ?_;refine gt (a9 (Con.rB 63 rfl rfl rfl rfl Q.al) (.cons (.tmp rfl) (.cons (.tmp rfl) (.cons (.tmp rfl) (.cons (.tmp rfl) .nil)))) rfl rfl rfl) ?_;refine gt (a9 (Con.rB 63 rfl rfl rfl rfl (sI tw [eU (cW p (bW p q o*iE (bq p q)) (aT q p)).l])) (bO rfl rfl) rfl rfl rfl) ?_;refine gD ?_;refine bK ?_;unfold eg gd;rw[aq6 h0,aq6 h0,aq6 h1,aq7 h2];rfl
 have h2:¬ao (aY p q o z)=0:=eZ t
 have jR:0<=ao (aY p q o z):=by
  have:=T.sgn_cases (aw (llq rs)) (llq rs).length (aY p q o z);have e:ao (aY p q o z)=T.sgn (aw (llq rs)) (llq rs).length (aY p q o z):=rfl;omega
 have E:ExtP (aY p q o z):=yS tw hn (Ig P.zX oz oz) jR;haveI ce:=E.cy;haveI zr:Zl (aW (llq rs) (sX (aY p q o z))) 773000000 1101400000 (dg (llq rs).length) (dE _ (dg (llq rs).length)) 1 0:=Zl.at (yP oz) (by decide);haveI ze':=ou (X:=aY p q o z) hn P.ze (by decide);haveI:=zr.zu;haveI:=ze'.zu
 have e1:=n8 (ts:=aW (llq rs) (sX (aY p q o z))) (u:=773000000) (k:=1101400000) (a:=sX (bW p q o)) (b:=dg (llq rs).length) (by decide);have e2:=qo (ts:=aW (llq rs) (sX (aY p q o z))) (u:=773000000) (k:=1101400000) (a:=sX (bW p q o)) (b:=dg (llq rs).length) (by decide);have S1:=BL (p:=p) (v:=aT q p) hn E P.zs h0 p1 p2 P.v1 P.v2 (k:=aP (aY p q o z) (bW p q o)+bJ (aY p q o z)) arf;have S2:=BL (p:=p) (v:=aT q p) hn E P.zs h0 p1 p2 P.v1 P.v2 (k:=aP (aY p q o z) (bW p q o)-bJ (aY p q o z)) arf;have kt:=Og (a:=sX (aY p q o z)) tw P.zX.nm (by rw[dp];decide) (by rw[show af (llq rs).length (sX (aY p q o z))=aY p q o z from bu _ _];exact jR);refine gt (aK (Con.rB 63 rfl rfl rfl rfl kt) (bO rfl rfl) aL rfl rfl) ?_;refine gt (a9 (Con.rB 63 rfl rfl rfl rfl e1) (aO rfl rfl rfl) rfl rfl rfl) ?_;refine gt (a9 (Con.rB 63 rfl rfl rfl rfl (zU S1.hd)) (aO rfl rfl rfl) rfl rfl rfl) ?_;refine gt (a9 (Con.rB 63 rfl rfl rfl rfl S1.al) (.cons (.tmp rfl) (.cons (.tmp rfl) (.cons (.tmp rfl) (.cons (.tmp rfl) .nil)))) rfl rfl rfl) ?_;refine gt (a9 (Con.rB 63 rfl rfl rfl rfl e2) (aO rfl rfl rfl) rfl rfl rfl) ?_;refine gt (a9 (Con.rB 63 rfl rfl rfl rfl (zU S2.hd)) (aO rfl rfl rfl) rfl rfl rfl) ?_;refine gt (a9 (Con.rB 63 rfl rfl rfl rfl S2.al) (.cons (.tmp rfl) (.cons (.tmp rfl) (.cons (.tmp rfl) (.cons (.tmp rfl) .nil)))) rfl rfl rfl) ?_;refine gt (a9 (Con.rB 63 rfl rfl rfl rfl (sI E.tw [eU (kM (aY p q o z) p (aT q p) (iw (aY p q o z) (bq p q) (aP (aY p q o z) (bW p q o)+bJ (aY p q o z)))).l,eU (kM (aY p q o z) p (aT q p) (iw (aY p q o z) (bq p q) (aP (aY p q o z) (bW p q o)-bJ (aY p q o z)))).l])) (bO rfl rfl) rfl rfl rfl) ?_;refine gD ?_;refine bK ?_;unfold eg gd;rw[aq6 h0,aq6 h0,aq6 h1,aq6 h2];rfl
end
theorem T.inv_congr{r r':(k:Nat)->T k}:∀(k:Nat),(∀j,j<k->r j=r' j)->∀x,T.inv r k x=T.inv r' k x
 |0,_,x=>rfl
 |k+1,h,x=>by
  have ih:=T.inv_congr k (fun j hj=>h j oz);have hm:=T.mul_congr k (fun j hj=>h j oz);have hs:=T.sgn_congr k (fun j hj=>h j oz)
  have hn:T.norm r k x=T.norm r' k x:=by
   unfold T.norm;rw[h k oz];simp only[hm]
  conv=>lhs;unfold T.inv
  conv=>rhs;unfold T.inv
  simp only[ih,hm,hs,hn]
def lV{n N:Nat}(x:T n):T N:=af N (sh n x)
section
variable{n N:Nat}{r r':(k:Nat)->T k}
theorem nK(x:T n):(lV x:T (n+1))=(x,T.zero n):=by
 unfold lV;rw[jL (gk n x).le,bu]
theorem aam(hN:N=n+1)(h:∀j,j<n->r j=r' j)(x y:T n):(lV (T.mul r n x y):T N)=T.mul r' N (lV x) (lV y):=by
 subst hN;rw[nK,nK,nK,mul_low,T.zero_mul,T.mul_congr n h]
theorem U5(hN:N=n+1)(x y:T n):(lV (T.add n x y):T N)=T.add N (lV x) (lV y):=by
 subst hN;rw[nK,nK,nK];show(T.add n x y,T.zero n)=(T.add n x y,T.add n (T.zero n) (T.zero n));rw[T.zero_add]
theorem X7(hN:N=n+1)(x:T n):(lV (T.neg n x):T N)=T.neg N (lV x):=by
 subst hN;rw[nK,nK];show(T.neg n x,T.zero n)=(T.neg n x,T.neg n (T.zero n));rw[T.neg_zero]
theorem abd(hN:N=n+1)(q:Rat):(lV (T.ofQ n q):T N)=T.ofQ N q:=by
 subst hN;rw[nK];rfl
theorem VN(hN:N=n+1)(h:∀j,j<n->r j=r' j)(x:T n):(lV (T.inv r n x):T N)=T.inv r' N (lV x):=by
 subst hN;rw[nK,nK,T.inv_low,T.inv_congr n h]
end
section
variable{ts:LL}(X:Et ts)
theorem K8{l:List Rat}(j:Nat)(hj:j<ts.length):aw ts j=aw (aW ts l) j:=(BW hj).symm
theorem iy(x y:Et ts):aP X (x*y)=aP X x*aP X y:=aam (fp _ _) K8 x y
theorem vH(x y:Et ts):aP X (x+y)=aP X x+aP X y:=U5 (fp _ _) x y
theorem vR(x:Et ts):aP X (-x)=-aP X x:=X7 (fp _ _) x
theorem rZ(q:Rat):aP X (qE q)=qE q:=abd (fp _ _) q
theorem tX(x:Et ts):aP X (iE x)=iE (aP X x):=VN (fp _ _) K8 x
end
theorem pF{ts:LL}:(qE ((1:Int):Rat):Et ts)=1:=rfl
theorem MK{ts:LL}:(qE ((-1:Int):Rat):Et ts)=-1:=by
 have h:=(T.ofQ_neg ts.length ((1:Nat):Rat))
 rw[show(((-1:Int):Rat))=-((1:Nat):Rat) by rfl];exact h
theorem HS{ts:LL}(d:Et ts):gp d=d+d:=by
 have h:(qE ((2:Int):Rat):Et ts)=1+1:=by
  have h:=T.ofQ_add ts.length ((1:Nat):Rat) ((1:Nat):Rat);rw[show(((2:Int):Rat))=((1:Nat):Rat)+((1:Nat):Rat) by decide +kernel];exact h
 unfold gp;rw[h];grind
theorem Ej{ts:LL}:(qE 0:Et ts)=0:=rfl
section
variable{ts:LL}
theorem Ca(p q:P2 ts)(z z2:Et ts):dH p q z z2=cW p ((qE ((1:Int):Rat)*iE (aE p q+aE p q))*(z+aE p q-z2)) (aT q p):=by
 unfold dH gT cW;rw[HS,pF];refine Prod.ext ?_ ?_
 ·show p.1+(z+aE p q-z2)*iE (aE p q+aE p q)*(q.1-p.1)=p.1+1*iE (aE p q+aE p q)*(z+aE p q-z2)*(q.1-p.1);grind
 ·show p.2+(z+aE p q-z2)*iE (aE p q+aE p q)*(q.2-p.2)=p.2+1*iE (aE p q+aE p q)*(z+aE p q-z2)*(q.2-p.2);grind
def jU(p q:P2 ts):P2 ts:=(qE ((1:Int):Rat)*iE (aE p q+aE p q)*(0-(aT q p).2),qE ((1:Int):Rat)*iE (aE p q+aE p q)*(aT q p).1)
theorem yM(X:Et ts)(f p q:P2 ts):i7 X f (gT p q) (fS X (aE p q))=(aP X f.1+bJ X*aP X (jU p q).1,aP X f.2+bJ X*aP X (jU p q).2):=by
 unfold i7 cW fS jU;rw[HS,MK];refine Prod.ext ?_ ?_
 ·show aP X f.1+bJ X*iE (aP X (aE p q+aE p q))*(-1*aP X (q.2-p.2))=aP X f.1+bJ X*aP X (qE ((1:Int):Rat)*iE (aE p q+aE p q)*(0-(q.2-p.2)));rw[iy,iy,rZ,tX,show(0:Et ts)-(q.2-p.2)=-(q.2-p.2) by grind,vR,pF];grind
 ·show aP X f.2+bJ X*iE (aP X (aE p q+aE p q))*aP X (q.1-p.1)=aP X f.2+bJ X*aP X (qE ((1:Int):Rat)*iE (aE p q+aE p q)*(q.1-p.1));rw[iy,iy,rZ,tX,pF];grind
theorem A7(X:Et ts)(f p q:P2 ts):i7 X f (gT p q) (qE ((-1:Int):Rat)*fS X (aE p q))=(aP X f.1-bJ X*aP X (jU p q).1,aP X f.2-bJ X*aP X (jU p q).2):=by
 have h:=yM X f p q;have h1:=are Prod.fst h;have h2:=are Prod.snd h;unfold i7 cW at h1 h2 ⊢;rw[MK]at h1 h2 ⊢;dsimp only at h1 h2;refine Prod.ext ?_ ?_
 ·dsimp only;grind
 ·dsimp only;grind
def jP(p q:P2 ts):P2 ts:=(qE ((1:Int):Rat)*iE (bq p q)*(aT q p).1,qE ((1:Int):Rat)*iE (bq p q)*(aT q p).2)
theorem AY(X:Et ts)(p q c:P2 ts):kM X p (aT q p) (iw X (bq p q) (aP X (bW p q c)+bJ X)) =
  (aP X (cW p (bW p q c*iE (bq p q)) (aT q p)).1+bJ X*aP X (jP p q).1,aP X (cW p (bW p q c*iE (bq p q)) (aT q p)).2+bJ X*aP X (jP p q).2):=by
 unfold kM iw jP cW;refine Prod.ext ?_ ?_
 ·dsimp only;rw[vH,iy,iy,iy,iy,tX,rZ,pF];grind
 ·dsimp only;rw[vH,iy,iy,iy,iy,tX,rZ,pF];grind
theorem CP(X:Et ts)(p q c:P2 ts):kM X p (aT q p) (iw X (bq p q) (aP X (bW p q c)-bJ X)) =
  (aP X (cW p (bW p q c*iE (bq p q)) (aT q p)).1-bJ X*aP X (jP p q).1,aP X (cW p (bW p q c*iE (bq p q)) (aT q p)).2-bJ X*aP X (jP p q).2):=by
 unfold kM iw jP cW;refine Prod.ext ?_ ?_
 ·dsimp only;rw[vH,iy,iy,iy,iy,tX,rZ,pF];grind
 ·dsimp only;rw[vH,iy,iy,iy,iy,tX,rZ,pF];grind
theorem CB(r:(k:Nat)->T k):∀(n:Nat)(q:Rat),T.inv r n (T.ofQ n q)=T.ofQ n (1/q)
 |0,q=>rfl
 |n+1,q=>by
  show T.inv r (n+1) (T.ofQ n q,T.zero n)=(T.ofQ n (1/q),T.zero n);rw[T.inv_low,CB r n q]
theorem GY:(iE (qE 1):Et ts)=1:=by
 show T.inv (aw ts) ts.length (T.ofQ ts.length 1)=_;rw[CB,show(1:Rat)/1=((1:Nat):Rat) by decide +kernel];rfl
end
open Lean.Grind (CommRing)
section
variable{r:(k:Nat)->T k}
def jb{n:Nat}(x:E r n):E r n:=T.inv r n x
theorem zE{n:Nat}(u:E r n)(h:Sg (E r n) (sg r n)):sg r (n+1) (cc u 0)=sg r n u:=by
 rw[oV,h.zero];unfold T.sgn3;split
 ·rfl
 ·rw[aq7 (.inr rfl)]
theorem ahx{n:Nat}{x y:E r n}(hz:T.isZ n y=true):jb (cc x y:E r (n+1))=cc (jb x) 0:=by
 have e:y=T.zero n:=(T.isZ_iff n y).1 hz;subst e;have h:=T.inv_low r n x;show T.inv r (n+1) (x,T.zero n)=_;rw[h,E.zero_def];rfl
theorem ae6{n:Nat}{x y:E r n}(hz:T.isZ n y=false)(h0:sg r n (a8 x y)=0):jb (cc x y:E r (n+1))=cc (jb (x+x)) 0:=by
 have h:=Rn r (i:=n) (x:=((x,y):T n×T n)) hz h0;show T.inv r (n+1) (x,y)=_;rw[h,E.zero_def];rfl
theorem ai1{n:Nat}{x y:E r n}(hz:T.isZ n y=false)(h0:sg r n (a8 x y)≠0):jb (cc x y:E r (n+1))=cc (x*jb (a8 x y)) (-y*jb (a8 x y)):=by
 have h:=LT r (i:=n) (x:=((x,y):T n×T n)) hz h0;exact h
theorem TT{q:Rat}(hq:ci q≠0):ci ((1:Rat)/q*q+-(((1:Nat):Rat)))=0:=by
 have hq:q≠0:=by
  rintro rfl;exact hq (by decide +kernel)
 have e:(1:Rat)/q*q+-(((1:Nat):Rat))=0:=by
  rw[show(((1:Nat):Rat))=1 from rfl];grind
 rw[e];decide +kernel
theorem Rg(r:(k:Nat)->T k):∀(n:Nat),iz r n->∀x:E r n,sg r n x≠0->sg r n (jb x*x-1)=0
 |0,hp,x,hx=>TT (q:=x) hx
 |n+1,hp,z,hz=>by
  have hp':iz r n:=fun j hj=>hp j oz
  have h:=fZ r n hp';have H:=fZ r (n+1) hp;have ih:=Rg r n hp';obtain⟨x,y,rfl⟩:=nV z;cases Ea:T.isZ n y
  ·by_cases h0:sg r n (a8 x y)=0
   ·rw[ae6 Ea h0];have h2:=Oq h (hp n oz) hz h0;have e1:=ih _ h2
    have c:sg r (n+1) (cc x (-y))=0:=by
     have m:=H.mul (cc x y) (cc x (-y))
     have e:(cc x y:E r (n+1))*cc x (-y)=cc (a8 x y) 0:=by
      rw[o0];unfold a8;congr 1 <;> grind
     rw[e,zE _ h,h0]at m;rcases Int.mul_eq_zero.1 m.symm with g |g
     ·exact ard g hz
     ·exact g
    have e2:cc (jb (x+x)) 0*cc x y-(1:E r (n+1))=-(cc (jb (x+x)) 0*cc x (-y))+cc (jb (x+x)*(x+x)-1) 0:=by
     rw[Bm,show ∀a b:E r (n+1),a-b=a+-b from fun a b=>by grind,o0,o0,yr,yr,uH,uH];congr 1 <;> grind
    rw[e2];have e3:sg r (n+1) (-(cc (jb (x+x)) 0*cc x (-y)))=0:=by rw[H.neg,H.mul,c];simp
    rw[H.zadd e3,zE _ h];exact e1
   ·rw[ai1 Ea h0];have e1:=ih _ h0
    have e2:cc (x*jb (a8 x y)) (-y*jb (a8 x y))*cc x y-(1:E r (n+1))=cc (jb (a8 x y)*a8 x y-1) 0:=by
     rw[Bm,show ∀a b:E r (n+1),a-b=a+-b from fun a b=>by grind,o0,yr,uH];generalize jb (a8 x y)=i;unfold a8;congr 1 <;> grind
    rw[e2,zE _ h];exact e1
  ·rw [ahx Ea];have e:y = 0:=by rw [(T.isZ_iff n y).1 Ea,E.zero_def]
   subst e;rw[zE _ h]at hz;have e1:=ih _ hz
   have e2:cc (jb x) 0*cc x 0-(1:E r (n+1))=cc (jb x*x-1) 0:=by
    rw[Bm,show ∀a b:E r (n+1),a-b=a+-b from fun a b=>by grind,o0,yr,uH];congr 1 <;> grind
   rw[e2,zE _ h];exact e1
end
section
variable{r:(k:Nat)->T k}{n:Nat}
def zS(h:iz r n):Setoid (E r n) where
  r x y:=sg r n (x-y)=0
  iseqv:=by
    have H:=fZ r n h;refine⟨fun x=>?_,fun {x y} e=>?_,fun {x y z} e f=>?_⟩
    · rw[show x-x=0 by grind];exact H.zero
    · rw[show y-x=-(x-y) by grind,H.neg,e];rfl
    · rw[show x-z=(x-y)+(y-z) by grind,H.zadd e];exact f
def Zq(h:iz r n):Type:=Quotient (zS h)
def aj(h:iz r n)(x:E r n):Zq h:=Quotient.mk (zS h) x
theorem o6(h:iz r n){x y:E r n}:aj h x=aj h y↔sg r n (x-y)=0 :=
 ⟨fun e=>Quotient.exact (s:=zS h) e,fun e=>Quotient.sound (s:=zS h) e⟩
instance (h:iz r n):Add (Zq h):=⟨Quotient.lift₂ (fun x y=>aj h (x+y)) (by
  intro a b c d e f;have H:=fZ r n h;refine(o6 h).2 ?_;rw[show a+b-(c+d)=(a-c)+(b-d) by grind,H.zadd (show sg r n (a-c)=0 from e)];exact f)⟩
instance (h:iz r n):Mul (Zq h):=⟨Quotient.lift₂ (fun x y=>aj h (x*y)) (by
  intro a b c d e f;have H:=fZ r n h;refine(o6 h).2 ?_;have e':sg r n (a-c)=0:=e;have f':sg r n (b-d)=0:=f;rw[show a*b-c*d=(a-c)*b+c*(b-d) by grind,H.zadd (by rw[H.mul,e'];simp),H.mul,f'];simp)⟩
instance (h:iz r n):Neg (Zq h):=⟨Quotient.lift (fun x=>aj h (-x)) (by
  intro a c e;have H:=fZ r n h;refine(o6 h).2 ?_;have e':sg r n (a-c)=0:=e;rw[show -a - -c=-(a-c) by grind,H.neg,e'];rfl)⟩
instance (h:iz r n):_root_.Sub (Zq h):=⟨fun x y=>x+-y⟩
instance (h:iz r n)(c:Nat):OfNat (Zq h) c:=⟨aj h (OfNat.ofNat c)⟩
instance (h:iz r n):NatCast (Zq h):=⟨fun c=>aj h (c:E r n)⟩
instance (h:iz r n):IntCast (Zq h):=⟨fun c=>aj h (c:E r n)⟩
instance (h:iz r n):SMul Nat (Zq h):=⟨fun c x=>aj h (c:E r n)*x⟩
instance (h:iz r n):SMul Int (Zq h):=⟨fun c x=>aj h (c:E r n)*x⟩
def Zq.pow{h:iz r n}(x:Zq h):Nat->Zq h
  |0=>aj h 1
  |c+1=>Zq.pow x c*x
instance (h:iz r n):HPow (Zq h) Nat (Zq h):=⟨Zq.pow⟩
variable(h:iz r n)
theorem jG(x y:E r n):aj h (x+y)=aj h x+aj h y:=rfl
theorem co(x y:E r n):aj h (x*y)=aj h x*aj h y:=rfl
theorem Mu(x:E r n):aj h (-x)=-aj h x:=rfl
theorem cz(x y:E r n):aj h (x-y)=aj h x-aj h y:=by
 rw[show x-y=x+-y by grind];rfl
theorem gV(a:Zq h):∃x,a=aj h x:=Quotient.ind (motive:=fun a=>∃x,a=aj h x) (fun x=>⟨x,rfl⟩) a
instance zRing:CommRing (Zq h) where
  add_zero a:=by
    obtain⟨x,rfl⟩:=gV h a;exact are (aj h) (show x+0=x by grind)
  add_comm a b:=by
    obtain⟨x,rfl⟩:=gV h a;obtain⟨y,rfl⟩:=gV h b;exact are (aj h) (show x+y=y+x by grind)
  add_assoc a b c:=by
    obtain⟨x,rfl⟩:=gV h a;obtain⟨y,rfl⟩:=gV h b;obtain⟨z,rfl⟩:=gV h c;exact are (aj h) (show x+y+z=x+(y+z) by grind)
  mul_assoc a b c:=by
    obtain⟨x,rfl⟩:=gV h a;obtain⟨y,rfl⟩:=gV h b;obtain⟨z,rfl⟩:=gV h c;exact are (aj h) (show x*y*z=x*(y*z) by grind)
  mul_one a:=by
    obtain⟨x,rfl⟩:=gV h a;exact are (aj h) (show x*1=x by grind)
  one_mul a:=by
    obtain⟨x,rfl⟩:=gV h a;exact are (aj h) (show 1*x=x by grind)
  left_distrib a b c:=by
    obtain⟨x,rfl⟩:=gV h a;obtain⟨y,rfl⟩:=gV h b;obtain⟨z,rfl⟩:=gV h c;exact are (aj h) (show x*(y+z)=x*y+x*z by grind)
  right_distrib a b c:=by
    obtain⟨x,rfl⟩:=gV h a;obtain⟨y,rfl⟩:=gV h b;obtain⟨z,rfl⟩:=gV h c;exact are (aj h) (show(x+y)*z=x*z+y*z by grind)
  zero_mul a:=by
    obtain⟨x,rfl⟩:=gV h a;exact are (aj h) (show 0*x=0 by grind)
  mul_zero a:=by
    obtain⟨x,rfl⟩:=gV h a;exact are (aj h) (show x*0=0 by grind)
  pow_zero a:=rfl
  pow_succ a c:=rfl
  ofNat_succ c:=are (aj h) (Lean.Grind.Semiring.ofNat_succ (α:=E r n) c)
  ofNat_eq_natCast c:=are (aj h) (Lean.Grind.Semiring.ofNat_eq_natCast (α:=E r n) c)
  nsmul_eq_natCast_mul c a:=rfl
  neg_add_cancel a:=by
    obtain⟨x,rfl⟩:=gV h a;exact are (aj h) (show -x+x=0 by grind)
  sub_eq_add_neg a b:=rfl
  neg_zsmul i a:=by
    obtain⟨x,rfl⟩:=gV h a
    exact are (aj h) (show((-i:Int):E r n)*x=-((i:E r n)*x) by
      rw[Lean.Grind.Ring.intCast_neg];grind)
  zsmul_natCast_eq_nsmul c a:=rfl
  intCast_ofNat c:=are (aj h) (Lean.Grind.Ring.intCast_ofNat (α:=E r n) c)
  intCast_neg i:=are (aj h) (Lean.Grind.Ring.intCast_neg (α:=E r n) i)
  mul_comm a b:=by
    obtain⟨x,rfl⟩:=gV h a;obtain⟨y,rfl⟩:=gV h b;exact are (aj h) (show x*y=y*x by grind)
theorem iO{x:E r n}:aj h x=0↔sg r n x=0:=by
 have e:=o6 h (x:=x) (y:=0);rw[show x-0=x by grind]at e;exact e
theorem Dk{x:E r n}(hx:sg r n x≠0):aj h (jb x)*aj h x=1:=by
 have e:=(o6 h (x:=jb x*x) (y:=1)).2 (Rg r n h x hx);exact e
theorem ac5:aj h (1:E r n)=1:=rfl
end
example {r:(k:Nat)->T k} {n:Nat} (h:iz r n) (a b c:Zq h) (e:a*b=1) (f:c*a=2):c=2*b:=by grind
end Go.Lw
namespace Go.Lw
open Go.Proofs
theorem Uh(o:Option Nat):aa .geq (mF o) 0=o.isSome:=by
 cases o with
 |none=>rfl
 |some i=>exact arb (by show(i:Int)>=0;omega)
theorem WX(bs:List (Rat×Rat))(hl:bs.length<=281474976710656)(f:FuncId)(pre caps:List AV)(ok:Nat->Bool)
  (hf:∀(i:Nat)(b:Rat×Rat),bs[i]?=some b->(∀j,j<i->ok j=true)->FP f (pre++[qP b]++caps) (bl (!ok i))) :
  FP 460 [.lst 6 (bs.map qP),.cl f pre caps] (i64 (mF (dt bs.length ok))):=by
 refine ai func460 ?_;refine gl ?_;refine aS [0,1,7] [] (fun(i:Nat)=>[pP 8 (i64 i)]) (fun _=>[]) (fun i=>i<=bs.length/\∀j,j<i->ok j=true) (fun i=>bs.length-i) 0 ⟨apx _,fun j h=>by omega⟩ ?_;rintro i ⟨hi,hj⟩ K1 J1;refine gC (fun z=>?_) (fun z=>?_)
 ·have ae:=a7 z;obtain⟨b,hb⟩:=ay ae;refine gi (aA hb) ?_;refine gc (hf i b hb hj) ?_;refine gC (fun z=>?_) (fun z=>?_)
  ·have h2:=eI z;refine ah ?_;rw[j7 ae hj h2];rfl
  have h2:=eH z;refine ga aN ?_;exact aM J1 (i+1) ⟨ae,fun j h9=>by rcases apz j i with g |g;exact hj j g;(have:j=i:=by omega);subst this;exact h2⟩
 have ae:=bj hi z;subst ae;refine ah ?_;rw[jm hj];rfl
theorem aen(bs:List (Rat×Rat))(hl:bs.length<=281474976710656)(f:FuncId)(pre caps:List AV)(ok:Nat->Bool)
  (hf:∀(i:Nat)(b:Rat×Rat),bs[i]?=some b->(∀j,j<i->ok j=true)->FP f (pre++[qP b]++caps) (bl (!ok i))) :
  FP 430 [.lst 6 (bs.map qP),.cl f pre caps] (bl (dt bs.length ok).isSome):=by
 refine ai func430 ?_;refine gc (WX bs hl f pre caps ok hf) ?_;refine ah ?_;rw[<- Uh];rfl
theorem WT{v:Rat×Rat}(hv:Sm 3000 v):FP 431 [qP v] (bl (decide (cr v v=0))):=by
 refine ai func431 ?_;refine gc (PW hv hv oz oz) ?_;refine gc (agc ((hv.dot hv).qs oz)) ?_;refine ah ?_;rw[<- Xe];rfl
def fY(vs:List (Rat×Rat)):Bool:=(dt vs.length fun i=>!decide (cr (vs.getD i (0,0)) (vs.getD i (0,0))=0)).isSome
theorem LX(vs:List (Rat×Rat))(hl:vs.length<=281474976710656)(hv:∀v∈vs,Sm 3000 v):FP 376 [.lst 6 (vs.map qP)] (bl (fY vs)):=by
 refine ai func376 ?_;refine gc (Con.sA (.cons (.refl _) (.cons ((Sub.fn0 _).trans (yE rfl)) .nil)) (aen vs hl 431 [] [] (fun i=>!decide (cr (vs.getD i (0,0)) (vs.getD i (0,0))=0)) (fun i b hb _=>by rw[Bool.not_not,ax hb];exact WT (hv b (apo hb))))) ?_;refine ah ?_;rfl
theorem yx{v:Rat×Rat}(h:fY [v]=false):cr v v≠0:=by
 intro h0;have h1:dt 1 (fun i=>!decide (cr ([v].getD i (0,0)) ([v].getD i (0,0))=0))=some 0:=j7 oz (fun j hj=>by omega) (by show(!decide (cr v v=0))=false;rw[h0];rfl);unfold fY at h;rw[show[v].length=1 from rfl,h1]at h;cases h
theorem Ag{v w:Rat×Rat}(h:fY [v,w]=false):cr v v≠0/\cr w w≠0:=by
 unfold fY at h;rw[Option.isSome_eq_false_iff,Option.isNone_iff_eq_none]at h;have h2:=Vt h;have h3:=h2 0 (by show 0<2;omega);have h4:=h2 1 (by show 1<2;omega);have h5:(!decide (cr v v=0))=true:=h3;have h6:(!decide (cr w w=0))=true:=h4;simp only[ao0,decide_eq_false_iff_not]at h5 h6;exact⟨h5,h6⟩
theorem JG(i n:Nat)(hi:i<=100):FP 384 [i64 i,i64 n] (i64 (if n=1 then 0 else 1-2*(i:Int))):=by
 refine ai func384 ?_;refine gC (fun z=>?_) (fun z=>?_)
 ·have h1 : n = 1 := by have := dL z; omega
  refine ah ?_;rw[aq7 h1];rfl
 have h1:¬n=1:=by have:=eZ z;omega
 refine ga (show _=2*(i:Int) by exact GS oz) ?_;refine ga (show _=1-2*(i:Int) by exact fu oz) ?_;refine ah ?_;rw[aq6 h1];rfl
section
variable{ts:LL}
abbrev lQ(u:Rat×Rat):Et ts:=qE (cr u u)
def dM(u:Rat×Rat)(w:P2 ts):Et ts:=(qE u.1*w.1+qE u.2*w.2)*iE (lQ u)
def dz(u:Rat×Rat)(w:P2 ts):Et ts:=(qE u.1*w.2-qE u.2*w.1)*iE (lQ u)
def qN(u:Rat×Rat)(w:P2 ts)(p:Rat×Rat)(o:P2 ts):Et ts:=o.1-(dM u w*qE p.1-dz u w*qE p.2)
def rv(u:Rat×Rat)(w:P2 ts)(p:Rat×Rat)(o:P2 ts):Et ts:=o.2-(dz u w*qE p.1+dM u w*qE p.2)
def gM(u:Rat×Rat)(w:P2 ts)(p:Rat×Rat)(o:P2 ts):Pq:=⟨sX (dM u w),sX (dz u w),sX (qN u w p o),sX (rv u w p o)⟩
theorem CF(ts:LL)(a b:List Rat):Con prog 97 [.ptr 1000 0,aR a b,.v .nilIface] [pP 1000 (br ts)] (aR a b) [pP 1000 (br ts)]:=by
 have h:=ru (ts.map (List.map rt)) a b;rw[Hn]at h;exact h
theorem wt(q:Rat):af ts.length (sh 0 (q:Rat))=(qE q:Et ts):=kl _ q
theorem uw{e:Nat}{q:Rat}(h5:ts.length<=5)(h:Qb e q):Nm ts.length e (sh 0 (q:Rat)):=Nm.ofQ h5 (Cb.one h)
structure BdP(ts:LL)(u:Rat×Rat)(w:P2 ts)(p:Rat×Rat)(o:P2 ts):Prop where
  dot:FP 102 [aZ ts,aR (sh 0 (u.1:Rat)) (sh 0 (u.2:Rat)),aR (sX w.1) (sX w.2)] (.tup [nA (sX (qE u.1*w.1+qE u.2*w.2)),.v .nilIface])
  crs:FP 99 [aZ ts,aR (sh 0 (u.1:Rat)) (sh 0 (u.2:Rat)),aR (sX w.1) (sX w.2)] (.tup [nA (sX (qE u.1*w.2-qE u.2*w.1)),.v .nilIface])
  d1:FP 350 [aZ ts,nA (sX (qE u.1*w.1+qE u.2*w.2)),nA (sh 0 (cr u u:Rat))] (.tup [nA (sX (dM u w)),.v .nilIface])
  d2:FP 350 [aZ ts,nA (sX (qE u.1*w.2-qE u.2*w.1)),nA (sh 0 (cr u u:Rat))] (.tup [nA (sX (dz u w)),.v .nilIface])
  tn:FP 265 [aZ ts,nA (sX (dM u w)),nA (sX (dz u w)),aR (sh 0 (p.1:Rat)) (sh 0 (p.2:Rat))] (.tup [aR (sX (dM u w*qE p.1-dz u w*qE p.2)) (sX (dz u w*qE p.1+dM u w*qE p.2)),.v .nilIface])
  s1:FP 209 [aZ ts,nA (sX o.1),nA (sX (dM u w*qE p.1-dz u w*qE p.2))] (.tup [nA (sX (qN u w p o)),.v .nilIface])
  s2:FP 209 [aZ ts,nA (sX o.2),nA (sX (dz u w*qE p.1+dM u w*qE p.2))] (.tup [nA (sX (rv u w p o)),.v .nilIface])
  ok:Pq.ok ts.length 80000000000 (gM u w p o)
theorem Qx{r W A K F:Nat}{u p:Rat×Rat}{w o:P2 ts}(tw:Tw ts r)(h2:ts.length<=2)(hk:kB r ts.length<=K)(hu:Sm 3000 u)(hp:Sm 3000 p)(h0:cr u u≠0)
  (w1:Nm ts.length W (sX w.1)) (w2:Nm ts.length W (sX w.2)) (a1:Nm ts.length A (sX o.1)) (a2:Nm ts.length A (sX o.2)) (hW:3000<=W) (hF:4*W+10*K+A+100000<=F) (hF2:F<=80000000000):BdP ts u w p o:=by
 have hl:lm ts.length=200000000000:=by unfold lm;rw[aq7 h2]
 have h5:=tw.five;have Eb:=uw (ts:=ts) h5 hu.x;have s6:=uw (ts:=ts) h5 hu.y;have tl:=uw (ts:=ts) h5 hp.x;have ku:=uw (ts:=ts) h5 hp.y;have iK:=uw (ts:=ts) h5 (hu.dot hu);have hkE:eB r ts.length<=K:=hk;have ew:∀x:Et ts,af ts.length (sX x)=x:=fun x=>bu _ _
 have c1:=xr tw (Eb.mono (f:=W) oz) (s6.mono oz) w1 w2 (by rw[hl];omega);have c2:=Gq tw (Eb.mono (f:=W) oz) (s6.mono oz) w1 w2 (by rw[hl];omega);have n1:=EH tw Eb s6 w1 w2;have n2:=HJ tw Eb s6 w1 w2;rw[wt,wt,ew,ew]at c1 c2 n1 n2
 have hs:T.sgn (aw ts) ts.length (af ts.length (sh 0 (cr u u:Rat)))≠0:=by
  rw[kl,T.sgn_ofQ];intro h9;exact h0 (wU h9)
 have nb:Nl 0 (sh 0 (cr u u:Rat)):=gk 0 _;have d1:=Gm tw n1 iK (apx _) nb hs (by rw[hl];omega) (by simp only[iB];omega);have d2:=Gm tw n2 iK (apx _) nb hs (by rw[hl];omega) (by simp only[iB];omega);have m1:=Fj tw n1 iK (apx _) nb hs (by rw[hl];omega) (by simp only[iB];omega);have m2:=Fj tw n2 iK (apx _) nb hs (by rw[hl];omega) (by simp only[iB];omega);have e1:∀x:Et ts,af ts.length (sh ts.length x)=x:=fun x=>bu _ _
 have f1:af ts.length (sh ts.length (ua ts (qE u.1:Et ts) (qE u.2:Et ts) w.1 w.2))=(qE u.1*w.1+qE u.2*w.2:Et ts):=bu _ _;have f2:af ts.length (sh ts.length (sw ts (qE u.1:Et ts) (qE u.2:Et ts) w.1 w.2))=(qE u.1*w.2-qE u.2*w.1:Et ts):=bu _ _;rw[f1,wt]at d1 m1;rw[f2,wt]at d2 m2;have k1:Nm ts.length (2*W+3*K+30000) (sX (dM u w)):=Nm.mono m1 (by simp only[iB];omega);have k2:Nm ts.length (2*W+3*K+30000) (sX (dz u w)):=Nm.mono m2 (by simp only[iB];omega);have c3:=Js tw k1 k2 (tl.mono (f:=(2*W+3*K+30000)) oz) (ku.mono oz) (by rw[hl];omega);have n3:=Bc tw k1 k2 tl ku;have n4:=AU tw k1 k2 tl ku;rw[wt,wt,ew,ew]at c3 n3 n4;have s1:=tR tw a1 n3 (by rw[hl];omega);have s2:=tR tw a2 n4 (by rw[hl];omega);have m3:=a1.sub n3;have m4:=a2.sub n4;have f3:af ts.length (sh ts.length (yV ts (dM u w) (dz u w) (qE p.1:Et ts) (qE p.2:Et ts)))=(dM u w*qE p.1-dz u w*qE p.2:Et ts):=bu _ _;have f4:af ts.length (sh ts.length (zL ts (dM u w) (dz u w) (qE p.1:Et ts) (qE p.2:Et ts)))=(dz u w*qE p.1+dM u w*qE p.2:Et ts):=bu _ _;rw[ew,f3]at s1 m3;rw[ew,f4]at s2 m4;exact⟨c1,c2,d1,d2,c3,s1,s2,k1.mono oz,k2.mono oz,Nm.mono m3 oz,Nm.mono m4 oz⟩
theorem P5{r:Nat}{u p:Rat×Rat}{w o:P2 ts}(tw:Tw ts r)(h2:ts.length<=2)(hk:kB r ts.length<=1101400000)(hu:Sm 3000 u)(hp:Sm 3000 p)(h0:cr u u≠0)
  (w1:Nm ts.length 17000000000 (sX w.1)) (w2:Nm ts.length 17000000000 (sX w.2)) (a1:Nm ts.length 773000000 (sX o.1)) (a2:Nm ts.length 773000000 (sX o.2)):BdP ts u w p o :=
 Qx (F:=80000000000) tw h2 hk hu hp h0 w1 w2 a1 a2 oz oz oz
theorem BV{a b c:List Rat}(h:FP 209 [aZ ts,nA a,nA b] (.tup [nA c,.v .nilIface])):Con prog 100 [.ptr 1000 0,nA a,nA b] [pP 1000 (br ts)] (nA c) [pP 1000 (br ts)]:=by
 refine gF func100 (fun k z h=>bX h) ?_;refine gc h ?_;refine gt (aK (w7 _ _) (aO rfl rfl rfl) aL rfl rfl) ?_;refine gR ?_;exact aD.keep (bB rfl)
theorem GP{u p:Rat×Rat}{w o:P2 ts}(hu:Sm 3000 u)(hp:Sm 3000 p)(B:BdP ts u w p o) :
  Con prog 374 [.ptr 1000 0,qP u,eU w.l,qP p,eU o.l] [pP 1000 (br ts)] (gM u w p o).av [pP 1000 (br ts)]:=by
 refine gF func374 (fun k z h=>bX h) ?_;refine gc (AK (hu.x.qs oz) (hu.y.qs oz)) ?_;refine gc (EG hu oz) ?_;refine gD ?_;refine gc B.dot ?_;refine gt (a9 (w7 _ _) (aO rfl rfl rfl) rfl rfl rfl) ?_;refine gt (a9 (Dm B.d1) (aO rfl rfl rfl) rfl rfl rfl) ?_;refine gc B.crs ?_;refine gt (a9 (w7 _ _) (aO rfl rfl rfl) rfl rfl rfl) ?_;refine gt (a9 (Dm B.d2) (aO rfl rfl rfl) rfl rfl rfl) ?_;refine gD ?_;refine gc (AK (hp.x.qs oz) (hp.y.qs oz)) ?_;refine gc B.tn ?_;refine gt (a9 (CF _ _ _) (aO rfl rfl rfl) rfl rfl rfl) ?_;refine gD ?_;refine gt (a9 (BV B.s1) (aO rfl rfl rfl) rfl rfl rfl) ?_;refine gt (a9 (BV B.s2) (aO rfl rfl rfl) rfl rfl rfl) ?_;refine gD ?_;refine gR ?_;exact aD.keep (bB rfl)
end
structure Sv where
  ts:LL
  ps:List Pq
  mode:Int
abbrev Sv.av(s:Sv):AV:=.agg [.lst 1 (s.ts.map nA),.lst 4 (s.ps.map Pq.av),i64 s.mode]
structure Hd where
  p:Rat×Rat
  a:List Rat×List Rat
  c:Rat×Rat
abbrev Hd.av(h:Hd):AV:=.agg [bl (rt h.p.1).neg,ws (rt h.p.1).num,ws (rt h.p.1).den,bl (rt h.p.2).neg,ws (rt h.p.2).num,ws (rt h.p.2).den,nA h.a.1,nA h.a.2,bl (rt h.c.1).neg,ws (rt h.c.1).num,ws (rt h.c.1).den,bl (rt h.c.2).neg,ws (rt h.c.2).num,ws (rt h.c.2).den]
def kE(ts:LL)(h:Hd)(x:List Rat×List Rat):P2 ts:=(dE ts x.1-dE ts h.a.1,dE ts x.2-dE ts h.a.2)
def mW(ts:LL)(h:Hd):P2 ts:=(dE ts h.a.1,dE ts h.a.2)
def jp(ts:LL)(x:List Rat×List Rat)(h:Hd):Pq:=gM (cf h.c h.p) (kE ts h x) h.p (mW ts h)
structure HdP(ts:LL)(x:List Rat×List Rat)(h:Hd):Prop where
  hp:Sm 1000 h.p
  hc:Sm 1000 h.c
  s1:FP 209 [aZ ts,nA x.1,nA h.a.1] (.tup [nA (sX (kE ts h x).1),.v .nilIface])
  s2:FP 209 [aZ ts,nA x.2,nA h.a.2] (.tup [nA (sX (kE ts h x).2),.v .nilIface])
  e1:sX (dE ts h.a.1)=h.a.1
  e2:sX (dE ts h.a.2)=h.a.2
  b:BdP ts (cf h.c h.p) (kE ts h x) h.p (mW ts h)
theorem HdP.body{ts:LL}{x:List Rat×List Rat}{h:Hd}(H:HdP ts x h) :
  Con prog 374 [.ptr 1000 0,qP (cf h.c h.p),eU (kE ts h x).l,qP h.p,aR h.a.1 h.a.2] [pP 1000 (br ts)] (jp ts x h).av [pP 1000 (br ts)]:=by
 have hb:=GP (Sm.mono (H.hc.sub H.hp) oz) (Sm.mono H.hp oz) H.b
 have e:eU (mW ts h).l=aR h.a.1 h.a.2:=by
  show aR (sX (dE ts h.a.1)) (sX (dE ts h.a.2))=_;rw[H.e1,H.e2]
 rw[e]at hb;exact hb
def kO(m:Mt)(hs:List Hd)(i:Nat):Sv:=⟨m.ts,hs.map (jp m.ts (m.ps.getD i ([],[]))),if m.ps.length=1 then 0 else 1-2*(i:Int)⟩
def l9(m:Mt)(hs:List Hd)(n:Nat):List AV:=(List.range n).map fun i=>(kO m hs i).av
theorem Hi(m:Mt)(hs:List Hd)(n:Nat):(l9 m hs n).length=n:=by simp[l9]
theorem Tz(m:Mt)(hs:List Hd)(n:Nat):l9 m hs (n+1)=l9 m hs n++[(kO m hs n).av]:=by unfold l9;rw[range_succ];simp
theorem Qw{m:Mt}{r:Nat}(tw:Tw m.ts r)(hs:List Hd)(hl:hs.length<=2)(ml:m.ps.length<=2)(H:∀x∈m.ps,∀h∈hs,HdP m.ts x h) :
  FP 378 [m.av,.lst 14 (hs.map Hd.av)] (.tup [.lst 3 (l9 m hs m.ps.length),.v .nilIface]):=by
 refine ai func378 ?_;refine gl ?_;refine gW (Wk.virt 900 3 rfl) ?_;refine aS [1,2,15,16] [2] (fun(i:Nat)=>[pP 6 (.ms 900 3 0 i),pP 17 (i64 i)]) (fun i=>[pP 900 (.row 3 (l9 m hs i))]) (fun i=>i<=m.ps.length) (fun i=>m.ps.length-i) 0 (apx _) ?_;rintro i hi K1 J1;refine gC (fun z=>?_) (fun z=>?_) (st2:=(17,0))
 ·have ae:=a7 z;obtain⟨x,hx⟩:=ay ae;have Je:m.ps.getD i ([],[])=x:=ax hx;have hxm:=apo hx;refine gi (aA hx) ?_;refine gc (Ha tw) ?_;refine gl ?_;refine gc (JG i m.ps.length oz) ?_;refine gD ?_ (7,0);refine gW (Wk.o (sl:=[pP 1 (.lst 14 (hs.map Hd.av)),pP 2 (.ptr 2 0),pP 6 (.ms 900 3 0 i),pP 8 (.ptr 8 0),pP 9 (.ptr 25 0),pP 10 (.ptr 10 0),pP 15 (.lst 2 (m.ps.map eU)),pP 16 (i64 m.ps.length),pP 17 (i64 i)]) (hp:=[pP 2 (.box [.lst 1 (m.ts.map nA),.lst 2 (m.ps.map eU)]),pP 8 (.box [nA x.1,nA x.2]),pP 10 (.box [.lst 1 (m.ts.map nA),nS,i64 (if m.ps.length=1 then 0 else 1-2*(i:Int))]),pP 25 (br m.ts),pP 900 (.row 3 (l9 m hs i))])) ?_
  refine gl ?_;refine gW (Wk.virt 901 4 rfl) ?_;refine aS [1,2,8,9,10,15,16,17,35,36] [2,8,25,900] (fun(k:Nat)=>[pP 6 (.ms 900 3 0 i),pP 37 (i64 k)]) (fun k=>[pP 10 (.box [.lst 1 (m.ts.map nA),.ms 901 4 0 k,i64 (if m.ps.length=1 then 0 else 1-2*(i:Int))]),pP 901 (.row 4 (((hs.take k).map (jp m.ts x)).map Pq.av))]) (fun k=>k<=hs.length) (fun k=>hs.length-k) 0 (apx _) ?_ (h2:=(.cons rfl (BlkSub.bL (.cons (.refl _) (.cons (.nM _ _ _) (.cons (.refl _) .nil))) rfl) (.k .nil)))
  rintro k hk K2 J2;refine gC (fun z=>?_) (fun z=>?_) (st2:=(13,0))
  ·have bp:=a7 z;obtain ⟨h,hh⟩:=ay bp;have Hh:=H x hxm h (apo hh);refine gi (aA hh) ?_;refine gt (a9 (Con.rB 25 rfl rfl rfl rfl (BV Hh.s1)) (aO rfl rfl rfl) rfl rfl rfl) ?_;refine gt (a9 (Con.rB 25 rfl rfl rfl rfl (BV Hh.s2)) (aO rfl rfl rfl) rfl rfl rfl) ?_;refine gD ?_;refine gc (uy Hh.hc Hh.hp oz oz) ?_;refine gt (a9 (Con.rB 25 rfl rfl rfl rfl Hh.body) (.cons (.tmp rfl) (.cons (.tmp rfl) (.cons (.tmp rfl) (.cons (.tmp rfl) (.cons (.tmp rfl) .nil))))) rfl rfl rfl) ?_;refine gs (cF (.tmp rfl) rfl (by rw [apr,apr,ap7]; omega) (.tmp rfl) T45 rfl T55 rfl rfl (by dsimp only; simp only [ap4,ap9]; omega) rfl rfl) ?_;refine gD ?_ (12,0);refine gW (Wk.of (sl:=[pP 1 (.lst 14 (hs.map Hd.av)),pP 2 (.ptr 2 0),pP 6 (.ms 900 3 0 i),pP 8 (.ptr 8 0),pP 9 (.ptr 25 0),pP 10 (.ptr 10 0),pP 15 (.lst 2 (m.ps.map eU)),pP 16 (i64 m.ps.length),pP 17 (i64 i),pP 35 (.lst 14 (hs.map Hd.av)),pP 36 (i64 hs.length),pP 37 (i64 k)]) (hp:=[pP 2 (.box [.lst 1 (m.ts.map nA),.lst 2 (m.ps.map eU)]),pP 8 (.box [nA x.1,nA x.2]),pP 25 (br m.ts),pP 10 (.box [.lst 1 (m.ts.map nA),.ms 71 4 0 (k + 1),i64 (if m.ps.length = 1 then 0 else 1 - 2 * (i:Int))]),pP 900 (.row 3 (l9 m hs i)),pP 71 (.row 4 (((hs.take (k + 1)).map (jp m.ts x)).map Pq.av))]) a6 (.k (.k (.k (.k (.k (.cons rfl (.of (by rw [dJ hh,ap8,ap8]; rfl)) .nil))))))) ?_ (12,0)
   refine gW (Wk.rk (k:=71) (d:=901) rfl rfl) ?_;refine ga aN ?_;exact aM J2 (k+1) bp
  have bp:=bj hk z;subst bp;refine gW ((Wk.freeze (k:=901) rfl).trans<|Wk.of (sl:=[pP 1 (.lst 14 (hs.map Hd.av)),pP 2 (.ptr 2 0),pP 6 (.ms 900 3 0 i),pP 9 (.ptr 25 0),pP 10 (.ptr 10 0),pP 15 (.lst 2 (m.ps.map eU)),pP 16 (i64 m.ps.length),pP 17 (i64 i)]) (hp:=[pP 2 (.box [.lst 1 (m.ts.map nA),.lst 2 (m.ps.map eU)]),pP 25 (br m.ts),pP 10 (.box [.lst 1 (m.ts.map nA),.lst 4 ((hs.map (jp m.ts x)).map Pq.av),i64 (if m.ps.length=1 then 0 else 1-2*(i:Int))]),pP 900 (.row 3 (l9 m hs i))]) a6 (.k (.k (.cons rfl (BlkSub.bL (.cons (.refl _) (.cons (.of (by rw[b8 (by rw[apr,apr,ap7];omega),ap5])) (.cons (.refl _) .nil))) rfl) (.k .nil))))) ?_
  refine gf ?_;refine gs (cF (.tmp rfl) rfl (Hi _ _ _).symm (.tmp rfl) T252 rfl T257 rfl rfl (by dsimp only;simp only[ap4,ap9];omega) rfl rfl) ?_ (16,0);refine gW (Wk.of (sl:=[pP 1 (.lst 14 (hs.map Hd.av)),pP 2 (.ptr 2 0),pP 6 (.ms 86 3 0 (i+1)),pP 15 (.lst 2 (m.ps.map eU)),pP 16 (i64 m.ps.length),pP 17 (i64 i)]) (hp:=[pP 2 (.box [.lst 1 (m.ts.map nA),.lst 2 (m.ps.map eU)]),pP 86 (.row 3 (l9 m hs (i+1)))]) a6 (.k (.cons rfl (.of (by rw[Tz];unfold kO;rw[Je])) .nil))) ?_ (16,0);refine gW (Wk.rk (k:=86) (d:=900) rfl rfl) ?_;refine ga aN ?_;exact aM J1 (i+1) ae
 have ae:=bj hi z;subst ae;refine gW ((Wk.freeze (k:=900) rfl).trans<|Wk.of (sl:=[pP 6 (.lst 3 (l9 m hs m.ps.length))]) (hp:=[]) (.cons rfl (.of (by rw[b8 (Hi _ _ _).symm])) .nil) .nil) ?_;refine bK ?_;rfl
variable{P:arj}{N:Nat}{R:Array Oper}{s:AS}{pos:String}{after:Array Edge}
def vk:arh->Nat
  | .int .i64 _=>1
  | .string _=>2
  |_=>0
def FI(P:arj)(t:ari):Bool:=match P.underlying t with |some .string=>true |_=>false
theorem ajg{t:ari}(h:FI P t=true):P.underlying t=some .string:=by
 unfold FI at h;split at h
 ·assumption
 ·cases h
def EZ (P : arj) (ks : List Nat) (f : Field) : Bool := f.name != "_" && (match ks[f.offset]? with | some 1 => xQ P f.type | some 2 => FI P f.type | _ => false)
def FY(P:arj)(T:ari)(ks:List Nat):Bool:=match P.underlying T with
  |some (.struct fs)=>fs.toList.all (EZ P ks)&&!P.stoodInHeld T&&!P.eqGuardType P.depth T
  |_=>false
theorem Qa{cs:List arh}{ks:List Nat}(hk:cs.map vk=ks)(w:ark):∀{fs:List Field},fs.all (EZ P ks)=true->(Op.eqFields 9999 cs.toArray cs.toArray fs).run P w=.ok true w
 |[],_=>rfl
 |f::fs,h=>by
  rw [all_cons,apw] at h;obtain ⟨h1,h2⟩:=h;have ih:=Qa hk w h2;unfold EZ at h1;rw [apw] at h1;obtain ⟨hn,h1⟩:=h1;have n1 : f.name ≠ "_" := by simpa using hn
  have hc:∀k,ks[f.offset]?=some k->∃v,cs[f.offset]?=some v/\vk v=k:=by
   intro k dj;rw[<- hk,apv,apt]at dj;exact dj
  split at h1
  ·rename_i e;obtain ⟨v,hv,rO⟩:=hc 1 e;have hu:=EY h1;have e0:cs.toArray[f.offset]? = some v:=by simpa using hv
   have e1:(part f.type cs.toArray f.offset).run P w=.ok v w:=by simp[part,isAgg,run_underlying hu,e0]
   have:∃n,v=.int .i64 n:=by unfold vk at rO;split at rO;exact⟨_,rfl⟩;cases rO;cases rO
   obtain⟨n,rfl⟩:=this;have e3:(Op.equalIn 9999 f.type (.int .i64 n) (.int .i64 n)).run P w=.ok (n==n) w:=run_equalIn_int w 9998 f.type .i64 .i64 n n hu;simp only[Op.eqFields,n1,ne_eq,not_false_eq_true,if_true,arm,e1,e3,arl,Sem.run_ite,beq_self_eq_true,aoy,aoz,if_false,ih]
  ·rename_i e;obtain ⟨v,hv,rO⟩:=hc 2 e;have hu:=ajg h1;have e0:cs.toArray[f.offset]? = some v:=by simpa using hv
   have e1:(part f.type cs.toArray f.offset).run P w=.ok v w:=by simp[part,isAgg,run_underlying hu,e0]
   have:∃n,v=.string n:=by unfold vk at rO;split at rO;cases rO;exact⟨_,rfl⟩;cases rO
   obtain⟨n,rfl⟩:=this;have e3:(Op.equalIn 9999 f.type (.string n) (.string n)).run P w=.ok (n.toList==n.toList) w:=run_equalIn_string w 9998 f.type n n hu;simp only[Op.eqFields,n1,ne_eq,not_false_eq_true,if_true,arm,e1,e3,arl,Sem.run_ite,beq_self_eq_true,aoy,aoz,if_false,ih]
  ·cases h1
theorem Ub{T:ari}{cs:List arh}{ks:List Nat}(hk:cs.map vk=ks)(h:FY P T ks=true)(w:ark) :
  (Op.equalIn 10000 T (.agg cs.toArray) (.agg cs.toArray)).run P w=.ok true w/\P.eqGuardType P.depth T=false:=by
 unfold FY at h;split at h
 ·rename_i fs hu;rw [apw,apw] at h;obtain ⟨⟨h,h1⟩,h2⟩:=h;have hF:P.fieldsOf T = fs:=by unfold Program.fieldsOf; rw [hu]
  have hs:P.stoodInHeld T=false:=by simpa using h1
  refine⟨?_,by simpa using h2⟩;rw[run_equalIn_struct w 9999 T _ _ (by rw[hF];exact hu) hs,hF];exact Qa hk w h
 ·cases h
theorem MW{g:Nat->Array arh->Prop}{S:Nat->Nat->Prop}{m:Nat->Option Nat}{u:arh}{cs:List arh}(h:Rep g S m u (.agg (cs.map .v))):u=.agg cs.toArray:=by
 cases h with
 | @agg _ vs _ hn h1 bn =>
  rw[apr]at hn;congr 1;refine Array.ext (by simpa using hn) (fun i hi nC=>?_);have hi3:i<cs.length:=by simpa using nC
  have r:=bn i vs[i] (.v cs[i]) (by simp[hi]) (by simp[hi3]);have r2:∀{y z:arh},Rep g S m y (.v z)->y=z:=fun h=>by cases h;rfl
  rw[r2 r];simp
theorem MA{d:Nat}{x y:arg}{cs:List arh}{ks:List Nat}{S T t:ari}(hx:Ev s x (.agg (cs.map .v)))(hy:Ev s y (.agg (cs.map .v)))
  (hk:cs.map vk=ks) (hS:FY P S ks=true) (hN:aly d N=true) :
  Step P N R s ⟨some d,.binOp .neq S x y T,t,pos,after,none⟩ ⟨some (.v (.bool false)),[],az x++az y,[]⟩ :=
 fj rfl rfl hN fun s' aH C m ac w hr=>⟨.bool false,by
  have h:=MW ((hx.agree aH (fun _ h=>ap2.2 (.inl h))).rep hr);have h':=MW ((hy.agree aH (fun _ h=>ap2.2 (.inr h))).rep hr);obtain⟨r1,r2⟩:=Ub (T:=S) hk hS w;simp only[execOp,h,h',arm,run_eqGuard_agg w .neq S x y _ _ r2,arl,run_neq_struct,r1,arn,aoy],.v _⟩
def Bs(P:arj)(t:ari):Bool:=match P.underlying t with |some (.slice _)=>true |_=>false
theorem Qh{t:ari}(h:Bs P t=true):∃e,P.underlying t=some (.slice e):=by
 unfold Bs at h;split at h
 ·exact⟨_,by assumption⟩
 ·cases h
theorem PT(w:ark)(t e:ari)(a:Option Addr)(l c:Nat)(h:P.underlying t=some (.slice e)):(binOp .eql t (.slice a l c) (.slice none 0 0)).run P w=.ok (.bool a.isNone) w:=by
 simp only[binOp];simp[run_equal_slice_nil w t e a l c h]
theorem CJ{d:Nat}{x:arg}{sz:Nat}{e:AV}{es:List AV}{S T t:ari}(hx:Ev s x (.lst sz (e::es)))(hS:Bs P S=true)(hN:aly d N=true) :
  Step P N R s ⟨some d,.binOp .eql S x (.const (.slice none 0 0)) T,t,pos,after,none⟩ ⟨some (.v (.bool false)),[],az x,[]⟩ :=
 fj rfl rfl hN fun s' aH C m ac w hr=>⟨.bool false,by
  have h:=(hx.agree aH (fun _ h=>h)).rep hr;obtain⟨el,mg⟩:=Qh hS;generalize hu:ac.eval x=y at h
  have hy:∃b l cap,y=.slice (some b) l cap:=by
   cases h with
   |lst u hb hc hl hs h1 hu bn=>exact⟨_,_,_,rfl⟩
  obtain⟨b,l,cap,rfl⟩:=hy;have e1:ac.eval (.const (.slice none 0 0))=.slice none 0 0:=rfl;simp[execOp,hu,e1,eqGuard,PT w S el (some b) l cap mg],.v _⟩
theorem BN{d:Nat}{x:arg}{a:Option Addr}{l cap:Nat}{S T t:ari}(hx:Ev s x (.v (.slice a l cap)))(hS:Bs P S=true)(hN:aly d N=true) :
  Step P N R s ⟨some d,.binOp .eql S x (.const (.slice none 0 0)) T,t,pos,after,none⟩ ⟨some (.v (.bool a.isNone)),[],az x,[]⟩ :=
 fj rfl rfl hN fun s' aH C m ac w hr=>⟨.bool a.isNone,by
  have h:=(hx.agree aH (fun _ h=>h)).rep hr;obtain⟨el,mg⟩:=Qh hS;generalize hu:ac.eval x=y at h;cases h;have e1:ac.eval (.const (.slice none 0 0))=.slice none 0 0:=rfl;simp[execOp,hu,e1,eqGuard,PT w S el a l cap mg],.v _⟩
theorem JP{f:FuncId}{sz:Nat}{r:AV}(h:∀(a:Option Addr)(cap:Nat),kK P f [.v (.slice a 0 cap)] r):kK P f [.lst sz []] r :=
 ⟨(h none 0).ok,fun ext m w vs he hr hn hv=>by
  have kV:vs.size=1:=hn;have h0:=hv 0 vs[0] (.lst sz []) (by simp[kV]) rfl
  have hy:∃a cap,vs[0]=.slice a 0 cap:=by
   generalize vs[0]=y at h0;cases h0 with
   |lst0 a cap=>exact⟨_,_,rfl⟩
   |lst u hb hc hl hs h1 hu bn=>exact⟨_,_,rfl⟩
  obtain⟨a,cap,hy⟩:=hy;refine(h a cap).ret ext m w vs he hr hn (fun j v x jA hx=>?_)
  match j,hx with
  |0,hx =>
   cases hx;have:v=.slice a 0 cap:=by rw[<- hy];have:=Array.getElem?_eq_some_iff.1 jA;exact this.2.symm
   subst this;exact .v _⟩
end Go.Lw
namespace Go.Lw
theorem Con.rekeyB1{P:arj}{f:FuncId}{k off:Nat}{x x':Blk}{y0:AV}{xs:List AV}{r:AV}(d:Nat)(hx:x.nm=[])(hx':x'.nm=[])(IX:y0.nm=[])(pb:(xs.all fun x=>x.nm.isEmpty)=true)(hr:r.nm=[])
  (h:Con P f (y0 :: .ptr k off::xs) [(k,some x)] r [(k,some x')]):Con P f (y0 :: .ptr d off::xs) [(d,some x)] r [(d,some x')]:=by
 refine⟨h.ok,?_⟩;intro ext m w vs hext cQ dW dC
 have h1 := h.ret ext (fun _ => m d) w vs hext (A9 (k := d) hx rfl cQ) (by simpa using dW) (by
  intro j v y hv hy;rw[nQ (d:=k) (k:=d) (y:=x) (x:=x) (m2:=fun _=>m d) (m:=m) rfl]
  match j,hy with
  |0,hy =>
   cases hy;exact ma IX (dC 0 v _ hv rfl)
  |1,hy =>
   cases hy;have h2:=dC 1 v _ hv rfl;cases h2 with
   |ptr hm=>exact .ptr hm
  |j+2,hy =>
   have h2:=dC (j+2) v y hv hy;refine ma ?_ h2;have:=ap3.1 pb y (apo hy);simpa using this)
 refine Calls.mono h1 ?_;rintro e w' ⟨v,m',rfl,hf,hh,hn,hk,bn⟩
 have ho:bh [(k,some x)] (fun _=>m d)=bh [(d,some x)] m:=by
  funext b;apply propext;rw[nT,nT]
 refine⟨v,fun _=>m' k,rfl,ho▸hf,A9 (k:=k) hx' rfl hh,?_,?_,?_⟩
 ·intro k' x b hx hb;rw[<- ho];exact hn k _ b (by rw[a5,aq7 rfl]) hb
 ·intro k' x y hx hy;obtain⟨rfl,_⟩:=i9 hx;exact hk k _ _ (by rw[a5,aq7 rfl]) (by rw[a5,aq7 rfl])
 ·rw[nQ (d:=d) (k:=k) (y:=x') (x:=x') (m2:=fun _=>m' k) (m:=m') rfl];exact ma hr bn
open Go.Proofs
theorem ww{p q:Rat×Rat}(hp:Sm 1000 p)(hq:Sm 1000 q):Qz 310000 (bI p q) 3:=zF (ae1 hp hq) oz
structure MtOk(ts:LL)(m:Mt):Prop where
  tw:∃r,Tw m.ts r/\kB r m.ts.length<=1101400000
  two:m.ts.length<=2
  ln:m.ps.length<=2
  ps:∀x∈m.ps,Nm m.ts.length 15500000000 x.1/\Nm m.ts.length 15500000000 x.2
  up:∀(e:Nat)(y:Et ts),Nm ts.length e (sX y)->Nm m.ts.length e (sX y)/\sX (dE m.ts (sX y))=sX y
theorem FT{ts:LL}(e:Nat)(y:Et ts)(h:Nm ts.length e (sX y)):Nm ts.length e (sX y)/\sX (dE ts (sX y))=sX y:=⟨h,are (sh ts.length) (bu _ _)⟩
theorem BD{ts:LL}{X:Et ts}(hn:ts.length<=1)(e:Nat)(y:Et ts)(h:Nm ts.length e (sX y)):Nm (aW ts (sX X)).length e (sX y)/\sX (dE (aW ts (sX X)) (sX y))=sX y:=by
 refine⟨q8 h oz,?_⟩;show sh (aW ts (sX X)).length (af (aW ts (sX X)).length (sX y))=sX y;rw[fp,jL h.nl.le];show(if T.isZ ts.length (T.zero ts.length)=true then sh ts.length (af ts.length (sX y))else _)=_;rw[aq7 ((T.isZ_iff _ _).2 rfl)];exact are (sh ts.length) (bu _ _)
theorem wb{ts:LL}{ps:List (List Rat×List Rat)}(tw:Tw ts 64990)(hn:ts.length<=1)(hl:ps.length<=2)(hp:∀x∈ps,Nm ts.length 15500000000 x.1/\Nm ts.length 15500000000 x.2):MtOk ts ⟨ts,ps⟩ :=
 ⟨⟨64990,tw,by have:=FL hn;show kB 64990 ts.length<=_;omega⟩,by show ts.length<=2;omega,hl,hp,FT⟩
theorem Rd{ts:LL}{X:Et ts}{ps:List (List Rat×List Rat)}(E:ExtP X)(hn:ts.length<=1)(hl:ps.length<=2)(hp:∀x∈ps,Nm (aW ts (sX X)).length 15500000000 x.1/\Nm (aW ts (sX X)).length 15500000000 x.2):MtOk ts ⟨aW ts (sX X),ps⟩ :=
 ⟨⟨366909990,E.tw,by
  have h:=kR 366909990 (show ts.length+1<=2 by omega);have h2:eB 366909990 2=1100729976:=by decide
  show eB 366909990 (aW ts (sX X)).length<=_;rw[fp];omega⟩,by show(aW ts (sX X)).length<=2;rw[fp];omega,hl,hp,BD hn⟩
theorem wI{ts:LL}{m:Mt}(ok:MtOk ts m){x:List Rat×List Rat}(hx:x∈m.ps){p c:Rat×Rat}{o:P2 ts}(a1:Nm ts.length 773000000 (sX o.1))(a2:Nm ts.length 773000000 (sX o.2))(hp:Sm 1000 p)(hc:Sm 1000 c)
  (h0:cr (cf c p) (cf c p)≠0):HdP m.ts x ⟨p,o.l,c⟩:=by
 obtain⟨r,tw,hk⟩:=ok.tw;obtain⟨n1,n2⟩:=ok.ps x hx;obtain⟨b1,e1⟩:=ok.up _ _ a1;obtain⟨b2,e2⟩:=ok.up _ _ a2;have hl:lm m.ts.length=200000000000:=by unfold lm;rw[aq7 ok.two]
 refine⟨hp,hc,tR tw n1 b1 (by rw[hl];omega),tR tw n2 b2 (by rw[hl];omega),e1,e2,P5 tw ok.two hk ((hc.sub hp).mono oz) (hp.mono oz) h0 ((n1.sub b1).mono oz) ((n2.sub b2).mono oz) ?_ ?_⟩
 ·show Nm m.ts.length 773000000 (sX (dE m.ts (sX o.1)));rw[e1];exact b1
 ·show Nm m.ts.length 773000000 (sX (dE m.ts (sX o.2)));rw[e2];exact b2
theorem qj{α:Type}{P:α->Prop}{x y:α}(hx:P x)(hy:P y):∀z∈[x,y],P z:=by
 intro z hz;rcases aqf.1 hz with rfl |hz
 ·exact hx
 ·rw[am8.1 hz];exact hy
theorem lE{α:Type}{P:α->Prop}{x:α}(hx:P x):∀z∈[x],P z:=by
 intro z hz;rw[am8.1 hz];exact hx
theorem Oo{ts:LL}{x y z x2 y2 z2:Et ts}(tw:Tw ts 64990)(hn:ts.length<=1)(c:Ct ts 310000 65000)(h1:Zu 310000 65000 x 40 40)(h2:Zu 310000 65000 y 40 40)(h3:Zu 310000 65000 z 3 0)(h4:Zu 310000 65000 x2 40 40)(h5:Zu 310000 65000 y2 40 40)(h6:Zu 310000 65000 z2 3 0)
  (h0:gq (x,y) (x2,y2) z z2=0):MtOk ts (d6 (x,y) (x2,y2) z z2):=by
 have P:=Rv c h1 h2 h3 h4 h5 h6;have ce:=c.ex;have ck:=c.k1;have cu:=c.u3;haveI cy:Cy ts 310000 65000:=⟨ce,ck,cu,by omega⟩
 unfold gq at h0;unfold d6
 by_cases hd:ao (aE (x,y) (x2,y2))=0
 ·rw[aq7 hd]at h0 ⊢;unfold pZ at h0;unfold k9
  by_cases hz:ao (z-z2)≠0
  ·rw[aq7 hz];exact wb tw hn (by simp) (by simp)
  ·rw[aq6 hz]
   by_cases hp:0<ao z
   ·rw[aq7 ⟨apn.1 hz,hp⟩]at h0;cases h0
   ·rw[aq6 hp];haveI:=h1;haveI:=h2
    refine wb tw hn (by simp) (lE ⟨?_,?_⟩)
    ·exact(arf:Zu 310000 65000 (x+0*x) _ _).nm.mono (by decide)
    ·exact(arf:Zu 310000 65000 (y+0*y) _ _).nm.mono (by decide)
 ·rw [aq6 hd];have tm:ao (gp (aE (x,y) (x2,y2))) ≠ 0:=by rw [CC tw]; exact hd
  by_cases ik:ao (bw (x,y) z (x2,y2) z2)<0
  ·rw[aq7 ik];exact wb tw hn (by simp) (by simp)
  ·rw[aq6 ik];obtain⟨_,_,f1,f2⟩:=NL hn h1 h2 h3 h6 P tm
   by_cases mh:ao (bw (x,y) z (x2,y2) z2)=0
   ·rw[aq7 mh];exact wb tw hn (by simp) (lE ⟨f1.nm.mono (by decide),f2.nm.mono (by decide)⟩)
   ·rw[aq6 mh];have E:ExtP (bw (x,y) z (x2,y2) z2):=yS tw hn P.zX oz;have S:=O0 (X:=bw (x,y) z (x2,y2) z2) (d:=aE (x,y) (x2,y2)) (f:=dH (x,y) (x2,y2) z z2) (v:=gT (x,y) (x2,y2)) hn E P.zt tm f1 f2 P.z1 P.z2;exact Rd E hn (by simp) (qj ⟨S.n1.1.nm.mono (by decide),S.n1.2.nm.mono (by decide)⟩ ⟨S.n2.1.nm.mono (by decide),S.n2.2.nm.mono (by decide)⟩)
theorem M5{ts:LL}{o p q:P2 ts}{z:Et ts}(tw:Tw ts 64990)(hn:ts.length<=1)(c:Ct ts 310000 65000)(o1:Zu 310000 65000 o.1 40 40)(o2:Zu 310000 65000 o.2 40 40)(p1:Zu 310000 65000 p.1 40 40)(p2:Zu 310000 65000 p.2 40 40)(q1:Zu 310000 65000 q.1 40 40)(q2:Zu 310000 65000 q.2 40 40)
  (i3:Zu 310000 65000 z 3 0) (h0:gd p q=0):MtOk ts (eg p q o z):=by
 have ce:=c.ex;have ck:=c.k1;have cu:=c.u3;haveI cy:Cy ts 310000 65000:=⟨ce,ck,cu,by omega⟩
 have P:=N0 cy p1 p2 q1 q2 o1 o2 i3;unfold gd at h0;unfold eg
 by_cases hs:ao (bq p q)=0
 ·rw[aq7 hs]at h0;cases h0
 ·rw[aq6 hs]
  by_cases h1:ao (aY p q o z)=-1
  ·rw[aq7 h1];exact wb tw hn (by simp) (by simp)
  ·rw[aq6 h1]
   by_cases h2:ao (aY p q o z)=0
   ·rw[aq7 h2];have Q:=Qq cy hn p1 p2 P hs;exact wb tw hn (by simp) (lE ⟨Q.n1.nm.mono (by decide),Q.n2.nm.mono (by decide)⟩)
   ·rw[aq6 h2]
    have jR:0<=ao (aY p q o z):=by
     have:=T.sgn_cases (aw ts) ts.length (aY p q o z);have e:ao (aY p q o z)=T.sgn (aw ts) ts.length (aY p q o z):=rfl;omega
    have E:ExtP (aY p q o z):=yS tw hn (Ig P.zX oz oz) jR;haveI ce:=E.cy;haveI zr:Zl (aW ts (sX (aY p q o z))) 773000000 1101400000 (dg ts.length) (dE _ (dg ts.length)) 1 0:=Zl.at (yP oz) (by decide);haveI ze':=ou (X:=aY p q o z) hn P.ze (by decide);haveI:=zr.zu;haveI:=ze'.zu
    have S1:=BL (p:=p) (v:=aT q p) hn E P.zs hs p1 p2 P.v1 P.v2 (k:=aP (aY p q o z) (bW p q o)+bJ (aY p q o z)) arf;have S2:=BL (p:=p) (v:=aT q p) hn E P.zs hs p1 p2 P.v1 P.v2 (k:=aP (aY p q o z) (bW p q o)-bJ (aY p q o z)) arf;exact Rd E hn (by simp) (qj ⟨S1.n1.nm.mono (by decide),S1.n2.nm.mono (by decide)⟩ ⟨S2.n1.nm.mono (by decide),S2.n2.nm.mono (by decide)⟩)
abbrev vU(r:List AV×Nat):AV:=.tup [.lst 3 r.1,bG r.2]
def nP(l:Li)(a:As)(i k:Int)(j0 j1 j2:Jt):List AV×Nat :=
  if fY [cf (am l j2 i) (am l j0 i),cf (am l j2 k) (am l j1 k)]=true then([],15)
  else if gq (aC l a j0 i) (aC l a j1 k) (qE (bI (am l j2 i) (am l j0 i))) (qE (bI (am l j2 k) (am l j1 k)))≠0 then([],gq (aC l a j0 i) (aC l a j1 k) (qE (bI (am l j2 i) (am l j0 i))) (qE (bI (am l j2 k) (am l j1 k))))
  else(l9 (d6 (aC l a j0 i) (aC l a j1 k) (qE (bI (am l j2 i) (am l j0 i))) (qE (bI (am l j2 k) (am l j1 k)))) [⟨am l j0 i,P2.l (aC l a j0 i),am l j2 i⟩,⟨am l j1 k,P2.l (aC l a j1 k),am l j2 k⟩]
    (d6 (aC l a j0 i) (aC l a j1 k) (qE (bI (am l j2 i) (am l j0 i))) (qE (bI (am l j2 k) (am l j1 k)))).ps.length,0)
theorem Xg{l:Li}{a:As}(D:DyR l a)(hn:(llq a.rs).length<=1){i k z0 z1 z2:Int}{j0 j1 j2:Jt}(hg:GrOk l ⟨1,[i,k],[z0,z1,z2],0⟩)(P:RrrP 3900000 l a ⟨1,[i,k],[z0,z1,z2],0⟩ i k z0 z1 z2 j0 j1 j2) :
  Con prog 280 [.ptr 1000 0] [pP 1000 (c9 l ⟨1,[i,k],[z0,z1,z2],0⟩ a)] (vU (nP l a i k j0 j1 j2)) [pP 1000 (c9 l ⟨1,[i,k],[z0,z1,z2],0⟩ a)]:=by
 haveI c:=D.s.ct D.hc;obtain⟨tw,etw⟩:=d9 D.s.tr D.hc;have gB:=ki D.hl D.li P.h0 P.p0.or;have pz:=ki D.hl D.li P.h1 P.p1.or;have fK:=ki D.hl D.li P.h2 P.t1;have pC:=ki D.hl D.li P.h2 P.t2;obtain⟨y1,y2⟩:=qT D.hl D.li D.al D.s D.hc P.h0 P.p0;obtain⟨y3,y4⟩:=qT D.hl D.li D.al D.s D.hc P.h1 P.p1;haveI:=y1;haveI:=y2;haveI:=y3;haveI:=y4
 haveI q1:=ww fK gB;haveI q2:=ww pC pz;haveI z1:Zu 310000 65000 (qE (bI (am l j2 i) (am l j0 i)):Et (llq a.rs)) 3 0:=arf;haveI z2:Zu 310000 65000 (qE (bI (am l j2 k) (am l j1 k)):Et (llq a.rs)) 3 0:=arf;have hr:=Te (a:=sX (aC l a j0 i).1) (b:=sX (aC l a j0 i).2) (c:=sh 0 (bI (am l j2 i) (am l j0 i):Rat)) (a2:=sX (aC l a j1 k).1) (b2:=sX (aC l a j1 k).2) (c2:=sh 0 (bI (am l j2 k) (am l j1 k):Rat)) D.s.tr D.hc hn rfl rfl (HX _ _) (HX _ _);have Jf:=LX [cf (am l j2 i) (am l j0 i),cf (am l j2 k) (am l j1 k)] (by show 2<=_;omega) (qj ((fK.sub gB).mono oz) ((pC.sub pz).mono oz));refine gF func280 (fun k z h=>bX h) ?_;refine gt (a9 (OG D.hl D.li D.al D.hc D.two hg P.h0 P.h1 P.h2 P.p0 P.p1 P.t1 P.t2) (du rfl) rfl rfl rfl) ?_;refine gf ?_;refine gc (uy fK gB oz oz) ?_;refine gc (uy pC pz oz oz) ?_;refine gc Jf ?_;refine gD ?_;refine gC (fun u=>?_) (fun u=>?_)
 ·have h1:fY [cf (am l j2 i) (am l j0 i),cf (am l j2 k) (am l j1 k)]=true:=u;refine gR ?_;exact(aD.keep (bB rfl)).sub (by unfold nP;rw[aq7 h1];exact Sub.tup (.cons (.nil _ _ _) (.cons (.refl _) .nil)))
 have h1:fY [cf (am l j2 i) (am l j0 i),cf (am l j2 k) (am l j1 k)]=false:=u;obtain⟨w1,w2⟩:=Ag h1;refine gc (Ee gB fK _) ?_;refine gc (Ee pz pC _) ?_;refine gc hr ?_;refine gD ?_;refine gC (fun u=>?_) (fun u=>?_)
 ·have h2:=ef u;refine gR ?_;exact(aD.keep (bB rfl)).sub (by unfold nP;rw[aq6 (by rw[h1];decide),aq7 h2];exact Sub.tup (.cons (.nil _ _ _) (.cons (.refl _) .nil)))
 have h2:=dS u;have ok:=Oo (x:=(aC l a j0 i).1) (y:=(aC l a j0 i).2) (x2:=(aC l a j1 k).1) (y2:=(aC l a j1 k).2) tw hn c y1 y2 z1 y3 y4 z2 h2;obtain⟨r9,tw9,_⟩:=ok.tw
 have qz:=Qw tw9 [⟨am l j0 i,P2.l (aC l a j0 i),am l j2 i⟩,⟨am l j1 k,P2.l (aC l a j1 k),am l j2 k⟩] (apu 2) ok.ln
  (fun x hx=>qj (wI ok hx (y1.nm.mono (by decide)) (y2.nm.mono (by decide)) gB fK w1) (wI ok hx (y3.nm.mono (by decide)) (y4.nm.mono (by decide)) pz pC w2))
 refine gc qz ?_;refine gR ?_;exact(aD.keep (bB rfl)).sub (.of (by unfold nP;rw[aq6 (by rw[h1];decide),aq6 (fun h=>h h2)];rfl))
def oi(l:Li)(a:As)(i:Int)(j0 j:Jt):List AV×Nat :=
  if fY [cf (aX l i j.point) (am l j0 i)]=true then([],15)
  else if gd (bi l a j.b j.on) (bi l a j.b j.to)≠0 then([],gd (bi l a j.b j.on) (bi l a j.b j.to))
  else(l9 (eg (bi l a j.b j.on) (bi l a j.b j.to) (aC l a j0 i) (qE (bI (aX l i j.point) (am l j0 i)))) [⟨am l j0 i,P2.l (aC l a j0 i),aX l i j.point⟩]
    (eg (bi l a j.b j.on) (bi l a j.b j.to) (aC l a j0 i) (qE (bI (aX l i j.point) (am l j0 i)))).ps.length,0)
theorem ZT{l:Li}{a:As}(D:DyR l a)(hn:(llq a.rs).length<=1){i z0 z1:Int}{j0 j:Jt}(hg:GrOk l ⟨2,[i],[z0,z1],0⟩)(P:SlP 3900000 l a ⟨2,[i],[z0,z1],0⟩ 2 i z0 z1 j0 j)(ha:j.a=i)(hb:Pd 3900000 a j.b) :
  Con prog 281 [.ptr 1000 0] [pP 1000 (c9 l ⟨2,[i],[z0,z1],0⟩ a)] (vU (oi l a i j0 j)) [pP 1000 (c9 l ⟨2,[i],[z0,z1],0⟩ a)]:=by
 haveI c:=D.s.ct D.hc;obtain⟨tw,etw⟩:=d9 D.s.tr D.hc;obtain⟨i1,i2,i3,i4,i5⟩:=ee D.li P.h1;have fK:Sm 1000 (aX l i j.point):=by rw[<- ha];exact oa D.hl D.li i1 i3
 have gB:=ki D.hl D.li P.h0 P.p0.or;obtain⟨y1,y2⟩:=qT D.hl D.li D.al D.s D.hc P.h0 P.p0;obtain⟨y3,y4⟩:=sT D.hl D.li D.al D.s D.hc i2 i4 hb;obtain⟨y5,y6⟩:=sT D.hl D.li D.al D.s D.hc i2 (i5 P.hk) hb;haveI q1:=ww fK gB;haveI z1:Zu 310000 65000 (qE (bI (aX l i j.point) (am l j0 i)):Et (llq a.rs)) 3 0:=arf;have hr:=abb (o:=aC l a j0 i) (p:=bi l a j.b j.on) (q:=bi l a j.b j.to) (c:=sh 0 (bI (aX l i j.point) (am l j0 i):Rat)) D.s.tr D.hc hn c y1 y2 y3 y4 y5 y6 (HX _ _);have Jf:=LX [cf (aX l i j.point) (am l j0 i)] (by show 1<=_;omega) (lE ((fK.sub gB).mono oz));refine gF func281 (fun k z h=>bX h) ?_;refine gt (a9 (PY D.hl D.li D.al D.hc D.two hg P.h0 P.h1 P.p0 ha P.hk hb) (du rfl) rfl rfl rfl) ?_;refine gf ?_;refine gc (uy fK gB oz oz) ?_;refine gc Jf ?_;refine gC (fun y=>?_) (fun y=>?_)
 ·have h1:fY [cf (aX l i j.point) (am l j0 i)]=true:=y;refine gR ?_;exact(aD.keep (bB rfl)).sub (by unfold oi;rw[aq7 h1];exact Sub.tup (.cons (.nil _ _ _) (.cons (.refl _) .nil)))
 have h1:fY [cf (aX l i j.point) (am l j0 i)]=false:=y;have w1:=yx h1;refine gc (Ee gB fK _) ?_;refine gc hr ?_;refine gD ?_;refine gC (fun y=>?_) (fun y=>?_)
 ·have h2:=ef y;refine gR ?_;exact(aD.keep (bB rfl)).sub (by unfold oi;rw[aq6 (by rw[h1];decide),aq7 h2];exact Sub.tup (.cons (.nil _ _ _) (.cons (.refl _) .nil)))
 have h2:=dS y;have ok:=M5 (o:=aC l a j0 i) (p:=bi l a j.b j.on) (q:=bi l a j.b j.to) (z:=qE (bI (aX l i j.point) (am l j0 i))) tw hn c y1 y2 y3 y4 y5 y6 z1 h2;obtain⟨r9,tw9,_⟩:=ok.tw;have qz:=Qw tw9 [⟨am l j0 i,P2.l (aC l a j0 i),aX l i j.point⟩] (show 1<=2 by omega) ok.ln (fun x hx=>lE (wI ok hx (y1.nm.mono (by decide)) (y2.nm.mono (by decide)) gB fK w1));refine gc qz ?_;refine gR ?_;exact(aD.keep (bB rfl)).sub (.of (by unfold oi;rw[aq6 (by rw[h1];decide),aq6 (fun h=>h h2)];rfl))
end Go.Lw
