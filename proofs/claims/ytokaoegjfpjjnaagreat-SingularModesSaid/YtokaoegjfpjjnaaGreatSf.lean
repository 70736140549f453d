/- SingularModes: for any linkage and any turns the law returns true and leaves its arguments as they were. No other condition. Part 6 of 8: what the later parts need -/
import Derived.Test.YtokaoegjfpjjnaaGreatSe
import Derived.Laws.Cover3
set_option linter.unusedVariables false
open List (nil_append map_nil map_map)
open List renaming mem_of_getElem? → aap, mem_append → aa2, map_cons → ab2, mem_cons → abd, length_cons → aa4, length_append → abi, length_nil → abg, getD_eq_getElem?_getD → aaq, getElem?_append_left → aa9, all_eq_true → aa3, getElem?_take → abj, getElem?_drop → abv, getElem?_map → aav, getElem?_append_right → aa6, getElem?_eq_getElem → aat, getElem?_replicate → abl, map_append → abf, length_take → abc, take_of_length_le → aa7, drop_zero → ab1, take_length → aa8, not_mem_nil → abb, length_map → aar, length_replicate → abp, map_replicate → abw, map_set → ab0, length_set → ab4, getElem?_eq_some_iff → Y1, mem_range → Y3, cons_append → Y4, drop_eq_getElem_cons → Y5, replicate → Y6, mem_map → Y8, mem_singleton → Za, take_append_drop → Zc, mem_replicate → Zg, contains_iff_mem → Zh, mem_or_eq_of_mem_set → Zo
open Nat renaming eq_of_beq_eq_true → aax, le_refl → aau, lt_of_lt_of_le → aba, lt_or_ge → aay, le_trans → abe, zero_le → aa0, pow_add → abq, blt → X9, zero_add → Yf, mul_comm → Yn, add_zero → Ys, mul_add → Yt, mul_assoc → Yw, blt_eq → YB, mul_le_mul → YC, add_mul → YH, mul_pos → YJ, beq → YQ
open Option renaming map_eq_some_iff → aas, map_some → aam
open Bool renaming and_eq_true → aaw, not_eq_true' → Z2
open Array renaming getD_eq_getD_getElem? → aa1, getElem?_toList → Z5, getElem?_eq_getElem → Z8, getElem?_eq_none → aal
open Int renaming toNat_natCast → abn
open Decidable renaming not_not → aao
open Go renaming Operand → acf, Value → acg, TypeId → ach, Program → aci, World → acj
open Go.Proofs.Tryz
namespace Go.Lw
variable{P:aci}{N:Nat}{R:Array Oper}{s:AS}{pos:String}{after:Array Edge}
theorem Al{d:Nat}{x:acf}{n:Nat}{z:acg}{T E t:ach}{ti te:TI}(hx:Ev s x (.v (.int .i64 n)))
    (hT:aI P T=some ti) (hk:ti.k=.slice E) (hE:aI P E=some te) (hz:te.zero=[z]) (hz1:z.oneCell'=true) (hs:YQ te.size 1=true) (hbb:X9 0 te.bytes=true)
    (hb:(n:Int)*te.bytes<=281474976710656) (hN:X9 d N=true) :
    Step P N R s ⟨some d,.makeSlice T x x,t,pos,after,none⟩
      ⟨some (.ms d 1 0 n),[(d,some (.vec (Y6 n z)))],ax x,[]⟩ :=
  uc rfl rfl hN (by simp) fun s' hag hfr C m a w hr => by
    have hxv:=nK hr (hx.agree hag (fun _ h=>h));have hs:=aax hs;rw[YB]at hbb;obtain⟨d2,h3,h4,-,-⟩:=ez hT w;obtain rfl:=iS (h4.trans hk);obtain⟨zv,h5,h6⟩:=sO hE w;obtain⟨ie,h7,h8,-⟩:=EF hE w;have h6':zv.cells.toList=[z]:=h6.trans hz;have hzc:zv.cells=#[z]:=by rw[<- Array.toArray_toList (xs:=zv.cells),h6']
    have hnb:(n:Int)<=281474976710656:=by
      have:(n:Int)*1<=n*te.bytes:=Int.mul_le_mul_of_nonneg_left oz oz;omega
    have hw1:IntKind.i64.wrap (n:Int)=n:=IntWalk.i64_in n oz;obtain⟨zero,hzero⟩:∃zero:Array acg,zero=(if n*te.size=0 then #[]else zv.cells):=⟨_,rfl⟩
    refine⟨.slice (some ⟨w.heap.size,0,none⟩) n n,(Array.range (n*te.size)).map (zero[· % zero.size]!),E,w.drawn,?_,?_,?_,?_⟩
    · have hmk:(Instr.makeSlice T (.int .i64 n) (.int .i64 n)).run P w =
          .ok (.slice (some ⟨w.heap.size,0,none⟩) n n) { w with heap:=w.heap.push (.cells ((Array.range (n*te.size)).map (zero[· % zero.size]!)) E) }:=by
        have hc:¬(((n:Int)<0\/281474976710656<(ie.bytes:Int)*n)\/(n:Int)<0):=by
          rw[h8,Int.mul_comm];omega
        simp only[Instr.makeSlice,Sem.run_bind,h3,Result.andThen_ok,asInt,asIntOf,Sem.run_pure,h7,hw1];rw[ab5 (by simpa using hc)];simp only[Sem.run_bind,run_askRoom,Result.andThen_ok,gE hE,abn]
        by_cases h0:n*te.size=0
        · rw[ab6 h0]at hzero ⊢
          subst hzero;simp only[Sem.run_bind,Sem.run_pure,Result.andThen_ok,newRow,run_newObj]
        · rw[ab5 h0]at hzero ⊢
          subst hzero;simp only[Sem.run_bind,Sem.run_pure,Result.andThen_ok,h5,newRow,run_newObj]
      simp only[execOp,hxv,Sem.run_bind,hmk,Result.andThen_ok,Sem.run_pure]
    · exact fun h=>h
    · intro g S m' w' hg hS hm hw
      refine .vec hw ?_ (fun v hv=>by rw[List.eq_of_mem_replicate hv];exact hz1);apply List.ext_getElem?;intro j;rw[Z5,abl]
      by_cases hj:j<n
      · have hpos : ¬ n * te.size = 0 := by rw [hs]; omega
        rw[ab5 hpos,hzc]at hzero;subst hzero;rw[ab6 hj];simp only[Array.getElem?_map,Array.getElem?_range,show j<n*te.size by rw[hs];omega,if_true,aam,Option.some.injEq];simp[Nat.mod_one]
      · rw[ab5 hj,aal (by simp[hs];omega)]
    · intro g S m' hm hS
      have:=Rep.ms (g:=g) (S:=S) (m:=m') (k:=d) (sz:=1) (off:=0) (len:=n) (cap:=n) hm (aau _) (by simpa[hs]using hS);simpa using this
theorem yg{x y:acf}{k i:Nat}{vs:List acg}{v:acg}{T t:ach}{ti:TI}
  (hx:Ev s x (.eptr k 1 i 0)) (hk:s.blk k=some (.vec vs)) (hi:i<vs.length) (hy:Ev s y (.v v)) (hv:v.oneCell'=true) (hT:aI P T=some ti) (hsz:YQ ti.size 1=true) :
  Step P N R s ⟨none,.store T x y,t,pos,after,none⟩ ⟨none,[(k,some (.vec (vs.set i v)))],ax x++ax y,[k]⟩ :=
 AM rfl rfl (by simp) hk fun s' hag C m a w hr => by
  have hsz:=aax hsz;obtain⟨b,hm,hxv⟩:=vX hr (hx.agree hag (fun _ h=>aa2.2 (.inl h)));have hyv:=nK hr (hy.agree hag (fun _ h=>aa2.2 (.inr h)));have hb:=hr.heap.blk k _ ((hag.2 k (by simp)).trans hk);rw[hm]at hb;cases hb with
  | @vec _ _ c t2 hw hc h1 =>
   have hcs:c.size=vs.length:=by rw[<- hc];simp
   have hvc:v.cells=#[v]:=by cases v <;> simp_all [Value.cells,Value.oneCell']
   refine⟨b,c,(over c.toList i v.cells.toList).toArray,t2,hm,hw,?_,?_,?_⟩
   ·simp[over,hvc];omega
   ·have hrun := yw (P := P) (off := i) (v := v) hT hw (by rw[hvc,hsz];rfl) oz (by rw[hvc];simpa using hv);simp[execOp,Instr.storeAt,hxv,Instr.sureAddr,hyv,hrun]
   ·intro g S w' hg hS hw';refine .vec hw' ?_ (fun u hu=>?_)
    ·rw[hc,hvc];unfold over;rw[List.set_eq_take_append_cons_drop,ab6 hi];simp
    ·rcases Zo hu with h9 |h9
     ·exact h1 u h9
     ·rw[h9];exact hv
inductive Lent(H:Hp)(hid:List Nat):AV->AV->Prop
  |same {x:AV} (h:x.nm=[]):Lent H hid x x
  |ms {k off len:Nat} {vs:List acg} (hk:lk H k=some (.vec vs)) (hh:k∉hid) (hl:off+len<=vs.length) (hm:vs.length<=bc):Lent H hid (.ms k 1 off len) (.lst 1 (((vs.drop off).take len).map .v))
theorem Hj{g:Nat->Array acg->Prop}{S:Nat->Nat->Prop}{m:Nat->Option Nat}{u y:acg}(h:Rep g S m u (.v y)):u=y:=by cases h;rfl
theorem wH{m:Nat->Option Nat}{b:Nat}:¬bf [] m b:=by rintro⟨k,x,h,_⟩;cases h
def pU(ext:Nat->Prop)(H:Hp)(hid:List Nat)(m:Nat->Option Nat)(b:Nat):Prop:=ext b\/∃k z,k∈hid/\lk H k=some z/\m k=some b
theorem N4{ext:Nat->Prop}{H:Hp}{hid:List Nat}{m m2:Nat->Option Nat}{w:acj}{b:Nat}{cs:Array acg}(h:Im ext H m w b cs):Im (pU ext H hid m) [] m2 w b cs :=
 ⟨fun h'=>h'.elim h.1 (fun⟨k,z,_,hz,hb⟩=>h.2.1 ⟨k,z,hz,hb⟩),wH,h.2.2⟩
theorem Fk{ext:Nat->Prop}{H:Hp}{hid:List Nat}{m:Nat->Option Nat}{w:acj}(hh:HeapRel ext H m w){k b:Nat}{z:Blk}(hk:lk H k=some z)(hb:m k=some b)(hn:k∉hid):¬pU ext H hid m b:=by
 rintro(h |⟨k',z',h1,h2,h3⟩)
 ·exact(hh.sep k z b hk hb).1 h
 ·have:=hh.inj k k' z z' b hk h2 hb h3;subst this;exact hn h1
theorem Lent.rep{ext:Nat->Prop}{H:Hp}{hid:List Nat}{m:Nat->Option Nat}{w:acj}(hh:HeapRel ext H m w){x x':AV}(h:Lent H hid x x') :
  ∀{v:acg},Rep (Im ext H m w) (Sz w) m v x->∀m2:Nat->Option Nat,Rep (Im (pU ext H hid m) [] m w) (Sz w) m2 v x':=by
 cases h with
 |same hn=>intro v hv m2;exact(iW hn hv).mono (fun _ _ h=>N4 h) (fun _ _ h=>h) (fun _ _ _ h=>h)
 | @ms k off len vs hk hnh hl hm =>
  intro v hr m2;have hb:=hh.blk k _ hk;cases hr with
  |ms0 a=>simp only[List.take_zero];exact .lst0 _ _ _
  | @ms _ _ _ _ _ cap b hmk hc hS =>
   rw[hmk]at hb;cases hb with
   | @vec _ _ c t hw hcv h1 =>
    have hcs:c.size=vs.length:=by rw[<- hcv];simp
    have hlen:(((vs.drop off).take len).map AV.v).length=len:=by rw[aar,abc,List.length_drop];omega
    have he':∀(i:Nat)(e:AV),(((vs.drop off).take len).map AV.v)[i]?=some e->∃u,e=.v u/\c[off+i]?=some u/\u∈vs:=by
     intro i e he;rw[aav,aas]at he;obtain⟨u,he,rfl⟩:=he;rw[abj]at he;split at he
     ·rw[abv]at he;exact⟨u,rfl,by rw[<- Z5,hcv];exact he,aap he⟩
     ·cases he
    have:=Rep.lst (g:=Im (pU ext H hid m) [] m w) (S:=Sz w) (m:=m2) (b:=b) (off:=off) (cap:=cap) (sz:=1) (es:=((vs.drop off).take len).map AV.v) (cs:=c) (fun i j=>c.getD (off+i) undef)
     ⟨Fk hh hk hmk hnh,wH,t,(0,0),hw⟩ oz oz ?_ ?_ ?_ ?_
    ·rw[hlen]at this;simpa using this
    ·intro i e he;obtain⟨u,rfl,_⟩:=he' i e he;rfl
    ·intro i j e x he hx;obtain⟨u,rfl,_,hm⟩:=he' i e he;cases j with
     |zero=>cases hx;exact h1 u hm
     |succ j=>cases hx
    ·intro i j e x he hx;obtain⟨u,rfl,hu,_⟩:=he' i e he;cases j with
     |zero=>rw[Nat.mul_one,Ys,aa1,hu];rfl
     |succ j=>cases hx
    ·intro i j e x he hx;obtain⟨u,rfl,hu,_⟩:=he' i e he;cases j with
     |zero=>cases hx;rw[aa1,hu];exact .v _
     |succ j=>cases hx
def FE:AV->Bool
  | .v (.int _ _)=>true
  |_=>false
def Kw:AV->Bool
  | .v (.int _ _)=>false
  | .v _=>true
  | .lst _ _=>true
  | .ms _ _ _ _=>true
  |_=>false
mutual
def AV.li:AV->Bool
  | .v _=>true
  | .agg cs=>AV.lis cs
  | .tup cs=>AV.lis cs
  | .lst sz es=>YQ sz 1&&es.all FE
  |_=>false
def AV.lis:List AV->Bool
  |[]=>true
  |x::l=>x.li&&AV.lis l
end
theorem AV.lis_mem:∀{l:List AV}{c:AV},AV.lis l=true->c∈l->c.li=true
 |x::l,c,h,hc=>by
  simp only[AV.lis,aaw]at h;rcases abd.1 hc with rfl |hc
  ·exact h.1
  ·exact AV.lis_mem h.2 hc
theorem UQ{g:Nat->Array acg->Prop}{S:Nat->Nat->Prop}{m:Nat->Option Nat}{u:acg}{x:AV}(hx:Kw x=true)(h:Rep g S m u x)(kk:IntKind)(z:Int):u≠.int kk z:=by
 rintro rfl;cases h <;> cases hx
theorem Vv{g g':Nat->Array acg->Prop}{S S':Nat->Nat->Prop}{m m':Nat->Option Nat}{v:acg}{x:AV}(hx:x.li=true)
  (hg:∀b cs (o:Nat)(kk:IntKind)(z:Int),cs[o]?=some (.int kk z)->g b cs->g' b cs) (h:Rep g S m v x):Rep g' S' m' v x:=by
 induction h with
 |v=>exact .v _
 |agg hn h1 hr ih=>exact .agg hn h1 (fun j u c hu hc=>ih j u c hu hc (AV.lis_mem hx (aap hc)))
 |tup hn hr ih=>exact .tup hn (fun j u c hu hc=>ih j u c hu hc (AV.lis_mem hx (aap hc)))
 |lst0 a cap sz=>exact .lst0 _ _ _
 | @lst _ b off cap sz es cs u hb hc hl hs h1 hu hr _ =>
  simp only[AV.li,aaw]at hx;have hsz:=aax hx.1;subst hsz
  match es,hx,hc,hl,hs,h1,hu,hr with
  |[],_,_,_,_,_,_,_=>exact .lst0 _ _ _
  |e::es,hx,hc,hl,hs,h1,hu,hr =>
   have hcell:∀(i j:Nat)(e' c:AV),(e::es)[i]?=some e'->e'.cells[j]?=some c->∃kk z,c=.v (.int kk z):=by
    intro i j e' c he hc';have h9:=aa3.1 hx.2 e' (aap he);cases e' with
    |v y=>cases y with
     |int kk z =>
      cases j with
      |zero=>cases hc';exact⟨_,_,rfl⟩
      |succ j=>cases hc'
     |_=>cases h9
    |_=>cases h9
   have he0:∃kk z,e=.v (.int kk z):=by
    have h9:=aa3.1 hx.2 e (by simp);cases e with
    |v y=>cases y with
     |int kk z=>exact⟨_,_,rfl⟩
     |_=>cases h9
    |_=>cases h9
   obtain⟨kk,z,rfl⟩:=he0;have h8:=hu 0 0 _ _ rfl rfl;have h7:=hr 0 0 _ _ rfl rfl;have h6:u 0 0=.int kk z:=Hj h7;rw[h6]at h8;refine .lst u (hg b cs _ kk z h8 hb) hc hl hs h1 hu (fun i j e' c he hc'=>?_);obtain⟨k2,z2,rfl⟩:=hcell i j e' c he hc';rw[Hj (hr i j _ _ he hc')];exact .v _
 |_=>cases hx
theorem Con.lend{f:FuncId}{k:Nat}{cs:List AV}{cs':acg->List AV}{H:Hp}{r:AV}(hid:List Nat)(j0:Nat)(hk:lk H k=some (.box cs))(hkh:k∉hid)
  (hc:∀v:acg,v.oneCell'=true->(cs' v).length=cs.length/\(∀(j:Nat)(x:AV),(cs' v)[j]?=some x->x.one=true) /\
   ∀(j:Nat)(x x':AV),cs[j]?=some x->(cs' v)[j]?=some x'->(j=j0/\x'=.v v)\/Lent H hid x x')
  (hj:j0<cs.length)
  (hH:∀k z,lk H k=some z->k∈hid\/(∃cs,z=.box cs/\cs.all Kw=true)\/∃vs,z=.vec vs/\∀v∈vs,∀kk z,v≠.int kk z) (hr:r.li=true) (h:∀v:acg,jc P f [.iptr (cs' v)] r):Con P f [.ptr k 0] H r H:=by
 refine⟨(h undef).ok,?_⟩;intro ext m w vs hext hheap hvs hrep;have hsz:0<vs.size:=by rw[hvs];exact Nat.one_pos
 have hr0:=hrep 0 vs[0] _ (Z8 hsz) rfl;have hb:=hheap.blk k _ hk;generalize hv0:vs[0]=v0 at hr0;cases hr0 with
 | @ptr _ _ _ b hmk =>
  rw[hmk]at hb;cases hb with
  | @box _ _ c t hw hn h1 hrr =>
   have hj0:j0<c.size:=by omega
   have hx0:=aat (l:=cs) (i:=j0) oz;have hone:(c[j0]).oneCell'=true:=(hrr j0 _ _ (Z8 hj0) hx0).one (h1 j0 _ hx0);obtain⟨g1,g2,g3⟩:=hc c[j0] hone
   have hext':∀b,pU ext H hid m b->b<w.heap.size:=by
    rintro b (h9 |⟨k',z',_,h2,h3⟩)
    ·exact hext b h9
    ·exact(hheap.sep k' z' b h2 h3).2
   have hcall := (h c[j0]).ret (pU ext H hid m) m w vs hext' ⟨fun k z hz => by (cases hz), fun k k' x x' b hx => by (cases hx), fun k x b hx => by (cases hx)⟩ (by rw [hvs]; rfl) (by
    intro j v x hv hx
    match j,hx with
    |0,hx =>
     cases hx;rw[Z8 hsz,hv0]at hv;cases hv;refine .iptr (cs:=c) (fun j=>c.getD j undef) ⟨Fk hheap hk hmk hkh,wH,t,(0,0),hw⟩ g2 ?_ ?_
     ·intro j x hx;have hlt:j < c.size:=by rw [hn,<- g1]; exact (Y1.1 hx).1
      rw[Yf,aa1,Z8 hlt];rfl
     ·intro j x hx;have hlt:j < c.size:=by rw [hn,<- g1]; exact (Y1.1 hx).1
      obtain⟨y,hy⟩:=ji g1 hx;have hcv:c[j]?=some (c.getD j undef):=by rw[aa1,Z8 hlt];rfl
      rcases g3 j y x hy hx with⟨rfl,rfl⟩ |hl
      ·have : c.getD j undef = c[j] := by rw [Z8 hlt] at hcv; exact (Option.some.inj hcv).symm
       rw[this];exact .v _
      ·exact hl.rep hheap (hrr j _ y hcv hy) dA)
   refine Calls.mono hcall ?_;rintro e w' ⟨v,m',rfl,hf,hh,hnew,hkeep,hres⟩;have hkeepB:∀b,b<w.heap.size->w'.heap[b]?=w.heap[b]? := fun b hb=>hf.keep b hb wH
   have hframe:Frame (bf H m) w w':=⟨hf.os,hf.tape,hf.output,hf.size,hf.sz,fun b hb _=>hkeepB b hb⟩
   have him:=fm (ext:=ext) hframe (hp':=H) (m':=m) (fun k x b hk hb=>.inl ⟨k,x,hk,hb⟩);refine⟨v,m,rfl,hframe,⟨?_,hheap.inj,?_⟩,fun k x b hk hb=>.inl ⟨k,x,hk,hb⟩,fun _ _ _ _ _=>rfl,?_⟩
   ·intro k z hz;exact BlkRep.mono (w:=w) him hf.sz (fun _ _ _ h=>h) rfl (fun b hb=>hkeepB b (hheap.sep k z b hz hb).2) (hheap.blk k z hz)
   ·intro k z b hz hb;have:=hheap.sep k z b hz hb;exact⟨this.1,aba this.2 hf.size⟩
   ·refine Vv hr ?_ hres;rintro b2 cs2 o kk z ho ⟨g1,g2,t2,fl,g3⟩;refine⟨fun h9=>g1 (.inl h9),?_,t2,fl,g3⟩;rintro⟨k2,y,hk2,hb2⟩;have hlt:=fun b hb=>(hheap.sep k2 _ b hk2 hb).2
    have h3:=hheap.blk k2 _ hk2;rw[hb2]at h3;rcases hH k2 y hk2 with h9 |⟨cl,rfl,hcl⟩ |⟨vs2,rfl,hvl⟩
    ·exact g1 (.inr ⟨k2,y,h9,hk2,hb2⟩)
    ·cases h3 with
     | @box _ _ c2 t' hw2 hn2 h12 hrr2 =>
      have hcc:c2=cs2:=by
       rw[hkeepB b2 (hlt b2 hb2),hw2]at g3
       injection g3 with g3
       injection g3
      subst hcc;have ho':o<c2.size:=(Array.getElem?_eq_some_iff.1 ho).1;have hx:=aat (l:=cl) (i:=o) oz;exact UQ (aa3.1 hcl _ (aap hx)) (hrr2 o _ _ ho hx) kk z rfl
    ·cases h3 with
     | @vec _ _ c2 t' hw2 hc2 h12 =>
      have hcc:c2=cs2:=by
       rw[hkeepB b2 (hlt b2 hb2),hw2]at g3
       injection g3 with g3
       injection g3
      subst hcc;have:Value.int kk z∈vs2:=by rw[<- hc2];exact Array.mem_toList_iff.2 (Array.mem_of_getElem? ho)
      exact hvl _ this kk z rfl
end Go.Lw
namespace Go.Lw
open Go.Proofs
def bv(xs:List Bool):List acg:=xs.map .bool
theorem gO(xs:List Bool):(bv xs).length=xs.length:=aar _
theorem vN(xs:List Bool)(n:Nat):(bv xs).set n (.bool true)=bv (xs.set n true):=by unfold bv;rw[ab0]
theorem yx(xs:List Bool):∀v∈bv xs,∀kk z,v≠.int kk z:=by
 intro v hv kk z;obtain⟨b,_,rfl⟩:=Y8.1 hv;exact fun h=>by cases h
theorem yh(xs:List Bool):(bv xs).map AV.v=xs.map bl:=by unfold bv;rw[map_map];rfl
theorem Bw(n:Nat):Y6 n (Value.bool false)=bv (Y6 n false):=by unfold bv;rw[abw]
theorem Vs(xs:List Int):(xs.map i64).all FE=true:=by
 rw[aa3];intro x hx;obtain⟨b,_,rfl⟩:=Y8.1 hx;rfl
theorem PC(g:Gr)(b:Bool):(AV.tup [g.av,bl b]).li=true:=by
 simp only[AV.li,AV.lis,Gr.av,Vs];rfl
def o9(l:Li)(n:Nat):Blk:=.box (l.av.cells++[.ms 23 1 0 l.bo.length,.ms 27 1 0 l.bo.length,.ms 31 1 0 l.jo.length,.ms 900 4 0 n])
def nZ(l:Li)(kw used:List Bool)(out:List Gr):Hp :=
  [pP 33 (o9 l out.length),pP 23 (.vec (bv kw)),pP 27 (.vec (bv (cq l))),pP 31 (.vec (bv used)),pP 900 (.row 4 (out.map Gr.av))]
theorem AJ{xs:List Bool}{n:Nat}(h:xs.length=n):AV.lst 1 ((((bv xs).drop 0).take n).map .v)=.lst 1 (xs.map bl):=by
 rw[ab1,aa7 (by rw[gO];omega),yh]
theorem KV(l:Li)(hl:l.ok)(hli:aN l=0)(kw used:List Bool)(hk:kw.length=l.bo.length)(hu:used.length=l.jo.length)(hm:l.bo.length<=bc/\l.jo.length<=bc)(out:List Gr) :
  Con prog 344 [.ptr 33 0] (nZ l kw used out) (.tup [((nextG l kw).getD default).av,bl (nextG l kw).isSome]) (nZ l kw used out):=by
 refine Con.lend (cs:=l.av.cells++[.ms 23 1 0 l.bo.length,.ms 27 1 0 l.bo.length,.ms 31 1 0 l.jo.length,.ms 900 4 0 out.length])
  (cs':=fun v=>dZ l kw (cq l) [.lst 1 (used.map bl),.v v]) [900] 7 rfl (by decide) ?_ (by simp[Li.av,AV.cells]) ?_ (PC _ _) (fun v=>Xl l hl hli kw hk _)
 ·intro v hv;refine⟨rfl,?_,?_⟩
  ·intro j x hx
   match j,hx with
   |0,hx=>cases hx;rfl
   |1,hx=>cases hx;rfl
   |2,hx=>cases hx;rfl
   |3,hx=>cases hx;rfl
   |4,hx=>cases hx;rfl
   |5,hx=>cases hx;rfl
   |6,hx=>cases hx;rfl
   |7,hx=>cases hx;exact hv
   |j+8,hx=>cases hx
  ·intro j x x' hx hx'
   match j,hx,hx' with
   |0,hx,hx'=>cases hx;cases hx';exact .inr (.same rfl)
   |1,hx,hx'=>cases hx;cases hx';exact .inr (.same rfl)
   |2,hx,hx'=>cases hx;cases hx';exact .inr (.same rfl)
   |3,hx,hx'=>cases hx;cases hx';exact .inr (.same rfl)
   |4,hx,hx' =>
    cases hx;cases hx'
    have h:=Lent.ms (H:=nZ l kw used out) (hid:=[900]) (k:=23) (off:=0) (len:=l.bo.length) (vs:=bv kw) rfl (by decide) (by rw[gO];omega) (by rw[gO];omega);rw[AJ hk]at h;exact .inr h
   |5,hx,hx' =>
    cases hx;cases hx'
    have h:=Lent.ms (H:=nZ l kw used out) (hid:=[900]) (k:=27) (off:=0) (len:=l.bo.length) (vs:=bv (cq l)) rfl (by decide) (by rw[gO,td];omega) (by rw[gO,td];omega);rw[AJ (td l)]at h;exact .inr h
   |6,hx,hx' =>
    cases hx;cases hx'
    have h:=Lent.ms (H:=nZ l kw used out) (hid:=[900]) (k:=31) (off:=0) (len:=l.jo.length) (vs:=bv used) rfl (by decide) (by rw[gO];omega) (by rw[gO];omega);rw[AJ hu]at h;exact .inr h
   |7,hx,hx'=>cases hx;cases hx';exact .inl ⟨rfl,rfl⟩
   |j+8,hx,hx'=>cases hx
 ·intro k z hz;simp only[nZ,aY]at hz;split at hz
  ·cases hz;exact .inr (.inl ⟨_,rfl,rfl⟩)
  split at hz
  ·cases hz;exact .inr (.inr ⟨_,rfl,yx _⟩)
  split at hz
  ·cases hz;exact .inr (.inr ⟨_,rfl,yx _⟩)
  split at hz
  ·cases hz;exact .inr (.inr ⟨_,rfl,yx _⟩)
  split at hz
  ·subst_vars;exact .inl (by decide)
  ·cases hz
def rg(l:Li):AV:=if aN l=0 then .iptr (dZ l (bZ l) (cq l) [.lst 1 ((ee l).map bl),.lst 4 ((findG l).map Gr.av)])else .v (.pointer none)
def jS(l:Li)(out:List Gr):List Bool:=out.foldl (fun k g=>bJ k g.jo) (Y6 l.jo.length false)
theorem BZ(l:Li)(out:List Gr):(jS l out).length=l.jo.length:=by unfold jS;rw[qQ,abp]
theorem MN(l:Li)(out:List Gr)(g:Gr):jS l (out++[g])=bJ (jS l out) g.jo:=by unfold jS;rw[List.foldl_append];rfl
theorem CM{k:List Bool}{bs:List Int}{i:Nat}{b:Int}(h:bs[i]?=some b):bJ k (bs.take (i+1))=(bJ k (bs.take i)).set b.toNat true:=by
 unfold bJ;rw[dK h,List.foldl_append];rfl
theorem ND{l:Li}(hli:aN l=0){kw:List Bool}{out:List Gr}{g:Gr}(hk:kw.length=l.bo.length)(h:findFrom l (dV kw) kw out=(bZ l,findG l))(hg:nextG l kw=some g) :
  findFrom l (dV (bJ kw g.bo)) (bJ kw g.bo) (out++[g])=(bZ l,findG l):=by
 have hlt:=tq hli hk hg;obtain⟨n,hn⟩:∃n,dV kw=n+1:=⟨dV kw-1,by omega⟩
 rw[hn]at h;unfold findFrom at h;rw[hg]at h;rw[<- h];exact yp hli _ _ _ _ (by rw[jA];exact hk) (aau _) oz
theorem MG{l:Li}{kw:List Bool}{out:List Gr}(h:findFrom l (dV kw) kw out=(bZ l,findG l))(hg:nextG l kw=none):kw=bZ l/\out=findG l:=by
 cases hn:dV kw with
 |zero=>rw[hn]at h;exact⟨(Prod.mk.inj h).1,(Prod.mk.inj h).2⟩
 |succ n=>rw[hn]at h;unfold findFrom at h;rw[hg]at h;exact⟨(Prod.mk.inj h).1,(Prod.mk.inj h).2⟩
theorem XK{n:Nat}:dV (cV n 0)<=n:=by
 unfold dV;exact abe List.countP_le_length (Nat.le_of_eq (ir _ _))
theorem Vc{l:Li}(hli:aN l=0):findFrom l (dV (cV l.bo.length 0)) (cV l.bo.length 0) []=(bZ l,findG l):=by
 rw[<- E0];exact yp hli _ _ _ _ (ir _ _) (aau _) XK
theorem XN{l:Li}(hli:aN l=0){kw:List Bool}{out:List Gr}(hk:kw.length=l.bo.length)(h:findFrom l (dV kw) kw out=(bZ l,findG l)):out.length<=8:=by
 obtain⟨gs,e⟩:=Ch (l:=l) (dV kw) kw out;rw[e]at h;have h1:=(r5 hli).2;have h2:out++gs=findG l:=(Prod.mk.inj h).2;rw[<- h2,abi]at h1;omega
theorem Qe(l:Li)(kw used:List Bool)(out:List Gr)(hk:kw.length=l.bo.length)(hu:used.length=l.jo.length)(hm:l.bo.length<=bc/\l.jo.length<=bc) :
  Wk ⟨[pP 5 (.ptr 33 0)],nZ l kw used out⟩ ⟨[pP 5 (.iptr (dZ l kw (cq l) [.lst 1 (used.map bl),.lst 4 (out.map Gr.av)]))],[]⟩:=by
 have hd:=td l;have q1:.ms 23 1 0 l.bo.length=AV.ms 23 1 0 ((bv kw).map AV.v).length:=by rw[aar,gO,hk]
 refine(Wk.of (sl:=[pP 5 (.ptr 33 0)]) (hp:=[pP 33 (o9 l out.length),pP 23 (.row 1 ((bv kw).map .v)),pP 27 (.row 1 ((bv (cq l)).map .v)),pP 31 (.row 1 ((bv used).map .v)),pP 900 (.row 4 (out.map Gr.av))])
  (.k .nil) (.k (.cons rfl (.vecRow (by rw[gO];omega)) (.cons rfl (.vecRow (by rw[gO];omega)) (.cons rfl (.vecRow (by rw[gO];omega)) (.k .nil)))))).trans ?_
 refine(Wk.freeze (k:=23) rfl).trans ?_
 refine(Wk.of (sl:=[pP 5 (.ptr 33 0)]) (hp:=[pP 33 (.box (l.av.cells++[.lst 1 (kw.map bl),.ms 27 1 0 l.bo.length,.ms 31 1 0 l.jo.length,.ms 900 4 0 out.length])),pP 27 (.row 1 ((bv (cq l)).map .v)),pP 31 (.row 1 ((bv used).map .v)),pP 900 (.row 4 (out.map Gr.av))])
  (.k .nil) (.cons rfl (BlkSub.bL (.cons (.refl _) (.cons (.refl _) (.cons (.refl _) (.cons (.refl _) (.cons (.of ((b7 (by rw[aar,gO,hk])).trans (by rw[yh]))) (.cons (.refl _) (.cons (.refl _) (.cons (.refl _) .nil)))))))) rfl) (.k (.k (.k .nil))))).trans ?_
 refine(Wk.freeze (k:=27) rfl).trans ?_
 refine(Wk.of (sl:=[pP 5 (.ptr 33 0)]) (hp:=[pP 33 (.box (l.av.cells++[.lst 1 (kw.map bl),.lst 1 ((cq l).map bl),.ms 31 1 0 l.jo.length,.ms 900 4 0 out.length])),pP 31 (.row 1 ((bv used).map .v)),pP 900 (.row 4 (out.map Gr.av))])
  (.k .nil) (.cons rfl (BlkSub.bL (.cons (.refl _) (.cons (.refl _) (.cons (.refl _) (.cons (.refl _) (.cons (.refl _) (.cons (.of ((b7 (by rw[aar,gO,hd])).trans (by rw[yh]))) (.cons (.refl _) (.cons (.refl _) .nil)))))))) rfl) (.k (.k .nil)))).trans ?_
 refine(Wk.freeze (k:=31) rfl).trans ?_
 refine(Wk.of (sl:=[pP 5 (.ptr 33 0)]) (hp:=[pP 33 (.box (l.av.cells++[.lst 1 (kw.map bl),.lst 1 ((cq l).map bl),.lst 1 (used.map bl),.ms 900 4 0 out.length])),pP 900 (.row 4 (out.map Gr.av))])
  (.k .nil) (.cons rfl (BlkSub.bL (.cons (.refl _) (.cons (.refl _) (.cons (.refl _) (.cons (.refl _) (.cons (.refl _) (.cons (.refl _) (.cons (.of ((b7 (by rw[aar,gO,hu])).trans (by rw[yh]))) (.cons (.refl _) .nil)))))))) rfl) (.k .nil))).trans ?_
 refine(Wk.freeze (k:=900) rfl).trans ?_
 refine(Wk.of (sl:=[pP 5 (.ptr 33 0)]) (hp:=[pP 33 (.box (dZ l kw (cq l) [.lst 1 (used.map bl),.lst 4 (out.map Gr.av)]))])
  (.k .nil) (.cons rfl (BlkSub.bL (.cons (.refl _) (.cons (.refl _) (.cons (.refl _) (.cons (.refl _) (.cons (.refl _) (.cons (.refl _) (.cons (.refl _) (.cons (.of (b7 (by rw[aar]))) .nil)))))))) rfl) .nil)).trans ?_
 refine(Wk.freezeB (k:=33) rfl rfl).trans ?_;exact Wk.of (.k .nil) .nil
theorem L8(l:Li)(hl:l.ok):FP 222 [l.av] (.tup [rg l,bF (aN l)]):=by
 refine aj func222 ?_;refine gc (yE l hl) ?_;refine gC (fun y=>?_) (fun y=>?_)
 ·have h1:=dH y;refine bt ?_;unfold rg;rw[ab5 h1]
 have hli:=dD y;have h8:=(dg hli).2.2.2.1;have h0:=(dg hli).2.2.2.2;have hj16:l.jo.length<=16:=by have:=(dg hli).2.1;unfold fg at this;split at this;cases this;omega
 have hld:=hl.ld;have hm:l.bo.length<=bc/\l.jo.length<=bc:=by unfold bc;omega
 refine gl ?_;refine gs (Al (.tmp rfl) T320 rfl T4 rfl rfl rfl rfl (by dsimp only;omega) rfl) ?_;refine gl ?_;refine gs (Al (.tmp rfl) T320 rfl T4 rfl rfl rfl rfl (by dsimp only;omega) rfl) ?_;refine gl ?_;refine gs (Al (.tmp rfl) T320 rfl T4 rfl rfl rfl rfl (by dsimp only;omega) rfl) ?_;refine gD ?_;refine gs (cg (n:=0) (.tmp rfl) (.const _) T320 rfl T4 rfl rfl oz rfl) ?_;refine gs (yg (.tmp rfl) rfl (by rw[abp];omega) (.const _) rfl T4 rfl) ?_ (6,0);refine gW (Wk.of (sl:=[pP 1 (.ptr 1 0),pP 5 (.ptr 33 0)]) (hp:=[pP 1 (.box l.av.cells),pP 33 (.box (l.av.cells++[.ms 23 1 0 l.bo.length,.ms 27 1 0 l.bo.length,.ms 31 1 0 l.jo.length,nS])),pP 23 (.vec (bv (cV l.bo.length 0))),pP 27 (.vec (bv (Y6 l.bo.length false))),pP 31 (.vec (bv (Y6 l.jo.length false)))]) bb (.k (.k (.cons rfl (BlkSub.of (by rw[Bw,vN];rfl)) (.cons rfl (BlkSub.of (by rw[Bw])) (.cons rfl (BlkSub.of (by rw[Bw])) .nil)))))) ?_
 refine gl ?_;refine aW [1,5,40,41] [1,23,31] (fun(i:Nat)=>[pP 42 (i64 i)]) (fun i=>[pP 33 (.box (l.av.cells++[.ms 23 1 0 l.bo.length,.ms 27 1 0 l.bo.length,.ms 31 1 0 l.jo.length,nS])),pP 27 (.vec (bv (bJ (Y6 l.bo.length false) ((l.dv.map Dr.body).take i))))]) (fun i=>i<=l.dv.length) (fun i=>l.dv.length-i) 0 (aa0 _) ?_;rintro i hi K1 J1;refine gC (fun y=>?_) (fun y=>?_) (st2:=(11,0))
 ·have hin:=a9 y;obtain⟨d,hd⟩:=ay hin;have hb:=df (lM hli hd);have hmt:=CM (k:=Y6 l.bo.length false) (bs:=l.dv.map Dr.body) (i:=i) (b:=d.body) (by rw[aav,hd];rfl);refine gi (aH hd) ?_;refine gs (cg (n:=d.body.toNat) (.tmp rfl) (.tmp rfl) T320 rfl T4 rfl oz oz rfl) ?_;refine gs (yg (.tmp rfl) rfl (by rw[gO,jA,abp];omega) (.const _) rfl T4 rfl) ?_;refine gD ?_;refine ga aS ?_;exact aR J1 (i+1) hin (hw:=Wk.of bb (.k (.cons rfl (BlkSub.of (by rw[vN,hmt])) (.k (.k (.k .nil))))))
 have hin:=bn hi y;have hall:bJ (Y6 l.bo.length false) ((l.dv.map Dr.body).take i)=cq l:=by rw[hin];unfold cq;rw[aa7 (by rw[aar];omega)]
 refine gW ((Wk.virt 900 4 rfl).trans<|Wk.of (sl:=[pP 1 (.ptr 1 0),pP 5 (.ptr 33 0)]) (hp:=[pP 33 (o9 l 0),pP 23 (.vec (bv (cV l.bo.length 0))),pP 27 (.vec (bv (cq l))),pP 31 (.vec (bv (Y6 l.jo.length false))),pP 900 (.row 4 [])]) bb (.cons rfl (BlkSub.bL (.cons (.refl _) (.cons (.refl _) (.cons (.refl _) (.cons (.refl _) (.cons (.refl _) (.cons (.refl _) (.cons (.refl _) (.cons (Sub.nM _ _ _) .nil)))))))) rfl) (.k (.cons rfl (BlkSub.of (by rw[hall])) (.k (.k .nil)))))) ?_
 refine gt (aE (KV l hl hli (cV l.bo.length 0) (Y6 l.jo.length false) (ir _ _) abp hm []) (cG rfl) (fun k z h=>h) rfl rfl) ?_;refine hO [5,8] [] (fun(kw:List Bool)(out:List Gr)=>[pP 9 (bl (nextG l kw).isSome)]) (fun kw out=>[pP 8 (.box ((nextG l kw).getD default).av.cells),pP 33 (o9 l out.length),pP 23 (.vec (bv kw)),pP 27 (.vec (bv (cq l))),pP 31 (.vec (bv (jS l out))),pP 900 (.row 4 (out.map Gr.av))]) (fun kw out=>kw.length=l.bo.length/\findFrom l (dV kw) kw out=(bZ l,findG l)) (fun kw _=>dV kw) (cV l.bo.length 0) ([]) ⟨ir _ _,Vc hli⟩ ?_
 rintro kw out ⟨hk,hf⟩ K2 J2;refine gC (fun y=>?_) (fun y=>?_) (st1:=(77777,0)) (st2:=(27,0))
 ·obtain ⟨g, hg⟩:=Cc y;have hgo:=xz hli hg;have hout:=XN hli hk hf;refine gW (Wk.of (sl:=[pP 5 (.ptr 33 0),pP 8 (.ptr 8 0)]) (hp:=[pP 8 (.box g.av.cells),pP 33 (o9 l out.length),pP 23 (.vec (bv kw)),pP 27 (.vec (bv (cq l))),pP 31 (.vec (bv (jS l out))),pP 900 (.row 4 (out.map Gr.av))]) bb (.cons rfl (BlkSub.of (by rw [hg]; rfl)) (.k (.k (.k (.k (.k .nil))))))) ?_;refine gl ?_;refine aW [5,8,66,67] [8,33,27,31,900] (fun (j:Nat)=>[pP 68 (i64 j)]) (fun j=>[pP 23 (.vec (bv (bJ kw (g.bo.take j))))]) (fun j=>j <= g.bo.length) (fun j=>g.bo.length - j) 0 (aa0 _) ?_;rintro j hj K3 J3;refine gC (fun y=>?_) (fun y=>?_)
  ·have hin:=a9 y;obtain⟨b,hb⟩:=ay hin;have hbb:=hgo.b b (aap hb);have hlb:=hgo.lb;refine gi (aH hb) ?_;refine gs (cg (n:=b.toNat) (.tmp rfl) (.tmp rfl) T320 rfl T4 rfl oz oz rfl) ?_;refine gs (yg (.tmp rfl) rfl (by rw[gO,jA];omega) (.const _) rfl T4 rfl) ?_;refine ga aS ?_;exact aR J3 (j+1) hin (hw:=Wk.of bb (.cons rfl (BlkSub.of (by rw[vN,CM hb])) (.k (.k (.k (.k (.k .nil)))))))
  have hin:=bn hj y;subst hin;refine gl ?_;refine aW [5,8,80,81] [8,33,27,900] (fun(q:Nat)=>[pP 82 (i64 q)]) (fun q=>[pP 23 (.vec (bv (bJ kw g.bo))),pP 31 (.vec (bv (bJ (jS l out) (g.jo.take q))))]) (fun q=>q<=g.jo.length) (fun q=>g.jo.length-q) 0 (aa0 _) ?_ (h2:=(.cons rfl (BlkSub.of (by rw[aa8])) (.k .nil)));rintro q hq K4 J4;refine gC (fun y=>?_) (fun y=>?_)
  ·have hin:=a9 y;obtain⟨b,hb⟩:=ay hin;have hbb:=hgo.j b (aap hb);have hlj:=hgo.lj;refine gi (aH hb) ?_;refine gs (cg (n:=b.toNat) (.tmp rfl) (.tmp rfl) T320 rfl T4 rfl oz oz rfl) ?_;refine gs (yg (.tmp rfl) rfl (by rw[gO,jA,BZ];omega) (.const _) rfl T4 rfl) ?_;refine ga aS ?_;exact aR J4 (q+1) hin (hw:=Wk.of bb (.k (.cons rfl (BlkSub.of (by rw[vN,CM hb])) (.k (.k (.k (.k .nil)))))))
  have hin:=bn hq y;subst hin;refine gs (cK (.tmp rfl) rfl (by rw[aar]) (.tmp rfl) T130 rfl T169 rfl rfl (by simp only[aa4,abg];omega) rfl rfl) ?_;refine gD ?_ (25,0);refine gW (Wk.of (sl:=[pP 5 (.ptr 33 0),pP 8 (.ptr 8 0)]) (hp:=[pP 8 (.box g.av.cells),pP 33 (.box (l.av.cells++[.ms 23 1 0 l.bo.length,.ms 27 1 0 l.bo.length,.ms 31 1 0 l.jo.length,.ms 100 4 0 (out++[g]).length])),pP 100 (.row 4 ((out++[g]).map Gr.av)),pP 23 (.vec (bv (bJ kw g.bo))),pP 27 (.vec (bv (cq l))),pP 31 (.vec (bv (jS l (out++[g]))))]) bb (.k (.cons rfl (BlkSub.of (by rw[abi];rfl)) (.cons rfl (BlkSub.of (by rw[abf];rfl)) (.k (.k (.cons rfl (BlkSub.of (by rw[MN,aa8])) .nil))))))) ?_ (25,0)
  refine gW (Wk.rk (k:=100) (d:=900) rfl rfl) ?_ (26,0);refine gW (Wk.o (sl:=[pP 5 (.ptr 33 0),pP 103 (g.av)]) (hp:=[pP 33 (o9 l (out++[g]).length),pP 23 (.vec (bv (bJ kw g.bo))),pP 27 (.vec (bv (cq l))),pP 31 (.vec (bv (jS l (out++[g])))),pP 900 (.row 4 ((out++[g]).map Gr.av))])) ?_;refine gt (aE (KV l hl hli (bJ kw g.bo) (jS l (out++[g])) (by rw[jA];exact hk) (BZ _ _) hm (out++[g])) (cG rfl) (by intro k z h;simp only[nZ,aY]at h;split at h;(subst_vars;exact h);split at h;(subst_vars;exact h);split at h;(subst_vars;exact h);split at h;(subst_vars;exact h);split at h;(subst_vars;exact h);cases h) rfl rfl) ?_;exact gk J2 (bJ kw g.bo) (out++[g]) ⟨by rw[jA];exact hk,ND hli hk hf hg⟩ (tq hli hk hg)
 have hg:=Be y;obtain⟨e1,e2⟩:=MG hf hg;subst e1 e2;refine gW (Wk.o (sl:=[pP 5 (.ptr 33 0)]) (hp:=[pP 33 (o9 l (findG l).length),pP 23 (.vec (bv (bZ l))),pP 27 (.vec (bv (cq l))),pP 31 (.vec (bv (jS l (findG l)))),pP 900 (.row 4 ((findG l).map Gr.av))])) ?_ (27,0);refine gW (Qe l (bZ l) (jS l (findG l)) (findG l) hk (BZ _ _) hm) ?_;refine bt ?_;unfold rg;rw[ab6 hli,hli];rfl
theorem FT{α:Type}[BEq α][LawfulBEq α]{xs:List α}{b:α}{ok:Nat->Bool}(h:∀i x,xs[i]?=some x->ok i=!(b==x)):decide (0<=jB (cQ xs.length ok))=xs.contains b:=by
 cases hf:cQ xs.length ok with
 |some i =>
  obtain⟨h1,h2⟩:=fD hf;obtain⟨x,hx⟩:=ay h1;rw[h i x hx]at h2;have:b=x:=by simpa using h2
  subst this;rw[Zh.2 (aap hx)];exact aca (by show(0:Int)<=(i:Int);omega)
 |none =>
  rw[acb (by show ¬(0:Int) <= -1;decide)]
  symm
  rw[<- Bool.not_eq_true,Zh];intro hm;obtain⟨i,hi⟩:=List.mem_iff_getElem?.1 hm;have hlt:=(Y1.1 hi).1;unfold cQ at hf;rw[List.find?_eq_none]at hf;have:=hf i (Y3.2 hlt);rw[h i b hi]at this;simp at this
theorem Lq(xs:List Bool)(b:Bool)(hl:xs.length<=281474976710656):FP 345 [.lst 1 (xs.map bl),bl b] (i64 (jB (cQ xs.length (fun i=>!(b==xs.getD i false))))):=by
 refine aj func345 ?_;refine gl ?_;refine aW [0,1,7] [] (fun(i:Nat)=>[pP 8 (i64 i)]) (fun _=>[]) (fun i=>i<=xs.length/\∀j,j<i->(!(b==xs.getD j false))=true) (fun i=>xs.length-i) 0 ⟨aa0 _,fun j h=>by omega⟩ ?_;rintro i ⟨hi,hj⟩ K1 J1;refine gC (fun z=>?_) (fun z=>?_)
 ·have hin:=a9 z;obtain⟨x,hx⟩:=ay hin;have hg:xs.getD i false=x:=aq hx;refine gi (aH hx) ?_;refine gC (fun z=>?_) (fun z=>?_)
  ·have h2:(b==x)=true:=z;refine ah ?_;rw[gP hin hj (by rw[hg,h2];rfl)];rfl
  have h2:(b==x)=false:=z;refine ga aS ?_;exact aR J1 (i+1) ⟨hin,fun j h9=>by rcases aay j i with g |g;exact hj j g;(have:j=i:=by omega);subst this;rw[hg,h2];rfl⟩
 have hin:=bn hi z;subst hin;refine ah ?_;rw[f6 hj];rfl
theorem GI(xs:List Bool)(b:Bool)(hl:xs.length<=281474976710656):FP 223 [.lst 1 (xs.map bl),bl b] (bl (xs.contains b)):=by
 refine aj func223 ?_;refine gc (Lq xs b hl) ?_;refine ah ?_;rw[<- FT (xs:=xs) (b:=b) (ok:=fun i=>!(b==xs.getD i false)) (fun i x hx=>by rw[aq hx])];rfl
theorem Ue(xs:List Int)(b:Int)(hl:xs.length<=281474976710656):FP 401 [.lst 1 (xs.map i64),i64 b] (i64 (jB (cQ xs.length (fun i=>!(b==xs.getD i 0))))):=by
 refine aj func401 ?_;refine gl ?_;refine aW [0,1,7] [] (fun(i:Nat)=>[pP 8 (i64 i)]) (fun _=>[]) (fun i=>i<=xs.length/\∀j,j<i->(!(b==xs.getD j 0))=true) (fun i=>xs.length-i) 0 ⟨aa0 _,fun j h=>by omega⟩ ?_;rintro i ⟨hi,hj⟩ K1 J1;refine gC (fun z=>?_) (fun z=>?_)
 ·have hin:=a9 z;obtain⟨x,hx⟩:=ay hin;have hg:xs.getD i 0=x:=aq hx;refine gi (aH hx) ?_;refine gC (fun z=>?_) (fun z=>?_)
  ·have h2:(b==x)=true:=z;refine ah ?_;rw[gP hin hj (by rw[hg,h2];rfl)];rfl
  have h2:(b==x)=false:=z;refine ga aS ?_;exact aR J1 (i+1) ⟨hin,fun j h9=>by rcases aay j i with g |g;exact hj j g;(have:j=i:=by omega);subst this;rw[hg,h2];rfl⟩
 have hin:=bn hi z;subst hin;refine ah ?_;rw[f6 hj];rfl
theorem GX(xs:List Int)(b:Int)(hl:xs.length<=281474976710656):FP 318 [.lst 1 (xs.map i64),i64 b] (bl (xs.contains b)):=by
 refine aj func318 ?_;refine gc (Ue xs b hl) ?_;refine ah ?_;rw[<- FT (xs:=xs) (b:=b) (ok:=fun i=>!(b==xs.getD i 0)) (fun i x hx=>by rw[aq hx])];rfl
theorem BX(l:Li)(hl:l.ok):FP 113 [l.av] (.tup [.lst 4 (((if aN l=0 then splitG l else[])).map Gr.av),bF (if aN l=0 then splitE l else aN l)]):=by
 refine aj func113 ?_;refine gc (L8 l hl) (hnm:=(by unfold rg;split <;> rfl)) ?_;refine gC (fun z=>?_) (fun z=>?_) (st2:=(77777,0))
 ·have h1:=dH z;refine gR ?_;exact dS (by rw[ab5 h1,ab5 h1];exact Sub.tup (.cons (.nil _ _ _) (.cons (.refl _) .nil)))
 have hli:=dD z;have h8:=(dg hli).2.2.2.1;have hj16:l.jo.length<=16:=by have:=(dg hli).2.1;unfold fg at this;split at this;cases this;omega
 have lk1:(bZ l).length=l.bo.length:=by unfold bZ;rw[qQ,ir]
 have lk2:(ee l).length=l.jo.length:=by unfold ee;rw[qQ,abp]
 have e1:rg l=.iptr (dZ l (bZ l) (cq l) [.lst 1 ((ee l).map bl),.lst 4 ((findG l).map Gr.av)]):=by unfold rg;rw[ab6 hli]
 have c1:=vG (k:=bZ l);have c2:=vG (k:=ee l);refine gW (Wk.of (sl:=[pP 4 (.iptr (dZ l (bZ l) (cq l) [.lst 1 ((ee l).map bl),.lst 4 ((findG l).map Gr.av)])),pP 5 (bF (aN l))]) (hp:=[]) (.cons rfl (Sub.of e1) (.k .nil)) .nil) ?_;refine gc (GI (bZ l) false oz) ?_;refine b8 (fun _=>(GI (ee l) false oz)) ?_;refine gC (fun t25=>?_) (fun t25=>?_)
 ·have h2:splitE l=7:=by
   unfold splitE;rw[ab5];intro h;have h3:(bZ l).contains false=false:=c1.1 oz;have h4:(ee l).contains false=false:=c2.1 oz;rw[h3,h4]at t25;cases t25
  refine gR ?_;exact dS (by rw[ab6 hli,ab6 hli];unfold splitG;rw[ab5 (by rw[h2];simp),h2];exact Sub.tup (.cons (.nil _ _ _) (.cons (.refl _) .nil)))
 have h2:splitE l=0:=by
  unfold splitE;rw[ab6];cases h3:(bZ l).contains false <;> cases h4:(ee l).contains false <;> rw[h3,h4]at t25 <;> first |(cases t25;done) |(have g1:=c1.2 h3;have g2:=c2.2 h4;omega)
 refine bt ?_;rw[ab6 hli,ab6 hli,h2];unfold splitG;rw[ab6 h2];rfl
def SO(ys:List Int)(i:Nat):Prop:=∀p q,p<q->q<i->ys.getD p 0<=ys.getD q 0
def SI(ys:List Int)(i j:Nat):Prop:=∀p q,p<q->q<=i->q≠j->ys.getD p 0<=ys.getD q 0
theorem LF{xs ys:List Int}{i:Nat}(hp:ys.Perm xs)(hi:ys.length<=i)(h:SO ys i):ys=fe xs:=by
 refine Xr hp (List.pairwise_iff_getElem.2 fun p q hp hq hpq=>?_);have h1:=h p q hpq oz;rw[aq (aat hp),aq (aat hq)]at h1;exact h1
theorem XF{ys:List Int}{i:Nat}(h:SO ys i):SI ys i i:=fun p q h1 h2 h3=>h p q h1 oz
theorem PR{ys:List Int}{i j:Nat}(h:SI ys i j)(hj:j=0\/ys.getD (j-1) 0<=ys.getD j 0):SO ys (i+1):=by
 intro p q h1 h2
 by_cases hq:q=j
 ·subst hq;rcases hj with hj |hj
  ·omega
  ·by_cases hp:p=q-1
   ·subst hp;exact hj
   ·exact Int.le_trans (h p (q-1) oz oz oz) hj
 ·exact h p q h1 oz hq
theorem DF(ys:List Int)(i:Nat)(x:Int)(p:Nat)(hi:i<ys.length):(ys.set i x).getD p 0=if p=i then x else ys.getD p 0:=by
 rw[aaq,aaq,List.getElem?_set]
 by_cases h:i=p
 ·subst h;simp[hi]
 ·rw[ab5 h,ab5 (fun e=>h e.symm)]
theorem PX{ys:List Int}{i j:Nat}(h:SI ys i j)(hj:0<j)(hi:j<=i)(hl:i<ys.length)(hlt:ys.getD j 0<ys.getD (j-1) 0):SI ((ys.set j (ys.getD (j-1) 0)).set (j-1) (ys.getD j 0)) i (j-1):=by
 intro p q h1 h2 h3
 have e:∀r,((ys.set j (ys.getD (j-1) 0)).set (j-1) (ys.getD j 0)).getD r 0=if r=j-1 then ys.getD j 0 else if r=j then ys.getD (j-1) 0 else ys.getD r 0:=fun r=>by
  rw[DF _ _ _ _ (by rw[ab4];omega),DF _ _ _ _ oz]
 rw[e,e,ab5 h3]
 by_cases hq:q=j
 ·rw[ab6 hq]
  by_cases hp:p=j-1
  ·rw[ab6 hp];omega
  ·rw[ab5 hp,ab5 oz];exact h p (j-1) oz oz oz
 ·rw[ab5 hq]
  by_cases hp:p=j-1
  ·rw[ab6 hp];exact h j q oz h2 hq
  ·rw[ab5 hp]
   by_cases hp2:p=j
   ·rw[ab6 hp2];exact h (j-1) q oz h2 hq
   ·rw[ab5 hp2];exact h p q h1 h2 hq
theorem NI{ys:List Int}{j:Nat}{a b:Int}(ha:ys[j]?=some a)(hb:ys[j-1]?=some b):((ys.set j b).set (j-1) a).Perm ys:=by
 obtain⟨h1,rfl⟩:=Y1.1 ha;obtain⟨h2,rfl⟩:=Y1.1 hb;exact List.set_set_perm h1 h2
theorem M7{j:Nat}{a b:Int}(h:cond (aa .gtr (j:Int) 0) (decide (a<b)) false=true):0<j/\a<b:=by
 cases h1:aa .gtr (j:Int) 0 <;> rw[h1]at h
 ·cases h
 ·exact⟨jX (b:=0) h1,ab8 h⟩
theorem SN{j:Nat}{a b:Int}(h:cond (aa .gtr (j:Int) 0) (decide (a<b)) false=false):j=0\/b<=a:=by
 cases h1:aa .gtr (j:Int) 0 <;> rw[h1]at h
 ·have:=iz (b:=0) h1;omega
 ·have h2:decide (a<b)=false:=h;have:=ab9 h2;omega
theorem VF(ys:List Int)(j:Nat)(a b:Int):((ys.map i64).set j (i64 b)).set (j-1) (i64 a)=((ys.set j b).set (j-1) a).map i64:=by rw[ab0,ab0]
theorem Eu(a:Int):FP 454 [i64 a] (bl false):=by
 refine aj func454 ?_;refine ah ?_;simp[aa];rfl
theorem ST(a b:Int):FP 408 [i64 a,i64 b] (bl (decide (a<b))):=by
 refine aj func408 ?_;refine gc (Eu a) ?_;refine b8 (fun _=>(Eu b)) ?_;refine ah ?_
 first |rfl |(simp;done)
theorem V8(xs:List Int)(hl:xs.length<=12):Con prog 402 [.ms 1000 1 0 xs.length,i64 0,i64 xs.length] [pP 1000 (.row 1 (xs.map i64))] (.tup []) [pP 1000 (.row 1 ((fe xs).map i64))]:=by
 refine gF func402 (fun k z h=>bO h) ?_;refine ga (show _=((1:Nat):Int)from rfl) ?_;refine hO [1,2] [] (fun(ys:List Int)(i:Nat)=>[pP 0 (.ms 1000 1 0 xs.length),pP 6 (i64 i)]) (fun ys _=>[pP 1000 (.row 1 (ys.map i64))]) (fun ys i=>ys.length=xs.length/\ys.Perm xs/\1<=i/\SO ys i) (fun _ i=>xs.length+1-i) xs 1 ⟨rfl,.refl _,aau _,fun p q h1 h2=>by omega⟩ ?_;rintro ys i ⟨hyl,hyp,hi1,hso⟩ K1 J1;refine gC (fun y=>?_) (fun y=>?_)
 ·have hin:=a9 y;refine hO [1,2,6] [] (fun (zs:List Int) (j:Nat)=>[pP 0 (.ms 1000 1 0 xs.length),pP 7 (i64 j)]) (fun zs _=>[pP 1000 (.row 1 (zs.map i64))]) (fun zs j=>zs.length = xs.length /\ zs.Perm xs /\ j <= i /\ SI zs i j) (fun _ j=>j) ys i ⟨hyl,hyp,aau _,XF hso⟩ ?_;rintro zs j ⟨hzl,hzp,hji,hsi⟩ K2 J2;obtain ⟨a,ha⟩:=ay (show j < zs.length by omega);obtain ⟨b,hb⟩:=ay (show j - 1 < zs.length by omega);refine gs (fa rfl rfl rfl (fun h=>cg (n:=j) (.opt rfl (o1 h)) (.opt rfl (o1 h)) T46 rfl T3 rfl oz oz rfl)) ?_;refine gs (fa rfl rfl rfl (fun h=>eK (.opt rfl (o1 h)) rfl (aH ha) T3 rfl rfl rfl)) ?_;refine oD (fun h=>(j7 (jX (b:=0) h) (by unfold bc; omega))) ?_;refine gs (fa rfl rfl rfl (fun h=>cg (n:=(j - 1)) (.opt rfl (o1 h)) (.opt rfl (o1 h)) T46 rfl T3 rfl oz oz rfl)) ?_;refine gs (fa rfl rfl rfl (fun h=>eK (.opt rfl (o1 h)) rfl (aH hb) T3 rfl rfl rfl)) ?_;refine b8 (fun _=>(ST a b)) ?_;refine gD ?_;refine gC (fun y=>?_) (fun y=>?_)
  ·obtain⟨hj0,hab⟩:=M7 y;refine ga (j7 hj0 (by unfold bc;omega)) ?_;refine ga (j7 hj0 (by unfold bc;omega)) ?_;refine gs (cg (n:=(j-1)) (.tmp rfl) (.tmp rfl) T46 rfl T3 rfl oz oz rfl) ?_;refine gs (eK (.tmp rfl) rfl (aH hb) T3 rfl rfl rfl) ?_;refine gs (cg (n:=j) (.tmp rfl) (.tmp rfl) T46 rfl T3 rfl oz oz rfl) ?_;refine gs (eK (.tmp rfl) rfl (aH ha) T3 rfl rfl rfl) ?_;refine gs (cg (n:=j) (.tmp rfl) (.tmp rfl) T46 rfl T3 rfl oz oz rfl) ?_;refine gs (dM (.tmp rfl) rfl (aH ha) rfl (.tmp rfl) rfl rfl T3 rfl rfl) ?_;refine gs (cg (n:=(j-1)) (.tmp rfl) (.tmp rfl) T46 rfl T3 rfl oz oz rfl) ?_;refine gs (dM (.tmp rfl) rfl ((List.getElem?_set_ne oz).trans (aH hb)) rfl (.tmp rfl) rfl rfl T3 rfl rfl) ?_;refine gD ?_;refine ga (j7 hj0 (by unfold bc;omega)) ?_;exact gk J2 ((zs.set j b).set (j-1) a) (j-1) ⟨by rw[ab4,ab4];exact hzl,(NI ha hb).trans hzp,by omega,by have h9:=PX hsi hj0 hji oz (by rw[aq ha,aq hb];exact hab);rw[aq ha,aq hb]at h9;exact h9⟩ (hw:=Wk.of bb (.cons rfl (BlkSub.of (acd (Blk.row 1) (VF zs j a b))) .nil))
  have hs:=SN y;refine ga aS ?_;exact gk J1 zs (i+1) ⟨hzl,hzp,by omega,PR hsi (by rw[aq ha,aq hb];exact hs)⟩
 have hin:=sM y;refine gR ?_;exact aC.own2 rfl (by rw[<- LF hyp oz hso]) rfl
theorem Pv(xs:List Int)(hl:xs.length<=12)(m:Int):Con prog 319 [.ms 1000 1 0 xs.length,i64 0,i64 xs.length,i64 m] [pP 1000 (.row 1 (xs.map i64))] (.tup []) [pP 1000 (.row 1 ((fe xs).map i64))]:=by
 refine gF func319 (fun k z h=>bO h) ?_;refine RY [1,2,3,8,9] [1000] [pP 0 (.ms 1000 1 0 xs.length)] [] (True) (0) trivial ?_;rintro-K1 J1;refine ga (dP oz) ?_;refine gC (fun y=>?_) (fun y=>?_) (st2:=(77777,0))
 ·refine gt (aE (V8 xs hl) (aJ rfl rfl rfl) aG rfl rfl) ?_;refine gR ?_;exact aC.own2 rfl rfl rfl
 (rw[show aa .leq ((xs.length:Int)-0) 12=true from aca oz]at y;cases y)
theorem NH(x:Nat)(hx:x<256):FP 412 [u64 x] (i64 (bg x)):=by
 refine aj func412 ?_;refine gC (fun z=>?_) (fun z=>?_) (st1:=(2,0))
 ·(have:=z;simp[aa]at this;omega)
 refine gC (fun z=>?_) (fun z=>?_) (st1:=(5,0))
 ·(have:=z;simp[aa]at this;omega)
 refine gC (fun z=>?_) (fun z=>?_) (st1:=(8,0))
 ·(have:=z;simp[aa]at this;omega)
 refine gv (jG hx) ?_;refine gs (uX (y:=x) (.const _) (.tmp rfl) T9 rfl (by kernel_rfl) (by first |rfl |omega) oz rfl) ?_;refine gv (i64_in (by have:=iR hx;omega)) ?_;refine ga (dq (by have:=iR hx;omega)) ?_;refine ah ?_;simp only[i64];congr 2;omega
theorem Pa(x:Nat)(hx:x<256):FP 320 [u64 x] (i64 (bg x)):=by
 refine aj func320 ?_;refine gC (fun hcfalse=>?_) (fun hcfalse=>?_) (st1:=(1,0));cases hcfalse;refine gc (NH x hx) ?_;refine ah ?_
 first |rfl |(simp;done)
theorem Vf(xs:List Int)(hl:xs.length<=12):Con prog 196 [.ms 1000 1 0 xs.length] [pP 1000 (.row 1 (xs.map i64))] (.tup []) [pP 1000 (.row 1 ((fe xs).map i64))]:=by
 refine gF func196 (fun k z h=>bO h) ?_;refine gv (show IntKind.u64.wrap _=((xs.length:Nat):Int)from u64_in oz) ?_;refine gc (Pa xs.length oz) ?_;refine gt (aE (Pv xs hl _) (.cons (.tmp rfl) (.cons (.const _) (bC rfl rfl))) aG rfl rfl) ?_;refine gR ?_;exact aC.own2 rfl rfl rfl
theorem Re{l:Li}{g:Gr}{i:Nat}{z:Int}{j:Jt}(hz:g.jo[i]?=some z)(hj:l.jo[z.toNat]?=some j):(fS l g)[i]?=some (iQ g j):=by
 unfold fS;rw[aav,hz,aam,aq hj]
theorem A6{l:Li}{g:Gr}{i:Nat}{z:Int}{j:Jt}{a:Int}(hz:g.jo[i]?=some z)(hj:l.jo[z.toNat]?=some j)(ha:iQ g j=a):((fS l g).take i).map i64++[i64 a]=((fS l g).take (i+1)).map i64:=by
 rw[dK (Re hz hj),ha,abf];rfl
theorem NU{z:Int}{n:Nat}(h0:0<=z)(h1:z<n):cond (aa .lss z 0) true (aa .geq z (n:Int))=false:=by
 rw[show aa .lss z 0=false from acb oz];exact acb oz
theorem X3(l:Li)(hl:l.ok)(hli:aN l=0)(g:Gr)(hg:GrOk l g):Con prog 195 [l.av,g.av] [] (.tup [.ms 900 1 0 g.jo.length,.v .nilIface]) [pP 900 (.row 1 ((fS l g).map i64))]:=by
 have hlb:=hg.lb;have hlj:=hg.lj;refine gF func195 (fun k z h=>by cases h) ?_;refine gc (yE l hl) ?_;refine gC (fun q=>?_) (fun q=>?_) (st1:=(3,0))
 ·(rw[hli]at q;cases q)
 refine gl ?_;refine gW ((Wk.virt 900 1 rfl).trans<|Wk.of (sl:=[pP 2 (.ptr 2 0),pP 3 (.ptr 3 0),pP 7 (.ms 900 1 0 0),pP 19 (.lst 1 (g.jo.map i64)),pP 20 (i64 g.jo.length),pP 21 (i64 0)]) (hp:=[pP 2 (.box l.av.cells),pP 3 (.box g.av.cells),pP 900 (.row 1 [])]) (.k (.k (.cons rfl (Sub.nM _ _ _) (.k (.k (.k .nil)))))) (.k (.k (.k .nil)))) ?_;refine aW [2,3,19,20] [2,3] (fun(i:Nat)=>[pP 7 (.ms 900 1 0 i),pP 21 (i64 i)]) (fun i=>[pP 900 (.row 1 (((fS l g).take i).map i64))]) (fun i=>i<=g.jo.length) (fun i=>g.jo.length-i) 0 (aa0 _) ?_;rintro i hi K1 J1;refine gC (fun q=>?_) (fun q=>?_) (st2:=(18,0))
 ·have hin:=a9 q;obtain ⟨z,hz⟩:=ay hin;obtain ⟨z0,z1⟩:=hg.j z (aap hz);obtain ⟨j,hj⟩:∃ j,l.jo[z.toNat]? = some j:=ay oz;have hlt:(((fS l g).take i).map i64).length = i:=by rw [aar,abc,ru]; omega
  refine gi (aH hz) ?_;refine cJ ?_;refine gC (fun q=>?_) (fun q=>?_) (st1:=(9,0))
  ·(rw[NU z0 z1]at q;cases q)
  refine gi (gG (n:=z.toNat) oz hj) ?_;refine gc (GX g.bo j.a oz) ?_;refine gc (GX g.bo j.b oz) ?_;refine gD ?_;refine gC (fun t55=>?_) (fun t55=>?_)
  ·have ha : iQ g j = -1 := by unfold iQ; cases h1 : g.bo.contains j.a <;> cases h2 : g.bo.contains j.b <;> rw [h1, h2] at t55 <;> first | (cases t55; done) | rfl
   refine gs (cK (.tmp rfl) rfl hlt.symm (.tmp rfl) T46 rfl T3 rfl rfl (by simp only[aa4,abg];omega) rfl rfl) ?_ (17,0);refine gW (Wk.of (sl:=[pP 2 (.ptr 2 0),pP 3 (.ptr 3 0),pP 7 (.ms 62 1 0 (i+1)),pP 19 (.lst 1 (g.jo.map i64)),pP 20 (i64 g.jo.length),pP 21 (i64 i)]) (hp:=[pP 2 (.box l.av.cells),pP 3 (.box g.av.cells),pP 62 (.row 1 (((fS l g).take (i+1)).map i64))]) bb (.k (.k (.cons rfl (BlkSub.of (acd (Blk.row 1) (A6 hz hj ha))) .nil)))) ?_ (17,0);refine gW (Wk.rk (k:=62) (d:=900) rfl rfl) ?_;refine ga aS ?_;exact aR J1 (i+1) hin
  refine gC (fun q=>?_) (fun q=>?_)
  ·have ha : iQ g j = j.b := by unfold iQ; cases h1 : g.bo.contains j.a <;> cases h2 : g.bo.contains j.b <;> rw [h1] at q <;> rw [h1, h2] at t55 <;> first | (cases t55; done) | (cases q; done) | rfl
   refine gs (cK (.tmp rfl) rfl hlt.symm (.tmp rfl) T46 rfl T3 rfl rfl (by simp only[aa4,abg];omega) rfl rfl) ?_ (17,0);refine gW (Wk.of (sl:=[pP 2 (.ptr 2 0),pP 3 (.ptr 3 0),pP 7 (.ms 69 1 0 (i+1)),pP 19 (.lst 1 (g.jo.map i64)),pP 20 (i64 g.jo.length),pP 21 (i64 i)]) (hp:=[pP 2 (.box l.av.cells),pP 3 (.box g.av.cells),pP 69 (.row 1 (((fS l g).take (i+1)).map i64))]) bb (.k (.k (.cons rfl (BlkSub.of (acd (Blk.row 1) (A6 hz hj ha))) .nil)))) ?_ (17,0);refine gW (Wk.rk (k:=69) (d:=900) rfl rfl) ?_;refine ga aS ?_;exact aR J1 (i+1) hin
  have ha:iQ g j=j.a:=by unfold iQ;rw[ab5 (by rw[show g.bo.contains j.a=false from q];simp)]
  refine gs (cK (.tmp rfl) rfl hlt.symm (.tmp rfl) T46 rfl T3 rfl rfl (by simp only[aa4,abg];omega) rfl rfl) ?_ (17,0);refine gW (Wk.of (sl:=[pP 2 (.ptr 2 0),pP 3 (.ptr 3 0),pP 7 (.ms 54 1 0 (i+1)),pP 19 (.lst 1 (g.jo.map i64)),pP 20 (i64 g.jo.length),pP 21 (i64 i)]) (hp:=[pP 2 (.box l.av.cells),pP 3 (.box g.av.cells),pP 54 (.row 1 (((fS l g).take (i+1)).map i64))]) bb (.k (.k (.cons rfl (BlkSub.of (acd (Blk.row 1) (A6 hz hj ha))) .nil)))) ?_ (17,0);refine gW (Wk.rk (k:=54) (d:=900) rfl rfl) ?_;refine ga aS ?_;exact aR J1 (i+1) hin
 have hin:=bn hi q;subst hin;refine gW (Wk.of (sl:=[pP 7 (.ms 900 1 0 g.jo.length)]) (hp:=[pP 900 (.row 1 ((fS l g).map i64))]) bb (.cons rfl (BlkSub.of (by rw[aa7 (by rw[ru];exact aau _)])) .nil)) ?_;refine gR ?_;exact aC.keep (bq rfl)
section
variable{ts:LL}{u k:Nat}{a b a2 b2:List Rat}{x y x2 y2:Et ts}{w v w' v' w2 v2 w3 v3:Nat}
theorem Au(c:Ct ts u k)(h:w+v+(w'+v')<=10000):w*u+v*k+(w'*u+v'*k)+1<=lm ts.length:=by
 have h1:=IJ c (w:=w+w') (v:=v+v') (m:=10000) oz;have h2:=j5 ts.length;rw[x8];omega
theorem Jh(c:Ct ts u k){R:Nat}(h:eB R ts.length<=k):2*(2500*1000000+2500*1000000+kB R ts.length)<=lm ts.length:=by
 have h1:=c.kk h;have h2:=j5 ts.length;omega
theorem PU [c : Ct ts u k] [ha : Zl ts u k a x w v] [hb : Zl ts u k b y w' v'] (h : w + v + (w' + v') <= 10000 := by decide) : FP 250 [aT ts, nA a, nA b] (.tup [nA (sX (x + y)), .v .nilIface]) := by
 obtain⟨R,tw,hk⟩:=c.ex;have h0:=Au c h;have h1:=xI tw ha.nm hb.nm oz;rw[ha.eq,hb.eq]at h1;exact h1
theorem Dp [c : Ct ts u k] [ha : Zl ts u k a x w v] [hb : Zl ts u k b y w' v'] (h : w + v + (w' + v') <= 10000 := by decide) : FP 209 [aT ts, nA a, nA b] (.tup [nA (sX (x - y)), .v .nilIface]) := by
 obtain⟨R,tw,hk⟩:=c.ex;have h0:=Au c h;have h1:=oh tw ha.nm hb.nm oz;rw[ha.eq,hb.eq]at h1;exact h1
theorem KU [c : Ct ts u k] [ha : Zl ts u k a x w v] [hb : Zl ts u k b y w' v'] (h : w + v + (w' + v') <= 10000 := by decide) : FP 210 [aT ts, nA a, nA b] (.tup [nA (sX (x * y)), .v .nilIface]) := by
 obtain⟨R,tw,hk⟩:=c.ex;have h0:=Au c h;have h1:=xf tw ha.nm hb.nm oz;rw[ha.eq,hb.eq]at h1;exact h1
theorem O8 [c : Ct ts u k] [ha : Zl ts u k a x w v] [hb : Zl ts u k b y w' v'] [ha2 : Zl ts u k a2 x2 w2 v2] [hb2 : Zl ts u k b2 y2 w3 v3] (h : w + v + (w' + v') + (w2 + v2 + (w3 + v3)) <= 2500 := by decide) :
  FP 102 [aT ts,aD a b,aD a2 b2] (.tup [nA (sX (dotE x y x2 y2)),.v .nilIface]):=by
 obtain⟨R,tw,hk⟩:=c.ex;have h0:=Jh c hk;have h1:=sV (e:=2500*1000000) tw (ha.up c oz) (hb.up c oz) (ha2.up c oz) (hb2.up c oz) oz;rw[ha.eq,hb.eq,ha2.eq,hb2.eq]at h1;exact h1
def atXE(c s X:Et ts)(p q:Rat):Et ts:=(c*qE p-s*qE q)+X
def atYE(c s Y:Et ts)(p q:Rat):Et ts:=(s*qE p+c*qE q)+Y
instance Zu.atXE[c:Ct ts u k]{x y z:Et ts}{p q:Rat}{w1 v1 w2 v2 w3 v3 w4 w5:Nat}[Zu u k x w1 v1][Zu u k y w2 v2][Zu u k z w3 v3][Qz u p w4][Qz u q w5]:Zu u k (atXE x y z p q) (w1+w4+(w2+w5)+w3) (v1+0+1+(v2+0+1)+1+v3+1) :=
  (ace:Zu u k ((x*Lw.qE p-y*Lw.qE q)+z) _ _)
instance Zu.atYE[c:Ct ts u k]{x y z:Et ts}{p q:Rat}{w1 v1 w2 v2 w3 v3 w4 w5:Nat}[Zu u k x w1 v1][Zu u k y w2 v2][Zu u k z w3 v3][Qz u p w4][Qz u q w5]:Zu u k (atYE x y z p q) (w2+w4+(w1+w5)+w3) (v2+0+1+(v1+0+1)+1+v3+1) :=
  (ace:Zu u k ((y*Lw.qE p+x*Lw.qE q)+z) _ _)
end
abbrev PZ(l:Li)(g:Gr)(a:As):List AV:=[.v (.string l.name),.lst 2 (l.bo.map Bd.av),.lst 7 (l.jo.map Jt.av),.lst 2 (l.dv.map Dr.av),i64 g.kind,.lst 1 (g.bo.map i64),.lst 1 (g.jo.map i64),i64 g.driver,
  .lst 1 (a.rs.map nR),.lst 4 (a.bs.map Pl.av),.lst 1 (a.ms.map i64),.v .nilIface]
abbrev ci(l:Li)(g:Gr)(a:As):Blk:=.box (PZ l g a)
def rI(e:Nat):AV:=if e=0 then .ptr 900 0 else .v (.pointer none)
def ET(e:Nat)(l:Li)(g:Gr)(a:As):Hp:=if e=0 then[pP 900 (ci l g a)]else[]
theorem lW{e:Nat}(h:e≠0):rI e=.v (.pointer none):=ab5 h
theorem qr{e:Nat}{l:Li}{g:Gr}{a:As}(h:e≠0):ET e l g a=[]:=ab5 h
theorem IQ(l:Li)(g:Gr):cT l g true=fS l g++g.bo:=rfl
theorem JR(l:Li)(g:Gr):cT l g false=fS l g:=by unfold cT;simp
theorem W4{rs:List (List Rt)}{b:Pl}{i:Nat}{x:List Rt}(h:bM rs=0)(hx:b.l[i]?=some x)(hb:∀y∈b.l.take i,co rs.length y=0)(hn:co rs.length x≠0):bB rs b.l=co rs.length x:=vB h hx hb hn
theorem XZ{l:Li}{g:Gr}{a:As}{own:Bool}{j:Nat}{b:Int}(hb:(fe (cT l g own))[j]?=some b)(hj:∀c∈(fe (cT l g own)).take j,gY a c=0)(hn:gY a b≠0):e8 ((fe (cT l g own)).map (gY a))=gY a b:=by
 have h1:fe (cT l g own)=(fe (cT l g own)).take j++b::(fe (cT l g own)).drop (j+1):=by
  obtain⟨hi,e⟩:=Y1.1 hb;rw[<- e,<- Y5 hi,Zc]
 generalize fe (cT l g own)=xs at *;rw[h1,abf,u7 _ _ (pK hj),ab2,Kn,ab6 hn]
theorem A9(l:Li)(hl:l.ok)(k:Int)(a:As)(al:AB a)(own:Bool) :
  Con prog 90 [l.av,i64 k,a.av,bl own] [] (.tup [rI (fP l k a own),bF (fP l k a own)]) (ET (fP l k a own) l (iA l k) a):=by
 have hbl:=al.bl;refine gF func90 (fun k z h=>by cases h) ?_;refine gc (BX l hl) ?_;refine gC (fun y=>?_) (fun y=>?_)
 ·have h1:=dH y;refine gR ?_;rw[NN rfl h1,lW h1,qr h1];exact jg rfl
 have h1:=dD y;obtain⟨hli,hsp⟩:=G3 h1;rw[show(if aN l=0 then splitG l else[])=splitG l from ab6 hli];have hbs:=(dg hli).2.2.2.1;have hgl:=(r5 hli).2;have hsg:splitG l=findG l:=by unfold splitG;rw[ab6 hsp]
 refine cJ ?_;refine gC (fun y=>?_) (fun y=>?_)
 ·have h2:=G6 y;have he:fP l k a own=9:=(rh hli).trans (NT hsp h2);refine gR ?_;rw[he,lW (by decide),qr (by decide)];exact jg rfl
 have h2:=S8 y;refine gl ?_;refine gl ?_;refine gC (fun y=>?_) (fun y=>?_)
 ·have h3:=yG y;have he:fP l k a own=10:=(rh hli).trans (VR hsp h2 h3);refine gR ?_;rw[he,lW (by decide),qr (by decide)];exact jg rfl
 have h3:=Ay y;refine gc (rx a.rs 400000000 al.tr) ?_;refine gC (fun y=>?_) (fun y=>?_)
 ·have h4:=dH y;refine gR ?_;rw[(rh hli).trans (Th hsp h2 h3 h4),lW h4,qr h4];exact jg rfl
 have h4:=dD y;obtain⟨i,rfl,hi⟩:=PO h2;obtain⟨g,hg⟩:=ay hi;obtain⟨hgd,hgo⟩:=mC hli (aap hg);have hgA:iA l (i:Nat)=g:=aq hg;rw[hgA];have he5:fP l (i:Nat) a own=e8 ((fe (cT l g own)).map (gY a)):=by rw[<- hgA];exact(rh hli).trans (JO hsp h2 h3 h4)
 have hnl:(cT l g own).length<=5:=UJ hgo;have hgb:=hgo.lb;have hgj:=hgo.lj;refine gi (aH hg) ?_;refine gt (aE (X3 l hl hli g hgo) (bC rfl rfl) aG rfl rfl) ?_;refine gD ?_;refine gf ?_;refine sP [1,4,6,10] [4,6] [pP 13 (.ms 900 1 0 (cT l g own).length)] [pP 900 (.row 1 ((cT l g own).map i64))] (True) ?_ ?_
 ·intro K1 J1;refine gC (fun y=>?_) (fun y=>?_)
  ·have ho:own=true:=y;subst ho;refine gi (aH hg) ?_;refine gs (cK (.tmp rfl) rfl (by rw[aar,ru]) (.tmp rfl) T46 rfl T3 rfl rfl (by simp only[aar];omega) rfl rfl) ?_;exact kC J1 trivial (hw:=(Wk.of (sl:=[pP 1 (i64 i),pP 4 (.ptr 4 0),pP 6 (.ptr 6 0),pP 10 (.lst 4 ((splitG l).map Gr.av)),pP 13 (.ms 71 1 0 (cT l g true).length)]) (hp:=[pP 4 (.box l.av.cells),pP 6 (.box a.av.cells),pP 71 (.row 1 ((cT l g true).map i64))]) (.k (.k (.k (.k (.cons rfl (Sub.of (by rw[IQ,abi,ru,aar])) .nil))))) (.k (.k (.cons rfl (BlkSub.of (by rw[IQ,abf])) .nil)))).trans<|(Wk.rk (k:=71) (d:=900) rfl rfl).trans<|Wk.o)
  have ho:own=false:=y;subst ho;exact kC J1 trivial (hw:=Wk.of (.cons rfl (Sub.of (by rw[JR,ru])) (.k (.k (.k (.k .nil))))) (.cons rfl (BlkSub.of (by rw[JR])) (.k (.k .nil))))
 rintro -;refine gt (aE (Con.rk 900 rfl rfl (Vf (cT l g own) oz)) (cG rfl) aG rfl rfl) ?_ (17,0);refine gW ((Wk.freeze (k:=900) rfl).trans<|Wk.of (sl:=[pP 1 (i64 i),pP 4 (.ptr 4 0),pP 6 (.ptr 6 0),pP 10 (.lst 4 ((splitG l).map Gr.av)),pP 13 (.lst 1 ((fe (cT l g own)).map i64))]) (hp:=[pP 4 (.box l.av.cells),pP 6 (.box a.av.cells)]) (.k (.k (.k (.k (.cons rfl (Sub.of (b7 (by rw[aar,HK]))) .nil))))) (.k (.k .nil))) ?_;refine gl ?_;refine aW [1,4,6,10,74,75] [4,6] (fun(j:Nat)=>[pP 76 (i64 j)]) (fun _=>[]) (fun j=>j<=(fe (cT l g own)).length/\∀b∈(fe (cT l g own)).take j,gY a b=0) (fun j=>(fe (cT l g own)).length-j) 0 ⟨aa0 _,fun b hb=>by simp at hb⟩ ?_;rintro j ⟨hj,hjz⟩ K2 J2;refine gC (fun y=>?_) (fun y=>?_)
 ·have hjn:=a9 y;obtain ⟨b,hb⟩:=ay hjn;have hbm:=yQ.1 (aap hb);have hbr:=vj hli hgo b hbm;have hsl:(fe (cT l g own)).length <= 5:=by rw [HK]; exact hnl
  refine gi (aH hb) ?_;refine gC (fun y=>?_) (fun y=>?_)
  ·have hz : gY a b = 0 := by unfold gY; rw [ab6 (by simpa [aa] using y)]
   refine ga aS ?_;exact aR J2 (j+1) ⟨hjn,fun c hc=>by rw[dK hb]at hc;rcases aa2.1 hc with h9 |h9;exact hjz c h9;(rw[Za.1 h9];exact hz)⟩
  have hb0:0<=b:=by have:=ab9 (p:=b<0) y;omega
  obtain⟨p,hp⟩:=ay (l:=a.bs) (i:=b.toNat) oz;have hpn:=al.nr p (aap hp);have hnd:gY a b=bB a.rs p.l:=by unfold gY;rw[ab5 oz,aq hp]
  refine gi (gG (n:=b.toNat) oz hp) ?_;refine ge rfl ?_;refine aW [1,4,6,10,74,75,76,95,96] [4,6] (fun(q:Nat)=>[pP 97 (i64 q)]) (fun _=>[]) (fun q=>q<=4/\∀x∈p.l.take q,co a.rs.length x=0) (fun q=>4-q) 0 ⟨aa0 _,fun x hx=>by simp at hx⟩ ?_;rintro q ⟨hq,hqz⟩ K3 J3;refine gC (fun y=>?_) (fun y=>?_)
  ·have hqn:q<4:=a9 (b:=4) y;obtain⟨x,hx⟩:∃x,p.l[q]?=some x:=ay (show q<p.l.length from hqn);have hxn:=hpn x (aap hx);have hone:bB a.rs [x]=co a.rs.length x:=JA h4;refine gi (aH hx) ?_;refine gc (ER a.rs 400000000 al.tr x 50000000000 hxn (Vw _)) ?_;refine gC (fun y=>?_) (fun y=>?_)
   ·have h5:=dH y;rw [hone] at h5 ⊢;have h6:gY a b = co a.rs.length x:=hnd.trans (W4 h4 hx hqz h5);have h7:fP l (i:Nat) a own = co a.rs.length x:=by rw [he5,XZ hb hjz (by rw [h6]; exact h5),h6]
    refine gR ?_;rw[h7,lW h5,qr h5];exact jg rfl
   have h5:=dD y;rw[hone]at h5;refine ga aS ?_;exact aR J3 (q+1) ⟨hqn,fun z hz=>by rw[dK hx]at hz;rcases aa2.1 hz with h9 |h9;exact hqz z h9;(rw[Za.1 h9];exact h5)⟩
  have hqn:q=4:=bn (b:=4) hq y;subst hqn;have hqz:∀x∈p.l,co a.rs.length x=0:=hqz;refine ga aS ?_;exact aR J2 (j+1) ⟨hjn,fun c hc=>by rw[dK hb]at hc;rcases aa2.1 hc with h9 |h9;exact hjz c h9;(rw[Za.1 h9,hnd];exact qU h4 hqz)⟩
 have hjn:=bn hj y
 have h8:fP l (i:Nat) a own=0:=by
  rw[he5];exact pK (fun b hb=>hjz b (by rw[hjn,aa8];exact hb))
 refine gi (aH hg) ?_;refine gD ?_ (77777,0);refine gW (Wk.o (sl:=[pP 8 (.ptr 120 0),pP 9 (.v .nilIface)]) (hp:=[pP 120 (ci l g a)])) ?_ (77777,0);refine gW (Wk.rk (k:=120) (d:=900) rfl rfl) ?_;refine gR ?_;rw[h8];exact aC.keep (bq rfl)
theorem BT{ts:LL}{r e:Nat}(tw:Tw ts r){a b c d:List Rat}(ha:Nm ts.length e a)(hb:Nm ts.length e b)(hc:Nm ts.length e c)(hd:Nm ts.length e d)(he:2*e<=lm ts.length) :
  FP 98 [aT ts,aD a b,aD c d] (.tup [aD (sh ts.length (subT ts (ae ts.length a) (ae ts.length c))) (sh ts.length (subT ts (ae ts.length b) (ae ts.length d))),.v .nilIface]):=by
 refine aj func98 ?_;refine gc (nT (e:=e) tw [(a,b),(c,d)] (by simp only[abd,abb,or_false];rintro p (rfl |rfl);exact⟨ha,hb⟩;exact⟨hc,hd⟩) oz (by simp)) ?_;refine gf ?_;refine gt (aE (Con.rB 21 rfl rfl rfl rfl (rY tw ha hb hc hd he)) (aJ rfl rfl rfl) aG rfl rfl) ?_;refine gt (aE (Con.rB 21 rfl rfl rfl rfl (vA _ _ _)) (bC rfl rfl) aG rfl rfl) ?_;refine bt ?_;rfl
theorem AF{ts:LL}{r e:Nat}(tw:Tw ts r){a b c d:List Rat}(ha:Nm ts.length e a)(hb:Nm ts.length e b)(hc:Nm ts.length e c)(hd:Nm ts.length e d)(he:2*(e+e+kB r ts.length)<=lm ts.length) :
  FP 99 [aT ts,aD a b,aD c d] (.tup [nA (sh ts.length (mY ts (ae ts.length a) (ae ts.length b) (ae ts.length c) (ae ts.length d))),.v .nilIface]):=by
 refine aj func99 ?_;refine gc (Con.sA (.cons (.refl _) (.cons (.refl _) (.cons (.refl _) (.cons (Sub.fn0 _) .nil)))) (IM tw ha hb hc hd oz _ _ (C9 tw ha hb hc hd he))) ?_;refine bt ?_
 first |rfl |(simp;done)
section
variable{ts:LL}{u k:Nat}{a b a2 b2:List Rat}{x y x2 y2:Et ts}{w v w' v' w2 v2 w3 v3:Nat}
theorem Q0 [c : Ct ts u k] [ha : Zl ts u k a x w v] [hb : Zl ts u k b y w' v'] [ha2 : Zl ts u k a2 x2 w2 v2] [hb2 : Zl ts u k b2 y2 w3 v3] (h : w + v + (w' + v') + (w2 + v2 + (w3 + v3)) <= 2500 := by decide) :
  FP 98 [aT ts,aD a b,aD a2 b2] (.tup [aD (sX (x-x2)) (sX (y-y2)),.v .nilIface]):=by
 obtain⟨R,tw,hk⟩:=c.ex;have h0:=Jh c hk;have h1:=BT (e:=2500*1000000) tw (ha.up c oz) (hb.up c oz) (ha2.up c oz) (hb2.up c oz) oz;rw[ha.eq,hb.eq,ha2.eq,hb2.eq]at h1;exact h1
end
variable{P:aci}{N:Nat}{R:Array Oper}{s:AS}{pos:String}{after:Array Edge}
theorem aV{d f k:Nat}{bx:Blk}{args:Array acf}{ts:Array ach}{xs:List AV}{r:AV}{t:ach}
  (hcon:Con P f xs [(k,some bx)] r [(k,some bx)]) (ha:EvL s args.toList xs) (hk:s.blk k=some bx) (hok:iZ s [(k,some bx)] [(k,some bx)] r=true) (hN:X9 d N=true) :
  Step P N R s ⟨some d,.call ⟨.value (.func f),args,ts⟩,t,pos,after,none⟩ ⟨some r,[],eV args.toList,[k]⟩:=by
 refine Step.weaken (aE (d:=d) hcon ha (fun k' z h=>by
  obtain⟨rfl,h9⟩:=fV h;cases h9;exact hk) hok hN) (fun s' h=>h) (fun s' h k' hk'=>?_) (fun s' h=>?_)
 ·left;simp only[abf,dw,ab2,map_nil,aa2,abd,abb,or_false]at hk' ⊢;rcases hk' with h9 |h9 <;> exact h9
 ·intro C m a w hr;refine⟨m,hr.weak (fun t x hx=>⟨x,hx,.refl _⟩) (fun k' x hx=>⟨x,?_,.refl _⟩)⟩;have hb:lk s'.hp k=some bx:=(h.2 k (Za.2 rfl)).trans hk;show lk ([(k,some bx)]++dw [(k,some bx)]++s'.hp) k'=some x;have hx':lk s'.hp k'=some x:=hx;simp only[dw,ab2,map_nil,Y4,nil_append,aY]
  by_cases e:k'=k
  ·rw[ab6 e];rw[e,hb]at hx';exact hx'
  ·rw[ab5 e,ab5 e];exact hx'
theorem mX{k1 k2 k':Nat}{x y:Option Blk}{z:Blk}(h:lk [(k1,x),(k2,y)] k'=some z):(k'=k1/\x=some z)\/(k'≠k1/\k'=k2/\y=some z):=by
 rw[aY]at h
 by_cases e:k'=k1
 ·rw[ab6 e]at h;exact .inl ⟨e,h⟩
 ·rw[ab5 e]at h;obtain⟨h1,h2⟩:=fV h;exact .inr ⟨e,h1,h2⟩
theorem m9{k1 k2:Nat}{x y:Option Blk}:lk [(k1,x),(k2,y)] k1=x:=by rw[aY,ab6 rfl]
theorem oo{k1 k2:Nat}{x y:Option Blk}(h:k1≠k2):lk [(k1,x),(k2,y)] k2=y:=by rw[aY,ab5 (fun e=>h e.symm),aY,ab6 rfl]
theorem KF{k1 k2:Nat}(hne:k1≠k2){x y:Blk}{m:Nat->Option Nat}{b:Nat}:bf [(k1,some x),(k2,some y)] m b↔m k1=some b\/m k2=some b:=by
 constructor
 ·rintro⟨k',z,hz,hb⟩;rcases mX hz with⟨e,_⟩ |⟨_,e,_⟩
  ·exact .inl (e▸hb)
  ·exact .inr (e▸hb)
 ·rintro(h |h)
  ·exact⟨k1,x,m9,h⟩
  ·exact⟨k2,y,oo hne,h⟩
theorem E2{k1 k2 d1 d2:Nat}(hk:k1≠k2)(hd:d1≠d2){x y x' y':Blk}{m m2:Nat->Option Nat}(h1:m2 d1=m k1)(h2:m2 d2=m k2):bf [(d1,some x'),(d2,some y')] m2=bf [(k1,some x),(k2,some y)] m:=by
 funext b;apply propext;rw[KF hk,KF hd,h1,h2]
theorem zF{ext:Nat->Prop}{k1 k2 d1 d2:Nat}(hk:k1≠k2)(hd:d1≠d2){x y x' y':Blk}{m m2:Nat->Option Nat}{w:acj}(h1:m2 d1=m k1)(h2:m2 d2=m k2):Im ext [(d1,some x'),(d2,some y')] m2 w=Im ext [(k1,some x),(k2,some y)] m w:=by
 funext b cs;simp only[Im,E2 hk hd (x:=x) (y:=y) (x':=x') (y':=y') h1 h2]
theorem Ff{ext:Nat->Prop}{k1 k2 d1 d2:Nat}(hk:k1≠k2)(hd:d1≠d2){x y:Blk}{m m2:Nat->Option Nat}{w:acj}(hx:x.nm=[])(hy:y.nm=[])(h1:m2 d1=m k1)(h2:m2 d2=m k2)
  (hr:HeapRel ext [(k1,some x),(k2,some y)] m w):HeapRel ext [(d1,some x),(d2,some y)] m2 w:=by
 refine⟨?_,?_,?_⟩
 ·intro k' z hz;rw[zF hk hd (x:=x) (y:=y) h1 h2];rcases mX hz with⟨rfl,h9⟩ |⟨_,rfl,h9⟩
  ·cases h9;exact BlkRep.mono (w:=w) (fun _ _ h=>h) (fun _ _ h=>h) (fun _ _ hn=>(yt hx hn).elim) h1 (fun _ _=>rfl) (hr.blk k1 _ m9)
  ·cases h9;exact BlkRep.mono (w:=w) (fun _ _ h=>h) (fun _ _ h=>h) (fun _ _ hn=>(yt hy hn).elim) h2 (fun _ _=>rfl) (hr.blk k2 _ (oo hk))
 ·intro k k' z z' b hz hz' hb hb';rcases mX hz with⟨rfl,_⟩ |⟨_,rfl,_⟩ <;> rcases mX hz' with⟨rfl,_⟩ |⟨_,rfl,_⟩
  ·rfl
  ·exact acc (hr.inj k1 k2 _ _ b m9 (oo hk) (h1▸hb) (h2▸hb')) hk
  ·exact acc (hr.inj k1 k2 _ _ b m9 (oo hk) (h1▸hb') (h2▸hb)) hk
  ·rfl
 ·intro k' z b hz hb;rcases mX hz with⟨rfl,h9⟩ |⟨_,rfl,h9⟩
  ·exact hr.sep k1 _ b m9 (h1▸hb)
  ·exact hr.sep k2 _ b (oo hk) (h2▸hb)
theorem Con.rekeyBB{P:aci}{f:FuncId}{k1 k2 o1 o2:Nat}{x y x' y':Blk}{xs:List AV}{r:AV}(d1 d2:Nat)(hk:k1≠k2)(hd:d1≠d2)(hx:x.nm=[])(hy:y.nm=[])(hx':x'.nm=[])(hy':y'.nm=[])(hxs:(xs.all fun x=>x.nm.isEmpty)=true)(hr:r.nm=[])
  (h:Con P f (.ptr k1 o1 :: .ptr k2 o2::xs) [(k1,some x),(k2,some y)] r [(k1,some x'),(k2,some y')]):Con P f (.ptr d1 o1 :: .ptr d2 o2::xs) [(d1,some x),(d2,some y)] r [(d1,some x'),(d2,some y')]:=by
 refine⟨h.ok,?_⟩;intro ext m w vs hext hheap hvs hrep;obtain⟨m2,e1,e2⟩:∃m2:Nat->Option Nat,m2 k1=m d1/\m2 k2=m d2:=⟨fun k=>if k=k1 then m d1 else m d2,ab6 rfl,ab5 (fun e=>hk e.symm)⟩
 have h1 := h.ret ext m2 w vs hext (Ff hd hk hx hy e1 e2 hheap) (by simpa using hvs) (by
  intro j v z hv hz;rw[zF hd hk (x:=x) (y:=y) e1 e2]
  match j,hz with
  |0,hz =>
   cases hz;have h2:=hrep 0 v _ hv rfl;cases h2 with
   |ptr hm=>exact .ptr (e1.trans hm)
  |1,hz =>
   cases hz;have h2:=hrep 1 v _ hv rfl;cases h2 with
   |ptr hm=>exact .ptr (e2.trans hm)
  |j+2,hz =>
   have h2:=hrep (j+2) v z hv hz;refine iW ?_ h2;have:=aa3.1 hxs z (aap hz);simpa using this)
 refine Calls.mono h1 ?_;rintro e w' ⟨v,m',rfl,hf,hh,hn,hkp,hrr⟩;have ho:=E2 hd hk (x:=x) (y:=y) (x':=x) (y':=y) e1 e2;obtain⟨m3,f1,f2⟩:∃m3:Nat->Option Nat,m3 d1=m' k1/\m3 d2=m' k2:=⟨fun k=>if k=d1 then m' k1 else m' k2,ab6 rfl,ab5 (fun e=>hd e.symm)⟩
 refine⟨v,m3,rfl,ho▸hf,Ff hk hd hx' hy' f1 f2 hh,?_,?_,?_⟩
 ·intro k' z b hz hb;rw[<- ho];rcases mX hz with⟨rfl,_⟩ |⟨_,rfl,_⟩
  ·exact hn k1 _ b m9 (f1▸hb)
  ·exact hn k2 _ b (oo hk) (f2▸hb)
 ·intro k' z z' hz hz';rcases mX hz with⟨rfl,_⟩ |⟨_,rfl,_⟩
  ·rw[f1,<- e1];exact hkp k1 _ _ m9 m9
  ·rw[f2,<- e2];exact hkp k2 _ _ (oo hk) (oo hk)
 ·rw[zF hk hd (x:=x') (y:=y') f1 f2];exact iW hr hrr
end Go.Lw
namespace Go.Lw
open Go.Proofs
theorem Kd{l:Li}{body pt:Int}{n k:Nat}{bd:Bd}{m:Mk}(h:MkP l body pt n k bd m):qP (aM l body pt)=.agg [bl m.x.neg,ws m.x.num,ws m.x.den,bl m.y.neg,ws m.y.num,ws m.y.den]:=by
 rw[h.ex,h.ey]
theorem oU{p q:Rat×Rat}{e f:Nat}(hp:Sm e p)(hq:Sm f q)(he:e<=1000000)(hf:f<=1000000):FP 202 [qP p,qP q] (qP (bX p q)):=by
 refine aj func202 ?_;refine gc (xw (hp.x.qs oz) (hq.x.qs oz)) ?_;refine gc (xw (hp.y.qs oz) (hq.y.qs oz)) ?_;refine gD ?_;refine ah ?_
 first |rfl |(simp;done)
theorem G7{p q:Rat×Rat}{e f:Nat}(hp:Sm e p)(hq:Sm f q)(he:e<=1000000)(hf:f<=1000000):FP 329 [qP p,qP q] (qA (b9 p q)):=by
 refine aj func329 ?_;refine gc (vd (hp.x.qs oz) (hq.x.qs oz)) ?_;refine gc (vd (hp.y.qs oz) (hq.y.qs oz)) ?_;refine gc (CG ((hp.x.mul hq.x).qs oz) ((hp.y.mul hq.y).qs oz)) ?_;refine gD ?_;refine ah ?_
 first |rfl |(simp;done)
theorem Wf{p q:Rat×Rat}{e f:Nat}(hp:Sm e p)(hq:Sm f q)(he:e<=1000000)(hf:f<=1000000):FP 212 [qP p,qP q] (qA (qd p q)):=by
 refine aj func212 ?_;refine gc (vd (hp.x.qs oz) (hq.y.qs oz)) ?_;refine gc (vd (hp.y.qs oz) (hq.x.qs oz)) ?_;refine gc (xw ((hp.x.mul hq.y).qs oz) ((hp.y.mul hq.x).qs oz)) ?_;refine gD ?_;refine ah ?_
 first |rfl |(simp;done)
theorem AK{p:Rat×Rat}{e:Nat}(hp:Sm e p)(he:e<=1000000):FP 201 [qP p] (nA (sh 0 (b9 p p:Rat))):=by
 refine aj func201 ?_;refine gc (G7 hp hp he he) ?_;refine gc (mh ((hp.dot hp).qs oz)) ?_;refine ah ?_
 first |rfl |(simp;done)
theorem HP:FP 91 [] (nA (sh 0 ((1:Int):Rat))):=by
 refine aj func91 ?_;refine gc (kH 1 oz) ?_;refine gc (mh (tW oz)) ?_;refine ah ?_
 first |rfl |(simp;done)
theorem nH{l:Li}(hl:l.ok)(hli:aN l=0)(g:Gr)(a:As){body pt:Int}(h1:bA body l.bo.length=true)(h2:bA pt (cO l body).length=true) :
  Con prog 203 [.ptr 1000 0,i64 body,i64 pt] [pP 1000 (ci l g a)] (qP (aM l body pt)) [pP 1000 (ci l g a)]:=by
 obtain⟨n,k,bd,m,mp⟩:=oN hl hli h1 h2;rw[Kd mp];have hn:=mp.hn;have hk:=mp.hk;have hlb:=hl.lb;subst hn;subst hk;refine gF func203 (fun k z h=>bO h) ?_;refine gi (aH mp.gbd) ?_;refine gi (aH mp.gm) ?_;refine gR ?_;exact aC.keep (bq rfl)
theorem pH{E:Nat}{l:Li}(hl:l.ok)(hli:aN l=0)(g:Gr){a:As}(al:AB a)(hc:bM a.rs=0){body pt:Int}(h1:bA body l.bo.length=true)(h2:bA pt (cO l body).length=true)(hE:E<=20000000000)(h3:(llq a.rs).length<=2)(hb:Pd E a body) :
  Con prog 191 [.ptr 1000 0,i64 body,i64 pt] [pP 1000 (ci l g a)] (aD (sX (aZ l a body pt).1) (sX (aZ l a body pt).2)) [pP 1000 (ci l g a)]:=by
 obtain⟨n,k,bd,m,b,hp⟩:=p8 hl hli al hc h1 h2 hb;obtain⟨tw,hta⟩:=db al.tr hc
 have kb:kB 400000000 (llq a.rs).length<=1200000006:=by
  have h9:=gX 400000000 h3;have h8:eB 400000000 2=1200000006:=by decide
  show eB 400000000 _<=_;omega
 have hlm:lm (llq a.rs).length=200000000000:=by unfold lm;rw[ab6 h3]
 have hlb:=hl.lb;have hbl:=al.bl;have hmk:=nH hl hli g a h1 h2;show Con prog _ _ _ (aD (sh (llq a.rs).length (uN l a body pt).1) (sh (llq a.rs).length (uN l a body pt).2)) _;rw[hp.eq];have hn:=hp.mp.hn;rw[Kd hp.mp]at hmk
 have hat:FP 139 [cI a.rs,b.av,m.x.av,m.y.av] (.tup [aD (sh (llq a.rs).length (ph (llq a.rs) b m).1) (sh (llq a.rs).length (ph (llq a.rs) b m).2),.v .nilIface]):=by
  rw[hta,hp.av,hp.mp.ex,hp.mp.ey];have h9:=ye tw (hp.ok.c.mono (f:=E+1000) oz) (hp.ok.s.mono oz) (hp.ok.x.mono oz) (hp.ok.y.mono oz) (hp.mp.sm.x.mono (f:=E+1000) oz) (hp.mp.sm.y.mono (f:=E+1000) oz) oz;unfold ph;rw[hp.mp.ex,hp.mp.ey,cc,cc];exact h9
 refine gF func191 (fun k z h=>bO h) ?_;refine gt (aE hmk (aJ rfl rfl rfl) aG rfl rfl) ?_;refine gi (gG (n:=n) hn hp.gb) ?_;refine gc hat ?_;refine gD ?_;refine gC (fun y=>?_) (fun y=>?_) (st2:=(77777,0))
 ·refine gR ?_;exact aC.keep (bq rfl)
 cases y
theorem uO{E:Nat}(hE:E<=20000000000){l:Li}(hl:l.ok)(hli:aN l=0)(g:Gr)(hg:GrOk l g){a:As}(al:AB a)(hc:bM a.rs=0){k:Nat}{z b:Int}{j:Jt}(hz:g.jo[k]?=some z)(hj:l.jo[z.toNat]?=some j)(h3:(llq a.rs).length<=2)(h:PinP E l a j b) :
  Con prog 197 [.ptr 1000 0,i64 k,i64 b] [pP 1000 (ci l g a)] (.tup [qP (ai l j b),aD (sX (aw l a j b).1) (sX (aw l a j b).2)]) [pP 1000 (ci l g a)]:=by
 obtain⟨z0,z1⟩:=hg.j z (aap hz);obtain⟨i1,i2,i3,i4,_⟩:=cF hli hj;have hgj:=hg.lj;have hlj:=hl.lj;refine gF func197 (fun k z h=>bO h) ?_;refine gi (aH hz) ?_;refine gi (gG (n:=z.toNat) oz hj) ?_;refine gD ?_;refine gC (fun y=>?_) (fun y=>?_)
 ·have e:j.a = b:=cM y;have hb:Pd E a j.b:=by rcases h.tie with h9 | h9; exact h9.2; exact acc e h9.1
  have eq1:ai l j b=aM l b j.point:=ab6 e;have eq2:aw l a j b=aZ l a j.b j.on:=ab6 e;rw[eq1,eq2];subst e;refine gt (aE (nH hl hli g a i1 i3) (aJ rfl rfl rfl) aG rfl rfl) ?_;refine gt (aE (pH hl hli g al hc i2 i4 hE h3 hb) (aJ rfl rfl rfl) aG rfl rfl) ?_;refine gD ?_;refine gR ?_;exact aC.keep (bq rfl)
 have e:j.a≠b:=dk y;have e2:j.b=b/\Pd E a j.a:=by rcases h.tie with h9 |h9;exact acc h9.1 e;exact h9.2
 have eq1:ai l j b=aM l b j.on:=ab5 e;have eq2:aw l a j b=aZ l a j.a j.point:=ab5 e;rw[eq1,eq2];obtain⟨e2,hb⟩:=e2;subst e2;refine gt (aE (nH hl hli g a i2 i4) (aJ rfl rfl rfl) aG rfl rfl) ?_;refine gt (aE (pH hl hli g al hc i1 i3 hE h3 hb) (aJ rfl rfl rfl) aG rfl rfl) ?_;refine gD ?_;refine gR ?_;exact aC.keep (bq rfl)
theorem Ip{l:Li}(hl:l.ok)(hli:aN l=0)(g:Gr)(hg:GrOk l g)(a:As){z b:Int}{j:Jt}(hz:g.jo[2]?=some z)(hj:l.jo[z.toNat]?=some j)(h:j.a=b\/j.b=b) :
  Con prog 198 [.ptr 1000 0,i64 b] [pP 1000 (ci l g a)] (qP (ai l j b)) [pP 1000 (ci l g a)]:=by
 obtain⟨z0,z1⟩:=hg.j z (aap hz);obtain⟨i1,i2,i3,i4,_⟩:=cF hli hj;have hgj:=hg.lj;have hlj:=hl.lj;have h2:=(Y1.1 hz).1;refine gF func198 (fun k z h=>bO h) ?_;refine gi (aH hz) ?_;refine gi (gG (n:=z.toNat) oz hj) ?_;refine gD ?_;refine gC (fun y=>?_) (fun y=>?_)
 ·have e:j.a=b:=cM y;have eq1:ai l j b=aM l b j.point:=ab6 e;rw[eq1];subst e;refine gt (aE (nH hl hli g a i1 i3) (aJ rfl rfl rfl) aG rfl rfl) ?_;refine gR ?_;exact aC.keep (bq rfl)
 have e:j.a≠b:=dk y;have e2:j.b=b:=by rcases h with h9 |h9;exact acc h9 e;exact h9
 have eq1:ai l j b=aM l b j.on:=ab5 e;rw[eq1];subst e2;refine gt (aE (nH hl hli g a i2 i4) (aJ rfl rfl rfl) aG rfl rfl) ?_;refine gR ?_;exact aC.keep (bq rfl)
theorem yu{l:Li}(hl:l.ok)(g:Gr)(hg:GrOk l g)(a:As){z:Int}{j:Jt}(hz:g.jo[1]?=some z)(hj:l.jo[z.toNat]?=some j) :
  Con prog 190 [.ptr 1000 0] [pP 1000 (ci l g a)] j.av [pP 1000 (ci l g a)]:=by
 obtain⟨z0,z1⟩:=hg.j z (aap hz);have hgj:=hg.lj;have hlj:=hl.lj;have h2:=(Y1.1 hz).1;refine gF func190 (fun k z h=>bO h) ?_;refine gi (aH hz) ?_;refine gi (gG (n:=z.toNat) oz hj) ?_;refine gD ?_;refine gR ?_;exact aC.keep (bq rfl)
abbrev Up{ts:LL}(p:Rat×Rat)(at_:Et ts×Et ts)(c:Rat×Rat):List AV :=
  [bl (rt p.1).neg,ws (rt p.1).num,ws (rt p.1).den,bl (rt p.2).neg,ws (rt p.2).num,ws (rt p.2).den,nA (sX at_.1),nA (sX at_.2),bl (rt c.1).neg,ws (rt c.1).num,ws (rt c.1).den,bl (rt c.2).neg,ws (rt c.2).num,ws (rt c.2).den]
abbrev vO{ts:LL}(p:Rat×Rat)(at_:Et ts×Et ts)(c:Rat×Rat):AV:=.agg (Up p at_ c)
abbrev SU{ts:LL}(p:Rat×Rat)(at_:Et ts×Et ts)(c:Rat×Rat):AV:=.agg [nA (sX at_.1),nA (sX at_.2),nA (sh 0 (ba c p:Rat))]
theorem qG{ts:LL}{p c:Rat×Rat}(hp:Sm 1000 p)(hc:Sm 1000 c)(at_:Et ts×Et ts):FP 95 [vO p at_ c] (SU p at_ c):=by
 refine aj func95 ?_;refine gc (oU hc hp oz oz) ?_;refine gc (AK (hc.sub hp) oz) ?_;refine gD ?_;refine ah ?_
 first |rfl |(simp;done)
theorem CY{E:Nat}{l:Li}(hl:l.ok)(hli:aN l=0){a:As}(al:AB a)(hc:bM a.rs=0)(h3:(llq a.rs).length<=2){i k z0 z1 z2:Int}{j0 j1 j2:Jt}(hg:GrOk l ⟨1,[i,k],[z0,z1,z2],0⟩)
  (h0:l.jo[z0.toNat]?=some j0) (h1:l.jo[z1.toNat]?=some j1) (h2:l.jo[z2.toNat]?=some j2) (p0:PinP E l a j0 i) (p1:PinP E l a j1 k) (t1:j2.a=i\/j2.b=i) (t2:j2.a=k\/j2.b=k) (hE:E<=20000000000:=by omega) :
  Con prog 92 [.ptr 1000 0] [pP 1000 (ci l ⟨1,[i,k],[z0,z1,z2],0⟩ a)] (.tup [vO (ai l j0 i) (aw l a j0 i) (ai l j2 i),vO (ai l j1 k) (aw l a j1 k) (ai l j2 k)]) [pP 1000 (ci l ⟨1,[i,k],[z0,z1,z2],0⟩ a)]:=by
 refine gF func92 (fun k z h=>bO h) ?_;refine gi (rfl) ?_;refine gi (rfl) ?_;refine gD ?_;refine gt (aE (uO oz hl hli _ hg al hc (k:=0) rfl h0 h3 p0) (.cons (.tmp rfl) (.cons (.const _) (cG rfl))) aG rfl rfl) ?_;refine gt (aE (uO oz hl hli _ hg al hc (k:=1) rfl h1 h3 p1) (.cons (.tmp rfl) (.cons (.const _) (cG rfl))) aG rfl rfl) ?_;refine gt (aE (Ip hl hli _ hg a rfl h2 t1) (bC rfl rfl) aG rfl rfl) ?_;refine gt (aE (Ip hl hli _ hg a rfl h2 t2) (bC rfl rfl) aG rfl rfl) ?_;refine gD ?_;refine gR ?_;exact aC.keep (bq rfl)
theorem zO{E:Nat}{l:Li}(hl:l.ok)(hli:aN l=0){a:As}(al:AB a)(hc:bM a.rs=0)(h3:(llq a.rs).length<=2){i z0 z1:Int}{j0 j1:Jt}(hg:GrOk l ⟨2,[i],[z0,z1],0⟩)
  (h0:l.jo[z0.toNat]?=some j0) (h1:l.jo[z1.toNat]?=some j1) (p0:PinP E l a j0 i) (ha:j1.a=i) (hk:j1.kind≠0) (hb:Pd E a j1.b) (hE:E<=20000000000:=by omega) :
  Con prog 96 [.ptr 1000 0] [pP 1000 (ci l ⟨2,[i],[z0,z1],0⟩ a)] (.tup [vO (ai l j0 i) (aw l a j0 i) (aM l i j1.point),aD (sX (aZ l a j1.b j1.on).1) (sX (aZ l a j1.b j1.on).2),aD (sX (aZ l a j1.b j1.to).1) (sX (aZ l a j1.b j1.to).2)]) [pP 1000 (ci l ⟨2,[i],[z0,z1],0⟩ a)]:=by
 obtain⟨i1,i2,i3,i4,i5⟩:=cF hli h1;rw[ha]at i1 i3;refine gF func96 (fun k z h=>bO h) ?_;refine gi (rfl) ?_;refine gt (aV (yu hl _ hg a rfl h1) (cG rfl) rfl rfl rfl) ?_;refine gD ?_;refine gt (aE (uO oz hl hli _ hg al hc (k:=0) rfl h0 h3 p0) (.cons (.tmp rfl) (.cons (.const _) (cG rfl))) aG rfl rfl) ?_;refine gt (aE (nH hl hli _ a i1 i3) (aJ rfl rfl rfl) aG rfl rfl) ?_;refine gt (aE (pH hl hli _ al hc i2 i4 oz h3 hb) (aJ rfl rfl rfl) aG rfl rfl) ?_;refine gt (aE (pH hl hli _ al hc i2 (i5 hk) oz h3 hb) (aJ rfl rfl rfl) aG rfl rfl) ?_;refine gD ?_;refine gR ?_;exact aC.keep (bq rfl)
structure Vr where
  w:List Rt
  x:List Rt
  y:List Rt
instance:Inhabited Vr:=⟨⟨[],[],[]⟩⟩
def Vr.av(v:Vr):AV:=.agg [nR v.w,nR v.x,nR v.y]
def Vr.l(v:Vr):List (List Rt):=[v.w,v.x,v.y]
abbrev bR(rs:List (List Rt)):Blk:=.box [.lst 1 (rs.map nR),.v .nilIface]
theorem lO(rs:List (List Rt))(a:List Rat):Con prog 93 [.ptr 1000 0,nA a,.v .nilIface] [pP 1000 (bR rs)] (nA a) [pP 1000 (bR rs)]:=by
 refine gF func93 (fun k z h=>bO h) ?_;refine gC (fun y=>?_) (fun y=>?_) (st2:=(77777,0))
 ·refine gR ?_;exact aC.keep (bq rfl)
 cases y
theorem kX(rs:List (List Rt))(a b:List Rat):Con prog 97 [.ptr 1000 0,aD a b,.v .nilIface] [pP 1000 (bR rs)] (aD a b) [pP 1000 (bR rs)]:=by
 refine gF func97 (fun k z h=>bO h) ?_;refine gC (fun q=>?_) (fun q=>?_) (st2:=(77777,0))
 ·refine gR ?_;exact aC.keep (bq rfl)
 cases q
abbrev qk(f:FuncId)(rs:List (List Rt))(a b c:List Rat):Prop:=Con prog f [.ptr 1000 0,nA a,nA b] [pP 1000 (bR rs)] (nA c) [pP 1000 (bR rs)]
section
variable{rs:List (List Rt)}{r u k:Nat}{a b c:List Rat}{x y:Et (llq rs)}{w v w' v':Nat}
theorem ve(hx:FP 210 [.agg [.lst 1 (rs.map nR)],nA a,nA b] (.tup [nA c,.v .nilIface])):Con prog 101 [.ptr 1000 0,nA a,nA b] [pP 1000 (bR rs)] (nA c) [pP 1000 (bR rs)]:=by
 refine gF func101 (fun k z h=>bO h) ?_;refine gc hx ?_;refine gt (aE (lO _ _) (aJ rfl rfl rfl) aG rfl rfl) ?_;refine gR ?_;exact aC.keep (bq rfl)
theorem yL(hx:FP 209 [.agg [.lst 1 (rs.map nR)],nA a,nA b] (.tup [nA c,.v .nilIface])):Con prog 100 [.ptr 1000 0,nA a,nA b] [pP 1000 (bR rs)] (nA c) [pP 1000 (bR rs)]:=by
 refine gF func100 (fun k z h=>bO h) ?_;refine gc hx ?_;refine gt (aE (lO _ _) (aJ rfl rfl rfl) aG rfl rfl) ?_;refine gR ?_;exact aC.keep (bq rfl)
theorem KT (h : TR rs r) (hc : bM rs = 0) [c0 : Ct (llq rs) u k] [ha : Zl (llq rs) u k a x w v] [hb : Zl (llq rs) u k b y w' v'] (hs : w + v + (w' + v') <= 10000 := by decide) :
  Con prog 101 [.ptr 1000 0,nA a,nA b] [pP 1000 (bR rs)] (nA (sX (x*y))) [pP 1000 (bR rs)]:=by
 have hx:=KU (ha:=ha) (hb:=hb) hs;rw[jD h hc]at hx;exact ve hx
theorem M1 (h : TR rs r) (hc : bM rs = 0) [c0 : Ct (llq rs) u k] [ha : Zl (llq rs) u k a x w v] [hb : Zl (llq rs) u k b y w' v'] (hs : w + v + (w' + v') <= 10000 := by decide) :
  Con prog 100 [.ptr 1000 0,nA a,nA b] [pP 1000 (bR rs)] (nA (sX (x-y))) [pP 1000 (bR rs)]:=by
 have hx:=Dp (ha:=ha) (hb:=hb) hs;rw[jD h hc]at hx;exact yL hx
end
structure DyW(l:Li)(a:As):Prop where
  hl:l.ok
  li:aN l=0
  al:AB a
  hc:bM a.rs=0
structure DyR(l:Li)(a:As):Prop extends DyW l a where
  s:DyS a
theorem DyR.two{l:Li}{a:As}(D:DyR l a):(llq a.rs).length<=2:=abe (D.s.one D.hc) oz
theorem zR{n:Nat}(hn:n<=1):kB 64990 n<=65000:=by
 have h1:=gX 64990 hn;have h2:eB 64990 1=64992:=by simp only[eB]
 show eB 64990 _<=_;omega
theorem oM{n:Nat}(h3:n<=2):kB 400000000 n<=1200000006:=by
 have h9:=gX 400000000 h3;have h8:eB 400000000 2=1200000006:=by decide
 show eB 400000000 _<=_;omega
abbrev pz(l:Li)(a:As)(i:Int)(j0 j:Jt):List AV :=
  qC (ai l j0 i)++([nA (sX (aw l a j0 i).1),nA (sX (aw l a j0 i).2)]++(qC (cw l i j)++[nA (sh 0 (bP l i j0 j:Rat)),nA (sh 0 (ft l i j:Rat)),nA (sX (bY l a i j0 j)),nA (sX (bT l a i j0 j).1),nA (sX (bT l a i j0 j).2)]))
theorem Hc{l:Li}{a:As}(D:DyR l a){n:Nat}{i:Int}{j0 j:Jt}(h0:l.jo[n]?=some j0)(p0:PinP 3900000 l a j0 i){m:Nat}(h1:l.jo[m]?=some j)(hb:Pd 3900000 a j.a) :
  Zu 310000 65000 (bT l a i j0 j).1 80 81/\Zu 310000 65000 (bT l a i j0 j).2 80 81:=by
 obtain⟨i1,i2,i3,i4,_⟩:=cF D.li h1;obtain⟨z1,z2⟩:=mI D.hl D.li D.al D.s D.hc h0 p0;obtain⟨y1,y2⟩:=mV D.hl D.li D.al D.s D.hc i1 i3 hb;haveI c:=D.s.ct D.hc;haveI:=z1;haveI:=z2;haveI:=y1;haveI:=y2
 exact⟨(ace:Zu 310000 65000 ((aZ l a j.a j.point).1-(aw l a j0 i).1) _ _),(ace:Zu 310000 65000 ((aZ l a j.a j.point).2-(aw l a j0 i).2) _ _)⟩
theorem BH{E:Nat}(hE:E<=20000000000){l:Li}{a:As}(D:DyW l a)(h3:(llq a.rs).length<=2){i z0 z1:Int}{j0 j:Jt}(hg:GrOk l ⟨3,[i],[z0,z1],0⟩)
  (h0:l.jo[z0.toNat]?=some j0) (h1:l.jo[z1.toNat]?=some j) (p0:PinP E l a j0 i) (hi:j.b=i) (hk:j.kind≠0) (hb:Pd E a j.a)
  (hsub:FP 98 [.agg [.lst 1 (a.rs.map nR)],aD (sX (aZ l a j.a j.point).1) (sX (aZ l a j.a j.point).2),aD (sX (aw l a j0 i).1) (sX (aw l a j0 i).2)] (.tup [aD (sX (bT l a i j0 j).1) (sX (bT l a i j0 j).2),.v .nilIface]))
  (hdot:FP 102 [.agg [.lst 1 (a.rs.map nR)],aD (sX (bT l a i j0 j).1) (sX (bT l a i j0 j).2),aD (sX (bT l a i j0 j).1) (sX (bT l a i j0 j).2)] (.tup [nA (sX (bY l a i j0 j)),.v .nilIface])) :
  Con prog 103 [.ptr 1000 0,.ptr 1001 0] [pP 1000 (ci l ⟨3,[i],[z0,z1],0⟩ a),pP 1001 (bR a.rs)] (.agg (pz l a i j0 j)) [pP 1000 (ci l ⟨3,[i],[z0,z1],0⟩ a),pP 1001 (bR a.rs)]:=by
 obtain⟨i1,i2,i3,i4,i5⟩:=cF D.li h1;have hs0:Sm 1000 (ai l j0 i):=d7 D.hl D.li h0 (by rcases p0.tie with h9 |h9;exact .inl h9.1;exact .inr h9.2.1);subst hi;have hs1:=iu D.hl D.li i2 i4;have hs2:=iu D.hl D.li i2 (i5 hk);have hv:=hs2.sub hs1;refine gF func103 (fun k z h=>V9 h) ?_;refine gi (rfl) ?_;refine gt (aV (yu D.hl _ hg a rfl h1) (cG rfl) rfl rfl rfl) ?_;refine gD ?_;refine gt (aE (uO hE D.hl D.li _ hg D.al D.hc (k:=0) rfl h0 h3 p0) (.cons (.tmp rfl) (.cons (.const _) (cG rfl))) aG rfl rfl) ?_;refine gt (aV (nH D.hl D.li _ a i2 i4) (aJ rfl rfl rfl) rfl rfl rfl) ?_;refine gt (aV (nH D.hl D.li _ a i2 (i5 hk)) (aJ rfl rfl rfl) rfl rfl rfl) ?_;refine gc (oU hs2 hs1 oz oz) ?_;refine gD ?_;refine gc (oU hs1 hs0 oz oz) ?_;refine gc (Wf hv (hs1.sub hs0) oz oz) ?_;refine gc (mh ((hv.cross (hs1.sub hs0)).qs oz)) ?_;refine gc (AK hv oz) ?_;refine gD ?_;refine gt (aE (pH D.hl D.li _ D.al D.hc i1 i3 hE h3 hb) (aJ rfl rfl rfl) aG rfl rfl) ?_;refine gC (fun y=>?_) (fun y=>?_) (st2:=(77777,0))
 ·refine gc hsub ?_;refine gt (aE (Con.rB 1001 rfl rfl rfl rfl (kX _ _ _)) (aJ rfl rfl rfl) aG rfl rfl) ?_;refine gD ?_;refine gc hdot ?_;refine gt (aE (Con.rB 1001 rfl rfl rfl rfl (lO _ _)) (aJ rfl rfl rfl) aG rfl rfl) ?_;refine gD ?_;refine gR ?_;exact aC.keep (mD rfl rfl)
 cases y
theorem LI{l:Li}{a:As}(D:DyR l a){i z0 z1:Int}{j0 j:Jt}(hg:GrOk l ⟨3,[i],[z0,z1],0⟩)
  (h0:l.jo[z0.toNat]?=some j0) (h1:l.jo[z1.toNat]?=some j) (p0:PinP 3900000 l a j0 i) (hi:j.b=i) (hk:j.kind≠0) (hb:Pd 3900000 a j.a) :
  Con prog 103 [.ptr 1000 0,.ptr 1001 0] [pP 1000 (ci l ⟨3,[i],[z0,z1],0⟩ a),pP 1001 (bR a.rs)] (.agg (pz l a i j0 j)) [pP 1000 (ci l ⟨3,[i],[z0,z1],0⟩ a),pP 1001 (bR a.rs)]:=by
 obtain⟨i1,i2,i3,i4,i5⟩:=cF D.li h1;obtain⟨z1',z2'⟩:=mI D.hl D.li D.al D.s D.hc h0 p0;obtain⟨y1,y2⟩:=mV D.hl D.li D.al D.s D.hc i1 i3 hb;obtain⟨w1,w2⟩:=Hc D h0 p0 h1 hb;haveI c:=D.s.ct D.hc;haveI:=z1';haveI:=z2';haveI:=y1;haveI:=y2;haveI:=w1;haveI:=w2
 have hsub:=Q0 (ts:=llq a.rs) (u:=310000) (k:=65000) (a:=sX (aZ l a j.a j.point).1) (b:=sX (aZ l a j.a j.point).2) (a2:=sX (aw l a j0 i).1) (b2:=sX (aw l a j0 i).2);have hdot:=O8 (ts:=llq a.rs) (u:=310000) (k:=65000) (a:=sX (bT l a i j0 j).1) (b:=sX (bT l a i j0 j).2) (a2:=sX (bT l a i j0 j).1) (b2:=sX (bT l a i j0 j).2);rw[jD D.s.tr D.hc]at hsub hdot;exact BH oz D.toDyW D.two hg h0 h1 p0 hi hk hb hsub hdot
theorem Dy{l:Li}{a:As}{i:Int}{j0 j:Jt}{p1 p2 p3:List Rat}(m1:qk 101 a.rs (sh 0 (ft l i j:Rat)) (sX (bY l a i j0 j)) p1)(m2:qk 101 a.rs (sh 0 (bP l i j0 j:Rat)) (sh 0 (bP l i j0 j:Rat)) p2)(m3:qk 100 a.rs p1 p2 p3) :
  Con prog 104 [.agg (pz l a i j0 j),.ptr 1001 0] [pP 1001 (bR a.rs)] (nA p3) [pP 1001 (bR a.rs)]:=by
 refine gF func104 (fun k z h=>by have:=(fV h).1;omega) ?_;refine gt (aE (Con.rB 1001 rfl rfl rfl rfl m1) (aJ rfl rfl rfl) aG rfl rfl) ?_;refine gt (aE (Con.rB 1001 rfl rfl rfl rfl m2) (aJ rfl rfl rfl) aG rfl rfl) ?_;refine gt (aE (Con.rB 1001 rfl rfl rfl rfl m3) (aJ rfl rfl rfl) aG rfl rfl) ?_;refine gD ?_;refine gR ?_;exact aC.keep (bq rfl)
theorem MI{l:Li}{a:As}(D:DyR l a){i:Int}{j0 j:Jt}{w v:Nat}[z1:Zl (llq a.rs) 310000 65000 (sh 0 (bP l i j0 j:Rat)) (qE (bP l i j0 j)) 3 0][z2:Zl (llq a.rs) 310000 65000 (sh 0 (ft l i j:Rat)) (qE (ft l i j)) 3 0][z3:Zu 310000 65000 (bY l a i j0 j) w v](hw:w+v<=2000) :
  Con prog 104 [.agg (pz l a i j0 j),.ptr 1001 0] [pP 1001 (bR a.rs)] (nA (sX (qE (ft l i j)*bY l a i j0 j-qE (bP l i j0 j)*qE (bP l i j0 j)))) [pP 1001 (bR a.rs)]:=by
 haveI c:=D.s.ct D.hc;haveI:=z1.zu;haveI:=z2.zu
 exact Dy (KT (a:=sh 0 (ft l i j:Rat)) (b:=sX (bY l a i j0 j)) D.s.tr D.hc oz) (KT (a:=sh 0 (bP l i j0 j:Rat)) (b:=sh 0 (bP l i j0 j:Rat)) D.s.tr D.hc oz)
  (M1 (a:=sX (qE (ft l i j)*bY l a i j0 j)) (b:=sX (qE (bP l i j0 j)*qE (bP l i j0 j):Et (llq a.rs))) D.s.tr D.hc oz)
abbrev Ci:Type:=List Rat×List Rat×List Rat
abbrev Bt(c:Ci):AV:=.agg [nA c.1,nA c.2.1,nA c.2.2]
structure CiZ(rs:List (List Rt))(c:Ci):Prop where
  x:Nm (llq rs).length 2500000000 c.1
  y:Nm (llq rs).length 2500000000 c.2.1
  r:Nm (llq rs).length 2500000000 c.2.2
  sg:0<=ao (dE (llq rs) c.2.2)
theorem IY{ts:LL}(p q:Et ts×Et ts):dotE (q.1-p.1) (q.2-p.2) (q.1-p.1) (q.2-p.2)=aA p q:=by
 unfold aA dm aQ dotE;dsimp only;grind
theorem Dd{ts:LL}(c:Ct ts 310000 65000){x y x2 y2:Et ts}(h1:Zu 310000 65000 x 40 40)(h2:Zu 310000 65000 y 40 40)(h3:Zu 310000 65000 x2 40 40)(h4:Zu 310000 65000 y2 40 40):Zu 310000 65000 (aA (x,y) (x2,y2)) 320 327:=by
 haveI:=c;haveI:=h1;haveI:=h2;haveI:=h3;haveI:=h4
 exact(ace:Zu 310000 65000 (dotE (x-x2) (y-y2) (x-x2) (y-y2)) _ _)
section
variable{rs:List (List Rt)}{r:Nat}{a b c a2 b2 c2:List Rat}
theorem FK(h:TR rs r)(hc:bM rs=0){e:Nat}(ha:Nm (llq rs).length e a)(hb:Nm (llq rs).length e b)(he:e<=lm (llq rs).length):FP 342 [cI rs,aD a b] (.v .nilIface):=by
 obtain⟨tw,etw⟩:=db h hc;have hca:=nT tw [(a,b)] (fun p hp=>by rw[Za.1 hp];exact⟨ha,hb⟩) he (by show 1<=500;omega);rw[<- etw]at hca;refine aj func342 ?_;refine gc hca ?_;refine ah ?_;rfl
theorem GJ(h:TR rs r)(hc:bM rs=0){e:Nat}(ha:Nm (llq rs).length e a)(hb:Nm (llq rs).length e b)(hn:Nm (llq rs).length e c)(he:e+1<=lm (llq rs).length):FP 321 [cI rs,.agg [nA a,nA b,nA c]] (.v .nilIface):=by
 obtain⟨tw,etw⟩:=db h hc;have hneg:=BL tw hn oz;rw[<- etw]at hneg;refine aj func321 ?_;refine gc (FK h hc ha hb oz) ?_;refine gf ?_;refine gc hneg ?_;refine ah ?_;rfl
theorem DW(h:TR rs r)(hc:bM rs=0)(cs:List Ci)(hz:∀c∈cs,CiZ rs c)(hl:cs.length<=100):FP 322 [cI rs,.lst 3 (cs.map Bt)] (.v .nilIface):=by
 obtain⟨tw,etw⟩:=db h hc;have hlm:=j5 (llq rs).length;refine aj func322 ?_;refine gl ?_;refine aW [2,9,10] [2] (fun(i:Nat)=>[pP 11 (i64 i)]) (fun _=>[]) (fun i=>i<=cs.length) (fun i=>cs.length-i) 0 (aa0 _) ?_;rintro i hi K1 J1;refine gC (fun y=>?_) (fun y=>?_)
 ·have hin:=a9 y;obtain⟨z,hzi⟩:=ay hin;have hz9:=hz z (aap hzi);have hs:=rE tw hz9.r oz;rw[<- etw]at hs;refine gi (aH hzi) ?_;refine gc hs ?_;refine gf ?_;refine gC (fun y=>?_) (fun y=>?_) (st1:=(8,0));exact acc y (by have h9:=hz9.sg;unfold ao dE at h9;simp only[aa,ab7];omega);refine ga aS ?_;exact aR J1 (i+1) hin
 refine ah ?_;rfl
theorem IS(h:TR rs r)(hc:bM rs=0)(cs:List Ci)(hz:∀c∈cs,CiZ rs c)(hl:cs.length<=100):FP 199 [cI rs,.lst 3 (cs.map Bt)] (.v .nilIface):=by
 have hlm:=j5 (llq rs).length;have hck:=rx rs r h;rw[hc]at hck;refine aj func199 ?_;refine gc hck ?_;refine gf ?_;refine gl ?_;refine aW [1,2,14,15] [2] (fun(i:Nat)=>[pP 16 (i64 i)]) (fun _=>[]) (fun i=>i<=cs.length) (fun i=>cs.length-i) 0 (aa0 _) ?_;rintro i hi K1 J1;refine gC (fun y=>?_) (fun y=>?_)
 ·have hin:=a9 y;obtain⟨z,hzi⟩:=ay hin;have hz9:=hz z (aap hzi);refine gi (aH hzi) ?_;refine gc (GJ h hc hz9.x hz9.y hz9.r oz) ?_;refine gf ?_;refine ga aS ?_;exact aR J1 (i+1) hin
 refine gc (DW h hc cs hz hl) ?_;refine ah ?_;rfl
theorem HR(hc:bM rs=0)(h:TR rs r){R e:Nat}(tw:Tw (llq rs) R){x y x2 y2:Et (llq rs)}(n1:Nm (llq rs).length e a)(n2:Nm (llq rs).length e b)(n4:Nm (llq rs).length e a2)(n5:Nm (llq rs).length e b2)(e1:ae (llq rs).length a=x)(e2:ae (llq rs).length b=y)(e4:ae (llq rs).length a2=x2)(e5:ae (llq rs).length b2=y2)(he:8*e+2*kB R (llq rs).length+8<=lm (llq rs).length) :
  FP 324 [cI rs,aD a b,aD a2 b2] (.tup [nA (sX (aA (x,y) (x2,y2))),.v .nilIface]):=by
 obtain⟨_,etw⟩:=db h hc
 have hca:=nT tw [(a,b),(a2,b2)] (e:=e) (fun p hp=>by
  simp only[abd,abb,or_false]at hp;rcases hp with rfl |rfl
  ·exact⟨n1,n2⟩
  ·exact⟨n4,n5⟩) oz (by show 2<=500;omega)
 rw[<- etw]at hca;have hle:=rY tw n4 n5 n1 n2 oz;have m1:=n4.sub n1;have m2:=n5.sub n2;have hdo:=Br tw m1 m2 m1 m2 oz;rw[e1,e2,e4,e5]at hle;rw[e1,e2,e4,e5,bh,bh]at hdo;have hd2:=IY (x,y) (x2,y2);refine aj func324 ?_;refine gc hca ?_;refine gf ?_ (5,0);refine gW (Wk.of (sl:=[pP 4 (.ptr 4 0),pP 5 (.ptr 5 0),pP 9 (.ptr 21 0)]) (hp:=[pP 4 (.box [nA a,nA b]),pP 5 (.box [nA a2,nA b2]),pP 21 (.box [.lst 1 ((llq rs).map nA),.v .nilIface])]) bb (.k (.k (.cons rfl (BlkSub.bL (.cons (.of (mt etw)) (.cons (.refl _) .nil)) rfl) .nil)))) ?_;refine gt (aE (Con.rB 21 rfl rfl rfl rfl hle) (aJ rfl rfl rfl) aG rfl rfl) ?_;refine gt (aE (Con.rB 21 rfl rfl rfl rfl hdo) (aJ rfl rfl rfl) aG rfl rfl) ?_;refine gt (aE (Con.rB 21 rfl rfl rfl rfl (xR _ _)) (bC rfl rfl) aG rfl rfl) ?_;refine bt ?_;rw[<- hd2];rfl
theorem SA(h:TR rs r)(hc:bM rs=0){x y x2 y2:Et (llq rs)}[c0:Ct (llq rs) 310000 65000][i1:Zl (llq rs) 310000 65000 a x 40 40][i2:Zl (llq rs) 310000 65000 b y 40 40][i4:Zl (llq rs) 310000 65000 a2 x2 40 40][i5:Zl (llq rs) 310000 65000 b2 y2 40 40] :
  FP 324 [cI rs,aD a b,aD a2 b2] (.tup [nA (sX (aA (x,y) (x2,y2))),.v .nilIface]):=by
 obtain⟨R,tw,hk⟩:=c0.ex;have kk:=c0.kk hk;have hlm:=j5 (llq rs).length;exact HR hc h tw (e:=40*310000+40*65000) i1.nm i2.nm i4.nm i5.nm i1.eq i2.eq i4.eq i5.eq oz
theorem uo(rs:List (List Rt))(a:List Rat):Con prog 323 [.ptr 1000 0,nA a,.v .nilIface] [pP 1000 (bR rs)] (nA a) [pP 1000 (bR rs)]:=by
 refine gF func323 (fun k z h=>bO h) ?_;refine gC (fun y=>?_) (fun y=>?_) (st2:=(77777,0))
 ·refine gR ?_;exact aC.keep (bq rfl)
 cases y
abbrev pb(f:FuncId)(rs:List (List Rt))(v:AV)(b c:List Rat):Prop:=Con prog f [.ptr 1000 0,v,nA b] [pP 1000 (bR rs)] (nA c) [pP 1000 (bR rs)]
theorem ES(hx:FP 250 [.agg [.lst 1 (rs.map nR)],nA a,nA b] (.tup [nA c,.v .nilIface])):Con prog 326 [.ptr 1000 0,nA a,nA b] [pP 1000 (bR rs)] (nA c) [pP 1000 (bR rs)]:=by
 refine gF func326 (fun k z h=>bO h) ?_;refine gc hx ?_;refine gt (aE (uo _ _) (aJ rfl rfl rfl) aG rfl rfl) ?_;refine gR ?_;exact aC.keep (bq rfl)
theorem CS(hx:FP 209 [.agg [.lst 1 (rs.map nR)],nA a,nA b] (.tup [nA c,.v .nilIface])):Con prog 325 [.ptr 1000 0,nA a,nA b] [pP 1000 (bR rs)] (nA c) [pP 1000 (bR rs)]:=by
 refine gF func325 (fun k z h=>bO h) ?_;refine gc hx ?_;refine gt (aE (uo _ _) (aJ rfl rfl rfl) aG rfl rfl) ?_;refine gR ?_;exact aC.keep (bq rfl)
theorem wc(hx:FP 210 [.agg [.lst 1 (rs.map nR)],nA a,nA b] (.tup [nA c,.v .nilIface])):Con prog 328 [.ptr 1000 0,nA a,nA b] [pP 1000 (bR rs)] (nA c) [pP 1000 (bR rs)]:=by
 refine gF func328 (fun k z h=>bO h) ?_;refine gc hx ?_;refine gt (aE (uo _ _) (aJ rfl rfl rfl) aG rfl rfl) ?_;refine gR ?_;exact aC.keep (bq rfl)
theorem J7(n:Int)(hn:-9223372036854775808<=n/\n<=9223372036854775807)(hm:pb 328 rs (nA (sh 0 ((n:Rat):Rat))) a c):Con prog 327 [.ptr 1000 0,i64 n,nA a] [pP 1000 (bR rs)] (nA c) [pP 1000 (bR rs)]:=by
 refine gF func327 (fun k z h=>bO h) ?_;refine gc (kH n hn) ?_;refine gc (mh (tW hn)) ?_;refine gt (aE hm (aJ rfl rfl rfl) aG rfl rfl) ?_;refine gR ?_;exact aC.keep (bq rfl)
end
section
variable{rs:List (List Rt)}{r u k:Nat}{a b:List Rat}{x y:Et (llq rs)}{w v w' v':Nat}
theorem UT (h : TR rs r) (hc : bM rs = 0) [c0 : Ct (llq rs) u k] [ha : Zl (llq rs) u k a x w v] [hb : Zl (llq rs) u k b y w' v'] (hs : w + v + (w' + v') <= 10000 := by decide) :
  Con prog 326 [.ptr 1000 0,nA a,nA b] [pP 1000 (bR rs)] (nA (sX (x+y))) [pP 1000 (bR rs)]:=by
 have hx:=PU (ha:=ha) (hb:=hb) hs;rw[jD h hc]at hx;exact ES hx
theorem JE (h : TR rs r) (hc : bM rs = 0) [c0 : Ct (llq rs) u k] [ha : Zl (llq rs) u k a x w v] [hb : Zl (llq rs) u k b y w' v'] (hs : w + v + (w' + v') <= 10000 := by decide) :
  Con prog 325 [.ptr 1000 0,nA a,nA b] [pP 1000 (bR rs)] (nA (sX (x-y))) [pP 1000 (bR rs)]:=by
 have hx:=Dp (ha:=ha) (hb:=hb) hs;rw[jD h hc]at hx;exact CS hx
theorem BE (h : TR rs r) (hc : bM rs = 0) [c0 : Ct (llq rs) u k] [ha : Zl (llq rs) u k a x w v] [hb : Zl (llq rs) u k b y w' v'] (hs : w + v + (w' + v') <= 10000 := by decide) :
  Con prog 328 [.ptr 1000 0,nA a,nA b] [pP 1000 (bR rs)] (nA (sX (x*y))) [pP 1000 (bR rs)]:=by
 have hx:=KU (ha:=ha) (hb:=hb) hs;rw[jD h hc]at hx;exact wc hx
theorem Lc (h : TR rs r) (hc : bM rs = 0) [c0 : Ct (llq rs) u k] (n : Int) (hn : -9223372036854775808 <= n /\ n <= 9223372036854775807) [hq : Qz u (n : Rat) w'] [ha : Zl (llq rs) u k a x w v] (hs : w' + 0 + (w + v) <= 10000 := by decide) :
  Con prog 327 [.ptr 1000 0,i64 n,nA a] [pP 1000 (bR rs)] (nA (sX (qE (n:Rat)*x))) [pP 1000 (bR rs)]:=by
 have hm:=BE (a:=sh 0 ((n:Rat):Rat)) (b:=a) h hc hs;exact J7 n hn hm
end
section
variable{rs:List (List Rt)}{r:Nat}{a b c a2 b2 c2:List Rat}{x y z x2 y2 z2:Et (llq rs)}
theorem Gc{dd s1 s2 p1 p2 p3 p4:List Rat}(hd:FP 324 [cI rs,aD a b,aD a2 b2] (.tup [nA dd,.v .nilIface]))(m1:pb 326 rs (nA c) dd s1)(m2:pb 325 rs (nA s1) c2 s2)
  (m3:pb 328 rs (nA c) dd p1) (m4:pb 327 rs (i64 4) p1 p2) (m5:pb 328 rs (nA s2) s2 p3) (m6:pb 325 rs (nA p2) p3 p4) :
  Con prog 200 [.ptr 1000 0,.agg [nA a,nA b,nA c],.agg [nA a2,nA b2,nA c2]] [pP 1000 (bR rs)] (.tup [nA p4,nA dd]) [pP 1000 (bR rs)]:=by
 refine gF func200 (fun k z h=>bO h) ?_;refine gc hd ?_;refine gt (aV (uo _ _) (aJ rfl rfl rfl) rfl rfl rfl) ?_;refine gD ?_;refine gt (aV m1 (aJ rfl rfl rfl) rfl rfl rfl) ?_;refine gt (aV m2 (aJ rfl rfl rfl) rfl rfl rfl) ?_;refine gD ?_;refine gt (aV m3 (aJ rfl rfl rfl) rfl rfl rfl) ?_;refine gt (aV m4 (.cons (.tmp rfl) (.cons (.const _) (cG rfl))) rfl rfl rfl) ?_;refine gt (aV m5 (aJ rfl rfl rfl) rfl rfl rfl) ?_;refine gt (aV m6 (aJ rfl rfl rfl) rfl rfl rfl) ?_;refine gR ?_;exact aC.keep (bq rfl)
theorem WZ(h:TR rs r)(hc:bM rs=0)[c0:Ct (llq rs) 310000 65000][i1:Zl (llq rs) 310000 65000 a x 40 40][i2:Zl (llq rs) 310000 65000 b y 40 40][i3:Zl (llq rs) 310000 65000 c z 3 0][i4:Zl (llq rs) 310000 65000 a2 x2 40 40][i5:Zl (llq rs) 310000 65000 b2 y2 40 40][i6:Zl (llq rs) 310000 65000 c2 z2 3 0] :
  Con prog 200 [.ptr 1000 0,.agg [nA a,nA b,nA c],.agg [nA a2,nA b2,nA c2]] [pP 1000 (bR rs)] (.tup [nA (sX (bj (x,y) z (x2,y2) z2)),nA (sX (aA (x,y) (x2,y2)))]) [pP 1000 (bR rs)]:=by
 have hd:=SA (a:=a) (b:=b) (a2:=a2) (b2:=b2) h hc;haveI:=i3.zu;haveI:=i6.zu;haveI zd:=Dd c0 i1.zu i2.zu i4.zu i5.zu;haveI q4:Qz 310000 ((4:Int):Rat) 1:=Qz.int (c:=Ct.cx (c:=c0)) (by decide);have m1:=UT (a:=c) (b:=sX (aA (x,y) (x2,y2))) h hc (by decide);have m2:=JE (a:=sX (z+aA (x,y) (x2,y2))) (b:=c2) h hc (by decide);have m3:=BE (a:=c) (b:=sX (aA (x,y) (x2,y2))) h hc (by decide);have m4:=Lc (a:=sX (z*aA (x,y) (x2,y2))) h hc 4 oz (by decide);have m5:=BE (a:=sX (z+aA (x,y) (x2,y2)-z2)) (b:=sX (z+aA (x,y) (x2,y2)-z2)) h hc (by decide);have m6:=JE (a:=sX (qE ((4:Int):Rat)*(z*aA (x,y) (x2,y2)))) (b:=sX ((z+aA (x,y) (x2,y2)-z2)*(z+aA (x,y) (x2,y2)-z2))) h hc (by decide);exact Gc hd m1 m2 m3 m4 m5 m6
theorem Tf{dd p4:List Rat}(hck:FP 199 [cI rs,.lst 3 ([(a,b,c),(a2,b2,c2)].map Bt)] (.v .nilIface))(hr:Con prog 200 [.ptr 1000 0,.agg [nA a,nA b,nA c],.agg [nA a2,nA b2,nA c2]] [pP 1000 (bR rs)] (.tup [nA p4,nA dd]) [pP 1000 (bR rs)]) :
  FP 94 [cI rs,.agg [nA a,nA b,nA c],.agg [nA a2,nA b2,nA c2]] (.tup [nA p4,.v .nilIface]):=by
 refine aj func94 ?_;refine gc hck ?_;refine gf ?_ (5,0);refine gW (Wk.o (sl:=[pP 4 (.ptr 4 0),pP 5 (.ptr 5 0),pP 9 (.ptr 22 0)]) (hp:=[pP 4 (.box [nA a,nA b,nA c]),pP 5 (.box [nA a2,nA b2,nA c2]),pP 22 (bR rs)])) ?_;refine gt (aE (Con.rB 22 rfl rfl rfl rfl hr) (aJ rfl rfl rfl) aG rfl rfl) ?_;refine gf ?_;refine gR ?_;exact jg rfl
end
class Cy(ts:LL)(u k:outParam Nat):Prop where
  ex:∃R,Tw ts R/\eB R ts.length<=k
  k1:1<=k
  u3:3<=u
  two:ts.length<=2
instance Cy.cx{ts:LL}{u k:Nat}[c:Cy ts u k]:Cx (au ts) ts.length u k:=by
  obtain⟨R,tw,h⟩:=c.ex;exact⟨⟨R,Hs tw▸tw,h⟩,c.k1,c.u3⟩
theorem Cy.zq{ts:LL}{u k:Nat}[c:Cy ts u k]{q:Rat}{w:Nat}[h:Qz u q w]:Zl ts u k (sh 0 (q:Rat)) (qE q:Et ts) w 0:=⟨fL _ q,by
 obtain⟨R,tw,_⟩:=c.ex;exact(Nm.ofQ tw.five h.cb).eq oz⟩
theorem Cy.lm{ts:LL}{u k:Nat}(c:Cy ts u k):lm ts.length=200000000000:=by unfold Go.Lw.lm;rw[ab6 c.two]
def iE{ts:LL}(y:Et ts):Et ts:=T.inv (au ts) ts.length y
abbrev bi(ts:LL):Blk:=.box [.lst 1 (ts.map nA),.v .nilIface]
theorem CL(ts:LL):bR (ts.map (List.map rt))=bi ts:=by
 have h:=ip ts;unfold cI aT at h;have h1:=AV.agg.inj h
 injection h1 with h2
 show Blk.box [.lst 1 ((ts.map (List.map rt)).map nR),.v .nilIface]=_;rw[h2]
section
variable{ts:LL}{u k:Nat}{a b:List Rat}{x y:Et ts}{w v w' v':Nat}
theorem K0[c:Cy ts u k][ha:Zl ts u k a x w v][hb:Zl ts u k b y w' v'](hs:w*u+v*k+(w'*u+v'*k)<200000000000):FP 250 [aT ts,nA a,nA b] (.tup [nA (sX (x+y)),.v .nilIface]):=by
 obtain⟨R,tw,hk⟩:=c.ex;have h1:=xI tw ha.nm hb.nm (by rw[c.lm];omega);rw[ha.eq,hb.eq]at h1;exact h1
theorem Lr[c:Cy ts u k][ha:Zl ts u k a x w v][hb:Zl ts u k b y w' v'](hs:w*u+v*k+(w'*u+v'*k)<200000000000):FP 209 [aT ts,nA a,nA b] (.tup [nA (sX (x-y)),.v .nilIface]):=by
 obtain⟨R,tw,hk⟩:=c.ex;have h1:=oh tw ha.nm hb.nm (by rw[c.lm];omega);rw[ha.eq,hb.eq]at h1;exact h1
theorem OI[c:Cy ts u k][ha:Zl ts u k a x w v][hb:Zl ts u k b y w' v'](hs:w*u+v*k+(w'*u+v'*k)<200000000000):FP 210 [aT ts,nA a,nA b] (.tup [nA (sX (x*y)),.v .nilIface]):=by
 obtain⟨R,tw,hk⟩:=c.ex;have h1:=xf tw ha.nm hb.nm (by rw[c.lm];omega);rw[ha.eq,hb.eq]at h1;exact h1
theorem KG[c:Cy ts u k][ha:Zl ts u k a x w v](hs:w*u+v*k<200000000000):FP 128 [aT ts,nA a] (.tup [nA (sX (-x)),.v .nilIface]):=by
 obtain⟨R,tw,hk⟩:=c.ex;have h1:=BL tw ha.nm (by rw[c.lm];omega);rw[ha.eq]at h1;exact h1
theorem H9[c:Cy ts u k][ha:Zl ts u k a x w v](hs:w*u+v*k<200000000000):FP 87 [aT ts,nA a] (.tup [i64 (ao x),.v .nilIface]):=by
 obtain⟨R,tw,hk⟩:=c.ex;have h1:=rE tw ha.nm (by rw[c.lm];omega);rw[ha.eq]at h1;exact h1
theorem QY{j m:Nat}[c:Cy ts u k][ha:Zl ts u k a x w v][hb:Zl ts u k b y w' v'](nb:Nl j b)(hj:j<=ts.length)(h0:ao y≠0)(hm:∀R,eB R ts.length<=k->iB R j (w'*u+v'*k)<=m)(hf:w'*u+v'*k<200000000000)(hs:w*u+v*k+m+k<=200000000000) :
  FP 350 [aT ts,nA a,nA b] (.tup [nA (sX (x*iE y)),.v .nilIface])/\Nm ts.length (w*u+v*k+m+k) (sX (x*iE y)):=by
 obtain⟨R,tw,hk⟩:=c.ex;have hi:=hm R hk;have he:=hb.eq;have h1:T.sgn (au ts) ts.length (ae ts.length b)≠0:=by rw[he];exact h0
 have hd:=CA tw ha.nm hb.nm hj nb h1 (by rw[c.lm];omega) oz;have hn:=AU tw ha.nm hb.nm hj nb h1 (by rw[c.lm];omega) oz;rw[ha.eq,he]at hd hn;exact⟨hd,hn.mono oz⟩
theorem qN{j:Nat}[c:Cy ts u k][ha:Zl ts u k a x w v][hb:Zl ts u k b y w' v'](nb:Nl j b)(hj:j<=ts.length)(hj1:j<=1)(h0:ao y≠0)(hs:(w+5*w')*u+(v+5*v'+3)*k<=200000000000) :
  FP 350 [aT ts,nA a,nA b] (.tup [nA (sX (x*iE y)),.v .nilIface])/\Zu u k (x*iE y) (w+5*w') (v+5*v'+3):=by
 have e:(w+5*w')*u+(v+5*v'+3)*k=w*u+v*k+(5*(w'*u+v'*k)+2*k)+k:=by
  simp only[YH,Yt,Yw];omega
 rw[e]at hs
 have h:=QY (a:=a) (b:=b) (m:=5*(w'*u+v'*k)+2*k) nb hj h0 (fun R hR=>by
  have h2:=TH R (w'*u+v'*k) hj1;have h3:=gX R hj;omega) oz hs
 exact⟨h.1,⟨h.2.eq e.symm⟩⟩
theorem oB(ts:LL)(a:List Rat):Con prog 323 [.ptr 1000 0,nA a,.v .nilIface] [pP 1000 (bi ts)] (nA a) [pP 1000 (bi ts)]:=by
 have h:=uo (ts.map (List.map rt)) a;rw[CL]at h;exact h
theorem rS(ts:LL)(a:List Rat):Con prog 93 [.ptr 1000 0,nA a,.v .nilIface] [pP 1000 (bi ts)] (nA a) [pP 1000 (bi ts)]:=by
 have h:=lO (ts.map (List.map rt)) a;rw[CL]at h;exact h
theorem kv[c:Cy ts u k][ha:Zl ts u k a x w v][hb:Zl ts u k b y w' v'](hs:w*u+v*k+(w'*u+v'*k)<200000000000) :
  Con prog 326 [.ptr 1000 0,nA a,nA b] [pP 1000 (bi ts)] (nA (sX (x+y))) [pP 1000 (bi ts)]:=by
 refine gF func326 (fun k z h=>bO h) ?_;refine gc (K0 hs) ?_;refine gt (aE (oB _ _) (aJ rfl rfl rfl) aG rfl rfl) ?_;refine gR ?_;exact aC.keep (bq rfl)
theorem lU[c:Cy ts u k][ha:Zl ts u k a x w v][hb:Zl ts u k b y w' v'](hs:w*u+v*k+(w'*u+v'*k)<200000000000) :
  Con prog 325 [.ptr 1000 0,nA a,nA b] [pP 1000 (bi ts)] (nA (sX (x-y))) [pP 1000 (bi ts)]:=by
 refine gF func325 (fun k z h=>bO h) ?_;refine gc (Lr hs) ?_;refine gt (aE (oB _ _) (aJ rfl rfl rfl) aG rfl rfl) ?_;refine gR ?_;exact aC.keep (bq rfl)
theorem jH[c:Cy ts u k][ha:Zl ts u k a x w v][hb:Zl ts u k b y w' v'](hs:w*u+v*k+(w'*u+v'*k)<200000000000) :
  Con prog 328 [.ptr 1000 0,nA a,nA b] [pP 1000 (bi ts)] (nA (sX (x*y))) [pP 1000 (bi ts)]:=by
 refine gF func328 (fun k z h=>bO h) ?_;refine gc (OI hs) ?_;refine gt (aE (oB _ _) (aJ rfl rfl rfl) aG rfl rfl) ?_;refine gR ?_;exact aC.keep (bq rfl)
theorem ul{q:List Rat}(hd:FP 350 [aT ts,nA a,nA b] (.tup [nA q,.v .nilIface])) :
  Con prog 436 [.ptr 1000 0,nA a,nA b] [pP 1000 (bi ts)] (nA q) [pP 1000 (bi ts)]:=by
 refine gF func436 (fun k z h=>bO h) ?_;refine gc hd ?_;refine gt (aE (oB _ _) (aJ rfl rfl rfl) aG rfl rfl) ?_;refine gR ?_;exact aC.keep (bq rfl)
theorem rc[c:Cy ts u k][ha:Zl ts u k a x w v](hs:w*u+v*k<200000000000) :
  Con prog 432 [.ptr 1000 0,nA a] [pP 1000 (bi ts)] (i64 (ao x)) [pP 1000 (bi ts)]:=by
 refine gF func432 (fun k z h=>bO h) ?_;refine gf ?_;refine gc (H9 hs) ?_;refine gR ?_;exact aC.keep (bq rfl)
theorem xj{q:List Rat}(hd:FP 350 [aT ts,nA a,nA b] (.tup [nA q,.v .nilIface])) :
  Con prog 383 [.ptr 1000 0,nA a,nA b] [pP 1000 (bi ts)] (nA q) [pP 1000 (bi ts)]:=by
 refine gF func383 (fun k z h=>bO h) ?_;refine gc hd ?_;refine gt (aE (rS _ _) (aJ rfl rfl rfl) aG rfl rfl) ?_;refine gR ?_;exact aC.keep (bq rfl)
theorem zK[c:Cy ts u k][ha:Zl ts u k a x w v](hs:w*u+v*k<200000000000) :
  Con prog 380 [.ptr 1000 0,nA a] [pP 1000 (bi ts)] (i64 (ao x)) [pP 1000 (bi ts)]:=by
 refine gF func380 (fun k z h=>bO h) ?_;refine gf ?_;refine gc (H9 hs) ?_;refine gR ?_;exact aC.keep (bq rfl)
theorem B8[c:Cy ts u k](n:Int)(hn:-9223372036854775808<=n/\n<=9223372036854775807)[hq:Qz u (n:Rat) w'][ha:Zl ts u k a x w v](hs:w'*u+0*k+(w*u+v*k)<200000000000) :
  Con prog 327 [.ptr 1000 0,i64 n,nA a] [pP 1000 (bi ts)] (nA (sX (qE (n:Rat)*x))) [pP 1000 (bi ts)]:=by
 haveI:=Cy.zq (ts:=ts) (u:=u) (k:=k) (q:=(n:Rat)) (w:=w');have hm:=jH (ts:=ts) (u:=u) (k:=k) (a:=sh 0 ((n:Rat):Rat)) (b:=a) (x:=qE (n:Rat)) (y:=x) hs;refine gF func327 (fun k z h=>bO h) ?_;refine gc (kH n hn) ?_;refine gc (mh (tW hn)) ?_;refine gt (aE hm (aJ rfl rfl rfl) aG rfl rfl) ?_;refine gR ?_;exact aC.keep (bq rfl)
theorem tl{p1 p2 v1 v2 c m1 m2 q1 q2:List Rat}(h1:Con prog 328 [.ptr 1000 0,nA c,nA v1] [pP 1000 (bi ts)] (nA m1) [pP 1000 (bi ts)])
  (h2:Con prog 328 [.ptr 1000 0,nA c,nA v2] [pP 1000 (bi ts)] (nA m2) [pP 1000 (bi ts)])
  (h3:Con prog 326 [.ptr 1000 0,nA p1,nA m1] [pP 1000 (bi ts)] (nA q1) [pP 1000 (bi ts)])
  (h4:Con prog 326 [.ptr 1000 0,nA p2,nA m2] [pP 1000 (bi ts)] (nA q2) [pP 1000 (bi ts)]) :
  Con prog 435 [.ptr 1000 0,aD p1 p2,nA c,aD v1 v2] [pP 1000 (bi ts)] (aD q1 q2) [pP 1000 (bi ts)]:=by
 refine gF func435 (fun k z h=>bO h) ?_;refine gt (aE h1 (aJ rfl rfl rfl) aG rfl rfl) ?_;refine gt (aE h3 (aJ rfl rfl rfl) aG rfl rfl) ?_;refine gt (aE h2 (aJ rfl rfl rfl) aG rfl rfl) ?_;refine gt (aE h4 (aJ rfl rfl rfl) aG rfl rfl) ?_;refine gD ?_;refine gR ?_;exact aC.keep (bq rfl)
theorem De{r e:Nat}(tw:Tw ts r)(ha:Nm ts.length e a)(he:e<=lm ts.length)(hs:0<=T.sgn (au ts) ts.length (ae ts.length a)) :
  Con prog 437 [.ptr 1000 0,nA a] [pP 1000 (bi ts)] (nA (cC ts.length)) [pP 1000 (bi (aU ts a))]:=by
 refine gF func437 (fun k z h=>bO h) ?_;refine gf ?_;refine gc (Kg tw ha he hs) ?_;refine gf ?_;refine gR ?_;exact aC.keep (bq rfl)
abbrev AL(ts:LL)(ps:List AV):AV:=.agg [.lst 1 (ts.map nA),.lst 2 ps]
theorem TP{r:Nat}(tw:Tw ts r):Con prog 461 [.ptr 1000 0] [pP 1000 (bi ts)] (aT ts) [pP 1000 (bi ts)]:=by
 have h3:=tw.three;have hqs:=tw.rb.qs tw.le;refine gF func461 (fun k z h=>bO h) ?_;refine gl ?_;refine gW (Wk.virt 900 1 rfl) ?_;refine aW [2,3,13,14] [1000,2] (fun(i:Nat)=>[pP 15 (i64 i)]) (fun i=>[pP 3 (.box [.ms 900 1 0 i]),pP 900 (.row 1 ((ts.take i).map nA))]) (fun i=>i<=ts.length) (fun i=>ts.length-i) 0 (aa0 _) ?_ (h2:=(.cons rfl (BlkSub.bL (.cons (.nM _ _ _) .nil) rfl) (.k .nil)));rintro i hi K1 J1;refine gC (fun y=>?_) (fun y=>?_) (st2:=(13,0))
 ·have hin:=a9 y;obtain⟨d,hd⟩:=ay hin
  have hdl:d.length<=32:=by
   have h9:=tw.len i hin;rw[aq hd]at h9;have:2^i<=32:=cm (b:=5) oz;omega
  have hdq:=hqs d (aap hd);refine gi (aH hd) ?_;refine gl ?_;refine gW (Wk.virt 901 3 rfl) ?_;refine aW [2,3,13,14,15,19,20] [1000,2,3,900] (fun(j:Nat)=>[pP 6 (.ms 901 3 0 j),pP 21 (i64 j)]) (fun j=>[pP 901 (.row 3 ((d.take j).map qA))]) (fun j=>j<=d.length) (fun j=>d.length-j) 0 (aa0 _) ?_;rintro j hj K2 J2;refine gC (fun y=>?_) (fun y=>?_) (st2:=(11,0))
  ·have hjn:=a9 y;obtain ⟨q,hq⟩:=ay hjn;have hadd:=oJ (rt q) (rt 0) (hdq q (aap hq)).ok Qs.zero.ok;rw [vP,cc] at hadd;refine gi (aH hq) ?_;refine gc (Con.sA (.cons (.refl _) (.cons kf .nil)) hadd) ?_;refine gs (cK (.tmp rfl) rfl (by rw [aar,abc]; omega) (.tmp rfl) T53 rfl T106 rfl rfl (by simp only [aa4,abg]; omega) rfl rfl) ?_ (10,0);refine gW (Wk.of (sl:=[pP 2 (.ptr 2 0),pP 3 (.ptr 3 0),pP 13 (.lst 1 (ts.map nA)),pP 14 (i64 ts.length),pP 15 (i64 i),pP 6 (.ms 30 3 0 (j + 1)),pP 19 (nA d),pP 20 (i64 d.length),pP 21 (i64 j)]) (hp:=[pP 1000 (bi ts),pP 2 (.box [nS]),pP 3 (.box [.ms 900 1 0 i]),pP 900 (.row 1 ((ts.take i).map nA)),pP 30 (.row 3 ((d.take (j + 1)).map qA))]) bb (.k (.k (.k (.k (.cons rfl (BlkSub.of (by rw [dK hq,abf]; rfl)) .nil)))))) ?_ (10,0)
   refine gW (Wk.rk (k:=30) (d:=901) rfl rfl) ?_;refine ga aS ?_;exact aR J2 (j+1) hjn
  have hjn:=bn hj y;subst hjn;refine gW ((Wk.freeze (k:=901) rfl).trans<|Wk.of (sl:=[pP 2 (.ptr 2 0),pP 3 (.ptr 3 0),pP 13 (.lst 1 (ts.map nA)),pP 14 (i64 ts.length),pP 15 (i64 i),pP 6 (nA d)]) (hp:=[pP 1000 (bi ts),pP 2 (.box [nS]),pP 3 (.box [.ms 900 1 0 i]),pP 900 (.row 1 ((ts.take i).map nA))]) (.k (.k (.k (.k (.k (.cons rfl (Sub.of (by rw[b7 (by simp)];simp[nA])) .nil)))))) (.k (.k (.k (.k .nil))))) ?_
  refine gs (cK (.tmp rfl) rfl (by rw[aar,abc];omega) (.tmp rfl) T42 rfl T53 rfl rfl (by simp only[aa4,abg];omega) rfl rfl) ?_ (12,0);refine gW (Wk.of (sl:=[pP 2 (.ptr 2 0),pP 3 (.ptr 3 0),pP 13 (.lst 1 (ts.map nA)),pP 14 (i64 ts.length),pP 15 (i64 i)]) (hp:=[pP 1000 (bi ts),pP 2 (.box [nS]),pP 3 (.box [.ms 36 1 0 (i+1)]),pP 36 (.row 1 ((ts.take (i+1)).map nA))]) bb (.k (.k (.k (.cons rfl (BlkSub.of (by rw[dK hd,abf];rfl)) .nil))))) ?_ (12,0);refine gW (Wk.rk (k:=36) (d:=900) rfl rfl) ?_;refine ga aS ?_;exact aR J1 (i+1) hin
 have hin:=bn hi y;subst hin;refine gW ((Wk.freeze (k:=900) rfl).trans<|Wk.of (sl:=[pP 2 (.ptr 2 0),pP 3 (.ptr 3 0)]) (hp:=[pP 1000 (bi ts),pP 2 (.box [nS]),pP 3 (.box [.lst 1 (ts.map nA)])]) bb (.k (.k (.cons rfl (BlkSub.bL (.cons (Sub.of (by rw[b7 (by simp)];simp)) .nil) rfl) .nil)))) ?_;refine gR ?_;exact aC.keep (bq rfl)
theorem nV{r:Nat}(tw:Tw ts r)(ps:List AV):Con prog 434 [.ptr 1000 0,.lst 2 ps] [pP 1000 (bi ts)] (.tup [AL ts ps,.v .nilIface]) [pP 1000 (bi ts)]:=by
 refine gF func434 (fun k z h=>bO h) ?_;refine gf ?_;refine gt (aE (TP tw) (cG rfl) aG rfl rfl) ?_;refine gR ?_;exact aC.keep (bq rfl)
end
theorem dQ(ts:LL)(a:List Rat):(aU ts a).length=ts.length+1:=by simp[aU]
theorem Jl{ts:LL}{a:List Rat}{j:Nat}(h:j<ts.length):(aU ts a).getD j []=ts.getD j []:=by
 unfold aU;rw[aaq,aaq,aa9 h]
theorem tm(ts:LL)(a:List Rat):(aU ts a).getD ts.length []=a6 a (2^ts.length):=by
 unfold aU;rw[aaq,aa6 (aau _),Nat.sub_self];rfl
theorem yn{ts:LL}{a:List Rat}{j:Nat}(h:j<ts.length):au (aU ts a) j=au ts j:=by
 unfold au;rw[Jl h]
theorem vS{ts:LL}{a:List Rat}{j:Nat}(h:j<=ts.length)(x:T j):T.sgn (au (aU ts a)) j x=T.sgn (au ts) j x :=
 T.sgn_congr j (fun i hi=>yn oz) x
theorem RB.ext{r e:Nat}{ts:LL}{a:List Rat}(h:RB r ts)(ha:Cb e a):RB (r+e) (aU ts a):=by
 obtain⟨D,N,h0,h1,h2,h3⟩:=h;obtain⟨D',N',k1,k2,k3⟩:=ha.wide (n:=2^ts.length);have hN:N<=2^r:=h3;refine⟨D*D',max (N*D') (N'*D),YJ h0 k1.1,?_,?_,?_⟩
 ·intro d hd;rcases aa2.1 hd with h9 |h9
  ·exact((h1 d h9).scale k1.1).mono (Nat.le_max_left _ _)
  ·rw[Za.1 h9,Yn D];exact(k1.scale h0).mono (Nat.le_max_right _ _)
 ·rw[abq];exact YC h2 k2
 ·rw[abq];refine Nat.max_le.2 ⟨YC h3 k2,?_⟩;rw[Yn (2^r)];exact YC k3 h2
theorem zy{r e:Nat}{ts:LL}{a:List Rat}(tw:Tw ts r)(h2:ts.length<=2)(ha:Nm ts.length e a)(he:r+e<=5000000000)(hs:0<=T.sgn (au ts) ts.length (ae ts.length a)):Tw (aU ts a) (r+e):=by
 refine⟨by rw[dQ];omega,?_,?_,tw.rb.ext ha.cb,he⟩
 ·intro j hj;rw[dQ]at hj;rcases aay j ts.length with h |h
  ·rw[Jl h];exact tw.len j h
  ·have : j = ts.length := by omega
   subst this;rw[tm];exact dO ha.nl.le
 ·intro j hj;rw[dQ]at hj;rw[vS oz];rcases aay j ts.length with h |h
  ·rw[yn h];exact tw.pos j h
  ·have : j = ts.length := by omega
   subst this
   have e1:au (aU ts a) ts.length=ae ts.length a:=by
    show ae ts.length ((aU ts a).getD ts.length [])=_;rw[tm,nO]
   rw[e1];exact hs
theorem mx{ts:LL}{a l:List Rat}{e:Nat}(h:Nm ts.length e l)(h4:ts.length<=4):Nm (aU ts a).length e l:=by
 rw[dQ];exact⟨by omega,h.nl.mono oz,h.cb⟩
theorem Ur{ts:LL}{a l:List Rat}(h:Nl ts.length l):ao (dE (aU ts a) l)=ao (dE ts l):=by
 unfold ao dE;rw[dQ];show T.sgn (au (aU ts a)) (ts.length+1) (ae (ts.length+1) l)=_;rw[tE (au (aU ts a)) h.le (Nat.le_succ _),vS (aau _)]
theorem ud{ts:LL}{a:List Rat}(h4:ts.length<=4):Nm (aU ts a).length 1 (cC ts.length):=by
 rw[dQ];refine⟨by omega,.inr ⟨_,aau _,By _⟩,1,1,⟨by omega,?_⟩,by omega,by omega⟩;intro q hq;unfold cC at hq;rcases Zo hq with h |h
 ·rw[(Zg.1 h).2];exact⟨0,by rw[Rat.zero_mul];rfl,by simp⟩
 ·rw[h];exact⟨1,by rw[Rat.one_mul];rfl,by simp⟩
theorem Sw{r e k:Nat}{ts:LL}{a:List Rat}(tw:Tw ts r)(h1:ts.length<=1)(ha:Nm ts.length e a)(he:r+e<=5000000000)(hs:0<=T.sgn (au ts) ts.length (ae ts.length a)){u:Nat}(hu:3<=u)(hk:3*(r+e)+6<=k):Cy (aU ts a) u k :=
 ⟨⟨r+e,zy tw oz ha he hs,by
  rw[dQ];have h:=gX (r+e) (show ts.length+1<=2 by omega);have h2:eB (r+e) 2=3*(r+e)+6:=by simp only[eB];omega
  omega⟩,by omega,hu,by rw[dQ];omega⟩
structure Mt where
  ts:LL
  ps:List (List Rat×List Rat)
abbrev dC(p:List Rat×List Rat):AV:=aD p.1 p.2
abbrev Mt.av(m:Mt):AV:=AL m.ts (m.ps.map dC)
abbrev P2(ts:LL):Type:=Et ts×Et ts
abbrev P2.l{ts:LL}(p:P2 ts):List Rat×List Rat:=(sX p.1,sX p.2)
abbrev aP{ts:LL}(X:Et ts)(x:Et ts):Et (aU ts (sX X)):=dE (aU ts (sX X)) (sX x)
section
variable{ts:LL}
def eP(d:Et ts):Et ts:=qE ((2:Int):Rat)*d
def fW(p q:P2 ts):P2 ts:=(q.1-p.1,q.2-p.2)
def cZ(p:P2 ts)(k:Et ts)(v:P2 ts):P2 ts:=(p.1+k*v.1,p.2+k*v.2)
def dj(p q:P2 ts)(z z2:Et ts):P2 ts:=cZ p ((z+aA p q-z2)*iE (eP (aA p q))) (fW p q)
def ek(X d:Et ts):Et (aU ts (sX X)):=dE _ (cC ts.length)*iE (aP X (eP d))
def gK(X:Et ts)(f v:P2 ts)(c:Et (aU ts (sX X))):P2 (aU ts (sX X)):=cZ (aP X f.1,aP X f.2) c (qE ((-1:Int):Rat)*aP X v.2,aP X v.1)
def lQ(p:P2 ts)(z z2:Et ts):Mt:=if ao (z-z2)≠0 then⟨ts,[]⟩else if 0<ao z then⟨[],[]⟩else⟨ts,[(cZ p 0 p).l]⟩
def er(p q:P2 ts)(z z2:Et ts):Mt :=
  if ao (aA p q)=0 then lQ p z z2
  else if ao (bj p z q z2)<0 then⟨ts,[]⟩
  else if ao (bj p z q z2)=0 then⟨ts,[(dj p q z z2).l]⟩
  else⟨aU ts (sX (bj p z q z2)),[(gK (bj p z q z2) (dj p q z z2) (fW p q) (ek (bj p z q z2) (aA p q))).l,
    (gK (bj p z q z2) (dj p q z z2) (fW p q) (qE ((-1:Int):Rat)*ek (bj p z q z2) (aA p q))).l]⟩
def l8(z z2:Et ts):Nat:=if ao (z-z2)=0/\0<ao z then 15 else 0
def fQ(p q:P2 ts)(z z2:Et ts):Nat:=if ao (aA p q)=0 then l8 z z2 else 0
theorem JF:Sub (.agg [nS,nS]) (AL [] []):=Sub.agg (.cons (.nil _ _ _) (.cons (.nil _ _ _) .nil)) rfl
end
theorem WH {ts : LL} {u k : Nat} [c : Cy ts u k] : Zl ts u k [] (0 : Et ts) 0 0 := ⟨by rw [gp]; exact E.zero_def.symm, by
 obtain⟨R,tw,_⟩:=c.ex;exact⟨tw.five,.inl rfl,Cb.nil.mono (aa0 _)⟩⟩
section
variable{ts:LL}{a b c a2 b2 c2:List Rat}{x y z x2 y2 z2:Et ts}
theorem We{r:Nat}(tw:Tw ts r)[c0:Cy ts 310000 65000][i1:Zl ts 310000 65000 a x 40 40][i2:Zl ts 310000 65000 b y 40 40][i3:Zl ts 310000 65000 c z 3 0][i6:Zl ts 310000 65000 c2 z2 3 0] :
  Con prog 433 [.ptr 1000 0,.agg [nA a,nA b,nA c],.agg [nA a2,nA b2,nA c2]] [pP 1000 (bi ts)]
   (.tup [(lQ (x,y) z z2).av,bF (l8 z z2)]) [pP 1000 (bi ts)]:=by
 haveI:=i1.zu;haveI:=i2.zu;haveI:=i3.zu;haveI:=i6.zu;have hm0:=Con.sA (.cons (.refl _) (.cons (Sub.nil 2 none 0) .nil)) (nV tw []);have m1:=lU (ts:=ts) (u:=310000) (k:=65000) (a:=c) (b:=c2) (by decide);have m2:=rc (ts:=ts) (u:=310000) (k:=65000) (a:=sX (z-z2)) (by decide);have m3:=rc (ts:=ts) (u:=310000) (k:=65000) (a:=c) (by decide);haveI zn:Zl ts 310000 65000 [] (0:Et ts) 0 0:=WH;have n1:=jH (ts:=ts) (u:=310000) (k:=65000) (a:=[]) (b:=a) (by decide);have n2:=jH (ts:=ts) (u:=310000) (k:=65000) (a:=[]) (b:=b) (by decide);have n3:=kv (ts:=ts) (u:=310000) (k:=65000) (a:=a) (b:=sX (0*x)) (by decide);have n4:=kv (ts:=ts) (u:=310000) (k:=65000) (a:=b) (b:=sX (0*y)) (by decide);have hal:=Con.sA (.cons (.refl _) (.cons (.refl _) (.cons (Sub.nil 3 none 0) (.cons (.refl _) .nil)))) (tl n1 n2 n3 n4);refine gF func433 (fun k z h=>bO h) ?_;refine gt (aV m1 (aJ rfl rfl rfl) rfl rfl rfl) ?_;refine gt (aV m2 (bC rfl rfl) rfl rfl rfl) ?_;refine gC (fun v=>?_) (fun v=>?_)
 ·have h1:ao (z-z2)≠0:=nW v;refine gt (aV hm0 (.cons (.tmp rfl) (.cons (.const _) .nil)) rfl rfl rfl) ?_;refine gR ?_;exact(aC.keep (bq rfl)).sub (Sub.of (by unfold lQ l8;rw[ab6 h1,ab5 (fun h=>h1 h.1)];rfl))
 have h1:ao (z-z2)=0:=s8 v;refine gt (aV m3 (bC rfl rfl) rfl rfl rfl) ?_;refine gC (fun v=>?_) (fun v=>?_)
 ·have h2:0<ao z:=ab8 v;refine gR ?_;exact(aC.keep (bq rfl)).sub (by unfold lQ l8;rw[ab5 oz,ab6 h2,ab6 ⟨h1,h2⟩];exact Sub.tup (.cons JF (.cons (.refl _) .nil)))
 have h2:¬0<ao z:=ab9 v;refine gt (aV hal (.cons (.tmp rfl) (.cons (.tmp rfl) (.cons (.const _) (cG rfl)))) rfl rfl rfl) ?_;refine gt (aV (nV tw [aD (sX (x+0*x)) (sX (y+0*y))]) (bC rfl rfl) rfl rfl rfl) ?_;refine gR ?_;exact(aC.keep (bq rfl)).sub (Sub.of (by unfold lQ l8;rw[ab5 oz,ab5 h2,ab5 (fun h=>h2 h.2)];rfl))
end
section
variable{rs:List (List Rt)}{r:Nat}{a b c a2 b2 c2:List Rat}{x y z x2 y2 z2:Et (llq rs)}
structure CirP(ts:LL)(p q:P2 ts)(z z2:Et ts):Prop where
  zd:Zu 310000 65000 (aA p q) 320 327
  zX:Zu 310000 65000 (bj p z q z2) 976 989
  zt:Zu 310000 65000 (eP (aA p q)) 321 328
  z1:Zu 310000 65000 (fW p q).1 80 81
  z2:Zu 310000 65000 (fW p q).2 80 81
theorem JI{ts:LL}{x y z x2 y2 z2:Et ts}(c:Ct ts 310000 65000)(h1:Zu 310000 65000 x 40 40)(h2:Zu 310000 65000 y 40 40)(h3:Zu 310000 65000 z 3 0)(h4:Zu 310000 65000 x2 40 40)(h5:Zu 310000 65000 y2 40 40)(h6:Zu 310000 65000 z2 3 0) :
  CirP ts (x,y) (x2,y2) z z2:=by
 haveI:=c;haveI:=h1;haveI:=h2;haveI:=h3;haveI:=h4;haveI:=h5;haveI:=h6
 haveI zd:=Dd c h1 h2 h4 h5;haveI q4:Qz 310000 ((4:Int):Rat) 1:=Qz.int (c:=Ct.cx (c:=c)) (by decide);haveI q2:Qz 310000 ((2:Int):Rat) 1:=Qz.int (c:=Ct.cx (c:=c)) (by decide)
 exact⟨zd,(ace:Zu 310000 65000 (qE ((4:Int):Rat)*(z*aA (x,y) (x2,y2))-(z+aA (x,y) (x2,y2)-z2)*(z+aA (x,y) (x2,y2)-z2)) _ _),
  (ace:Zu 310000 65000 (qE ((2:Int):Rat)*aA (x,y) (x2,y2)) _ _),(ace:Zu 310000 65000 (x2-x) _ _),(ace:Zu 310000 65000 (y2-y) _ _)⟩
theorem JX{ts:LL}{x y z x2 y2 z2:Et ts}[c0:Cy ts 310000 65000](hn:ts.length<=1)(h1:Zu 310000 65000 x 40 40)(h2:Zu 310000 65000 y 40 40)(h3:Zu 310000 65000 z 3 0)(h6:Zu 310000 65000 z2 3 0)(P:CirP ts (x,y) (x2,y2) z z2)
  (h0:ao (eP (aA (x,y) (x2,y2)))≠0) :
  FP 350 [aT ts,nA (sX (z+aA (x,y) (x2,y2)-z2)),nA (sX (eP (aA (x,y) (x2,y2))))] (.tup [nA (sX ((z+aA (x,y) (x2,y2)-z2)*iE (eP (aA (x,y) (x2,y2))))),.v .nilIface]) /\
  Zu 310000 65000 ((z+aA (x,y) (x2,y2)-z2)*iE (eP (aA (x,y) (x2,y2)))) 1931 1972/\Zu 310000 65000 (dj (x,y) (x2,y2) z z2).1 2051 2095/\Zu 310000 65000 (dj (x,y) (x2,y2) z z2).2 2051 2095:=by
 haveI:=h1;haveI:=h2;haveI:=h3;haveI:=h6;haveI:=P.zd;haveI:=P.zt
 have hd:=qN (ts:=ts) (u:=310000) (k:=65000) (a:=sX (z+aA (x,y) (x2,y2)-z2)) (b:=sX (eP (aA (x,y) (x2,y2)))) (j:=ts.length) P.zt.nm.nl (aau _) hn h0 (by decide);haveI zk:=hd.2;haveI:=P.z1;haveI:=P.z2
 exact⟨hd.1,zk,(ace:Zu 310000 65000 (x+((z+aA (x,y) (x2,y2)-z2)*iE (eP (aA (x,y) (x2,y2))))*(fW (x,y) (x2,y2)).1) _ _),
  (ace:Zu 310000 65000 (y+((z+aA (x,y) (x2,y2)-z2)*iE (eP (aA (x,y) (x2,y2))))*(fW (x,y) (x2,y2)).2) _ _)⟩
structure ExtP{ts:LL}(X:Et ts):Prop where
  tw:Tw (aU ts (sX X)) 366909990
  cy:Cy (aU ts (sX X)) 773000000 1101400000
theorem uZ{ts:LL}{X:Et ts}(tw:Tw ts 64990)(hn:ts.length<=1)(hx:Zu 310000 65000 X 976 989)(hs:0<=ao X):ExtP X:=by
 have h9:0<=T.sgn (au ts) ts.length (ae ts.length (sX X)):=by rw[show ae ts.length (sX X)=X from bh _ _];exact hs
 have hm:=hx.nm;exact⟨zy tw oz hm (by decide) h9,Sw tw hn hm (by decide) h9 oz (by decide)⟩
theorem kp{ts:LL}{X x:Et ts}{w v:Nat}(hn:ts.length<=1)(h:Zu 310000 65000 x w v)(hs:w*310000+v*65000<=773000000):Zl (aU ts (sX X)) 773000000 1101400000 (sX x) (aP X x) 1 0:=Zl.at (mx h.nm oz) hs
theorem o8{ts:LL}{X x:Et ts}:ao (aP X x)=ao x:=by
 show ao (dE (aU ts (sX X)) (sX x))=_;rw[Ur (l:=sX x) (eT _ _)];show ao (dE ts (sX x))=_;rw[show dE ts (sX x)=x from bh _ _]
theorem v8{ts:LL}{r:Nat}(tw:Tw ts r)(d:Et ts):ao (eP d)=ao d:=by
 have h:=eF (au ts) ts.length tw.pos
 have h2:sg (au ts) ts.length (qE ((2:Int):Rat):Et ts)=1:=by
  show T.sgn (au ts) ts.length (T.ofQ ts.length ((2:Int):Rat))=1;rw[T.sgn_ofQ];rfl
 have h3:=h.mul (qE ((2:Int):Rat)) d;rw[h2,Int.one_mul]at h3;exact h3
structure SideP{ts:LL}(X d:Et ts)(f v:P2 ts):Prop where
  hd:FP 350 [aT (aU ts (sX X)),nA (cC ts.length),nA (sX (eP d))] (.tup [nA (sX (ek X d)),.v .nilIface])
  ht:Con prog 327 [.ptr 1000 0,i64 (-1),nA (sX v.2)] [pP 1000 (bi (aU ts (sX X)))] (nA (sX (qE ((-1:Int):Rat)*aP X v.2))) [pP 1000 (bi (aU ts (sX X)))]
  hu:Con prog 327 [.ptr 1000 0,i64 (-1),nA (sX (ek X d))] [pP 1000 (bi (aU ts (sX X)))] (nA (sX (qE ((-1:Int):Rat)*ek X d))) [pP 1000 (bi (aU ts (sX X)))]
  a1:Con prog 435 [.ptr 1000 0,aD (sX f.1) (sX f.2),nA (sX (ek X d)),aD (sX (qE ((-1:Int):Rat)*aP X v.2)) (sX v.1)] [pP 1000 (bi (aU ts (sX X)))] (dC (gK X f v (ek X d)).l) [pP 1000 (bi (aU ts (sX X)))]
  a2:Con prog 435 [.ptr 1000 0,aD (sX f.1) (sX f.2),nA (sX (qE ((-1:Int):Rat)*ek X d)),aD (sX (qE ((-1:Int):Rat)*aP X v.2)) (sX v.1)] [pP 1000 (bi (aU ts (sX X)))] (dC (gK X f v (qE ((-1:Int):Rat)*ek X d)).l) [pP 1000 (bi (aU ts (sX X)))]
  n1:Zu 773000000 1101400000 (gK X f v (ek X d)).1 9 6/\Zu 773000000 1101400000 (gK X f v (ek X d)).2 9 6
  n2:Zu 773000000 1101400000 (gK X f v (qE ((-1:Int):Rat)*ek X d)).1 10 7/\Zu 773000000 1101400000 (gK X f v (qE ((-1:Int):Rat)*ek X d)).2 10 7
theorem Kk{ts:LL}{X d:Et ts}{f v:P2 ts}(hn:ts.length<=1)(E:ExtP X)(hd:Zu 310000 65000 (eP d) 321 328)(h0:ao (eP d)≠0)(f1:Zu 310000 65000 f.1 2051 2095)(f2:Zu 310000 65000 f.2 2051 2095)
  (v1:Zu 310000 65000 v.1 80 81) (v2:Zu 310000 65000 v.2 80 81):SideP X d f v:=by
 haveI cy:=E.cy;haveI zr:Zl (aU ts (sX X)) 773000000 1101400000 (cC ts.length) (dE _ (cC ts.length)) 1 0:=Zl.at (ud oz) (by decide);haveI zd:=kp (X:=X) hn hd (by decide);haveI zf1:=kp (X:=X) hn f1 (by decide);haveI zf2:=kp (X:=X) hn f2 (by decide);haveI zv1:=kp (X:=X) hn v1 (by decide);haveI zv2:=kp (X:=X) hn v2 (by decide);haveI:=zf1.zu;haveI:=zf2.zu;haveI:=zv1.zu;haveI:=zv2.zu
 have hdiv:=qN (ts:=aU ts (sX X)) (u:=773000000) (k:=1101400000) (a:=cC ts.length) (b:=sX (eP d)) (j:=ts.length) hd.nm.nl (by rw[dQ];omega) hn (by rw[o8];exact h0) (by decide);haveI zs:Zu 773000000 1101400000 (ek X d) 6 3:=hdiv.2;haveI qm:Qz 773000000 ((-1:Int):Rat) 1:=Qz.int (c:=Cy.cx (c:=cy)) (by decide);haveI zm:Zu 773000000 1101400000 (qE ((-1:Int):Rat)*aP X v.2) 2 1:=ace;haveI zu:Zu 773000000 1101400000 (qE ((-1:Int):Rat)*ek X d) 7 4:=ace;have ht:=B8 (ts:=aU ts (sX X)) (u:=773000000) (k:=1101400000) (a:=sX v.2) (-1) oz (by decide);have hu:=B8 (ts:=aU ts (sX X)) (u:=773000000) (k:=1101400000) (a:=sX (ek X d)) (-1) oz (by decide)
 have al:∀{c:Et (aU ts (sX X))}{w k:Nat}(zc:Zu 773000000 1101400000 c w k),w<=7->k<=4 ->
   Con prog 435 [.ptr 1000 0,aD (sX f.1) (sX f.2),nA (sX c),aD (sX (qE ((-1:Int):Rat)*aP X v.2)) (sX v.1)] [pP 1000 (bi (aU ts (sX X)))] (dC (gK X f v c).l) [pP 1000 (bi (aU ts (sX X)))]:=by
  intro c w k zc hw hk;haveI:=zc;have m1:=jH (ts:=aU ts (sX X)) (u:=773000000) (k:=1101400000) (a:=sX c) (b:=sX (qE ((-1:Int):Rat)*aP X v.2)) oz;have m2:=jH (ts:=aU ts (sX X)) (u:=773000000) (k:=1101400000) (a:=sX c) (b:=sX v.1) oz;have m3:=kv (ts:=aU ts (sX X)) (u:=773000000) (k:=1101400000) (a:=sX f.1) (b:=sX (c*(qE ((-1:Int):Rat)*aP X v.2))) oz;have m4:=kv (ts:=aU ts (sX X)) (u:=773000000) (k:=1101400000) (a:=sX f.2) (b:=sX (c*aP X v.1)) oz;exact tl m1 m2 m3 m4
 exact⟨hdiv.1,ht,hu,al zs oz oz,al zu oz oz,
  ⟨(ace:Zu 773000000 1101400000 (aP X f.1+ek X d*(qE ((-1:Int):Rat)*aP X v.2)) 9 6),⟨(ace:Zu 773000000 1101400000 (aP X f.2+ek X d*aP X v.1) _ _).nm.mono (by decide)⟩⟩,
  ⟨(ace:Zu 773000000 1101400000 (aP X f.1+qE ((-1:Int):Rat)*ek X d*(qE ((-1:Int):Rat)*aP X v.2)) 10 7),⟨(ace:Zu 773000000 1101400000 (aP X f.2+qE ((-1:Int):Rat)*ek X d*aP X v.1) _ _).nm.mono (by decide)⟩⟩⟩
theorem Pm(h:TR rs 64990)(hc:bM rs=0)(hn:(llq rs).length<=1)[c0:Ct (llq rs) 310000 65000][i1:Zl (llq rs) 310000 65000 a x 40 40][i2:Zl (llq rs) 310000 65000 b y 40 40][i3:Zl (llq rs) 310000 65000 c z 3 0][i4:Zl (llq rs) 310000 65000 a2 x2 40 40][i5:Zl (llq rs) 310000 65000 b2 y2 40 40][i6:Zl (llq rs) 310000 65000 c2 z2 3 0]
  (ha:a=sX x) (hb:b=sX y) (s1:0<=ao z) (s2:0<=ao z2):FP 377 [cI rs,.agg [nA a,nA b,nA c],.agg [nA a2,nA b2,nA c2]] (.tup [(er (x,y) (x2,y2) z z2).av,bF (fQ (x,y) (x2,y2) z z2)]):=by
 have hz:∀q∈[(a,b,c),(a2,b2,c2)],CiZ rs q:=fun q hq=>by
  simp only[abd,abb,or_false]at hq;rcases hq with rfl |rfl
  ·exact⟨i1.nm.mono oz,i2.nm.mono oz,i3.nm.mono oz,by show 0<=ao (dE (llq rs) c);rw[show dE (llq rs) c=z from i3.eq];exact s1⟩
  ·exact⟨i4.nm.mono oz,i5.nm.mono oz,i6.nm.mono oz,by show 0<=ao (dE (llq rs) c2);rw[show dE (llq rs) c2=z2 from i6.eq];exact s2⟩
 have hck:=IS h hc [(a,b,c),(a2,b2,c2)] hz (by show 2<=100;omega);obtain⟨tw,etw⟩:=db h hc;haveI cy:Cy (llq rs) 310000 65000:=⟨c0.ex,by omega,by omega,by omega⟩
 have P:=JI c0 i1.zu i2.zu i3.zu i4.zu i5.zu i6.zu;haveI:=P.zd;haveI:=P.zX;haveI:=i3.zu;haveI:=i6.zu;have m1:=rc (ts:=llq rs) (u:=310000) (k:=65000) (a:=sX (aA (x,y) (x2,y2))) (by decide);have m2:=rc (ts:=llq rs) (u:=310000) (k:=65000) (a:=sX (bj (x,y) z (x2,y2) z2)) (by decide);have m0:=Con.sA (.cons (.refl _) (.cons (Sub.nil 2 none 0) .nil)) (nV tw []);have w1:=lU (ts:=llq rs) (u:=310000) (k:=65000) (a:=a2) (b:=a) (by decide);have w2:=lU (ts:=llq rs) (u:=310000) (k:=65000) (a:=b2) (b:=b) (by decide);haveI q2:Qz 310000 ((2:Int):Rat) 1:=Qz.int (c:=Cy.cx (c:=cy)) (by decide);have t2:=B8 (ts:=llq rs) (u:=310000) (k:=65000) (a:=sX (aA (x,y) (x2,y2))) 2 oz (by decide);have k1:=kv (ts:=llq rs) (u:=310000) (k:=65000) (a:=c) (b:=sX (aA (x,y) (x2,y2))) (by decide);have k2:=lU (ts:=llq rs) (u:=310000) (k:=65000) (a:=sX (z+aA (x,y) (x2,y2))) (b:=c2) (by decide);subst ha;subst hb;refine aj func377 ?_;refine gc hck ?_;refine gf ?_ (5,0);refine gW (Wk.o (sl:=[pP 4 (.ptr 4 0),pP 5 (.ptr 5 0),pP 6 (.ptr 6 0),pP 9 (.ptr 29 0)]) (hp:=[pP 4 (.box [nA (sX x),nA (sX y),nA c]),pP 5 (.box [nA a2,nA b2,nA c2]),pP 6 (.box [nS,nS]),pP 29 (bR rs)])) ?_;refine gt (aE (Con.rB 29 rfl rfl rfl rfl (WZ h hc)) (aJ rfl rfl rfl) aG rfl rfl) ?_ (6,0);refine gW (Wk.of (sl:=[pP 4 (.ptr 4 0),pP 5 (.ptr 5 0),pP 6 (.ptr 6 0),pP 9 (.ptr 29 0),pP 10 (nA (sX (bj (x,y) z (x2,y2) z2))),pP 11 (nA (sX (aA (x,y) (x2,y2))))]) (hp:=[pP 4 (.box [nA (sX x),nA (sX y),nA c]),pP 5 (.box [nA a2,nA b2,nA c2]),pP 6 (.box [nS,nS]),pP 29 (bi (llq rs))]) bb (.k (.k (.k (.cons rfl (BlkSub.bL (.cons (.of (mt etw)) (.cons (.refl _) .nil)) rfl) .nil))))) ?_
 refine gt (aV (Con.rB 29 rfl rfl rfl rfl m1) (bC rfl rfl) rfl rfl rfl) ?_;refine gC (fun w=>?_) (fun w=>?_)
 ·have hd0:ao (aA (x,y) (x2,y2))=0:=cM w;refine gt (aV (Con.rB 29 rfl rfl rfl rfl (We (a:=sX x) (b:=sX y) (c:=c) (a2:=a2) (b2:=b2) (c2:=c2) tw)) (aJ rfl rfl rfl) rfl rfl rfl) ?_;refine bt ?_;unfold er fQ;rw[ab6 hd0,ab6 hd0]
 have hd0:¬ao (aA (x,y) (x2,y2))=0:=dk w;refine gt (aV (Con.rB 29 rfl rfl rfl rfl m2) (bC rfl rfl) rfl rfl rfl) ?_;refine gC (fun w=>?_) (fun w=>?_)
 ·have hx0:ao (bj (x,y) z (x2,y2) z2)<0:=ab8 w;refine gt (aV (Con.rB 29 rfl rfl rfl rfl m0) (.cons (.tmp rfl) (.cons (.const _) .nil)) rfl rfl rfl) ?_;refine bt ?_;unfold er fQ;rw[ab5 hd0,ab5 hd0,ab6 hx0];rfl
 have hx0:¬ao (bj (x,y) z (x2,y2) z2)<0:=ab9 w;have ht0:ao (eP (aA (x,y) (x2,y2)))≠0:=by rw[v8 tw];exact hd0
 obtain⟨fd,fk,f1,f2⟩:=JX hn i1.zu i2.zu i3.zu i6.zu P ht0;haveI:=fk;haveI:=P.z1;haveI:=P.z2;have g1:=jH (ts:=llq rs) (u:=310000) (k:=65000) (a:=sX ((z+aA (x,y) (x2,y2)-z2)*iE (eP (aA (x,y) (x2,y2))))) (b:=sX (fW (x,y) (x2,y2)).1) (by decide);have g2:=jH (ts:=llq rs) (u:=310000) (k:=65000) (a:=sX ((z+aA (x,y) (x2,y2)-z2)*iE (eP (aA (x,y) (x2,y2))))) (b:=sX (fW (x,y) (x2,y2)).2) (by decide);have g3:=kv (ts:=llq rs) (u:=310000) (k:=65000) (a:=sX x) (b:=sX ((z+aA (x,y) (x2,y2)-z2)*iE (eP (aA (x,y) (x2,y2)))*(fW (x,y) (x2,y2)).1)) (by decide);have g4:=kv (ts:=llq rs) (u:=310000) (k:=65000) (a:=sX y) (b:=sX ((z+aA (x,y) (x2,y2)-z2)*iE (eP (aA (x,y) (x2,y2)))*(fW (x,y) (x2,y2)).2)) (by decide);have gal:=tl g1 g2 g3 g4;refine gt (aV (Con.rB 29 rfl rfl rfl rfl w1) (aJ rfl rfl rfl) rfl rfl rfl) ?_;refine gt (aV (Con.rB 29 rfl rfl rfl rfl w2) (aJ rfl rfl rfl) rfl rfl rfl) ?_;refine gD ?_;refine gt (aV (Con.rB 29 rfl rfl rfl rfl t2) (.cons (.tmp rfl) (.cons (.const _) (cG rfl))) rfl rfl rfl) ?_;refine gt (aV (Con.rB 29 rfl rfl rfl rfl k1) (aJ rfl rfl rfl) rfl rfl rfl) ?_;refine gt (aV (Con.rB 29 rfl rfl rfl rfl k2) (aJ rfl rfl rfl) rfl rfl rfl) ?_;refine gt (aV (Con.rB 29 rfl rfl rfl rfl (ul fd)) (aJ rfl rfl rfl) rfl rfl rfl) ?_;refine gt (aV (Con.rB 29 rfl rfl rfl rfl gal) (.cons (.tmp rfl) (.cons (.tmp rfl) (.cons (.tmp rfl) (.cons (.tmp rfl) .nil)))) rfl rfl rfl) ?_;refine gD ?_;refine gC (fun w=>?_) (fun w=>?_)
 ·have hx1:ao (bj (x,y) z (x2,y2) z2)=0:=cM w;refine gt (aV (Con.rB 29 rfl rfl rfl rfl (nV tw [dC (dj (x,y) (x2,y2) z z2).l])) (bC rfl rfl) rfl rfl rfl) ?_;refine bt ?_;unfold er fQ;rw[ab5 hd0,ab5 hd0,ab5 hx0,ab6 hx1];rfl
 have hx1:¬ao (bj (x,y) z (x2,y2) z2)=0:=dk w;have E:ExtP (bj (x,y) z (x2,y2) z2):=uZ tw hn P.zX oz;have S:=Kk (X:=bj (x,y) z (x2,y2) z2) (d:=aA (x,y) (x2,y2)) (f:=dj (x,y) (x2,y2) z z2) (v:=fW (x,y) (x2,y2)) hn E P.zt ht0 f1 f2 P.z1 P.z2;have hex:=De (a:=sX (bj (x,y) z (x2,y2) z2)) tw P.zX.nm (by rw[cy.lm];decide) (by rw[show ae (llq rs).length (sX (bj (x,y) z (x2,y2) z2))=bj (x,y) z (x2,y2) z2 from bh _ _];show 0<=ao (bj (x,y) z (x2,y2) z2);omega);refine gt (aE (Con.rB 29 rfl rfl rfl rfl hex) (bC rfl rfl) aG rfl rfl) ?_;refine gt (aV (Con.rB 29 rfl rfl rfl rfl (ul S.hd)) (aJ rfl rfl rfl) rfl rfl rfl) ?_;refine gt (aV (Con.rB 29 rfl rfl rfl rfl S.ht) (.cons (.tmp rfl) (.cons (.const _) (cG rfl))) rfl rfl rfl) ?_;refine gD ?_;refine gt (aV (Con.rB 29 rfl rfl rfl rfl S.a1) (.cons (.tmp rfl) (.cons (.tmp rfl) (.cons (.tmp rfl) (.cons (.tmp rfl) .nil)))) rfl rfl rfl) ?_;refine gt (aV (Con.rB 29 rfl rfl rfl rfl S.hu) (.cons (.tmp rfl) (.cons (.const _) (cG rfl))) rfl rfl rfl) ?_;refine gt (aV (Con.rB 29 rfl rfl rfl rfl S.a2) (.cons (.tmp rfl) (.cons (.tmp rfl) (.cons (.tmp rfl) (.cons (.tmp rfl) .nil)))) rfl rfl rfl) ?_;refine gt (aV (Con.rB 29 rfl rfl rfl rfl (nV E.tw [dC (gK (bj (x,y) z (x2,y2) z2) (dj (x,y) (x2,y2) z z2) (fW (x,y) (x2,y2)) (ek (bj (x,y) z (x2,y2) z2) (aA (x,y) (x2,y2)))).l,dC (gK (bj (x,y) z (x2,y2) z2) (dj (x,y) (x2,y2) z z2) (fW (x,y) (x2,y2)) (qE ((-1:Int):Rat)*ek (bj (x,y) z (x2,y2) z2) (aA (x,y) (x2,y2)))).l])) (bC rfl rfl) rfl rfl rfl) ?_;refine gD ?_;refine bt ?_;unfold er fQ;rw[ab5 hd0,ab5 hd0,ab5 hx0,ab5 hx1];rfl
end
section
variable{ts:LL}
abbrev bm(p q:P2 ts):Et ts:=dm (aQ q p) (aQ q p)
abbrev bQ(p q c:P2 ts):Et ts:=dm (aQ q p) (aQ c p)
abbrev iw(p q c:P2 ts):Et ts:=gy (aQ q p) (aQ c p)
abbrev aX(p q c:P2 ts)(z:Et ts):Et ts:=bm p q*z-iw p q c*iw p q c
def fB(X:Et ts)(S:Et ts)(k:Et (aU ts (sX X))):Et (aU ts (sX X)):=k*iE (aP X S)
def jy(X:Et ts)(p v:P2 ts)(k:Et (aU ts (sX X))):P2 (aU ts (sX X)):=cZ (aP X p.1,aP X p.2) k (aP X v.1,aP X v.2)
abbrev bE(X:Et ts):Et (aU ts (sX X)):=dE _ (cC ts.length)
def d8(p q c:P2 ts)(z:Et ts):Mt :=
  if ao (bm p q)=0 then⟨[],[]⟩else if ao (aX p q c z)=-1 then⟨ts,[]⟩else if ao (aX p q c z)=0 then⟨ts,[(cZ p (bQ p q c*iE (bm p q)) (aQ q p)).l]⟩
  else⟨aU ts (sX (aX p q c z)),[(jy (aX p q c z) p (aQ q p) (fB (aX p q c z) (bm p q) (aP (aX p q c z) (bQ p q c)+bE (aX p q c z)))).l,
    (jy (aX p q c z) p (aQ q p) (fB (aX p q c z) (bm p q) (aP (aX p q c z) (bQ p q c)-bE (aX p q c z)))).l]⟩
def fR(p q:P2 ts):Nat:=if ao (bm p q)=0 then 8 else 0
structure LinP(p q c:P2 ts)(z:Et ts):Prop where
  v1:Zu 310000 65000 (aQ q p).1 80 81
  v2:Zu 310000 65000 (aQ q p).2 80 81
  w1:Zu 310000 65000 (aQ c p).1 80 81
  w2:Zu 310000 65000 (aQ c p).2 80 81
  zs:Zu 310000 65000 (bm p q) 320 327
  ze:Zu 310000 65000 (bQ p q c) 320 327
  zc:Zu 310000 65000 (iw p q c) 320 327
  zX:Zu 310000 65000 (aX p q c z) 963 984
theorem Dz{p q c:P2 ts}{z:Et ts}(c0:Cy ts 310000 65000)(h1:Zu 310000 65000 p.1 40 40)(h2:Zu 310000 65000 p.2 40 40)(h3:Zu 310000 65000 q.1 40 40)(h4:Zu 310000 65000 q.2 40 40)(h5:Zu 310000 65000 c.1 40 40)(h6:Zu 310000 65000 c.2 40 40)(h7:Zu 310000 65000 z 3 0):LinP p q c z:=by
 haveI:=c0;haveI:=h1;haveI:=h2;haveI:=h3;haveI:=h4;haveI:=h5;haveI:=h6;haveI:=h7
 haveI v1:=(ace:Zu 310000 65000 (q.1-p.1) 80 81)
 haveI v2:=(ace:Zu 310000 65000 (q.2-p.2) 80 81)
 haveI w1:=(ace:Zu 310000 65000 (c.1-p.1) 80 81)
 haveI w2:=(ace:Zu 310000 65000 (c.2-p.2) 80 81)
 haveI zs:Zu 310000 65000 (bm p q) 320 327:=(ace:Zu 310000 65000 ((q.1-p.1)*(q.1-p.1)+(q.2-p.2)*(q.2-p.2)) _ _)
 haveI ze:Zu 310000 65000 (bQ p q c) 320 327:=(ace:Zu 310000 65000 ((q.1-p.1)*(c.1-p.1)+(q.2-p.2)*(c.2-p.2)) _ _)
 haveI zc:Zu 310000 65000 (iw p q c) 320 327:=(ace:Zu 310000 65000 ((q.1-p.1)*(c.2-p.2)-(q.2-p.2)*(c.1-p.1)) _ _)
 exact⟨v1,v2,w1,w2,zs,ze,zc,ace⟩
structure LinQ(p q c:P2 ts):Prop where
  hd:FP 350 [aT ts,nA (sX (bQ p q c)),nA (sX (bm p q))] (.tup [nA (sX (bQ p q c*iE (bm p q))),.v .nilIface])
  al:Con prog 435 [.ptr 1000 0,aD (sX p.1) (sX p.2),nA (sX (bQ p q c*iE (bm p q))),aD (sX (aQ q p).1) (sX (aQ q p).2)] [pP 1000 (bi ts)] (dC (cZ p (bQ p q c*iE (bm p q)) (aQ q p)).l) [pP 1000 (bi ts)]
  n1:Zu 310000 65000 (cZ p (bQ p q c*iE (bm p q)) (aQ q p)).1 2040 2088
  n2:Zu 310000 65000 (cZ p (bQ p q c*iE (bm p q)) (aQ q p)).2 2040 2088
theorem Io{p q c:P2 ts}{z:Et ts}(c0:Cy ts 310000 65000)(hn:ts.length<=1)(h1:Zu 310000 65000 p.1 40 40)(h2:Zu 310000 65000 p.2 40 40)(P:LinP p q c z)(h0:ao (bm p q)≠0):LinQ p q c:=by
 haveI:=c0;haveI:=h1;haveI:=h2;haveI:=P.v1;haveI:=P.v2;haveI:=P.zs;haveI:=P.ze
 have hd:=qN (ts:=ts) (u:=310000) (k:=65000) (a:=sX (bQ p q c)) (b:=sX (bm p q)) (j:=ts.length) P.zs.nm.nl (aau _) hn h0 (by decide);haveI:=hd.2;have m1:=jH (ts:=ts) (u:=310000) (k:=65000) (a:=sX (bQ p q c*iE (bm p q))) (b:=sX (aQ q p).1) (by decide);have m2:=jH (ts:=ts) (u:=310000) (k:=65000) (a:=sX (bQ p q c*iE (bm p q))) (b:=sX (aQ q p).2) (by decide);have m3:=kv (ts:=ts) (u:=310000) (k:=65000) (a:=sX p.1) (b:=sX (bQ p q c*iE (bm p q)*(aQ q p).1)) (by decide);have m4:=kv (ts:=ts) (u:=310000) (k:=65000) (a:=sX p.2) (b:=sX (bQ p q c*iE (bm p q)*(aQ q p).2)) (by decide);exact⟨hd.1,tl m1 m2 m3 m4,(ace:Zu 310000 65000 (p.1+bQ p q c*iE (bm p q)*(aQ q p).1) _ _),(ace:Zu 310000 65000 (p.2+bQ p q c*iE (bm p q)*(aQ q p).2) _ _)⟩
structure LinS(X:Et ts)(S:Et ts)(p v:P2 ts)(k:Et (aU ts (sX X))):Prop where
  hd:FP 350 [aT (aU ts (sX X)),nA (sX k),nA (sX S)] (.tup [nA (sX (fB X S k)),.v .nilIface])
  al:Con prog 435 [.ptr 1000 0,aD (sX p.1) (sX p.2),nA (sX (fB X S k)),aD (sX v.1) (sX v.2)] [pP 1000 (bi (aU ts (sX X)))] (dC (jy X p v (fB X S k)).l) [pP 1000 (bi (aU ts (sX X)))]
  n1:Zu 773000000 1101400000 (jy X p v (fB X S k)).1 9 6
  n2:Zu 773000000 1101400000 (jy X p v (fB X S k)).2 9 6
theorem wd{X S:Et ts}{p v:P2 ts}{k:Et (aU ts (sX X))}(hn:ts.length<=1)(E:ExtP X)(hs:Zu 310000 65000 S 320 327)(h0:ao S≠0)(p1:Zu 310000 65000 p.1 40 40)(p2:Zu 310000 65000 p.2 40 40)(v1:Zu 310000 65000 v.1 80 81)(v2:Zu 310000 65000 v.2 80 81)
  (hk:Zu 773000000 1101400000 k 2 1):LinS X S p v k:=by
 haveI cy:=E.cy;haveI:=hk;haveI zs:=kp (X:=X) hn hs (by decide);haveI zp1:=kp (X:=X) hn p1 (by decide);haveI zp2:=kp (X:=X) hn p2 (by decide);haveI zv1:=kp (X:=X) hn v1 (by decide);haveI zv2:=kp (X:=X) hn v2 (by decide);haveI:=zp1.zu;haveI:=zp2.zu;haveI:=zv1.zu;haveI:=zv2.zu
 have hdiv:=qN (ts:=aU ts (sX X)) (u:=773000000) (k:=1101400000) (a:=sX k) (b:=sX S) (j:=ts.length) hs.nm.nl (by rw[dQ];omega) hn (by rw[o8];exact h0) (by decide);haveI zk:Zu 773000000 1101400000 (fB X S k) 7 4:=hdiv.2;have m1:=jH (ts:=aU ts (sX X)) (u:=773000000) (k:=1101400000) (a:=sX (fB X S k)) (b:=sX v.1) (by decide);have m2:=jH (ts:=aU ts (sX X)) (u:=773000000) (k:=1101400000) (a:=sX (fB X S k)) (b:=sX v.2) (by decide);have m3:=kv (ts:=aU ts (sX X)) (u:=773000000) (k:=1101400000) (a:=sX p.1) (b:=sX (fB X S k*aP X v.1)) (by decide);have m4:=kv (ts:=aU ts (sX X)) (u:=773000000) (k:=1101400000) (a:=sX p.2) (b:=sX (fB X S k*aP X v.2)) (by decide);exact⟨hdiv.1,tl m1 m2 m3 m4,(ace:Zu 773000000 1101400000 (aP X p.1+fB X S k*aP X v.1) 9 6),(ace:Zu 773000000 1101400000 (aP X p.2+fB X S k*aP X v.2) 9 6)⟩
theorem Bf{X:Et ts}{w v w' v' u k:Nat}(h:Zu u k X w v)(hw:w<=w')(hv:v<=v'):Zu u k X w' v':=⟨h.nm.mono (yI hw hv)⟩
theorem Pe{x:Int}(h:cond (cond (d5 Value.nilIface) (aa .eql x 0) false) (d5 Value.nilIface) false=true):x=0:=by
 cases h9:aa .eql x 0
 ·rw[h9]at h;cases h
 ·exact cM h9
theorem Og{x:Int}(h:cond (cond (d5 Value.nilIface) (aa .eql x 0) false) (d5 Value.nilIface) false=false):x≠0:=by
 cases h9:aa .eql x 0
 ·exact dk h9
 ·rw[h9]at h;cases h
theorem Uk{x y:AV}{i:Nat}{Q:AV->Prop}(hi:i<2)(hx:Q x)(hy:Q y):∃z,[x,y][i]?=some z/\Q z:=by
 have h:i=0\/i=1:=by omega
 rcases h with rfl |rfl
 ·exact⟨x,rfl,hx⟩
 ·exact⟨y,rfl,hy⟩
theorem F2{r e:Nat}{a b c d:Et ts}(tw:Tw ts r)(hl:lm ts.length=200000000000)(h1:Nm ts.length e (sX a))(h2:Nm ts.length e (sX b))(h3:Nm ts.length e (sX c))(h4:Nm ts.length e (sX d))(he:e+e+kB r ts.length<=100000000000) :
  FP 102 [aT ts,aD (sX a) (sX b),aD (sX c) (sX d)] (.tup [nA (sX (a*c+b*d)),.v .nilIface]):=by
 have h:=sV tw h1 h2 h3 h4 (by rw[hl];omega);rw[show ae ts.length (sX a)=a from bh _ _,show ae ts.length (sX b)=b from bh _ _,show ae ts.length (sX c)=c from bh _ _,show ae ts.length (sX d)=d from bh _ _]at h;exact h
theorem Wl{r e:Nat}{a b c d:Et ts}(tw:Tw ts r)(hl:lm ts.length=200000000000)(h1:Nm ts.length e (sX a))(h2:Nm ts.length e (sX b))(h3:Nm ts.length e (sX c))(h4:Nm ts.length e (sX d))(he:e+e+kB r ts.length<=100000000000) :
  FP 99 [aT ts,aD (sX a) (sX b),aD (sX c) (sX d)] (.tup [nA (sX (a*d-b*c)),.v .nilIface]):=by
 have h:=AF tw h1 h2 h3 h4 (by rw[hl];omega);rw[show ae ts.length (sX a)=a from bh _ _,show ae ts.length (sX b)=b from bh _ _,show ae ts.length (sX c)=c from bh _ _,show ae ts.length (sX d)=d from bh _ _]at h;exact h
end
section
variable{rs:List (List Rt)}{c:List Rat}{o p q:P2 (llq rs)}{z:Et (llq rs)}
theorem Ot(h:TR rs 64990)(hc:bM rs=0)(hn:(llq rs).length<=1)(c0:Ct (llq rs) 310000 65000)(ho1:Zu 310000 65000 o.1 40 40)(ho2:Zu 310000 65000 o.2 40 40)(p1:Zu 310000 65000 p.1 40 40)(p2:Zu 310000 65000 p.2 40 40)(q1:Zu 310000 65000 q.1 40 40)(q2:Zu 310000 65000 q.2 40 40)
  [i3:Zl (llq rs) 310000 65000 c z 3 0] (s1:0<=ao z):FP 379 [cI rs,.agg [nA (sX o.1),nA (sX o.2),nA c],dC p.l,dC q.l] (.tup [(d8 p q o z).av,bF (fR p q)]):=by
 obtain⟨tw,etw⟩:=db h hc;haveI cy:Cy (llq rs) 310000 65000:=⟨c0.ex,by obtain⟨_,h9,_⟩:=c0;exact h9,by obtain⟨_,_,h9,_⟩:=c0;exact h9,by omega⟩
 have hlm:=cy.lm;have hck:=rx rs 64990 h;rw[hc]at hck;have P:=Dz cy p1 p2 q1 q2 ho1 ho2 i3.zu;haveI:=ho1;haveI:=ho2;haveI:=p1;haveI:=p2;haveI:=q1;haveI:=q2;haveI:=P.v1;haveI:=P.v2;haveI:=P.w1;haveI:=P.w2;haveI:=P.zs;haveI:=P.ze;haveI:=P.zc;haveI:=P.zX
 have hci:=GJ (e:=40*310000+40*65000) h hc ho1.nm ho2.nm (i3.nm.mono (by decide)) (by rw[hlm];decide)
 have hra:=DW h hc [(sX o.1,sX o.2,c)] (fun y hy=>by
  rw[Za.1 hy];exact⟨ho1.nm.mono (by decide),ho2.nm.mono (by decide),i3.nm.mono (by decide),by show 0<=ao (dE (llq rs) c);rw[show dE (llq rs) c=z from i3.eq];exact s1⟩) (by show 1<=100;omega)
 have a1:=lU (ts:=llq rs) (u:=310000) (k:=65000) (a:=sX q.1) (b:=sX p.1) (by decide);have a2:=lU (ts:=llq rs) (u:=310000) (k:=65000) (a:=sX q.2) (b:=sX p.2) (by decide);have a3:=lU (ts:=llq rs) (u:=310000) (k:=65000) (a:=sX o.1) (b:=sX p.1) (by decide);have a4:=lU (ts:=llq rs) (u:=310000) (k:=65000) (a:=sX o.2) (b:=sX p.2) (by decide);have hkb:80*310000+81*65000+(80*310000+81*65000)+kB 64990 (llq rs).length<=100000000000:=by have:=zR hn;omega
 have b1:=F2 tw hlm P.v1.nm P.v2.nm P.v1.nm P.v2.nm hkb;have b2:=F2 tw hlm P.v1.nm P.v2.nm P.w1.nm P.w2.nm hkb;have b3:=Wl tw hlm P.v1.nm P.v2.nm P.w1.nm P.w2.nm hkb;rw[<- etw]at b1 b2 b3;have m1:=rc (ts:=llq rs) (u:=310000) (k:=65000) (a:=sX (bm p q)) (by decide);have m2:=jH (ts:=llq rs) (u:=310000) (k:=65000) (a:=sX (bm p q)) (b:=c) (by decide);have m3:=jH (ts:=llq rs) (u:=310000) (k:=65000) (a:=sX (iw p q o)) (b:=sX (iw p q o)) (by decide);haveI zz:=i3.zu;have m4:=lU (ts:=llq rs) (u:=310000) (k:=65000) (a:=sX (bm p q*z)) (b:=sX (iw p q o*iw p q o)) (by decide);have m5:=rc (ts:=llq rs) (u:=310000) (k:=65000) (a:=sX (aX p q o z)) (by decide);have m0:=Con.sA (.cons (.refl _) (.cons (Sub.nil 2 none 0) .nil)) (nV tw []);refine aj func379 ?_;refine gc hck ?_;refine gf ?_;refine gc hci ?_;refine gf ?_;refine ge rfl ?_;refine aW [4,5,6,7,8,39,40] [4,5,6,7,8] (fun(i:Nat)=>[pP 41 (i64 i)]) (fun _=>[]) (fun i=>i<=2) (fun i=>2-i) 0 (aa0 _) ?_;rintro i hi K1 J1;refine gC (fun t=>?_) (fun t=>?_)
 ·have hin:i<2:=a9 (b:=2) t;obtain⟨zz2,hz2,u,v,hu,hv,rfl⟩:=Uk (x:=dC p.l) (y:=dC q.l) (Q:=fun w=>∃u v,Nm (llq rs).length (40*310000+40*65000) u/\Nm (llq rs).length (40*310000+40*65000) v/\w=aD u v) hin ⟨_,_,p1.nm,p2.nm,rfl⟩ ⟨_,_,q1.nm,q2.nm,rfl⟩;refine gi hz2 ?_;refine gc (FK h hc hu hv (by rw[hlm];decide)) ?_;refine gf ?_;refine ga aS ?_;exact aR J1 (i+1) hin
 refine gc hra ?_;refine gf ?_ (18,0);refine gW (Wk.of (sl:=[pP 4 (.ptr 4 0),pP 5 (.ptr 5 0),pP 6 (.ptr 6 0),pP 7 (.ptr 7 0),pP 8 (.ptr 8 0),pP 16 (.ptr 63 0)]) (hp:=[pP 4 (.box [.lst 1 (rs.map nR)]),pP 5 (.box [nA (sX o.1),nA (sX o.2),nA c]),pP 6 (.box [nA (sX p.1),nA (sX p.2)]),pP 7 (.box [nA (sX q.1),nA (sX q.2)]),pP 8 (.box [nS,nS]),pP 63 (bi (llq rs))]) bb (.k (.k (.k (.k (.k (.cons rfl (BlkSub.bL (.cons (.of (mt etw)) (.cons (.refl _) .nil)) rfl) .nil))))))) ?_
 refine gt (aV (Con.rB 63 rfl rfl rfl rfl a1) (aJ rfl rfl rfl) rfl rfl rfl) ?_;refine gt (aV (Con.rB 63 rfl rfl rfl rfl a2) (aJ rfl rfl rfl) rfl rfl rfl) ?_;refine gD ?_;refine gt (aV (Con.rB 63 rfl rfl rfl rfl a3) (aJ rfl rfl rfl) rfl rfl rfl) ?_;refine gt (aV (Con.rB 63 rfl rfl rfl rfl a4) (aJ rfl rfl rfl) rfl rfl rfl) ?_;refine gD ?_;refine gc b1 ?_;refine gt (aV (Con.rB 63 rfl rfl rfl rfl (oB _ _)) (aJ rfl rfl rfl) rfl rfl rfl) ?_;refine gu (fa rfl rfl rfl (fun h=>aV (Con.rB 63 rfl rfl rfl rfl m1) (.cons (.opt rfl (o1 h)) (.cons (.opt rfl (o1 h)) .nil)) rfl rfl rfl)) ?_;refine gC (fun t=>?_) (fun t=>?_)
 ·have h0:ao (bm p q)=0:=Pe t;refine gR ?_;exact dS (by unfold d8 fR;rw[ab6 h0,ab6 h0];exact Sub.tup (.cons JF (.cons (.refl _) .nil)))
 have h0:ao (bm p q)≠0:=Og t;have Q:=Io cy hn p1 p2 P h0;refine gc b2 ?_;refine gt (aV (Con.rB 63 rfl rfl rfl rfl (oB _ _)) (aJ rfl rfl rfl) rfl rfl rfl) ?_;refine gc b3 ?_;refine gt (aV (Con.rB 63 rfl rfl rfl rfl (oB _ _)) (aJ rfl rfl rfl) rfl rfl rfl) ?_;refine gt (aV (Con.rB 63 rfl rfl rfl rfl m2) (aJ rfl rfl rfl) rfl rfl rfl) ?_;refine gt (aV (Con.rB 63 rfl rfl rfl rfl m3) (aJ rfl rfl rfl) rfl rfl rfl) ?_;refine gt (aV (Con.rB 63 rfl rfl rfl rfl m4) (aJ rfl rfl rfl) rfl rfl rfl) ?_;refine gt (aV (Con.rB 63 rfl rfl rfl rfl m5) (bC rfl rfl) rfl rfl rfl) ?_;refine gC (fun t=>?_) (fun t=>?_)
 ·have h1:ao (aX p q o z)=-1:=cM t;refine gt (aV (Con.rB 63 rfl rfl rfl rfl m0) (.cons (.tmp rfl) (.cons (.const _) .nil)) rfl rfl rfl) ?_;refine bt ?_;unfold d8 fR;rw[ab5 h0,ab5 h0,ab6 h1];rfl
 have h1:¬ao (aX p q o z)=-1:=dk t;refine gC (fun t=>?_) (fun t=>?_)
 ·have h2:ao (aX p q o z)=0:=cM t;refine gt (aV (Con.rB 63 rfl rfl rfl rfl (ul Q.hd)) (aJ rfl rfl rfl) rfl rfl rfl) ?_;refine gt (aV (Con.rB 63 rfl rfl rfl rfl Q.al) (.cons (.tmp rfl) (.cons (.tmp rfl) (.cons (.tmp rfl) (.cons (.tmp rfl) .nil)))) rfl rfl rfl) ?_;refine gt (aV (Con.rB 63 rfl rfl rfl rfl (nV tw [dC (cZ p (bQ p q o*iE (bm p q)) (aQ q p)).l])) (bC rfl rfl) rfl rfl rfl) ?_;refine gD ?_;refine bt ?_;unfold d8 fR;rw[ab5 h0,ab5 h0,ab5 h1,ab6 h2];rfl
 have h2:¬ao (aX p q o z)=0:=dk t
 have hpos:0<=ao (aX p q o z):=by
  have:=T.sgn_cases (au (llq rs)) (llq rs).length (aX p q o z);have e:ao (aX p q o z)=T.sgn (au (llq rs)) (llq rs).length (aX p q o z):=rfl;omega
 have E:ExtP (aX p q o z):=uZ tw hn (Bf P.zX oz oz) hpos;haveI ce:=E.cy;haveI zr:Zl (aU (llq rs) (sX (aX p q o z))) 773000000 1101400000 (cC (llq rs).length) (dE _ (cC (llq rs).length)) 1 0:=Zl.at (ud oz) (by decide);haveI ze':=kp (X:=aX p q o z) hn P.ze (by decide);haveI:=zr.zu;haveI:=ze'.zu
 have e1:=kv (ts:=aU (llq rs) (sX (aX p q o z))) (u:=773000000) (k:=1101400000) (a:=sX (bQ p q o)) (b:=cC (llq rs).length) (by decide);have e2:=lU (ts:=aU (llq rs) (sX (aX p q o z))) (u:=773000000) (k:=1101400000) (a:=sX (bQ p q o)) (b:=cC (llq rs).length) (by decide);have S1:=wd (p:=p) (v:=aQ q p) hn E P.zs h0 p1 p2 P.v1 P.v2 (k:=aP (aX p q o z) (bQ p q o)+bE (aX p q o z)) ace;have S2:=wd (p:=p) (v:=aQ q p) hn E P.zs h0 p1 p2 P.v1 P.v2 (k:=aP (aX p q o z) (bQ p q o)-bE (aX p q o z)) ace;have hex:=De (a:=sX (aX p q o z)) tw P.zX.nm (by rw[hlm];decide) (by rw[show ae (llq rs).length (sX (aX p q o z))=aX p q o z from bh _ _];exact hpos);refine gt (aE (Con.rB 63 rfl rfl rfl rfl hex) (bC rfl rfl) aG rfl rfl) ?_;refine gt (aV (Con.rB 63 rfl rfl rfl rfl e1) (aJ rfl rfl rfl) rfl rfl rfl) ?_;refine gt (aV (Con.rB 63 rfl rfl rfl rfl (ul S1.hd)) (aJ rfl rfl rfl) rfl rfl rfl) ?_;refine gt (aV (Con.rB 63 rfl rfl rfl rfl S1.al) (.cons (.tmp rfl) (.cons (.tmp rfl) (.cons (.tmp rfl) (.cons (.tmp rfl) .nil)))) rfl rfl rfl) ?_;refine gt (aV (Con.rB 63 rfl rfl rfl rfl e2) (aJ rfl rfl rfl) rfl rfl rfl) ?_;refine gt (aV (Con.rB 63 rfl rfl rfl rfl (ul S2.hd)) (aJ rfl rfl rfl) rfl rfl rfl) ?_;refine gt (aV (Con.rB 63 rfl rfl rfl rfl S2.al) (.cons (.tmp rfl) (.cons (.tmp rfl) (.cons (.tmp rfl) (.cons (.tmp rfl) .nil)))) rfl rfl rfl) ?_;refine gt (aV (Con.rB 63 rfl rfl rfl rfl (nV E.tw [dC (jy (aX p q o z) p (aQ q p) (fB (aX p q o z) (bm p q) (aP (aX p q o z) (bQ p q o)+bE (aX p q o z)))).l,dC (jy (aX p q o z) p (aQ q p) (fB (aX p q o z) (bm p q) (aP (aX p q o z) (bQ p q o)-bE (aX p q o z)))).l])) (bC rfl rfl) rfl rfl rfl) ?_;refine gD ?_;refine bt ?_;unfold d8 fR;rw[ab5 h0,ab5 h0,ab5 h1,ab5 h2];rfl
end
theorem T.inv_congr{r r':(k:Nat)->T k}:∀(k:Nat),(∀j,j<k->r j=r' j)->∀x,T.inv r k x=T.inv r' k x
 |0,_,x=>rfl
 |k+1,h,x=>by
  have ih:=T.inv_congr k (fun j hj=>h j oz);have hm:=T.mul_congr k (fun j hj=>h j oz);have hs:=T.sgn_congr k (fun j hj=>h j oz)
  have hn:T.norm r k x=T.norm r' k x:=by
   unfold T.norm;rw[h k oz];simp only[hm]
  conv=>lhs;unfold T.inv
  conv=>rhs;unfold T.inv
  simp only[ih,hm,hs,hn]
def jm{n N:Nat}(x:T n):T N:=ae N (sh n x)
section
variable{n N:Nat}{r r':(k:Nat)->T k}
theorem kG(x:T n):(jm x:T (n+1))=(x,T.zero n):=by
 unfold jm;rw[gq (eT n x).le,bh]
theorem XA(hN:N=n+1)(h:∀j,j<n->r j=r' j)(x y:T n):(jm (T.mul r n x y):T N)=T.mul r' N (jm x) (jm y):=by
 subst hN;rw[kG,kG,kG,mul_low,T.zero_mul,T.mul_congr n h]
theorem QE(hN:N=n+1)(x y:T n):(jm (T.add n x y):T N)=T.add N (jm x) (jm y):=by
 subst hN;rw[kG,kG,kG];show(T.add n x y,T.zero n)=(T.add n x y,T.add n (T.zero n) (T.zero n));rw[T.zero_add]
theorem VB(hN:N=n+1)(x:T n):(jm (T.neg n x):T N)=T.neg N (jm x):=by
 subst hN;rw[kG,kG];show(T.neg n x,T.zero n)=(T.neg n x,T.neg n (T.zero n));rw[T.neg_zero]
theorem Wz(hN:N=n+1)(q:Rat):(jm (T.ofQ n q):T N)=T.ofQ N q:=by
 subst hN;rw[kG];rfl
theorem QV(hN:N=n+1)(h:∀j,j<n->r j=r' j)(x:T n):(jm (T.inv r n x):T N)=T.inv r' N (jm x):=by
 subst hN;rw[kG,kG,T.inv_low,T.inv_congr n h]
end
section
variable{ts:LL}(X:Et ts)
theorem Fz{l:List Rat}(j:Nat)(hj:j<ts.length):au ts j=au (aU ts l) j:=(yn hj).symm
theorem fE(x y:Et ts):aP X (x*y)=aP X x*aP X y:=XA (dQ _ _) Fz x y
theorem pZ(x y:Et ts):aP X (x+y)=aP X x+aP X y:=QE (dQ _ _) x y
theorem IG(x:Et ts):aP X (-x)=-aP X x:=VB (dQ _ _) x
theorem nC(q:Rat):aP X (qE q)=qE q:=Wz (dQ _ _) q
theorem o7(x:Et ts):aP X (iE x)=iE (aP X x):=QV (dQ _ _) Fz x
end
theorem lJ{ts:LL}:(qE ((1:Int):Rat):Et ts)=1:=rfl
theorem GH{ts:LL}:(qE ((-1:Int):Rat):Et ts)=-1:=by
 have h:=(T.ofQ_neg ts.length ((1:Nat):Rat))
 rw[show(((-1:Int):Rat))=-((1:Nat):Rat) by rfl];exact h
theorem Cw{ts:LL}(d:Et ts):eP d=d+d:=by
 have h:(qE ((2:Int):Rat):Et ts)=1+1:=by
  have h:=T.ofQ_add ts.length ((1:Nat):Rat) ((1:Nat):Rat);rw[show(((2:Int):Rat))=((1:Nat):Rat)+((1:Nat):Rat) by decide +kernel];exact h
 unfold eP;rw[h];grind
theorem Ba{ts:LL}:(qE 0:Et ts)=0:=rfl
section
variable{ts:LL}
theorem wC(p q:P2 ts)(z z2:Et ts):dj p q z z2=cZ p ((qE ((1:Int):Rat)*iE (aA p q+aA p q))*(z+aA p q-z2)) (aQ q p):=by
 unfold dj fW cZ;rw[Cw,lJ];refine Prod.ext ?_ ?_
 ·show p.1+(z+aA p q-z2)*iE (aA p q+aA p q)*(q.1-p.1)=p.1+1*iE (aA p q+aA p q)*(z+aA p q-z2)*(q.1-p.1);grind
 ·show p.2+(z+aA p q-z2)*iE (aA p q+aA p q)*(q.2-p.2)=p.2+1*iE (aA p q+aA p q)*(z+aA p q-z2)*(q.2-p.2);grind
def gM(p q:P2 ts):P2 ts:=(qE ((1:Int):Rat)*iE (aA p q+aA p q)*(0-(aQ q p).2),qE ((1:Int):Rat)*iE (aA p q+aA p q)*(aQ q p).1)
theorem u9(X:Et ts)(f p q:P2 ts):gK X f (fW p q) (ek X (aA p q))=(aP X f.1+bE X*aP X (gM p q).1,aP X f.2+bE X*aP X (gM p q).2):=by
 unfold gK cZ ek gM;rw[Cw,GH];refine Prod.ext ?_ ?_
 ·show aP X f.1+bE X*iE (aP X (aA p q+aA p q))*(-1*aP X (q.2-p.2))=aP X f.1+bE X*aP X (qE ((1:Int):Rat)*iE (aA p q+aA p q)*(0-(q.2-p.2)));rw[fE,fE,nC,o7,show(0:Et ts)-(q.2-p.2)=-(q.2-p.2) by grind,IG,lJ];grind
 ·show aP X f.2+bE X*iE (aP X (aA p q+aA p q))*aP X (q.1-p.1)=aP X f.2+bE X*aP X (qE ((1:Int):Rat)*iE (aA p q+aA p q)*(q.1-p.1));rw[fE,fE,nC,o7,lJ];grind
theorem wk(X:Et ts)(f p q:P2 ts):gK X f (fW p q) (qE ((-1:Int):Rat)*ek X (aA p q))=(aP X f.1-bE X*aP X (gM p q).1,aP X f.2-bE X*aP X (gM p q).2):=by
 have h:=u9 X f p q;have h1:=acd Prod.fst h;have h2:=acd Prod.snd h;unfold gK cZ at h1 h2 ⊢;rw[GH]at h1 h2 ⊢;dsimp only at h1 h2;refine Prod.ext ?_ ?_
 ·dsimp only;grind
 ·dsimp only;grind
def gz(p q:P2 ts):P2 ts:=(qE ((1:Int):Rat)*iE (bm p q)*(aQ q p).1,qE ((1:Int):Rat)*iE (bm p q)*(aQ q p).2)
theorem vR(X:Et ts)(p q c:P2 ts):jy X p (aQ q p) (fB X (bm p q) (aP X (bQ p q c)+bE X)) =
  (aP X (cZ p (bQ p q c*iE (bm p q)) (aQ q p)).1+bE X*aP X (gz p q).1,aP X (cZ p (bQ p q c*iE (bm p q)) (aQ q p)).2+bE X*aP X (gz p q).2):=by
 unfold jy fB gz cZ;refine Prod.ext ?_ ?_
 ·dsimp only;rw[pZ,fE,fE,fE,fE,o7,nC,lJ];grind
 ·dsimp only;rw[pZ,fE,fE,fE,fE,o7,nC,lJ];grind
theorem xF(X:Et ts)(p q c:P2 ts):jy X p (aQ q p) (fB X (bm p q) (aP X (bQ p q c)-bE X)) =
  (aP X (cZ p (bQ p q c*iE (bm p q)) (aQ q p)).1-bE X*aP X (gz p q).1,aP X (cZ p (bQ p q c*iE (bm p q)) (aQ q p)).2-bE X*aP X (gz p q).2):=by
 unfold jy fB gz cZ;refine Prod.ext ?_ ?_
 ·dsimp only;rw[pZ,fE,fE,fE,fE,o7,nC,lJ];grind
 ·dsimp only;rw[pZ,fE,fE,fE,fE,o7,nC,lJ];grind
theorem wz(r:(k:Nat)->T k):∀(n:Nat)(q:Rat),T.inv r n (T.ofQ n q)=T.ofQ n (1/q)
 |0,q=>rfl
 |n+1,q=>by
  show T.inv r (n+1) (T.ofQ n q,T.zero n)=(T.ofQ n (1/q),T.zero n);rw[T.inv_low,wz r n q]
theorem Bm:(iE (qE 1):Et ts)=1:=by
 show T.inv (au ts) ts.length (T.ofQ ts.length 1)=_;rw[wz,show(1:Rat)/1=((1:Nat):Rat) by decide +kernel];rfl
end
open Lean.Grind (CommRing)
section
variable{r:(k:Nat)->T k}
def fU{n:Nat}(x:E r n):E r n:=T.inv r n x
theorem tU{n:Nat}(u:E r n)(h:Sg (E r n) (sg r n)):sg r (n+1) (bU u 0)=sg r n u:=by
 rw[kW,h.zero];unfold T.sgn3;split
 ·rfl
 ·rw[ab6 (.inr rfl)]
theorem OE{n:Nat}{x y:E r n}(hz:T.isZ n y=true):fU (bU x y:E r (n+1))=bU (fU x) 0:=by
 have e:y=T.zero n:=(T.isZ_iff n y).1 hz;subst e;have h:=T.inv_low r n x;show T.inv r (n+1) (x,T.zero n)=_;rw[h,E.zero_def];rfl
theorem Vo{n:Nat}{x y:E r n}(hz:T.isZ n y=false)(h0:sg r n (a5 x y)=0):fU (bU x y:E r (n+1))=bU (fU (x+x)) 0:=by
 have h:=Ki r (i:=n) (x:=((x,y):T n×T n)) hz h0;show T.inv r (n+1) (x,y)=_;rw[h,E.zero_def];rfl
theorem Lh{n:Nat}{x y:E r n}(hz:T.isZ n y=false)(h0:sg r n (a5 x y)≠0):fU (bU x y:E r (n+1))=bU (x*fU (a5 x y)) (-y*fU (a5 x y)):=by
 have h:=Gj r (i:=n) (x:=((x,y):T n×T n)) hz h0;exact h
theorem UW{q:Rat}(hq:bV q≠0):bV ((1:Rat)/q*q+-(((1:Nat):Rat)))=0:=by
 have hq:q≠0:=by
  rintro rfl;exact hq (by decide +kernel)
 have e:(1:Rat)/q*q+-(((1:Nat):Rat))=0:=by
  rw[show(((1:Nat):Rat))=1 from rfl];grind
 rw[e];decide +kernel
theorem KL(r:(k:Nat)->T k):∀(n:Nat),fw r n->∀x:E r n,sg r n x≠0->sg r n (fU x*x-1)=0
 |0,hp,x,hx=>UW (q:=x) hx
 |n+1,hp,z,hz=>by
  have hp':fw r n:=fun j hj=>hp j oz
  have h:=eF r n hp';have H:=eF r (n+1) hp;have ih:=KL r n hp';obtain⟨x,y,rfl⟩:=ku z;cases hzy:T.isZ n y
  ·by_cases h0:sg r n (a5 x y)=0
   ·rw[Vo hzy h0];have h2:=Hr h (hp n oz) hz h0;have e1:=ih _ h2
    have c:sg r (n+1) (bU x (-y))=0:=by
     have m:=H.mul (bU x y) (bU x (-y))
     have e:(bU x y:E r (n+1))*bU x (-y)=bU (a5 x y) 0:=by
      rw[kP];unfold a5;congr 1 <;> grind
     rw[e,tU _ h,h0]at m;rcases Int.mul_eq_zero.1 m.symm with g |g
     ·exact acc g hz
     ·exact g
    have e2:bU (fU (x+x)) 0*bU x y-(1:E r (n+1))=-(bU (fU (x+x)) 0*bU x (-y))+bU (fU (x+x)*(x+x)-1) 0:=by
     rw[xX,show ∀a b:E r (n+1),a-b=a+-b from fun a b=>by grind,kP,kP,tH,tH,oX,oX];congr 1 <;> grind
    rw[e2];have e3:sg r (n+1) (-(bU (fU (x+x)) 0*bU x (-y)))=0:=by rw[H.neg,H.mul,c];simp
    rw[H.zadd e3,tU _ h];exact e1
   ·rw[Lh hzy h0];have e1:=ih _ h0
    have e2:bU (x*fU (a5 x y)) (-y*fU (a5 x y))*bU x y-(1:E r (n+1))=bU (fU (a5 x y)*a5 x y-1) 0:=by
     rw[xX,show ∀a b:E r (n+1),a-b=a+-b from fun a b=>by grind,kP,tH,oX];generalize fU (a5 x y)=i;unfold a5;congr 1 <;> grind
    rw[e2,tU _ h];exact e1
  ·rw [OE hzy];have e:y = 0:=by rw [(T.isZ_iff n y).1 hzy,E.zero_def]
   subst e;rw[tU _ h]at hz;have e1:=ih _ hz
   have e2:bU (fU x) 0*bU x 0-(1:E r (n+1))=bU (fU x*x-1) 0:=by
    rw[xX,show ∀a b:E r (n+1),a-b=a+-b from fun a b=>by grind,kP,tH,oX];congr 1 <;> grind
   rw[e2,tU _ h];exact e1
end
section
variable{r:(k:Nat)->T k}{n:Nat}
def zS(h:fw r n):Setoid (E r n) where
  r x y:=sg r n (x-y)=0
  iseqv:=by
    have H:=eF r n h;refine⟨fun x=>?_,fun {x y} e=>?_,fun {x y z} e f=>?_⟩
    · rw[show x-x=0 by grind];exact H.zero
    · rw[show y-x=-(x-y) by grind,H.neg,e];rfl
    · rw[show x-z=(x-y)+(y-z) by grind,H.zadd e];exact f
def Zq(h:fw r n):Type:=Quotient (zS h)
def af(h:fw r n)(x:E r n):Zq h:=Quotient.mk (zS h) x
theorem jZ(h:fw r n){x y:E r n}:af h x=af h y↔sg r n (x-y)=0 :=
 ⟨fun e=>Quotient.exact (s:=zS h) e,fun e=>Quotient.sound (s:=zS h) e⟩
instance (h:fw r n):Add (Zq h):=⟨Quotient.lift₂ (fun x y=>af h (x+y)) (by
  intro a b c d e f;have H:=eF r n h;refine(jZ h).2 ?_;rw[show a+b-(c+d)=(a-c)+(b-d) by grind,H.zadd (show sg r n (a-c)=0 from e)];exact f)⟩
instance (h:fw r n):Mul (Zq h):=⟨Quotient.lift₂ (fun x y=>af h (x*y)) (by
  intro a b c d e f;have H:=eF r n h;refine(jZ h).2 ?_;have e':sg r n (a-c)=0:=e;have f':sg r n (b-d)=0:=f;rw[show a*b-c*d=(a-c)*b+c*(b-d) by grind,H.zadd (by rw[H.mul,e'];simp),H.mul,f'];simp)⟩
instance (h:fw r n):Neg (Zq h):=⟨Quotient.lift (fun x=>af h (-x)) (by
  intro a c e;have H:=eF r n h;refine(jZ h).2 ?_;have e':sg r n (a-c)=0:=e;rw[show -a - -c=-(a-c) by grind,H.neg,e'];rfl)⟩
instance (h:fw r n):_root_.Sub (Zq h):=⟨fun x y=>x+-y⟩
instance (h:fw r n)(c:Nat):OfNat (Zq h) c:=⟨af h (OfNat.ofNat c)⟩
instance (h:fw r n):NatCast (Zq h):=⟨fun c=>af h (c:E r n)⟩
instance (h:fw r n):IntCast (Zq h):=⟨fun c=>af h (c:E r n)⟩
instance (h:fw r n):SMul Nat (Zq h):=⟨fun c x=>af h (c:E r n)*x⟩
instance (h:fw r n):SMul Int (Zq h):=⟨fun c x=>af h (c:E r n)*x⟩
def Zq.pow{h:fw r n}(x:Zq h):Nat->Zq h
  |0=>af h 1
  |c+1=>Zq.pow x c*x
instance (h:fw r n):HPow (Zq h) Nat (Zq h):=⟨Zq.pow⟩
variable(h:fw r n)
theorem fc(x y:E r n):af h (x+y)=af h x+af h y:=rfl
theorem bD(x y:E r n):af h (x*y)=af h x*af h y:=rfl
theorem GD(x:E r n):af h (-x)=-af h x:=rfl
theorem bI(x y:E r n):af h (x-y)=af h x-af h y:=by
 rw[show x-y=x+-y by grind];rfl
theorem fu(a:Zq h):∃x,a=af h x:=Quotient.ind (motive:=fun a=>∃x,a=af h x) (fun x=>⟨x,rfl⟩) a
instance zRing:CommRing (Zq h) where
  add_zero a:=by
    obtain⟨x,rfl⟩:=fu h a;exact acd (af h) (show x+0=x by grind)
  add_comm a b:=by
    obtain⟨x,rfl⟩:=fu h a;obtain⟨y,rfl⟩:=fu h b;exact acd (af h) (show x+y=y+x by grind)
  add_assoc a b c:=by
    obtain⟨x,rfl⟩:=fu h a;obtain⟨y,rfl⟩:=fu h b;obtain⟨z,rfl⟩:=fu h c;exact acd (af h) (show x+y+z=x+(y+z) by grind)
  mul_assoc a b c:=by
    obtain⟨x,rfl⟩:=fu h a;obtain⟨y,rfl⟩:=fu h b;obtain⟨z,rfl⟩:=fu h c;exact acd (af h) (show x*y*z=x*(y*z) by grind)
  mul_one a:=by
    obtain⟨x,rfl⟩:=fu h a;exact acd (af h) (show x*1=x by grind)
  one_mul a:=by
    obtain⟨x,rfl⟩:=fu h a;exact acd (af h) (show 1*x=x by grind)
  left_distrib a b c:=by
    obtain⟨x,rfl⟩:=fu h a;obtain⟨y,rfl⟩:=fu h b;obtain⟨z,rfl⟩:=fu h c;exact acd (af h) (show x*(y+z)=x*y+x*z by grind)
  right_distrib a b c:=by
    obtain⟨x,rfl⟩:=fu h a;obtain⟨y,rfl⟩:=fu h b;obtain⟨z,rfl⟩:=fu h c;exact acd (af h) (show(x+y)*z=x*z+y*z by grind)
  zero_mul a:=by
    obtain⟨x,rfl⟩:=fu h a;exact acd (af h) (show 0*x=0 by grind)
  mul_zero a:=by
    obtain⟨x,rfl⟩:=fu h a;exact acd (af h) (show x*0=0 by grind)
  pow_zero a:=rfl
  pow_succ a c:=rfl
  ofNat_succ c:=acd (af h) (Lean.Grind.Semiring.ofNat_succ (α:=E r n) c)
  ofNat_eq_natCast c:=acd (af h) (Lean.Grind.Semiring.ofNat_eq_natCast (α:=E r n) c)
  nsmul_eq_natCast_mul c a:=rfl
  neg_add_cancel a:=by
    obtain⟨x,rfl⟩:=fu h a;exact acd (af h) (show -x+x=0 by grind)
  sub_eq_add_neg a b:=rfl
  neg_zsmul i a:=by
    obtain⟨x,rfl⟩:=fu h a
    exact acd (af h) (show((-i:Int):E r n)*x=-((i:E r n)*x) by
      rw[Lean.Grind.Ring.intCast_neg];grind)
  zsmul_natCast_eq_nsmul c a:=rfl
  intCast_ofNat c:=acd (af h) (Lean.Grind.Ring.intCast_ofNat (α:=E r n) c)
  intCast_neg i:=acd (af h) (Lean.Grind.Ring.intCast_neg (α:=E r n) i)
  mul_comm a b:=by
    obtain⟨x,rfl⟩:=fu h a;obtain⟨y,rfl⟩:=fu h b;exact acd (af h) (show x*y=y*x by grind)
theorem fj{x:E r n}:af h x=0↔sg r n x=0:=by
 have e:=jZ h (x:=x) (y:=0);rw[show x-0=x by grind]at e;exact e
theorem vu{x:E r n}(hx:sg r n x≠0):af h (fU x)*af h x=1:=by
 have e:=(jZ h (x:=fU x*x) (y:=1)).2 (KL r n h x hx);exact e
theorem Iq:af h (1:E r n)=1:=rfl
end
example {r:(k:Nat)->T k} {n:Nat} (h:fw r n) (a b c:Zq h) (e:a*b=1) (f:c*a=2):c=2*b:=by grind
end Go.Lw
namespace Go.Lw
open Go.Proofs
theorem R6(o:Option Nat):aa .geq (jB o) 0=o.isSome:=by
 cases o with
 |none=>rfl
 |some i=>exact aca (by show(i:Int)>=0;omega)
theorem UP(bs:List (Rat×Rat))(hl:bs.length<=281474976710656)(f:FuncId)(pre caps:List AV)(ok:Nat->Bool)
  (hf:∀(i:Nat)(b:Rat×Rat),bs[i]?=some b->(∀j,j<i->ok j=true)->FP f (pre++[qP b]++caps) (bl (!ok i))) :
  FP 460 [.lst 6 (bs.map qP),.cl f pre caps] (i64 (jB (cQ bs.length ok))):=by
 refine aj func460 ?_;refine gl ?_;refine aW [0,1,7] [] (fun(i:Nat)=>[pP 8 (i64 i)]) (fun _=>[]) (fun i=>i<=bs.length/\∀j,j<i->ok j=true) (fun i=>bs.length-i) 0 ⟨aa0 _,fun j h=>by omega⟩ ?_;rintro i ⟨hi,hj⟩ K1 J1;refine gC (fun z=>?_) (fun z=>?_)
 ·have hin:=a9 z;obtain⟨b,hb⟩:=ay hin;refine gi (aH hb) ?_;refine gc (hf i b hb hj) ?_;refine gC (fun z=>?_) (fun z=>?_)
  ·have h2:=dl z;refine ah ?_;rw[gP hin hj h2];rfl
  have h2:=du z;refine ga aS ?_;exact aR J1 (i+1) ⟨hin,fun j h9=>by rcases aay j i with g |g;exact hj j g;(have:j=i:=by omega);subst this;exact h2⟩
 have hin:=bn hi z;subst hin;refine ah ?_;rw[f6 hj];rfl
theorem Ln(bs:List (Rat×Rat))(hl:bs.length<=281474976710656)(f:FuncId)(pre caps:List AV)(ok:Nat->Bool)
  (hf:∀(i:Nat)(b:Rat×Rat),bs[i]?=some b->(∀j,j<i->ok j=true)->FP f (pre++[qP b]++caps) (bl (!ok i))) :
  FP 430 [.lst 6 (bs.map qP),.cl f pre caps] (bl (cQ bs.length ok).isSome):=by
 refine aj func430 ?_;refine gc (UP bs hl f pre caps ok hf) ?_;refine ah ?_;rw[<- R6];rfl
theorem Oa{v:Rat×Rat}(hv:Sm 3000 v):FP 431 [qP v] (bl (decide (b9 v v=0))):=by
 refine aj func431 ?_;refine gc (G7 hv hv oz oz) ?_;refine gc (Rd ((hv.dot hv).qs oz)) ?_;refine ah ?_;rw[<- L9];rfl
def gV(vs:List (Rat×Rat)):Bool:=(cQ vs.length fun i=>!decide (b9 (vs.getD i (0,0)) (vs.getD i (0,0))=0)).isSome
theorem C6(vs:List (Rat×Rat))(hl:vs.length<=281474976710656)(hv:∀v∈vs,Sm 3000 v):FP 376 [.lst 6 (vs.map qP)] (bl (gV vs)):=by
 refine aj func376 ?_;refine gc (Con.sA (.cons (.refl _) (.cons ((Sub.fn0 _).trans (sJ rfl)) .nil)) (Ln vs hl 431 [] [] (fun i=>!decide (b9 (vs.getD i (0,0)) (vs.getD i (0,0))=0)) (fun i b hb _=>by rw[Bool.not_not,aq hb];exact Oa (hv b (aap hb))))) ?_;refine ah ?_;rfl
theorem uK{v:Rat×Rat}(h:gV [v]=false):b9 v v≠0:=by
 intro h0;have h1:cQ 1 (fun i=>!decide (b9 ([v].getD i (0,0)) ([v].getD i (0,0))=0))=some 0:=gP oz (fun j hj=>by omega) (by show(!decide (b9 v v=0))=false;rw[h0];rfl);unfold gV at h;rw[show[v].length=1 from rfl,h1]at h;cases h
theorem uS{v w:Rat×Rat}(h:gV [v,w]=false):b9 v v≠0/\b9 w w≠0:=by
 unfold gV at h;rw[Option.isSome_eq_false_iff,Option.isNone_iff_eq_none]at h;have h2:=MR h;have h3:=h2 0 (by show 0<2;omega);have h4:=h2 1 (by show 1<2;omega);have h5:(!decide (b9 v v=0))=true:=h3;have h6:(!decide (b9 w w=0))=true:=h4;simp only[Z2,decide_eq_false_iff_not]at h5 h6;exact⟨h5,h6⟩
theorem If(i n:Nat)(hi:i<=100):FP 384 [i64 i,i64 n] (i64 (if n=1 then 0 else 1-2*(i:Int))):=by
 refine aj func384 ?_;refine gC (fun z=>?_) (fun z=>?_)
 ·have h1 : n = 1 := by have := cM z; omega
  refine ah ?_;rw[ab6 h1];rfl
 have h1:¬n=1:=by have:=dk z;omega
 refine ga (show _=2*(i:Int) by exact Cq oz) ?_;refine ga (show _=1-2*(i:Int) by exact dP oz) ?_;refine ah ?_;rw[ab5 h1];rfl
section
variable{ts:LL}
abbrev ky(u:Rat×Rat):Et ts:=qE (b9 u u)
def dF(u:Rat×Rat)(w:P2 ts):Et ts:=(qE u.1*w.1+qE u.2*w.2)*iE (ky u)
def dt(u:Rat×Rat)(w:P2 ts):Et ts:=(qE u.1*w.2-qE u.2*w.1)*iE (ky u)
def rK(u:Rat×Rat)(w:P2 ts)(p:Rat×Rat)(o:P2 ts):Et ts:=o.1-(dF u w*qE p.1-dt u w*qE p.2)
def qu(u:Rat×Rat)(w:P2 ts)(p:Rat×Rat)(o:P2 ts):Et ts:=o.2-(dt u w*qE p.1+dF u w*qE p.2)
def gL(u:Rat×Rat)(w:P2 ts)(p:Rat×Rat)(o:P2 ts):Pq:=⟨sX (dF u w),sX (dt u w),sX (rK u w p o),sX (qu u w p o)⟩
theorem vT(ts:LL)(a b:List Rat):Con prog 97 [.ptr 1000 0,aD a b,.v .nilIface] [pP 1000 (bi ts)] (aD a b) [pP 1000 (bi ts)]:=by
 have h:=kX (ts.map (List.map rt)) a b;rw[CL]at h;exact h
theorem ry(q:Rat):ae ts.length (sh 0 (q:Rat))=(qE q:Et ts):=fL _ q
theorem oV{e:Nat}{q:Rat}(h5:ts.length<=5)(h:Qb e q):Nm ts.length e (sh 0 (q:Rat)):=Nm.ofQ h5 (Cb.one h)
structure BdP(ts:LL)(u:Rat×Rat)(w:P2 ts)(p:Rat×Rat)(o:P2 ts):Prop where
  dot:FP 102 [aT ts,aD (sh 0 (u.1:Rat)) (sh 0 (u.2:Rat)),aD (sX w.1) (sX w.2)] (.tup [nA (sX (qE u.1*w.1+qE u.2*w.2)),.v .nilIface])
  crs:FP 99 [aT ts,aD (sh 0 (u.1:Rat)) (sh 0 (u.2:Rat)),aD (sX w.1) (sX w.2)] (.tup [nA (sX (qE u.1*w.2-qE u.2*w.1)),.v .nilIface])
  d1:FP 350 [aT ts,nA (sX (qE u.1*w.1+qE u.2*w.2)),nA (sh 0 (b9 u u:Rat))] (.tup [nA (sX (dF u w)),.v .nilIface])
  d2:FP 350 [aT ts,nA (sX (qE u.1*w.2-qE u.2*w.1)),nA (sh 0 (b9 u u:Rat))] (.tup [nA (sX (dt u w)),.v .nilIface])
  tn:FP 265 [aT ts,nA (sX (dF u w)),nA (sX (dt u w)),aD (sh 0 (p.1:Rat)) (sh 0 (p.2:Rat))] (.tup [aD (sX (dF u w*qE p.1-dt u w*qE p.2)) (sX (dt u w*qE p.1+dF u w*qE p.2)),.v .nilIface])
  s1:FP 209 [aT ts,nA (sX o.1),nA (sX (dF u w*qE p.1-dt u w*qE p.2))] (.tup [nA (sX (rK u w p o)),.v .nilIface])
  s2:FP 209 [aT ts,nA (sX o.2),nA (sX (dt u w*qE p.1+dF u w*qE p.2))] (.tup [nA (sX (qu u w p o)),.v .nilIface])
  ok:Pq.ok ts.length 80000000000 (gL u w p o)
theorem Iy{r W A K F:Nat}{u p:Rat×Rat}{w o:P2 ts}(tw:Tw ts r)(h2:ts.length<=2)(hk:kB r ts.length<=K)(hu:Sm 3000 u)(hp:Sm 3000 p)(h0:b9 u u≠0)
  (w1:Nm ts.length W (sX w.1)) (w2:Nm ts.length W (sX w.2)) (a1:Nm ts.length A (sX o.1)) (a2:Nm ts.length A (sX o.2)) (hW:3000<=W) (hF:4*W+10*K+A+100000<=F) (hF2:F<=80000000000):BdP ts u w p o:=by
 have hl:lm ts.length=200000000000:=by unfold lm;rw[ab6 h2]
 have h5:=tw.five;have hu1:=oV (ts:=ts) h5 hu.x;have hu2:=oV (ts:=ts) h5 hu.y;have hp1:=oV (ts:=ts) h5 hp.x;have hp2:=oV (ts:=ts) h5 hp.y;have hnn:=oV (ts:=ts) h5 (hu.dot hu);have hkE:eB r ts.length<=K:=hk;have ew:∀x:Et ts,ae ts.length (sX x)=x:=fun x=>bh _ _
 have c1:=sV tw (hu1.mono (f:=W) oz) (hu2.mono oz) w1 w2 (by rw[hl];omega);have c2:=AF tw (hu1.mono (f:=W) oz) (hu2.mono oz) w1 w2 (by rw[hl];omega);have n1:=vt tw hu1 hu2 w1 w2;have n2:=Bs tw hu1 hu2 w1 w2;rw[ry,ry,ew,ew]at c1 c2 n1 n2
 have hs:T.sgn (au ts) ts.length (ae ts.length (sh 0 (b9 u u:Rat)))≠0:=by
  rw[fL,T.sgn_ofQ];intro h9;exact h0 (pY h9)
 have nb:Nl 0 (sh 0 (b9 u u:Rat)):=eT 0 _;have d1:=CA tw n1 hnn (aa0 _) nb hs (by rw[hl];omega) (by simp only[iB];omega);have d2:=CA tw n2 hnn (aa0 _) nb hs (by rw[hl];omega) (by simp only[iB];omega);have m1:=AU tw n1 hnn (aa0 _) nb hs (by rw[hl];omega) (by simp only[iB];omega);have m2:=AU tw n2 hnn (aa0 _) nb hs (by rw[hl];omega) (by simp only[iB];omega);have e1:∀x:Et ts,ae ts.length (sh ts.length x)=x:=fun x=>bh _ _
 have f1:ae ts.length (sh ts.length (nJ ts (qE u.1:Et ts) (qE u.2:Et ts) w.1 w.2))=(qE u.1*w.1+qE u.2*w.2:Et ts):=bh _ _;have f2:ae ts.length (sh ts.length (mY ts (qE u.1:Et ts) (qE u.2:Et ts) w.1 w.2))=(qE u.1*w.2-qE u.2*w.1:Et ts):=bh _ _;rw[f1,ry]at d1 m1;rw[f2,ry]at d2 m2;have k1:Nm ts.length (2*W+3*K+30000) (sX (dF u w)):=Nm.mono m1 (by simp only[iB];omega);have k2:Nm ts.length (2*W+3*K+30000) (sX (dt u w)):=Nm.mono m2 (by simp only[iB];omega);have c3:=JC tw k1 k2 (hp1.mono (f:=(2*W+3*K+30000)) oz) (hp2.mono oz) (by rw[hl];omega);have n3:=vY tw k1 k2 hp1 hp2;have n4:=xQ tw k1 k2 hp1 hp2;rw[ry,ry,ew,ew]at c3 n3 n4;have s1:=oh tw a1 n3 (by rw[hl];omega);have s2:=oh tw a2 n4 (by rw[hl];omega);have m3:=a1.sub n3;have m4:=a2.sub n4;have f3:ae ts.length (sh ts.length (tz ts (dF u w) (dt u w) (qE p.1:Et ts) (qE p.2:Et ts)))=(dF u w*qE p.1-dt u w*qE p.2:Et ts):=bh _ _;have f4:ae ts.length (sh ts.length (tP ts (dF u w) (dt u w) (qE p.1:Et ts) (qE p.2:Et ts)))=(dt u w*qE p.1+dF u w*qE p.2:Et ts):=bh _ _;rw[ew,f3]at s1 m3;rw[ew,f4]at s2 m4;exact⟨c1,c2,d1,d2,c3,s1,s2,k1.mono oz,k2.mono oz,Nm.mono m3 oz,Nm.mono m4 oz⟩
theorem EA{r:Nat}{u p:Rat×Rat}{w o:P2 ts}(tw:Tw ts r)(h2:ts.length<=2)(hk:kB r ts.length<=1101400000)(hu:Sm 3000 u)(hp:Sm 3000 p)(h0:b9 u u≠0)
  (w1:Nm ts.length 17000000000 (sX w.1)) (w2:Nm ts.length 17000000000 (sX w.2)) (a1:Nm ts.length 773000000 (sX o.1)) (a2:Nm ts.length 773000000 (sX o.2)):BdP ts u w p o :=
 Iy (F:=80000000000) tw h2 hk hu hp h0 w1 w2 a1 a2 oz oz oz
theorem yf{a b c:List Rat}(h:FP 209 [aT ts,nA a,nA b] (.tup [nA c,.v .nilIface])):Con prog 100 [.ptr 1000 0,nA a,nA b] [pP 1000 (bi ts)] (nA c) [pP 1000 (bi ts)]:=by
 refine gF func100 (fun k z h=>bO h) ?_;refine gc h ?_;refine gt (aE (rS _ _) (aJ rfl rfl rfl) aG rfl rfl) ?_;refine gR ?_;exact aC.keep (bq rfl)
theorem Az{u p:Rat×Rat}{w o:P2 ts}(hu:Sm 3000 u)(hp:Sm 3000 p)(B:BdP ts u w p o) :
  Con prog 374 [.ptr 1000 0,qP u,dC w.l,qP p,dC o.l] [pP 1000 (bi ts)] (gL u w p o).av [pP 1000 (bi ts)]:=by
 refine gF func374 (fun k z h=>bO h) ?_;refine gc (v9 (hu.x.qs oz) (hu.y.qs oz)) ?_;refine gc (AK hu oz) ?_;refine gD ?_;refine gc B.dot ?_;refine gt (aV (rS _ _) (aJ rfl rfl rfl) rfl rfl rfl) ?_;refine gt (aV (xj B.d1) (aJ rfl rfl rfl) rfl rfl rfl) ?_;refine gc B.crs ?_;refine gt (aV (rS _ _) (aJ rfl rfl rfl) rfl rfl rfl) ?_;refine gt (aV (xj B.d2) (aJ rfl rfl rfl) rfl rfl rfl) ?_;refine gD ?_;refine gc (v9 (hp.x.qs oz) (hp.y.qs oz)) ?_;refine gc B.tn ?_;refine gt (aV (vT _ _ _) (aJ rfl rfl rfl) rfl rfl rfl) ?_;refine gD ?_;refine gt (aV (yf B.s1) (aJ rfl rfl rfl) rfl rfl rfl) ?_;refine gt (aV (yf B.s2) (aJ rfl rfl rfl) rfl rfl rfl) ?_;refine gD ?_;refine gR ?_;exact aC.keep (bq rfl)
end
structure Sv where
  ts:LL
  ps:List Pq
  mode:Int
abbrev Sv.av(s:Sv):AV:=.agg [.lst 1 (s.ts.map nA),.lst 4 (s.ps.map Pq.av),i64 s.mode]
structure Hd where
  p:Rat×Rat
  a:List Rat×List Rat
  c:Rat×Rat
abbrev Hd.av(h:Hd):AV:=.agg [bl (rt h.p.1).neg,ws (rt h.p.1).num,ws (rt h.p.1).den,bl (rt h.p.2).neg,ws (rt h.p.2).num,ws (rt h.p.2).den,nA h.a.1,nA h.a.2,bl (rt h.c.1).neg,ws (rt h.c.1).num,ws (rt h.c.1).den,bl (rt h.c.2).neg,ws (rt h.c.2).num,ws (rt h.c.2).den]
def jE(ts:LL)(h:Hd)(x:List Rat×List Rat):P2 ts:=(dE ts x.1-dE ts h.a.1,dE ts x.2-dE ts h.a.2)
def kI(ts:LL)(h:Hd):P2 ts:=(dE ts h.a.1,dE ts h.a.2)
def lh(ts:LL)(x:List Rat×List Rat)(h:Hd):Pq:=gL (bX h.c h.p) (jE ts h x) h.p (kI ts h)
structure HdP(ts:LL)(x:List Rat×List Rat)(h:Hd):Prop where
  hp:Sm 1000 h.p
  hc:Sm 1000 h.c
  s1:FP 209 [aT ts,nA x.1,nA h.a.1] (.tup [nA (sX (jE ts h x).1),.v .nilIface])
  s2:FP 209 [aT ts,nA x.2,nA h.a.2] (.tup [nA (sX (jE ts h x).2),.v .nilIface])
  e1:sX (dE ts h.a.1)=h.a.1
  e2:sX (dE ts h.a.2)=h.a.2
  b:BdP ts (bX h.c h.p) (jE ts h x) h.p (kI ts h)
theorem HdP.body{ts:LL}{x:List Rat×List Rat}{h:Hd}(H:HdP ts x h) :
  Con prog 374 [.ptr 1000 0,qP (bX h.c h.p),dC (jE ts h x).l,qP h.p,aD h.a.1 h.a.2] [pP 1000 (bi ts)] (lh ts x h).av [pP 1000 (bi ts)]:=by
 have hb:=Az (Sm.mono (H.hc.sub H.hp) oz) (Sm.mono H.hp oz) H.b
 have e:dC (kI ts h).l=aD h.a.1 h.a.2:=by
  show aD (sX (dE ts h.a.1)) (sX (dE ts h.a.2))=_;rw[H.e1,H.e2]
 rw[e]at hb;exact hb
def j8(m:Mt)(hs:List Hd)(i:Nat):Sv:=⟨m.ts,hs.map (lh m.ts (m.ps.getD i ([],[]))),if m.ps.length=1 then 0 else 1-2*(i:Int)⟩
def jp(m:Mt)(hs:List Hd)(n:Nat):List AV:=(List.range n).map fun i=>(j8 m hs i).av
theorem Bg(m:Mt)(hs:List Hd)(n:Nat):(jp m hs n).length=n:=by simp[jp]
theorem TO(m:Mt)(hs:List Hd)(n:Nat):jp m hs (n+1)=jp m hs n++[(j8 m hs n).av]:=by unfold jp;rw[List.range_succ];simp
theorem E9{m:Mt}{r:Nat}(tw:Tw m.ts r)(hs:List Hd)(hl:hs.length<=2)(ml:m.ps.length<=2)(H:∀x∈m.ps,∀h∈hs,HdP m.ts x h) :
  FP 378 [m.av,.lst 14 (hs.map Hd.av)] (.tup [.lst 3 (jp m hs m.ps.length),.v .nilIface]):=by
 refine aj func378 ?_;refine gl ?_;refine gW (Wk.virt 900 3 rfl) ?_;refine aW [1,2,15,16] [2] (fun(i:Nat)=>[pP 6 (.ms 900 3 0 i),pP 17 (i64 i)]) (fun i=>[pP 900 (.row 3 (jp m hs i))]) (fun i=>i<=m.ps.length) (fun i=>m.ps.length-i) 0 (aa0 _) ?_;rintro i hi K1 J1;refine gC (fun z=>?_) (fun z=>?_) (st2:=(17,0))
 ·have hin:=a9 z;obtain⟨x,hx⟩:=ay hin;have hx9:m.ps.getD i ([],[])=x:=aq hx;have hxm:=aap hx;refine gi (aH hx) ?_;refine gc (zo tw) ?_;refine gl ?_;refine gc (If i m.ps.length oz) ?_;refine gD ?_ (7,0);refine gW (Wk.o (sl:=[pP 1 (.lst 14 (hs.map Hd.av)),pP 2 (.ptr 2 0),pP 6 (.ms 900 3 0 i),pP 8 (.ptr 8 0),pP 9 (.ptr 25 0),pP 10 (.ptr 10 0),pP 15 (.lst 2 (m.ps.map dC)),pP 16 (i64 m.ps.length),pP 17 (i64 i)]) (hp:=[pP 2 (.box [.lst 1 (m.ts.map nA),.lst 2 (m.ps.map dC)]),pP 8 (.box [nA x.1,nA x.2]),pP 10 (.box [.lst 1 (m.ts.map nA),nS,i64 (if m.ps.length=1 then 0 else 1-2*(i:Int))]),pP 25 (bi m.ts),pP 900 (.row 3 (jp m hs i))])) ?_
  refine gl ?_;refine gW (Wk.virt 901 4 rfl) ?_;refine aW [1,2,8,9,10,15,16,17,35,36] [2,8,25,900] (fun(k:Nat)=>[pP 6 (.ms 900 3 0 i),pP 37 (i64 k)]) (fun k=>[pP 10 (.box [.lst 1 (m.ts.map nA),.ms 901 4 0 k,i64 (if m.ps.length=1 then 0 else 1-2*(i:Int))]),pP 901 (.row 4 (((hs.take k).map (lh m.ts x)).map Pq.av))]) (fun k=>k<=hs.length) (fun k=>hs.length-k) 0 (aa0 _) ?_ (h2:=(.cons rfl (BlkSub.bL (.cons (.refl _) (.cons (.nM _ _ _) (.cons (.refl _) .nil))) rfl) (.k .nil)))
  rintro k hk K2 J2;refine gC (fun z=>?_) (fun z=>?_) (st2:=(13,0))
  ·have hkn:=a9 z;obtain ⟨h,hh⟩:=ay hkn;have Hh:=H x hxm h (aap hh);refine gi (aH hh) ?_;refine gt (aV (Con.rB 25 rfl rfl rfl rfl (yf Hh.s1)) (aJ rfl rfl rfl) rfl rfl rfl) ?_;refine gt (aV (Con.rB 25 rfl rfl rfl rfl (yf Hh.s2)) (aJ rfl rfl rfl) rfl rfl rfl) ?_;refine gD ?_;refine gc (oU Hh.hc Hh.hp oz oz) ?_;refine gt (aV (Con.rB 25 rfl rfl rfl rfl Hh.body) (.cons (.tmp rfl) (.cons (.tmp rfl) (.cons (.tmp rfl) (.cons (.tmp rfl) (.cons (.tmp rfl) .nil))))) rfl rfl rfl) ?_;refine gs (cK (.tmp rfl) rfl (by rw [aar,aar,abc]; omega) (.tmp rfl) T45 rfl T55 rfl rfl (by dsimp only; simp only [aa4,abg]; omega) rfl rfl) ?_;refine gD ?_ (12,0);refine gW (Wk.of (sl:=[pP 1 (.lst 14 (hs.map Hd.av)),pP 2 (.ptr 2 0),pP 6 (.ms 900 3 0 i),pP 8 (.ptr 8 0),pP 9 (.ptr 25 0),pP 10 (.ptr 10 0),pP 15 (.lst 2 (m.ps.map dC)),pP 16 (i64 m.ps.length),pP 17 (i64 i),pP 35 (.lst 14 (hs.map Hd.av)),pP 36 (i64 hs.length),pP 37 (i64 k)]) (hp:=[pP 2 (.box [.lst 1 (m.ts.map nA),.lst 2 (m.ps.map dC)]),pP 8 (.box [nA x.1,nA x.2]),pP 25 (bi m.ts),pP 10 (.box [.lst 1 (m.ts.map nA),.ms 71 4 0 (k + 1),i64 (if m.ps.length = 1 then 0 else 1 - 2 * (i:Int))]),pP 900 (.row 3 (jp m hs i)),pP 71 (.row 4 (((hs.take (k + 1)).map (lh m.ts x)).map Pq.av))]) bb (.k (.k (.k (.k (.k (.cons rfl (BlkSub.of (by rw [dK hh,abf,abf]; rfl)) .nil))))))) ?_ (12,0)
   refine gW (Wk.rk (k:=71) (d:=901) rfl rfl) ?_;refine ga aS ?_;exact aR J2 (k+1) hkn
  have hkn:=bn hk z;subst hkn;refine gW ((Wk.freeze (k:=901) rfl).trans<|Wk.of (sl:=[pP 1 (.lst 14 (hs.map Hd.av)),pP 2 (.ptr 2 0),pP 6 (.ms 900 3 0 i),pP 9 (.ptr 25 0),pP 10 (.ptr 10 0),pP 15 (.lst 2 (m.ps.map dC)),pP 16 (i64 m.ps.length),pP 17 (i64 i)]) (hp:=[pP 2 (.box [.lst 1 (m.ts.map nA),.lst 2 (m.ps.map dC)]),pP 25 (bi m.ts),pP 10 (.box [.lst 1 (m.ts.map nA),.lst 4 ((hs.map (lh m.ts x)).map Pq.av),i64 (if m.ps.length=1 then 0 else 1-2*(i:Int))]),pP 900 (.row 3 (jp m hs i))]) bb (.k (.k (.cons rfl (BlkSub.bL (.cons (.refl _) (.cons (Sub.of (by rw[b7 (by rw[aar,aar,abc];omega),aa8])) (.cons (.refl _) .nil))) rfl) (.k .nil))))) ?_
  refine gf ?_;refine gs (cK (.tmp rfl) rfl (Bg _ _ _).symm (.tmp rfl) T252 rfl T257 rfl rfl (by dsimp only;simp only[aa4,abg];omega) rfl rfl) ?_ (16,0);refine gW (Wk.of (sl:=[pP 1 (.lst 14 (hs.map Hd.av)),pP 2 (.ptr 2 0),pP 6 (.ms 86 3 0 (i+1)),pP 15 (.lst 2 (m.ps.map dC)),pP 16 (i64 m.ps.length),pP 17 (i64 i)]) (hp:=[pP 2 (.box [.lst 1 (m.ts.map nA),.lst 2 (m.ps.map dC)]),pP 86 (.row 3 (jp m hs (i+1)))]) bb (.k (.cons rfl (BlkSub.of (by rw[TO];unfold j8;rw[hx9])) .nil))) ?_ (16,0);refine gW (Wk.rk (k:=86) (d:=900) rfl rfl) ?_;refine ga aS ?_;exact aR J1 (i+1) hin
 have hin:=bn hi z;subst hin;refine gW ((Wk.freeze (k:=900) rfl).trans<|Wk.of (sl:=[pP 6 (.lst 3 (jp m hs m.ps.length))]) (hp:=[]) (.cons rfl (Sub.of (by rw[b7 (Bg _ _ _).symm])) .nil) .nil) ?_;refine bt ?_;rfl
variable{P:aci}{N:Nat}{R:Array Oper}{s:AS}{pos:String}{after:Array Edge}
def x6(P:aci)(t:ach):Bool:=match P.underlying t with |some (.slice _)=>true |_=>false
theorem Ic{t:ach}(h:x6 P t=true):∃e,P.underlying t=some (.slice e):=by
 unfold x6 at h;split at h
 ·exact⟨_,by assumption⟩
 ·cases h
theorem FB(w:acj)(t e:ach)(a:Option Addr)(l c:Nat)(h:P.underlying t=some (.slice e)):(binOp .eql t (.slice a l c) (.slice none 0 0)).run P w=.ok (.bool a.isNone) w:=by
 simp only[binOp];simp[run_equal_slice_nil w t e a l c h]
theorem Jx{d:Nat}{x:acf}{sz:Nat}{e:AV}{es:List AV}{S T t:ach}(hx:Ev s x (.lst sz (e::es)))(hS:x6 P S=true)(hN:X9 d N=true) :
  Step P N R s ⟨some d,.binOp .eql S x (.const (.slice none 0 0)) T,t,pos,after,none⟩ ⟨some (.v (.bool false)),[],ax x,[]⟩ :=
 dJ rfl rfl hN fun s' hag C m ac w hr=>⟨.bool false,by
  have h:=(hx.agree hag (fun _ h=>h)).rep hr;obtain⟨el,hel⟩:=Ic hS;generalize hu:ac.eval x=y at h
  have hy:∃b l cap,y=.slice (some b) l cap:=by
   cases h with
   |lst u hb hc hl hs h1 hu hrr=>exact⟨_,_,_,rfl⟩
  obtain⟨b,l,cap,rfl⟩:=hy;have e1:ac.eval (.const (.slice none 0 0))=.slice none 0 0:=rfl;simp[execOp,hu,e1,eqGuard,FB w S el (some b) l cap hel],.v _⟩
theorem H3{d:Nat}{x:acf}{a:Option Addr}{l cap:Nat}{S T t:ach}(hx:Ev s x (.v (.slice a l cap)))(hS:x6 P S=true)(hN:X9 d N=true) :
  Step P N R s ⟨some d,.binOp .eql S x (.const (.slice none 0 0)) T,t,pos,after,none⟩ ⟨some (.v (.bool a.isNone)),[],ax x,[]⟩ :=
 dJ rfl rfl hN fun s' hag C m ac w hr=>⟨.bool a.isNone,by
  have h:=(hx.agree hag (fun _ h=>h)).rep hr;obtain⟨el,hel⟩:=Ic hS;generalize hu:ac.eval x=y at h;cases h;have e1:ac.eval (.const (.slice none 0 0))=.slice none 0 0:=rfl;simp[execOp,hu,e1,eqGuard,FB w S el a l cap hel],.v _⟩
def D6(P:aci)(T:ach)(f o:Nat):Bool:=match P.underlying T with
  |some (.struct fs)=>(match fs[f]? with
    |some fl=>YQ fl.offset o&&(match P.underlying fl.type with
      |some (.struct _)=>false
      |some (.array _ _)=>false
      |some _=>true
      |none=>false)
    |none=>false)
  |_=>false
theorem Oz{d f o:Nat}{x:acf}{cs:List AV}{c:AV}{T t:ach}(hx:Ev s x (.agg cs))(hc:cs[o]?=some c)(hF:D6 P T f o=true)(hN:X9 d N=true) :
  Step P N R s ⟨some d,.field T x f,t,pos,after,none⟩ ⟨some c,[],ax x,[]⟩ :=
 dJ rfl rfl hN fun s' hag C m a w hr=>by
  have h:=(hx.agree hag (fun _ h=>h)).rep hr;generalize hu:a.eval x=y at h;cases h with
  | @agg _ vs _ hn h1 hrr =>
   have ho:=(Y1.1 hc).1;have hv:vs[o]?=some vs[o]:=by simp[hn,ho]
   refine⟨vs[o],?_,hrr o _ c hv hc⟩;unfold D6 at hF;split at hF
   ·rename_i fs hu2;split at hF
    ·rename_i fl hfl;rw[aaw]at hF;obtain⟨h2,h3⟩:=hF;have h2:=aax h2
     have h4:∃u,P.underlying fl.type=some u/\(∀g,u≠.struct g)/\(∀n e,u≠.array n e):=by
      split at h3
      ·cases h3
      ·cases h3
      ·rename_i u n1 n2 e;exact⟨_,e,fun g h=>n1 g h,fun n e2 h=>n2 n e2 h⟩
      ·cases h3
     obtain⟨u,e1,e2,e3⟩:=h4;subst h2;simp[execOp,hu,Instr.field,run_underlying hu2,hfl,part,isAgg,run_underlying e1,asAgg,hv]
    ·cases hF
   ·cases hF
end Go.Lw
namespace Go.Lw
theorem Con.rekeyB1{P:aci}{f:FuncId}{k off:Nat}{x x':Blk}{y0:AV}{xs:List AV}{r:AV}(d:Nat)(hx:x.nm=[])(hx':x'.nm=[])(hy0:y0.nm=[])(hxs:(xs.all fun x=>x.nm.isEmpty)=true)(hr:r.nm=[])
  (h:Con P f (y0 :: .ptr k off::xs) [(k,some x)] r [(k,some x')]):Con P f (y0 :: .ptr d off::xs) [(d,some x)] r [(d,some x')]:=by
 refine⟨h.ok,?_⟩;intro ext m w vs hext hheap hvs hrep
 have h1 := h.ret ext (fun _ => m d) w vs hext (x5 (k := d) hx rfl hheap) (by simpa using hvs) (by
  intro j v y hv hy;rw[kj (d:=k) (k:=d) (y:=x) (x:=x) (m2:=fun _=>m d) (m:=m) rfl]
  match j,hy with
  |0,hy =>
   cases hy;exact iW hy0 (hrep 0 v _ hv rfl)
  |1,hy =>
   cases hy;have h2:=hrep 1 v _ hv rfl;cases h2 with
   |ptr hm=>exact .ptr hm
  |j+2,hy =>
   have h2:=hrep (j+2) v y hv hy;refine iW ?_ h2;have:=aa3.1 hxs y (aap hy);simpa using this)
 refine Calls.mono h1 ?_;rintro e w' ⟨v,m',rfl,hf,hh,hn,hk,hrr⟩
 have ho:bf [(k,some x)] (fun _=>m d)=bf [(d,some x)] m:=by
  funext b;apply propext;rw[kq,kq]
 refine⟨v,fun _=>m' k,rfl,ho▸hf,x5 (k:=k) hx' rfl hh,?_,?_,?_⟩
 ·intro k' x b hx hb;rw[<- ho];exact hn k _ b (by rw[aY,ab6 rfl]) hb
 ·intro k' x y hx hy;obtain⟨rfl,_⟩:=fV hx;exact hk k _ _ (by rw[aY,ab6 rfl]) (by rw[aY,ab6 rfl])
 ·rw[kj (d:=d) (k:=k) (y:=x') (x:=x') (m2:=fun _=>m' k) (m:=m') rfl];exact iW hr hrr
open Go.Proofs
def oG(l:Li)(a:As)(g:Gr):List Rat:=if g.kind=0 then sh 0 ((1:Int):Rat)else sX (jr l a g)
theorem ri{p q:Rat×Rat}(hp:Sm 1000 p)(hq:Sm 1000 q):Qz 310000 (ba p q) 3:=oR (vV hp hq) oz
structure PrF(a:As)(p q o:Et (llq a.rs)×Et (llq a.rs))(z:Rat):Prop where
  s1:FP 98 [.agg [.lst 1 (a.rs.map nR)],aD (sX q.1) (sX q.2),aD (sX p.1) (sX p.2)] (.tup [aD (sX (q.1-p.1)) (sX (q.2-p.2)),.v .nilIface])
  s2:FP 98 [.agg [.lst 1 (a.rs.map nR)],aD (sX o.1) (sX o.2),aD (sX p.1) (sX p.2)] (.tup [aD (sX (o.1-p.1)) (sX (o.2-p.2)),.v .nilIface])
  s3:FP 99 [.agg [.lst 1 (a.rs.map nR)],aD (sX (q.1-p.1)) (sX (q.2-p.2)),aD (sX (o.1-p.1)) (sX (o.2-p.2))] (.tup [nA (sX (crsE (q.1-p.1) (q.2-p.2) (o.1-p.1) (o.2-p.2))),.v .nilIface])
  s4:FP 102 [.agg [.lst 1 (a.rs.map nR)],aD (sX (q.1-p.1)) (sX (q.2-p.2)),aD (sX (q.1-p.1)) (sX (q.2-p.2))] (.tup [nA (sX (dotE (q.1-p.1) (q.2-p.2) (q.1-p.1) (q.2-p.2))),.v .nilIface])
  m1:qk 101 a.rs (sX (dotE (q.1-p.1) (q.2-p.2) (q.1-p.1) (q.2-p.2))) (sh 0 (z:Rat)) (sX (dotE (q.1-p.1) (q.2-p.2) (q.1-p.1) (q.2-p.2)*qE z))
  m2:qk 101 a.rs (sX (crsE (q.1-p.1) (q.2-p.2) (o.1-p.1) (o.2-p.2))) (sX (crsE (q.1-p.1) (q.2-p.2) (o.1-p.1) (o.2-p.2))) (sX (crsE (q.1-p.1) (q.2-p.2) (o.1-p.1) (o.2-p.2)*crsE (q.1-p.1) (q.2-p.2) (o.1-p.1) (o.2-p.2)))
  m3:qk 100 a.rs (sX (dotE (q.1-p.1) (q.2-p.2) (q.1-p.1) (q.2-p.2)*qE z)) (sX (crsE (q.1-p.1) (q.2-p.2) (o.1-p.1) (o.2-p.2)*crsE (q.1-p.1) (q.2-p.2) (o.1-p.1) (o.2-p.2))) (sX (dotE (q.1-p.1) (q.2-p.2) (q.1-p.1) (q.2-p.2)*qE z-crsE (q.1-p.1) (q.2-p.2) (o.1-p.1) (o.2-p.2)*crsE (q.1-p.1) (q.2-p.2) (o.1-p.1) (o.2-p.2)))
abbrev CP(l:Li)(a:As)(i k2:Int)(j0 j1 j2:Jt):Prop:=FP 94 [cI a.rs,.agg [nA (sX (aw l a j0 i).1),nA (sX (aw l a j0 i).2),nA (sh 0 (ba (ai l j2 i) (ai l j0 i):Rat))],.agg [nA (sX (aw l a j1 k2).1),nA (sX (aw l a j1 k2).2),nA (sh 0 (ba (ai l j2 k2) (ai l j1 k2):Rat))]]
    (.tup [nA (sX (bj ((aw l a j0 i).1,(aw l a j0 i).2) (qE (ba (ai l j2 i) (ai l j0 i))) ((aw l a j1 k2).1,(aw l a j1 k2).2) (qE (ba (ai l j2 k2) (ai l j1 k2))))),.v .nilIface])
structure RqF(l:Li)(a:As)(i:Int)(j0 j:Jt):Prop where
  hsub:FP 98 [.agg [.lst 1 (a.rs.map nR)],aD (sX (aZ l a j.a j.point).1) (sX (aZ l a j.a j.point).2),aD (sX (aw l a j0 i).1) (sX (aw l a j0 i).2)] (.tup [aD (sX (bT l a i j0 j).1) (sX (bT l a i j0 j).2),.v .nilIface])
  hdot:FP 102 [.agg [.lst 1 (a.rs.map nR)],aD (sX (bT l a i j0 j).1) (sX (bT l a i j0 j).2),aD (sX (bT l a i j0 j).1) (sX (bT l a i j0 j).2)] (.tup [nA (sX (bY l a i j0 j)),.v .nilIface])
  hrr:Con prog 104 [.agg (pz l a i j0 j),.ptr 1001 0] [pP 1001 (bR a.rs)] (nA (sX (qE (ft l i j)*bY l a i j0 j-qE (bP l i j0 j)*qE (bP l i j0 j)))) [pP 1001 (bR a.rs)]
theorem MH{l:Li}{k:Int}{a:As}{n:Nat}{g:Gr}(hop:Con prog 90 [l.av,i64 k,a.av,bl false] [] (.tup [.ptr 900 0,.v .nilIface]) [pP 900 (ci l g a)])(D:DyW l a)(h3:(llq a.rs).length<=2)(hgo:GrOk l g)(ok:g.kind≠0->DyOk 3900000 l k a false n g)
  (f1:∀{i k2 z0 z1 z2 j0 j1 j2},RrrP 3900000 l a g i k2 z0 z1 z2 j0 j1 j2->CP l a i k2 j0 j1 j2)
  (f2:∀{i z0 z1 j0 j},SlP 3900000 l a g 2 i z0 z1 j0 j->j.a=i->Pd 3900000 a j.b->PrF a (aZ l a j.b j.on) (aZ l a j.b j.to) (aw l a j0 i) (ba (aM l i j.point) (ai l j0 i)))
  (f3:∀{i z0 z1 j0 j},SlP 3900000 l a g 3 i z0 z1 j0 j->j.b=i->Pd 3900000 a j.a->RqF l a i j0 j) :
  FP 30 [l.av,i64 k,a.av] (.tup [nA (oG l a g),.v .nilIface]):=by
 have hbl:=D.al.bl;refine aj func30 ?_;refine gt (aE hop (.cons (.tmp rfl) (.cons (.tmp rfl) (.cons (.tmp rfl) (.cons (.const _) .nil)))) aG rfl rfl) ?_ (2,0);refine gW (Wk.o (sl:=[pP 5 (.ptr 5 0),pP 8 (.ptr 900 0),pP 9 (.v .nilIface)]) (hp:=[pP 5 (.box a.av.cells),pP 900 (ci l g a)])) ?_;refine gf ?_ (5,0);refine gW (Wk.o (sl:=[pP 5 (.ptr 5 0),pP 8 (.ptr 900 0),pP 10 (.ptr 32 0)]) (hp:=[pP 5 (.box a.av.cells),pP 900 (ci l g a),pP 32 (bR a.rs)])) ?_ (8,0);refine sP [10] [32] [pP 11 (nA (sX (jr l a g)))] [] (g.kind≠0) ?_ ?_ 2
 ·intro K1 J1;refine gC (fun u=>?_) (fun u=>?_)
  ·have hk:g.kind=0:=cM u;have hd:oG l a g=sh 0 ((1:Int):Rat):=ab6 hk;rw[hd];refine gc (HP) ?_;refine gR ?_;exact jg rfl
  have hk0:g.kind≠0:=dk u;refine gC (fun u=>?_) (fun u=>?_)
  ·have hk:g.kind=1:=cM u;obtain⟨i,k2,z0,z1,z2,j0,j1,j2,P⟩:=(ok hk0).rrr hk;have hE:=I8 P;have hr:=f1 P;obtain rfl:=P.eq;have hq0:=d7 D.hl D.li P.h0 (by rcases P.p0.tie with h9 |h9;exact .inl h9.1;exact .inr h9.2.1);have hq1:=d7 D.hl D.li P.h1 (by rcases P.p1.tie with h9 |h9;exact .inl h9.1;exact .inr h9.2.1);have hq2:=d7 D.hl D.li P.h2 P.t1;have hq3:=d7 D.hl D.li P.h2 P.t2;rw[mJ,mJ]at hE;refine gt (aE (Con.rB 900 rfl rfl rfl rfl (CY D.hl D.li D.al D.hc h3 hgo P.h0 P.h1 P.h2 P.p0 P.p1 P.t1 P.t2)) (cG rfl) aG rfl rfl) ?_;refine gc (qG hq0 hq2 _) ?_;refine gc (qG hq1 hq3 _) ?_;refine gc hr ?_;refine gt (aV (Con.rB 32 rfl rfl rfl rfl (lO _ _)) (aJ rfl rfl rfl) rfl rfl rfl) ?_;refine gD ?_;exact kC J1 hk0 (hw:=Wk.of (.cons rfl (Sub.of (acd (fun z=>nA (sX z)) hE.symm)) (.k .nil)) (.k .nil))
  have hk1:g.kind≠1:=dk u;refine gC (fun u=>?_) (fun u=>?_)
  ·have hk:g.kind = 2:=cM u;obtain ⟨i,z0,z1,j0,j,P,ha,hb⟩:=(ok hk0).pr hk;have hE:=Fa P;obtain ⟨s1,s2,s3,s4,m1,m2,m3⟩:=f2 P ha hb;obtain rfl:=P.eq;obtain ⟨i1,i2,i3,i4,i5⟩:=cF D.li P.h1;have hq:Sm 1000 (aM l i j.point):=by rw [<- ha]; exact iu D.hl D.li i1 i3
   have hq0:=d7 D.hl D.li P.h0 (by rcases P.p0.tie with h9 |h9;exact .inl h9.1;exact .inr h9.2.1);rw[mJ]at hE;refine gt (aE (Con.rB 900 rfl rfl rfl rfl (zO D.hl D.li D.al D.hc h3 hgo P.h0 P.h1 P.p0 ha P.hk hb)) (cG rfl) aG rfl rfl) ?_;refine gc s1 ?_;refine gt (aV (Con.rB 32 rfl rfl rfl rfl (kX _ _ _)) (aJ rfl rfl rfl) rfl rfl rfl) ?_;refine gD ?_;refine gc s2 ?_;refine gt (aV (Con.rB 32 rfl rfl rfl rfl (kX _ _ _)) (aJ rfl rfl rfl) rfl rfl rfl) ?_;refine gc s3 ?_;refine gt (aV (Con.rB 32 rfl rfl rfl rfl (lO _ _)) (aJ rfl rfl rfl) rfl rfl rfl) ?_;refine gD ?_;refine gc s4 ?_;refine gt (aV (Con.rB 32 rfl rfl rfl rfl (lO _ _)) (aJ rfl rfl rfl) rfl rfl rfl) ?_;refine gc (qG hq0 hq _) ?_;refine gs (Oz (o:=2) (.tmp rfl) rfl (by kernel_rfl) rfl) ?_;refine gt (aV (Con.rB 32 rfl rfl rfl rfl m1) (aJ rfl rfl rfl) rfl rfl rfl) ?_;refine gt (aV (Con.rB 32 rfl rfl rfl rfl m2) (aJ rfl rfl rfl) rfl rfl rfl) ?_;refine gt (aV (Con.rB 32 rfl rfl rfl rfl m3) (aJ rfl rfl rfl) rfl rfl rfl) ?_;refine gD ?_;exact kC J1 hk0 (hw:=Wk.of (.cons rfl (Sub.of (acd (fun z=>nA (sX z)) hE.symm)) (.k .nil)) (.k .nil))
  have hk2:g.kind≠2:=dk u;obtain⟨i,z0,z1,j0,j,P,ha,hj,hb⟩:=(ok hk0).rp hk0 hk1 hk2;obtain⟨e0,e1,b0,_⟩:=P.at;have hE:jr l a g=qE (ft l i j)*bY l a i j0 j-qE (bP l i j0 j)*qE (bP l i j0 j):=by unfold jr;rw[ab5 hk0,ab5 hk1,ab5 hk2,e0,e1,b0]
  obtain⟨hsub,hdot,hrr⟩:=f3 P hj hb;obtain rfl:=P.eq;refine gt (aE (Con.rekeyBB 900 32 (by decide) (by decide) rfl rfl rfl rfl rfl rfl (BH oz D h3 hgo P.h0 P.h1 P.p0 hj P.hk hb hsub hdot)) (bC rfl rfl) aG rfl rfl) ?_;refine gt (aE (Con.rekeyB1 32 rfl rfl rfl rfl rfl hrr) (bC rfl rfl) aG rfl rfl) ?_;exact kC J1 hk0 (hw:=Wk.of (.cons rfl (Sub.of (acd (fun z=>nA (sX z)) hE.symm)) (.k .nil)) (.k .nil))
 rintro hk9;rw[show oG l a g=sX (jr l a g)from ab5 hk9];refine gf ?_;refine gR ?_;exact jg rfl
structure MtOk(ts:LL)(m:Mt):Prop where
  tw:∃r,Tw m.ts r/\kB r m.ts.length<=1101400000
  two:m.ts.length<=2
  ln:m.ps.length<=2
  ps:∀x∈m.ps,Nm m.ts.length 15500000000 x.1/\Nm m.ts.length 15500000000 x.2
  up:∀(e:Nat)(y:Et ts),Nm ts.length e (sX y)->Nm m.ts.length e (sX y)/\sX (dE m.ts (sX y))=sX y
theorem AA{ts:LL}(e:Nat)(y:Et ts)(h:Nm ts.length e (sX y)):Nm ts.length e (sX y)/\sX (dE ts (sX y))=sX y:=⟨h,acd (sh ts.length) (bh _ _)⟩
theorem vK{ts:LL}{X:Et ts}(hn:ts.length<=1)(e:Nat)(y:Et ts)(h:Nm ts.length e (sX y)):Nm (aU ts (sX X)).length e (sX y)/\sX (dE (aU ts (sX X)) (sX y))=sX y:=by
 refine⟨mx h oz,?_⟩;show sh (aU ts (sX X)).length (ae (aU ts (sX X)).length (sX y))=sX y;rw[dQ,gq h.nl.le];show(if T.isZ ts.length (T.zero ts.length)=true then sh ts.length (ae ts.length (sX y))else _)=_;rw[ab6 ((T.isZ_iff _ _).2 rfl)];exact acd (sh ts.length) (bh _ _)
theorem rX{ts:LL}{ps:List (List Rat×List Rat)}(tw:Tw ts 64990)(hn:ts.length<=1)(hl:ps.length<=2)(hp:∀x∈ps,Nm ts.length 15500000000 x.1/\Nm ts.length 15500000000 x.2):MtOk ts ⟨ts,ps⟩ :=
 ⟨⟨64990,tw,by have:=zR hn;show kB 64990 ts.length<=_;omega⟩,by show ts.length<=2;omega,hl,hp,AA⟩
theorem Kj{ts:LL}{X:Et ts}{ps:List (List Rat×List Rat)}(E:ExtP X)(hn:ts.length<=1)(hl:ps.length<=2)(hp:∀x∈ps,Nm (aU ts (sX X)).length 15500000000 x.1/\Nm (aU ts (sX X)).length 15500000000 x.2):MtOk ts ⟨aU ts (sX X),ps⟩ :=
 ⟨⟨366909990,E.tw,by
  have h:=gX 366909990 (show ts.length+1<=2 by omega);have h2:eB 366909990 2=1100729976:=by decide
  show eB 366909990 (aU ts (sX X)).length<=_;rw[dQ];omega⟩,by show(aU ts (sX X)).length<=2;rw[dQ];omega,hl,hp,vK hn⟩
theorem rz{ts:LL}{m:Mt}(ok:MtOk ts m){x:List Rat×List Rat}(hx:x∈m.ps){p c:Rat×Rat}{o:P2 ts}(a1:Nm ts.length 773000000 (sX o.1))(a2:Nm ts.length 773000000 (sX o.2))(hp:Sm 1000 p)(hc:Sm 1000 c)
  (h0:b9 (bX c p) (bX c p)≠0):HdP m.ts x ⟨p,o.l,c⟩:=by
 obtain⟨r,tw,hk⟩:=ok.tw;obtain⟨n1,n2⟩:=ok.ps x hx;obtain⟨b1,e1⟩:=ok.up _ _ a1;obtain⟨b2,e2⟩:=ok.up _ _ a2;have hl:lm m.ts.length=200000000000:=by unfold lm;rw[ab6 ok.two]
 refine⟨hp,hc,oh tw n1 b1 (by rw[hl];omega),oh tw n2 b2 (by rw[hl];omega),e1,e2,EA tw ok.two hk ((hc.sub hp).mono oz) (hp.mono oz) h0 ((n1.sub b1).mono oz) ((n2.sub b2).mono oz) ?_ ?_⟩
 ·show Nm m.ts.length 773000000 (sX (dE m.ts (sX o.1)));rw[e1];exact b1
 ·show Nm m.ts.length 773000000 (sX (dE m.ts (sX o.2)));rw[e2];exact b2
theorem lT{α:Type}{P:α->Prop}{x y:α}(hx:P x)(hy:P y):∀z∈[x,y],P z:=by
 intro z hz;rcases abd.1 hz with rfl |hz
 ·exact hx
 ·rw[Za.1 hz];exact hy
theorem iP{α:Type}{P:α->Prop}{x:α}(hx:P x):∀z∈[x],P z:=by
 intro z hz;rw[Za.1 hz];exact hx
theorem Ih{ts:LL}{x y z x2 y2 z2:Et ts}(tw:Tw ts 64990)(hn:ts.length<=1)(c:Ct ts 310000 65000)(h1:Zu 310000 65000 x 40 40)(h2:Zu 310000 65000 y 40 40)(h3:Zu 310000 65000 z 3 0)(h4:Zu 310000 65000 x2 40 40)(h5:Zu 310000 65000 y2 40 40)(h6:Zu 310000 65000 z2 3 0)
  (h0:fQ (x,y) (x2,y2) z z2=0):MtOk ts (er (x,y) (x2,y2) z z2):=by
 have P:=JI c h1 h2 h3 h4 h5 h6;have ce:=c.ex;have ck:=c.k1;have cu:=c.u3;haveI cy:Cy ts 310000 65000:=⟨ce,ck,cu,by omega⟩
 unfold fQ at h0;unfold er
 by_cases hd:ao (aA (x,y) (x2,y2))=0
 ·rw[ab6 hd]at h0 ⊢;unfold l8 at h0;unfold lQ
  by_cases hz:ao (z-z2)≠0
  ·rw[ab6 hz];exact rX tw hn (by simp) (by simp)
  ·rw[ab5 hz]
   by_cases hp:0<ao z
   ·rw[ab6 ⟨aao.1 hz,hp⟩]at h0;cases h0
   ·rw[ab5 hp];haveI:=h1;haveI:=h2
    refine rX tw hn (by simp) (iP ⟨?_,?_⟩)
    ·exact(ace:Zu 310000 65000 (x+0*x) _ _).nm.mono (by decide)
    ·exact(ace:Zu 310000 65000 (y+0*y) _ _).nm.mono (by decide)
 ·rw [ab5 hd];have ht0:ao (eP (aA (x,y) (x2,y2))) ≠ 0:=by rw [v8 tw]; exact hd
  by_cases hx0:ao (bj (x,y) z (x2,y2) z2)<0
  ·rw[ab6 hx0];exact rX tw hn (by simp) (by simp)
  ·rw[ab5 hx0];obtain⟨_,_,f1,f2⟩:=JX hn h1 h2 h3 h6 P ht0
   by_cases hx1:ao (bj (x,y) z (x2,y2) z2)=0
   ·rw[ab6 hx1];exact rX tw hn (by simp) (iP ⟨f1.nm.mono (by decide),f2.nm.mono (by decide)⟩)
   ·rw[ab5 hx1];have E:ExtP (bj (x,y) z (x2,y2) z2):=uZ tw hn P.zX oz;have S:=Kk (X:=bj (x,y) z (x2,y2) z2) (d:=aA (x,y) (x2,y2)) (f:=dj (x,y) (x2,y2) z z2) (v:=fW (x,y) (x2,y2)) hn E P.zt ht0 f1 f2 P.z1 P.z2;exact Kj E hn (by simp) (lT ⟨S.n1.1.nm.mono (by decide),S.n1.2.nm.mono (by decide)⟩ ⟨S.n2.1.nm.mono (by decide),S.n2.2.nm.mono (by decide)⟩)
theorem IF{ts:LL}{o p q:P2 ts}{z:Et ts}(tw:Tw ts 64990)(hn:ts.length<=1)(c:Ct ts 310000 65000)(o1:Zu 310000 65000 o.1 40 40)(o2:Zu 310000 65000 o.2 40 40)(p1:Zu 310000 65000 p.1 40 40)(p2:Zu 310000 65000 p.2 40 40)(q1:Zu 310000 65000 q.1 40 40)(q2:Zu 310000 65000 q.2 40 40)
  (i3:Zu 310000 65000 z 3 0) (h0:fR p q=0):MtOk ts (d8 p q o z):=by
 have ce:=c.ex;have ck:=c.k1;have cu:=c.u3;haveI cy:Cy ts 310000 65000:=⟨ce,ck,cu,by omega⟩
 have P:=Dz cy p1 p2 q1 q2 o1 o2 i3;unfold fR at h0;unfold d8
 by_cases hs:ao (bm p q)=0
 ·rw[ab6 hs]at h0;cases h0
 ·rw[ab5 hs]
  by_cases h1:ao (aX p q o z)=-1
  ·rw[ab6 h1];exact rX tw hn (by simp) (by simp)
  ·rw[ab5 h1]
   by_cases h2:ao (aX p q o z)=0
   ·rw[ab6 h2];have Q:=Io cy hn p1 p2 P hs;exact rX tw hn (by simp) (iP ⟨Q.n1.nm.mono (by decide),Q.n2.nm.mono (by decide)⟩)
   ·rw[ab5 h2]
    have hpos:0<=ao (aX p q o z):=by
     have:=T.sgn_cases (au ts) ts.length (aX p q o z);have e:ao (aX p q o z)=T.sgn (au ts) ts.length (aX p q o z):=rfl;omega
    have E:ExtP (aX p q o z):=uZ tw hn (Bf P.zX oz oz) hpos;haveI ce:=E.cy;haveI zr:Zl (aU ts (sX (aX p q o z))) 773000000 1101400000 (cC ts.length) (dE _ (cC ts.length)) 1 0:=Zl.at (ud oz) (by decide);haveI ze':=kp (X:=aX p q o z) hn P.ze (by decide);haveI:=zr.zu;haveI:=ze'.zu
    have S1:=wd (p:=p) (v:=aQ q p) hn E P.zs hs p1 p2 P.v1 P.v2 (k:=aP (aX p q o z) (bQ p q o)+bE (aX p q o z)) ace;have S2:=wd (p:=p) (v:=aQ q p) hn E P.zs hs p1 p2 P.v1 P.v2 (k:=aP (aX p q o z) (bQ p q o)-bE (aX p q o z)) ace;exact Kj E hn (by simp) (lT ⟨S1.n1.nm.mono (by decide),S1.n2.nm.mono (by decide)⟩ ⟨S2.n1.nm.mono (by decide),S2.n2.nm.mono (by decide)⟩)
abbrev ra(r:List AV×Nat):AV:=.tup [.lst 3 r.1,bF r.2]
def oe(l:Li)(a:As)(i k:Int)(j0 j1 j2:Jt):List AV×Nat :=
  if gV [bX (ai l j2 i) (ai l j0 i),bX (ai l j2 k) (ai l j1 k)]=true then([],15)
  else if fQ (aw l a j0 i) (aw l a j1 k) (qE (ba (ai l j2 i) (ai l j0 i))) (qE (ba (ai l j2 k) (ai l j1 k)))≠0 then([],fQ (aw l a j0 i) (aw l a j1 k) (qE (ba (ai l j2 i) (ai l j0 i))) (qE (ba (ai l j2 k) (ai l j1 k))))
  else(jp (er (aw l a j0 i) (aw l a j1 k) (qE (ba (ai l j2 i) (ai l j0 i))) (qE (ba (ai l j2 k) (ai l j1 k)))) [⟨ai l j0 i,P2.l (aw l a j0 i),ai l j2 i⟩,⟨ai l j1 k,P2.l (aw l a j1 k),ai l j2 k⟩]
    (er (aw l a j0 i) (aw l a j1 k) (qE (ba (ai l j2 i) (ai l j0 i))) (qE (ba (ai l j2 k) (ai l j1 k)))).ps.length,0)
theorem QF{l:Li}{a:As}(D:DyR l a)(hn:(llq a.rs).length<=1){i k z0 z1 z2:Int}{j0 j1 j2:Jt}(hg:GrOk l ⟨1,[i,k],[z0,z1,z2],0⟩)(P:RrrP 3900000 l a ⟨1,[i,k],[z0,z1,z2],0⟩ i k z0 z1 z2 j0 j1 j2) :
  Con prog 280 [.ptr 1000 0] [pP 1000 (ci l ⟨1,[i,k],[z0,z1,z2],0⟩ a)] (ra (oe l a i k j0 j1 j2)) [pP 1000 (ci l ⟨1,[i,k],[z0,z1,z2],0⟩ a)]:=by
 haveI c:=D.s.ct D.hc;obtain⟨tw,etw⟩:=db D.s.tr D.hc;have hq0:=d7 D.hl D.li P.h0 P.p0.or;have hq1:=d7 D.hl D.li P.h1 P.p1.or;have hq2:=d7 D.hl D.li P.h2 P.t1;have hq3:=d7 D.hl D.li P.h2 P.t2;obtain⟨y1,y2⟩:=mI D.hl D.li D.al D.s D.hc P.h0 P.p0;obtain⟨y3,y4⟩:=mI D.hl D.li D.al D.s D.hc P.h1 P.p1;haveI:=y1;haveI:=y2;haveI:=y3;haveI:=y4
 haveI q1:=ri hq2 hq0;haveI q2:=ri hq3 hq1;haveI z1:Zu 310000 65000 (qE (ba (ai l j2 i) (ai l j0 i)):Et (llq a.rs)) 3 0:=ace;haveI z2:Zu 310000 65000 (qE (ba (ai l j2 k) (ai l j1 k)):Et (llq a.rs)) 3 0:=ace;have hr:=Pm (a:=sX (aw l a j0 i).1) (b:=sX (aw l a j0 i).2) (c:=sh 0 (ba (ai l j2 i) (ai l j0 i):Rat)) (a2:=sX (aw l a j1 k).1) (b2:=sX (aw l a j1 k).2) (c2:=sh 0 (ba (ai l j2 k) (ai l j1 k):Rat)) D.s.tr D.hc hn rfl rfl (tO _ _) (tO _ _);have hzz:=C6 [bX (ai l j2 i) (ai l j0 i),bX (ai l j2 k) (ai l j1 k)] (by show 2<=_;omega) (lT ((hq2.sub hq0).mono oz) ((hq3.sub hq1).mono oz));refine gF func280 (fun k z h=>bO h) ?_;refine gt (aV (CY D.hl D.li D.al D.hc D.two hg P.h0 P.h1 P.h2 P.p0 P.p1 P.t1 P.t2) (cG rfl) rfl rfl rfl) ?_;refine gf ?_;refine gc (oU hq2 hq0 oz oz) ?_;refine gc (oU hq3 hq1 oz oz) ?_;refine gc hzz ?_;refine gD ?_;refine gC (fun u=>?_) (fun u=>?_)
 ·have h1:gV [bX (ai l j2 i) (ai l j0 i),bX (ai l j2 k) (ai l j1 k)]=true:=u;refine gR ?_;exact(aC.keep (bq rfl)).sub (by unfold oe;rw[ab6 h1];exact Sub.tup (.cons (.nil _ _ _) (.cons (.refl _) .nil)))
 have h1:gV [bX (ai l j2 i) (ai l j0 i),bX (ai l j2 k) (ai l j1 k)]=false:=u;obtain⟨w1,w2⟩:=uS h1;refine gc (qG hq0 hq2 _) ?_;refine gc (qG hq1 hq3 _) ?_;refine gc hr ?_;refine gD ?_;refine gC (fun u=>?_) (fun u=>?_)
 ·have h2:=dH u;refine gR ?_;exact(aC.keep (bq rfl)).sub (by unfold oe;rw[ab5 (by rw[h1];decide),ab6 h2];exact Sub.tup (.cons (.nil _ _ _) (.cons (.refl _) .nil)))
 have h2:=dD u;have ok:=Ih (x:=(aw l a j0 i).1) (y:=(aw l a j0 i).2) (x2:=(aw l a j1 k).1) (y2:=(aw l a j1 k).2) tw hn c y1 y2 z1 y3 y4 z2 h2;obtain⟨r9,tw9,_⟩:=ok.tw
 have hpl:=E9 tw9 [⟨ai l j0 i,P2.l (aw l a j0 i),ai l j2 i⟩,⟨ai l j1 k,P2.l (aw l a j1 k),ai l j2 k⟩] (aau 2) ok.ln
  (fun x hx=>lT (rz ok hx (y1.nm.mono (by decide)) (y2.nm.mono (by decide)) hq0 hq2 w1) (rz ok hx (y3.nm.mono (by decide)) (y4.nm.mono (by decide)) hq1 hq3 w2))
 refine gc hpl ?_;refine gR ?_;exact(aC.keep (bq rfl)).sub (Sub.of (by unfold oe;rw[ab5 (by rw[h1];decide),ab5 (fun h=>h h2)];rfl))
def mT(l:Li)(a:As)(i:Int)(j0 j:Jt):List AV×Nat :=
  if gV [bX (aM l i j.point) (ai l j0 i)]=true then([],15)
  else if fR (aZ l a j.b j.on) (aZ l a j.b j.to)≠0 then([],fR (aZ l a j.b j.on) (aZ l a j.b j.to))
  else(jp (d8 (aZ l a j.b j.on) (aZ l a j.b j.to) (aw l a j0 i) (qE (ba (aM l i j.point) (ai l j0 i)))) [⟨ai l j0 i,P2.l (aw l a j0 i),aM l i j.point⟩]
    (d8 (aZ l a j.b j.on) (aZ l a j.b j.to) (aw l a j0 i) (qE (ba (aM l i j.point) (ai l j0 i)))).ps.length,0)
theorem RX{l:Li}{a:As}(D:DyR l a)(hn:(llq a.rs).length<=1){i z0 z1:Int}{j0 j:Jt}(hg:GrOk l ⟨2,[i],[z0,z1],0⟩)(P:SlP 3900000 l a ⟨2,[i],[z0,z1],0⟩ 2 i z0 z1 j0 j)(ha:j.a=i)(hb:Pd 3900000 a j.b) :
  Con prog 281 [.ptr 1000 0] [pP 1000 (ci l ⟨2,[i],[z0,z1],0⟩ a)] (ra (mT l a i j0 j)) [pP 1000 (ci l ⟨2,[i],[z0,z1],0⟩ a)]:=by
 haveI c:=D.s.ct D.hc;obtain⟨tw,etw⟩:=db D.s.tr D.hc;obtain⟨i1,i2,i3,i4,i5⟩:=cF D.li P.h1;have hq2:Sm 1000 (aM l i j.point):=by rw[<- ha];exact iu D.hl D.li i1 i3
 have hq0:=d7 D.hl D.li P.h0 P.p0.or;obtain⟨y1,y2⟩:=mI D.hl D.li D.al D.s D.hc P.h0 P.p0;obtain⟨y3,y4⟩:=mV D.hl D.li D.al D.s D.hc i2 i4 hb;obtain⟨y5,y6⟩:=mV D.hl D.li D.al D.s D.hc i2 (i5 P.hk) hb;haveI q1:=ri hq2 hq0;haveI z1:Zu 310000 65000 (qE (ba (aM l i j.point) (ai l j0 i)):Et (llq a.rs)) 3 0:=ace;have hr:=Ot (o:=aw l a j0 i) (p:=aZ l a j.b j.on) (q:=aZ l a j.b j.to) (c:=sh 0 (ba (aM l i j.point) (ai l j0 i):Rat)) D.s.tr D.hc hn c y1 y2 y3 y4 y5 y6 (tO _ _);have hzz:=C6 [bX (aM l i j.point) (ai l j0 i)] (by show 1<=_;omega) (iP ((hq2.sub hq0).mono oz));refine gF func281 (fun k z h=>bO h) ?_;refine gt (aV (zO D.hl D.li D.al D.hc D.two hg P.h0 P.h1 P.p0 ha P.hk hb) (cG rfl) rfl rfl rfl) ?_;refine gf ?_;refine gc (oU hq2 hq0 oz oz) ?_;refine gc hzz ?_;refine gC (fun y=>?_) (fun y=>?_)
 ·have h1:gV [bX (aM l i j.point) (ai l j0 i)]=true:=y;refine gR ?_;exact(aC.keep (bq rfl)).sub (by unfold mT;rw[ab6 h1];exact Sub.tup (.cons (.nil _ _ _) (.cons (.refl _) .nil)))
 have h1:gV [bX (aM l i j.point) (ai l j0 i)]=false:=y;have w1:=uK h1;refine gc (qG hq0 hq2 _) ?_;refine gc hr ?_;refine gD ?_;refine gC (fun y=>?_) (fun y=>?_)
 ·have h2:=dH y;refine gR ?_;exact(aC.keep (bq rfl)).sub (by unfold mT;rw[ab5 (by rw[h1];decide),ab6 h2];exact Sub.tup (.cons (.nil _ _ _) (.cons (.refl _) .nil)))
 have h2:=dD y;have ok:=IF (o:=aw l a j0 i) (p:=aZ l a j.b j.on) (q:=aZ l a j.b j.to) (z:=qE (ba (aM l i j.point) (ai l j0 i))) tw hn c y1 y2 y3 y4 y5 y6 z1 h2;obtain⟨r9,tw9,_⟩:=ok.tw;have hpl:=E9 tw9 [⟨ai l j0 i,P2.l (aw l a j0 i),aM l i j.point⟩] (show 1<=2 by omega) ok.ln (fun x hx=>iP (rz ok hx (y1.nm.mono (by decide)) (y2.nm.mono (by decide)) hq0 hq2 w1));refine gc hpl ?_;refine gR ?_;exact(aC.keep (bq rfl)).sub (Sub.of (by unfold mT;rw[ab5 (by rw[h1];decide),ab5 (fun h=>h h2)];rfl))
end Go.Lw
