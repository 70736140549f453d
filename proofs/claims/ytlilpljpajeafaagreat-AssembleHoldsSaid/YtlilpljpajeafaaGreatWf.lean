/- AssembleHolds: for any linkage and any turns the law returns true and leaves its arguments as they were. No other condition. Part 6 of 8: what the later parts need -/
import Derived.Test.YtlilpljpajeafaaGreatWe
import Derived.Laws.Cover3
set_option linter.unusedVariables false
open List (mem_of_getElem? mem_append map_cons mem_cons length_cons length_append length_nil getD_eq_getElem?_getD getElem?_append_left getElem?_eq_none all_eq_true getElem?_take getElem?_drop getElem?_map getElem?_append_right getElem?_eq_getElem nil_append getElem?_replicate map_append length_take take_of_length_le drop_zero take_length map_nil not_mem_nil length_map map_map length_replicate map_replicate map_set length_set)
open Nat (eq_of_beq_eq_true le_refl lt_of_lt_of_le lt_or_ge le_trans zero_le pow_add)
open Option (map_eq_some_iff)
open Bool (and_eq_true)
open Array (getD_eq_getD_getElem?)
open Int (toNat_natCast)
open Go.Proofs.Tryz
namespace Go.Lw
variable{P:Program}{N:Nat}{R:Array Oper}{s:AS}{pos:String}{after:Array Edge}
theorem AQ{d:Nat}{x:Operand}{n:Nat}{z:Value}{T E t:TypeId}{ti te:TI}(hx:Ev s x (.v (.int .i64 n)))
    (hT:au P T=some ti) (hk:ti.k=.slice E) (hE:au P E=some te) (hz:te.zero=[z]) (hz1:z.oneCell'=true) (hs:Nat.beq te.size 1=true) (hbb:Nat.blt 0 te.bytes=true)
    (hb:(n:Int)*te.bytes<=281474976710656) (hN:Nat.blt d N=true) :
    Step P N R s ⟨some d,.makeSlice T x x,t,pos,after,none⟩
      ⟨some (.ms d 1 0 n),[(d,some (.vec (List.replicate n z)))],an x,[]⟩ :=
  s9 rfl rfl hN (by simp) fun s' hag hfr C m a w hr => by
    have hxv:=ox hr (hx.agree hag (fun _ h=>h));have hs:=eq_of_beq_eq_true hs;rw[Nat.blt_eq]at hbb;obtain⟨d2,h3,h4,-,-⟩:=dW hT w;obtain rfl:=iN (h4.trans hk);obtain⟨zv,h5,h6⟩:=sJ hE w;obtain⟨ie,h7,h8,-⟩:=CT hE w;have h6':zv.cells.toList=[z]:=h6.trans hz;have hzc:zv.cells=#[z]:=by rw[<- Array.toArray_toList (xs:=zv.cells),h6']
    have hnb:(n:Int)<=281474976710656:=by
      have:(n:Int)*1<=n*te.bytes:=Int.mul_le_mul_of_nonneg_left oz oz;omega
    have hw1:IntKind.i64.wrap (n:Int)=n:=IntWalk.i64_in n oz;obtain⟨zero,hzero⟩:∃zero:Array Value,zero=(if n*te.size=0 then #[]else zv.cells):=⟨_,rfl⟩
    refine⟨.slice (some ⟨w.heap.size,0,none⟩) n n,(Array.range (n*te.size)).map (zero[· % zero.size]!),E,w.drawn,?_,?_,?_,?_⟩
    · have hmk:(Instr.makeSlice T (.int .i64 n) (.int .i64 n)).run P w =
          .ok (.slice (some ⟨w.heap.size,0,none⟩) n n) { w with heap:=w.heap.push (.cells ((Array.range (n*te.size)).map (zero[· % zero.size]!)) E) }:=by
        have hc:¬(((n:Int)<0\/281474976710656<(ie.bytes:Int)*n)\/(n:Int)<0):=by
          rw[h8,Int.mul_comm];omega
        simp only[Instr.makeSlice,Sem.run_bind,h3,Result.andThen_ok,asInt,asIntOf,Sem.run_pure,h7,hw1];rw[if_neg (by simpa using hc)];simp only[Sem.run_bind,run_askRoom,Result.andThen_ok,gp hE,toNat_natCast]
        by_cases h0:n*te.size=0
        · rw[if_pos h0]at hzero ⊢
          subst hzero;simp only[Sem.run_bind,Sem.run_pure,Result.andThen_ok,newRow,run_newObj]
        · rw[if_neg h0]at hzero ⊢
          subst hzero;simp only[Sem.run_bind,Sem.run_pure,Result.andThen_ok,h5,newRow,run_newObj]
      simp only[execOp,hxv,Sem.run_bind,hmk,Result.andThen_ok,Sem.run_pure]
    · exact fun h=>h
    · intro g S m' w' hg hS hm hw
      refine .vec hw ?_ (fun v hv=>by rw[List.eq_of_mem_replicate hv];exact hz1);apply List.ext_getElem?;intro j;rw[Array.getElem?_toList,getElem?_replicate]
      by_cases hj:j<n
      · have hpos : ¬ n * te.size = 0 := by rw [hs]; omega
        rw[if_neg hpos,hzc]at hzero;subst hzero;rw[if_pos hj];simp only[Array.getElem?_map,Array.getElem?_range,show j<n*te.size by rw[hs];omega,if_true,Option.map_some,Option.some.injEq];simp[Nat.mod_one]
      · rw[if_neg hj,Array.getElem?_eq_none (by simp[hs];omega)]
    · intro g S m' hm hS
      have:=Rep.ms (g:=g) (S:=S) (m:=m') (k:=d) (sz:=1) (off:=0) (len:=n) (cap:=n) hm (le_refl _) (by simpa[hs]using hS);simpa using this
theorem vY{x y:Operand}{k i:Nat}{vs:List Value}{v:Value}{T t:TypeId}{ti:TI}
  (hx:Ev s x (.eptr k 1 i 0)) (hk:s.blk k=some (.vec vs)) (hi:i<vs.length) (hy:Ev s y (.v v)) (hv:v.oneCell'=true) (hT:au P T=some ti) (hsz:Nat.beq ti.size 1=true) :
  Step P N R s ⟨none,.store T x y,t,pos,after,none⟩ ⟨none,[(k,some (.vec (vs.set i v)))],an x++an y,[k]⟩ :=
 xk rfl rfl (by simp) hk fun s' hag C m a w hr => by
  have hsz:=eq_of_beq_eq_true hsz;obtain⟨b,hm,hxv⟩:=wS hr (hx.agree hag (fun _ h=>List.mem_append.2 (.inl h)));have hyv:=ox hr (hy.agree hag (fun _ h=>List.mem_append.2 (.inr h)));have hb:=hr.heap.blk k _ ((hag.2 k (by simp)).trans hk);rw[hm]at hb;cases hb with
  | @vec _ _ c t2 hw hc h1 =>
   have hcs:c.size=vs.length:=by rw[<- hc];simp
   have hvc:v.cells=#[v]:=by cases v <;> simp_all [Value.cells,Value.oneCell']
   refine⟨b,c,(over c.toList i v.cells.toList).toArray,t2,hm,hw,?_,?_,?_⟩
   ·simp[over,hvc];omega
   ·have hrun := Au (P := P) (off := i) (v := v) hT hw (by rw[hvc,hsz];rfl) oz (by rw[hvc];simpa using hv);simp[execOp,Instr.storeAt,hxv,Instr.sureAddr,hyv,hrun]
   ·intro g S w' hg hS hw';refine .vec hw' ?_ (fun u hu=>?_)
    ·rw[hc,hvc];unfold over;rw[List.set_eq_take_append_cons_drop,if_pos hi];simp
    ·rcases List.mem_or_eq_of_mem_set hu with h9 |h9
     ·exact h1 u h9
     ·rw[h9];exact hv
inductive Lent(H:Hp)(hid:List Nat):AV->AV->Prop
  |same {x:AV} (h:x.nm=[]):Lent H hid x x
  |ms {k off len:Nat} {vs:List Value} (hk:lk H k=some (.vec vs)) (hh:k∉hid) (hl:off+len<=vs.length) (hm:vs.length<=aS):Lent H hid (.ms k 1 off len) (.lst 1 (((vs.drop off).take len).map .v))
theorem F7{g:Nat->Array Value->Prop}{S:Nat->Nat->Prop}{m:Nat->Option Nat}{u y:Value}(h:Rep g S m u (.v y)):u=y:=by cases h;rfl
theorem vk{m:Nat->Option Nat}{b:Nat}:¬aX [] m b:=by rintro⟨k,x,h,_⟩;cases h
def pK(ext:Nat->Prop)(H:Hp)(hid:List Nat)(m:Nat->Option Nat)(b:Nat):Prop:=ext b\/∃k z,k∈hid/\lk H k=some z/\m k=some b
theorem O4{ext:Nat->Prop}{H:Hp}{hid:List Nat}{m m2:Nat->Option Nat}{w:World}{b:Nat}{cs:Array Value}(h:Im ext H m w b cs):Im (pK ext H hid m) [] m2 w b cs :=
 ⟨fun h'=>h'.elim h.1 (fun⟨k,z,_,hz,hb⟩=>h.2.1 ⟨k,z,hz,hb⟩),vk,h.2.2⟩
theorem F2{ext:Nat->Prop}{H:Hp}{hid:List Nat}{m:Nat->Option Nat}{w:World}(hh:HeapRel ext H m w){k b:Nat}{z:Blk}(hk:lk H k=some z)(hb:m k=some b)(hn:k∉hid):¬pK ext H hid m b:=by
 rintro(h |⟨k',z',h1,h2,h3⟩)
 ·exact(hh.sep k z b hk hb).1 h
 ·have:=hh.inj k k' z z' b hk h2 hb h3;subst this;exact hn h1
theorem Lent.rep{ext:Nat->Prop}{H:Hp}{hid:List Nat}{m:Nat->Option Nat}{w:World}(hh:HeapRel ext H m w){x x':AV}(h:Lent H hid x x') :
  ∀{v:Value},Rep (Im ext H m w) (Sz w) m v x->∀m2:Nat->Option Nat,Rep (Im (pK ext H hid m) [] m w) (Sz w) m2 v x':=by
 cases h with
 |same hn=>intro v hv m2;exact(iL hn hv).mono (fun _ _ h=>O4 h) (fun _ _ h=>h) (fun _ _ _ h=>h)
 | @ms k off len vs hk hnh hl hm =>
  intro v hr m2;have hb:=hh.blk k _ hk;cases hr with
  |ms0 a=>simp only[List.take_zero];exact .lst0 _ _ _
  | @ms _ _ _ _ _ cap b hmk hc hS =>
   rw[hmk]at hb;cases hb with
   | @vec _ _ c t hw hcv h1 =>
    have hcs:c.size=vs.length:=by rw[<- hcv];simp
    have hlen:(((vs.drop off).take len).map AV.v).length=len:=by rw[length_map,length_take,List.length_drop];omega
    have he':∀(i:Nat)(e:AV),(((vs.drop off).take len).map AV.v)[i]?=some e->∃u,e=.v u/\c[off+i]?=some u/\u∈vs:=by
     intro i e he;rw[getElem?_map,map_eq_some_iff]at he;obtain⟨u,he,rfl⟩:=he;rw[getElem?_take]at he;split at he
     ·rw[getElem?_drop]at he;exact⟨u,rfl,by rw[<- Array.getElem?_toList,hcv];exact he,mem_of_getElem? he⟩
     ·cases he
    have:=Rep.lst (g:=Im (pK ext H hid m) [] m w) (S:=Sz w) (m:=m2) (b:=b) (off:=off) (cap:=cap) (sz:=1) (es:=((vs.drop off).take len).map AV.v) (cs:=c) (fun i j=>c.getD (off+i) undef)
     ⟨F2 hh hk hmk hnh,vk,t,(0,0),hw⟩ oz oz ?_ ?_ ?_ ?_
    ·rw[hlen]at this;simpa using this
    ·intro i e he;obtain⟨u,rfl,_⟩:=he' i e he;rfl
    ·intro i j e x he hx;obtain⟨u,rfl,_,hm⟩:=he' i e he;cases j with
     |zero=>cases hx;exact h1 u hm
     |succ j=>cases hx
    ·intro i j e x he hx;obtain⟨u,rfl,hu,_⟩:=he' i e he;cases j with
     |zero=>rw[Nat.mul_one,Nat.add_zero,getD_eq_getD_getElem?,hu];rfl
     |succ j=>cases hx
    ·intro i j e x he hx;obtain⟨u,rfl,hu,_⟩:=he' i e he;cases j with
     |zero=>cases hx;rw[getD_eq_getD_getElem?,hu];exact .v _
     |succ j=>cases hx
def It:AV->Bool
  | .v (.int _ _)=>true
  |_=>false
def Dl:AV->Bool
  | .v (.int _ _)=>false
  | .v _=>true
  | .lst _ _=>true
  | .ms _ _ _ _=>true
  |_=>false
mutual
def AV.li:AV->Bool
  | .v _=>true
  | .agg cs=>AV.lis cs
  | .tup cs=>AV.lis cs
  | .lst sz es=>Nat.beq sz 1&&es.all It
  |_=>false
def AV.lis:List AV->Bool
  |[]=>true
  |x::l=>x.li&&AV.lis l
end
theorem AV.lis_mem:∀{l:List AV}{c:AV},AV.lis l=true->c∈l->c.li=true
 |x::l,c,h,hc=>by
  simp only[AV.lis,and_eq_true]at h;rcases List.mem_cons.1 hc with rfl |hc
  ·exact h.1
  ·exact AV.lis_mem h.2 hc
theorem UK{g:Nat->Array Value->Prop}{S:Nat->Nat->Prop}{m:Nat->Option Nat}{u:Value}{x:AV}(hx:Dl x=true)(h:Rep g S m u x)(kk:IntKind)(z:Int):u≠.int kk z:=by
 rintro rfl;cases h <;> cases hx
theorem KO{g g':Nat->Array Value->Prop}{S S':Nat->Nat->Prop}{m m':Nat->Option Nat}{v:Value}{x:AV}(hx:x.li=true)
  (hg:∀b cs (o:Nat)(kk:IntKind)(z:Int),cs[o]?=some (.int kk z)->g b cs->g' b cs) (h:Rep g S m v x):Rep g' S' m' v x:=by
 induction h with
 |v=>exact .v _
 |agg hn h1 hr ih=>exact .agg hn h1 (fun j u c hu hc=>ih j u c hu hc (AV.lis_mem hx (mem_of_getElem? hc)))
 |tup hn hr ih=>exact .tup hn (fun j u c hu hc=>ih j u c hu hc (AV.lis_mem hx (mem_of_getElem? hc)))
 |lst0 a cap sz=>exact .lst0 _ _ _
 | @lst _ b off cap sz es cs u hb hc hl hs h1 hu hr _ =>
  simp only[AV.li,and_eq_true]at hx;have hsz:=eq_of_beq_eq_true hx.1;subst hsz
  match es,hx,hc,hl,hs,h1,hu,hr with
  |[],_,_,_,_,_,_,_=>exact .lst0 _ _ _
  |e::es,hx,hc,hl,hs,h1,hu,hr =>
   have hcell:∀(i j:Nat)(e' c:AV),(e::es)[i]?=some e'->e'.cells[j]?=some c->∃kk z,c=.v (.int kk z):=by
    intro i j e' c he hc';have h9:=List.all_eq_true.1 hx.2 e' (mem_of_getElem? he);cases e' with
    |v y=>cases y with
     |int kk z =>
      cases j with
      |zero=>cases hc';exact⟨_,_,rfl⟩
      |succ j=>cases hc'
     |_=>cases h9
    |_=>cases h9
   have he0:∃kk z,e=.v (.int kk z):=by
    have h9:=List.all_eq_true.1 hx.2 e (by simp);cases e with
    |v y=>cases y with
     |int kk z=>exact⟨_,_,rfl⟩
     |_=>cases h9
    |_=>cases h9
   obtain⟨kk,z,rfl⟩:=he0;have h8:=hu 0 0 _ _ rfl rfl;have h7:=hr 0 0 _ _ rfl rfl;have h6:u 0 0=.int kk z:=F7 h7;rw[h6]at h8;refine .lst u (hg b cs _ kk z h8 hb) hc hl hs h1 hu (fun i j e' c he hc'=>?_);obtain⟨k2,z2,rfl⟩:=hcell i j e' c he hc';rw[F7 (hr i j _ _ he hc')];exact .v _
 |_=>cases hx
theorem Con.lend{f:FuncId}{k:Nat}{cs:List AV}{cs':Value->List AV}{H:Hp}{r:AV}(hid:List Nat)(j0:Nat)(hk:lk H k=some (.box cs))(hkh:k∉hid)
  (hc:∀v:Value,v.oneCell'=true->(cs' v).length=cs.length/\(∀(j:Nat)(x:AV),(cs' v)[j]?=some x->x.one=true) /\
   ∀(j:Nat)(x x':AV),cs[j]?=some x->(cs' v)[j]?=some x'->(j=j0/\x'=.v v)\/Lent H hid x x')
  (hj:j0<cs.length)
  (hH:∀k z,lk H k=some z->k∈hid\/(∃cs,z=.box cs/\cs.all Dl=true)\/∃vs,z=.vec vs/\∀v∈vs,∀kk z,v≠.int kk z) (hr:r.li=true) (h:∀v:Value,iW P f [.iptr (cs' v)] r):Con P f [.ptr k 0] H r H:=by
 refine⟨(h undef).ok,?_⟩;intro ext m w vs hext hheap hvs hrep;have hsz:0<vs.size:=by rw[hvs];exact Nat.one_pos
 have hr0:=hrep 0 vs[0] _ (Array.getElem?_eq_getElem hsz) rfl;have hb:=hheap.blk k _ hk;generalize hv0:vs[0]=v0 at hr0;cases hr0 with
 | @ptr _ _ _ b hmk =>
  rw[hmk]at hb;cases hb with
  | @box _ _ c t hw hn h1 hrr =>
   have hj0:j0<c.size:=by omega
   have hx0:=getElem?_eq_getElem (l:=cs) (i:=j0) oz;have hone:(c[j0]).oneCell'=true:=(hrr j0 _ _ (Array.getElem?_eq_getElem hj0) hx0).one (h1 j0 _ hx0);obtain⟨g1,g2,g3⟩:=hc c[j0] hone
   have hext':∀b,pK ext H hid m b->b<w.heap.size:=by
    rintro b (h9 |⟨k',z',_,h2,h3⟩)
    ·exact hext b h9
    ·exact(hheap.sep k' z' b h2 h3).2
   have hcall := (h c[j0]).ret (pK ext H hid m) m w vs hext' ⟨fun k z hz => by (cases hz), fun k k' x x' b hx => by (cases hx), fun k x b hx => by (cases hx)⟩ (by rw [hvs]; rfl) (by
    intro j v x hv hx
    match j,hx with
    |0,hx =>
     cases hx;rw[Array.getElem?_eq_getElem hsz,hv0]at hv;cases hv;refine .iptr (cs:=c) (fun j=>c.getD j undef) ⟨F2 hheap hk hmk hkh,vk,t,(0,0),hw⟩ g2 ?_ ?_
     ·intro j x hx;have hlt:j < c.size:=by rw [hn,<- g1]; exact (List.getElem?_eq_some_iff.1 hx).1
      rw[Nat.zero_add,getD_eq_getD_getElem?,Array.getElem?_eq_getElem hlt];rfl
     ·intro j x hx;have hlt:j < c.size:=by rw [hn,<- g1]; exact (List.getElem?_eq_some_iff.1 hx).1
      obtain⟨y,hy⟩:=iM g1 hx;have hcv:c[j]?=some (c.getD j undef):=by rw[getD_eq_getD_getElem?,Array.getElem?_eq_getElem hlt];rfl
      rcases g3 j y x hy hx with⟨rfl,rfl⟩ |hl
      ·have : c.getD j undef = c[j] := by rw [Array.getElem?_eq_getElem hlt] at hcv; exact (Option.some.inj hcv).symm
       rw[this];exact .v _
      ·exact hl.rep hheap (hrr j _ y hcv hy) c9)
   refine Calls.mono hcall ?_;rintro e w' ⟨v,m',rfl,hf,hh,hnew,hkeep,hres⟩;have hkeepB:∀b,b<w.heap.size->w'.heap[b]?=w.heap[b]? := fun b hb=>hf.keep b hb vk
   have hframe:Frame (aX H m) w w':=⟨hf.os,hf.tape,hf.output,hf.size,hf.sz,fun b hb _=>hkeepB b hb⟩
   have him:=eL (ext:=ext) hframe (hp':=H) (m':=m) (fun k x b hk hb=>.inl ⟨k,x,hk,hb⟩);refine⟨v,m,rfl,hframe,⟨?_,hheap.inj,?_⟩,fun k x b hk hb=>.inl ⟨k,x,hk,hb⟩,fun _ _ _ _ _=>rfl,?_⟩
   ·intro k z hz;exact BlkRep.mono (w:=w) him hf.sz (fun _ _ _ h=>h) rfl (fun b hb=>hkeepB b (hheap.sep k z b hz hb).2) (hheap.blk k z hz)
   ·intro k z b hz hb;have:=hheap.sep k z b hz hb;exact⟨this.1,lt_of_lt_of_le this.2 hf.size⟩
   ·refine KO hr ?_ hres;rintro b2 cs2 o kk z ho ⟨g1,g2,t2,fl,g3⟩;refine⟨fun h9=>g1 (.inl h9),?_,t2,fl,g3⟩;rintro⟨k2,y,hk2,hb2⟩;have hlt:=fun b hb=>(hheap.sep k2 _ b hk2 hb).2
    have h3:=hheap.blk k2 _ hk2;rw[hb2]at h3;rcases hH k2 y hk2 with h9 |⟨cl,rfl,hcl⟩ |⟨vs2,rfl,hvl⟩
    ·exact g1 (.inr ⟨k2,y,h9,hk2,hb2⟩)
    ·cases h3 with
     | @box _ _ c2 t' hw2 hn2 h12 hrr2 =>
      have hcc:c2=cs2:=by
       rw[hkeepB b2 (hlt b2 hb2),hw2]at g3
       injection g3 with g3
       injection g3
      subst hcc;have ho':o<c2.size:=(Array.getElem?_eq_some_iff.1 ho).1;have hx:=getElem?_eq_getElem (l:=cl) (i:=o) oz;exact UK (List.all_eq_true.1 hcl _ (mem_of_getElem? hx)) (hrr2 o _ _ ho hx) kk z rfl
    ·cases h3 with
     | @vec _ _ c2 t' hw2 hc2 h12 =>
      have hcc:c2=cs2:=by
       rw[hkeepB b2 (hlt b2 hb2),hw2]at g3
       injection g3 with g3
       injection g3
      subst hcc;have:Value.int kk z∈vs2:=by rw[<- hc2];exact Array.mem_toList_iff.2 (Array.mem_of_getElem? ho)
      exact hvl _ this kk z rfl
end Go.Lw
namespace Go.Lw
open Go.Proofs
def bv(xs:List Bool):List Value:=xs.map .bool
theorem f7(xs:List Bool):(bv xs).length=xs.length:=length_map _
theorem wL(xs:List Bool)(n:Nat):(bv xs).set n (.bool true)=bv (xs.set n true):=by unfold bv;rw[map_set]
theorem Ap(xs:List Bool):∀v∈bv xs,∀kk z,v≠.int kk z:=by
 intro v hv kk z;obtain⟨b,_,rfl⟩:=List.mem_map.1 hv;exact fun h=>by cases h
theorem vq(xs:List Bool):(bv xs).map AV.v=xs.map bl:=by unfold bv;rw[map_map];rfl
theorem Am(n:Nat):List.replicate n (Value.bool false)=bv (List.replicate n false):=by unfold bv;rw[map_replicate]
theorem Qf(xs:List Int):(xs.map i64).all It=true:=by
 rw[all_eq_true];intro x hx;obtain⟨b,_,rfl⟩:=List.mem_map.1 hx;rfl
theorem IP(g:Gr)(b:Bool):(AV.tup [g.av,bl b]).li=true:=by
 simp only[AV.li,AV.lis,Gr.av,Qf];rfl
def n7(l:Li)(n:Nat):Blk:=.box (l.av.cells++[.ms 23 1 0 l.bo.length,.ms 27 1 0 l.bo.length,.ms 31 1 0 l.jo.length,.ms 900 4 0 n])
def mG(l:Li)(kw used:List Bool)(out:List Gr):Hp :=
  [(33,some (n7 l out.length)),(23,some (.vec (bv kw))),(27,some (.vec (bv (bU l)))),(31,some (.vec (bv used))),(900,some (.row 4 (out.map Gr.av)))]
theorem xC{xs:List Bool}{n:Nat}(h:xs.length=n):AV.lst 1 ((((bv xs).drop 0).take n).map .v)=.lst 1 (xs.map bl):=by
 rw[drop_zero,take_of_length_le (by rw[f7];omega),vq]
theorem BN(l:Li)(hl:l.ok)(hli:aB l=0)(kw used:List Bool)(hk:kw.length=l.bo.length)(hu:used.length=l.jo.length)(hm:l.bo.length<=aS/\l.jo.length<=aS)(out:List Gr) :
  Con prog 334 [.ptr 33 0] (mG l kw used out) (.tup [((bY l kw).getD default).av,bl (bY l kw).isSome]) (mG l kw used out):=by
 refine Con.lend (cs:=l.av.cells++[.ms 23 1 0 l.bo.length,.ms 27 1 0 l.bo.length,.ms 31 1 0 l.jo.length,.ms 900 4 0 out.length])
  (cs':=fun v=>dN l kw (bU l) [.lst 1 (used.map bl),.v v]) [900] 7 rfl (by decide) ?_ (by simp[Li.av,AV.cells]) ?_ (IP _ _) (fun v=>Ta l hl hli kw hk _)
 ·intro v hv;refine⟨rfl,?_,?_⟩
  ·intro j x hx
   match j,hx with
   |0,hx=>cases hx;rfl
   |1,hx=>cases hx;rfl
   |2,hx=>cases hx;rfl
   |3,hx=>cases hx;rfl
   |4,hx=>cases hx;rfl
   |5,hx=>cases hx;rfl
   |6,hx=>cases hx;rfl
   |7,hx=>cases hx;exact hv
   |j+8,hx=>cases hx
  ·intro j x x' hx hx'
   match j,hx,hx' with
   |0,hx,hx'=>cases hx;cases hx';exact .inr (.same rfl)
   |1,hx,hx'=>cases hx;cases hx';exact .inr (.same rfl)
   |2,hx,hx'=>cases hx;cases hx';exact .inr (.same rfl)
   |3,hx,hx'=>cases hx;cases hx';exact .inr (.same rfl)
   |4,hx,hx' =>
    cases hx;cases hx'
    have h:=Lent.ms (H:=mG l kw used out) (hid:=[900]) (k:=23) (off:=0) (len:=l.bo.length) (vs:=bv kw) rfl (by decide) (by rw[f7];omega) (by rw[f7];omega);rw[xC hk]at h;exact .inr h
   |5,hx,hx' =>
    cases hx;cases hx'
    have h:=Lent.ms (H:=mG l kw used out) (hid:=[900]) (k:=27) (off:=0) (len:=l.bo.length) (vs:=bv (bU l)) rfl (by decide) (by rw[f7,s8];omega) (by rw[f7,s8];omega);rw[xC (s8 l)]at h;exact .inr h
   |6,hx,hx' =>
    cases hx;cases hx'
    have h:=Lent.ms (H:=mG l kw used out) (hid:=[900]) (k:=31) (off:=0) (len:=l.jo.length) (vs:=bv used) rfl (by decide) (by rw[f7];omega) (by rw[f7];omega);rw[xC hu]at h;exact .inr h
   |7,hx,hx'=>cases hx;cases hx';exact .inl ⟨rfl,rfl⟩
   |j+8,hx,hx'=>cases hx
 ·intro k z hz;simp only[mG,aK]at hz;split at hz
  ·cases hz;exact .inr (.inl ⟨_,rfl,rfl⟩)
  split at hz
  ·cases hz;exact .inr (.inr ⟨_,rfl,Ap _⟩)
  split at hz
  ·cases hz;exact .inr (.inr ⟨_,rfl,Ap _⟩)
  split at hz
  ·cases hz;exact .inr (.inr ⟨_,rfl,Ap _⟩)
  split at hz
  ·subst_vars;exact .inl (by decide)
  ·cases hz
def pg(l:Li):AV:=if aB l=0 then .iptr (dN l (bM l) (bU l) [.lst 1 ((d7 l).map bl),.lst 4 ((cr l).map Gr.av)])else .v (.pointer none)
def je(l:Li)(out:List Gr):List Bool:=out.foldl (fun k g=>bm k g.jo) (List.replicate l.jo.length false)
theorem xq(l:Li)(out:List Gr):(je l out).length=l.jo.length:=by unfold je;rw[pV,length_replicate]
theorem Sn(l:Li)(out:List Gr)(g:Gr):je l (out++[g])=bm (je l out) g.jo:=by unfold je;rw[List.foldl_append];rfl
theorem xe{k:List Bool}{bs:List Int}{i:Nat}{b:Int}(h:bs[i]?=some b):bm k (bs.take (i+1))=(bm k (bs.take i)).set b.toNat true:=by
 unfold bm;rw[dl h,List.foldl_append];rfl
theorem OJ{l:Li}(hli:aB l=0){kw:List Bool}{out:List Gr}{g:Gr}(hk:kw.length=l.bo.length)(h:co l (dK kw) kw out=(bM l,cr l))(hg:bY l kw=some g) :
  co l (dK (bm kw g.bo)) (bm kw g.bo) (out++[g])=(bM l,cr l):=by
 have hlt:=tc hli hk hg;obtain⟨n,hn⟩:∃n,dK kw=n+1:=⟨dK kw-1,by omega⟩
 rw[hn]at h;unfold co at h;rw[hg]at h;rw[<- h];exact zw hli _ _ _ _ (by rw[i9];exact hk) (le_refl _) oz
theorem Tp{l:Li}{kw:List Bool}{out:List Gr}(h:co l (dK kw) kw out=(bM l,cr l))(hg:bY l kw=none):kw=bM l/\out=cr l:=by
 cases hn:dK kw with
 |zero=>rw[hn]at h;exact⟨(Prod.mk.inj h).1,(Prod.mk.inj h).2⟩
 |succ n=>rw[hn]at h;unfold co at h;rw[hg]at h;exact⟨(Prod.mk.inj h).1,(Prod.mk.inj h).2⟩
theorem LE{n:Nat}:dK (cB n 0)<=n:=by
 unfold dK;exact le_trans List.countP_le_length (Nat.le_of_eq (ia _ _))
theorem QG{l:Li}(hli:aB l=0):co l (dK (cB l.bo.length 0)) (cB l.bo.length 0) []=(bM l,cr l):=by
 rw[<- CP];exact zw hli _ _ _ _ (ia _ _) (le_refl _) LE
theorem NK{l:Li}(hli:aB l=0){kw:List Bool}{out:List Gr}(hk:kw.length=l.bo.length)(h:co l (dK kw) kw out=(bM l,cr l)):out.length<=8:=by
 obtain⟨gs,e⟩:=Ag (l:=l) (dK kw) kw out;rw[e]at h;have h1:=(rL hli).2;have h2:out++gs=cr l:=(Prod.mk.inj h).2;rw[<- h2,length_append]at h1;omega
theorem Qh(l:Li)(kw used:List Bool)(out:List Gr)(hk:kw.length=l.bo.length)(hu:used.length=l.jo.length)(hm:l.bo.length<=aS/\l.jo.length<=aS) :
  Wk ⟨[(5,some (.ptr 33 0))],mG l kw used out⟩ ⟨[(5,some (.iptr (dN l kw (bU l) [.lst 1 (used.map bl),.lst 4 (out.map Gr.av)])))],[]⟩:=by
 have hd:=s8 l;have q1:.ms 23 1 0 l.bo.length=AV.ms 23 1 0 ((bv kw).map AV.v).length:=by rw[length_map,f7,hk]
 refine(Wk.of (sl:=[(5,some (.ptr 33 0))]) (hp:=[(33,some (n7 l out.length)),(23,some (.row 1 ((bv kw).map .v))),(27,some (.row 1 ((bv (bU l)).map .v))),(31,some (.row 1 ((bv used).map .v))),(900,some (.row 4 (out.map Gr.av)))])
  (.k .nil) (.k (.cons rfl (.vecRow (by rw[f7];omega)) (.cons rfl (.vecRow (by rw[f7];omega)) (.cons rfl (.vecRow (by rw[f7];omega)) (.k .nil)))))).trans ?_
 refine(Wk.freeze (k:=23) rfl).trans ?_
 refine(Wk.of (sl:=[(5,some (.ptr 33 0))]) (hp:=[(33,some (.box (l.av.cells++[.lst 1 (kw.map bl),.ms 27 1 0 l.bo.length,.ms 31 1 0 l.jo.length,.ms 900 4 0 out.length]))),(27,some (.row 1 ((bv (bU l)).map .v))),(31,some (.row 1 ((bv used).map .v))),(900,some (.row 4 (out.map Gr.av)))])
  (.k .nil) (.cons rfl (BlkSub.bL (.cons (.refl _) (.cons (.refl _) (.cons (.refl _) (.cons (.refl _) (.cons (.of ((bO (by rw[length_map,f7,hk])).trans (by rw[vq]))) (.cons (.refl _) (.cons (.refl _) (.cons (.refl _) .nil)))))))) rfl) (.k (.k (.k .nil))))).trans ?_
 refine(Wk.freeze (k:=27) rfl).trans ?_
 refine(Wk.of (sl:=[(5,some (.ptr 33 0))]) (hp:=[(33,some (.box (l.av.cells++[.lst 1 (kw.map bl),.lst 1 ((bU l).map bl),.ms 31 1 0 l.jo.length,.ms 900 4 0 out.length]))),(31,some (.row 1 ((bv used).map .v))),(900,some (.row 4 (out.map Gr.av)))])
  (.k .nil) (.cons rfl (BlkSub.bL (.cons (.refl _) (.cons (.refl _) (.cons (.refl _) (.cons (.refl _) (.cons (.refl _) (.cons (.of ((bO (by rw[length_map,f7,hd])).trans (by rw[vq]))) (.cons (.refl _) (.cons (.refl _) .nil)))))))) rfl) (.k (.k .nil)))).trans ?_
 refine(Wk.freeze (k:=31) rfl).trans ?_
 refine(Wk.of (sl:=[(5,some (.ptr 33 0))]) (hp:=[(33,some (.box (l.av.cells++[.lst 1 (kw.map bl),.lst 1 ((bU l).map bl),.lst 1 (used.map bl),.ms 900 4 0 out.length]))),(900,some (.row 4 (out.map Gr.av)))])
  (.k .nil) (.cons rfl (BlkSub.bL (.cons (.refl _) (.cons (.refl _) (.cons (.refl _) (.cons (.refl _) (.cons (.refl _) (.cons (.refl _) (.cons (.of ((bO (by rw[length_map,f7,hu])).trans (by rw[vq]))) (.cons (.refl _) .nil)))))))) rfl) (.k .nil))).trans ?_
 refine(Wk.freeze (k:=900) rfl).trans ?_
 refine(Wk.of (sl:=[(5,some (.ptr 33 0))]) (hp:=[(33,some (.box (dN l kw (bU l) [.lst 1 (used.map bl),.lst 4 (out.map Gr.av)])))])
  (.k .nil) (.cons rfl (BlkSub.bL (.cons (.refl _) (.cons (.refl _) (.cons (.refl _) (.cons (.refl _) (.cons (.refl _) (.cons (.refl _) (.cons (.refl _) (.cons (.of (bO (by rw[length_map]))) .nil)))))))) rfl) .nil)).trans ?_
 refine(Wk.freezeB (k:=33) rfl rfl).trans ?_;exact Wk.of (.k .nil) .nil
theorem PD(l:Li)(hl:l.ok):FP 238 [l.av] (.tup [pg l,bp (aB l)]):=by
 refine af func238 ?_;refine gc (Ga l hl) ?_;refine gC (fun t17=>?_) (fun t17=>?_)
 ·have h1:=de t17;refine bj ?_;unfold pg;rw[if_neg h1]
 have hli:=cQ t17;have h8:=(cW hli).2.2.2.1;have h0:=(cW hli).2.2.2.2;have hj16:l.jo.length<=16:=by have:=(cW hli).2.1;unfold eQ at this;split at this;cases this;omega
 have hld:=hl.ld;have hm:l.bo.length<=aS/\l.jo.length<=aS:=by unfold aS;omega
 refine gl ?_;refine gs (AQ (.tmp rfl) T218 rfl T4 rfl rfl rfl rfl (by dsimp only;omega) rfl) ?_;refine gl ?_;refine gs (AQ (.tmp rfl) T218 rfl T4 rfl rfl rfl rfl (by dsimp only;omega) rfl) ?_;refine gl ?_;refine gs (AQ (.tmp rfl) T218 rfl T4 rfl rfl rfl rfl (by dsimp only;omega) rfl) ?_;refine gD ?_;refine gs (bR (n:=0) (.tmp rfl) (.const _) T218 rfl T4 rfl rfl oz rfl) ?_;refine gs (vY (.tmp rfl) rfl (by rw[length_replicate];omega) (.const _) rfl T4 rfl) ?_ (6,0);refine gW (Wk.of (sl:=[(1,some (.ptr 1 0)),(5,some (.ptr 33 0))]) (hp:=[(1,some (.box l.av.cells)),(33,some (.box (l.av.cells++[.ms 23 1 0 l.bo.length,.ms 27 1 0 l.bo.length,.ms 31 1 0 l.jo.length,nS]))),(23,some (.vec (bv (cB l.bo.length 0)))),(27,some (.vec (bv (List.replicate l.bo.length false)))),(31,some (.vec (bv (List.replicate l.jo.length false))))]) aY (.k (.k (.cons rfl (BlkSub.of (by rw[Am,wL];rfl)) (.cons rfl (BlkSub.of (by rw[Am])) (.cons rfl (BlkSub.of (by rw[Am])) .nil)))))) ?_
 refine gl ?_;refine aM [1,5,40,41] [1,23,31] (fun(i:Nat)=>[(42,some (i64 i))]) (fun i=>[(33,some (.box (l.av.cells++[.ms 23 1 0 l.bo.length,.ms 27 1 0 l.bo.length,.ms 31 1 0 l.jo.length,nS]))),(27,some (.vec (bv (bm (List.replicate l.bo.length false) ((l.dv.map Dr.body).take i)))))]) (fun i=>i<=l.dv.length) (fun i=>l.dv.length-i) 0 (zero_le _) ?_;rintro i hi K1 J1;refine gC (fun t43=>?_) (fun t43=>?_) (st2:=(11,0))
 ·have hin:=aW t43;obtain⟨d,hd⟩:=aw hin;have hb:=dj (lc hli hd);have hmt:=xe (k:=List.replicate l.bo.length false) (bs:=l.dv.map Dr.body) (i:=i) (b:=d.body) (by rw[getElem?_map,hd];rfl);refine gi (ax hd) ?_;refine gs (bR (n:=d.body.toNat) (.tmp rfl) (.tmp rfl) T218 rfl T4 rfl oz oz rfl) ?_;refine gs (vY (.tmp rfl) rfl (by rw[f7,i9,length_replicate];omega) (.const _) rfl T4 rfl) ?_;refine gD ?_;refine ga aH ?_;exact aG J1 (i+1) hin (hw:=Wk.of aY (.k (.cons rfl (BlkSub.of (by rw[wL,hmt])) (.k (.k (.k .nil))))))
 have hin:=be hi t43;have hall:bm (List.replicate l.bo.length false) ((l.dv.map Dr.body).take i)=bU l:=by rw[hin];unfold bU;rw[take_of_length_le (by rw[length_map];omega)]
 refine gW ((Wk.virt 900 4 rfl).trans<|Wk.of (sl:=[(1,some (.ptr 1 0)),(5,some (.ptr 33 0))]) (hp:=[(33,some (n7 l 0)),(23,some (.vec (bv (cB l.bo.length 0)))),(27,some (.vec (bv (bU l)))),(31,some (.vec (bv (List.replicate l.jo.length false)))),(900,some (.row 4 []))]) aY (.cons rfl (BlkSub.bL (.cons (.refl _) (.cons (.refl _) (.cons (.refl _) (.cons (.refl _) (.cons (.refl _) (.cons (.refl _) (.cons (.refl _) (.cons (Sub.nM _ _ _) .nil)))))))) rfl) (.k (.cons rfl (BlkSub.of (by rw[hall])) (.k (.k .nil)))))) ?_
 refine gt (ay (BN l hl hli (cB l.bo.length 0) (List.replicate l.jo.length false) (ia _ _) length_replicate hm []) (cI rfl) (fun k z h=>h) rfl rfl) ?_;refine gz [5,8] [] (fun(kw:List Bool)(out:List Gr)=>[(9,some (bl (bY l kw).isSome))]) (fun kw out=>[(8,some (.box ((bY l kw).getD default).av.cells)),(33,some (n7 l out.length)),(23,some (.vec (bv kw))),(27,some (.vec (bv (bU l)))),(31,some (.vec (bv (je l out)))),(900,some (.row 4 (out.map Gr.av)))]) (fun kw out=>kw.length=l.bo.length/\co l (dK kw) kw out=(bM l,cr l)) (fun kw _=>dK kw) (cB l.bo.length 0) ([]) ⟨ia _ _,QG hli⟩ ?_
 rintro kw out ⟨hk,hf⟩ K2 J2;refine gC (fun t59=>?_) (fun t59=>?_) (st1:=(77777,0)) (st2:=(27,0))
 ·obtain ⟨g, hg⟩:=AX t59;have hgo:=uP hli hg;have hout:=NK hli hk hf;refine gW (Wk.of (sl:=[(5,some (.ptr 33 0)),(8,some (.ptr 8 0))]) (hp:=[(8,some (.box g.av.cells)),(33,some (n7 l out.length)),(23,some (.vec (bv kw))),(27,some (.vec (bv (bU l)))),(31,some (.vec (bv (je l out)))),(900,some (.row 4 (out.map Gr.av)))]) aY (.cons rfl (BlkSub.of (by rw [hg]; rfl)) (.k (.k (.k (.k (.k .nil))))))) ?_;refine gl ?_;refine aM [5,8,66,67] [8,33,27,31,900] (fun (j:Nat)=>[(68,some (i64 j))]) (fun j=>[(23,some (.vec (bv (bm kw (g.bo.take j)))))]) (fun j=>j <= g.bo.length) (fun j=>g.bo.length - j) 0 (zero_le _) ?_;rintro j hj K3 J3;refine gC (fun t69=>?_) (fun t69=>?_)
  ·have hin:=aW t69;obtain⟨b,hb⟩:=aw hin;have hbb:=hgo.b b (mem_of_getElem? hb);have hlb:=hgo.lb;refine gi (ax hb) ?_;refine gs (bR (n:=b.toNat) (.tmp rfl) (.tmp rfl) T218 rfl T4 rfl oz oz rfl) ?_;refine gs (vY (.tmp rfl) rfl (by rw[f7,i9];omega) (.const _) rfl T4 rfl) ?_;refine ga aH ?_;exact aG J3 (j+1) hin (hw:=Wk.of aY (.cons rfl (BlkSub.of (by rw[wL,xe hb])) (.k (.k (.k (.k (.k .nil)))))))
  have hin:=be hj t69;subst hin;refine gl ?_;refine aM [5,8,80,81] [8,33,27,900] (fun(q:Nat)=>[(82,some (i64 q))]) (fun q=>[(23,some (.vec (bv (bm kw g.bo)))),(31,some (.vec (bv (bm (je l out) (g.jo.take q)))))]) (fun q=>q<=g.jo.length) (fun q=>g.jo.length-q) 0 (zero_le _) ?_ (h2:=(.cons rfl (BlkSub.of (by rw[take_length])) (.k .nil)));rintro q hq K4 J4;refine gC (fun t83=>?_) (fun t83=>?_)
  ·have hin:=aW t83;obtain⟨b,hb⟩:=aw hin;have hbb:=hgo.j b (mem_of_getElem? hb);have hlj:=hgo.lj;refine gi (ax hb) ?_;refine gs (bR (n:=b.toNat) (.tmp rfl) (.tmp rfl) T218 rfl T4 rfl oz oz rfl) ?_;refine gs (vY (.tmp rfl) rfl (by rw[f7,i9,xq];omega) (.const _) rfl T4 rfl) ?_;refine ga aH ?_;exact aG J4 (q+1) hin (hw:=Wk.of aY (.k (.cons rfl (BlkSub.of (by rw[wL,xe hb])) (.k (.k (.k (.k .nil)))))))
  have hin:=be hq t83;subst hin;refine gs (cq (.tmp rfl) rfl (by rw[length_map]) (.tmp rfl) T32 rfl T53 rfl rfl (by simp only[length_cons,length_nil];omega) rfl rfl) ?_;refine gD ?_ (25,0);refine gW (Wk.of (sl:=[(5,some (.ptr 33 0)),(8,some (.ptr 8 0))]) (hp:=[(8,some (.box g.av.cells)),(33,some (.box (l.av.cells++[.ms 23 1 0 l.bo.length,.ms 27 1 0 l.bo.length,.ms 31 1 0 l.jo.length,.ms 100 4 0 (out++[g]).length]))),(100,some (.row 4 ((out++[g]).map Gr.av))),(23,some (.vec (bv (bm kw g.bo)))),(27,some (.vec (bv (bU l)))),(31,some (.vec (bv (je l (out++[g])))))]) aY (.k (.cons rfl (BlkSub.of (by rw[length_append];rfl)) (.cons rfl (BlkSub.of (by rw[map_append];rfl)) (.k (.k (.cons rfl (BlkSub.of (by rw[Sn,take_length])) .nil))))))) ?_ (25,0)
  refine gW (Wk.rk (k:=100) (d:=900) rfl rfl) ?_ (26,0);refine gW (Wk.o (sl:=[(5,some (.ptr 33 0)),(103,some (g.av))]) (hp:=[(33,some (n7 l (out++[g]).length)),(23,some (.vec (bv (bm kw g.bo)))),(27,some (.vec (bv (bU l)))),(31,some (.vec (bv (je l (out++[g]))))),(900,some (.row 4 ((out++[g]).map Gr.av)))])) ?_;refine gt (ay (BN l hl hli (bm kw g.bo) (je l (out++[g])) (by rw[i9];exact hk) (xq _ _) hm (out++[g])) (cI rfl) (by intro k z h;simp only[mG,aK]at h;split at h;(subst_vars;exact h);split at h;(subst_vars;exact h);split at h;(subst_vars;exact h);split at h;(subst_vars;exact h);split at h;(subst_vars;exact h);cases h) rfl rfl) ?_;exact fM J2 (bm kw g.bo) (out++[g]) ⟨by rw[i9];exact hk,OJ hli hk hf hg⟩ (tc hli hk hg)
 have hg:=x6 t59;obtain⟨e1,e2⟩:=Tp hf hg;subst e1 e2;refine gW (Wk.o (sl:=[(5,some (.ptr 33 0))]) (hp:=[(33,some (n7 l (cr l).length)),(23,some (.vec (bv (bM l)))),(27,some (.vec (bv (bU l)))),(31,some (.vec (bv (je l (cr l))))),(900,some (.row 4 ((cr l).map Gr.av)))])) ?_ (27,0);refine gW (Qh l (bM l) (je l (cr l)) (cr l) hk (xq _ _) hm) ?_;refine bj ?_;unfold pg;rw[if_pos hli,hli];rfl
theorem HJ{α:Type}[BEq α][LawfulBEq α]{xs:List α}{b:α}{ok:Nat->Bool}(h:∀i x,xs[i]?=some x->ok i=!(b==x)):decide (0<=mw (dG xs.length ok))=xs.contains b:=by
 cases hf:dG xs.length ok with
 |some i =>
  obtain⟨h1,h2⟩:=eU hf;obtain⟨x,hx⟩:=aw h1;rw[h i x hx]at h2;have:b=x:=by simpa using h2
  subst this;rw[List.contains_iff_mem.2 (mem_of_getElem? hx)];exact decide_eq_true (by show(0:Int)<=(i:Int);omega)
 |none =>
  rw[decide_eq_false (by show ¬(0:Int) <= -1;decide)]
  symm
  rw[<- Bool.not_eq_true,List.contains_iff_mem];intro hm;obtain⟨i,hi⟩:=List.mem_iff_getElem?.1 hm;have hlt:=(List.getElem?_eq_some_iff.1 hi).1;unfold dG at hf;rw[List.find?_eq_none]at hf;have:=hf i (List.mem_range.2 hlt);rw[h i b hi]at this;simp at this
theorem Ua(xs:List Bool)(b:Bool)(hl:xs.length<=281474976710656):FP 335 [.lst 1 (xs.map bl),bl b] (i64 (mw (dG xs.length (fun i=>!(b==xs.getD i false))))):=by
 refine af func335 ?_;refine gl ?_;refine aM [0,1,7] [] (fun(i:Nat)=>[(8,some (i64 i))]) (fun _=>[]) (fun i=>i<=xs.length/\∀j,j<i->(!(b==xs.getD j false))=true) (fun i=>xs.length-i) 0 ⟨zero_le _,fun j h=>by omega⟩ ?_;rintro i ⟨hi,hj⟩ K1 J1;refine gC (fun t9=>?_) (fun t9=>?_)
 ·have hin:=aW t9;obtain⟨x,hx⟩:=aw hin;have hg:xs.getD i false=x:=aD hx;refine gi (ax hx) ?_;refine gC (fun t16=>?_) (fun t16=>?_)
  ·have h2:(b==x)=true:=t16;refine ae ?_;rw[iK hin hj (by rw[hg,h2];rfl)];rfl
  have h2:(b==x)=false:=t16;refine ga aH ?_;exact aG J1 (i+1) ⟨hin,fun j h9=>by rcases lt_or_ge j i with g |g;exact hj j g;(have:j=i:=by omega);subst this;rw[hg,h2];rfl⟩
 have hin:=be hi t9;subst hin;refine ae ?_;rw[jl hj];rfl
theorem BI(xs:List Bool)(b:Bool)(hl:xs.length<=281474976710656):FP 239 [.lst 1 (xs.map bl),bl b] (bl (xs.contains b)):=by
 refine af func239 ?_;refine gc (Ua xs b hl) ?_;refine ae ?_;rw[<- HJ (xs:=xs) (b:=b) (ok:=fun i=>!(b==xs.getD i false)) (fun i x hx=>by rw[aD hx])];rfl
theorem J6(xs:List Int)(b:Int)(hl:xs.length<=281474976710656):FP 336 [.lst 1 (xs.map i64),i64 b] (i64 (mw (dG xs.length (fun i=>!(b==xs.getD i 0))))):=by
 refine af func336 ?_;refine gl ?_;refine aM [0,1,7] [] (fun(i:Nat)=>[(8,some (i64 i))]) (fun _=>[]) (fun i=>i<=xs.length/\∀j,j<i->(!(b==xs.getD j 0))=true) (fun i=>xs.length-i) 0 ⟨zero_le _,fun j h=>by omega⟩ ?_;rintro i ⟨hi,hj⟩ K1 J1;refine gC (fun t9=>?_) (fun t9=>?_)
 ·have hin:=aW t9;obtain⟨x,hx⟩:=aw hin;have hg:xs.getD i 0=x:=aD hx;refine gi (ax hx) ?_;refine gC (fun t16=>?_) (fun t16=>?_)
  ·have h2:(b==x)=true:=t16;refine ae ?_;rw[iK hin hj (by rw[hg,h2];rfl)];rfl
  have h2:(b==x)=false:=t16;refine ga aH ?_;exact aG J1 (i+1) ⟨hin,fun j h9=>by rcases lt_or_ge j i with g |g;exact hj j g;(have:j=i:=by omega);subst this;rw[hg,h2];rfl⟩
 have hin:=be hi t9;subst hin;refine ae ?_;rw[jl hj];rfl
theorem Gm(xs:List Int)(b:Int)(hl:xs.length<=281474976710656):FP 240 [.lst 1 (xs.map i64),i64 b] (bl (xs.contains b)):=by
 refine af func240 ?_;refine gc (J6 xs b hl) ?_;refine ae ?_;rw[<- HJ (xs:=xs) (b:=b) (ok:=fun i=>!(b==xs.getD i 0)) (fun i x hx=>by rw[aD hx])];rfl
theorem Ft(l:Li)(hl:l.ok):FP 135 [l.av] (.tup [.lst 4 (((if aB l=0 then aN l else[])).map Gr.av),bp (if aB l=0 then cm l else aB l)]):=by
 refine af func135 ?_;refine gc (PD l hl) (hnm:=(by unfold pg;split <;> rfl)) ?_;refine gC (fun t12=>?_) (fun t12=>?_) (st2:=(77777,0))
 ·have h1:=de t12;refine gR ?_;exact dp (by rw[if_neg h1,if_neg h1];exact Sub.tup (.cons (.nil _ _ _) (.cons (.refl _) .nil)))
 have hli:=cQ t12;have h8:=(cW hli).2.2.2.1;have hj16:l.jo.length<=16:=by have:=(cW hli).2.1;unfold eQ at this;split at this;cases this;omega
 have lk1:(bM l).length=l.bo.length:=by unfold bM;rw[pV,ia]
 have lk2:(d7 l).length=l.jo.length:=by unfold d7;rw[pV,length_replicate]
 have e1:pg l=.iptr (dN l (bM l) (bU l) [.lst 1 ((d7 l).map bl),.lst 4 ((cr l).map Gr.av)]):=by unfold pg;rw[if_pos hli]
 have c1:=vA (k:=bM l);have c2:=vA (k:=d7 l);refine gW (Wk.of (sl:=[(4,some (.iptr (dN l (bM l) (bU l) [.lst 1 ((d7 l).map bl),.lst 4 ((cr l).map Gr.av)]))),(5,some (bp (aB l)))]) (hp:=[]) (.cons rfl (Sub.of e1) (.k .nil)) .nil) ?_;refine gc (BI (bM l) false oz) ?_;refine bI (fun _=>(BI (d7 l) false oz)) ?_;refine gC (fun t25=>?_) (fun t25=>?_)
 ·have h2:cm l=7:=by
   unfold cm;rw[if_neg];intro h;have h3:(bM l).contains false=false:=c1.1 oz;have h4:(d7 l).contains false=false:=c2.1 oz;rw[h3,h4]at t25;cases t25
  refine gR ?_;exact dp (by rw[if_pos hli,if_pos hli];unfold aN;rw[if_neg (by rw[h2];simp),h2];exact Sub.tup (.cons (.nil _ _ _) (.cons (.refl _) .nil)))
 have h2:cm l=0:=by
  unfold cm;rw[if_pos];cases h3:(bM l).contains false <;> cases h4:(d7 l).contains false <;> rw[h3,h4]at t25 <;> first |(cases t25;done) |(have g1:=c1.2 h3;have g2:=c2.2 h4;omega)
 refine bj ?_;rw[if_pos hli,if_pos hli,h2];unfold aN;rw[if_pos h2];rfl
def SO(ys:List Int)(i:Nat):Prop:=∀p q,p<q->q<i->ys.getD p 0<=ys.getD q 0
def SI(ys:List Int)(i j:Nat):Prop:=∀p q,p<q->q<=i->q≠j->ys.getD p 0<=ys.getD q 0
theorem PP{xs ys:List Int}{i:Nat}(hp:ys.Perm xs)(hi:ys.length<=i)(h:SO ys i):ys=eA xs:=by
 refine LM hp (List.pairwise_iff_getElem.2 fun p q hp hq hpq=>?_);have h1:=h p q hpq oz;rw[aD (getElem?_eq_getElem hp),aD (getElem?_eq_getElem hq)]at h1;exact h1
theorem Tg{ys:List Int}{i:Nat}(h:SO ys i):SI ys i i:=fun p q h1 h2 h3=>h p q h1 oz
theorem RZ{ys:List Int}{i j:Nat}(h:SI ys i j)(hj:j=0\/ys.getD (j-1) 0<=ys.getD j 0):SO ys (i+1):=by
 intro p q h1 h2
 by_cases hq:q=j
 ·subst hq;rcases hj with hj |hj
  ·omega
  ·by_cases hp:p=q-1
   ·subst hp;exact hj
   ·exact Int.le_trans (h p (q-1) oz oz oz) hj
 ·exact h p q h1 oz hq
theorem Eb(ys:List Int)(i:Nat)(x:Int)(p:Nat)(hi:i<ys.length):(ys.set i x).getD p 0=if p=i then x else ys.getD p 0:=by
 rw[getD_eq_getElem?_getD,getD_eq_getElem?_getD,List.getElem?_set]
 by_cases h:i=p
 ·subst h;simp[hi]
 ·rw[if_neg h,if_neg (fun e=>h e.symm)]
theorem Pv{ys:List Int}{i j:Nat}(h:SI ys i j)(hj:0<j)(hi:j<=i)(hl:i<ys.length)(hlt:ys.getD j 0<ys.getD (j-1) 0):SI ((ys.set j (ys.getD (j-1) 0)).set (j-1) (ys.getD j 0)) i (j-1):=by
 intro p q h1 h2 h3
 have e:∀r,((ys.set j (ys.getD (j-1) 0)).set (j-1) (ys.getD j 0)).getD r 0=if r=j-1 then ys.getD j 0 else if r=j then ys.getD (j-1) 0 else ys.getD r 0:=fun r=>by
  rw[Eb _ _ _ _ (by rw[length_set];omega),Eb _ _ _ _ oz]
 rw[e,e,if_neg h3]
 by_cases hq:q=j
 ·rw[if_pos hq]
  by_cases hp:p=j-1
  ·rw[if_pos hp];omega
  ·rw[if_neg hp,if_neg oz];exact h p (j-1) oz oz oz
 ·rw[if_neg hq]
  by_cases hp:p=j-1
  ·rw[if_pos hp];exact h j q oz h2 hq
  ·rw[if_neg hp]
   by_cases hp2:p=j
   ·rw[if_pos hp2];exact h (j-1) q oz h2 hq
   ·rw[if_neg hp2];exact h p q h1 h2 hq
theorem Ou{ys:List Int}{j:Nat}{a b:Int}(ha:ys[j]?=some a)(hb:ys[j-1]?=some b):((ys.set j b).set (j-1) a).Perm ys:=by
 obtain⟨h1,rfl⟩:=List.getElem?_eq_some_iff.1 ha;obtain⟨h2,rfl⟩:=List.getElem?_eq_some_iff.1 hb;exact List.set_set_perm h1 h2
theorem NA{j:Nat}{a b:Int}(h:cond (aa .gtr (j:Int) 0) (decide (a<b)) false=true):0<j/\a<b:=by
 cases h1:aa .gtr (j:Int) 0 <;> rw[h1]at h
 ·cases h
 ·exact⟨jC (b:=0) h1,of_decide_eq_true h⟩
theorem OH{j:Nat}{a b:Int}(h:cond (aa .gtr (j:Int) 0) (decide (a<b)) false=false):j=0\/b<=a:=by
 cases h1:aa .gtr (j:Int) 0 <;> rw[h1]at h
 ·have:=gP (b:=0) h1;omega
 ·have h2:decide (a<b)=false:=h;have:=of_decide_eq_false h2;omega
theorem Ra(ys:List Int)(j:Nat)(a b:Int):((ys.map i64).set j (i64 b)).set (j-1) (i64 a)=((ys.set j b).set (j-1) a).map i64:=by rw[map_set,map_set]
theorem E5(a:Int):FP 387 [i64 a] (bl false):=by
 refine af func387 ?_;refine ae ?_;simp[aa];rfl
theorem Oc(a b:Int):FP 343 [i64 a,i64 b] (bl (decide (a<b))):=by
 refine af func343 ?_;refine gc (E5 a) ?_;refine bI (fun _=>(E5 b)) ?_;refine ae ?_
 first |rfl |(simp;done)
theorem QR(xs:List Int)(hl:xs.length<=12):Con prog 337 [.ms 1000 1 0 xs.length,i64 0,i64 xs.length] [(1000,some (.row 1 (xs.map i64)))] (.tup []) [(1000,some (.row 1 ((eA xs).map i64)))]:=by
 refine gF func337 (fun k z h=>bq h) ?_;refine ga (show _=((1:Nat):Int)from rfl) ?_;refine gz [1,2] [] (fun(ys:List Int)(i:Nat)=>[(0,some (.ms 1000 1 0 xs.length)),(6,some (i64 i))]) (fun ys _=>[(1000,some (.row 1 (ys.map i64)))]) (fun ys i=>ys.length=xs.length/\ys.Perm xs/\1<=i/\SO ys i) (fun _ i=>xs.length+1-i) xs 1 ⟨rfl,.refl _,le_refl _,fun p q h1 h2=>by omega⟩ ?_;rintro ys i ⟨hyl,hyp,hi1,hso⟩ K1 J1;refine gC (fun t12=>?_) (fun t12=>?_)
 ·have hin:=aW t12;refine gz [1,2,6] [] (fun (zs:List Int) (j:Nat)=>[(0,some (.ms 1000 1 0 xs.length)),(7,some (i64 j))]) (fun zs _=>[(1000,some (.row 1 (zs.map i64)))]) (fun zs j=>zs.length = xs.length /\ zs.Perm xs /\ j <= i /\ SI zs i j) (fun _ j=>j) ys i ⟨hyl,hyp,le_refl _,Tg hso⟩ ?_;rintro zs j ⟨hzl,hzp,hji,hsi⟩ K2 J2;obtain ⟨a,ha⟩:=aw (show j < zs.length by omega);obtain ⟨b,hb⟩:=aw (show j - 1 < zs.length by omega);refine gs (er rfl rfl rfl (fun h=>bR (n:=j) (.opt rfl (o1 h)) (.opt rfl (o1 h)) T39 rfl T3 rfl oz oz rfl)) ?_;refine gs (er rfl rfl rfl (fun h=>d6 (.opt rfl (o1 h)) rfl (ax ha) T3 rfl rfl rfl)) ?_;refine om (fun h=>(iZ (jC (b:=0) h) (by unfold aS; omega))) ?_;refine gs (er rfl rfl rfl (fun h=>bR (n:=(j - 1)) (.opt rfl (o1 h)) (.opt rfl (o1 h)) T39 rfl T3 rfl oz oz rfl)) ?_;refine gs (er rfl rfl rfl (fun h=>d6 (.opt rfl (o1 h)) rfl (ax hb) T3 rfl rfl rfl)) ?_;refine bI (fun _=>(Oc a b)) ?_;refine gD ?_;refine gC (fun t30=>?_) (fun t30=>?_)
  ·obtain⟨hj0,hab⟩:=NA t30;refine ga (iZ hj0 (by unfold aS;omega)) ?_;refine ga (iZ hj0 (by unfold aS;omega)) ?_;refine gs (bR (n:=(j-1)) (.tmp rfl) (.tmp rfl) T39 rfl T3 rfl oz oz rfl) ?_;refine gs (d6 (.tmp rfl) rfl (ax hb) T3 rfl rfl rfl) ?_;refine gs (bR (n:=j) (.tmp rfl) (.tmp rfl) T39 rfl T3 rfl oz oz rfl) ?_;refine gs (d6 (.tmp rfl) rfl (ax ha) T3 rfl rfl rfl) ?_;refine gs (bR (n:=j) (.tmp rfl) (.tmp rfl) T39 rfl T3 rfl oz oz rfl) ?_;refine gs (dF (.tmp rfl) rfl (ax ha) rfl (.tmp rfl) rfl rfl T3 rfl rfl) ?_;refine gs (bR (n:=(j-1)) (.tmp rfl) (.tmp rfl) T39 rfl T3 rfl oz oz rfl) ?_;refine gs (dF (.tmp rfl) rfl ((List.getElem?_set_ne oz).trans (ax hb)) rfl (.tmp rfl) rfl rfl T3 rfl rfl) ?_;refine gD ?_;refine ga (iZ hj0 (by unfold aS;omega)) ?_;exact fM J2 ((zs.set j b).set (j-1) a) (j-1) ⟨by rw[length_set,length_set];exact hzl,(Ou ha hb).trans hzp,by omega,by have h9:=Pv hsi hj0 hji oz (by rw[aD ha,aD hb];exact hab);rw[aD ha,aD hb]at h9;exact h9⟩ (hw:=Wk.of aY (.cons rfl (BlkSub.of (congrArg (Blk.row 1) (Ra zs j a b))) .nil))
  have hs:=OH t30;refine ga aH ?_;exact fM J1 zs (i+1) ⟨hzl,hzp,by omega,RZ hsi (by rw[aD ha,aD hb];exact hs)⟩
 have hin:=rP t12;refine gR ?_;exact ao.own2 rfl (by rw[<- PP hyp oz hso]) rfl
theorem PC(xs:List Int)(hl:xs.length<=12)(m:Int):Con prog 241 [.ms 1000 1 0 xs.length,i64 0,i64 xs.length,i64 m] [(1000,some (.row 1 (xs.map i64)))] (.tup []) [(1000,some (.row 1 ((eA xs).map i64)))]:=by
 refine gF func241 (fun k z h=>bq h) ?_;refine OW [1,2,3,8,9] [1000] [(0,some (.ms 1000 1 0 xs.length))] [] (True) (0) trivial ?_;rintro-K1 J1;refine ga (dB oz) ?_;refine gC (fun t23=>?_) (fun t23=>?_) (st2:=(77777,0))
 ·refine gt (ay (QR xs hl) (az rfl rfl rfl) aE rfl rfl) ?_;refine gR ?_;exact ao.own2 rfl rfl rfl
 (rw[show aa .leq ((xs.length:Int)-0) 12=true from decide_eq_true oz]at t23;cases t23)
theorem M3(x:Nat)(hx:x<256):FP 347 [u64 x] (i64 (aZ x)):=by
 refine af func347 ?_;refine gC (fun t4=>?_) (fun t4=>?_) (st1:=(2,0))
 ·(have:=t4;simp[aa]at this;omega)
 refine gC (fun t8=>?_) (fun t8=>?_) (st1:=(5,0))
 ·(have:=t8;simp[aa]at this;omega)
 refine gC (fun t14=>?_) (fun t14=>?_) (st1:=(8,0))
 ·(have:=t14;simp[aa]at this;omega)
 refine gv (jz hx) ?_;refine gs (rm (y:=x) (.const _) (.tmp rfl) T9 rfl (by kernel_rfl) (by first |rfl |omega) oz rfl) ?_;refine gv (i64_in (by have:=iX hx;omega)) ?_;refine ga (cU (by have:=iX hx;omega)) ?_;refine ae ?_;simp only[i64];congr 2;omega
theorem MN(x:Nat)(hx:x<256):FP 242 [u64 x] (i64 (aZ x)):=by
 refine af func242 ?_;refine gC (fun hcfalse=>?_) (fun hcfalse=>?_) (st1:=(1,0));cases hcfalse;refine gc (M3 x hx) ?_;refine ae ?_
 first |rfl |(simp;done)
theorem P3(xs:List Int)(hl:xs.length<=12):Con prog 137 [.ms 1000 1 0 xs.length] [(1000,some (.row 1 (xs.map i64)))] (.tup []) [(1000,some (.row 1 ((eA xs).map i64)))]:=by
 refine gF func137 (fun k z h=>bq h) ?_;refine gv (show IntKind.u64.wrap _=((xs.length:Nat):Int)from u64_in oz) ?_;refine gc (MN xs.length oz) ?_;refine gt (ay (PC xs hl _) (.cons (.tmp rfl) (.cons (.const _) (bB rfl rfl))) aE rfl rfl) ?_;refine gR ?_;exact ao.own2 rfl rfl rfl
theorem TY{l:Li}{g:Gr}{i:Nat}{z:Int}{j:Jt}(hz:g.jo[i]?=some z)(hj:l.jo[z.toNat]?=some j):(fB l g)[i]?=some (jv g j):=by
 unfold fB;rw[getElem?_map,hz,Option.map_some,aD hj]
theorem xV{l:Li}{g:Gr}{i:Nat}{z:Int}{j:Jt}{a:Int}(hz:g.jo[i]?=some z)(hj:l.jo[z.toNat]?=some j)(ha:jv g j=a):((fB l g).take i).map i64++[i64 a]=((fB l g).take (i+1)).map i64:=by
 rw[dl (TY hz hj),ha,map_append];rfl
theorem JV{z:Int}{n:Nat}(h0:0<=z)(h1:z<n):cond (aa .lss z 0) true (aa .geq z (n:Int))=false:=by
 rw[show aa .lss z 0=false from decide_eq_false oz];exact decide_eq_false oz
theorem Te(l:Li)(hl:l.ok)(hli:aB l=0)(g:Gr)(hg:GrOk l g):Con prog 136 [l.av,g.av] [] (.tup [.ms 900 1 0 g.jo.length,.v .nilIface]) [(900,some (.row 1 ((fB l g).map i64)))]:=by
 have hlb:=hg.lb;have hlj:=hg.lj;refine gF func136 (fun k z h=>by cases h) ?_;refine gc (Ga l hl) ?_;refine gC (fun t16=>?_) (fun t16=>?_) (st1:=(3,0))
 ·(rw[hli]at t16;cases t16)
 refine gl ?_;refine gW ((Wk.virt 900 1 rfl).trans<|Wk.of (sl:=[(2,some (.ptr 2 0)),(3,some (.ptr 3 0)),(7,some (.ms 900 1 0 0)),(19,some (.lst 1 (g.jo.map i64))),(20,some (i64 g.jo.length)),(21,some (i64 0))]) (hp:=[(2,some (.box l.av.cells)),(3,some (.box g.av.cells)),(900,some (.row 1 []))]) (.k (.k (.cons rfl (Sub.nM _ _ _) (.k (.k (.k .nil)))))) (.k (.k (.k .nil)))) ?_;refine aM [2,3,19,20] [2,3] (fun(i:Nat)=>[(7,some (.ms 900 1 0 i)),(21,some (i64 i))]) (fun i=>[(900,some (.row 1 (((fB l g).take i).map i64)))]) (fun i=>i<=g.jo.length) (fun i=>g.jo.length-i) 0 (zero_le _) ?_;rintro i hi K1 J1;refine gC (fun t22=>?_) (fun t22=>?_) (st2:=(18,0))
 ·have hin:=aW t22;obtain ⟨z,hz⟩:=aw hin;obtain ⟨z0,z1⟩:=hg.j z (mem_of_getElem? hz);obtain ⟨j,hj⟩:∃ j,l.jo[z.toNat]? = some j:=aw oz;have hlt:(((fB l g).take i).map i64).length = i:=by rw [length_map,length_take,o0]; omega
  refine gi (ax hz) ?_;refine ci ?_;refine gC (fun t33=>?_) (fun t33=>?_) (st1:=(9,0))
  ·(rw[JV z0 z1]at t33;cases t33)
  refine gi (ir (n:=z.toNat) oz hj) ?_;refine gc (Gm g.bo j.a oz) ?_;refine gc (Gm g.bo j.b oz) ?_;refine gD ?_;refine gC (fun t55=>?_) (fun t55=>?_)
  ·have ha : jv g j = -1 := by unfold jv; cases h1 : g.bo.contains j.a <;> cases h2 : g.bo.contains j.b <;> rw [h1, h2] at t55 <;> first | (cases t55; done) | rfl
   refine gs (cq (.tmp rfl) rfl hlt.symm (.tmp rfl) T39 rfl T3 rfl rfl (by simp only[length_cons,length_nil];omega) rfl rfl) ?_ (17,0);refine gW (Wk.of (sl:=[(2,some (.ptr 2 0)),(3,some (.ptr 3 0)),(7,some (.ms 62 1 0 (i+1))),(19,some (.lst 1 (g.jo.map i64))),(20,some (i64 g.jo.length)),(21,some (i64 i))]) (hp:=[(2,some (.box l.av.cells)),(3,some (.box g.av.cells)),(62,some (.row 1 (((fB l g).take (i+1)).map i64)))]) aY (.k (.k (.cons rfl (BlkSub.of (congrArg (Blk.row 1) (xV hz hj ha))) .nil)))) ?_ (17,0);refine gW (Wk.rk (k:=62) (d:=900) rfl rfl) ?_;refine ga aH ?_;exact aG J1 (i+1) hin
  refine gC (fun t63=>?_) (fun t63=>?_)
  ·have ha : jv g j = j.b := by unfold jv; cases h1 : g.bo.contains j.a <;> cases h2 : g.bo.contains j.b <;> rw [h1] at t63 <;> rw [h1, h2] at t55 <;> first | (cases t55; done) | (cases t63; done) | rfl
   refine gs (cq (.tmp rfl) rfl hlt.symm (.tmp rfl) T39 rfl T3 rfl rfl (by simp only[length_cons,length_nil];omega) rfl rfl) ?_ (17,0);refine gW (Wk.of (sl:=[(2,some (.ptr 2 0)),(3,some (.ptr 3 0)),(7,some (.ms 69 1 0 (i+1))),(19,some (.lst 1 (g.jo.map i64))),(20,some (i64 g.jo.length)),(21,some (i64 i))]) (hp:=[(2,some (.box l.av.cells)),(3,some (.box g.av.cells)),(69,some (.row 1 (((fB l g).take (i+1)).map i64)))]) aY (.k (.k (.cons rfl (BlkSub.of (congrArg (Blk.row 1) (xV hz hj ha))) .nil)))) ?_ (17,0);refine gW (Wk.rk (k:=69) (d:=900) rfl rfl) ?_;refine ga aH ?_;exact aG J1 (i+1) hin
  have ha:jv g j=j.a:=by unfold jv;rw[if_neg (by rw[show g.bo.contains j.a=false from t63];simp)]
  refine gs (cq (.tmp rfl) rfl hlt.symm (.tmp rfl) T39 rfl T3 rfl rfl (by simp only[length_cons,length_nil];omega) rfl rfl) ?_ (17,0);refine gW (Wk.of (sl:=[(2,some (.ptr 2 0)),(3,some (.ptr 3 0)),(7,some (.ms 54 1 0 (i+1))),(19,some (.lst 1 (g.jo.map i64))),(20,some (i64 g.jo.length)),(21,some (i64 i))]) (hp:=[(2,some (.box l.av.cells)),(3,some (.box g.av.cells)),(54,some (.row 1 (((fB l g).take (i+1)).map i64)))]) aY (.k (.k (.cons rfl (BlkSub.of (congrArg (Blk.row 1) (xV hz hj ha))) .nil)))) ?_ (17,0);refine gW (Wk.rk (k:=54) (d:=900) rfl rfl) ?_;refine ga aH ?_;exact aG J1 (i+1) hin
 have hin:=be hi t22;subst hin;refine gW (Wk.of (sl:=[(7,some (.ms 900 1 0 g.jo.length))]) (hp:=[(900,some (.row 1 ((fB l g).map i64)))]) aY (.cons rfl (BlkSub.of (by rw[take_of_length_le (by rw[o0];exact le_refl _)])) .nil)) ?_;refine gR ?_;exact ao.keep (bb rfl)
theorem Pr{b:List Rt}{rs:List (List Rt)}{e:Nat}(hb:NR b e)(hn:bN rs.length b=0)(h5:rs.length<=5):Nm rs.length e (lq b):=⟨h5,(hb.num hn).2,hb.cb⟩
theorem KW(x y:Rt)(hx:x.ok)(hy:y.ok)(qx:Qs x.q)(qy:Qs y.q):FP 54 [x.av,y.av] (aA (sh 0 (x.q:Rat)) (sh 0 (y.q:Rat))):=by
 refine af func54 ?_;refine gc (yI x hx qx) ?_;refine gc (yI y hy qy) ?_;refine gD ?_;refine ae ?_
 first |rfl |(simp;done)
theorem UQ(rs:List (List Rt))(r e:Nat)(h:TR rs r)(xs:List (List Rt))(hx:∀a∈xs,NR a e)(he:e<=lm rs.length)(hl:xs.length<=1000):FP 177 [cf rs,.lst 1 (xs.map nR)] (bp (aV rs xs)):=by
 refine af func177 ?_;refine gc (oK rs r h) ?_;refine gC (fun t13=>?_) (fun t13=>?_)
 ·have h1:=de t13;refine ae ?_;rw[vE h1]
 have h1:=cQ t13;refine gl ?_;refine aM [2,15,16] [2] (fun(i:Nat)=>[(17,some (i64 i))]) (fun _=>[]) (fun i=>i<=xs.length/\∀x∈xs.take i,bN rs.length x=0) (fun i=>xs.length-i) 0 ⟨zero_le _,fun x hx=>by simp at hx⟩ ?_;rintro i ⟨hi,hj⟩ K1 J1;refine gC (fun t18=>?_) (fun t18=>?_)
 ·have hin : i < xs.length := by simpa [aa] using t18
  obtain⟨a,ha⟩:=aw hin;have hok:=hx a (mem_of_getElem? ha);have hone:aV rs [a]=bN rs.length a:=AI h1;refine gi (ax ha) ?_;refine gc (xz rs r h a e hok he) ?_;refine gC (fun t28=>?_) (fun t28=>?_)
  ·have h2:=de t28;refine ae ?_;rw[hone]at h2 ⊢;rw[sC h1 ha hj h2]
  have h2:=cQ t28;rw[hone]at h2;refine ga aH ?_;exact aG J1 (i+1) ⟨hin,fun x hx=>by rw[dl ha]at hx;rcases List.mem_append.1 hx with h9 |h9;exact hj x h9;(rw[List.mem_singleton.1 h9];exact h2)⟩
 have hin:i=xs.length:=by have:xs.length<=i:=(by simpa[aa]using t18);omega
 subst hin;rw[take_length]at hj;refine ae ?_;rw[n8 h1 hj];rfl
def zL(rs:List (List Rt))(b:Pl)(x y:Rt):List Rat:=sh (llq rs).length (pN (llq rs) (ad (llq rs).length (lq b.c)) (ad (llq rs).length (lq b.s)) (ad (llq rs).length (lq b.x)) x.q y.q)
def xT(rs:List (List Rt))(b:Pl)(x y:Rt):List Rat:=sh (llq rs).length (qB (llq rs) (ad (llq rs).length (lq b.c)) (ad (llq rs).length (lq b.s)) (ad (llq rs).length (lq b.y)) x.q y.q)
theorem yR(rs:List (List Rt)):(llq rs).length=rs.length:=by simp[llq]
structure PlN(rs:List (List Rt))(b:Pl)(e:Nat):Prop where
  c:Nm (llq rs).length e (lq b.c)
  s:Nm (llq rs).length e (lq b.s)
  x:Nm (llq rs).length e (lq b.x)
  y:Nm (llq rs).length e (lq b.y)
  av:b.av=.agg [nA (lq b.c),nA (lq b.s),nA (lq b.x),nA (lq b.y)]
theorem Jf{rs:List (List Rt)}{b:Pl}{e r:Nat}(h:TR rs r)(hb:∀x∈b.l,NR x e)(hc:aV rs b.l=0):PlN rs b e:=by
 obtain⟨h1,h2⟩:=jw hc;obtain⟨tw,_⟩:=cA h h1;have h5:rs.length<=5:=by have:=tw.five;rwa [yR]at this
 have k:∀x∈b.l,Nm (llq rs).length e (lq x)/\nR x=nA (lq x):=fun x hx=>by
  rw[yR];exact⟨Pr (hb x hx) (h2 x hx) h5,((hb x hx).num (h2 x hx)).1⟩
 have k1:=k b.c (by simp[Pl.l]);have k2:=k b.s (by simp[Pl.l]);have k3:=k b.x (by simp[Pl.l]);have k4:=k b.y (by simp[Pl.l]);exact⟨k1.1,k2.1,k3.1,k4.1,by unfold Pl.av;rw[k1.2,k2.2,k3.2,k4.2]⟩
theorem NX(rs:List (List Rt))(r e:Nat)(h:TR rs r)(h1:a9 rs=0)(b:Pl)(hb:∀x∈b.l,NR x e)(x y:Rt)(hx:x.ok)(hy:y.ok)(qx:Qb e x.q)(qy:Qb e y.q)(he:8*e+4*kB r rs.length+4<=lm rs.length) :
  FP 86 [cf rs,b.av,x.av,y.av] (.tup [aA (if aV rs b.l=0 then zL rs b x y else[]) (if aV rs b.l=0 then xT rs b x y else[]),bp (aV rs b.l)]):=by
 have hlm:=fS rs.length;have hbl:[b.c,b.s,b.x,b.y]=b.l:=rfl;refine af func86 ?_;refine gc (UQ rs r e h b.l hb oz (by simp[Pl.l])) ?_;refine gC (fun t25=>?_) (fun t25=>?_)
 ·have h2:=de t25;refine gR ?_;exact dp (by rw[if_neg h2,if_neg h2];exact Sub.tup (.cons (Sub.agg (.cons (.nil _ _ _) (.cons (.nil _ _ _) .nil)) rfl) (.cons (.refl _) .nil)))
 have h2:=cQ t25;obtain⟨tw,etw⟩:=cA h h1;have pn:=Jf h hb h2;have ec:nR b.c=nA (lq b.c):=by have:=pn.av;unfold Pl.av at this;simp only[AV.agg.injEq,List.cons.injEq]at this;exact this.1
 have es:nR b.s=nA (lq b.s):=by have:=pn.av;unfold Pl.av at this;simp only[AV.agg.injEq,List.cons.injEq]at this;exact this.2.1
 have ex:nR b.x=nA (lq b.x):=by have:=pn.av;unfold Pl.av at this;simp only[AV.agg.injEq,List.cons.injEq]at this;exact this.2.2.1
 have ey:nR b.y=nA (lq b.y):=by have:=pn.av;unfold Pl.av at this;simp only[AV.agg.injEq,List.cons.injEq]at this;exact this.2.2.2.1
 have etl:(AV.lst 1 (rs.map nR))=.lst 1 ((llq rs).map nA):=kq etw;rw[ec,es,ex,ey,etl];rw[<- yR rs]at he;have nx:=Nm.ofQ pn.c.five (Cb.one qx);have ny:=Nm.ofQ pn.c.five (Cb.one qy);have nX:=qK tw pn.c pn.s nx ny;have nY:=pX tw pn.c pn.s nx ny;have z1:e<=2*(e+e+kB r (llq rs).length)+1:=by omega
 have z2:2*(2*(e+e+kB r (llq rs).length)+1)<=lm (llq rs).length:=Ar he;have hadd:=FZ tw nX nY (pn.x.mono z1) (pn.y.mono z1) z2;have hlm2:=fS (llq rs).length;refine gc (KW x y hx hy (qx.qs oz) (qy.qs oz)) ?_;refine gc (xl tw pn.c pn.s nx ny oz) ?_;refine gD ?_;refine gC (fun t41=>?_) (fun t41=>?_) (st1:=(6,0));cases t41;refine gc hadd ?_;refine bj ?_;rw[if_pos h2,if_pos h2,h2,rN,sI];rfl
section
variable{ts:LL}{u k:Nat}{a b a2 b2:List Rat}{x y x2 y2:Et ts}{w v w' v' w2 v2 w3 v3:Nat}
theorem xj(c:Ct ts u k)(h:w+v+(w'+v')<=10000):w*u+v*k+(w'*u+v'*k)+1<=lm ts.length:=by
 have h1:=DZ c (w:=w+w') (v:=v+v') (m:=10000) oz;have h2:=km ts.length;rw[wD];omega
theorem HZ(c:Ct ts u k){R:Nat}(h:eB R ts.length<=k):2*(2500*1000000+2500*1000000+kB R ts.length)<=lm ts.length:=by
 have h1:=c.kk h;have h2:=km ts.length;omega
theorem SV [c : Ct ts u k] [ha : Zl ts u k a x w v] [hb : Zl ts u k b y w' v'] (h : w + v + (w' + v') <= 10000 := by decide) : FP 329 [aI ts, nA a, nA b] (.tup [nA (sX (x + y)), .v .nilIface]) := by
 obtain⟨R,tw,hk⟩:=c.ex;have h0:=xj c h;have h1:=xG tw ha.nm hb.nm oz;rw[ha.eq,hb.eq]at h1;exact h1
theorem HB [c : Ct ts u k] [ha : Zl ts u k a x w v] [hb : Zl ts u k b y w' v'] (h : w + v + (w' + v') <= 10000 := by decide) : FP 163 [aI ts, nA a, nA b] (.tup [nA (sX (x - y)), .v .nilIface]) := by
 obtain⟨R,tw,hk⟩:=c.ex;have h0:=xj c h;have h1:=oO tw ha.nm hb.nm oz;rw[ha.eq,hb.eq]at h1;exact h1
theorem Hy [c : Ct ts u k] [ha : Zl ts u k a x w v] [hb : Zl ts u k b y w' v'] (h : w + v + (w' + v') <= 10000 := by decide) : FP 164 [aI ts, nA a, nA b] (.tup [nA (sX (x * y)), .v .nilIface]) := by
 obtain⟨R,tw,hk⟩:=c.ex;have h0:=xj c h;have h1:=AK tw ha.nm hb.nm oz;rw[ha.eq,hb.eq]at h1;exact h1
theorem Rb [c : Ct ts u k] [ha : Zl ts u k a x w v] [hb : Zl ts u k b y w' v'] [ha2 : Zl ts u k a2 x2 w2 v2] [hb2 : Zl ts u k b2 y2 w3 v3] (h : w + v + (w' + v') + (w2 + v2 + (w3 + v3)) <= 2500 := by decide) :
  FP 77 [aI ts,aA a b,aA a2 b2] (.tup [nA (sX (dotE x y x2 y2)),.v .nilIface]):=by
 obtain⟨R,tw,hk⟩:=c.ex;have h0:=HZ c hk;have h1:=wX (e:=2500*1000000) tw (ha.up c oz) (hb.up c oz) (ha2.up c oz) (hb2.up c oz) oz;rw[ha.eq,hb.eq,ha2.eq,hb2.eq]at h1;exact h1
def atXE(c s X:Et ts)(p q:Rat):Et ts:=(c*qE p-s*qE q)+X
def atYE(c s Y:Et ts)(p q:Rat):Et ts:=(s*qE p+c*qE q)+Y
instance Zu.atXE[c:Ct ts u k]{x y z:Et ts}{p q:Rat}{w1 v1 w2 v2 w3 v3 w4 w5:Nat}[Zu u k x w1 v1][Zu u k y w2 v2][Zu u k z w3 v3][Qz u p w4][Qz u q w5]:Zu u k (atXE x y z p q) (w1+w4+(w2+w5)+w3) (v1+0+1+(v2+0+1)+1+v3+1) :=
  (inferInstance:Zu u k ((x*Lw.qE p-y*Lw.qE q)+z) _ _)
instance Zu.atYE[c:Ct ts u k]{x y z:Et ts}{p q:Rat}{w1 v1 w2 v2 w3 v3 w4 w5:Nat}[Zu u k x w1 v1][Zu u k y w2 v2][Zu u k z w3 v3][Qz u p w4][Qz u q w5]:Zu u k (atYE x y z p q) (w2+w4+(w1+w5)+w3) (v2+0+1+(v1+0+1)+1+v3+1) :=
  (inferInstance:Zu u k ((y*Lw.qE p+x*Lw.qE q)+z) _ _)
end
abbrev NU(l:Li)(g:Gr)(a:As):List AV:=[.v (.string l.name),.lst 2 (l.bo.map Bd.av),.lst 7 (l.jo.map Jt.av),.lst 2 (l.dv.map Dr.av),i64 g.kind,.lst 1 (g.bo.map i64),.lst 1 (g.jo.map i64),i64 g.driver,
  .lst 1 (a.rs.map nR),.lst 4 (a.bs.map Pl.av),.lst 1 (a.ms.map i64),.v .nilIface]
abbrev cC(l:Li)(g:Gr)(a:As):Blk:=.box (NU l g a)
def tD(e:Nat):AV:=if e=0 then .ptr 900 0 else .v (.pointer none)
def Fe(e:Nat)(l:Li)(g:Gr)(a:As):Hp:=if e=0 then[(900,some (cC l g a))]else[]
theorem kZ{e:Nat}(h:e≠0):tD e=.v (.pointer none):=if_neg h
theorem p4{e:Nat}{l:Li}{g:Gr}{a:As}(h:e≠0):Fe e l g a=[]:=if_neg h
theorem CD(l:Li)(g:Gr):cK l g true=fB l g++g.bo:=rfl
theorem B7(l:Li)(g:Gr):cK l g false=fB l g:=by unfold cK;simp
theorem R5{rs:List (List Rt)}{b:Pl}{i:Nat}{x:List Rt}(h:a9 rs=0)(hx:b.l[i]?=some x)(hb:∀y∈b.l.take i,bN rs.length y=0)(hn:bN rs.length x≠0):aV rs b.l=bN rs.length x:=sC h hx hb hn
theorem NB{l:Li}{g:Gr}{a:As}{own:Bool}{j:Nat}{b:Int}(hb:(eA (cK l g own))[j]?=some b)(hj:∀c∈(eA (cK l g own)).take j,gf a c=0)(hn:gf a b≠0):eF ((eA (cK l g own)).map (gf a))=gf a b:=by
 have h1:eA (cK l g own)=(eA (cK l g own)).take j++b::(eA (cK l g own)).drop (j+1):=by
  obtain⟨hi,e⟩:=List.getElem?_eq_some_iff.1 hb;rw[<- e,<- List.drop_eq_getElem_cons hi,List.take_append_drop]
 generalize eA (cK l g own)=xs at *;rw[h1,map_append,tG _ _ (oA hj),map_cons,EY,if_pos hn]
theorem Mz(l:Li)(hl:l.ok)(k:Int)(a:As)(al:AB a)(own:Bool) :
  Con prog 61 [l.av,i64 k,a.av,bl own] [] (.tup [tD (fC l k a own),bp (fC l k a own)]) (Fe (fC l k a own) l (ja l k) a):=by
 have hbl:=al.bl;refine gF func61 (fun k z h=>by cases h) ?_;refine gc (Ft l hl) ?_;refine gC (fun t27=>?_) (fun t27=>?_)
 ·have h1:=de t27;refine gR ?_;rw[OY rfl h1,kZ h1,p4 h1];exact lT rfl
 have h1:=cQ t27;obtain⟨hli,hsp⟩:=B8 h1;rw[show(if aB l=0 then aN l else[])=aN l from if_pos hli];have hbs:=(cW hli).2.2.2.1;have hgl:=(rL hli).2;have hsg:aN l=cr l:=by unfold aN;rw[if_pos hsp]
 refine ci ?_;refine gC (fun t36=>?_) (fun t36=>?_)
 ·have h2:=G5 t36;have he:fC l k a own=9:=(qj hli).trans (KR hsp h2);refine gR ?_;rw[he,kZ (by decide),p4 (by decide)];exact lT rfl
 have h2:=Gu t36;refine gl ?_;refine gl ?_;refine gC (fun t44=>?_) (fun t44=>?_)
 ·have h3:=yt t44;have he:fC l k a own=10:=(qj hli).trans (UA hsp h2 h3);refine gR ?_;rw[he,kZ (by decide),p4 (by decide)];exact lT rfl
 have h3:=y7 t44;refine gc (oK a.rs 400000000 al.tr) ?_;refine gC (fun t50=>?_) (fun t50=>?_)
 ·have h4:=de t50;refine gR ?_;rw[(qj hli).trans (Tr hsp h2 h3 h4),kZ h4,p4 h4];exact lT rfl
 have h4:=cQ t50;obtain⟨i,rfl,hi⟩:=D4 h2;obtain⟨g,hg⟩:=aw hi;obtain⟨hgd,hgo⟩:=tL hli (mem_of_getElem? hg);have hgA:ja l (i:Nat)=g:=aD hg;rw[hgA];have he5:fC l (i:Nat) a own=eF ((eA (cK l g own)).map (gf a)):=by rw[<- hgA];exact(qj hli).trans (EB hsp h2 h3 h4)
 have hnl:(cK l g own).length<=5:=Pe hgo;have hgb:=hgo.lb;have hgj:=hgo.lj;refine gi (ax hg) ?_;refine gt (ay (Te l hl hli g hgo) (bB rfl rfl) aE rfl rfl) ?_;refine gD ?_;refine gC (fun t62=>?_) (fun t62=>?_) (st1:=(13,0));cases t62;refine Dw [1,4,6,10] [4,6] [(13,some (.ms 900 1 0 (cK l g own).length))] [(900,some (.row 1 ((cK l g own).map i64)))] (True) ?_ ?_
 ·intro K1 J1;refine gC (fun t64=>?_) (fun t64=>?_)
  ·have ho:own=true:=t64;subst ho;refine gi (ax hg) ?_;refine gs (cq (.tmp rfl) rfl (by rw[length_map,o0]) (.tmp rfl) T39 rfl T3 rfl rfl (by simp only[length_map];omega) rfl rfl) ?_;exact wn J1 trivial (hw:=(Wk.of (sl:=[(1,some (i64 i)),(4,some (.ptr 4 0)),(6,some (.ptr 6 0)),(10,some (.lst 4 ((aN l).map Gr.av))),(13,some (.ms 71 1 0 (cK l g true).length))]) (hp:=[(4,some (.box l.av.cells)),(6,some (.box a.av.cells)),(71,some (.row 1 ((cK l g true).map i64)))]) (.k (.k (.k (.k (.cons rfl (Sub.of (by rw[CD,length_append,o0,length_map])) .nil))))) (.k (.k (.cons rfl (BlkSub.of (by rw[CD,map_append])) .nil)))).trans<|(Wk.rk (k:=71) (d:=900) rfl rfl).trans<|Wk.o)
  have ho:own=false:=t64;subst ho;exact wn J1 trivial (hw:=Wk.of (.cons rfl (Sub.of (by rw[B7,o0])) (.k (.k (.k (.k .nil))))) (.cons rfl (BlkSub.of (by rw[B7])) (.k (.k .nil))))
 rintro -;refine gt (ay (Con.rk 900 rfl rfl (P3 (cK l g own) oz)) (cI rfl) aE rfl rfl) ?_ (17,0);refine gW ((Wk.freeze (k:=900) rfl).trans<|Wk.of (sl:=[(1,some (i64 i)),(4,some (.ptr 4 0)),(6,some (.ptr 6 0)),(10,some (.lst 4 ((aN l).map Gr.av))),(13,some (.lst 1 ((eA (cK l g own)).map i64)))]) (hp:=[(4,some (.box l.av.cells)),(6,some (.box a.av.cells))]) (.k (.k (.k (.k (.cons rfl (Sub.of (bO (by rw[length_map,In]))) .nil))))) (.k (.k .nil))) ?_;refine gl ?_;refine aM [1,4,6,10,74,75] [4,6] (fun(j:Nat)=>[(76,some (i64 j))]) (fun _=>[]) (fun j=>j<=(eA (cK l g own)).length/\∀b∈(eA (cK l g own)).take j,gf a b=0) (fun j=>(eA (cK l g own)).length-j) 0 ⟨zero_le _,fun b hb=>by simp at hb⟩ ?_;rintro j ⟨hj,hjz⟩ K2 J2;refine gC (fun t77=>?_) (fun t77=>?_)
 ·have hjn:=aW t77;obtain ⟨b,hb⟩:=aw hjn;have hbm:=zI.1 (mem_of_getElem? hb);have hbr:=Aa hli hgo b hbm;have hsl:(eA (cK l g own)).length <= 5:=by rw [In]; exact hnl
  refine gi (ax hb) ?_;refine gC (fun t81=>?_) (fun t81=>?_)
  ·have hz : gf a b = 0 := by unfold gf; rw [if_pos (by simpa [aa] using t81)]
   refine ga aH ?_;exact aG J2 (j+1) ⟨hjn,fun c hc=>by rw[dl hb]at hc;rcases List.mem_append.1 hc with h9 |h9;exact hjz c h9;(rw[List.mem_singleton.1 h9];exact hz)⟩
  have hb0:0<=b:=by have:=of_decide_eq_false (p:=b<0) t81;omega
  obtain⟨p,hp⟩:=aw (l:=a.bs) (i:=b.toNat) oz;have hpn:=al.nr p (mem_of_getElem? hp);have hnd:gf a b=aV a.rs p.l:=by unfold gf;rw[if_neg oz,aD hp]
  refine gi (ir (n:=b.toNat) oz hp) ?_;refine ge rfl ?_;refine aM [1,4,6,10,74,75,76,95,96] [4,6] (fun(q:Nat)=>[(97,some (i64 q))]) (fun _=>[]) (fun q=>q<=4/\∀x∈p.l.take q,bN a.rs.length x=0) (fun q=>4-q) 0 ⟨zero_le _,fun x hx=>by simp at hx⟩ ?_;rintro q ⟨hq,hqz⟩ K3 J3;refine gC (fun t98=>?_) (fun t98=>?_)
  ·have hqn:q<4:=aW (b:=4) t98;obtain⟨x,hx⟩:∃x,p.l[q]?=some x:=aw (show q<p.l.length from hqn);have hxn:=hpn x (mem_of_getElem? hx);have hone:aV a.rs [x]=bN a.rs.length x:=AI h4;refine gi (ax hx) ?_;refine gc (xz a.rs 400000000 al.tr x 50000000000 hxn (LH _)) ?_;refine gC (fun t109=>?_) (fun t109=>?_)
   ·have h5:=de t109;rw [hone] at h5 ⊢;have h6:gf a b = bN a.rs.length x:=hnd.trans (R5 h4 hx hqz h5);have h7:fC l (i:Nat) a own = bN a.rs.length x:=by rw [he5,NB hb hjz (by rw [h6]; exact h5),h6]
    refine gR ?_;rw[h7,kZ h5,p4 h5];exact lT rfl
   have h5:=cQ t109;rw[hone]at h5;refine ga aH ?_;exact aG J3 (q+1) ⟨hqn,fun z hz=>by rw[dl hx]at hz;rcases List.mem_append.1 hz with h9 |h9;exact hqz z h9;(rw[List.mem_singleton.1 h9];exact h5)⟩
  have hqn:q=4:=be (b:=4) hq t98;subst hqn;have hqz:∀x∈p.l,bN a.rs.length x=0:=hqz;refine ga aH ?_;exact aG J2 (j+1) ⟨hjn,fun c hc=>by rw[dl hb]at hc;rcases List.mem_append.1 hc with h9 |h9;exact hjz c h9;(rw[List.mem_singleton.1 h9,hnd];exact n8 h4 hqz)⟩
 have hjn:=be hj t77
 have h8:fC l (i:Nat) a own=0:=by
  rw[he5];exact oA (fun b hb=>hjz b (by rw[hjn,take_length];exact hb))
 refine gi (ax hg) ?_;refine gD ?_ (77777,0);refine gW (Wk.o (sl:=[(8,some (.ptr 120 0)),(9,some (.v .nilIface))]) (hp:=[(120,some (cC l g a))])) ?_ (77777,0);refine gW (Wk.rk (k:=120) (d:=900) rfl rfl) ?_;refine gR ?_;rw[h8];exact ao.keep (bb rfl)
theorem GZ{ts:LL}{r e:Nat}(tw:Tw ts r){a b c d:List Rat}(ha:Nm ts.length e a)(hb:Nm ts.length e b)(hc:Nm ts.length e c)(hd:Nm ts.length e d)(he:2*e<=lm ts.length) :
  FP 73 [aI ts,aA a b,aA c d] (.tup [aA (sh ts.length (subT ts (ad ts.length a) (ad ts.length c))) (sh ts.length (subT ts (ad ts.length b) (ad ts.length d))),.v .nilIface]):=by
 refine af func73 ?_;refine gc (rg (e:=e) tw [(a,b),(c,d)] (by simp only[mem_cons,not_mem_nil,or_false];rintro p (rfl |rfl);exact⟨ha,hb⟩;exact⟨hc,hd⟩) oz (by simp)) ?_;refine gC (fun t16=>?_) (fun t16=>?_) (st1:=(3,0));cases t16;refine gt (ay (Con.rB 21 rfl rfl rfl rfl (BH tw ha hb hc hd he)) (az rfl rfl rfl) aE rfl rfl) ?_;refine gt (ay (Con.rB 21 rfl rfl rfl rfl (uZ _ _ _)) (bB rfl rfl) aE rfl rfl) ?_;refine bj ?_;rfl
theorem B4{ts:LL}{r e:Nat}(tw:Tw ts r){a b c d:List Rat}(ha:Nm ts.length e a)(hb:Nm ts.length e b)(hc:Nm ts.length e c)(hd:Nm ts.length e d)(he:2*(e+e+kB r ts.length)<=lm ts.length) :
  FP 74 [aI ts,aA a b,aA c d] (.tup [nA (sh ts.length (lM ts (ad ts.length a) (ad ts.length b) (ad ts.length c) (ad ts.length d))),.v .nilIface]):=by
 refine af func74 ?_;refine gc (Con.sA (.cons (.refl _) (.cons (.refl _) (.cons (.refl _) (.cons (Sub.fn0 _) .nil)))) (EN tw ha hb hc hd oz _ _ (Q1 tw ha hb hc hd he))) ?_;refine bj ?_
 first |rfl |(simp;done)
section
variable{ts:LL}{u k:Nat}{a b a2 b2:List Rat}{x y x2 y2:Et ts}{w v w' v' w2 v2 w3 v3:Nat}
theorem TW [c : Ct ts u k] [ha : Zl ts u k a x w v] [hb : Zl ts u k b y w' v'] [ha2 : Zl ts u k a2 x2 w2 v2] [hb2 : Zl ts u k b2 y2 w3 v3] (h : w + v + (w' + v') + (w2 + v2 + (w3 + v3)) <= 2500 := by decide) :
  FP 73 [aI ts,aA a b,aA a2 b2] (.tup [aA (sX (x-x2)) (sX (y-y2)),.v .nilIface]):=by
 obtain⟨R,tw,hk⟩:=c.ex;have h0:=HZ c hk;have h1:=GZ (e:=2500*1000000) tw (ha.up c oz) (hb.up c oz) (ha2.up c oz) (hb2.up c oz) oz;rw[ha.eq,hb.eq,ha2.eq,hb2.eq]at h1;exact h1
end
variable{P:Program}{N:Nat}{R:Array Oper}{s:AS}{pos:String}{after:Array Edge}
theorem aR{d f k:Nat}{bx:Blk}{args:Array Operand}{ts:Array TypeId}{xs:List AV}{r:AV}{t:TypeId}
  (hcon:Con P f xs [(k,some bx)] r [(k,some bx)]) (ha:EvL s args.toList xs) (hk:s.blk k=some bx) (hok:iT s [(k,some bx)] [(k,some bx)] r=true) (hN:Nat.blt d N=true) :
  Step P N R s ⟨some d,.call ⟨.value (.func f),args,ts⟩,t,pos,after,none⟩ ⟨some r,[],ez args.toList,[k]⟩:=by
 refine Step.weaken (ay (d:=d) hcon ha (fun k' z h=>by
  obtain⟨rfl,h9⟩:=fu h;cases h9;exact hk) hok hN) (fun s' h=>h) (fun s' h k' hk'=>?_) (fun s' h=>?_)
 ·left;simp only[map_append,cZ,map_cons,map_nil,mem_append,mem_cons,not_mem_nil,or_false]at hk' ⊢;rcases hk' with h9 |h9 <;> exact h9
 ·intro C m a w hr;refine⟨m,hr.weak (fun t x hx=>⟨x,hx,.refl _⟩) (fun k' x hx=>⟨x,?_,.refl _⟩)⟩;have hb:lk s'.hp k=some bx:=(h.2 k (List.mem_singleton.2 rfl)).trans hk;show lk ([(k,some bx)]++cZ [(k,some bx)]++s'.hp) k'=some x;have hx':lk s'.hp k'=some x:=hx;simp only[cZ,map_cons,map_nil,List.cons_append,nil_append,aK]
  by_cases e:k'=k
  ·rw[if_pos e];rw[e,hb]at hx';exact hx'
  ·rw[if_neg e,if_neg e];exact hx'
theorem mC{k1 k2 k':Nat}{x y:Option Blk}{z:Blk}(h:lk [(k1,x),(k2,y)] k'=some z):(k'=k1/\x=some z)\/(k'≠k1/\k'=k2/\y=some z):=by
 rw[aK]at h
 by_cases e:k'=k1
 ·rw[if_pos e]at h;exact .inl ⟨e,h⟩
 ·rw[if_neg e]at h;obtain⟨h1,h2⟩:=fu h;exact .inr ⟨e,h1,h2⟩
theorem nC{k1 k2:Nat}{x y:Option Blk}:lk [(k1,x),(k2,y)] k1=x:=by rw[aK,if_pos rfl]
theorem mW{k1 k2:Nat}{x y:Option Blk}(h:k1≠k2):lk [(k1,x),(k2,y)] k2=y:=by rw[aK,if_neg (fun e=>h e.symm),aK,if_pos rfl]
theorem HN{k1 k2:Nat}(hne:k1≠k2){x y:Blk}{m:Nat->Option Nat}{b:Nat}:aX [(k1,some x),(k2,some y)] m b↔m k1=some b\/m k2=some b:=by
 constructor
 ·rintro⟨k',z,hz,hb⟩;rcases mC hz with⟨e,_⟩ |⟨_,e,_⟩
  ·exact .inl (e▸hb)
  ·exact .inr (e▸hb)
 ·rintro(h |h)
  ·exact⟨k1,x,nC,h⟩
  ·exact⟨k2,y,mW hne,h⟩
theorem Eg{k1 k2 d1 d2:Nat}(hk:k1≠k2)(hd:d1≠d2){x y x' y':Blk}{m m2:Nat->Option Nat}(h1:m2 d1=m k1)(h2:m2 d2=m k2):aX [(d1,some x'),(d2,some y')] m2=aX [(k1,some x),(k2,some y)] m:=by
 funext b;apply propext;rw[HN hk,HN hd,h1,h2]
theorem yo{ext:Nat->Prop}{k1 k2 d1 d2:Nat}(hk:k1≠k2)(hd:d1≠d2){x y x' y':Blk}{m m2:Nat->Option Nat}{w:World}(h1:m2 d1=m k1)(h2:m2 d2=m k2):Im ext [(d1,some x'),(d2,some y')] m2 w=Im ext [(k1,some x),(k2,some y)] m w:=by
 funext b cs;simp only[Im,Eg hk hd (x:=x) (y:=y) (x':=x') (y':=y') h1 h2]
theorem ET{ext:Nat->Prop}{k1 k2 d1 d2:Nat}(hk:k1≠k2)(hd:d1≠d2){x y:Blk}{m m2:Nat->Option Nat}{w:World}(hx:x.nm=[])(hy:y.nm=[])(h1:m2 d1=m k1)(h2:m2 d2=m k2)
  (hr:HeapRel ext [(k1,some x),(k2,some y)] m w):HeapRel ext [(d1,some x),(d2,some y)] m2 w:=by
 refine⟨?_,?_,?_⟩
 ·intro k' z hz;rw[yo hk hd (x:=x) (y:=y) h1 h2];rcases mC hz with⟨rfl,h9⟩ |⟨_,rfl,h9⟩
  ·cases h9;exact BlkRep.mono (w:=w) (fun _ _ h=>h) (fun _ _ h=>h) (fun _ _ hn=>(zB hx hn).elim) h1 (fun _ _=>rfl) (hr.blk k1 _ nC)
  ·cases h9;exact BlkRep.mono (w:=w) (fun _ _ h=>h) (fun _ _ h=>h) (fun _ _ hn=>(zB hy hn).elim) h2 (fun _ _=>rfl) (hr.blk k2 _ (mW hk))
 ·intro k k' z z' b hz hz' hb hb';rcases mC hz with⟨rfl,_⟩ |⟨_,rfl,_⟩ <;> rcases mC hz' with⟨rfl,_⟩ |⟨_,rfl,_⟩
  ·rfl
  ·exact absurd (hr.inj k1 k2 _ _ b nC (mW hk) (h1▸hb) (h2▸hb')) hk
  ·exact absurd (hr.inj k1 k2 _ _ b nC (mW hk) (h1▸hb') (h2▸hb)) hk
  ·rfl
 ·intro k' z b hz hb;rcases mC hz with⟨rfl,h9⟩ |⟨_,rfl,h9⟩
  ·exact hr.sep k1 _ b nC (h1▸hb)
  ·exact hr.sep k2 _ b (mW hk) (h2▸hb)
theorem Con.rekeyBB{P:Program}{f:FuncId}{k1 k2 o1 o2:Nat}{x y x' y':Blk}{xs:List AV}{r:AV}(d1 d2:Nat)(hk:k1≠k2)(hd:d1≠d2)(hx:x.nm=[])(hy:y.nm=[])(hx':x'.nm=[])(hy':y'.nm=[])(hxs:(xs.all fun x=>x.nm.isEmpty)=true)(hr:r.nm=[])
  (h:Con P f (.ptr k1 o1 :: .ptr k2 o2::xs) [(k1,some x),(k2,some y)] r [(k1,some x'),(k2,some y')]):Con P f (.ptr d1 o1 :: .ptr d2 o2::xs) [(d1,some x),(d2,some y)] r [(d1,some x'),(d2,some y')]:=by
 refine⟨h.ok,?_⟩;intro ext m w vs hext hheap hvs hrep;obtain⟨m2,e1,e2⟩:∃m2:Nat->Option Nat,m2 k1=m d1/\m2 k2=m d2:=⟨fun k=>if k=k1 then m d1 else m d2,if_pos rfl,if_neg (fun e=>hk e.symm)⟩
 have h1 := h.ret ext m2 w vs hext (ET hd hk hx hy e1 e2 hheap) (by simpa using hvs) (by
  intro j v z hv hz;rw[yo hd hk (x:=x) (y:=y) e1 e2]
  match j,hz with
  |0,hz =>
   cases hz;have h2:=hrep 0 v _ hv rfl;cases h2 with
   |ptr hm=>exact .ptr (e1.trans hm)
  |1,hz =>
   cases hz;have h2:=hrep 1 v _ hv rfl;cases h2 with
   |ptr hm=>exact .ptr (e2.trans hm)
  |j+2,hz =>
   have h2:=hrep (j+2) v z hv hz;refine iL ?_ h2;have:=List.all_eq_true.1 hxs z (mem_of_getElem? hz);simpa using this)
 refine Calls.mono h1 ?_;rintro e w' ⟨v,m',rfl,hf,hh,hn,hkp,hrr⟩;have ho:=Eg hd hk (x:=x) (y:=y) (x':=x) (y':=y) e1 e2;obtain⟨m3,f1,f2⟩:∃m3:Nat->Option Nat,m3 d1=m' k1/\m3 d2=m' k2:=⟨fun k=>if k=d1 then m' k1 else m' k2,if_pos rfl,if_neg (fun e=>hd e.symm)⟩
 refine⟨v,m3,rfl,ho▸hf,ET hk hd hx' hy' f1 f2 hh,?_,?_,?_⟩
 ·intro k' z b hz hb;rw[<- ho];rcases mC hz with⟨rfl,_⟩ |⟨_,rfl,_⟩
  ·exact hn k1 _ b nC (f1▸hb)
  ·exact hn k2 _ b (mW hk) (f2▸hb)
 ·intro k' z z' hz hz';rcases mC hz with⟨rfl,_⟩ |⟨_,rfl,_⟩
  ·rw[f1,<- e1];exact hkp k1 _ _ nC nC
  ·rw[f2,<- e2];exact hkp k2 _ _ (mW hk) (mW hk)
 ·rw[yo hk hd (x:=x') (y:=y') f1 f2];exact iL hr hrr
end Go.Lw
namespace Go.Lw
open Go.Proofs
theorem C0{l:Li}{body pt:Int}{n k:Nat}{bd:Bd}{m:Mk}(h:MkP l body pt n k bd m):qP (a5 l body pt)=.agg [bl m.x.neg,ws m.x.num,ws m.x.den,bl m.y.neg,ws m.y.num,ws m.y.den]:=by
 rw[h.ex,h.ey]
theorem oi{p q:Rat×Rat}{e f:Nat}(hp:Sm e p)(hq:Sm f q)(he:e<=1000000)(hf:f<=1000000):FP 146 [qP p,qP q] (qP (b9 p q)):=by
 refine af func146 ?_;refine gc (wc (hp.x.qs oz) (hq.x.qs oz)) ?_;refine gc (wc (hp.y.qs oz) (hq.y.qs oz)) ?_;refine gD ?_;refine ae ?_
 first |rfl |(simp;done)
theorem GW{p q:Rat×Rat}{e f:Nat}(hp:Sm e p)(hq:Sm f q)(he:e<=1000000)(hf:f<=1000000):FP 251 [qP p,qP q] (qA (bW p q)):=by
 refine af func251 ?_;refine gc (tM (hp.x.qs oz) (hq.x.qs oz)) ?_;refine gc (tM (hp.y.qs oz) (hq.y.qs oz)) ?_;refine gc (xb ((hp.x.mul hq.x).qs oz) ((hp.y.mul hq.y).qs oz)) ?_;refine gD ?_;refine ae ?_
 first |rfl |(simp;done)
theorem LA{p q:Rat×Rat}{e f:Nat}(hp:Sm e p)(hq:Sm f q)(he:e<=1000000)(hf:f<=1000000):FP 165 [qP p,qP q] (qA (zj p q)):=by
 refine af func165 ?_;refine gc (tM (hp.x.qs oz) (hq.y.qs oz)) ?_;refine gc (tM (hp.y.qs oz) (hq.x.qs oz)) ?_;refine gc (wc ((hp.x.mul hq.y).qs oz) ((hp.y.mul hq.x).qs oz)) ?_;refine gD ?_;refine ae ?_
 first |rfl |(simp;done)
theorem xw{p:Rat×Rat}{e:Nat}(hp:Sm e p)(he:e<=1000000):FP 158 [qP p] (nA (sh 0 (bW p p:Rat))):=by
 refine af func158 ?_;refine gc (GW hp hp he he) ?_;refine gc (od ((hp.dot hp).qs oz)) ?_;refine ae ?_
 first |rfl |(simp;done)
theorem nB{l:Li}(hl:l.ok)(hli:aB l=0)(g:Gr)(a:As){body pt:Int}(h1:bn body l.bo.length=true)(h2:bn pt (cH l body).length=true) :
  Con prog 159 [.ptr 1000 0,i64 body,i64 pt] [(1000,some (cC l g a))] (qP (a5 l body pt)) [(1000,some (cC l g a))]:=by
 obtain⟨n,k,bd,m,mp⟩:=qS hl hli h1 h2;rw[C0 mp];have hn:=mp.hn;have hk:=mp.hk;have hlb:=hl.lb;subst hn;subst hk;refine gF func159 (fun k z h=>bq h) ?_;refine gi (ax mp.gbd) ?_;refine gi (ax mp.gm) ?_;refine gR ?_;exact ao.keep (bb rfl)
theorem tA{E:Nat}{l:Li}(hl:l.ok)(hli:aB l=0)(g:Gr){a:As}(al:AB a)(hc:a9 a.rs=0){body pt:Int}(h1:bn body l.bo.length=true)(h2:bn pt (cH l body).length=true)(hE:E<=20000000000)(h3:(llq a.rs).length<=2)(hb:Pd E a body) :
  Con prog 88 [.ptr 1000 0,i64 body,i64 pt] [(1000,some (cC l g a))] (aA (sX (bJ l a body pt).1) (sX (bJ l a body pt).2)) [(1000,some (cC l g a))]:=by
 obtain⟨n,k,bd,m,b,hp⟩:=v6 hl hli al hc h1 h2 hb;obtain⟨tw,hta⟩:=cA al.tr hc
 have kb:kB 400000000 (llq a.rs).length<=1200000006:=by
  have h9:=g9 400000000 h3;have h8:eB 400000000 2=1200000006:=by decide
  show eB 400000000 _<=_;omega
 have hlm:lm (llq a.rs).length=200000000000:=by unfold lm;rw[if_pos h3]
 have hlb:=hl.lb;have hbl:=al.bl;have hmk:=nB hl hli g a h1 h2;show Con prog _ _ _ (aA (sh (llq a.rs).length (rz l a body pt).1) (sh (llq a.rs).length (rz l a body pt).2)) _;rw[hp.eq];have hn:=hp.mp.hn;rw[C0 hp.mp]at hmk
 have hat:FP 86 [cf a.rs,b.av,m.x.av,m.y.av] (.tup [aA (sh (llq a.rs).length (oy (llq a.rs) b m).1) (sh (llq a.rs).length (oy (llq a.rs) b m).2),.v .nilIface]):=by
  rw[hta,hp.av,hp.mp.ex,hp.mp.ey];have h9:=Q5 tw (hp.ok.c.mono (f:=E+1000) oz) (hp.ok.s.mono oz) (hp.ok.x.mono oz) (hp.ok.y.mono oz) (hp.mp.sm.x.mono (f:=E+1000) oz) (hp.mp.sm.y.mono (f:=E+1000) oz) oz;unfold oy;rw[hp.mp.ex,hp.mp.ey,bA,bA];exact h9
 refine gF func88 (fun k z h=>bq h) ?_;refine gt (ay hmk (az rfl rfl rfl) aE rfl rfl) ?_;refine gi (ir (n:=n) hn hp.gb) ?_;refine gc hat ?_;refine gD ?_;refine gC (fun t39=>?_) (fun t39=>?_) (st2:=(77777,0))
 ·refine gR ?_;exact ao.keep (bb rfl)
 cases t39
theorem tl{E:Nat}(hE:E<=20000000000){l:Li}(hl:l.ok)(hli:aB l=0)(g:Gr)(hg:GrOk l g){a:As}(al:AB a)(hc:a9 a.rs=0){k:Nat}{z b:Int}{j:Jt}(hz:g.jo[k]?=some z)(hj:l.jo[z.toNat]?=some j)(h3:(llq a.rs).length<=2)(h:PinP E l a j b) :
  Con prog 141 [.ptr 1000 0,i64 k,i64 b] [(1000,some (cC l g a))] (.tup [qP (ai l j b),aA (sX (aP l a j b).1) (sX (aP l a j b).2)]) [(1000,some (cC l g a))]:=by
 obtain⟨z0,z1⟩:=hg.j z (mem_of_getElem? hz);obtain⟨i1,i2,i3,i4,_⟩:=dZ hli hj;have hgj:=hg.lj;have hlj:=hl.lj;refine gF func141 (fun k z h=>bq h) ?_;refine gi (ax hz) ?_;refine gi (ir (n:=z.toNat) oz hj) ?_;refine gD ?_;refine gC (fun t27=>?_) (fun t27=>?_)
 ·have e:j.a = b:=cT t27;have hb:Pd E a j.b:=by rcases h.tie with h9 | h9; exact h9.2; exact absurd e h9.1
  have eq1:ai l j b=a5 l b j.point:=if_pos e;have eq2:aP l a j b=bJ l a j.b j.on:=if_pos e;rw[eq1,eq2];subst e;refine gt (ay (nB hl hli g a i1 i3) (az rfl rfl rfl) aE rfl rfl) ?_;refine gt (ay (tA hl hli g al hc i2 i4 hE h3 hb) (az rfl rfl rfl) aE rfl rfl) ?_;refine gD ?_;refine gR ?_;exact ao.keep (bb rfl)
 have e:j.a≠b:=d5 t27;have e2:j.b=b/\Pd E a j.a:=by rcases h.tie with h9 |h9;exact absurd h9.1 e;exact h9.2
 have eq1:ai l j b=a5 l b j.on:=if_neg e;have eq2:aP l a j b=bJ l a j.a j.point:=if_neg e;rw[eq1,eq2];obtain⟨e2,hb⟩:=e2;subst e2;refine gt (ay (nB hl hli g a i2 i4) (az rfl rfl rfl) aE rfl rfl) ?_;refine gt (ay (tA hl hli g al hc i1 i3 hE h3 hb) (az rfl rfl rfl) aE rfl rfl) ?_;refine gD ?_;refine gR ?_;exact ao.keep (bb rfl)
theorem Bp{l:Li}(hl:l.ok)(hli:aB l=0)(g:Gr)(hg:GrOk l g)(a:As){z b:Int}{j:Jt}(hz:g.jo[2]?=some z)(hj:l.jo[z.toNat]?=some j)(h:j.a=b\/j.b=b) :
  Con prog 155 [.ptr 1000 0,i64 b] [(1000,some (cC l g a))] (qP (ai l j b)) [(1000,some (cC l g a))]:=by
 obtain⟨z0,z1⟩:=hg.j z (mem_of_getElem? hz);obtain⟨i1,i2,i3,i4,_⟩:=dZ hli hj;have hgj:=hg.lj;have hlj:=hl.lj;have h2:=(List.getElem?_eq_some_iff.1 hz).1;refine gF func155 (fun k z h=>bq h) ?_;refine gi (ax hz) ?_;refine gi (ir (n:=z.toNat) oz hj) ?_;refine gD ?_;refine gC (fun t23=>?_) (fun t23=>?_)
 ·have e:j.a=b:=cT t23;have eq1:ai l j b=a5 l b j.point:=if_pos e;rw[eq1];subst e;refine gt (ay (nB hl hli g a i1 i3) (az rfl rfl rfl) aE rfl rfl) ?_;refine gR ?_;exact ao.keep (bb rfl)
 have e:j.a≠b:=d5 t23;have e2:j.b=b:=by rcases h with h9 |h9;exact absurd h9 e;exact h9
 have eq1:ai l j b=a5 l b j.on:=if_neg e;rw[eq1];subst e2;refine gt (ay (nB hl hli g a i2 i4) (az rfl rfl rfl) aE rfl rfl) ?_;refine gR ?_;exact ao.keep (bb rfl)
theorem Hx{l:Li}(hl:l.ok)(g:Gr)(hg:GrOk l g)(a:As){z:Int}{j:Jt}(hz:g.jo[1]?=some z)(hj:l.jo[z.toNat]?=some j) :
  Con prog 87 [.ptr 1000 0] [(1000,some (cC l g a))] j.av [(1000,some (cC l g a))]:=by
 obtain⟨z0,z1⟩:=hg.j z (mem_of_getElem? hz);have hgj:=hg.lj;have hlj:=hl.lj;have h2:=(List.getElem?_eq_some_iff.1 hz).1;refine gF func87 (fun k z h=>bq h) ?_;refine gi (ax hz) ?_;refine gi (ir (n:=z.toNat) oz hj) ?_;refine gD ?_;refine gR ?_;exact ao.keep (bb rfl)
abbrev LK{ts:LL}(p:Rat×Rat)(at_:Et ts×Et ts)(c:Rat×Rat):List AV :=
  [bl (rt p.1).neg,ws (rt p.1).num,ws (rt p.1).den,bl (rt p.2).neg,ws (rt p.2).num,ws (rt p.2).den,nA (sX at_.1),nA (sX at_.2),bl (rt c.1).neg,ws (rt c.1).num,ws (rt c.1).den,bl (rt c.2).neg,ws (rt c.2).num,ws (rt c.2).den]
abbrev ua{ts:LL}(p:Rat×Rat)(at_:Et ts×Et ts)(c:Rat×Rat):AV:=.agg (LK p at_ c)
abbrev M7{ts:LL}(p:Rat×Rat)(at_:Et ts×Et ts)(c:Rat×Rat):AV:=.agg [nA (sX at_.1),nA (sX at_.2),nA (sh 0 (bT c p:Rat))]
theorem zg{ts:LL}{p c:Rat×Rat}(hp:Sm 1000 p)(hc:Sm 1000 c)(at_:Et ts×Et ts):FP 70 [ua p at_ c] (M7 p at_ c):=by
 refine af func70 ?_;refine gc (oi hc hp oz oz) ?_;refine gc (xw (hc.sub hp) oz) ?_;refine gD ?_;refine ae ?_
 first |rfl |(simp;done)
theorem Sh{l:Li}(hl:l.ok)(hli:aB l=0){a:As}(al:AB a)(hc:a9 a.rs=0)(h3:(llq a.rs).length<=2){i k z0 z1 z2:Int}{j0 j1 j2:Jt}(hg:GrOk l ⟨1,[i,k],[z0,z1,z2],0⟩)
  (h0:l.jo[z0.toNat]?=some j0) (h1:l.jo[z1.toNat]?=some j1) (h2:l.jo[z2.toNat]?=some j2) (p0:PinP 3900000 l a j0 i) (p1:PinP 3900000 l a j1 k) (t1:j2.a=i\/j2.b=i) (t2:j2.a=k\/j2.b=k) :
  Con prog 67 [.ptr 1000 0] [(1000,some (cC l ⟨1,[i,k],[z0,z1,z2],0⟩ a))] (.tup [ua (ai l j0 i) (aP l a j0 i) (ai l j2 i),ua (ai l j1 k) (aP l a j1 k) (ai l j2 k)]) [(1000,some (cC l ⟨1,[i,k],[z0,z1,z2],0⟩ a))]:=by
 refine gF func67 (fun k z h=>bq h) ?_;refine gi (rfl) ?_;refine gi (rfl) ?_;refine gD ?_;refine gt (ay (tl oz hl hli _ hg al hc (k:=0) rfl h0 h3 p0) (.cons (.tmp rfl) (.cons (.const _) (cI rfl))) aE rfl rfl) ?_;refine gt (ay (tl oz hl hli _ hg al hc (k:=1) rfl h1 h3 p1) (.cons (.tmp rfl) (.cons (.const _) (cI rfl))) aE rfl rfl) ?_;refine gt (ay (Bp hl hli _ hg a rfl h2 t1) (bB rfl rfl) aE rfl rfl) ?_;refine gt (ay (Bp hl hli _ hg a rfl h2 t2) (bB rfl rfl) aE rfl rfl) ?_;refine gD ?_;refine gR ?_;exact ao.keep (bb rfl)
theorem I6{l:Li}(hl:l.ok)(hli:aB l=0){a:As}(al:AB a)(hc:a9 a.rs=0)(h3:(llq a.rs).length<=2){i z0 z1:Int}{j0 j1:Jt}(hg:GrOk l ⟨2,[i],[z0,z1],0⟩)
  (h0:l.jo[z0.toNat]?=some j0) (h1:l.jo[z1.toNat]?=some j1) (p0:PinP 3900000 l a j0 i) (ha:j1.a=i) (hk:j1.kind≠0) (hb:Pd 3900000 a j1.b) :
  Con prog 71 [.ptr 1000 0] [(1000,some (cC l ⟨2,[i],[z0,z1],0⟩ a))] (.tup [ua (ai l j0 i) (aP l a j0 i) (a5 l i j1.point),aA (sX (bJ l a j1.b j1.on).1) (sX (bJ l a j1.b j1.on).2),aA (sX (bJ l a j1.b j1.to).1) (sX (bJ l a j1.b j1.to).2)]) [(1000,some (cC l ⟨2,[i],[z0,z1],0⟩ a))]:=by
 obtain⟨i1,i2,i3,i4,i5⟩:=dZ hli h1;rw[ha]at i1 i3;refine gF func71 (fun k z h=>bq h) ?_;refine gi (rfl) ?_;refine gt (aR (Hx hl _ hg a rfl h1) (cI rfl) rfl rfl rfl) ?_;refine gD ?_;refine gt (ay (tl oz hl hli _ hg al hc (k:=0) rfl h0 h3 p0) (.cons (.tmp rfl) (.cons (.const _) (cI rfl))) aE rfl rfl) ?_;refine gt (ay (nB hl hli _ a i1 i3) (az rfl rfl rfl) aE rfl rfl) ?_;refine gt (ay (tA hl hli _ al hc i2 i4 oz h3 hb) (az rfl rfl rfl) aE rfl rfl) ?_;refine gt (ay (tA hl hli _ al hc i2 (i5 hk) oz h3 hb) (az rfl rfl rfl) aE rfl rfl) ?_;refine gD ?_;refine gR ?_;exact ao.keep (bb rfl)
structure Vr where
  w:List Rt
  x:List Rt
  y:List Rt
instance:Inhabited Vr:=⟨⟨[],[],[]⟩⟩
def Vr.av(v:Vr):AV:=.agg [nR v.w,nR v.x,nR v.y]
def Vr.l(v:Vr):List (List Rt):=[v.w,v.x,v.y]
theorem AL.ct{a:As}(h:AL a)(hc:a9 a.rs=0):Ct (llq a.rs) 4000 300000:=by
 obtain⟨tw,_⟩:=cA h.tr hc;exact⟨⟨40000,tw,le_trans (Iz 40000 tw.three) oz⟩,by omega,by omega,by omega,by omega⟩
abbrev dQ(rs:List (List Rt)):Blk:=.box [.lst 1 (rs.map nR),.v .nilIface]
theorem ug(rs:List (List Rt))(a:List Rat):Con prog 68 [.ptr 1000 0,nA a,.v .nilIface] [(1000,some (dQ rs))] (nA a) [(1000,some (dQ rs))]:=by
 refine gF func68 (fun k z h=>bq h) ?_;refine gC (fun t11=>?_) (fun t11=>?_) (st2:=(77777,0))
 ·refine gR ?_;exact ao.keep (bb rfl)
 cases t11
theorem Cj(rs:List (List Rt))(a b:List Rat):Con prog 72 [.ptr 1000 0,aA a b,.v .nilIface] [(1000,some (dQ rs))] (aA a b) [(1000,some (dQ rs))]:=by
 refine gF func72 (fun k z h=>bq h) ?_;refine gC (fun t11=>?_) (fun t11=>?_) (st2:=(77777,0))
 ·refine gR ?_;exact ao.keep (bb rfl)
 cases t11
section
variable{rs:List (List Rt)}{r u k:Nat}{a b:List Rat}{x y:Et (llq rs)}{w v w' v':Nat}
theorem Ge (h : TR rs r) (hc : a9 rs = 0) [c0 : Ct (llq rs) u k] [ha : Zl (llq rs) u k a x w v] [hb : Zl (llq rs) u k b y w' v'] (hs : w + v + (w' + v') <= 10000 := by decide) :
  Con prog 76 [.ptr 1000 0,nA a,nA b] [(1000,some (dQ rs))] (nA (sX (x*y))) [(1000,some (dQ rs))]:=by
 have hx:=Hy (ha:=ha) (hb:=hb) hs;rw[oT h hc]at hx;refine gF func76 (fun k z h=>bq h) ?_;refine gc hx ?_;refine gt (ay (ug _ _) (az rfl rfl rfl) aE rfl rfl) ?_;refine gR ?_;exact ao.keep (bb rfl)
theorem RY (h : TR rs r) (hc : a9 rs = 0) [c0 : Ct (llq rs) u k] [ha : Zl (llq rs) u k a x w v] [hb : Zl (llq rs) u k b y w' v'] (hs : w + v + (w' + v') <= 10000 := by decide) :
  Con prog 75 [.ptr 1000 0,nA a,nA b] [(1000,some (dQ rs))] (nA (sX (x-y))) [(1000,some (dQ rs))]:=by
 have hx:=HB (ha:=ha) (hb:=hb) hs;rw[oT h hc]at hx;refine gF func75 (fun k z h=>bq h) ?_;refine gc hx ?_;refine gt (ay (ug _ _) (az rfl rfl rfl) aE rfl rfl) ?_;refine gR ?_;exact ao.keep (bb rfl)
end
structure DyW(l:Li)(a:As):Prop where
  hl:l.ok
  li:aB l=0
  al:AB a
  hc:a9 a.rs=0
structure DyR(l:Li)(a:As):Prop extends DyW l a where
  s:DyS a
theorem DyR.two{l:Li}{a:As}(D:DyR l a):(llq a.rs).length<=2:=le_trans (D.s.one D.hc) oz
theorem xc{n:Nat}(hn:n<=1):kB 64990 n<=65000:=by
 have h1:=g9 64990 hn;have h2:eB 64990 1=64992:=by simp only[eB]
 show eB 64990 _<=_;omega
theorem DT{n:Nat}(h3:n<=2):kB 400000000 n<=1200000006:=by
 have h9:=g9 400000000 h3;have h8:eB 400000000 2=1200000006:=by decide
 show eB 400000000 _<=_;omega
abbrev vl(l:Li)(a:As)(i:Int)(j0 j:Jt):List AV :=
  qC (ai l j0 i)++([nA (sX (aP l a j0 i).1),nA (sX (aP l a j0 i).2)]++(qC (dh l i j)++[nA (sh 0 (cP l i j0 j:Rat)),nA (sh 0 (jE l i j:Rat)),nA (sX (cJ l a i j0 j)),nA (sX (dt l a i j0 j).1),nA (sX (dt l a i j0 j).2)]))
theorem Fg{l:Li}{a:As}(D:DyR l a){n:Nat}{i:Int}{j0 j:Jt}(h0:l.jo[n]?=some j0)(p0:PinP 3900000 l a j0 i){m:Nat}(h1:l.jo[m]?=some j)(hb:Pd 3900000 a j.a) :
  Zu 310000 65000 (dt l a i j0 j).1 80 81/\Zu 310000 65000 (dt l a i j0 j).2 80 81:=by
 obtain⟨i1,i2,i3,i4,_⟩:=dZ D.li h1;obtain⟨z1,z2⟩:=ma D.hl D.li D.al D.s D.hc h0 p0;obtain⟨y1,y2⟩:=mD D.hl D.li D.al D.s D.hc i1 i3 hb;haveI c:=D.s.ct D.hc;haveI:=z1;haveI:=z2;haveI:=y1;haveI:=y2
 exact⟨(inferInstance:Zu 310000 65000 ((bJ l a j.a j.point).1-(aP l a j0 i).1) _ _),(inferInstance:Zu 310000 65000 ((bJ l a j.a j.point).2-(aP l a j0 i).2) _ _)⟩
theorem IH{l:Li}{a:As}(D:DyR l a){i z0 z1:Int}{j0 j:Jt}(hg:GrOk l ⟨3,[i],[z0,z1],0⟩)
  (h0:l.jo[z0.toNat]?=some j0) (h1:l.jo[z1.toNat]?=some j) (p0:PinP 3900000 l a j0 i) (hi:j.b=i) (hk:j.kind≠0) (hb:Pd 3900000 a j.a) :
  Con prog 78 [.ptr 1000 0,.ptr 1001 0] [(1000,some (cC l ⟨3,[i],[z0,z1],0⟩ a)),(1001,some (dQ a.rs))] (.agg (vl l a i j0 j)) [(1000,some (cC l ⟨3,[i],[z0,z1],0⟩ a)),(1001,some (dQ a.rs))]:=by
 obtain⟨i1,i2,i3,i4,i5⟩:=dZ D.li h1;have hs0:Sm 1000 (ai l j0 i):=ig D.hl D.li h0 (by rcases p0.tie with h9 |h9;exact .inl h9.1;exact .inr h9.2.1);subst hi;have hs1:=kQ D.hl D.li i2 i4;have hs2:=kQ D.hl D.li i2 (i5 hk);have hv:=hs2.sub hs1;obtain⟨z1',z2'⟩:=ma D.hl D.li D.al D.s D.hc h0 p0;obtain⟨y1,y2⟩:=mD D.hl D.li D.al D.s D.hc i1 i3 hb;obtain⟨w1,w2⟩:=Fg D h0 p0 h1 hb;haveI c:=D.s.ct D.hc;haveI:=z1';haveI:=z2';haveI:=y1;haveI:=y2;haveI:=w1;haveI:=w2
 have hsub:=TW (ts:=llq a.rs) (u:=310000) (k:=65000) (a:=sX (bJ l a j.a j.point).1) (b:=sX (bJ l a j.a j.point).2) (a2:=sX (aP l a j0 j.b).1) (b2:=sX (aP l a j0 j.b).2);have hdot:=Rb (ts:=llq a.rs) (u:=310000) (k:=65000) (a:=sX (dt l a j.b j0 j).1) (b:=sX (dt l a j.b j0 j).2) (a2:=sX (dt l a j.b j0 j).1) (b2:=sX (dt l a j.b j0 j).2);rw[oT D.s.tr D.hc]at hsub hdot;refine gF func78 (fun k z h=>OS h) ?_;refine gi (rfl) ?_;refine gt (aR (Hx D.hl _ hg a rfl h1) (cI rfl) rfl rfl rfl) ?_;refine gD ?_;refine gt (ay (tl oz D.hl D.li _ hg D.al D.hc (k:=0) rfl h0 D.two p0) (.cons (.tmp rfl) (.cons (.const _) (cI rfl))) aE rfl rfl) ?_;refine gt (aR (nB D.hl D.li _ a i2 i4) (az rfl rfl rfl) rfl rfl rfl) ?_;refine gt (aR (nB D.hl D.li _ a i2 (i5 hk)) (az rfl rfl rfl) rfl rfl rfl) ?_;refine gc (oi hs2 hs1 oz oz) ?_;refine gD ?_;refine gc (oi hs1 hs0 oz oz) ?_;refine gc (LA hv (hs1.sub hs0) oz oz) ?_;refine gc (od ((hv.cross (hs1.sub hs0)).qs oz)) ?_;refine gc (xw hv oz) ?_;refine gD ?_;refine gt (ay (tA D.hl D.li _ D.al D.hc i1 i3 oz D.two hb) (az rfl rfl rfl) aE rfl rfl) ?_;refine gC (fun t63=>?_) (fun t63=>?_) (st2:=(77777,0))
 ·refine gc hsub ?_;refine gt (ay (Con.rB 1001 rfl rfl rfl rfl (Cj _ _ _)) (az rfl rfl rfl) aE rfl rfl) ?_;refine gD ?_;refine gc hdot ?_;refine gt (ay (Con.rB 1001 rfl rfl rfl rfl (ug _ _)) (az rfl rfl rfl) aE rfl rfl) ?_;refine gD ?_;refine gR ?_;exact ao.keep (mc rfl rfl)
 cases t63
theorem Uw{l:Li}{a:As}(D:DyR l a){i:Int}{j0 j:Jt}{w v:Nat}[z1:Zl (llq a.rs) 310000 65000 (sh 0 (cP l i j0 j:Rat)) (qE (cP l i j0 j)) 3 0][z2:Zl (llq a.rs) 310000 65000 (sh 0 (jE l i j:Rat)) (qE (jE l i j)) 3 0][z3:Zu 310000 65000 (cJ l a i j0 j) w v](hw:w+v<=2000) :
  Con prog 79 [.agg (vl l a i j0 j),.ptr 1001 0] [(1001,some (dQ a.rs))] (nA (sX (qE (jE l i j)*cJ l a i j0 j-qE (cP l i j0 j)*qE (cP l i j0 j)))) [(1001,some (dQ a.rs))]:=by
 haveI c:=D.s.ct D.hc;haveI:=z1.zu;haveI:=z2.zu
 have m1:=Ge (a:=sh 0 (jE l i j:Rat)) (b:=sX (cJ l a i j0 j)) D.s.tr D.hc oz;have m2:=Ge (a:=sh 0 (cP l i j0 j:Rat)) (b:=sh 0 (cP l i j0 j:Rat)) D.s.tr D.hc oz;have m3:=RY (a:=sX (qE (jE l i j)*cJ l a i j0 j)) (b:=sX (qE (cP l i j0 j)*qE (cP l i j0 j):Et (llq a.rs))) D.s.tr D.hc oz;refine gF func79 (fun k z h=>by have:=(fu h).1;omega) ?_;refine gt (ay (Con.rB 1001 rfl rfl rfl rfl m1) (az rfl rfl rfl) aE rfl rfl) ?_;refine gt (ay (Con.rB 1001 rfl rfl rfl rfl m2) (az rfl rfl rfl) aE rfl rfl) ?_;refine gt (ay (Con.rB 1001 rfl rfl rfl rfl m3) (az rfl rfl rfl) aE rfl rfl) ?_;refine gD ?_;refine gR ?_;exact ao.keep (bb rfl)
abbrev Ci:Type:=List Rat×List Rat×List Rat
abbrev DH(c:Ci):AV:=.agg [nA c.1,nA c.2.1,nA c.2.2]
structure CiZ(rs:List (List Rt))(c:Ci):Prop where
  x:Nm (llq rs).length 2500000000 c.1
  y:Nm (llq rs).length 2500000000 c.2.1
  r:Nm (llq rs).length 2500000000 c.2.2
  sg:0<=ak (dE (llq rs) c.2.2)
theorem Rj{ts:LL}(p q:Et ts×Et ts):dotE (q.1-p.1) (q.2-p.2) (q.1-p.1) (q.2-p.2)=aC p q:=by
 unfold aC oS bu dotE;dsimp only;grind
theorem DV{ts:LL}(c:Ct ts 310000 65000){x y x2 y2:Et ts}(h1:Zu 310000 65000 x 40 40)(h2:Zu 310000 65000 y 40 40)(h3:Zu 310000 65000 x2 40 40)(h4:Zu 310000 65000 y2 40 40):Zu 310000 65000 (aC (x,y) (x2,y2)) 320 327:=by
 haveI:=c;haveI:=h1;haveI:=h2;haveI:=h3;haveI:=h4
 exact(inferInstance:Zu 310000 65000 (dotE (x-x2) (y-y2) (x-x2) (y-y2)) _ _)
section
variable{rs:List (List Rt)}{r:Nat}{a b c a2 b2 c2:List Rat}
theorem FS(h:TR rs r)(hc:a9 rs=0){e:Nat}(ha:Nm (llq rs).length e a)(hb:Nm (llq rs).length e b)(he:e<=lm (llq rs).length):FP 263 [cf rs,aA a b] (.v .nilIface):=by
 obtain⟨tw,etw⟩:=cA h hc;have hca:=rg tw [(a,b)] (fun p hp=>by rw[List.mem_singleton.1 hp];exact⟨ha,hb⟩) he (by show 1<=500;omega);rw[<- etw]at hca;refine af func263 ?_;refine gc hca ?_;refine ae ?_;rfl
theorem Bk(h:TR rs r)(hc:a9 rs=0){e:Nat}(ha:Nm (llq rs).length e a)(hb:Nm (llq rs).length e b)(hn:Nm (llq rs).length e c)(he:e+1<=lm (llq rs).length):FP 262 [cf rs,.agg [nA a,nA b,nA c]] (.v .nilIface):=by
 obtain⟨tw,etw⟩:=cA h hc;have hneg:=zD tw hn oz;rw[<- etw]at hneg;refine af func262 ?_;refine gc (FS h hc ha hb oz) ?_;refine gC (fun t13=>?_) (fun t13=>?_) (st1:=(3,0));cases t13;refine gc hneg ?_;refine ae ?_;rfl
theorem FE(h:TR rs r)(hc:a9 rs=0)(cs:List Ci)(hz:∀c∈cs,CiZ rs c)(hl:cs.length<=100):FP 264 [cf rs,.lst 3 (cs.map DH)] (.v .nilIface):=by
 obtain⟨tw,etw⟩:=cA h hc;have hlm:=km (llq rs).length;refine af func264 ?_;refine gl ?_;refine aM [2,9,10] [2] (fun(i:Nat)=>[(11,some (i64 i))]) (fun _=>[]) (fun i=>i<=cs.length) (fun i=>cs.length-i) 0 (zero_le _) ?_;rintro i hi K1 J1;refine gC (fun t12=>?_) (fun t12=>?_)
 ·have hin:=aW t12;obtain⟨z,hzi⟩:=aw hin;have hz9:=hz z (mem_of_getElem? hzi);have hs:=EV tw hz9.r oz;rw[<- etw]at hs;refine gi (ax hzi) ?_;refine gc hs ?_;refine gC (fun t23=>?_) (fun t23=>?_) (st1:=(6,0));cases t23;refine gC (fun t26=>?_) (fun t26=>?_) (st1:=(8,0));exact absurd t26 (by have h9:=hz9.sg;unfold ak dE at h9;simp only[aa,decide_eq_true_eq];omega);refine ga aH ?_;exact aG J1 (i+1) hin
 refine ae ?_;rfl
theorem NG(h:TR rs r)(hc:a9 rs=0)(cs:List Ci)(hz:∀c∈cs,CiZ rs c)(hl:cs.length<=100):FP 156 [cf rs,.lst 3 (cs.map DH)] (.v .nilIface):=by
 have hlm:=km (llq rs).length;have hck:=oK rs r h;rw[hc]at hck;refine af func156 ?_;refine gc hck ?_;refine gC (fun t12=>?_) (fun t12=>?_) (st1:=(3,0));cases t12;refine gl ?_;refine aM [1,2,14,15] [2] (fun(i:Nat)=>[(16,some (i64 i))]) (fun _=>[]) (fun i=>i<=cs.length) (fun i=>cs.length-i) 0 (zero_le _) ?_;rintro i hi K1 J1;refine gC (fun t17=>?_) (fun t17=>?_)
 ·have hin:=aW t17;obtain⟨z,hzi⟩:=aw hin;have hz9:=hz z (mem_of_getElem? hzi);refine gi (ax hzi) ?_;refine gc (Bk h hc hz9.x hz9.y hz9.r oz) ?_;refine gC (fun t24=>?_) (fun t24=>?_) (st1:=(9,0));cases t24;refine ga aH ?_;exact aG J1 (i+1) hin
 refine gc (FE h hc cs hz hl) ?_;refine ae ?_;rfl
theorem Rz(h:TR rs r)(hc:a9 rs=0){x y x2 y2:Et (llq rs)}[c0:Ct (llq rs) 310000 65000][i1:Zl (llq rs) 310000 65000 a x 40 40][i2:Zl (llq rs) 310000 65000 b y 40 40][i4:Zl (llq rs) 310000 65000 a2 x2 40 40][i5:Zl (llq rs) 310000 65000 b2 y2 40 40] :
  FP 53 [cf rs,aA a b,aA a2 b2] (.tup [nA (sX (aC (x,y) (x2,y2))),.v .nilIface]):=by
 obtain⟨_,etw⟩:=cA h hc;obtain⟨R,tw,hk⟩:=c0.ex;have kk:=c0.kk hk;obtain⟨K,hK⟩:∃K,40*310000+40*65000=K:=⟨_,rfl⟩
 have hlm:=km (llq rs).length;have n1:=i1.nm;have n2:=i2.nm;have n4:=i4.nm;have n5:=i5.nm
 have hca:=rg tw [(a,b),(a2,b2)] (e:=40*310000+40*65000) (fun p hp=>by
  simp only[mem_cons,not_mem_nil,or_false]at hp;rcases hp with rfl |rfl
  ·exact⟨n1,n2⟩
  ·exact⟨n4,n5⟩) oz (by show 2<=500;omega)
 rw[<- etw]at hca;have hle:=BH tw n4 n5 n1 n2 oz;have m1:=n4.sub n1;have m2:=n5.sub n2;have hdo:=GD tw m1 m2 m1 m2 oz;rw[i1.eq,i2.eq,i4.eq,i5.eq]at hle;rw[i1.eq,i2.eq,i4.eq,i5.eq,a6,a6]at hdo;have hd2:=Rj (x,y) (x2,y2);refine af func53 ?_;refine gc hca ?_;refine gC (fun t17=>?_) (fun t17=>?_) (st1:=(3,0)) (st2:=(5,0));cases t17;refine gW (Wk.of (sl:=[(4,some (.ptr 4 0)),(5,some (.ptr 5 0)),(9,some (.ptr 21 0))]) (hp:=[(4,some (.box [nA a,nA b])),(5,some (.box [nA a2,nA b2])),(21,some (.box [.lst 1 ((llq rs).map nA),.v .nilIface]))]) aY (.k (.k (.cons rfl (BlkSub.bL (.cons (.of (kq etw)) (.cons (.refl _) .nil)) rfl) .nil)))) ?_;refine gt (ay (Con.rB 21 rfl rfl rfl rfl hle) (az rfl rfl rfl) aE rfl rfl) ?_;refine gt (ay (Con.rB 21 rfl rfl rfl rfl hdo) (az rfl rfl rfl) aE rfl rfl) ?_;refine gt (ay (Con.rB 21 rfl rfl rfl rfl (EE _ _)) (bB rfl rfl) aE rfl rfl) ?_;refine bj ?_;rw[<- hd2];rfl
theorem ri(rs:List (List Rt))(a:List Rat):Con prog 265 [.ptr 1000 0,nA a,.v .nilIface] [(1000,some (dQ rs))] (nA a) [(1000,some (dQ rs))]:=by
 refine gF func265 (fun k z h=>bq h) ?_;refine gC (fun t11=>?_) (fun t11=>?_) (st2:=(77777,0))
 ·refine gR ?_;exact ao.keep (bb rfl)
 cases t11
end
section
variable{rs:List (List Rt)}{r u k:Nat}{a b:List Rat}{x y:Et (llq rs)}{w v w' v':Nat}
theorem SW (h : TR rs r) (hc : a9 rs = 0) [c0 : Ct (llq rs) u k] [ha : Zl (llq rs) u k a x w v] [hb : Zl (llq rs) u k b y w' v'] (hs : w + v + (w' + v') <= 10000 := by decide) :
  Con prog 260 [.ptr 1000 0,nA a,nA b] [(1000,some (dQ rs))] (nA (sX (x+y))) [(1000,some (dQ rs))]:=by
 have hx:=SV (ha:=ha) (hb:=hb) hs;rw[oT h hc]at hx;refine gF func260 (fun k z h=>bq h) ?_;refine gc hx ?_;refine gt (ay (ri _ _) (az rfl rfl rfl) aE rfl rfl) ?_;refine gR ?_;exact ao.keep (bb rfl)
theorem Ex (h : TR rs r) (hc : a9 rs = 0) [c0 : Ct (llq rs) u k] [ha : Zl (llq rs) u k a x w v] [hb : Zl (llq rs) u k b y w' v'] (hs : w + v + (w' + v') <= 10000 := by decide) :
  Con prog 256 [.ptr 1000 0,nA a,nA b] [(1000,some (dQ rs))] (nA (sX (x-y))) [(1000,some (dQ rs))]:=by
 have hx:=HB (ha:=ha) (hb:=hb) hs;rw[oT h hc]at hx;refine gF func256 (fun k z h=>bq h) ?_;refine gc hx ?_;refine gt (ay (ri _ _) (az rfl rfl rfl) aE rfl rfl) ?_;refine gR ?_;exact ao.keep (bb rfl)
theorem xu (h : TR rs r) (hc : a9 rs = 0) [c0 : Ct (llq rs) u k] [ha : Zl (llq rs) u k a x w v] [hb : Zl (llq rs) u k b y w' v'] (hs : w + v + (w' + v') <= 10000 := by decide) :
  Con prog 266 [.ptr 1000 0,nA a,nA b] [(1000,some (dQ rs))] (nA (sX (x*y))) [(1000,some (dQ rs))]:=by
 have hx:=Hy (ha:=ha) (hb:=hb) hs;rw[oT h hc]at hx;refine gF func266 (fun k z h=>bq h) ?_;refine gc hx ?_;refine gt (ay (ri _ _) (az rfl rfl rfl) aE rfl rfl) ?_;refine gR ?_;exact ao.keep (bb rfl)
theorem Tv (h : TR rs r) (hc : a9 rs = 0) [c0 : Ct (llq rs) u k] (n : Int) (hn : -9223372036854775808 <= n /\ n <= 9223372036854775807) [hq : Qz u (n : Rat) w'] [ha : Zl (llq rs) u k a x w v] (hs : w' + 0 + (w + v) <= 10000 := by decide) :
  Con prog 257 [.ptr 1000 0,i64 n,nA a] [(1000,some (dQ rs))] (nA (sX (qE (n:Rat)*x))) [(1000,some (dQ rs))]:=by
 have hm:=xu (a:=sh 0 ((n:Rat):Rat)) (b:=a) h hc hs;refine gF func257 (fun k z h=>bq h) ?_;refine gc (mo n hn) ?_;refine gc (od (mK hn)) ?_;refine gt (ay hm (az rfl rfl rfl) aE rfl rfl) ?_;refine gR ?_;exact ao.keep (bb rfl)
end
section
variable{rs:List (List Rt)}{r:Nat}{a b c a2 b2 c2:List Rat}{x y z x2 y2 z2:Et (llq rs)}
theorem L9(h:TR rs r)(hc:a9 rs=0)[c0:Ct (llq rs) 310000 65000][i1:Zl (llq rs) 310000 65000 a x 40 40][i2:Zl (llq rs) 310000 65000 b y 40 40][i3:Zl (llq rs) 310000 65000 c z 3 0][i4:Zl (llq rs) 310000 65000 a2 x2 40 40][i5:Zl (llq rs) 310000 65000 b2 y2 40 40][i6:Zl (llq rs) 310000 65000 c2 z2 3 0] :
  Con prog 157 [.ptr 1000 0,.agg [nA a,nA b,nA c],.agg [nA a2,nA b2,nA c2]] [(1000,some (dQ rs))] (.tup [nA (sX (bC (x,y) z (x2,y2) z2)),nA (sX (aC (x,y) (x2,y2)))]) [(1000,some (dQ rs))]:=by
 have hd:=Rz (a:=a) (b:=b) (a2:=a2) (b2:=b2) h hc;haveI:=i3.zu;haveI:=i6.zu;haveI zd:=DV c0 i1.zu i2.zu i4.zu i5.zu;haveI q4:Qz 310000 ((4:Int):Rat) 1:=Qz.int (c:=Ct.cx (c:=c0)) (by decide);have m1:=SW (a:=c) (b:=sX (aC (x,y) (x2,y2))) h hc (by decide);have m2:=Ex (a:=sX (z+aC (x,y) (x2,y2))) (b:=c2) h hc (by decide);have m3:=xu (a:=c) (b:=sX (aC (x,y) (x2,y2))) h hc (by decide);have m4:=Tv (a:=sX (z*aC (x,y) (x2,y2))) h hc 4 oz (by decide);have m5:=xu (a:=sX (z+aC (x,y) (x2,y2)-z2)) (b:=sX (z+aC (x,y) (x2,y2)-z2)) h hc (by decide);have m6:=Ex (a:=sX (qE ((4:Int):Rat)*(z*aC (x,y) (x2,y2)))) (b:=sX ((z+aC (x,y) (x2,y2)-z2)*(z+aC (x,y) (x2,y2)-z2))) h hc (by decide);refine gF func157 (fun k z h=>bq h) ?_;refine gc hd ?_;refine gt (aR (ri _ _) (az rfl rfl rfl) rfl rfl rfl) ?_;refine gD ?_;refine gt (aR m1 (az rfl rfl rfl) rfl rfl rfl) ?_;refine gt (aR m2 (az rfl rfl rfl) rfl rfl rfl) ?_;refine gD ?_;refine gt (aR m3 (az rfl rfl rfl) rfl rfl rfl) ?_;refine gt (aR m4 (.cons (.tmp rfl) (.cons (.const _) (cI rfl))) rfl rfl rfl) ?_;refine gt (aR m5 (az rfl rfl rfl) rfl rfl rfl) ?_;refine gt (aR m6 (az rfl rfl rfl) rfl rfl rfl) ?_;refine gR ?_;exact ao.keep (bb rfl)
end
class Cy(ts:LL)(u k:outParam Nat):Prop where
  ex:∃R,Tw ts R/\eB R ts.length<=k
  k1:1<=k
  u3:3<=u
  two:ts.length<=2
instance Cy.cx{ts:LL}{u k:Nat}[c:Cy ts u k]:Cx (aj ts) ts.length u k:=by
  obtain⟨R,tw,h⟩:=c.ex;exact⟨⟨R,CN tw▸tw,h⟩,c.k1,c.u3⟩
theorem Cy.zq{ts:LL}{u k:Nat}[c:Cy ts u k]{q:Rat}{w:Nat}[h:Qz u q w]:Zl ts u k (sh 0 (q:Rat)) (qE q:Et ts) w 0:=⟨jK _ q,by
 obtain⟨R,tw,_⟩:=c.ex;exact(Nm.ofQ tw.five h.cb).eq oz⟩
theorem Cy.lm{ts:LL}{u k:Nat}(c:Cy ts u k):lm ts.length=200000000000:=by unfold Go.Lw.lm;rw[if_pos c.two]
def iE{ts:LL}(y:Et ts):Et ts:=T.inv (aj ts) ts.length y
abbrev a7(ts:LL):Blk:=.box [.lst 1 (ts.map nA),.v .nilIface]
theorem zN(ts:LL):dQ (ts.map (List.map rt))=a7 ts:=by
 have h:=gT ts;unfold cf aI at h;have h1:=AV.agg.inj h
 injection h1 with h2
 show Blk.box [.lst 1 ((ts.map (List.map rt)).map nR),.v .nilIface]=_;rw[h2]
section
variable{ts:LL}{u k:Nat}{a b:List Rat}{x y:Et ts}{w v w' v':Nat}
theorem Pa[c:Cy ts u k][ha:Zl ts u k a x w v][hb:Zl ts u k b y w' v'](hs:w*u+v*k+(w'*u+v'*k)<200000000000):FP 329 [aI ts,nA a,nA b] (.tup [nA (sX (x+y)),.v .nilIface]):=by
 obtain⟨R,tw,hk⟩:=c.ex;have h1:=xG tw ha.nm hb.nm (by rw[c.lm];omega);rw[ha.eq,hb.eq]at h1;exact h1
theorem Ls[c:Cy ts u k][ha:Zl ts u k a x w v][hb:Zl ts u k b y w' v'](hs:w*u+v*k+(w'*u+v'*k)<200000000000):FP 163 [aI ts,nA a,nA b] (.tup [nA (sX (x-y)),.v .nilIface]):=by
 obtain⟨R,tw,hk⟩:=c.ex;have h1:=oO tw ha.nm hb.nm (by rw[c.lm];omega);rw[ha.eq,hb.eq]at h1;exact h1
theorem Og[c:Cy ts u k][ha:Zl ts u k a x w v][hb:Zl ts u k b y w' v'](hs:w*u+v*k+(w'*u+v'*k)<200000000000):FP 164 [aI ts,nA a,nA b] (.tup [nA (sX (x*y)),.v .nilIface]):=by
 obtain⟨R,tw,hk⟩:=c.ex;have h1:=AK tw ha.nm hb.nm (by rw[c.lm];omega);rw[ha.eq,hb.eq]at h1;exact h1
theorem Hi[c:Cy ts u k][ha:Zl ts u k a x w v](hs:w*u+v*k<200000000000):FP 138 [aI ts,nA a] (.tup [nA (sX (-x)),.v .nilIface]):=by
 obtain⟨R,tw,hk⟩:=c.ex;have h1:=zD tw ha.nm (by rw[c.lm];omega);rw[ha.eq]at h1;exact h1
theorem CG[c:Cy ts u k][ha:Zl ts u k a x w v](hs:w*u+v*k<200000000000):FP 267 [aI ts,nA a] (.tup [i64 (ak x),.v .nilIface]):=by
 obtain⟨R,tw,hk⟩:=c.ex;have h1:=EV tw ha.nm (by rw[c.lm];omega);rw[ha.eq]at h1;exact h1
theorem O2{j m:Nat}[c:Cy ts u k][ha:Zl ts u k a x w v][hb:Zl ts u k b y w' v'](nb:Nl j b)(hj:j<=ts.length)(h0:ak y≠0)(hm:∀R,eB R ts.length<=k->iB R j (w'*u+v'*k)<=m)(hf:w'*u+v'*k<200000000000)(hs:w*u+v*k+m+k<=200000000000) :
  FP 271 [aI ts,nA a,nA b] (.tup [nA (sX (x*iE y)),.v .nilIface])/\Nm ts.length (w*u+v*k+m+k) (sX (x*iE y)):=by
 obtain⟨R,tw,hk⟩:=c.ex;have hi:=hm R hk;have he:=hb.eq;have h1:T.sgn (aj ts) ts.length (ad ts.length b)≠0:=by rw[he];exact h0
 have hd:=xN tw ha.nm hb.nm hj nb h1 (by rw[c.lm];omega) oz;have hn:=yU tw ha.nm hb.nm hj nb h1 (by rw[c.lm];omega) oz;rw[ha.eq,he]at hd hn;exact⟨hd,hn.mono oz⟩
theorem p9{j:Nat}[c:Cy ts u k][ha:Zl ts u k a x w v][hb:Zl ts u k b y w' v'](nb:Nl j b)(hj:j<=ts.length)(hj1:j<=1)(h0:ak y≠0)(hs:(w+5*w')*u+(v+5*v'+3)*k<=200000000000) :
  FP 271 [aI ts,nA a,nA b] (.tup [nA (sX (x*iE y)),.v .nilIface])/\Zu u k (x*iE y) (w+5*w') (v+5*v'+3):=by
 have e:(w+5*w')*u+(v+5*v'+3)*k=w*u+v*k+(5*(w'*u+v'*k)+2*k)+k:=by
  simp only[Nat.add_mul,Nat.mul_add,Nat.mul_assoc];omega
 rw[e]at hs
 have h:=O2 (a:=a) (b:=b) (m:=5*(w'*u+v'*k)+2*k) nb hj h0 (fun R hR=>by
  have h2:=LG R (w'*u+v'*k) hj1;have h3:=g9 R hj;omega) oz hs
 exact⟨h.1,⟨h.2.eq e.symm⟩⟩
theorem oL(ts:LL)(a:List Rat):Con prog 265 [.ptr 1000 0,nA a,.v .nilIface] [(1000,some (a7 ts))] (nA a) [(1000,some (a7 ts))]:=by
 have h:=ri (ts.map (List.map rt)) a;rw[zN]at h;exact h
theorem o9(ts:LL)(a:List Rat):Con prog 68 [.ptr 1000 0,nA a,.v .nilIface] [(1000,some (a7 ts))] (nA a) [(1000,some (a7 ts))]:=by
 have h:=ug (ts.map (List.map rt)) a;rw[zN]at h;exact h
theorem jS[c:Cy ts u k][ha:Zl ts u k a x w v][hb:Zl ts u k b y w' v'](hs:w*u+v*k+(w'*u+v'*k)<200000000000) :
  Con prog 260 [.ptr 1000 0,nA a,nA b] [(1000,some (a7 ts))] (nA (sX (x+y))) [(1000,some (a7 ts))]:=by
 refine gF func260 (fun k z h=>bq h) ?_;refine gc (Pa hs) ?_;refine gt (ay (oL _ _) (az rfl rfl rfl) aE rfl rfl) ?_;refine gR ?_;exact ao.keep (bb rfl)
theorem kG[c:Cy ts u k][ha:Zl ts u k a x w v][hb:Zl ts u k b y w' v'](hs:w*u+v*k+(w'*u+v'*k)<200000000000) :
  Con prog 256 [.ptr 1000 0,nA a,nA b] [(1000,some (a7 ts))] (nA (sX (x-y))) [(1000,some (a7 ts))]:=by
 refine gF func256 (fun k z h=>bq h) ?_;refine gc (Ls hs) ?_;refine gt (ay (oL _ _) (az rfl rfl rfl) aE rfl rfl) ?_;refine gR ?_;exact ao.keep (bb rfl)
theorem jm[c:Cy ts u k][ha:Zl ts u k a x w v][hb:Zl ts u k b y w' v'](hs:w*u+v*k+(w'*u+v'*k)<200000000000) :
  Con prog 266 [.ptr 1000 0,nA a,nA b] [(1000,some (a7 ts))] (nA (sX (x*y))) [(1000,some (a7 ts))]:=by
 refine gF func266 (fun k z h=>bq h) ?_;refine gc (Og hs) ?_;refine gt (ay (oL _ _) (az rfl rfl rfl) aE rfl rfl) ?_;refine gR ?_;exact ao.keep (bb rfl)
theorem r4{q:List Rat}(hd:FP 271 [aI ts,nA a,nA b] (.tup [nA q,.v .nilIface])) :
  Con prog 259 [.ptr 1000 0,nA a,nA b] [(1000,some (a7 ts))] (nA q) [(1000,some (a7 ts))]:=by
 refine gF func259 (fun k z h=>bq h) ?_;refine gc hd ?_;refine gt (ay (oL _ _) (az rfl rfl rfl) aE rfl rfl) ?_;refine gR ?_;exact ao.keep (bb rfl)
theorem pb[c:Cy ts u k][ha:Zl ts u k a x w v](hs:w*u+v*k<200000000000) :
  Con prog 253 [.ptr 1000 0,nA a] [(1000,some (a7 ts))] (i64 (ak x)) [(1000,some (a7 ts))]:=by
 refine gF func253 (fun k z h=>bq h) ?_;refine gC (fun t11=>?_) (fun t11=>?_) (st1:=(2,0));cases t11;refine gc (CG hs) ?_;refine gR ?_;exact ao.keep (bb rfl)
theorem ux{q:List Rat}(hd:FP 271 [aI ts,nA a,nA b] (.tup [nA q,.v .nilIface])) :
  Con prog 153 [.ptr 1000 0,nA a,nA b] [(1000,some (a7 ts))] (nA q) [(1000,some (a7 ts))]:=by
 refine gF func153 (fun k z h=>bq h) ?_;refine gc hd ?_;refine gt (ay (o9 _ _) (az rfl rfl rfl) aE rfl rfl) ?_;refine gR ?_;exact ao.keep (bb rfl)
theorem xi[c:Cy ts u k][ha:Zl ts u k a x w v](hs:w*u+v*k<200000000000) :
  Con prog 150 [.ptr 1000 0,nA a] [(1000,some (a7 ts))] (i64 (ak x)) [(1000,some (a7 ts))]:=by
 refine gF func150 (fun k z h=>bq h) ?_;refine gC (fun t11=>?_) (fun t11=>?_) (st1:=(2,0));cases t11;refine gc (CG hs) ?_;refine gR ?_;exact ao.keep (bb rfl)
theorem yx[c:Cy ts u k](n:Int)(hn:-9223372036854775808<=n/\n<=9223372036854775807)[hq:Qz u (n:Rat) w'][ha:Zl ts u k a x w v](hs:w'*u+0*k+(w*u+v*k)<200000000000) :
  Con prog 257 [.ptr 1000 0,i64 n,nA a] [(1000,some (a7 ts))] (nA (sX (qE (n:Rat)*x))) [(1000,some (a7 ts))]:=by
 haveI:=Cy.zq (ts:=ts) (u:=u) (k:=k) (q:=(n:Rat)) (w:=w');have hm:=jm (ts:=ts) (u:=u) (k:=k) (a:=sh 0 ((n:Rat):Rat)) (b:=a) (x:=qE (n:Rat)) (y:=x) hs;refine gF func257 (fun k z h=>bq h) ?_;refine gc (mo n hn) ?_;refine gc (od (mK hn)) ?_;refine gt (ay hm (az rfl rfl rfl) aE rfl rfl) ?_;refine gR ?_;exact ao.keep (bb rfl)
theorem tI{p1 p2 v1 v2 c m1 m2 q1 q2:List Rat}(h1:Con prog 266 [.ptr 1000 0,nA c,nA v1] [(1000,some (a7 ts))] (nA m1) [(1000,some (a7 ts))])
  (h2:Con prog 266 [.ptr 1000 0,nA c,nA v2] [(1000,some (a7 ts))] (nA m2) [(1000,some (a7 ts))])
  (h3:Con prog 260 [.ptr 1000 0,nA p1,nA m1] [(1000,some (a7 ts))] (nA q1) [(1000,some (a7 ts))])
  (h4:Con prog 260 [.ptr 1000 0,nA p2,nA m2] [(1000,some (a7 ts))] (nA q2) [(1000,some (a7 ts))]) :
  Con prog 258 [.ptr 1000 0,aA p1 p2,nA c,aA v1 v2] [(1000,some (a7 ts))] (aA q1 q2) [(1000,some (a7 ts))]:=by
 refine gF func258 (fun k z h=>bq h) ?_;refine gt (ay h1 (az rfl rfl rfl) aE rfl rfl) ?_;refine gt (ay h3 (az rfl rfl rfl) aE rfl rfl) ?_;refine gt (ay h2 (az rfl rfl rfl) aE rfl rfl) ?_;refine gt (ay h4 (az rfl rfl rfl) aE rfl rfl) ?_;refine gD ?_;refine gR ?_;exact ao.keep (bb rfl)
theorem Dd{r e:Nat}(tw:Tw ts r)(ha:Nm ts.length e a)(he:e<=lm ts.length)(hs:0<=T.sgn (aj ts) ts.length (ad ts.length a)) :
  Con prog 261 [.ptr 1000 0,nA a] [(1000,some (a7 ts))] (nA (cc ts.length)) [(1000,some (a7 (aJ ts a)))]:=by
 refine gF func261 (fun k z h=>bq h) ?_;refine gC (fun t12=>?_) (fun t12=>?_) (st1:=(2,0));cases t12;refine gc (HY tw ha he hs) ?_;refine gC (fun t24=>?_) (fun t24=>?_) (st1:=(5,0));cases t24;refine gR ?_;exact ao.keep (bb rfl)
abbrev Bg(ts:LL)(ps:List AV):AV:=.agg [.lst 1 (ts.map nA),.lst 2 ps]
theorem Qq{r:Nat}(tw:Tw ts r):Con prog 354 [.ptr 1000 0] [(1000,some (a7 ts))] (aI ts) [(1000,some (a7 ts))]:=by
 have h3:=tw.three;have hqs:=tw.rb.qs tw.le;refine gF func354 (fun k z h=>bq h) ?_;refine gl ?_;refine gW (Wk.virt 900 1 rfl) ?_;refine aM [2,3,13,14] [1000,2] (fun(i:Nat)=>[(15,some (i64 i))]) (fun i=>[(3,some (.box [.ms 900 1 0 i])),(900,some (.row 1 ((ts.take i).map nA)))]) (fun i=>i<=ts.length) (fun i=>ts.length-i) 0 (zero_le _) ?_ (h2:=(.cons rfl (BlkSub.bL (.cons (.nM _ _ _) .nil) rfl) (.k .nil)));rintro i hi K1 J1;refine gC (fun t16=>?_) (fun t16=>?_) (st2:=(13,0))
 ·have hin:=aW t16;obtain⟨d,hd⟩:=aw hin
  have hdl:d.length<=32:=by
   have h9:=tw.len i hin;rw[aD hd]at h9;have:2^i<=32:=b8 (b:=5) oz;omega
  have hdq:=hqs d (mem_of_getElem? hd);refine gi (ax hd) ?_;refine gl ?_;refine gW (Wk.virt 901 3 rfl) ?_;refine aM [2,3,13,14,15,19,20] [1000,2,3,900] (fun(j:Nat)=>[(6,some (.ms 901 3 0 j)),(21,some (i64 j))]) (fun j=>[(901,some (.row 3 ((d.take j).map qA)))]) (fun j=>j<=d.length) (fun j=>d.length-j) 0 (zero_le _) ?_;rintro j hj K2 J2;refine gC (fun t22=>?_) (fun t22=>?_) (st2:=(11,0))
  ·have hjn:=aW t22;obtain ⟨q,hq⟩:=aw hjn;have hadd:=ou (rt q) (rt 0) (hdq q (mem_of_getElem? hq)).ok Qs.zero.ok;rw [sN,bA] at hadd;refine gi (ax hq) ?_;refine gc (Con.sA (.cons (.refl _) (.cons gK .nil)) hadd) ?_;refine gs (cq (.tmp rfl) rfl (by rw [length_map,length_take]; omega) (.tmp rfl) T67 rfl T45 rfl rfl (by simp only [length_cons,length_nil]; omega) rfl rfl) ?_ (10,0);refine gW (Wk.of (sl:=[(2,some (.ptr 2 0)),(3,some (.ptr 3 0)),(13,some (.lst 1 (ts.map nA))),(14,some (i64 ts.length)),(15,some (i64 i)),(6,some (.ms 30 3 0 (j + 1))),(19,some (nA d)),(20,some (i64 d.length)),(21,some (i64 j))]) (hp:=[(1000,some (a7 ts)),(2,some (.box [nS])),(3,some (.box [.ms 900 1 0 i])),(900,some (.row 1 ((ts.take i).map nA))),(30,some (.row 3 ((d.take (j + 1)).map qA)))]) aY (.k (.k (.k (.k (.cons rfl (BlkSub.of (by rw [dl hq,map_append]; rfl)) .nil)))))) ?_ (10,0)
   refine gW (Wk.rk (k:=30) (d:=901) rfl rfl) ?_;refine ga aH ?_;exact aG J2 (j+1) hjn
  have hjn:=be hj t22;subst hjn;refine gW ((Wk.freeze (k:=901) rfl).trans<|Wk.of (sl:=[(2,some (.ptr 2 0)),(3,some (.ptr 3 0)),(13,some (.lst 1 (ts.map nA))),(14,some (i64 ts.length)),(15,some (i64 i)),(6,some (nA d))]) (hp:=[(1000,some (a7 ts)),(2,some (.box [nS])),(3,some (.box [.ms 900 1 0 i])),(900,some (.row 1 ((ts.take i).map nA)))]) (.k (.k (.k (.k (.k (.cons rfl (Sub.of (by rw[bO (by simp)];simp[nA])) .nil)))))) (.k (.k (.k (.k .nil))))) ?_
  refine gs (cq (.tmp rfl) rfl (by rw[length_map,length_take];omega) (.tmp rfl) T35 rfl T67 rfl rfl (by simp only[length_cons,length_nil];omega) rfl rfl) ?_ (12,0);refine gW (Wk.of (sl:=[(2,some (.ptr 2 0)),(3,some (.ptr 3 0)),(13,some (.lst 1 (ts.map nA))),(14,some (i64 ts.length)),(15,some (i64 i))]) (hp:=[(1000,some (a7 ts)),(2,some (.box [nS])),(3,some (.box [.ms 36 1 0 (i+1)])),(36,some (.row 1 ((ts.take (i+1)).map nA)))]) aY (.k (.k (.k (.cons rfl (BlkSub.of (by rw[dl hd,map_append];rfl)) .nil))))) ?_ (12,0);refine gW (Wk.rk (k:=36) (d:=900) rfl rfl) ?_;refine ga aH ?_;exact aG J1 (i+1) hin
 have hin:=be hi t16;subst hin;refine gW ((Wk.freeze (k:=900) rfl).trans<|Wk.of (sl:=[(2,some (.ptr 2 0)),(3,some (.ptr 3 0))]) (hp:=[(1000,some (a7 ts)),(2,some (.box [nS])),(3,some (.box [.lst 1 (ts.map nA)]))]) aY (.k (.k (.cons rfl (BlkSub.bL (.cons (Sub.of (by rw[bO (by simp)];simp)) .nil) rfl) .nil)))) ?_;refine gR ?_;exact ao.keep (bb rfl)
theorem m8{r:Nat}(tw:Tw ts r)(ps:List AV):Con prog 255 [.ptr 1000 0,.lst 2 ps] [(1000,some (a7 ts))] (.tup [Bg ts ps,.v .nilIface]) [(1000,some (a7 ts))]:=by
 refine gF func255 (fun k z h=>bq h) ?_;refine gC (fun t10=>?_) (fun t10=>?_) (st1:=(2,0));cases t10;refine gt (ay (Qq tw) (cI rfl) aE rfl rfl) ?_;refine gR ?_;exact ao.keep (bb rfl)
end
theorem dP(ts:LL)(a:List Rat):(aJ ts a).length=ts.length+1:=by simp[aJ]
theorem Gv{ts:LL}{a:List Rat}{j:Nat}(h:j<ts.length):(aJ ts a).getD j []=ts.getD j []:=by
 unfold aJ;rw[getD_eq_getElem?_getD,getD_eq_getElem?_getD,getElem?_append_left h]
theorem u6(ts:LL)(a:List Rat):(aJ ts a).getD ts.length []=aQ a (2^ts.length):=by
 unfold aJ;rw[getD_eq_getElem?_getD,getElem?_append_right (le_refl _),Nat.sub_self];rfl
theorem wJ{ts:LL}{a:List Rat}{j:Nat}(h:j<ts.length):aj (aJ ts a) j=aj ts j:=by
 unfold aj;rw[Gv h]
theorem zH{ts:LL}{a:List Rat}{j:Nat}(h:j<=ts.length)(x:T j):T.sgn (aj (aJ ts a)) j x=T.sgn (aj ts) j x :=
 T.sgn_congr j (fun i hi=>wJ oz) x
theorem RB.ext{r e:Nat}{ts:LL}{a:List Rat}(h:RB r ts)(ha:Cb e a):RB (r+e) (aJ ts a):=by
 obtain⟨D,N,h0,h1,h2,h3⟩:=h;obtain⟨D',N',k1,k2,k3⟩:=ha.wide (n:=2^ts.length);have hN:N<=2^r:=h3;refine⟨D*D',max (N*D') (N'*D),Nat.mul_pos h0 k1.1,?_,?_,?_⟩
 ·intro d hd;rcases List.mem_append.1 hd with h9 |h9
  ·exact((h1 d h9).scale k1.1).mono (Nat.le_max_left _ _)
  ·rw[List.mem_singleton.1 h9,Nat.mul_comm D];exact(k1.scale h0).mono (Nat.le_max_right _ _)
 ·rw[pow_add];exact Nat.mul_le_mul h2 k2
 ·rw[pow_add];refine Nat.max_le.2 ⟨Nat.mul_le_mul h3 k2,?_⟩;rw[Nat.mul_comm (2^r)];exact Nat.mul_le_mul k3 h2
theorem xy{r e:Nat}{ts:LL}{a:List Rat}(tw:Tw ts r)(h2:ts.length<=2)(ha:Nm ts.length e a)(he:r+e<=5000000000)(hs:0<=T.sgn (aj ts) ts.length (ad ts.length a)):Tw (aJ ts a) (r+e):=by
 refine⟨by rw[dP];omega,?_,?_,tw.rb.ext ha.cb,he⟩
 ·intro j hj;rw[dP]at hj;rcases lt_or_ge j ts.length with h |h
  ·rw[Gv h];exact tw.len j h
  ·have : j = ts.length := by omega
   subst this;rw[u6];exact dI ha.nl.le
 ·intro j hj;rw[dP]at hj;rw[zH oz];rcases lt_or_ge j ts.length with h |h
  ·rw[wJ h];exact tw.pos j h
  ·have : j = ts.length := by omega
   subst this
   have e1:aj (aJ ts a) ts.length=ad ts.length a:=by
    show ad ts.length ((aJ ts a).getD ts.length [])=_;rw[u6,nG]
   rw[e1];exact hs
theorem lW{ts:LL}{a l:List Rat}{e:Nat}(h:Nm ts.length e l)(h4:ts.length<=4):Nm (aJ ts a).length e l:=by
 rw[dP];exact⟨by omega,h.nl.mono oz,h.cb⟩
theorem PU{ts:LL}{a l:List Rat}(h:Nl ts.length l):ak (dE (aJ ts a) l)=ak (dE ts l):=by
 unfold ak dE;rw[dP];show T.sgn (aj (aJ ts a)) (ts.length+1) (ad (ts.length+1) l)=_;rw[tB (aj (aJ ts a)) h.le (Nat.le_succ _),zH (le_refl _)]
theorem rI{ts:LL}{a:List Rat}(h4:ts.length<=4):Nm (aJ ts a).length 1 (cc ts.length):=by
 rw[dP];refine⟨by omega,.inr ⟨_,le_refl _,z5 _⟩,1,1,⟨by omega,?_⟩,by omega,by omega⟩;intro q hq;unfold cc at hq;rcases List.mem_or_eq_of_mem_set hq with h |h
 ·rw[(List.mem_replicate.1 h).2];exact⟨0,by rw[Rat.zero_mul];rfl,by simp⟩
 ·rw[h];exact⟨1,by rw[Rat.one_mul];rfl,by simp⟩
theorem Kg{r e k:Nat}{ts:LL}{a:List Rat}(tw:Tw ts r)(h1:ts.length<=1)(ha:Nm ts.length e a)(he:r+e<=5000000000)(hs:0<=T.sgn (aj ts) ts.length (ad ts.length a)){u:Nat}(hu:3<=u)(hk:3*(r+e)+6<=k):Cy (aJ ts a) u k :=
 ⟨⟨r+e,xy tw oz ha he hs,by
  rw[dP];have h:=g9 (r+e) (show ts.length+1<=2 by omega);have h2:eB (r+e) 2=3*(r+e)+6:=by simp only[eB];omega
  omega⟩,by omega,hu,by rw[dP];omega⟩
structure Mt where
  ts:LL
  ps:List (List Rat×List Rat)
abbrev da(p:List Rat×List Rat):AV:=aA p.1 p.2
abbrev Mt.av(m:Mt):AV:=Bg m.ts (m.ps.map da)
abbrev P2(ts:LL):Type:=Et ts×Et ts
abbrev P2.l{ts:LL}(p:P2 ts):List Rat×List Rat:=(sX p.1,sX p.2)
abbrev aL{ts:LL}(X:Et ts)(x:Et ts):Et (aJ ts (sX X)):=dE (aJ ts (sX X)) (sX x)
section
variable{ts:LL}
def ek(d:Et ts):Et ts:=qE ((2:Int):Rat)*d
def fN(p q:P2 ts):P2 ts:=(q.1-p.1,q.2-p.2)
def dS(p:P2 ts)(k:Et ts)(v:P2 ts):P2 ts:=(p.1+k*v.1,p.2+k*v.2)
def eZ(p q:P2 ts)(z z2:Et ts):P2 ts:=dS p ((z+aC p q-z2)*iE (ek (aC p q))) (fN p q)
def ee(X d:Et ts):Et (aJ ts (sX X)):=dE _ (cc ts.length)*iE (aL X (ek d))
def ib(X:Et ts)(f v:P2 ts)(c:Et (aJ ts (sX X))):P2 (aJ ts (sX X)):=dS (aL X f.1,aL X f.2) c (qE ((-1:Int):Rat)*aL X v.2,aL X v.1)
def l7(p:P2 ts)(z z2:Et ts):Mt:=if ak (z-z2)≠0 then⟨ts,[]⟩else if 0<ak z then⟨[],[]⟩else⟨ts,[(dS p 0 p).l]⟩
def eY(p q:P2 ts)(z z2:Et ts):Mt :=
  if ak (aC p q)=0 then l7 p z z2
  else if ak (bC p z q z2)<0 then⟨ts,[]⟩
  else if ak (bC p z q z2)=0 then⟨ts,[(eZ p q z z2).l]⟩
  else⟨aJ ts (sX (bC p z q z2)),[(ib (bC p z q z2) (eZ p q z z2) (fN p q) (ee (bC p z q z2) (aC p q))).l,
    (ib (bC p z q z2) (eZ p q z z2) (fN p q) (qE ((-1:Int):Rat)*ee (bC p z q z2) (aC p q))).l]⟩
def l0(z z2:Et ts):Nat:=if ak (z-z2)=0/\0<ak z then 15 else 0
def fR(p q:P2 ts)(z z2:Et ts):Nat:=if ak (aC p q)=0 then l0 z z2 else 0
theorem Br:Sub (.agg [nS,nS]) (Bg [] []):=Sub.agg (.cons (.nil _ _ _) (.cons (.nil _ _ _) .nil)) rfl
end
theorem JJ {ts : LL} {u k : Nat} [c : Cy ts u k] : Zl ts u k [] (0 : Et ts) 0 0 := ⟨by rw [gQ]; exact E.zero_def.symm, by
 obtain⟨R,tw,_⟩:=c.ex;exact⟨tw.five,.inl rfl,Cb.nil.mono (zero_le _)⟩⟩
section
variable{ts:LL}{a b c a2 b2 c2:List Rat}{x y z x2 y2 z2:Et ts}
theorem LT{r:Nat}(tw:Tw ts r)[c0:Cy ts 310000 65000][i1:Zl ts 310000 65000 a x 40 40][i2:Zl ts 310000 65000 b y 40 40][i3:Zl ts 310000 65000 c z 3 0][i6:Zl ts 310000 65000 c2 z2 3 0] :
  Con prog 254 [.ptr 1000 0,.agg [nA a,nA b,nA c],.agg [nA a2,nA b2,nA c2]] [(1000,some (a7 ts))]
   (.tup [(l7 (x,y) z z2).av,bp (l0 z z2)]) [(1000,some (a7 ts))]:=by
 haveI:=i1.zu;haveI:=i2.zu;haveI:=i3.zu;haveI:=i6.zu;have hm0:=Con.sA (.cons (.refl _) (.cons (Sub.nil 2 none 0) .nil)) (m8 tw []);have m1:=kG (ts:=ts) (u:=310000) (k:=65000) (a:=c) (b:=c2) (by decide);have m2:=pb (ts:=ts) (u:=310000) (k:=65000) (a:=sX (z-z2)) (by decide);have m3:=pb (ts:=ts) (u:=310000) (k:=65000) (a:=c) (by decide);haveI zn:Zl ts 310000 65000 [] (0:Et ts) 0 0:=JJ;have n1:=jm (ts:=ts) (u:=310000) (k:=65000) (a:=[]) (b:=a) (by decide);have n2:=jm (ts:=ts) (u:=310000) (k:=65000) (a:=[]) (b:=b) (by decide);have n3:=jS (ts:=ts) (u:=310000) (k:=65000) (a:=a) (b:=sX (0*x)) (by decide);have n4:=jS (ts:=ts) (u:=310000) (k:=65000) (a:=b) (b:=sX (0*y)) (by decide);have hal:=Con.sA (.cons (.refl _) (.cons (.refl _) (.cons (Sub.nil 3 none 0) (.cons (.refl _) .nil)))) (tI n1 n2 n3 n4);refine gF func254 (fun k z h=>bq h) ?_;refine gt (aR m1 (az rfl rfl rfl) rfl rfl rfl) ?_;refine gt (aR m2 (bB rfl rfl) rfl rfl rfl) ?_;refine gC (fun t8=>?_) (fun t8=>?_)
 ·have h1:ak (z-z2)≠0:=rK t8;refine gt (aR hm0 (.cons (.tmp rfl) (.cons (.const _) .nil)) rfl rfl rfl) ?_;refine gR ?_;exact(ao.keep (bb rfl)).sub (Sub.of (by unfold l7 l0;rw[if_pos h1,if_neg (fun h=>h1 h.1)];rfl))
 have h1:ak (z-z2)=0:=zT t8;refine gt (aR m3 (bB rfl rfl) rfl rfl rfl) ?_;refine gC (fun t22=>?_) (fun t22=>?_)
 ·have h2:0<ak z:=of_decide_eq_true t22;refine gR ?_;exact(ao.keep (bb rfl)).sub (by unfold l7 l0;rw[if_neg oz,if_pos h2,if_pos ⟨h1,h2⟩];exact Sub.tup (.cons Br (.cons (.refl _) .nil)))
 have h2:¬0<ak z:=of_decide_eq_false t22;refine gt (aR hal (.cons (.tmp rfl) (.cons (.tmp rfl) (.cons (.const _) (cI rfl)))) rfl rfl rfl) ?_;refine gt (aR (m8 tw [aA (sX (x+0*x)) (sX (y+0*y))]) (bB rfl rfl) rfl rfl rfl) ?_;refine gR ?_;exact(ao.keep (bb rfl)).sub (Sub.of (by unfold l7 l0;rw[if_neg oz,if_neg h2,if_neg (fun h=>h2 h.2)];rfl))
end
section
variable{rs:List (List Rt)}{r:Nat}{a b c a2 b2 c2:List Rat}{x y z x2 y2 z2:Et (llq rs)}
structure CirP(ts:LL)(p q:P2 ts)(z z2:Et ts):Prop where
  zd:Zu 310000 65000 (aC p q) 320 327
  zX:Zu 310000 65000 (bC p z q z2) 976 989
  zt:Zu 310000 65000 (ek (aC p q)) 321 328
  z1:Zu 310000 65000 (fN p q).1 80 81
  z2:Zu 310000 65000 (fN p q).2 80 81
theorem Bm{ts:LL}{x y z x2 y2 z2:Et ts}(c:Ct ts 310000 65000)(h1:Zu 310000 65000 x 40 40)(h2:Zu 310000 65000 y 40 40)(h3:Zu 310000 65000 z 3 0)(h4:Zu 310000 65000 x2 40 40)(h5:Zu 310000 65000 y2 40 40)(h6:Zu 310000 65000 z2 3 0) :
  CirP ts (x,y) (x2,y2) z z2:=by
 haveI:=c;haveI:=h1;haveI:=h2;haveI:=h3;haveI:=h4;haveI:=h5;haveI:=h6
 haveI zd:=DV c h1 h2 h4 h5;haveI q4:Qz 310000 ((4:Int):Rat) 1:=Qz.int (c:=Ct.cx (c:=c)) (by decide);haveI q2:Qz 310000 ((2:Int):Rat) 1:=Qz.int (c:=Ct.cx (c:=c)) (by decide)
 exact⟨zd,(inferInstance:Zu 310000 65000 (qE ((4:Int):Rat)*(z*aC (x,y) (x2,y2))-(z+aC (x,y) (x2,y2)-z2)*(z+aC (x,y) (x2,y2)-z2)) _ _),
  (inferInstance:Zu 310000 65000 (qE ((2:Int):Rat)*aC (x,y) (x2,y2)) _ _),(inferInstance:Zu 310000 65000 (x2-x) _ _),(inferInstance:Zu 310000 65000 (y2-y) _ _)⟩
theorem Ig{ts:LL}{x y z x2 y2 z2:Et ts}[c0:Cy ts 310000 65000](hn:ts.length<=1)(h1:Zu 310000 65000 x 40 40)(h2:Zu 310000 65000 y 40 40)(h3:Zu 310000 65000 z 3 0)(h6:Zu 310000 65000 z2 3 0)(P:CirP ts (x,y) (x2,y2) z z2)
  (h0:ak (ek (aC (x,y) (x2,y2)))≠0) :
  FP 271 [aI ts,nA (sX (z+aC (x,y) (x2,y2)-z2)),nA (sX (ek (aC (x,y) (x2,y2))))] (.tup [nA (sX ((z+aC (x,y) (x2,y2)-z2)*iE (ek (aC (x,y) (x2,y2))))),.v .nilIface]) /\
  Zu 310000 65000 ((z+aC (x,y) (x2,y2)-z2)*iE (ek (aC (x,y) (x2,y2)))) 1931 1972/\Zu 310000 65000 (eZ (x,y) (x2,y2) z z2).1 2051 2095/\Zu 310000 65000 (eZ (x,y) (x2,y2) z z2).2 2051 2095:=by
 haveI:=h1;haveI:=h2;haveI:=h3;haveI:=h6;haveI:=P.zd;haveI:=P.zt
 have hd:=p9 (ts:=ts) (u:=310000) (k:=65000) (a:=sX (z+aC (x,y) (x2,y2)-z2)) (b:=sX (ek (aC (x,y) (x2,y2)))) (j:=ts.length) P.zt.nm.nl (le_refl _) hn h0 (by decide);haveI zk:=hd.2;haveI:=P.z1;haveI:=P.z2
 exact⟨hd.1,zk,(inferInstance:Zu 310000 65000 (x+((z+aC (x,y) (x2,y2)-z2)*iE (ek (aC (x,y) (x2,y2))))*(fN (x,y) (x2,y2)).1) _ _),
  (inferInstance:Zu 310000 65000 (y+((z+aC (x,y) (x2,y2)-z2)*iE (ek (aC (x,y) (x2,y2))))*(fN (x,y) (x2,y2)).2) _ _)⟩
structure ExtP{ts:LL}(X:Et ts):Prop where
  tw:Tw (aJ ts (sX X)) 366909990
  cy:Cy (aJ ts (sX X)) 773000000 1101400000
theorem sP{ts:LL}{X:Et ts}(tw:Tw ts 64990)(hn:ts.length<=1)(hx:Zu 310000 65000 X 976 989)(hs:0<=ak X):ExtP X:=by
 have h9:0<=T.sgn (aj ts) ts.length (ad ts.length (sX X)):=by rw[show ad ts.length (sX X)=X from a6 _ _];exact hs
 have hm:=hx.nm;exact⟨xy tw oz hm (by decide) h9,Kg tw hn hm (by decide) h9 oz (by decide)⟩
theorem jH{ts:LL}{X x:Et ts}{w v:Nat}(hn:ts.length<=1)(h:Zu 310000 65000 x w v)(hs:w*310000+v*65000<=773000000):Zl (aJ ts (sX X)) 773000000 1101400000 (sX x) (aL X x) 1 0:=Zl.at (lW h.nm oz) hs
theorem oV{ts:LL}{X x:Et ts}:ak (aL X x)=ak x:=by
 show ak (dE (aJ ts (sX X)) (sX x))=_;rw[PU (l:=sX x) (eM _ _)];show ak (dE ts (sX x))=_;rw[show dE ts (sX x)=x from a6 _ _]
theorem wF{ts:LL}{r:Nat}(tw:Tw ts r)(d:Et ts):ak (ek d)=ak d:=by
 have h:=gN (aj ts) ts.length tw.pos
 have h2:sg (aj ts) ts.length (qE ((2:Int):Rat):Et ts)=1:=by
  show T.sgn (aj ts) ts.length (T.ofQ ts.length ((2:Int):Rat))=1;rw[T.sgn_ofQ];rfl
 have h3:=h.mul (qE ((2:Int):Rat)) d;rw[h2,Int.one_mul]at h3;exact h3
structure SideP{ts:LL}(X d:Et ts)(f v:P2 ts):Prop where
  hd:FP 271 [aI (aJ ts (sX X)),nA (cc ts.length),nA (sX (ek d))] (.tup [nA (sX (ee X d)),.v .nilIface])
  ht:Con prog 257 [.ptr 1000 0,i64 (-1),nA (sX v.2)] [(1000,some (a7 (aJ ts (sX X))))] (nA (sX (qE ((-1:Int):Rat)*aL X v.2))) [(1000,some (a7 (aJ ts (sX X))))]
  hu:Con prog 257 [.ptr 1000 0,i64 (-1),nA (sX (ee X d))] [(1000,some (a7 (aJ ts (sX X))))] (nA (sX (qE ((-1:Int):Rat)*ee X d))) [(1000,some (a7 (aJ ts (sX X))))]
  a1:Con prog 258 [.ptr 1000 0,aA (sX f.1) (sX f.2),nA (sX (ee X d)),aA (sX (qE ((-1:Int):Rat)*aL X v.2)) (sX v.1)] [(1000,some (a7 (aJ ts (sX X))))] (da (ib X f v (ee X d)).l) [(1000,some (a7 (aJ ts (sX X))))]
  a2:Con prog 258 [.ptr 1000 0,aA (sX f.1) (sX f.2),nA (sX (qE ((-1:Int):Rat)*ee X d)),aA (sX (qE ((-1:Int):Rat)*aL X v.2)) (sX v.1)] [(1000,some (a7 (aJ ts (sX X))))] (da (ib X f v (qE ((-1:Int):Rat)*ee X d)).l) [(1000,some (a7 (aJ ts (sX X))))]
  n1:Zu 773000000 1101400000 (ib X f v (ee X d)).1 9 6/\Zu 773000000 1101400000 (ib X f v (ee X d)).2 9 6
  n2:Zu 773000000 1101400000 (ib X f v (qE ((-1:Int):Rat)*ee X d)).1 10 7/\Zu 773000000 1101400000 (ib X f v (qE ((-1:Int):Rat)*ee X d)).2 10 7
theorem GO{ts:LL}{X d:Et ts}{f v:P2 ts}(hn:ts.length<=1)(E:ExtP X)(hd:Zu 310000 65000 (ek d) 321 328)(h0:ak (ek d)≠0)(f1:Zu 310000 65000 f.1 2051 2095)(f2:Zu 310000 65000 f.2 2051 2095)
  (v1:Zu 310000 65000 v.1 80 81) (v2:Zu 310000 65000 v.2 80 81):SideP X d f v:=by
 haveI cy:=E.cy;haveI zr:Zl (aJ ts (sX X)) 773000000 1101400000 (cc ts.length) (dE _ (cc ts.length)) 1 0:=Zl.at (rI oz) (by decide);haveI zd:=jH (X:=X) hn hd (by decide);haveI zf1:=jH (X:=X) hn f1 (by decide);haveI zf2:=jH (X:=X) hn f2 (by decide);haveI zv1:=jH (X:=X) hn v1 (by decide);haveI zv2:=jH (X:=X) hn v2 (by decide);haveI:=zf1.zu;haveI:=zf2.zu;haveI:=zv1.zu;haveI:=zv2.zu
 have hdiv:=p9 (ts:=aJ ts (sX X)) (u:=773000000) (k:=1101400000) (a:=cc ts.length) (b:=sX (ek d)) (j:=ts.length) hd.nm.nl (by rw[dP];omega) hn (by rw[oV];exact h0) (by decide);haveI zs:Zu 773000000 1101400000 (ee X d) 6 3:=hdiv.2;haveI qm:Qz 773000000 ((-1:Int):Rat) 1:=Qz.int (c:=Cy.cx (c:=cy)) (by decide);haveI zm:Zu 773000000 1101400000 (qE ((-1:Int):Rat)*aL X v.2) 2 1:=inferInstance;haveI zu:Zu 773000000 1101400000 (qE ((-1:Int):Rat)*ee X d) 7 4:=inferInstance;have ht:=yx (ts:=aJ ts (sX X)) (u:=773000000) (k:=1101400000) (a:=sX v.2) (-1) oz (by decide);have hu:=yx (ts:=aJ ts (sX X)) (u:=773000000) (k:=1101400000) (a:=sX (ee X d)) (-1) oz (by decide)
 have al:∀{c:Et (aJ ts (sX X))}{w k:Nat}(zc:Zu 773000000 1101400000 c w k),w<=7->k<=4 ->
   Con prog 258 [.ptr 1000 0,aA (sX f.1) (sX f.2),nA (sX c),aA (sX (qE ((-1:Int):Rat)*aL X v.2)) (sX v.1)] [(1000,some (a7 (aJ ts (sX X))))] (da (ib X f v c).l) [(1000,some (a7 (aJ ts (sX X))))]:=by
  intro c w k zc hw hk;haveI:=zc;have m1:=jm (ts:=aJ ts (sX X)) (u:=773000000) (k:=1101400000) (a:=sX c) (b:=sX (qE ((-1:Int):Rat)*aL X v.2)) oz;have m2:=jm (ts:=aJ ts (sX X)) (u:=773000000) (k:=1101400000) (a:=sX c) (b:=sX v.1) oz;have m3:=jS (ts:=aJ ts (sX X)) (u:=773000000) (k:=1101400000) (a:=sX f.1) (b:=sX (c*(qE ((-1:Int):Rat)*aL X v.2))) oz;have m4:=jS (ts:=aJ ts (sX X)) (u:=773000000) (k:=1101400000) (a:=sX f.2) (b:=sX (c*aL X v.1)) oz;exact tI m1 m2 m3 m4
 exact⟨hdiv.1,ht,hu,al zs oz oz,al zu oz oz,
  ⟨(inferInstance:Zu 773000000 1101400000 (aL X f.1+ee X d*(qE ((-1:Int):Rat)*aL X v.2)) 9 6),⟨(inferInstance:Zu 773000000 1101400000 (aL X f.2+ee X d*aL X v.1) _ _).nm.mono (by decide)⟩⟩,
  ⟨(inferInstance:Zu 773000000 1101400000 (aL X f.1+qE ((-1:Int):Rat)*ee X d*(qE ((-1:Int):Rat)*aL X v.2)) 10 7),⟨(inferInstance:Zu 773000000 1101400000 (aL X f.2+qE ((-1:Int):Rat)*ee X d*aL X v.1) _ _).nm.mono (by decide)⟩⟩⟩
theorem Ka(h:TR rs 64990)(hc:a9 rs=0)(hn:(llq rs).length<=1)[c0:Ct (llq rs) 310000 65000][i1:Zl (llq rs) 310000 65000 a x 40 40][i2:Zl (llq rs) 310000 65000 b y 40 40][i3:Zl (llq rs) 310000 65000 c z 3 0][i4:Zl (llq rs) 310000 65000 a2 x2 40 40][i5:Zl (llq rs) 310000 65000 b2 y2 40 40][i6:Zl (llq rs) 310000 65000 c2 z2 3 0]
  (ha:a=sX x) (hb:b=sX y) (s1:0<=ak z) (s2:0<=ak z2):FP 147 [cf rs,.agg [nA a,nA b,nA c],.agg [nA a2,nA b2,nA c2]] (.tup [(eY (x,y) (x2,y2) z z2).av,bp (fR (x,y) (x2,y2) z z2)]):=by
 have hz:∀q∈[(a,b,c),(a2,b2,c2)],CiZ rs q:=fun q hq=>by
  simp only[mem_cons,not_mem_nil,or_false]at hq;rcases hq with rfl |rfl
  ·exact⟨i1.nm.mono oz,i2.nm.mono oz,i3.nm.mono oz,by show 0<=ak (dE (llq rs) c);rw[show dE (llq rs) c=z from i3.eq];exact s1⟩
  ·exact⟨i4.nm.mono oz,i5.nm.mono oz,i6.nm.mono oz,by show 0<=ak (dE (llq rs) c2);rw[show dE (llq rs) c2=z2 from i6.eq];exact s2⟩
 have hck:=NG h hc [(a,b,c),(a2,b2,c2)] hz (by show 2<=100;omega);obtain⟨tw,etw⟩:=cA h hc;haveI cy:Cy (llq rs) 310000 65000:=⟨c0.ex,by omega,by omega,by omega⟩
 have P:=Bm c0 i1.zu i2.zu i3.zu i4.zu i5.zu i6.zu;haveI:=P.zd;haveI:=P.zX;haveI:=i3.zu;haveI:=i6.zu;have m1:=pb (ts:=llq rs) (u:=310000) (k:=65000) (a:=sX (aC (x,y) (x2,y2))) (by decide);have m2:=pb (ts:=llq rs) (u:=310000) (k:=65000) (a:=sX (bC (x,y) z (x2,y2) z2)) (by decide);have m0:=Con.sA (.cons (.refl _) (.cons (Sub.nil 2 none 0) .nil)) (m8 tw []);have w1:=kG (ts:=llq rs) (u:=310000) (k:=65000) (a:=a2) (b:=a) (by decide);have w2:=kG (ts:=llq rs) (u:=310000) (k:=65000) (a:=b2) (b:=b) (by decide);haveI q2:Qz 310000 ((2:Int):Rat) 1:=Qz.int (c:=Cy.cx (c:=cy)) (by decide);have t2:=yx (ts:=llq rs) (u:=310000) (k:=65000) (a:=sX (aC (x,y) (x2,y2))) 2 oz (by decide);have k1:=jS (ts:=llq rs) (u:=310000) (k:=65000) (a:=c) (b:=sX (aC (x,y) (x2,y2))) (by decide);have k2:=kG (ts:=llq rs) (u:=310000) (k:=65000) (a:=sX (z+aC (x,y) (x2,y2))) (b:=c2) (by decide);subst ha;subst hb;refine af func147 ?_;refine gc hck ?_;refine gC (fun t24=>?_) (fun t24=>?_) (st1:=(3,0)) (st2:=(5,0));cases t24;refine gW (Wk.o (sl:=[(4,some (.ptr 4 0)),(5,some (.ptr 5 0)),(6,some (.ptr 6 0)),(9,some (.ptr 29 0))]) (hp:=[(4,some (.box [nA (sX x),nA (sX y),nA c])),(5,some (.box [nA a2,nA b2,nA c2])),(6,some (.box [nS,nS])),(29,some (dQ rs))])) ?_;refine gt (ay (Con.rB 29 rfl rfl rfl rfl (L9 h hc)) (az rfl rfl rfl) aE rfl rfl) ?_ (6,0);refine gW (Wk.of (sl:=[(4,some (.ptr 4 0)),(5,some (.ptr 5 0)),(6,some (.ptr 6 0)),(9,some (.ptr 29 0)),(10,some (nA (sX (bC (x,y) z (x2,y2) z2)))),(11,some (nA (sX (aC (x,y) (x2,y2)))))]) (hp:=[(4,some (.box [nA (sX x),nA (sX y),nA c])),(5,some (.box [nA a2,nA b2,nA c2])),(6,some (.box [nS,nS])),(29,some (a7 (llq rs)))]) aY (.k (.k (.k (.cons rfl (BlkSub.bL (.cons (.of (kq etw)) (.cons (.refl _) .nil)) rfl) .nil))))) ?_
 refine gt (aR (Con.rB 29 rfl rfl rfl rfl m1) (bB rfl rfl) rfl rfl rfl) ?_;refine gC (fun t40=>?_) (fun t40=>?_)
 ·have hd0:ak (aC (x,y) (x2,y2))=0:=cT t40;refine gt (aR (Con.rB 29 rfl rfl rfl rfl (LT (a:=sX x) (b:=sX y) (c:=c) (a2:=a2) (b2:=b2) (c2:=c2) tw)) (az rfl rfl rfl) rfl rfl rfl) ?_;refine bj ?_;unfold eY fR;rw[if_pos hd0,if_pos hd0]
 have hd0:¬ak (aC (x,y) (x2,y2))=0:=d5 t40;refine gt (aR (Con.rB 29 rfl rfl rfl rfl m2) (bB rfl rfl) rfl rfl rfl) ?_;refine gC (fun t51=>?_) (fun t51=>?_)
 ·have hx0:ak (bC (x,y) z (x2,y2) z2)<0:=of_decide_eq_true t51;refine gt (aR (Con.rB 29 rfl rfl rfl rfl m0) (.cons (.tmp rfl) (.cons (.const _) .nil)) rfl rfl rfl) ?_;refine bj ?_;unfold eY fR;rw[if_neg hd0,if_neg hd0,if_pos hx0];rfl
 have hx0:¬ak (bC (x,y) z (x2,y2) z2)<0:=of_decide_eq_false t51;have ht0:ak (ek (aC (x,y) (x2,y2)))≠0:=by rw[wF tw];exact hd0
 obtain⟨fd,fk,f1,f2⟩:=Ig hn i1.zu i2.zu i3.zu i6.zu P ht0;haveI:=fk;haveI:=P.z1;haveI:=P.z2;have g1:=jm (ts:=llq rs) (u:=310000) (k:=65000) (a:=sX ((z+aC (x,y) (x2,y2)-z2)*iE (ek (aC (x,y) (x2,y2))))) (b:=sX (fN (x,y) (x2,y2)).1) (by decide);have g2:=jm (ts:=llq rs) (u:=310000) (k:=65000) (a:=sX ((z+aC (x,y) (x2,y2)-z2)*iE (ek (aC (x,y) (x2,y2))))) (b:=sX (fN (x,y) (x2,y2)).2) (by decide);have g3:=jS (ts:=llq rs) (u:=310000) (k:=65000) (a:=sX x) (b:=sX ((z+aC (x,y) (x2,y2)-z2)*iE (ek (aC (x,y) (x2,y2)))*(fN (x,y) (x2,y2)).1)) (by decide);have g4:=jS (ts:=llq rs) (u:=310000) (k:=65000) (a:=sX y) (b:=sX ((z+aC (x,y) (x2,y2)-z2)*iE (ek (aC (x,y) (x2,y2)))*(fN (x,y) (x2,y2)).2)) (by decide);have gal:=tI g1 g2 g3 g4;refine gt (aR (Con.rB 29 rfl rfl rfl rfl w1) (az rfl rfl rfl) rfl rfl rfl) ?_;refine gt (aR (Con.rB 29 rfl rfl rfl rfl w2) (az rfl rfl rfl) rfl rfl rfl) ?_;refine gD ?_;refine gt (aR (Con.rB 29 rfl rfl rfl rfl t2) (.cons (.tmp rfl) (.cons (.const _) (cI rfl))) rfl rfl rfl) ?_;refine gt (aR (Con.rB 29 rfl rfl rfl rfl k1) (az rfl rfl rfl) rfl rfl rfl) ?_;refine gt (aR (Con.rB 29 rfl rfl rfl rfl k2) (az rfl rfl rfl) rfl rfl rfl) ?_;refine gt (aR (Con.rB 29 rfl rfl rfl rfl (r4 fd)) (az rfl rfl rfl) rfl rfl rfl) ?_;refine gt (aR (Con.rB 29 rfl rfl rfl rfl gal) (.cons (.tmp rfl) (az rfl rfl rfl)) rfl rfl rfl) ?_;refine gD ?_;refine gC (fun t94=>?_) (fun t94=>?_)
 ·have hx1:ak (bC (x,y) z (x2,y2) z2)=0:=cT t94;refine gt (aR (Con.rB 29 rfl rfl rfl rfl (m8 tw [da (eZ (x,y) (x2,y2) z z2).l])) (bB rfl rfl) rfl rfl rfl) ?_;refine bj ?_;unfold eY fR;rw[if_neg hd0,if_neg hd0,if_neg hx0,if_pos hx1];rfl
 have hx1:¬ak (bC (x,y) z (x2,y2) z2)=0:=d5 t94;have E:ExtP (bC (x,y) z (x2,y2) z2):=sP tw hn P.zX oz;have S:=GO (X:=bC (x,y) z (x2,y2) z2) (d:=aC (x,y) (x2,y2)) (f:=eZ (x,y) (x2,y2) z z2) (v:=fN (x,y) (x2,y2)) hn E P.zt ht0 f1 f2 P.z1 P.z2;have hex:=Dd (a:=sX (bC (x,y) z (x2,y2) z2)) tw P.zX.nm (by rw[cy.lm];decide) (by rw[show ad (llq rs).length (sX (bC (x,y) z (x2,y2) z2))=bC (x,y) z (x2,y2) z2 from a6 _ _];show 0<=ak (bC (x,y) z (x2,y2) z2);omega);refine gt (ay (Con.rB 29 rfl rfl rfl rfl hex) (bB rfl rfl) aE rfl rfl) ?_;refine gt (aR (Con.rB 29 rfl rfl rfl rfl (r4 S.hd)) (az rfl rfl rfl) rfl rfl rfl) ?_;refine gt (aR (Con.rB 29 rfl rfl rfl rfl S.ht) (.cons (.tmp rfl) (.cons (.const _) (cI rfl))) rfl rfl rfl) ?_;refine gD ?_;refine gt (aR (Con.rB 29 rfl rfl rfl rfl S.a1) (.cons (.tmp rfl) (az rfl rfl rfl)) rfl rfl rfl) ?_;refine gt (aR (Con.rB 29 rfl rfl rfl rfl S.hu) (.cons (.tmp rfl) (.cons (.const _) (cI rfl))) rfl rfl rfl) ?_;refine gt (aR (Con.rB 29 rfl rfl rfl rfl S.a2) (.cons (.tmp rfl) (az rfl rfl rfl)) rfl rfl rfl) ?_;refine gt (aR (Con.rB 29 rfl rfl rfl rfl (m8 E.tw [da (ib (bC (x,y) z (x2,y2) z2) (eZ (x,y) (x2,y2) z z2) (fN (x,y) (x2,y2)) (ee (bC (x,y) z (x2,y2) z2) (aC (x,y) (x2,y2)))).l,da (ib (bC (x,y) z (x2,y2) z2) (eZ (x,y) (x2,y2) z z2) (fN (x,y) (x2,y2)) (qE ((-1:Int):Rat)*ee (bC (x,y) z (x2,y2) z2) (aC (x,y) (x2,y2)))).l])) (bB rfl rfl) rfl rfl rfl) ?_;refine gD ?_;refine bj ?_;unfold eY fR;rw[if_neg hd0,if_neg hd0,if_neg hx0,if_neg hx1];rfl
end
section
variable{ts:LL}
abbrev br(p q:P2 ts):Et ts:=oS (bu q p) (bu q p)
abbrev bS(p q c:P2 ts):Et ts:=oS (bu q p) (bu c p)
abbrev iR(p q c:P2 ts):Et ts:=vz (bu q p) (bu c p)
abbrev aU(p q c:P2 ts)(z:Et ts):Et ts:=br p q*z-iR p q c*iR p q c
def fq(X:Et ts)(S:Et ts)(k:Et (aJ ts (sX X))):Et (aJ ts (sX X)):=k*iE (aL X S)
def kf(X:Et ts)(p v:P2 ts)(k:Et (aJ ts (sX X))):P2 (aJ ts (sX X)):=dS (aL X p.1,aL X p.2) k (aL X v.1,aL X v.2)
abbrev bw(X:Et ts):Et (aJ ts (sX X)):=dE _ (cc ts.length)
def fa(p q c:P2 ts)(z:Et ts):Mt :=
  if ak (br p q)=0 then⟨[],[]⟩else if ak (aU p q c z)=-1 then⟨ts,[]⟩else if ak (aU p q c z)=0 then⟨ts,[(dS p (bS p q c*iE (br p q)) (bu q p)).l]⟩
  else⟨aJ ts (sX (aU p q c z)),[(kf (aU p q c z) p (bu q p) (fq (aU p q c z) (br p q) (aL (aU p q c z) (bS p q c)+bw (aU p q c z)))).l,
    (kf (aU p q c z) p (bu q p) (fq (aU p q c z) (br p q) (aL (aU p q c z) (bS p q c)-bw (aU p q c z)))).l]⟩
def fV(p q:P2 ts):Nat:=if ak (br p q)=0 then 8 else 0
structure LinP(p q c:P2 ts)(z:Et ts):Prop where
  v1:Zu 310000 65000 (bu q p).1 80 81
  v2:Zu 310000 65000 (bu q p).2 80 81
  w1:Zu 310000 65000 (bu c p).1 80 81
  w2:Zu 310000 65000 (bu c p).2 80 81
  zs:Zu 310000 65000 (br p q) 320 327
  ze:Zu 310000 65000 (bS p q c) 320 327
  zc:Zu 310000 65000 (iR p q c) 320 327
  zX:Zu 310000 65000 (aU p q c z) 963 984
theorem CI{p q c:P2 ts}{z:Et ts}(c0:Cy ts 310000 65000)(h1:Zu 310000 65000 p.1 40 40)(h2:Zu 310000 65000 p.2 40 40)(h3:Zu 310000 65000 q.1 40 40)(h4:Zu 310000 65000 q.2 40 40)(h5:Zu 310000 65000 c.1 40 40)(h6:Zu 310000 65000 c.2 40 40)(h7:Zu 310000 65000 z 3 0):LinP p q c z:=by
 haveI:=c0;haveI:=h1;haveI:=h2;haveI:=h3;haveI:=h4;haveI:=h5;haveI:=h6;haveI:=h7
 haveI v1:=(inferInstance:Zu 310000 65000 (q.1-p.1) 80 81)
 haveI v2:=(inferInstance:Zu 310000 65000 (q.2-p.2) 80 81)
 haveI w1:=(inferInstance:Zu 310000 65000 (c.1-p.1) 80 81)
 haveI w2:=(inferInstance:Zu 310000 65000 (c.2-p.2) 80 81)
 haveI zs:Zu 310000 65000 (br p q) 320 327:=(inferInstance:Zu 310000 65000 ((q.1-p.1)*(q.1-p.1)+(q.2-p.2)*(q.2-p.2)) _ _)
 haveI ze:Zu 310000 65000 (bS p q c) 320 327:=(inferInstance:Zu 310000 65000 ((q.1-p.1)*(c.1-p.1)+(q.2-p.2)*(c.2-p.2)) _ _)
 haveI zc:Zu 310000 65000 (iR p q c) 320 327:=(inferInstance:Zu 310000 65000 ((q.1-p.1)*(c.2-p.2)-(q.2-p.2)*(c.1-p.1)) _ _)
 exact⟨v1,v2,w1,w2,zs,ze,zc,inferInstance⟩
structure LinQ(p q c:P2 ts):Prop where
  hd:FP 271 [aI ts,nA (sX (bS p q c)),nA (sX (br p q))] (.tup [nA (sX (bS p q c*iE (br p q))),.v .nilIface])
  al:Con prog 258 [.ptr 1000 0,aA (sX p.1) (sX p.2),nA (sX (bS p q c*iE (br p q))),aA (sX (bu q p).1) (sX (bu q p).2)] [(1000,some (a7 ts))] (da (dS p (bS p q c*iE (br p q)) (bu q p)).l) [(1000,some (a7 ts))]
  n1:Zu 310000 65000 (dS p (bS p q c*iE (br p q)) (bu q p)).1 2040 2088
  n2:Zu 310000 65000 (dS p (bS p q c*iE (br p q)) (bu q p)).2 2040 2088
theorem Bj{p q c:P2 ts}{z:Et ts}(c0:Cy ts 310000 65000)(hn:ts.length<=1)(h1:Zu 310000 65000 p.1 40 40)(h2:Zu 310000 65000 p.2 40 40)(P:LinP p q c z)(h0:ak (br p q)≠0):LinQ p q c:=by
 haveI:=c0;haveI:=h1;haveI:=h2;haveI:=P.v1;haveI:=P.v2;haveI:=P.zs;haveI:=P.ze
 have hd:=p9 (ts:=ts) (u:=310000) (k:=65000) (a:=sX (bS p q c)) (b:=sX (br p q)) (j:=ts.length) P.zs.nm.nl (le_refl _) hn h0 (by decide);haveI:=hd.2;have m1:=jm (ts:=ts) (u:=310000) (k:=65000) (a:=sX (bS p q c*iE (br p q))) (b:=sX (bu q p).1) (by decide);have m2:=jm (ts:=ts) (u:=310000) (k:=65000) (a:=sX (bS p q c*iE (br p q))) (b:=sX (bu q p).2) (by decide);have m3:=jS (ts:=ts) (u:=310000) (k:=65000) (a:=sX p.1) (b:=sX (bS p q c*iE (br p q)*(bu q p).1)) (by decide);have m4:=jS (ts:=ts) (u:=310000) (k:=65000) (a:=sX p.2) (b:=sX (bS p q c*iE (br p q)*(bu q p).2)) (by decide);exact⟨hd.1,tI m1 m2 m3 m4,(inferInstance:Zu 310000 65000 (p.1+bS p q c*iE (br p q)*(bu q p).1) _ _),(inferInstance:Zu 310000 65000 (p.2+bS p q c*iE (br p q)*(bu q p).2) _ _)⟩
structure LinS(X:Et ts)(S:Et ts)(p v:P2 ts)(k:Et (aJ ts (sX X))):Prop where
  hd:FP 271 [aI (aJ ts (sX X)),nA (sX k),nA (sX S)] (.tup [nA (sX (fq X S k)),.v .nilIface])
  al:Con prog 258 [.ptr 1000 0,aA (sX p.1) (sX p.2),nA (sX (fq X S k)),aA (sX v.1) (sX v.2)] [(1000,some (a7 (aJ ts (sX X))))] (da (kf X p v (fq X S k)).l) [(1000,some (a7 (aJ ts (sX X))))]
  n1:Zu 773000000 1101400000 (kf X p v (fq X S k)).1 9 6
  n2:Zu 773000000 1101400000 (kf X p v (fq X S k)).2 9 6
theorem uI{X S:Et ts}{p v:P2 ts}{k:Et (aJ ts (sX X))}(hn:ts.length<=1)(E:ExtP X)(hs:Zu 310000 65000 S 320 327)(h0:ak S≠0)(p1:Zu 310000 65000 p.1 40 40)(p2:Zu 310000 65000 p.2 40 40)(v1:Zu 310000 65000 v.1 80 81)(v2:Zu 310000 65000 v.2 80 81)
  (hk:Zu 773000000 1101400000 k 2 1):LinS X S p v k:=by
 haveI cy:=E.cy;haveI:=hk;haveI zs:=jH (X:=X) hn hs (by decide);haveI zp1:=jH (X:=X) hn p1 (by decide);haveI zp2:=jH (X:=X) hn p2 (by decide);haveI zv1:=jH (X:=X) hn v1 (by decide);haveI zv2:=jH (X:=X) hn v2 (by decide);haveI:=zp1.zu;haveI:=zp2.zu;haveI:=zv1.zu;haveI:=zv2.zu
 have hdiv:=p9 (ts:=aJ ts (sX X)) (u:=773000000) (k:=1101400000) (a:=sX k) (b:=sX S) (j:=ts.length) hs.nm.nl (by rw[dP];omega) hn (by rw[oV];exact h0) (by decide);haveI zk:Zu 773000000 1101400000 (fq X S k) 7 4:=hdiv.2;have m1:=jm (ts:=aJ ts (sX X)) (u:=773000000) (k:=1101400000) (a:=sX (fq X S k)) (b:=sX v.1) (by decide);have m2:=jm (ts:=aJ ts (sX X)) (u:=773000000) (k:=1101400000) (a:=sX (fq X S k)) (b:=sX v.2) (by decide);have m3:=jS (ts:=aJ ts (sX X)) (u:=773000000) (k:=1101400000) (a:=sX p.1) (b:=sX (fq X S k*aL X v.1)) (by decide);have m4:=jS (ts:=aJ ts (sX X)) (u:=773000000) (k:=1101400000) (a:=sX p.2) (b:=sX (fq X S k*aL X v.2)) (by decide);exact⟨hdiv.1,tI m1 m2 m3 m4,(inferInstance:Zu 773000000 1101400000 (aL X p.1+fq X S k*aL X v.1) 9 6),(inferInstance:Zu 773000000 1101400000 (aL X p.2+fq X S k*aL X v.2) 9 6)⟩
theorem yg{X:Et ts}{w v w' v' u k:Nat}(h:Zu u k X w v)(hw:w<=w')(hv:v<=v'):Zu u k X w' v':=⟨h.nm.mono (yX hw hv)⟩
theorem Of{x:Int}(h:cond (cond (fp Value.nilIface) (aa .eql x 0) false) (fp Value.nilIface) false=true):x=0:=by
 cases h9:aa .eql x 0
 ·rw[h9]at h;cases h
 ·exact cT h9
theorem RN{x:Int}(h:cond (cond (fp Value.nilIface) (aa .eql x 0) false) (fp Value.nilIface) false=false):x≠0:=by
 cases h9:aa .eql x 0
 ·exact d5 h9
 ·rw[h9]at h;cases h
theorem M1{x y:AV}{i:Nat}{Q:AV->Prop}(hi:i<2)(hx:Q x)(hy:Q y):∃z,[x,y][i]?=some z/\Q z:=by
 have h:i=0\/i=1:=by omega
 rcases h with rfl |rfl
 ·exact⟨x,rfl,hx⟩
 ·exact⟨y,rfl,hy⟩
theorem Gn{r e:Nat}{a b c d:Et ts}(tw:Tw ts r)(hl:lm ts.length=200000000000)(h1:Nm ts.length e (sX a))(h2:Nm ts.length e (sX b))(h3:Nm ts.length e (sX c))(h4:Nm ts.length e (sX d))(he:e+e+kB r ts.length<=100000000000) :
  FP 77 [aI ts,aA (sX a) (sX b),aA (sX c) (sX d)] (.tup [nA (sX (a*c+b*d)),.v .nilIface]):=by
 have h:=wX tw h1 h2 h3 h4 (by rw[hl];omega);rw[show ad ts.length (sX a)=a from a6 _ _,show ad ts.length (sX b)=b from a6 _ _,show ad ts.length (sX c)=c from a6 _ _,show ad ts.length (sX d)=d from a6 _ _]at h;exact h
theorem LI{r e:Nat}{a b c d:Et ts}(tw:Tw ts r)(hl:lm ts.length=200000000000)(h1:Nm ts.length e (sX a))(h2:Nm ts.length e (sX b))(h3:Nm ts.length e (sX c))(h4:Nm ts.length e (sX d))(he:e+e+kB r ts.length<=100000000000) :
  FP 74 [aI ts,aA (sX a) (sX b),aA (sX c) (sX d)] (.tup [nA (sX (a*d-b*c)),.v .nilIface]):=by
 have h:=B4 tw h1 h2 h3 h4 (by rw[hl];omega);rw[show ad ts.length (sX a)=a from a6 _ _,show ad ts.length (sX b)=b from a6 _ _,show ad ts.length (sX c)=c from a6 _ _,show ad ts.length (sX d)=d from a6 _ _]at h;exact h
end
section
variable{rs:List (List Rt)}{c:List Rat}{o p q:P2 (llq rs)}{z:Et (llq rs)}
theorem MK(h:TR rs 64990)(hc:a9 rs=0)(hn:(llq rs).length<=1)(c0:Ct (llq rs) 310000 65000)(ho1:Zu 310000 65000 o.1 40 40)(ho2:Zu 310000 65000 o.2 40 40)(p1:Zu 310000 65000 p.1 40 40)(p2:Zu 310000 65000 p.2 40 40)(q1:Zu 310000 65000 q.1 40 40)(q2:Zu 310000 65000 q.2 40 40)
  [i3:Zl (llq rs) 310000 65000 c z 3 0] (s1:0<=ak z):FP 149 [cf rs,.agg [nA (sX o.1),nA (sX o.2),nA c],da p.l,da q.l] (.tup [(fa p q o z).av,bp (fV p q)]):=by
 obtain⟨tw,etw⟩:=cA h hc;haveI cy:Cy (llq rs) 310000 65000:=⟨c0.ex,by obtain⟨_,h9,_⟩:=c0;exact h9,by obtain⟨_,_,h9,_⟩:=c0;exact h9,by omega⟩
 have hlm:=cy.lm;have hck:=oK rs 64990 h;rw[hc]at hck;have P:=CI cy p1 p2 q1 q2 ho1 ho2 i3.zu;haveI:=ho1;haveI:=ho2;haveI:=p1;haveI:=p2;haveI:=q1;haveI:=q2;haveI:=P.v1;haveI:=P.v2;haveI:=P.w1;haveI:=P.w2;haveI:=P.zs;haveI:=P.ze;haveI:=P.zc;haveI:=P.zX
 have hci:=Bk (e:=40*310000+40*65000) h hc ho1.nm ho2.nm (i3.nm.mono (by decide)) (by rw[hlm];decide)
 have hra:=FE h hc [(sX o.1,sX o.2,c)] (fun y hy=>by
  rw[List.mem_singleton.1 hy];exact⟨ho1.nm.mono (by decide),ho2.nm.mono (by decide),i3.nm.mono (by decide),by show 0<=ak (dE (llq rs) c);rw[show dE (llq rs) c=z from i3.eq];exact s1⟩) (by show 1<=100;omega)
 have a1:=kG (ts:=llq rs) (u:=310000) (k:=65000) (a:=sX q.1) (b:=sX p.1) (by decide);have a2:=kG (ts:=llq rs) (u:=310000) (k:=65000) (a:=sX q.2) (b:=sX p.2) (by decide);have a3:=kG (ts:=llq rs) (u:=310000) (k:=65000) (a:=sX o.1) (b:=sX p.1) (by decide);have a4:=kG (ts:=llq rs) (u:=310000) (k:=65000) (a:=sX o.2) (b:=sX p.2) (by decide);have hkb:80*310000+81*65000+(80*310000+81*65000)+kB 64990 (llq rs).length<=100000000000:=by have:=xc hn;omega
 have b1:=Gn tw hlm P.v1.nm P.v2.nm P.v1.nm P.v2.nm hkb;have b2:=Gn tw hlm P.v1.nm P.v2.nm P.w1.nm P.w2.nm hkb;have b3:=LI tw hlm P.v1.nm P.v2.nm P.w1.nm P.w2.nm hkb;rw[<- etw]at b1 b2 b3;have m1:=pb (ts:=llq rs) (u:=310000) (k:=65000) (a:=sX (br p q)) (by decide);have m2:=jm (ts:=llq rs) (u:=310000) (k:=65000) (a:=sX (br p q)) (b:=c) (by decide);have m3:=jm (ts:=llq rs) (u:=310000) (k:=65000) (a:=sX (iR p q o)) (b:=sX (iR p q o)) (by decide);haveI zz:=i3.zu;have m4:=kG (ts:=llq rs) (u:=310000) (k:=65000) (a:=sX (br p q*z)) (b:=sX (iR p q o*iR p q o)) (by decide);have m5:=pb (ts:=llq rs) (u:=310000) (k:=65000) (a:=sX (aU p q o z)) (by decide);have m0:=Con.sA (.cons (.refl _) (.cons (Sub.nil 2 none 0) .nil)) (m8 tw []);refine af func149 ?_;refine gc hck ?_;refine gC (fun t27=>?_) (fun t27=>?_) (st1:=(3,0));cases t27;refine gc hci ?_;refine gC (fun t34=>?_) (fun t34=>?_) (st1:=(6,0));cases t34;refine ge rfl ?_;refine aM [4,5,6,7,8,39,40] [4,5,6,7,8] (fun(i:Nat)=>[(41,some (i64 i))]) (fun _=>[]) (fun i=>i<=2) (fun i=>2-i) 0 (zero_le _) ?_;rintro i hi K1 J1;refine gC (fun t42=>?_) (fun t42=>?_)
 ·have hin:i<2:=aW (b:=2) t42;obtain⟨zz2,hz2,u,v,hu,hv,rfl⟩:=M1 (x:=da p.l) (y:=da q.l) (Q:=fun w=>∃u v,Nm (llq rs).length (40*310000+40*65000) u/\Nm (llq rs).length (40*310000+40*65000) v/\w=aA u v) hin ⟨_,_,p1.nm,p2.nm,rfl⟩ ⟨_,_,q1.nm,q2.nm,rfl⟩;refine gi hz2 ?_;refine gc (FS h hc hu hv (by rw[hlm];decide)) ?_;refine gC (fun t49=>?_) (fun t49=>?_) (st1:=(12,0));cases t49;refine ga aH ?_;exact aG J1 (i+1) hin
 refine gc hra ?_;refine gC (fun t58=>?_) (fun t58=>?_) (st1:=(16,0)) (st2:=(18,0));cases t58;refine gW (Wk.of (sl:=[(4,some (.ptr 4 0)),(5,some (.ptr 5 0)),(6,some (.ptr 6 0)),(7,some (.ptr 7 0)),(8,some (.ptr 8 0)),(16,some (.ptr 63 0))]) (hp:=[(4,some (.box [.lst 1 (rs.map nR)])),(5,some (.box [nA (sX o.1),nA (sX o.2),nA c])),(6,some (.box [nA (sX p.1),nA (sX p.2)])),(7,some (.box [nA (sX q.1),nA (sX q.2)])),(8,some (.box [nS,nS])),(63,some (a7 (llq rs)))]) aY (.k (.k (.k (.k (.k (.cons rfl (BlkSub.bL (.cons (.of (kq etw)) (.cons (.refl _) .nil)) rfl) .nil))))))) ?_
 refine gt (aR (Con.rB 63 rfl rfl rfl rfl a1) (az rfl rfl rfl) rfl rfl rfl) ?_;refine gt (aR (Con.rB 63 rfl rfl rfl rfl a2) (az rfl rfl rfl) rfl rfl rfl) ?_;refine gD ?_;refine gt (aR (Con.rB 63 rfl rfl rfl rfl a3) (az rfl rfl rfl) rfl rfl rfl) ?_;refine gt (aR (Con.rB 63 rfl rfl rfl rfl a4) (az rfl rfl rfl) rfl rfl rfl) ?_;refine gD ?_;refine gc b1 ?_;refine gt (aR (Con.rB 63 rfl rfl rfl rfl (oL _ _)) (az rfl rfl rfl) rfl rfl rfl) ?_;refine gu (er rfl rfl rfl (fun h=>aR (Con.rB 63 rfl rfl rfl rfl m1) (.cons (.opt rfl (o1 h)) (.cons (.opt rfl (o1 h)) .nil)) rfl rfl rfl)) ?_;refine gC (fun t117=>?_) (fun t117=>?_)
 ·have h0:ak (br p q)=0:=Of t117;refine gR ?_;exact dp (by unfold fa fV;rw[if_pos h0,if_pos h0];exact Sub.tup (.cons Br (.cons (.refl _) .nil)))
 have h0:ak (br p q)≠0:=RN t117;have Q:=Bj cy hn p1 p2 P h0;refine gc b2 ?_;refine gt (aR (Con.rB 63 rfl rfl rfl rfl (oL _ _)) (az rfl rfl rfl) rfl rfl rfl) ?_;refine gc b3 ?_;refine gt (aR (Con.rB 63 rfl rfl rfl rfl (oL _ _)) (az rfl rfl rfl) rfl rfl rfl) ?_;refine gt (aR (Con.rB 63 rfl rfl rfl rfl m2) (az rfl rfl rfl) rfl rfl rfl) ?_;refine gt (aR (Con.rB 63 rfl rfl rfl rfl m3) (az rfl rfl rfl) rfl rfl rfl) ?_;refine gt (aR (Con.rB 63 rfl rfl rfl rfl m4) (az rfl rfl rfl) rfl rfl rfl) ?_;refine gt (aR (Con.rB 63 rfl rfl rfl rfl m5) (bB rfl rfl) rfl rfl rfl) ?_;refine gC (fun t150=>?_) (fun t150=>?_)
 ·have h1:ak (aU p q o z)=-1:=cT t150;refine gt (aR (Con.rB 63 rfl rfl rfl rfl m0) (.cons (.tmp rfl) (.cons (.const _) .nil)) rfl rfl rfl) ?_;refine bj ?_;unfold fa fV;rw[if_neg h0,if_neg h0,if_pos h1];rfl
 have h1:¬ak (aU p q o z)=-1:=d5 t150;refine gC (fun t156=>?_) (fun t156=>?_)
 ·have h2:ak (aU p q o z)=0:=cT t156;refine gt (aR (Con.rB 63 rfl rfl rfl rfl (r4 Q.hd)) (az rfl rfl rfl) rfl rfl rfl) ?_;refine gt (aR (Con.rB 63 rfl rfl rfl rfl Q.al) (.cons (.tmp rfl) (az rfl rfl rfl)) rfl rfl rfl) ?_;refine gt (aR (Con.rB 63 rfl rfl rfl rfl (m8 tw [da (dS p (bS p q o*iE (br p q)) (bu q p)).l])) (bB rfl rfl) rfl rfl rfl) ?_;refine gD ?_;refine bj ?_;unfold fa fV;rw[if_neg h0,if_neg h0,if_neg h1,if_pos h2];rfl
 have h2:¬ak (aU p q o z)=0:=d5 t156
 have hpos:0<=ak (aU p q o z):=by
  have:=T.sgn_cases (aj (llq rs)) (llq rs).length (aU p q o z);have e:ak (aU p q o z)=T.sgn (aj (llq rs)) (llq rs).length (aU p q o z):=rfl;omega
 have E:ExtP (aU p q o z):=sP tw hn (yg P.zX oz oz) hpos;haveI ce:=E.cy;haveI zr:Zl (aJ (llq rs) (sX (aU p q o z))) 773000000 1101400000 (cc (llq rs).length) (dE _ (cc (llq rs).length)) 1 0:=Zl.at (rI oz) (by decide);haveI ze':=jH (X:=aU p q o z) hn P.ze (by decide);haveI:=zr.zu;haveI:=ze'.zu
 have e1:=jS (ts:=aJ (llq rs) (sX (aU p q o z))) (u:=773000000) (k:=1101400000) (a:=sX (bS p q o)) (b:=cc (llq rs).length) (by decide);have e2:=kG (ts:=aJ (llq rs) (sX (aU p q o z))) (u:=773000000) (k:=1101400000) (a:=sX (bS p q o)) (b:=cc (llq rs).length) (by decide);have S1:=uI (p:=p) (v:=bu q p) hn E P.zs h0 p1 p2 P.v1 P.v2 (k:=aL (aU p q o z) (bS p q o)+bw (aU p q o z)) inferInstance;have S2:=uI (p:=p) (v:=bu q p) hn E P.zs h0 p1 p2 P.v1 P.v2 (k:=aL (aU p q o z) (bS p q o)-bw (aU p q o z)) inferInstance;have hex:=Dd (a:=sX (aU p q o z)) tw P.zX.nm (by rw[hlm];decide) (by rw[show ad (llq rs).length (sX (aU p q o z))=aU p q o z from a6 _ _];exact hpos);refine gt (ay (Con.rB 63 rfl rfl rfl rfl hex) (bB rfl rfl) aE rfl rfl) ?_;refine gt (aR (Con.rB 63 rfl rfl rfl rfl e1) (az rfl rfl rfl) rfl rfl rfl) ?_;refine gt (aR (Con.rB 63 rfl rfl rfl rfl (r4 S1.hd)) (az rfl rfl rfl) rfl rfl rfl) ?_;refine gt (aR (Con.rB 63 rfl rfl rfl rfl S1.al) (.cons (.tmp rfl) (az rfl rfl rfl)) rfl rfl rfl) ?_;refine gt (aR (Con.rB 63 rfl rfl rfl rfl e2) (az rfl rfl rfl) rfl rfl rfl) ?_;refine gt (aR (Con.rB 63 rfl rfl rfl rfl (r4 S2.hd)) (az rfl rfl rfl) rfl rfl rfl) ?_;refine gt (aR (Con.rB 63 rfl rfl rfl rfl S2.al) (.cons (.tmp rfl) (az rfl rfl rfl)) rfl rfl rfl) ?_;refine gt (aR (Con.rB 63 rfl rfl rfl rfl (m8 E.tw [da (kf (aU p q o z) p (bu q p) (fq (aU p q o z) (br p q) (aL (aU p q o z) (bS p q o)+bw (aU p q o z)))).l,da (kf (aU p q o z) p (bu q p) (fq (aU p q o z) (br p q) (aL (aU p q o z) (bS p q o)-bw (aU p q o z)))).l])) (bB rfl rfl) rfl rfl rfl) ?_;refine gD ?_;refine bj ?_;unfold fa fV;rw[if_neg h0,if_neg h0,if_neg h1,if_neg h2];rfl
end
theorem NI(o:Option Nat):aa .geq (mw o) 0=o.isSome:=by
 cases o with
 |none=>rfl
 |some i=>exact decide_eq_true (by show(i:Int)>=0;omega)
theorem NC(bs:List (Rat×Rat))(hl:bs.length<=281474976710656)(f:FuncId)(pre caps:List AV)(ok:Nat->Bool)
  (hf:∀(i:Nat)(b:Rat×Rat),bs[i]?=some b->(∀j,j<i->ok j=true)->FP f (pre++[qP b]++caps) (bl (!ok i))) :
  FP 353 [.lst 6 (bs.map qP),.cl f pre caps] (i64 (mw (dG bs.length ok))):=by
 refine af func353 ?_;refine gl ?_;refine aM [0,1,7] [] (fun(i:Nat)=>[(8,some (i64 i))]) (fun _=>[]) (fun i=>i<=bs.length/\∀j,j<i->ok j=true) (fun i=>bs.length-i) 0 ⟨zero_le _,fun j h=>by omega⟩ ?_;rintro i ⟨hi,hj⟩ K1 J1;refine gC (fun t9=>?_) (fun t9=>?_)
 ·have hin:=aW t9;obtain⟨b,hb⟩:=aw hin;refine gi (ax hb) ?_;refine gc (hf i b hb hj) ?_;refine gC (fun t16=>?_) (fun t16=>?_)
  ·have h2:=dq t16;refine ae ?_;rw[iK hin hj h2];rfl
  have h2:=dD t16;refine ga aH ?_;exact aG J1 (i+1) ⟨hin,fun j h9=>by rcases lt_or_ge j i with g |g;exact hj j g;(have:j=i:=by omega);subst this;exact h2⟩
 have hin:=be hi t9;subst hin;refine ae ?_;rw[jl hj];rfl
theorem KN(bs:List (Rat×Rat))(hl:bs.length<=281474976710656)(f:FuncId)(pre caps:List AV)(ok:Nat->Bool)
  (hf:∀(i:Nat)(b:Rat×Rat),bs[i]?=some b->(∀j,j<i->ok j=true)->FP f (pre++[qP b]++caps) (bl (!ok i))) :
  FP 249 [.lst 6 (bs.map qP),.cl f pre caps] (bl (dG bs.length ok).isSome):=by
 refine af func249 ?_;refine gc (NC bs hl f pre caps ok hf) ?_;refine ae ?_;rw[<- NI];rfl
theorem Mb{v:Rat×Rat}(hv:Sm 3000 v):FP 250 [qP v] (bl (decide (bW v v=0))):=by
 refine af func250 ?_;refine gc (GW hv hv oz oz) ?_;refine gc (Rv ((hv.dot hv).qs oz)) ?_;refine ae ?_;rw[<- Qg];rfl
def gw(vs:List (Rat×Rat)):Bool:=(dG vs.length fun i=>!decide (bW (vs.getD i (0,0)) (vs.getD i (0,0))=0)).isSome
theorem H0(vs:List (Rat×Rat))(hl:vs.length<=281474976710656)(hv:∀v∈vs,Sm 3000 v):FP 145 [.lst 6 (vs.map qP)] (bl (gw vs)):=by
 refine af func145 ?_;refine gc (Con.sA (.cons (.refl _) (.cons ((Sub.fn0 _).trans (vd rfl)) .nil)) (KN vs hl 250 [] [] (fun i=>!decide (bW (vs.getD i (0,0)) (vs.getD i (0,0))=0)) (fun i b hb _=>by rw[Bool.not_not,aD hb];exact Mb (hv b (mem_of_getElem? hb))))) ?_;refine ae ?_;rfl
theorem vQ{v:Rat×Rat}(h:gw [v]=false):bW v v≠0:=by
 intro h0;have h1:dG 1 (fun i=>!decide (bW ([v].getD i (0,0)) ([v].getD i (0,0))=0))=some 0:=iK oz (fun j hj=>by omega) (by show(!decide (bW v v=0))=false;rw[h0];rfl);unfold gw at h;rw[show[v].length=1 from rfl,h1]at h;cases h
theorem ul{v w:Rat×Rat}(h:gw [v,w]=false):bW v v≠0/\bW w w≠0:=by
 unfold gw at h;rw[Option.isSome_eq_false_iff,Option.isNone_iff_eq_none]at h;have h2:=Kv h;have h3:=h2 0 (by show 0<2;omega);have h4:=h2 1 (by show 1<2;omega);have h5:(!decide (bW v v=0))=true:=h3;have h6:(!decide (bW w w=0))=true:=h4;simp only[Bool.not_eq_true',decide_eq_false_iff_not]at h5 h6;exact⟨h5,h6⟩
theorem CO(i n:Nat)(hi:i<=100):FP 154 [i64 i,i64 n] (i64 (if n=1 then 0 else 1-2*(i:Int))):=by
 refine af func154 ?_;refine gC (fun t6=>?_) (fun t6=>?_)
 ·have h1 : n = 1 := by have := cT t6; omega
  refine ae ?_;rw[if_pos h1];rfl
 have h1:¬n=1:=by have:=d5 t6;omega
 refine ga (show _=2*(i:Int) by exact AC oz) ?_;refine ga (show _=1-2*(i:Int) by exact dB oz) ?_;refine ae ?_;rw[if_neg h1];rfl
section
variable{ts:LL}
abbrev jP(u:Rat×Rat):Et ts:=qE (bW u u)
def dH(u:Rat×Rat)(w:P2 ts):Et ts:=(qE u.1*w.1+qE u.2*w.2)*iE (jP u)
def dk(u:Rat×Rat)(w:P2 ts):Et ts:=(qE u.1*w.2-qE u.2*w.1)*iE (jP u)
def qo(u:Rat×Rat)(w:P2 ts)(p:Rat×Rat)(o:P2 ts):Et ts:=o.1-(dH u w*qE p.1-dk u w*qE p.2)
def pH(u:Rat×Rat)(w:P2 ts)(p:Rat×Rat)(o:P2 ts):Et ts:=o.2-(dk u w*qE p.1+dH u w*qE p.2)
def gU(u:Rat×Rat)(w:P2 ts)(p:Rat×Rat)(o:P2 ts):Pq:=⟨sX (dH u w),sX (dk u w),sX (qo u w p o),sX (pH u w p o)⟩
theorem wm(ts:LL)(a b:List Rat):Con prog 72 [.ptr 1000 0,aA a b,.v .nilIface] [(1000,some (a7 ts))] (aA a b) [(1000,some (a7 ts))]:=by
 have h:=Cj (ts.map (List.map rt)) a b;rw[zN]at h;exact h
theorem pj(q:Rat):ad ts.length (sh 0 (q:Rat))=(qE q:Et ts):=jK _ q
theorem nJ{e:Nat}{q:Rat}(h5:ts.length<=5)(h:Qb e q):Nm ts.length e (sh 0 (q:Rat)):=Nm.ofQ h5 (Cb.one h)
structure BdP(ts:LL)(u:Rat×Rat)(w:P2 ts)(p:Rat×Rat)(o:P2 ts):Prop where
  dot:FP 77 [aI ts,aA (sh 0 (u.1:Rat)) (sh 0 (u.2:Rat)),aA (sX w.1) (sX w.2)] (.tup [nA (sX (qE u.1*w.1+qE u.2*w.2)),.v .nilIface])
  crs:FP 74 [aI ts,aA (sh 0 (u.1:Rat)) (sh 0 (u.2:Rat)),aA (sX w.1) (sX w.2)] (.tup [nA (sX (qE u.1*w.2-qE u.2*w.1)),.v .nilIface])
  d1:FP 271 [aI ts,nA (sX (qE u.1*w.1+qE u.2*w.2)),nA (sh 0 (bW u u:Rat))] (.tup [nA (sX (dH u w)),.v .nilIface])
  d2:FP 271 [aI ts,nA (sX (qE u.1*w.2-qE u.2*w.1)),nA (sh 0 (bW u u:Rat))] (.tup [nA (sX (dk u w)),.v .nilIface])
  tn:FP 178 [aI ts,nA (sX (dH u w)),nA (sX (dk u w)),aA (sh 0 (p.1:Rat)) (sh 0 (p.2:Rat))] (.tup [aA (sX (dH u w*qE p.1-dk u w*qE p.2)) (sX (dk u w*qE p.1+dH u w*qE p.2)),.v .nilIface])
  s1:FP 163 [aI ts,nA (sX o.1),nA (sX (dH u w*qE p.1-dk u w*qE p.2))] (.tup [nA (sX (qo u w p o)),.v .nilIface])
  s2:FP 163 [aI ts,nA (sX o.2),nA (sX (dk u w*qE p.1+dH u w*qE p.2))] (.tup [nA (sX (pH u w p o)),.v .nilIface])
  ok:Pq.ok ts.length 80000000000 (gU u w p o)
theorem G1{r W A K F:Nat}{u p:Rat×Rat}{w o:P2 ts}(tw:Tw ts r)(h2:ts.length<=2)(hk:kB r ts.length<=K)(hu:Sm 3000 u)(hp:Sm 3000 p)(h0:bW u u≠0)
  (w1:Nm ts.length W (sX w.1)) (w2:Nm ts.length W (sX w.2)) (a1:Nm ts.length A (sX o.1)) (a2:Nm ts.length A (sX o.2)) (hW:3000<=W) (hF:4*W+10*K+A+100000<=F) (hF2:F<=80000000000):BdP ts u w p o:=by
 have hl:lm ts.length=200000000000:=by unfold lm;rw[if_pos h2]
 have h5:=tw.five;have hu1:=nJ (ts:=ts) h5 hu.x;have hu2:=nJ (ts:=ts) h5 hu.y;have hp1:=nJ (ts:=ts) h5 hp.x;have hp2:=nJ (ts:=ts) h5 hp.y;have hnn:=nJ (ts:=ts) h5 (hu.dot hu);have hkE:eB r ts.length<=K:=hk;have ew:∀x:Et ts,ad ts.length (sX x)=x:=fun x=>a6 _ _
 have c1:=wX tw (hu1.mono (f:=W) oz) (hu2.mono oz) w1 w2 (by rw[hl];omega);have c2:=B4 tw (hu1.mono (f:=W) oz) (hu2.mono oz) w1 w2 (by rw[hl];omega);have n1:=AD tw hu1 hu2 w1 w2;have n2:=xd tw hu1 hu2 w1 w2;rw[pj,pj,ew,ew]at c1 c2 n1 n2
 have hs:T.sgn (aj ts) ts.length (ad ts.length (sh 0 (bW u u:Rat)))≠0:=by
  rw[jK,T.sgn_ofQ];intro h9;exact h0 (oG h9)
 have nb:Nl 0 (sh 0 (bW u u:Rat)):=eM 0 _;have d1:=xN tw n1 hnn (zero_le _) nb hs (by rw[hl];omega) (by simp only[iB];omega);have d2:=xN tw n2 hnn (zero_le _) nb hs (by rw[hl];omega) (by simp only[iB];omega);have m1:=yU tw n1 hnn (zero_le _) nb hs (by rw[hl];omega) (by simp only[iB];omega);have m2:=yU tw n2 hnn (zero_le _) nb hs (by rw[hl];omega) (by simp only[iB];omega);have e1:∀x:Et ts,ad ts.length (sh ts.length x)=x:=fun x=>a6 _ _
 have f1:ad ts.length (sh ts.length (mj ts (qE u.1:Et ts) (qE u.2:Et ts) w.1 w.2))=(qE u.1*w.1+qE u.2*w.2:Et ts):=a6 _ _;have f2:ad ts.length (sh ts.length (lM ts (qE u.1:Et ts) (qE u.2:Et ts) w.1 w.2))=(qE u.1*w.2-qE u.2*w.1:Et ts):=a6 _ _;rw[f1,pj]at d1 m1;rw[f2,pj]at d2 m2;have k1:Nm ts.length (2*W+3*K+30000) (sX (dH u w)):=Nm.mono m1 (by simp only[iB];omega);have k2:Nm ts.length (2*W+3*K+30000) (sX (dk u w)):=Nm.mono m2 (by simp only[iB];omega);have c3:=xl tw k1 k2 (hp1.mono (f:=(2*W+3*K+30000)) oz) (hp2.mono oz) (by rw[hl];omega);have n3:=qK tw k1 k2 hp1 hp2;have n4:=pX tw k1 k2 hp1 hp2;rw[pj,pj,ew,ew]at c3 n3 n4;have s1:=oO tw a1 n3 (by rw[hl];omega);have s2:=oO tw a2 n4 (by rw[hl];omega);have m3:=a1.sub n3;have m4:=a2.sub n4;have f3:ad ts.length (sh ts.length (pJ ts (dH u w) (dk u w) (qE p.1:Et ts) (qE p.2:Et ts)))=(dH u w*qE p.1-dk u w*qE p.2:Et ts):=a6 _ _;have f4:ad ts.length (sh ts.length (qR ts (dH u w) (dk u w) (qE p.1:Et ts) (qE p.2:Et ts)))=(dk u w*qE p.1+dH u w*qE p.2:Et ts):=a6 _ _;rw[ew,f3]at s1 m3;rw[ew,f4]at s2 m4;exact⟨c1,c2,d1,d2,c3,s1,s2,k1.mono oz,k2.mono oz,Nm.mono m3 oz,Nm.mono m4 oz⟩
theorem Cq{r:Nat}{u p:Rat×Rat}{w o:P2 ts}(tw:Tw ts r)(h2:ts.length<=2)(hk:kB r ts.length<=1101400000)(hu:Sm 3000 u)(hp:Sm 3000 p)(h0:bW u u≠0)
  (w1:Nm ts.length 17000000000 (sX w.1)) (w2:Nm ts.length 17000000000 (sX w.2)) (a1:Nm ts.length 773000000 (sX o.1)) (a2:Nm ts.length 773000000 (sX o.2)):BdP ts u w p o :=
 G1 (F:=80000000000) tw h2 hk hu hp h0 w1 w2 a1 a2 oz oz oz
theorem vh{a b c:List Rat}(h:FP 163 [aI ts,nA a,nA b] (.tup [nA c,.v .nilIface])):Con prog 75 [.ptr 1000 0,nA a,nA b] [(1000,some (a7 ts))] (nA c) [(1000,some (a7 ts))]:=by
 refine gF func75 (fun k z h=>bq h) ?_;refine gc h ?_;refine gt (ay (o9 _ _) (az rfl rfl rfl) aE rfl rfl) ?_;refine gR ?_;exact ao.keep (bb rfl)
theorem A5{u p:Rat×Rat}{w o:P2 ts}(hu:Sm 3000 u)(hp:Sm 3000 p)(B:BdP ts u w p o) :
  Con prog 143 [.ptr 1000 0,qP u,da w.l,qP p,da o.l] [(1000,some (a7 ts))] (gU u w p o).av [(1000,some (a7 ts))]:=by
 refine gF func143 (fun k z h=>bq h) ?_;refine gc (uG (hu.x.qs oz) (hu.y.qs oz)) ?_;refine gc (xw hu oz) ?_;refine gD ?_;refine gc B.dot ?_;refine gt (aR (o9 _ _) (az rfl rfl rfl) rfl rfl rfl) ?_;refine gt (aR (ux B.d1) (az rfl rfl rfl) rfl rfl rfl) ?_;refine gc B.crs ?_;refine gt (aR (o9 _ _) (az rfl rfl rfl) rfl rfl rfl) ?_;refine gt (aR (ux B.d2) (az rfl rfl rfl) rfl rfl rfl) ?_;refine gD ?_;refine gc (uG (hp.x.qs oz) (hp.y.qs oz)) ?_;refine gc B.tn ?_;refine gt (aR (wm _ _ _) (az rfl rfl rfl) rfl rfl rfl) ?_;refine gD ?_;refine gt (aR (vh B.s1) (az rfl rfl rfl) rfl rfl rfl) ?_;refine gt (aR (vh B.s2) (az rfl rfl rfl) rfl rfl rfl) ?_;refine gD ?_;refine gR ?_;exact ao.keep (bb rfl)
end
structure Sv where
  ts:LL
  ps:List Pq
  mode:Int
abbrev Sv.av(s:Sv):AV:=.agg [.lst 1 (s.ts.map nA),.lst 4 (s.ps.map Pq.av),i64 s.mode]
structure Hd where
  p:Rat×Rat
  a:List Rat×List Rat
  c:Rat×Rat
abbrev Hd.av(h:Hd):AV:=.agg [bl (rt h.p.1).neg,ws (rt h.p.1).num,ws (rt h.p.1).den,bl (rt h.p.2).neg,ws (rt h.p.2).num,ws (rt h.p.2).den,nA h.a.1,nA h.a.2,bl (rt h.c.1).neg,ws (rt h.c.1).num,ws (rt h.c.1).den,bl (rt h.c.2).neg,ws (rt h.c.2).num,ws (rt h.c.2).den]
def j7(ts:LL)(h:Hd)(x:List Rat×List Rat):P2 ts:=(dE ts x.1-dE ts h.a.1,dE ts x.2-dE ts h.a.2)
def lX(ts:LL)(h:Hd):P2 ts:=(dE ts h.a.1,dE ts h.a.2)
def mM(ts:LL)(x:List Rat×List Rat)(h:Hd):Pq:=gU (b9 h.c h.p) (j7 ts h x) h.p (lX ts h)
structure HdP(ts:LL)(x:List Rat×List Rat)(h:Hd):Prop where
  hp:Sm 1000 h.p
  hc:Sm 1000 h.c
  s1:FP 163 [aI ts,nA x.1,nA h.a.1] (.tup [nA (sX (j7 ts h x).1),.v .nilIface])
  s2:FP 163 [aI ts,nA x.2,nA h.a.2] (.tup [nA (sX (j7 ts h x).2),.v .nilIface])
  e1:sX (dE ts h.a.1)=h.a.1
  e2:sX (dE ts h.a.2)=h.a.2
  b:BdP ts (b9 h.c h.p) (j7 ts h x) h.p (lX ts h)
theorem HdP.body{ts:LL}{x:List Rat×List Rat}{h:Hd}(H:HdP ts x h) :
  Con prog 143 [.ptr 1000 0,qP (b9 h.c h.p),da (j7 ts h x).l,qP h.p,aA h.a.1 h.a.2] [(1000,some (a7 ts))] (mM ts x h).av [(1000,some (a7 ts))]:=by
 have hb:=A5 (Sm.mono (H.hc.sub H.hp) oz) (Sm.mono H.hp oz) H.b
 have e:da (lX ts h).l=aA h.a.1 h.a.2:=by
  show aA (sX (dE ts h.a.1)) (sX (dE ts h.a.2))=_;rw[H.e1,H.e2]
 rw[e]at hb;exact hb
def kl(m:Mt)(hs:List Hd)(i:Nat):Sv:=⟨m.ts,hs.map (mM m.ts (m.ps.getD i ([],[]))),if m.ps.length=1 then 0 else 1-2*(i:Int)⟩
def iO(m:Mt)(hs:List Hd)(n:Nat):List AV:=(List.range n).map fun i=>(kl m hs i).av
theorem yZ(m:Mt)(hs:List Hd)(n:Nat):(iO m hs n).length=n:=by simp[iO]
theorem Oe(m:Mt)(hs:List Hd)(n:Nat):iO m hs (n+1)=iO m hs n++[(kl m hs n).av]:=by unfold iO;rw[List.range_succ];simp
theorem H4{m:Mt}{r:Nat}(tw:Tw m.ts r)(hs:List Hd)(hl:hs.length<=2)(ml:m.ps.length<=2)(H:∀x∈m.ps,∀h∈hs,HdP m.ts x h) :
  FP 148 [m.av,.lst 14 (hs.map Hd.av)] (.tup [.lst 3 (iO m hs m.ps.length),.v .nilIface]):=by
 refine af func148 ?_;refine gl ?_;refine gW (Wk.virt 900 3 rfl) ?_;refine aM [1,2,15,16] [2] (fun(i:Nat)=>[(6,some (.ms 900 3 0 i)),(17,some (i64 i))]) (fun i=>[(900,some (.row 3 (iO m hs i)))]) (fun i=>i<=m.ps.length) (fun i=>m.ps.length-i) 0 (zero_le _) ?_;rintro i hi K1 J1;refine gC (fun t18=>?_) (fun t18=>?_) (st2:=(17,0))
 ·have hin:=aW t18;obtain⟨x,hx⟩:=aw hin;have hx9:m.ps.getD i ([],[])=x:=aD hx;have hxm:=mem_of_getElem? hx;refine gi (ax hx) ?_;refine gc (z8 tw) ?_;refine gl ?_;refine gc (CO i m.ps.length oz) ?_;refine gD ?_ (7,0);refine gW (Wk.o (sl:=[(1,some (.lst 14 (hs.map Hd.av))),(2,some (.ptr 2 0)),(6,some (.ms 900 3 0 i)),(8,some (.ptr 8 0)),(9,some (.ptr 25 0)),(10,some (.ptr 10 0)),(15,some (.lst 2 (m.ps.map da))),(16,some (i64 m.ps.length)),(17,some (i64 i))]) (hp:=[(2,some (.box [.lst 1 (m.ts.map nA),.lst 2 (m.ps.map da)])),(8,some (.box [nA x.1,nA x.2])),(10,some (.box [.lst 1 (m.ts.map nA),nS,i64 (if m.ps.length=1 then 0 else 1-2*(i:Int))])),(25,some (a7 m.ts)),(900,some (.row 3 (iO m hs i)))])) ?_
  refine gl ?_;refine gW (Wk.virt 901 4 rfl) ?_;refine aM [1,2,8,9,10,15,16,17,35,36] [2,8,25,900] (fun(k:Nat)=>[(6,some (.ms 900 3 0 i)),(37,some (i64 k))]) (fun k=>[(10,some (.box [.lst 1 (m.ts.map nA),.ms 901 4 0 k,i64 (if m.ps.length=1 then 0 else 1-2*(i:Int))])),(901,some (.row 4 (((hs.take k).map (mM m.ts x)).map Pq.av)))]) (fun k=>k<=hs.length) (fun k=>hs.length-k) 0 (zero_le _) ?_ (h2:=(.cons rfl (BlkSub.bL (.cons (.refl _) (.cons (.nM _ _ _) (.cons (.refl _) .nil))) rfl) (.k .nil)))
  rintro k hk K2 J2;refine gC (fun t38=>?_) (fun t38=>?_) (st2:=(13,0))
  ·have hkn:=aW t38;obtain ⟨h,hh⟩:=aw hkn;have Hh:=H x hxm h (mem_of_getElem? hh);refine gi (ax hh) ?_;refine gt (aR (Con.rB 25 rfl rfl rfl rfl (vh Hh.s1)) (az rfl rfl rfl) rfl rfl rfl) ?_;refine gt (aR (Con.rB 25 rfl rfl rfl rfl (vh Hh.s2)) (az rfl rfl rfl) rfl rfl rfl) ?_;refine gD ?_;refine gc (oi Hh.hc Hh.hp oz oz) ?_;refine gt (aR (Con.rB 25 rfl rfl rfl rfl Hh.body) (.cons (.tmp rfl) (.cons (.tmp rfl) (az rfl rfl rfl))) rfl rfl rfl) ?_;refine gs (cq (.tmp rfl) rfl (by rw [length_map,length_map,length_take]; omega) (.tmp rfl) T38 rfl T69 rfl rfl (by dsimp only; simp only [length_cons,length_nil]; omega) rfl rfl) ?_;refine gD ?_ (12,0);refine gW (Wk.of (sl:=[(1,some (.lst 14 (hs.map Hd.av))),(2,some (.ptr 2 0)),(6,some (.ms 900 3 0 i)),(8,some (.ptr 8 0)),(9,some (.ptr 25 0)),(10,some (.ptr 10 0)),(15,some (.lst 2 (m.ps.map da))),(16,some (i64 m.ps.length)),(17,some (i64 i)),(35,some (.lst 14 (hs.map Hd.av))),(36,some (i64 hs.length)),(37,some (i64 k))]) (hp:=[(2,some (.box [.lst 1 (m.ts.map nA),.lst 2 (m.ps.map da)])),(8,some (.box [nA x.1,nA x.2])),(25,some (a7 m.ts)),(10,some (.box [.lst 1 (m.ts.map nA),.ms 71 4 0 (k + 1),i64 (if m.ps.length = 1 then 0 else 1 - 2 * (i:Int))])),(900,some (.row 3 (iO m hs i))),(71,some (.row 4 (((hs.take (k + 1)).map (mM m.ts x)).map Pq.av)))]) aY (.k (.k (.k (.k (.k (.cons rfl (BlkSub.of (by rw [dl hh,map_append,map_append]; rfl)) .nil))))))) ?_ (12,0)
   refine gW (Wk.rk (k:=71) (d:=901) rfl rfl) ?_;refine ga aH ?_;exact aG J2 (k+1) hkn
  have hkn:=be hk t38;subst hkn;refine gW ((Wk.freeze (k:=901) rfl).trans<|Wk.of (sl:=[(1,some (.lst 14 (hs.map Hd.av))),(2,some (.ptr 2 0)),(6,some (.ms 900 3 0 i)),(9,some (.ptr 25 0)),(10,some (.ptr 10 0)),(15,some (.lst 2 (m.ps.map da))),(16,some (i64 m.ps.length)),(17,some (i64 i))]) (hp:=[(2,some (.box [.lst 1 (m.ts.map nA),.lst 2 (m.ps.map da)])),(25,some (a7 m.ts)),(10,some (.box [.lst 1 (m.ts.map nA),.lst 4 ((hs.map (mM m.ts x)).map Pq.av),i64 (if m.ps.length=1 then 0 else 1-2*(i:Int))])),(900,some (.row 3 (iO m hs i)))]) aY (.k (.k (.cons rfl (BlkSub.bL (.cons (.refl _) (.cons (Sub.of (by rw[bO (by rw[length_map,length_map,length_take];omega),take_length])) (.cons (.refl _) .nil))) rfl) (.k .nil))))) ?_
  refine gC (fun t78=>?_) (fun t78=>?_) (st1:=(14,0));cases t78;refine gs (cq (.tmp rfl) rfl (yZ _ _ _).symm (.tmp rfl) T54 rfl T62 rfl rfl (by dsimp only;simp only[length_cons,length_nil];omega) rfl rfl) ?_ (16,0);refine gW (Wk.of (sl:=[(1,some (.lst 14 (hs.map Hd.av))),(2,some (.ptr 2 0)),(6,some (.ms 86 3 0 (i+1))),(15,some (.lst 2 (m.ps.map da))),(16,some (i64 m.ps.length)),(17,some (i64 i))]) (hp:=[(2,some (.box [.lst 1 (m.ts.map nA),.lst 2 (m.ps.map da)])),(86,some (.row 3 (iO m hs (i+1))))]) aY (.k (.cons rfl (BlkSub.of (by rw[Oe];unfold kl;rw[hx9])) .nil))) ?_ (16,0);refine gW (Wk.rk (k:=86) (d:=900) rfl rfl) ?_;refine ga aH ?_;exact aG J1 (i+1) hin
 have hin:=be hi t18;subst hin;refine gW ((Wk.freeze (k:=900) rfl).trans<|Wk.of (sl:=[(6,some (.lst 3 (iO m hs m.ps.length)))]) (hp:=[]) (.cons rfl (Sub.of (by rw[bO (yZ _ _ _).symm])) .nil) .nil) ?_;refine bj ?_;rfl
variable{P:Program}{N:Nat}{R:Array Oper}{s:AS}{pos:String}{after:Array Edge}
def v7(P:Program)(t:TypeId):Bool:=match P.underlying t with |some (.slice _)=>true |_=>false
theorem Iv{t:TypeId}(h:v7 P t=true):∃e,P.underlying t=some (.slice e):=by
 unfold v7 at h;split at h
 ·exact⟨_,by assumption⟩
 ·cases h
theorem Fh(w:World)(t e:TypeId)(a:Option Addr)(l c:Nat)(h:P.underlying t=some (.slice e)):(binOp .eql t (.slice a l c) (.slice none 0 0)).run P w=.ok (.bool a.isNone) w:=by
 simp only[binOp];simp[run_equal_slice_nil w t e a l c h]
theorem Fx{d:Nat}{x:Operand}{sz:Nat}{e:AV}{es:List AV}{S T t:TypeId}(hx:Ev s x (.lst sz (e::es)))(hS:v7 P S=true)(hN:Nat.blt d N=true) :
  Step P N R s ⟨some d,.binOp .eql S x (.const (.slice none 0 0)) T,t,pos,after,none⟩ ⟨some (.v (.bool false)),[],an x,[]⟩ :=
 dR rfl rfl hN fun s' hag C m ac w hr=>⟨.bool false,by
  have h:=(hx.agree hag (fun _ h=>h)).rep hr;obtain⟨el,hel⟩:=Iv hS;generalize hu:ac.eval x=y at h
  have hy:∃b l cap,y=.slice (some b) l cap:=by
   cases h with
   |lst u hb hc hl hs h1 hu hrr=>exact⟨_,_,_,rfl⟩
  obtain⟨b,l,cap,rfl⟩:=hy;have e1:ac.eval (.const (.slice none 0 0))=.slice none 0 0:=rfl;simp[execOp,hu,e1,eqGuard,Fh w S el (some b) l cap hel],.v _⟩
theorem GM{d:Nat}{x:Operand}{a:Option Addr}{l cap:Nat}{S T t:TypeId}(hx:Ev s x (.v (.slice a l cap)))(hS:v7 P S=true)(hN:Nat.blt d N=true) :
  Step P N R s ⟨some d,.binOp .eql S x (.const (.slice none 0 0)) T,t,pos,after,none⟩ ⟨some (.v (.bool a.isNone)),[],an x,[]⟩ :=
 dR rfl rfl hN fun s' hag C m ac w hr=>⟨.bool a.isNone,by
  have h:=(hx.agree hag (fun _ h=>h)).rep hr;obtain⟨el,hel⟩:=Iv hS;generalize hu:ac.eval x=y at h;cases h;have e1:ac.eval (.const (.slice none 0 0))=.slice none 0 0:=rfl;simp[execOp,hu,e1,eqGuard,Fh w S el a l cap hel],.v _⟩
end Go.Lw
namespace Go.Lw
theorem Con.rekeyB1{P:Program}{f:FuncId}{k off:Nat}{x x':Blk}{y0:AV}{xs:List AV}{r:AV}(d:Nat)(hx:x.nm=[])(hx':x'.nm=[])(hy0:y0.nm=[])(hxs:(xs.all fun x=>x.nm.isEmpty)=true)(hr:r.nm=[])
  (h:Con P f (y0 :: .ptr k off::xs) [(k,some x)] r [(k,some x')]):Con P f (y0 :: .ptr d off::xs) [(d,some x)] r [(d,some x')]:=by
 refine⟨h.ok,?_⟩;intro ext m w vs hext hheap hvs hrep
 have h1 := h.ret ext (fun _ => m d) w vs hext (tX (k := d) hx rfl hheap) (by simpa using hvs) (by
  intro j v y hv hy;rw[jG (d:=k) (k:=d) (y:=x) (x:=x) (m2:=fun _=>m d) (m:=m) rfl]
  match j,hy with
  |0,hy =>
   cases hy;exact iL hy0 (hrep 0 v _ hv rfl)
  |1,hy =>
   cases hy;have h2:=hrep 1 v _ hv rfl;cases h2 with
   |ptr hm=>exact .ptr hm
  |j+2,hy =>
   have h2:=hrep (j+2) v y hv hy;refine iL ?_ h2;have:=List.all_eq_true.1 hxs y (mem_of_getElem? hy);simpa using this)
 refine Calls.mono h1 ?_;rintro e w' ⟨v,m',rfl,hf,hh,hn,hk,hrr⟩
 have ho:aX [(k,some x)] (fun _=>m d)=aX [(d,some x)] m:=by
  funext b;apply propext;rw[jT,jT]
 refine⟨v,fun _=>m' k,rfl,ho▸hf,tX (k:=k) hx' rfl hh,?_,?_,?_⟩
 ·intro k' x b hx hb;rw[<- ho];exact hn k _ b (by rw[aK,if_pos rfl]) hb
 ·intro k' x y hx hy;obtain⟨rfl,_⟩:=fu hx;exact hk k _ _ (by rw[aK,if_pos rfl]) (by rw[aK,if_pos rfl])
 ·rw[jG (d:=d) (k:=k) (y:=x') (x:=x') (m2:=fun _=>m' k) (m:=m') rfl];exact iL hr hrr
open Go.Proofs
theorem qN{p q:Rat×Rat}(hp:Sm 1000 p)(hq:Sm 1000 q):Qz 310000 (bT p q) 3:=tO (KZ hp hq) oz
structure MtOk(ts:LL)(m:Mt):Prop where
  tw:∃r,Tw m.ts r/\kB r m.ts.length<=1101400000
  two:m.ts.length<=2
  ln:m.ps.length<=2
  ps:∀x∈m.ps,Nm m.ts.length 15500000000 x.1/\Nm m.ts.length 15500000000 x.2
  up:∀(e:Nat)(y:Et ts),Nm ts.length e (sX y)->Nm m.ts.length e (sX y)/\sX (dE m.ts (sX y))=sX y
theorem Aj{ts:LL}(e:Nat)(y:Et ts)(h:Nm ts.length e (sX y)):Nm ts.length e (sX y)/\sX (dE ts (sX y))=sX y:=⟨h,congrArg (sh ts.length) (a6 _ _)⟩
theorem vc{ts:LL}{X:Et ts}(hn:ts.length<=1)(e:Nat)(y:Et ts)(h:Nm ts.length e (sX y)):Nm (aJ ts (sX X)).length e (sX y)/\sX (dE (aJ ts (sX X)) (sX y))=sX y:=by
 refine⟨lW h oz,?_⟩;show sh (aJ ts (sX X)).length (ad (aJ ts (sX X)).length (sX y))=sX y;rw[dP,fW h.nl.le];show(if T.isZ ts.length (T.zero ts.length)=true then sh ts.length (ad ts.length (sX y))else _)=_;rw[if_pos ((T.isZ_iff _ _).2 rfl)];exact congrArg (sh ts.length) (a6 _ _)
theorem pW{ts:LL}{ps:List (List Rat×List Rat)}(tw:Tw ts 64990)(hn:ts.length<=1)(hl:ps.length<=2)(hp:∀x∈ps,Nm ts.length 15500000000 x.1/\Nm ts.length 15500000000 x.2):MtOk ts ⟨ts,ps⟩ :=
 ⟨⟨64990,tw,by have:=xc hn;show kB 64990 ts.length<=_;omega⟩,by show ts.length<=2;omega,hl,hp,Aj⟩
theorem GT{ts:LL}{X:Et ts}{ps:List (List Rat×List Rat)}(E:ExtP X)(hn:ts.length<=1)(hl:ps.length<=2)(hp:∀x∈ps,Nm (aJ ts (sX X)).length 15500000000 x.1/\Nm (aJ ts (sX X)).length 15500000000 x.2):MtOk ts ⟨aJ ts (sX X),ps⟩ :=
 ⟨⟨366909990,E.tw,by
  have h:=g9 366909990 (show ts.length+1<=2 by omega);have h2:eB 366909990 2=1100729976:=by decide
  show eB 366909990 (aJ ts (sX X)).length<=_;rw[dP];omega⟩,by show(aJ ts (sX X)).length<=2;rw[dP];omega,hl,hp,vc hn⟩
theorem pF{ts:LL}{m:Mt}(ok:MtOk ts m){x:List Rat×List Rat}(hx:x∈m.ps){p c:Rat×Rat}{o:P2 ts}(a1:Nm ts.length 773000000 (sX o.1))(a2:Nm ts.length 773000000 (sX o.2))(hp:Sm 1000 p)(hc:Sm 1000 c)
  (h0:bW (b9 c p) (b9 c p)≠0):HdP m.ts x ⟨p,o.l,c⟩:=by
 obtain⟨r,tw,hk⟩:=ok.tw;obtain⟨n1,n2⟩:=ok.ps x hx;obtain⟨b1,e1⟩:=ok.up _ _ a1;obtain⟨b2,e2⟩:=ok.up _ _ a2;have hl:lm m.ts.length=200000000000:=by unfold lm;rw[if_pos ok.two]
 refine⟨hp,hc,oO tw n1 b1 (by rw[hl];omega),oO tw n2 b2 (by rw[hl];omega),e1,e2,Cq tw ok.two hk ((hc.sub hp).mono oz) (hp.mono oz) h0 ((n1.sub b1).mono oz) ((n2.sub b2).mono oz) ?_ ?_⟩
 ·show Nm m.ts.length 773000000 (sX (dE m.ts (sX o.1)));rw[e1];exact b1
 ·show Nm m.ts.length 773000000 (sX (dE m.ts (sX o.2)));rw[e2];exact b2
theorem kT{α:Type}{P:α->Prop}{x y:α}(hx:P x)(hy:P y):∀z∈[x,y],P z:=by
 intro z hz;rcases List.mem_cons.1 hz with rfl |hz
 ·exact hx
 ·rw[List.mem_singleton.1 hz];exact hy
theorem iw{α:Type}{P:α->Prop}{x:α}(hx:P x):∀z∈[x],P z:=by
 intro z hz;rw[List.mem_singleton.1 hz];exact hx
theorem Hr{ts:LL}{x y z x2 y2 z2:Et ts}(tw:Tw ts 64990)(hn:ts.length<=1)(c:Ct ts 310000 65000)(h1:Zu 310000 65000 x 40 40)(h2:Zu 310000 65000 y 40 40)(h3:Zu 310000 65000 z 3 0)(h4:Zu 310000 65000 x2 40 40)(h5:Zu 310000 65000 y2 40 40)(h6:Zu 310000 65000 z2 3 0)
  (h0:fR (x,y) (x2,y2) z z2=0):MtOk ts (eY (x,y) (x2,y2) z z2):=by
 have P:=Bm c h1 h2 h3 h4 h5 h6;have ce:=c.ex;have ck:=c.k1;have cu:=c.u3;haveI cy:Cy ts 310000 65000:=⟨ce,ck,cu,by omega⟩
 unfold fR at h0;unfold eY
 by_cases hd:ak (aC (x,y) (x2,y2))=0
 ·rw[if_pos hd]at h0 ⊢;unfold l0 at h0;unfold l7
  by_cases hz:ak (z-z2)≠0
  ·rw[if_pos hz];exact pW tw hn (by simp) (by simp)
  ·rw[if_neg hz]
   by_cases hp:0<ak z
   ·rw[if_pos ⟨Decidable.not_not.1 hz,hp⟩]at h0;cases h0
   ·rw[if_neg hp];haveI:=h1;haveI:=h2
    refine pW tw hn (by simp) (iw ⟨?_,?_⟩)
    ·exact(inferInstance:Zu 310000 65000 (x+0*x) _ _).nm.mono (by decide)
    ·exact(inferInstance:Zu 310000 65000 (y+0*y) _ _).nm.mono (by decide)
 ·rw [if_neg hd];have ht0:ak (ek (aC (x,y) (x2,y2))) ≠ 0:=by rw [wF tw]; exact hd
  by_cases hx0:ak (bC (x,y) z (x2,y2) z2)<0
  ·rw[if_pos hx0];exact pW tw hn (by simp) (by simp)
  ·rw[if_neg hx0];obtain⟨_,_,f1,f2⟩:=Ig hn h1 h2 h3 h6 P ht0
   by_cases hx1:ak (bC (x,y) z (x2,y2) z2)=0
   ·rw[if_pos hx1];exact pW tw hn (by simp) (iw ⟨f1.nm.mono (by decide),f2.nm.mono (by decide)⟩)
   ·rw[if_neg hx1];have E:ExtP (bC (x,y) z (x2,y2) z2):=sP tw hn P.zX oz;have S:=GO (X:=bC (x,y) z (x2,y2) z2) (d:=aC (x,y) (x2,y2)) (f:=eZ (x,y) (x2,y2) z z2) (v:=fN (x,y) (x2,y2)) hn E P.zt ht0 f1 f2 P.z1 P.z2;exact GT E hn (by simp) (kT ⟨S.n1.1.nm.mono (by decide),S.n1.2.nm.mono (by decide)⟩ ⟨S.n2.1.nm.mono (by decide),S.n2.2.nm.mono (by decide)⟩)
theorem Dj{ts:LL}{o p q:P2 ts}{z:Et ts}(tw:Tw ts 64990)(hn:ts.length<=1)(c:Ct ts 310000 65000)(o1:Zu 310000 65000 o.1 40 40)(o2:Zu 310000 65000 o.2 40 40)(p1:Zu 310000 65000 p.1 40 40)(p2:Zu 310000 65000 p.2 40 40)(q1:Zu 310000 65000 q.1 40 40)(q2:Zu 310000 65000 q.2 40 40)
  (i3:Zu 310000 65000 z 3 0) (h0:fV p q=0):MtOk ts (fa p q o z):=by
 have ce:=c.ex;have ck:=c.k1;have cu:=c.u3;haveI cy:Cy ts 310000 65000:=⟨ce,ck,cu,by omega⟩
 have P:=CI cy p1 p2 q1 q2 o1 o2 i3;unfold fV at h0;unfold fa
 by_cases hs:ak (br p q)=0
 ·rw[if_pos hs]at h0;cases h0
 ·rw[if_neg hs]
  by_cases h1:ak (aU p q o z)=-1
  ·rw[if_pos h1];exact pW tw hn (by simp) (by simp)
  ·rw[if_neg h1]
   by_cases h2:ak (aU p q o z)=0
   ·rw[if_pos h2];have Q:=Bj cy hn p1 p2 P hs;exact pW tw hn (by simp) (iw ⟨Q.n1.nm.mono (by decide),Q.n2.nm.mono (by decide)⟩)
   ·rw[if_neg h2]
    have hpos:0<=ak (aU p q o z):=by
     have:=T.sgn_cases (aj ts) ts.length (aU p q o z);have e:ak (aU p q o z)=T.sgn (aj ts) ts.length (aU p q o z):=rfl;omega
    have E:ExtP (aU p q o z):=sP tw hn (yg P.zX oz oz) hpos;haveI ce:=E.cy;haveI zr:Zl (aJ ts (sX (aU p q o z))) 773000000 1101400000 (cc ts.length) (dE _ (cc ts.length)) 1 0:=Zl.at (rI oz) (by decide);haveI ze':=jH (X:=aU p q o z) hn P.ze (by decide);haveI:=zr.zu;haveI:=ze'.zu
    have S1:=uI (p:=p) (v:=bu q p) hn E P.zs hs p1 p2 P.v1 P.v2 (k:=aL (aU p q o z) (bS p q o)+bw (aU p q o z)) inferInstance;have S2:=uI (p:=p) (v:=bu q p) hn E P.zs hs p1 p2 P.v1 P.v2 (k:=aL (aU p q o z) (bS p q o)-bw (aU p q o z)) inferInstance;exact GT E hn (by simp) (kT ⟨S1.n1.nm.mono (by decide),S1.n2.nm.mono (by decide)⟩ ⟨S2.n1.nm.mono (by decide),S2.n2.nm.mono (by decide)⟩)
abbrev pi(r:List AV×Nat):AV:=.tup [.lst 3 r.1,bp r.2]
def mN(l:Li)(a:As)(i k:Int)(j0 j1 j2:Jt):List AV×Nat :=
  if gw [b9 (ai l j2 i) (ai l j0 i),b9 (ai l j2 k) (ai l j1 k)]=true then([],15)
  else if fR (aP l a j0 i) (aP l a j1 k) (qE (bT (ai l j2 i) (ai l j0 i))) (qE (bT (ai l j2 k) (ai l j1 k)))≠0 then([],fR (aP l a j0 i) (aP l a j1 k) (qE (bT (ai l j2 i) (ai l j0 i))) (qE (bT (ai l j2 k) (ai l j1 k))))
  else(iO (eY (aP l a j0 i) (aP l a j1 k) (qE (bT (ai l j2 i) (ai l j0 i))) (qE (bT (ai l j2 k) (ai l j1 k)))) [⟨ai l j0 i,P2.l (aP l a j0 i),ai l j2 i⟩,⟨ai l j1 k,P2.l (aP l a j1 k),ai l j2 k⟩]
    (eY (aP l a j0 i) (aP l a j1 k) (qE (bT (ai l j2 i) (ai l j0 i))) (qE (bT (ai l j2 k) (ai l j1 k)))).ps.length,0)
theorem Jp{l:Li}{a:As}(D:DyR l a)(hn:(llq a.rs).length<=1){i k z0 z1 z2:Int}{j0 j1 j2:Jt}(hg:GrOk l ⟨1,[i,k],[z0,z1,z2],0⟩)(P:RrrP 3900000 l a ⟨1,[i,k],[z0,z1,z2],0⟩ i k z0 z1 z2 j0 j1 j2) :
  Con prog 63 [.ptr 1000 0] [(1000,some (cC l ⟨1,[i,k],[z0,z1,z2],0⟩ a))] (pi (mN l a i k j0 j1 j2)) [(1000,some (cC l ⟨1,[i,k],[z0,z1,z2],0⟩ a))]:=by
 haveI c:=D.s.ct D.hc;obtain⟨tw,etw⟩:=cA D.s.tr D.hc;have hq0:=ig D.hl D.li P.h0 P.p0.or;have hq1:=ig D.hl D.li P.h1 P.p1.or;have hq2:=ig D.hl D.li P.h2 P.t1;have hq3:=ig D.hl D.li P.h2 P.t2;obtain⟨y1,y2⟩:=ma D.hl D.li D.al D.s D.hc P.h0 P.p0;obtain⟨y3,y4⟩:=ma D.hl D.li D.al D.s D.hc P.h1 P.p1;haveI:=y1;haveI:=y2;haveI:=y3;haveI:=y4
 haveI q1:=qN hq2 hq0;haveI q2:=qN hq3 hq1;haveI z1:Zu 310000 65000 (qE (bT (ai l j2 i) (ai l j0 i)):Et (llq a.rs)) 3 0:=inferInstance;haveI z2:Zu 310000 65000 (qE (bT (ai l j2 k) (ai l j1 k)):Et (llq a.rs)) 3 0:=inferInstance;have hr:=Ka (a:=sX (aP l a j0 i).1) (b:=sX (aP l a j0 i).2) (c:=sh 0 (bT (ai l j2 i) (ai l j0 i):Rat)) (a2:=sX (aP l a j1 k).1) (b2:=sX (aP l a j1 k).2) (c2:=sh 0 (bT (ai l j2 k) (ai l j1 k):Rat)) D.s.tr D.hc hn rfl rfl (A6 _ _) (A6 _ _);have hzz:=H0 [b9 (ai l j2 i) (ai l j0 i),b9 (ai l j2 k) (ai l j1 k)] (by show 2<=_;omega) (kT ((hq2.sub hq0).mono oz) ((hq3.sub hq1).mono oz));refine gF func63 (fun k z h=>bq h) ?_;refine gt (aR (Sh D.hl D.li D.al D.hc D.two hg P.h0 P.h1 P.h2 P.p0 P.p1 P.t1 P.t2) (cI rfl) rfl rfl rfl) ?_;refine gC (fun t13=>?_) (fun t13=>?_) (st1:=(3,0));cases t13;refine gc (oi hq2 hq0 oz oz) ?_;refine gc (oi hq3 hq1 oz oz) ?_;refine gc hzz ?_;refine gD ?_;refine gC (fun t23=>?_) (fun t23=>?_)
 ·have h1:gw [b9 (ai l j2 i) (ai l j0 i),b9 (ai l j2 k) (ai l j1 k)]=true:=t23;refine gR ?_;exact(ao.keep (bb rfl)).sub (by unfold mN;rw[if_pos h1];exact Sub.tup (.cons (.nil _ _ _) (.cons (.refl _) .nil)))
 have h1:gw [b9 (ai l j2 i) (ai l j0 i),b9 (ai l j2 k) (ai l j1 k)]=false:=t23;obtain⟨w1,w2⟩:=ul h1;refine gc (zg hq0 hq2 _) ?_;refine gc (zg hq1 hq3 _) ?_;refine gc hr ?_;refine gD ?_;refine gC (fun t51=>?_) (fun t51=>?_)
 ·have h2:=de t51;refine gR ?_;exact(ao.keep (bb rfl)).sub (by unfold mN;rw[if_neg (by rw[h1];decide),if_pos h2];exact Sub.tup (.cons (.nil _ _ _) (.cons (.refl _) .nil)))
 have h2:=cQ t51;have ok:=Hr (x:=(aP l a j0 i).1) (y:=(aP l a j0 i).2) (x2:=(aP l a j1 k).1) (y2:=(aP l a j1 k).2) tw hn c y1 y2 z1 y3 y4 z2 h2;obtain⟨r9,tw9,_⟩:=ok.tw
 have hpl:=H4 tw9 [⟨ai l j0 i,P2.l (aP l a j0 i),ai l j2 i⟩,⟨ai l j1 k,P2.l (aP l a j1 k),ai l j2 k⟩] (le_refl 2) ok.ln
  (fun x hx=>kT (pF ok hx (y1.nm.mono (by decide)) (y2.nm.mono (by decide)) hq0 hq2 w1) (pF ok hx (y3.nm.mono (by decide)) (y4.nm.mono (by decide)) hq1 hq3 w2))
 refine gc hpl ?_;refine gR ?_;exact(ao.keep (bb rfl)).sub (Sub.of (by unfold mN;rw[if_neg (by rw[h1];decide),if_neg (fun h=>h h2)];rfl))
def no(l:Li)(a:As)(i:Int)(j0 j:Jt):List AV×Nat :=
  if gw [b9 (a5 l i j.point) (ai l j0 i)]=true then([],15)
  else if fV (bJ l a j.b j.on) (bJ l a j.b j.to)≠0 then([],fV (bJ l a j.b j.on) (bJ l a j.b j.to))
  else(iO (fa (bJ l a j.b j.on) (bJ l a j.b j.to) (aP l a j0 i) (qE (bT (a5 l i j.point) (ai l j0 i)))) [⟨ai l j0 i,P2.l (aP l a j0 i),a5 l i j.point⟩]
    (fa (bJ l a j.b j.on) (bJ l a j.b j.to) (aP l a j0 i) (qE (bT (a5 l i j.point) (ai l j0 i)))).ps.length,0)
theorem JE{l:Li}{a:As}(D:DyR l a)(hn:(llq a.rs).length<=1){i z0 z1:Int}{j0 j:Jt}(hg:GrOk l ⟨2,[i],[z0,z1],0⟩)(P:SlP 3900000 l a ⟨2,[i],[z0,z1],0⟩ 2 i z0 z1 j0 j)(ha:j.a=i)(hb:Pd 3900000 a j.b) :
  Con prog 64 [.ptr 1000 0] [(1000,some (cC l ⟨2,[i],[z0,z1],0⟩ a))] (pi (no l a i j0 j)) [(1000,some (cC l ⟨2,[i],[z0,z1],0⟩ a))]:=by
 haveI c:=D.s.ct D.hc;obtain⟨tw,etw⟩:=cA D.s.tr D.hc;obtain⟨i1,i2,i3,i4,i5⟩:=dZ D.li P.h1;have hq2:Sm 1000 (a5 l i j.point):=by rw[<- ha];exact kQ D.hl D.li i1 i3
 have hq0:=ig D.hl D.li P.h0 P.p0.or;obtain⟨y1,y2⟩:=ma D.hl D.li D.al D.s D.hc P.h0 P.p0;obtain⟨y3,y4⟩:=mD D.hl D.li D.al D.s D.hc i2 i4 hb;obtain⟨y5,y6⟩:=mD D.hl D.li D.al D.s D.hc i2 (i5 P.hk) hb;haveI q1:=qN hq2 hq0;haveI z1:Zu 310000 65000 (qE (bT (a5 l i j.point) (ai l j0 i)):Et (llq a.rs)) 3 0:=inferInstance;have hr:=MK (o:=aP l a j0 i) (p:=bJ l a j.b j.on) (q:=bJ l a j.b j.to) (c:=sh 0 (bT (a5 l i j.point) (ai l j0 i):Rat)) D.s.tr D.hc hn c y1 y2 y3 y4 y5 y6 (A6 _ _);have hzz:=H0 [b9 (a5 l i j.point) (ai l j0 i)] (by show 1<=_;omega) (iw ((hq2.sub hq0).mono oz));refine gF func64 (fun k z h=>bq h) ?_;refine gt (aR (I6 D.hl D.li D.al D.hc D.two hg P.h0 P.h1 P.p0 ha P.hk hb) (cI rfl) rfl rfl rfl) ?_;refine gC (fun t15=>?_) (fun t15=>?_) (st1:=(3,0));cases t15;refine gc (oi hq2 hq0 oz oz) ?_;refine gc hzz ?_;refine gC (fun t25=>?_) (fun t25=>?_)
 ·have h1:gw [b9 (a5 l i j.point) (ai l j0 i)]=true:=t25;refine gR ?_;exact(ao.keep (bb rfl)).sub (by unfold no;rw[if_pos h1];exact Sub.tup (.cons (.nil _ _ _) (.cons (.refl _) .nil)))
 have h1:gw [b9 (a5 l i j.point) (ai l j0 i)]=false:=t25;have w1:=vQ h1;refine gc (zg hq0 hq2 _) ?_;refine gc hr ?_;refine gD ?_;refine gC (fun t48=>?_) (fun t48=>?_)
 ·have h2:=de t48;refine gR ?_;exact(ao.keep (bb rfl)).sub (by unfold no;rw[if_neg (by rw[h1];decide),if_pos h2];exact Sub.tup (.cons (.nil _ _ _) (.cons (.refl _) .nil)))
 have h2:=cQ t48;have ok:=Dj (o:=aP l a j0 i) (p:=bJ l a j.b j.on) (q:=bJ l a j.b j.to) (z:=qE (bT (a5 l i j.point) (ai l j0 i))) tw hn c y1 y2 y3 y4 y5 y6 z1 h2;obtain⟨r9,tw9,_⟩:=ok.tw;have hpl:=H4 tw9 [⟨ai l j0 i,P2.l (aP l a j0 i),a5 l i j.point⟩] (show 1<=2 by omega) ok.ln (fun x hx=>iw (pF ok hx (y1.nm.mono (by decide)) (y2.nm.mono (by decide)) hq0 hq2 w1));refine gc hpl ?_;refine gR ?_;exact(ao.keep (bb rfl)).sub (Sub.of (by unfold no;rw[if_neg (by rw[h1];decide),if_neg (fun h=>h h2)];rfl))
theorem Es{ts:LL}{r e:Nat}(tw:Tw ts r){a b c:List Rat}(ha:Nm ts.length e a)(hb:Nm ts.length e b)(hc:Nm ts.length e c)(he:2*(e+e+kB r ts.length)<=lm ts.length) :
  FP 152 [aI ts,nA a,aA b c] (.tup [aA (sh ts.length (T.mul (aj ts) ts.length (ad ts.length a) (ad ts.length b))) (sh ts.length (T.mul (aj ts) ts.length (ad ts.length a) (ad ts.length c))),.v .nilIface]):=by
 refine af func152 ?_;refine gc (wR (e:=e) tw [a,b,c] (by simp only[mem_cons,not_mem_nil,or_false];rintro x (rfl |rfl |rfl) <;> assumption) oz (by simp)) ?_;refine gC (fun t19=>?_) (fun t19=>?_) (st1:=(3,0));cases t19;refine gt (ay (Con.rB 24 rfl rfl rfl rfl (lC tw ha hb oz)) (az rfl rfl rfl) aE rfl rfl) ?_;refine gt (ay (Con.rB 24 rfl rfl rfl rfl (lC tw ha hc oz)) (az rfl rfl rfl) aE rfl rfl) ?_;refine gt (ay (Con.rB 24 rfl rfl rfl rfl (uZ _ _ _)) (bB rfl rfl) aE rfl rfl) ?_;refine gD ?_;refine bj ?_;rfl
section
variable{ts:LL}
def rh(q w1 w2 h:Et ts):Et ts:=q*w1-h*-w2
def sL(q w1 w2 h:Et ts):Et ts:=q*w2-h*w1
def nQ(ts:LL)(q h d:List Rat)(w:List Rat×List Rat):P2 ts:=(rh (dE ts q) (dE ts w.1) (dE ts w.2) (dE ts h)*iE (dE ts d),sL (dE ts q) (dE ts w.1) (dE ts w.2) (dE ts h)*iE (dE ts d))
structure Rp where
  v:Rat×Rat
  p:Rat×Rat
  a:List Rat×List Rat
  h:List Rat
  d:List Rat
  w:List Rat×List Rat
def qJ(ts:LL)(R:Rp)(q:List Rat):Pq:=gU R.v (nQ ts q R.h R.d R.w) R.p (dE ts R.a.1,dE ts R.a.2)
structure RqP(ts:LL)(R:Rp)(q:List Rat):Prop where
  sm:Sm 3000 R.v
  sp:Sm 3000 R.p
  c1:FP 152 [aI ts,nA q,aA R.w.1 R.w.2] (.tup [aA (sX (dE ts q*dE ts R.w.1)) (sX (dE ts q*dE ts R.w.2)),.v .nilIface])
  ng:FP 138 [aI ts,nA R.w.2] (.tup [nA (sX (-dE ts R.w.2)),.v .nilIface])
  c2:FP 152 [aI ts,nA R.h,aA (sX (-dE ts R.w.2)) R.w.1] (.tup [aA (sX (dE ts R.h*-dE ts R.w.2)) (sX (dE ts R.h*dE ts R.w.1)),.v .nilIface])
  sb:FP 73 [aI ts,aA (sX (dE ts q*dE ts R.w.1)) (sX (dE ts q*dE ts R.w.2)),aA (sX (dE ts R.h*-dE ts R.w.2)) (sX (dE ts R.h*dE ts R.w.1))] (.tup [aA (sX (rh (dE ts q) (dE ts R.w.1) (dE ts R.w.2) (dE ts R.h))) (sX (sL (dE ts q) (dE ts R.w.1) (dE ts R.w.2) (dE ts R.h))),.v .nilIface])
  d1:FP 271 [aI ts,nA (sX (rh (dE ts q) (dE ts R.w.1) (dE ts R.w.2) (dE ts R.h))),nA R.d] (.tup [nA (sX (nQ ts q R.h R.d R.w).1),.v .nilIface])
  d2:FP 271 [aI ts,nA (sX (sL (dE ts q) (dE ts R.w.1) (dE ts R.w.2) (dE ts R.h))),nA R.d] (.tup [nA (sX (nQ ts q R.h R.d R.w).2),.v .nilIface])
  e1:sX (dE ts R.a.1)=R.a.1
  e2:sX (dE ts R.a.2)=R.a.2
  b:BdP ts R.v (nQ ts q R.h R.d R.w) R.p (dE ts R.a.1,dE ts R.a.2)
theorem RqP.body{R:Rp}{q:List Rat}(H:RqP ts R q) :
  Con prog 143 [.ptr 1000 0,qP R.v,da (nQ ts q R.h R.d R.w).l,qP R.p,aA R.a.1 R.a.2] [(1000,some (a7 ts))] (qJ ts R q).av [(1000,some (a7 ts))]:=by
 have hb:=A5 H.sm H.sp H.b
 have e:da (P2.l ((dE ts R.a.1,dE ts R.a.2):P2 ts))=aA R.a.1 R.a.2:=by
  show aA (sX (dE ts R.a.1)) (sX (dE ts R.a.2))=_;rw[H.e1,H.e2]
 rw[e]at hb;exact hb
theorem Ij{R:Rp}{q:List Rat}{j:Nat}(cy:Cy ts 773000000 1101400000)(sm:Sm 3000 R.v)(sp:Sm 3000 R.p)(h0:bW R.v R.v≠0)(nq:Nm ts.length 773000000 q)(nh:Nm ts.length 773000000 R.h)(nd:Nm ts.length 773000000 R.d)
  (n1:Nm ts.length 773000000 R.w.1) (n2:Nm ts.length 773000000 R.w.2) (a1:Nm ts.length 773000000 R.a.1) (a2:Nm ts.length 773000000 R.a.2) (e1:sX (dE ts R.a.1)=R.a.1) (e2:sX (dE ts R.a.2)=R.a.2)
  (nj:Nl j R.d) (hj:j<=ts.length) (hj1:j<=1) (hd:ak (dE ts R.d)≠0):RqP ts R q:=by
 obtain⟨r,tw,hk⟩:=cy.ex;have hl:=cy.lm;haveI:=cy;haveI zq:Zl ts 773000000 1101400000 q (dE ts q) 1 0:=Zl.at nq (le_refl _);haveI zh:Zl ts 773000000 1101400000 R.h (dE ts R.h) 1 0:=Zl.at nh (le_refl _);haveI zd:Zl ts 773000000 1101400000 R.d (dE ts R.d) 1 0:=Zl.at nd (le_refl _);haveI z1:Zl ts 773000000 1101400000 R.w.1 (dE ts R.w.1) 1 0:=Zl.at n1 (le_refl _);haveI z2:Zl ts 773000000 1101400000 R.w.2 (dE ts R.w.2) 1 0:=Zl.at n2 (le_refl _);haveI:=zq.zu;haveI:=zh.zu;haveI:=z1.zu;haveI:=z2.zu
 haveI zn:Zu 773000000 1101400000 (-dE ts R.w.2) 1 0:=inferInstance;haveI y1:Zu 773000000 1101400000 (dE ts q*dE ts R.w.1) 2 1:=inferInstance;haveI y2:Zu 773000000 1101400000 (dE ts q*dE ts R.w.2) 2 1:=inferInstance;haveI y3:Zu 773000000 1101400000 (dE ts R.h*-dE ts R.w.2) 2 1:=inferInstance;haveI y4:Zu 773000000 1101400000 (dE ts R.h*dE ts R.w.1) 2 1:=inferInstance;haveI x1:Zu 773000000 1101400000 (rh (dE ts q) (dE ts R.w.1) (dE ts R.w.2) (dE ts R.h)) 4 3:=(inferInstance:Zu 773000000 1101400000 (dE ts q*dE ts R.w.1-dE ts R.h*-dE ts R.w.2) 4 3)
 haveI x2:Zu 773000000 1101400000 (sL (dE ts q) (dE ts R.w.1) (dE ts R.w.2) (dE ts R.h)) 4 3:=(inferInstance:Zu 773000000 1101400000 (dE ts q*dE ts R.w.2-dE ts R.h*dE ts R.w.1) 4 3)
 have ew:∀x:Et ts,ad ts.length (sX x)=x:=fun x=>a6 _ _
 have hkB:kB r ts.length<=1101400000:=hk;have c1:=Es tw nq n1 n2 (by rw[hl];omega);have ng:=Hi (ts:=ts) (u:=773000000) (k:=1101400000) (a:=R.w.2) (by decide);have nn:Nm ts.length 773000000 (sX (-dE ts R.w.2)):=zn.nm.mono (by decide);have c2:=Es tw nh nn n1 (by rw[hl];omega);rw[ew]at c2;have sb:=GZ (a:=sX (dE ts q*dE ts R.w.1)) (b:=sX (dE ts q*dE ts R.w.2)) (c:=sX (dE ts R.h*-dE ts R.w.2)) (d:=sX (dE ts R.h*dE ts R.w.1)) tw y1.nm y2.nm y3.nm y4.nm (by rw[hl];decide);rw[ew,ew,ew,ew]at sb;have d1:=p9 (ts:=ts) (u:=773000000) (k:=1101400000) (a:=sX (rh (dE ts q) (dE ts R.w.1) (dE ts R.w.2) (dE ts R.h))) (b:=R.d) nj hj hj1 hd (by decide);have d2:=p9 (ts:=ts) (u:=773000000) (k:=1101400000) (a:=sX (sL (dE ts q) (dE ts R.w.1) (dE ts R.w.2) (dE ts R.h))) (b:=R.d) nj hj hj1 hd (by decide);exact⟨sm,sp,c1,ng,c2,sb,d1.1,d2.1,e1,e2,Cq tw cy.two hkB sm sp h0 (d1.2.nm.mono (by decide)) (d2.2.nm.mono (by decide)) (by show Nm ts.length 773000000 (sX (dE ts R.a.1));rw[e1];exact a1) (by show Nm ts.length 773000000 (sX (dE ts R.a.2));rw[e2];exact a2)⟩
end
def jN(ts:LL)(R:Rp)(qs:LL)(i:Nat):Sv:=⟨ts,[qJ ts R (qs.getD i [])],if qs.length=1 then 0 else 1-2*(i:Int)⟩
def j9(ts:LL)(R:Rp)(qs:LL)(n:Nat):List AV:=(List.range n).map fun i=>(jN ts R qs i).av
theorem Al(ts:LL)(R:Rp)(qs:LL)(n:Nat):(j9 ts R qs n).length=n:=by simp[j9]
theorem RI(ts:LL)(R:Rp)(qs:LL)(n:Nat):j9 ts R qs (n+1)=j9 ts R qs n++[(jN ts R qs n).av]:=by unfold j9;rw[List.range_succ];simp
def eg(l:Li)(a:As)(i:Int)(j0 j:Jt):Rp:=⟨dh l i j,ai l j0 i,P2.l (aP l a j0 i),sh 0 (cP l i j0 j:Rat),sX (cJ l a i j0 j),P2.l (dt l a i j0 j)⟩
def bg(l:Li)(a:As)(i:Int)(j0 j:Jt):Et (llq a.rs):=qE (jE l i j)*cJ l a i j0 j-qE (cP l i j0 j)*qE (cP l i j0 j)
def lr(l:Li)(a:As)(i:Int)(j0 j:Jt):List AV×Nat :=
  if ak (cJ l a i j0 j)=0/\ak (qE (cP l i j0 j):Et (llq a.rs))=0 then([],15)
  else if ak (bg l a i j0 j)<0 then([],0)
  else if 0<ak (bg l a i j0 j)then(j9 (aJ (llq a.rs) (sX (bg l a i j0 j))) (eg l a i j0 j) [cc (llq a.rs).length,sX (-bw (bg l a i j0 j))] 2,0)
  else(j9 (llq a.rs) (eg l a i j0 j) [[]] 1,0)
theorem wA{ts:LL}{r:Nat}(tw:Tw ts r){n d h:Et ts}(hs:¬ak (n*d-h*h)<0)(h1:¬(ak d=0/\ak h=0)):ak d≠0:=by
 intro h0;have S:=gN (aj ts) ts.length tw.pos
 have e1:sg (aj ts) ts.length (n*d)=0:=by
  rw[S.mul];have:sg (aj ts) ts.length d=0:=h0;rw[this];exact Int.mul_zero _
 have e2:=S.zadd (y:=-(h*h)) e1;rw[show n*d+-(h*h)=n*d-h*h by grind,S.neg,S.mul]at e2;have e3:ak (n*d-h*h)=sg (aj ts) ts.length (n*d-h*h):=rfl;have e4:ak h=sg (aj ts) ts.length h:=rfl;have h2:sg (aj ts) ts.length h≠0:=fun h9=>h1 ⟨h0,by rw[e4];exact h9⟩
 rw[e3,e2]at hs;rcases S.cs h with g |g |g
 ·rw[g]at hs;exact hs (by decide)
 ·exact h2 g
 ·rw[g]at hs;exact hs (by decide)
theorem Uz{p q:Rat}(h:p*p+q*q=0):p=0/\q=0:=by
 have h1:=oe p;have h2:=oe q;have h3:p*p=0:=by grind
 have h4:q*q=0:=by grind
 exact⟨by rcases Rat.mul_eq_zero.1 h3 with g |g <;> exact g,by rcases Rat.mul_eq_zero.1 h4 with g |g <;> exact g⟩
theorem x7{l:Li}(hli:aB l=0){n:Nat}{j:Jt}(hj:l.jo[n]?=some j)(hk:j.kind≠0){i:Int}(hi:j.b=i):bW (dh l i j) (dh l i j)≠0:=by
 intro h0;obtain⟨h1,h2⟩:=Uz h0;have h3:=HT hli hj;subst hi;have e1:(a5 l j.b j.to).1-(a5 l j.b j.on).1=0:=h1;have e2:(a5 l j.b j.to).2-(a5 l j.b j.on).2=0:=h2;have e3:((cH l j.b).getD j.on.toNat default).x.q=((cH l j.b).getD j.to.toNat default).x.q:=by unfold a5 at e1;dsimp only at e1;grind
 have e4:((cH l j.b).getD j.on.toNat default).y.q=((cH l j.b).getD j.to.toNat default).y.q:=by unfold a5 at e2;dsimp only at e2;grind
 unfold en at h3;split at h3
 ·cases h3
 ·split at h3
  ·cases h3
  ·split at h3
   ·cases h3
   ·split at h3
    ·cases h3
    ·split at h3
     ·cases h3
     ·first |(rw[if_pos ⟨e3,e4⟩]at h3;cases h3) |(split at h3 <;> first |(cases h3;done) |(rename_i g;exact absurd ⟨e3,e4⟩ g))
theorem Mr:Sub (.lst 1 [nS]) (.lst 1 [nA []]):=by
 refine Sub.lst rfl (fun i x y hx hy=>?_)
 match i,hx,hy with
 |0,hx,hy =>
  cases hx;cases hy
  refine⟨rfl,fun j x y hx hy=>?_⟩
  match j,hx,hy with
  |0,hx,hy=>cases hx;cases hy;exact⟨rfl,.nil _ _ _⟩
theorem Up{x y:Int}(h:cond (aa .eql x 0) (aa .eql y 0) false=true):x=0/\y=0:=by
 cases h1:aa .eql x 0
 ·rw[h1]at h;cases h
 ·rw[h1]at h;exact⟨cT h1,cT h⟩
theorem I3{x y:Int}(h:cond (aa .eql x 0) (aa .eql y 0) false=false):¬(x=0/\y=0):=by
 rintro⟨rfl,rfl⟩;cases h
structure RpF(l:Li)(a:As)(i:Int)(j0 j:Jt):Prop where
  hv:Sm 3000 (dh l i j)
  hp:Sm 3000 (ai l j0 i)
  vv:bW (dh l i j) (dh l i j)≠0
  zl:Zl (llq a.rs) 310000 65000 (sh 0 (cP l i j0 j:Rat)) (qE (cP l i j0 j)) 3 0
  z3:Zu 310000 65000 (cJ l a i j0 j) 320 327
  zX:Zu 310000 65000 (bg l a i j0 j) 976 989
  w1:Zu 310000 65000 (dt l a i j0 j).1 80 81
  w2:Zu 310000 65000 (dt l a i j0 j).2 80 81
  y1:Zu 310000 65000 (aP l a j0 i).1 40 40
  y2:Zu 310000 65000 (aP l a j0 i).2 40 40
theorem Fi{l:Li}{a:As}(D:DyR l a)(hn:(llq a.rs).length<=1){g:Gr}{i z0 z1:Int}{j0 j:Jt}(P:SlP 3900000 l a g 3 i z0 z1 j0 j)(hj:j.b=i)(hb:Pd 3900000 a j.a):RpF l a i j0 j:=by
 haveI c:=D.s.ct D.hc;have ck:=c.k1;haveI cy:Cy (llq a.rs) 310000 65000:=⟨c.ex,c.k1,c.u3,by omega⟩
 have hs0:Sm 1000 (ai l j0 i):=ig D.hl D.li P.h0 P.p0.or;obtain⟨i1,i2,i3,i4,i5⟩:=dZ D.li P.h1;have hs1:Sm 1000 (a5 l i j.on):=by rw[<- hj];exact kQ D.hl D.li i2 i4
 have hs2:Sm 1000 (a5 l i j.to):=by rw[<- hj];exact kQ D.hl D.li i2 (i5 P.hk)
 have hv:Sm _ (dh l i j):=hs2.sub hs1;haveI qn:Qz 310000 (jE l i j) 3:=tO (hv.dot hv) oz;haveI qh:Qz 310000 (cP l i j0 j) 3:=tO (hv.cross (hs1.sub hs0)) oz;obtain⟨w1,w2⟩:=Fg D P.h0 P.p0 P.h1 hb;obtain⟨y1,y2⟩:=ma D.hl D.li D.al D.s D.hc P.h0 P.p0;haveI:=w1;haveI:=w2
 haveI z3:Zu 310000 65000 (cJ l a i j0 j) 320 327:=(inferInstance:Zu 310000 65000 (dotE (dt l a i j0 j).1 (dt l a i j0 j).2 (dt l a i j0 j).1 (dt l a i j0 j).2) _ _)
 exact⟨hv.mono oz,hs0.mono oz,x7 D.li P.h1 P.hk hj,Cy.zq,z3,yg (inferInstance:Zu 310000 65000 (qE (jE l i j)*cJ l a i j0 j-qE (cP l i j0 j)*qE (cP l i j0 j)) _ _) (by decide) (by decide),w1,w2,y1,y2⟩
theorem B5{l:Li}{a:As}{i:Int}{j0 j:Jt}(F:RpF l a i j0 j)(tw:Tw (llq a.rs) 64990)(hn:(llq a.rs).length<=1)(hd0:ak (cJ l a i j0 j)≠0)(hp:0<=ak (bg l a i j0 j)) :
  ExtP (bg l a i j0 j)/\RqP (aJ (llq a.rs) (sX (bg l a i j0 j))) (eg l a i j0 j) (cc (llq a.rs).length)/\RqP (aJ (llq a.rs) (sX (bg l a i j0 j))) (eg l a i j0 j) (sX (-bw (bg l a i j0 j))) /\
  FP 138 [aI (aJ (llq a.rs) (sX (bg l a i j0 j))),nA (cc (llq a.rs).length)] (.tup [nA (sX (-bw (bg l a i j0 j))),.v .nilIface]):=by
 have E:ExtP (bg l a i j0 j):=sP tw hn F.zX hp;have ce:=E.cy;have zr:Nm (aJ (llq a.rs) (sX (bg l a i j0 j))).length 773000000 (cc (llq a.rs).length):=(rI oz).mono (by decide);haveI zrl:Zl (aJ (llq a.rs) (sX (bg l a i j0 j))) 773000000 1101400000 (cc (llq a.rs).length) (bw (bg l a i j0 j)) 1 0:=Zl.at zr (by decide);haveI:=zrl.zu;have hng:=Hi (ts:=aJ (llq a.rs) (sX (bg l a i j0 j))) (u:=773000000) (k:=1101400000) (a:=cc (llq a.rs).length) (by decide);have zn:Nm (aJ (llq a.rs) (sX (bg l a i j0 j))).length 773000000 (sX (-bw (bg l a i j0 j))):=(inferInstance:Zu 773000000 1101400000 (-bw (bg l a i j0 j)) 1 0).nm.mono (by decide)
 have hR:∀q,Nm (aJ (llq a.rs) (sX (bg l a i j0 j))).length 773000000 q->RqP (aJ (llq a.rs) (sX (bg l a i j0 j))) (eg l a i j0 j) q:=fun q nq =>
  Ij (R := eg l a i j0 j) (j := (llq a.rs).length) ce F.hv F.hp F.vv nq (lW (F.zl.nm.mono (by decide)) oz) (lW (F.z3.nm.mono (by decide)) oz) (lW (F.w1.nm.mono (by decide)) oz) (lW (F.w2.nm.mono (by decide)) oz)
   (lW (F.y1.nm.mono (by decide)) oz) (lW (F.y2.nm.mono (by decide)) oz) (vc hn _ _ F.y1.nm).2 (vc hn _ _ F.y2.nm).2 F.z3.nm.nl (by rw[dP];omega) hn (by rw[show ak (dE (aJ (llq a.rs) (sX (bg l a i j0 j))) (eg l a i j0 j).d)=ak (cJ l a i j0 j)from oV];exact hd0)
 exact⟨E,hR _ zr,hR _ zn,hng⟩
theorem DF{l:Li}{a:As}{i:Int}{j0 j:Jt}(F:RpF l a i j0 j)(tw:Tw (llq a.rs) 64990)(hn:(llq a.rs).length<=1)(hd0:ak (cJ l a i j0 j)≠0):Cy (llq a.rs) 773000000 1101400000/\RqP (llq a.rs) (eg l a i j0 j) []:=by
 have cs:Cy (llq a.rs) 773000000 1101400000:=⟨⟨64990,tw,by show kB 64990 (llq a.rs).length<=_;have:=xc hn;omega⟩,by omega,by omega,by omega⟩
 have nil0:Nm (llq a.rs).length 773000000 []:=⟨tw.five,.inl rfl,Cb.nil.mono oz⟩
 exact ⟨cs, Ij (R := eg l a i j0 j) (j := (llq a.rs).length) cs F.hv F.hp F.vv nil0 (F.zl.nm.mono (by decide)) (F.z3.nm.mono (by decide)) (F.w1.nm.mono (by decide)) (F.w2.nm.mono (by decide))
   (F.y1.nm.mono (by decide)) (F.y2.nm.mono (by decide)) (Aj _ _ F.y1.nm).2 (Aj _ _ F.y2.nm).2 F.z3.nm.nl (le_refl _) hn (by rw[show ak (dE (llq a.rs) (eg l a i j0 j).d)=ak (cJ l a i j0 j)from congrArg ak (a6 _ _)];exact hd0)⟩
theorem RQ{l:Li}{a:As}(D:DyR l a)(hn:(llq a.rs).length<=1){i z0 z1:Int}{j0 j:Jt}(hg:GrOk l ⟨3,[i],[z0,z1],0⟩)(P:SlP 3900000 l a ⟨3,[i],[z0,z1],0⟩ 3 i z0 z1 j0 j)(hj:j.b=i)(hb:Pd 3900000 a j.a) :
  Con prog 65 [.ptr 1000 0] [(1000,some (cC l ⟨3,[i],[z0,z1],0⟩ a))] (pi (lr l a i j0 j)) [(1000,some (cC l ⟨3,[i],[z0,z1],0⟩ a))]:=by
 haveI c:=D.s.ct D.hc;obtain⟨tw,etw⟩:=cA D.s.tr D.hc;haveI cy:Cy (llq a.rs) 310000 65000:=⟨c.ex,c.k1,c.u3,by omega⟩
 have hlm:=cy.lm;have F:=Fi D hn P hj hb;obtain⟨i1,i2,i3,i4,i5⟩:=dZ D.li P.h1;have hs0:Sm 1000 (ai l j0 i):=ig D.hl D.li P.h0 P.p0.or;have hs1:Sm 1000 (a5 l i j.on):=by rw[<- hj];exact kQ D.hl D.li i2 i4
 have hs2:Sm 1000 (a5 l i j.to):=by rw[<- hj];exact kQ D.hl D.li i2 (i5 P.hk)
 have hv:Sm _ (dh l i j):=hs2.sub hs1;haveI qn:Qz 310000 (jE l i j) 3:=tO (hv.dot hv) oz;haveI qh:Qz 310000 (cP l i j0 j) 3:=tO (hv.cross (hs1.sub hs0)) oz;haveI z3:=F.z3;haveI zX:=F.zX;haveI zl:=F.zl;have hrr:=Uw D (i:=i) (j0:=j0) (j:=j) (by decide);have m1:=xi (ts:=llq a.rs) (u:=310000) (k:=65000) (a:=sX (bg l a i j0 j)) (by decide);have m2:=xi (ts:=llq a.rs) (u:=310000) (k:=65000) (a:=sX (cJ l a i j0 j)) (by decide);have m3:=xi (ts:=llq a.rs) (u:=310000) (k:=65000) (a:=sh 0 (cP l i j0 j:Rat)) (by decide);refine gF func65 (fun k z h=>bq h) ?_ (2,0);refine gW (Wk.o (sl:=[(0,some (.ptr 1000 0)),(4,some (.ptr 24 0))]) (hp:=[(1000,some (cC l ⟨3,[i],[z0,z1],0⟩ a)),(24,some (dQ a.rs))])) ?_;refine gt (ay (Con.rekeyBB 1000 24 (by decide) (by decide) rfl rfl rfl rfl rfl rfl (IH D hg P.h0 P.h1 P.p0 hj P.hk hb)) (bB rfl rfl) aE rfl rfl) ?_;refine gt (ay (Con.rekeyB1 24 rfl rfl rfl rfl rfl hrr) (bB rfl rfl) aE rfl rfl) ?_ (4,0);refine gW (Wk.of (sl:=[(4,some (.ptr 24 0)),(5,some (.ptr 5 0)),(6,some (nA (sX (bg l a i j0 j))))]) (hp:=[(1000,some (cC l ⟨3,[i],[z0,z1],0⟩ a)),(5,some (.box (vl l a i j0 j))),(24,some (a7 (llq a.rs)))]) aY (.k (.k (.cons rfl (BlkSub.bL (.cons (.of (kq etw)) (.cons (.refl _) .nil)) rfl) .nil)))) ?_;refine gt (aR (Con.rB 24 rfl rfl rfl rfl m1) (bB rfl rfl) rfl rfl rfl) ?_;refine gC (fun t34=>?_) (fun t34=>?_) (st1:=(6,0));cases t34;refine gt (aR (Con.rB 24 rfl rfl rfl rfl m2) (bB rfl rfl) rfl rfl rfl) ?_;refine gu (er rfl rfl rfl (fun h=>aR (Con.rB 24 rfl rfl rfl rfl m3) (.cons (.opt rfl (o1 h)) (.cons (.opt rfl (o1 h)) .nil)) rfl rfl rfl)) ?_;refine gC (fun t44=>?_) (fun t44=>?_)
 ·have h1:=Up t44;refine gR ?_;exact(ao.keep (bb rfl)).sub (by unfold lr;rw[if_pos h1];exact Sub.tup (.cons (.nil _ _ _) (.cons (.refl _) .nil)))
 have h1:=I3 t44;refine gC (fun t58=>?_) (fun t58=>?_)
 ·have h2:ak (bg l a i j0 j)<0:=of_decide_eq_true t58;refine gR ?_;exact(ao.keep (bb rfl)).sub (by unfold lr;rw[if_neg h1,if_pos h2];exact Sub.tup (.cons (.nil _ _ _) (.cons (.refl _) .nil)))
 have h2:¬ak (bg l a i j0 j)<0:=of_decide_eq_false t58;have hd0:ak (cJ l a i j0 j)≠0:=wA tw h2 h1;refine yM [4,5] [1000,5] (fun(T:LL)(qs:LL)=>[(8,some (.lst 1 (qs.map nA)))]) (fun T _=>[(24,some (a7 T))]) (fun T qs=>Cy T 773000000 1101400000/\qs.length<=2/\(∀q∈qs,RqP T (eg l a i j0 j) q)/\lr l a i j0 j=(j9 T (eg l a i j0 j) qs qs.length,0)) ?_ ?_
 ·intro K1 J1;refine gC (fun t63=>?_) (fun t63=>?_)
  ·have h3:0<ak (bg l a i j0 j):=of_decide_eq_true t63;obtain⟨E,R1,R2,hng⟩:=B5 F tw hn hd0 oz;have ce:=E.cy;have hex:=HY (a:=sX (bg l a i j0 j)) tw zX.nm (by rw[hlm];decide) (by rw[show ad (llq a.rs).length (sX (bg l a i j0 j))=bg l a i j0 j from a6 _ _];show 0<=ak (bg l a i j0 j);omega);refine gc hex ?_;refine gC (fun t75=>?_) (fun t75=>?_) (st1:=(15,0));cases t75;refine gc hng ?_;refine gt (aR (Con.rB 24 rfl rfl rfl rfl (o9 _ _)) (az rfl rfl rfl) rfl rfl rfl) ?_;exact qv J1 (aJ (llq a.rs) (sX (bg l a i j0 j))) ([cc (llq a.rs).length,sX (-bw (bg l a i j0 j))]) ⟨ce,le_refl 2,kT R1 R2,by unfold lr;rw[if_neg h1,if_neg h2,if_pos h3];rfl⟩
  have h3:¬0<ak (bg l a i j0 j):=of_decide_eq_false t63;obtain⟨cs,R0⟩:=DF F tw hn hd0;exact qv J1 (llq a.rs) ([[]]) ⟨cs,by decide,iw R0,by unfold lr;rw[if_neg h1,if_neg h2,if_neg h3];rfl⟩ (hw:=Wk.of (.cons rfl Mr (.k (.k .nil))) (.k (.k (.k .nil))))
 rintro T qs ⟨ct,hql,hq,hR⟩;obtain⟨rr,twT,hkT⟩:=ct.ex;refine gl ?_;refine gW (Wk.virt 900 3 rfl) ?_;refine aM [4,5,8,90,91] [1000,5,24] (fun(q:Nat)=>[(12,some (.ms 900 3 0 q)),(92,some (i64 q))]) (fun q=>[(900,some (.row 3 (j9 T (eg l a i j0 j) qs q)))]) (fun q=>q<=qs.length) (fun q=>qs.length-q) 0 (zero_le _) ?_;rintro q hqi K2 J2;refine gC (fun t93=>?_) (fun t93=>?_) (st2:=(28,0))
 ·have hin:=aW t93;obtain ⟨x,hx⟩:=aw hin;have hx9:qs.getD q [] = x:=aD hx;have R:=hq x (mem_of_getElem? hx);refine gi (ax hx) ?_;refine gc R.c1 ?_;refine gt (aR (Con.rB 24 rfl rfl rfl rfl (wm _ _ _)) (az rfl rfl rfl) rfl rfl rfl) ?_;refine gD ?_;refine gc R.ng ?_;refine gt (aR (Con.rB 24 rfl rfl rfl rfl (o9 _ _)) (az rfl rfl rfl) rfl rfl rfl) ?_;refine gc R.c2 ?_;refine gt (aR (Con.rB 24 rfl rfl rfl rfl (wm _ _ _)) (az rfl rfl rfl) rfl rfl rfl) ?_;refine gD ?_;refine gc R.sb ?_;refine gt (aR (Con.rB 24 rfl rfl rfl rfl (wm _ _ _)) (az rfl rfl rfl) rfl rfl rfl) ?_;refine gD ?_;refine gt (aR (Con.rB 24 rfl rfl rfl rfl (ux R.d1)) (az rfl rfl rfl) rfl rfl rfl) ?_;refine gt (aR (Con.rB 24 rfl rfl rfl rfl (ux R.d2)) (az rfl rfl rfl) rfl rfl rfl) ?_;refine gD ?_;refine gc (z8 twT) ?_;refine gt (aR (Con.rB 24 rfl rfl rfl rfl R.body) (.cons (.tmp rfl) (.cons (.tmp rfl) (az rfl rfl rfl))) rfl rfl rfl) ?_;refine gl ?_;refine gc (CO q qs.length oz) ?_;refine gs (cq (.tmp rfl) rfl (Al _ _ _ _).symm (.tmp rfl) T54 rfl T62 rfl rfl (by dsimp only; simp only [length_cons,length_nil]; omega) rfl rfl) ?_;refine gD ?_ (27,0);refine gW (Wk.of (sl:=[(4,some (.ptr 24 0)),(5,some (.ptr 5 0)),(8,some (.lst 1 (qs.map nA))),(12,some (.ms 182 3 0 (q + 1))),(90,some (.lst 1 (qs.map nA))),(91,some (i64 qs.length)),(92,some (i64 q))]) (hp:=[(1000,some (cC l ⟨3,[i],[z0,z1],0⟩ a)),(5,some (.box (vl l a i j0 j))),(24,some (a7 T)),(182,some (.row 3 (j9 T (eg l a i j0 j) qs (q + 1))))]) aY (.k (.k (.k (.cons rfl (BlkSub.of (by rw [RI]; unfold jN; rw [hx9]; rfl)) .nil))))) ?_ (27,0)
  refine gW (Wk.rk (k:=182) (d:=900) rfl rfl) ?_;refine ga aH ?_;exact aG J2 (q+1) hin
 have hin:=be hqi t93;subst hin;refine gW ((Wk.freeze (k:=900) rfl).trans<|Wk.of (sl:=[(4,some (.ptr 24 0)),(12,some (.lst 3 (j9 T (eg l a i j0 j) qs qs.length)))]) (hp:=[(1000,some (cC l ⟨3,[i],[z0,z1],0⟩ a)),(24,some (a7 T))]) (.k (.cons rfl (Sub.of (by rw[bO (Al _ _ _ _).symm])) .nil)) (.k (.k .nil))) ?_;refine gC (fun t188=>?_) (fun t188=>?_) (st1:=(29,0));cases t188;refine gR ?_;exact(ao.keep (bb rfl)).sub (Sub.of (by rw[hR];rfl))
end Go.Lw
