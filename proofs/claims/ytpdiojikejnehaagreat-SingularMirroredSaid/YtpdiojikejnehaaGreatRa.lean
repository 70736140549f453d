/- SingularMirrored: for any linkage and any turns the law returns true and leaves its arguments as they were. No other condition. Part 1 of 8: what the later parts need -/
import Derived.Calls
import Derived.Below
import Derived.Laws.Sem
import Derived.Laws.Cells
import Derived.Laws.Append
import Derived.Laws.Rows
import Derived.OrdersIn
import Derived.RangeFuncLeaves
import Derived.RangeFuncRecord
import Derived.Orders
import Derived.IntWalk
import Derived.Laws.AppendOwn
set_option linter.unusedVariables false
open List (mem_append foldl_cons nil_append append_nil)
open List renaming mem_of_getElem? → Xx, mem_cons_of_mem → X8, map_cons → Yi, mem_cons → X6, length_cons → XK, mem_cons_self → X7, length_append → XZ, length_nil → XM, getD_eq_getElem?_getD → Xy, getElem?_append_left → XU, getElem?_eq_none → XN, all_eq_true → X9, getElem?_take → X0, getElem?_drop → Ya, getElem?_map → XE, append_assoc → Ye, getElem?_append_right → XT, getElem?_eq_getElem → XC, drop_eq_nil_of_le → X2, getElem?_replicate → X1, map_append → XQ
open Nat renaming eq_of_beq_eq_true → XG, le_refl → XD, lt_of_lt_of_le → XS, lt_or_ge → XH, le_trans → XW, mul_le_mul_right → XY, mul_le_mul_left → XL
open Option renaming map_eq_some_iff → XB
open Bool renaming and_eq_true → XF, or_eq_true → Yf
open Array renaming getD_eq_getD_getElem? → XI
namespace Go.Lw
theorem Yk{c:Prop}{h:Decidable c}(n:¬c){α:Sort _}{t e:α}:ite c t e=e:=if_neg n
theorem Yl{c:Prop}{h:Decidable c}(n:c){α:Sort _}{t e:α}:ite c t e=t:=if_pos n
theorem oz{p:Prop}(h:p:=by omega):p:=h
abbrev LL:=List (List Rat)
inductive AV where
  |v (x:Value)
  |lst (sz:Nat) (es:List AV)
  |agg (cs:List AV)
  |tup (xs:List AV)
  |iptr (cs:List AV)
  |ms (k sz off len:Nat)
  |ptr (k off:Nat)
  |eptr (k sz i off:Nat)
  |fn (f:FuncId) (caps:List AV)
  |opt (b:Bool) (x:AV)
  |yl (k:Nat)
  |cl (f:FuncId) (pre caps:List AV)
  deriving Inhabited
abbrev nS:AV:=.v (.slice none 0 0)
def AV.cells:AV->List AV
  | .agg cs=>cs
  |x=>[x]
def AV.one:AV->Bool
  | .v x=>x.oneCell'
  | .agg _ | .tup _ | .opt _ _=>false
  |_=>true
abbrev a8:Nat:=281474976710656
abbrev dl:Nat->Option Nat:=fun _=>none
inductive Rep(g:Nat->Array Value->Prop)(S:Nat->Nat->Prop):(Nat->Option Nat)->Value->AV->Prop
  |v {m:Nat->Option Nat} (x:Value):Rep g S m x (.v x)
  |lst0 {m:Nat->Option Nat} (a:Option Addr) (cap sz:Nat):Rep g S m (.slice a 0 cap) (.lst sz [])
  |lst {m:Nat->Option Nat} {b off cap sz:Nat} {es:List AV} {cs:Array Value} (u:Nat->Nat->Value)
      (hb:g b cs) (hc:es.length<=cap) (hl:es.length<=a8) (hs:∀(i:Nat)(e:AV),es[i]?=some e->e.cells.length=sz)
      (h1:∀(i j:Nat)(e c:AV),es[i]?=some e->e.cells[j]?=some c->c.one=true)
      (hu:∀(i j:Nat)(e c:AV),es[i]?=some e->e.cells[j]?=some c->cs[off+i*sz+j]?=some (u i j))
      (hr:∀(i j:Nat)(e c:AV),es[i]?=some e->e.cells[j]?=some c->Rep g S dl (u i j) c) :
      Rep g S m (.slice (some ⟨b,off,none⟩) es.length cap) (.lst sz es)
  |agg {m:Nat->Option Nat} {vs:Array Value} {cs:List AV} (hn:vs.size=cs.length)
      (h1:∀(j:Nat)(c:AV),cs[j]?=some c->c.one=true)
      (hr:∀(j:Nat)(u:Value)(c:AV),vs[j]?=some u->cs[j]?=some c->Rep g S m u c):Rep g S m (.agg vs) (.agg cs)
  |tup {m:Nat->Option Nat} {vs:Array Value} {xs:List AV} (hn:vs.size=xs.length)
      (hr:∀(j:Nat)(u:Value)(c:AV),vs[j]?=some u->xs[j]?=some c->Rep g S m u c):Rep g S m (.tuple vs) (.tup xs)
  |iptr {m:Nat->Option Nat} {b off:Nat} {cs:Array Value} {xs:List AV} (u:Nat->Value)
      (hb:g b cs) (h1:∀(j:Nat)(c:AV),xs[j]?=some c->c.one=true)
      (hu:∀(j:Nat)(c:AV),xs[j]?=some c->cs[off+j]?=some (u j))
      (hr:∀(j:Nat)(c:AV),xs[j]?=some c->Rep g S dl (u j) c):Rep g S m (.pointer (some ⟨b,off,none⟩)) (.iptr xs)
  |ms0 {m:Nat->Option Nat} (a:Option Addr) (k sz off:Nat):Rep g S m (.slice a 0 0) (.ms k sz off 0)
  |ms {m:Nat->Option Nat} {k sz off len cap b:Nat} (hm:m k=some b) (hc:len<=cap) (hS:S b ((off+cap)*sz)) :
      Rep g S m (.slice (some ⟨b,off*sz,none⟩) len cap) (.ms k sz off len)
  |ptr {m:Nat->Option Nat} {k off b:Nat} (hm:m k=some b):Rep g S m (.pointer (some ⟨b,off,none⟩)) (.ptr k off)
  |eptr {m:Nat->Option Nat} {k sz i off b:Nat} (hm:m k=some b):Rep g S m (.pointer (some ⟨b,i*sz+off,none⟩)) (.eptr k sz i off)
  |fn {m:Nat->Option Nat} {f:FuncId} {vs:Array Value} {xs:List AV} (hn:vs.size=xs.length)
      (hr:∀(j:Nat)(u:Value)(c:AV),vs[j]?=some u->xs[j]?=some c->Rep g S m u c):Rep g S m (.func (.func f) #[] vs) (.fn f xs)
  |opt {m:Nat->Option Nat} {x:Value} {b:Bool} {y:AV} (h:b=true->Rep g S m x y) (h':b=false->x=undef):Rep g S m x (.opt b y)
  |yl {m:Nat->Option Nat} {k b:Nat} (hm:m k=some b):Rep g S m (.func (.yield b) #[] #[]) (.yl k)
  |cl {m:Nat->Option Nat} {f:FuncId} {vs us:Array Value} {xs ys:List AV} (hn:vs.size=xs.length)
      (hr:∀(j:Nat)(u:Value)(c:AV),vs[j]?=some u->xs[j]?=some c->Rep g S dl u c) (hn':us.size=ys.length)
      (hr':∀(j:Nat)(u:Value)(c:AV),us[j]?=some u->ys[j]?=some c->Rep g S dl u c):Rep g S m (.func (.func f) vs us) (.cl f xs ys)
inductive AV.Names:AV->Nat->Prop
  |ms (k sz off len:Nat):AV.Names (.ms k sz off len) k
  |ptr (k off:Nat):AV.Names (.ptr k off) k
  |eptr (k sz i off:Nat):AV.Names (.eptr k sz i off) k
  |agg {cs:List AV} {c:AV} {k:Nat} (h:c∈cs) (hc:AV.Names c k):AV.Names (.agg cs) k
  |tup {cs:List AV} {c:AV} {k:Nat} (h:c∈cs) (hc:AV.Names c k):AV.Names (.tup cs) k
  |fn {f:FuncId} {cs:List AV} {c:AV} {k:Nat} (h:c∈cs) (hc:AV.Names c k):AV.Names (.fn f cs) k
  |opt {b:Bool} {c:AV} {k:Nat} (hc:AV.Names c k):AV.Names (.opt b c) k
  |yl (k:Nat):AV.Names (.yl k) k
theorem Rep.mono{g g':Nat->Array Value->Prop}{S S':Nat->Nat->Prop}(hg:∀b cs,g b cs->g' b cs)
  (hS:∀b n,S b n->S' b n) {m:Nat->Option Nat} {v:Value} {x:AV} (h:Rep g S m v x) :
  ∀{m':Nat->Option Nat},(∀k b,x.Names k->m k=some b->m' k=some b)->Rep g' S' m' v x:=by
 induction h with
 |v x=>intro m' _;exact .v x
 |lst0 a cap sz=>intro m' _;exact .lst0 a cap sz
 |lst u hb hc hl hs h1 hu hr ih =>
  intro m' _;exact .lst u (hg _ _ hb) hc hl hs h1 hu (fun i j e c he hc=>ih i j e c he hc (fun k b _ h=>h))
 |agg hn h1 hr ih =>
  intro m' hm;exact .agg hn h1 (fun j u c hu hc=>ih j u c hu hc (fun k b hk=>hm k b (.agg (Xx hc) hk)))
 |tup hn hr ih =>
  intro m' hm;exact .tup hn (fun j u c hu hc=>ih j u c hu hc (fun k b hk=>hm k b (.tup (Xx hc) hk)))
 |iptr u hb h1 hu hr ih =>
  intro m' _;exact .iptr u (hg _ _ hb) h1 hu (fun j c hc=>ih j c hc (fun k b _ h=>h))
 |ms0 a k sz off=>intro m' _;exact .ms0 a k sz off
 |ms h hc hs=>intro m' hm;exact .ms (hm _ _ (.ms _ _ _ _) h) hc (hS _ _ hs)
 |ptr h=>intro m' hm;exact .ptr (hm _ _ (.ptr _ _) h)
 |eptr h=>intro m' hm;exact .eptr (hm _ _ (.eptr _ _ _ _) h)
 |fn hn hr ih =>
  intro m' hm;exact .fn hn (fun j u c hu hc=>ih j u c hu hc (fun k b hk=>hm k b (.fn (Xx hc) hk)))
 |opt h h' ih=>intro m' hm;exact .opt (fun hb=>ih hb (fun k b hk=>hm k b (.opt hk))) h'
 |yl h=>intro m' hm;exact .yl (hm _ _ (.yl _) h)
 |cl hn hr hn' hr' ih ih' =>
  intro m' hm
  exact .cl hn (fun j u c hu hc=>ih j u c hu hc (fun k b _ h=>h))
   hn' (fun j u c hu hc=>ih' j u c hu hc (fun k b _ h=>h))
theorem Rep.one{g:Nat->Array Value->Prop}{S:Nat->Nat->Prop}{m:Nat->Option Nat}{v:Value}{x:AV}
  (h:Rep g S m v x) (h1:x.one=true):v.oneCell'=true:=by
 cases h <;> simp_all [AV.one,Value.oneCell']
theorem Rep.cells{g:Nat->Array Value->Prop}{S:Nat->Nat->Prop}{m:Nat->Option Nat}{v:Value}{x:AV}
  (h:Rep g S m v x) (hx:(∃cs,x=.agg cs)\/x.one=true) :
  v.cells.size=x.cells.length/\(∀(j:Nat)(c:AV),x.cells[j]?=some c->c.one=true) /\
   ∀(j:Nat)(u:Value)(c:AV),v.cells[j]?=some u->x.cells[j]?=some c->Rep g S m u c:=by
 rcases hx with⟨cs,rfl⟩ |hx
 ·cases h with
  |agg hn h1 hr=>exact⟨hn,h1,hr⟩
 ·have hv:=h.one hx;have e1:v.cells = #[v]:=by cases v <;> simp_all [Value.cells,Value.oneCell']
  have e2:x.cells=[x]:=by cases x <;> simp_all [AV.cells,AV.one]
  rw[e1,e2];refine⟨rfl,?_,?_⟩
  ·intro j c hc;rcases j with _ |j <;> simp at hc
   exact hc▸hx
  ·intro j u c hu hc;rcases j with _ |j <;> simp at hc hu
   exact hc▸hu▸h
def lk{α:Type}:List (Nat×Option α)->Nat->Option α
  |[],_=>none
  |(t',x)::l,t=>match Nat.beq t t' with
    |true=>x
    |false=>lk l t
theorem aT{α:Type}(t t':Nat)(x:Option α)(l:List (Nat×Option α)):lk ((t',x)::l) t=if t=t' then x else lk l t:=by
 show(match Nat.beq t t' with |true=>x |false=>lk l t)=_;split
 ·rename_i h;rw[Yl (XG h)]
 ·rename_i h;rw[Yk (Nat.ne_of_beq_eq_false h)]
theorem mC{α:Type}{l:List (Nat×Option α)}{t:Nat}{x:α}(h:lk l t=some x):(t,some x)∈l:=by
 induction l with
 |nil=>simp[lk]at h
 |cons y l ih =>
  obtain⟨t',y⟩:=y;rw[aT]at h;split at h
  ·subst_vars;simp
  ·exact X8 _ (ih h)
structure LpD where
  params:Array Tmp
  assign:Code
  body:Code
  nt:Nat
inductive Blk where
  |box (cs:List AV)
  |row (sz:Nat) (es:List AV)
  |loop (d:LpD) (st:LoopState) (pend:Option Code) (sl:List (Nat×Option AV))
  |vec (vs:List Value)
  deriving Inhabited
inductive BlkRep(g:Nat->Array Value->Prop)(S:Nat->Nat->Prop)(m:Nat->Option Nat)(w:World):Option Nat->Blk->Prop
  |none (sz:Nat):BlkRep g S m w none (.row sz [])
  |box {b:Nat} {cs:List AV} {c:Array Value} {t:TypeId} (hw:w.heap[b]?=some (.cells c t (0,0))) (hn:c.size=cs.length)
      (h1:∀(j:Nat)(x:AV),cs[j]?=some x->x.one=true)
      (hr:∀(j:Nat)(u:Value)(x:AV),c[j]?=some u->cs[j]?=some x->Rep g S m u x):BlkRep g S m w (some b) (.box cs)
  |row {b sz:Nat} {es:List AV} {c:Array Value} {t:TypeId} (hw:w.heap[b]?=some (.cells c t (0,0))) (hn:es.length*sz<=c.size)
      (hl:es.length<=a8)
      (hs:∀(i:Nat)(e:AV),es[i]?=some e->e.cells.length=sz)
      (h1:∀(i j:Nat)(e x:AV),es[i]?=some e->e.cells[j]?=some x->x.one=true)
      (hr:∀(i j:Nat)(e:AV)(u:Value)(x:AV),es[i]?=some e->e.cells[j]?=some x->c[i*sz+j]?=some u->Rep g S dl u x) :
      BlkRep g S m w (some b) (.row sz es)
  |loop {b:Nat} {r:Loop} {d:LpD} {st:LoopState} {pend:Option Code} {sl:List (Nat×Option AV)} (hw:w.heap[b]?=some (.loop r)) (hst:r.state=st) (hpe:r.pending=pend)
      (hps:r.params=d.params) (has:r.assign=d.assign) (hbo:r.body=d.body) (hnt:d.nt<=r.tmps.size)
      (hr:∀(t:Nat)(x:AV),lk sl t=some x->t<r.tmps.size/\Rep g S m (r.tmps.getD t undef) x):BlkRep g S m w (some b) (.loop d st pend sl)
  |vec {b:Nat} {vs:List Value} {c:Array Value} {t:TypeId} (hw:w.heap[b]?=some (.cells c t (0,0))) (hc:c.toList=vs) (h1:∀v∈vs,v.oneCell'=true):BlkRep g S m w (some b) (.vec vs)
def Blk.Names(k:Nat):Blk->Prop
  | .box cs=>∃c∈cs,c.Names k
  | .row _ _=>False
  | .loop _ _ _ sl=>∃t x,(t,some x)∈sl/\x.Names k
  | .vec _=>False
theorem BlkRep.mono{g g':Nat->Array Value->Prop}{S S':Nat->Nat->Prop}{m m':Nat->Option Nat}{w w':World}{o o':Option Nat}{x:Blk}
  (hg:∀b cs,g b cs->g' b cs) (hS:∀b n,S b n->S' b n) (hm:∀k b,x.Names k->m k=some b->m' k=some b)
  (ho:o'=o) (hw:∀b,o=some b->w'.heap[b]?=w.heap[b]?)
  (h:BlkRep g S m w o x):BlkRep g' S' m' w' o' x:=by
 subst ho;cases h with
 |none sz=>exact .none sz
 |box h hn h1 hr =>
  refine .box ((hw _ rfl).trans h) hn h1 (fun j u x hu hx=>(hr j u x hu hx).mono hg hS (fun k b hk=>hm k b ⟨x,Xx hx,hk⟩))
 |row h hn hl hs h1 hr =>
  refine .row ((hw _ rfl).trans h) hn hl hs h1 (fun i j e u x he hx hu=>(hr i j e u x he hx hu).mono hg hS (fun k b _ h=>h))
 |loop h h1 h2 h3 h4 h5 hn hr =>
  refine .loop ((hw _ rfl).trans h) h1 h2 h3 h4 h5 hn (fun t x hx=>⟨(hr t x hx).1,(hr t x hx).2.mono hg hS (fun k b hk=>hm k b ⟨t,x,mC hx,hk⟩)⟩)
 |vec h hc h1=>exact .vec ((hw _ rfl).trans h) hc h1
mutual
def AV.nm:AV->List Nat
  | .ms k _ _ _=>[k]
  | .ptr k _=>[k]
  | .eptr k _ _ _=>[k]
  | .agg cs=>AV.nms cs
  | .tup xs=>AV.nms xs
  | .fn _ xs=>AV.nms xs
  | .opt _ x=>x.nm
  | .yl k=>[k]
  |_=>[]
def AV.nms:List AV->List Nat
  |[]=>[]
  |x::l=>x.nm++AV.nms l
end
theorem AV.mem_nms{l:List AV}{c:AV}{k:Nat}(hc:c∈l)(hk:k∈c.nm):k∈AV.nms l:=by
 induction l with
 |nil=>cases hc
 |cons x l ih =>
  simp only[AV.nms,mem_append];rcases List.mem_cons.1 hc with rfl |hc
  ·exact .inl hk
  ·exact .inr (ih hc)
theorem AV.Names.mem{x:AV}{k:Nat}(h:x.Names k):k∈x.nm:=by
 induction h with
 |ms=>simp[AV.nm]
 |ptr=>simp[AV.nm]
 |eptr=>simp[AV.nm]
 |agg h _ ih=>exact AV.mem_nms h ih
 |tup h _ ih=>exact AV.mem_nms h ih
 |fn h _ ih=>exact AV.mem_nms h ih
 |opt _ ih=>exact ih
 |yl=>simp[AV.nm]
def yk(sl:List (Nat×Option AV)):List Nat:=sl.flatMap fun p=>match p.2 with |some x=>x.nm |none=>[]
def Blk.nm:Blk->List Nat
  | .box cs=>AV.nms cs
  | .row _ _=>[]
  | .loop _ _ _ sl=>yk sl
  | .vec _=>[]
theorem Blk.Names.mem{x:Blk}{k:Nat}(h:x.Names k):k∈x.nm:=by
 cases x with
 |box cs=>obtain⟨c,hc,hk⟩:=h;exact AV.mem_nms hc hk.mem
 |row sz es=>exact h.elim
 |vec vs=>exact h.elim
 |loop d st pe sl =>
  obtain⟨t,c,hc,hk⟩:=h;exact List.mem_flatMap.2 ⟨_,hc,hk.mem⟩
end Go.Lw
namespace Go.Lw
abbrev bO:=List (Nat×Option AV)
abbrev Hp:=List (Nat×Option Blk)
theorem nG{α:Type}(u l:List (Nat×Option α))(t:Nat):lk (u++l) t=if t∈u.map (·.1)then lk u t else lk l t:=by
 induction u with
 |nil=>simp
 |cons x u ih =>
  obtain⟨t',x⟩:=x;simp only[List.cons_append,aT,ih,Yi,X6]
  by_cases h:t=t'
  ·simp[h]
  ·rw[Yk h]
   by_cases h2:t∈u.map (·.1)
   ·rw[Yl h2,Yl (.inr h2),Yk h]
   ·rw[Yk h2,Yk (by simp only[h,h2,or_self,not_false_eq_true])]
structure AS where
  sl:bO
  hp:Hp
def AS.get(s:AS)(t:Nat):Option AV:=lk s.sl t
def AS.blk(s:AS)(k:Nat):Option Blk:=lk s.hp k
def a9(hp:Hp)(m:Nat->Option Nat)(b:Nat):Prop:=∃k x,lk hp k=some x/\m k=some b
def Im(ext:Nat->Prop)(hp:Hp)(m:Nat->Option Nat)(w:World)(b:Nat)(cs:Array Value):Prop :=
  ¬ext b/\¬a9 hp m b/\∃t f,w.heap[b]?=some (.cells cs t f)
def Sz(w:World)(b n:Nat):Prop:=∃c t f,w.heap[b]?=some (.cells c t f)/\n<=c.size
structure HeapRel(ext:Nat->Prop)(hp:Hp)(m:Nat->Option Nat)(w:World):Prop where
  blk:∀k x,lk hp k=some x->BlkRep (Im ext hp m w) (Sz w) m w (m k) x
  inj:∀k k' x x' b,lk hp k=some x->lk hp k'=some x'->m k=some b->m k'=some b->k=k'
  sep:∀k x b,lk hp k=some x->m k=some b->¬ext b/\b<w.heap.size
structure Frame(own:Nat->Prop)(w w':World):Prop where
  os:w'.os=w.os
  tape:w'.tape=w.tape
  output:w'.output=w.output
  size:w.heap.size<=w'.heap.size
  sz:∀b n,Sz w b n->Sz w' b n
  keep:∀b,b<w.heap.size->¬own b->w'.heap[b]?=w.heap[b]?
theorem Frame.refl(own:Nat->Prop)(w:World):Frame own w w:=⟨rfl,rfl,rfl,XD _,fun _ _ h=>h,fun _ _ _=>rfl⟩
def y9(run:Array Value->World->(Ending->World->Prop)->Prop)(args:List AV)(H:Hp)(r:AV)(H':Hp):Prop :=
  ∀(ext:Nat->Prop)(m:Nat->Option Nat)(w:World)(vs:Array Value),(∀b,ext b->b<w.heap.size)->HeapRel ext H m w ->
    vs.size=args.length->(∀(j:Nat) v x,vs[j]?=some v->args[j]?=some x->Rep (Im ext H m w) (Sz w) m v x) ->
    run vs w fun e w'=>∃v m',e=.returned v/\Frame (a9 H m) w w'/\HeapRel ext H' m' w' /\
      (∀k x b,lk H' k=some x->m' k=some b->a9 H m b\/w.heap.size<=b) /\
      (∀k x y,lk H k=some x->lk H' k=some y->m' k=m k) /\
      Rep (Im ext H' m' w') (Sz w') m' v r
def Sf(P:Program)(f:FuncId)(args:List AV)(H:Hp)(r:AV)(H':Hp):Prop:=y9 (Calls P f) args H r H'
structure Ctx where
  w0:World
  ext:Nat->Prop
  own0:Nat->Prop
  m0:Nat->Option Nat
  nt:Nat
  hext:∀b,ext b->b<w0.heap.size
  ro:Option Nat:=none
def Fw(ro:Option Nat):Fence:={ Fence.wide with round:=ro }
def qI(D:Nat):Deferred:={ target:=.collected D,args:=#[] }
def qf(b0:Nat)(l:List Deferred)(w:World):Prop:=∃Ds:List Nat,l=Ds.map qI/\Ds.Nodup/\∀D∈Ds,b0<=D/\w.heap[D]?=some (.deferred (some []))
theorem qf.nil(b0:Nat)(w:World):qf b0 [] w:=⟨[],rfl,List.nodup_nil,fun D h=>by cases h⟩
structure RelM(C:Ctx)(s:AS)(m:Nat->Option Nat)(a:Act)(w:World):Prop where
  slots:∀t x,s.get t=some x->t<a.tmps.size/\Rep (Im C.ext s.hp m w) (Sz w) m (a.tmps.getD t undef) x
  heap:HeapRel C.ext s.hp m w
  frame:Frame C.own0 C.w0 w
  new:∀k x b,lk s.hp k=some x->m k=some b->C.own0 b\/C.w0.heap.size<=b
  keep:∀k x,1000<=k->lk s.hp k=some x->m k=C.m0 k
  defers:qf C.w0.heap.size a.defers w
  nt:C.nt<=a.tmps.size
def AS.Fresh(s:AS)(k:Nat):Prop :=
  lk s.hp k=none/\k<1000/\(∀t x,s.get t=some x->¬x.Names k)/\(∀k' x,lk s.hp k'=some x->¬x.Names k)
theorem HeapRel.lt{ext:Nat->Prop}{hp:Hp}{m:Nat->Option Nat}{w:World}(_:HeapRel ext hp m w){b:Nat}{o:Obj}(h:w.heap[b]?=some o):b<w.heap.size:=(Array.getElem?_eq_some_iff.1 h).1
theorem HeapRel.cells{ext:Nat->Prop}{hp:Hp}{m:Nat->Option Nat}{w:World}(h:HeapRel ext hp m w){k b:Nat}{x:Blk}(hk:lk hp k=some x)(hb:m k=some b){o:Option (List Deferred)}(ho:w.heap[b]?=some (.deferred o)):False:=by
 have:=h.blk k x hk;rw[hb]at this;cases this with
 |box hw=>rw[ho]at hw;cases hw
 |row hw=>rw[ho]at hw;cases hw
 |loop hw=>rw[ho]at hw;cases hw
 |vec hw=>rw[ho]at hw;cases hw
theorem RelM.ext_lt{C:Ctx}{s:AS}{m:Nat->Option Nat}{a:Act}{w:World}(h:RelM C s m a w){b:Nat}(hb:C.ext b):b<w.heap.size :=
 XS (C.hext b hb) h.frame.size
theorem RelM.update{C:Ctx}{s:AS}{m:Nat->Option Nat}{a:Act}{w:World}(h:RelM C s m a w){w':World}{m':Nat->Option Nat}{hp':Hp}
  (hf:Frame (a9 s.hp m) w w')
  (hm:∀t x k b,s.get t=some x->x.Names k->m k=some b->m' k=some b)
  (hal:∀k x b,lk hp' k=some x->m' k=some b->a9 s.hp m b\/w.heap.size<=b)
  (hkp:∀k x,1000<=k->lk hp' k=some x->(∃y,lk s.hp k=some y)/\m' k=m k)
  (hh:HeapRel C.ext hp' m' w'):RelM C ⟨s.sl,hp'⟩ m' a w':=by
 refine⟨?_,hh,?_,?_,fun k x h1 h2=>by obtain⟨⟨y,hy⟩,h4⟩:=hkp k x h1 h2;exact h4.trans (h.keep k y h1 hy),?_,h.nt⟩
 ·intro t x hx;obtain⟨h1,h2⟩:=h.slots t x hx;refine⟨h1,h2.mono ?_ hf.sz (fun k b hk=>hm t x k b hx hk)⟩;rintro b cs ⟨he,ho,t',f',hb⟩
  have hlt:b<w.heap.size:=by
   rcases XH b w.heap.size with h |h
   ·exact h
   ·simp[Array.getElem?_eq_none h]at hb
  refine⟨he,?_,t',f',(hf.keep b hlt ho).trans hb⟩;rintro⟨k,y,hk,hkb⟩;rcases hal k y b hk hkb with h' |h'
  ·exact ho h'
  ·omega
 ·refine⟨hf.os.trans h.frame.os,hf.tape.trans h.frame.tape,hf.output.trans h.frame.output,XW h.frame.size hf.size,fun b n hs=>hf.sz b n (h.frame.sz b n hs),?_⟩;intro b hb ho;rw[hf.keep b (XS hb h.frame.size) ?_,h.frame.keep b hb ho];rintro⟨k,x,hk,hkb⟩;rcases h.new k x b hk hkb with h' |h'
  ·exact ho h'
  ·omega
 ·intro k x b hk hkb;rcases hal k x b hk hkb with⟨k2,y,hk2,hkb2⟩ |h'
  ·exact h.new k2 y b hk2 hkb2
  ·exact .inr (XW h.frame.size h')
 ·obtain⟨Ds,e,hn,hD⟩:=h.defers;refine⟨Ds,e,hn,fun D hm=>?_⟩;obtain⟨h1,h2⟩:=hD D hm;refine⟨h1,(hf.keep D (h.heap.lt h2) ?_).trans h2⟩;rintro⟨k,x,hk,hkb⟩;exact h.heap.cells hk hkb h2
theorem eU{ext:Nat->Prop}{hp hp':Hp}{m m':Nat->Option Nat}{w w':World}(hf:Frame (a9 hp m) w w')
  (hal:∀k x b,lk hp' k=some x->m' k=some b->a9 hp m b\/w.heap.size<=b) :
  ∀b cs,Im ext hp m w b cs->Im ext hp' m' w' b cs:=by
 rintro b cs ⟨he,ho,t',f',hb⟩
 have hlt:b<w.heap.size:=by
  rcases XH b w.heap.size with h |h
  ·exact h
  ·simp[Array.getElem?_eq_none h]at hb
 refine⟨he,?_,t',f',(hf.keep b hlt ho).trans hb⟩;rintro⟨k,y,hk,hkb⟩;rcases hal k y b hk hkb with h' |h'
 ·exact ho h'
 ·omega
theorem RelM.put{C:Ctx}{s:AS}{m:Nat->Option Nat}{a:Act}{w:World}(h:RelM C s m a w)(d:Nat)(v:Value)(x:Option AV)
  (hx:∀y,x=some y->d<a.tmps.size/\Rep (Im C.ext s.hp m w) (Sz w) m v y) :
  RelM C ⟨(d,x)::s.sl,s.hp⟩ m { a with tmps:=a.tmps.setIfInBounds d v } w:=by
 refine⟨?_,h.heap,h.frame,h.new,h.keep,h.defers,by simpa using h.nt⟩;intro t y hy;simp only[AS.get,aT]at hy
 by_cases ht:t=d
 ·subst ht;rw[Yl rfl]at hy;obtain⟨h1,h2⟩:=hx y hy;refine⟨by simpa using h1,?_⟩;simpa[XI,Array.getElem?_setIfInBounds,h1]using h2
 ·rw [Yk ht] at hy;obtain ⟨h1,h2⟩:=h.slots t y hy;refine ⟨by simpa using h1,?_⟩
  have:(a.tmps.setIfInBounds d v).getD t undef=a.tmps.getD t undef:=by
   simp only[XI,Array.getElem?_setIfInBounds];rw[Yk oz]
  simpa[this]using h2
theorem Sz.alloc{w:World}{o:Obj}{b n:Nat}(h:Sz w b n):Sz { w with heap:=w.heap.push o } b n:=by
 obtain⟨c,t,f,hb,hn⟩:=h;refine⟨c,t,f,?_,hn⟩
 have hlt:b<w.heap.size:=by
  rcases XH b w.heap.size with h |h
  ·exact h
  ·simp[Array.getElem?_eq_none h]at hb
 show(w.heap.push o)[b]?=_;rw[Array.getElem?_push,Yk oz,hb]
theorem Bm(own:Nat->Prop)(w:World)(o:Obj):Frame own w { w with heap:=w.heap.push o }:=by
 refine⟨rfl,rfl,rfl,by simp,fun b n h=>h.alloc,?_⟩;intro b hb _;show(w.heap.push o)[b]?=_;rw[Array.getElem?_push,Yk oz]
theorem KH(own:Nat->Prop)(w:World)(n:Nat):Frame own w { w with drawn:=n } :=
 ⟨rfl,rfl,rfl,XD _,fun _ _ h=>h,fun _ _ _=>rfl⟩
theorem Frame.trans{own own':Nat->Prop}{w w' w'':World}(h:Frame own w w')(h':Frame own' w' w'')
  (ho:∀b,b<w.heap.size->own' b->own b):Frame own w w'' :=
 ⟨h'.os.trans h.os,h'.tape.trans h.tape,h'.output.trans h.output,XW h.size h'.size,fun b n hs=>h'.sz b n (h.sz b n hs),
  fun b hb hn=>(h'.keep b (XS hb h.size) (fun hc=>hn (ho b hb hc))).trans (h.keep b hb hn)⟩
theorem RelM.alloc{C:Ctx}{s:AS}{m:Nat->Option Nat}{a:Act}{w:World}(h:RelM C s m a w){k:Nat}(hk:s.Fresh k)(o:Obj)(x:Blk)
  (hx:¬x.Names k) (hxr:∀(g:Nat->Array Value->Prop)(S:Nat->Nat->Prop)(m':Nat->Option Nat)(w':World),
   (∀b cs,Im C.ext s.hp m w b cs->g b cs)->(∀b n,Sz w b n->S b n)->(∀k' b,k'≠k->m k'=some b->m' k'=some b) ->
   w'.heap[w.heap.size]?=some o->BlkRep g S m' w' (some w.heap.size) x) :
  RelM C ⟨s.sl,(k,some x)::s.hp⟩ (fun k'=>if k'=k then some w.heap.size else m k') a { w with heap:=w.heap.push o }:=by
 have hlk:∀k' y,lk ((k,some x)::s.hp) k'=some y->k'≠k->lk s.hp k'=some y:=by
  intro k' y hy hne;rw[aT,Yk hne]at hy;exact hy
 have hown:∀k' y b,lk s.hp k'=some y->m k'=some b->b<w.heap.size:=fun k' y b h1 h2=>(h.heap.sep k' y b h1 h2).2
 have hf:=Bm (a9 s.hp m) w o
 have hal:∀k' y b,lk ((k,some x)::s.hp) k'=some y->(if k'=k then some w.heap.size else m k')=some b->a9 s.hp m b\/w.heap.size<=b:=by
  intro k' y b hy hb
  by_cases hne:k'=k
  ·rw[Yl hne]at hb;cases hb;exact .inr (XD _)
  ·rw[Yk hne]at hb;exact .inl ⟨k',y,hlk k' y hy hne,hb⟩
 refine h.update hf ?_ hal ?_ ⟨?_,?_,?_⟩
 ·intro t y k' b hy hn hb;have:k'≠k:=fun e=>hk.2.2.1 t y hy (e▸hn)
  rw[Yk this];exact hb
 ·intro k' y h1000 hy;have hne:k' ≠ k:=fun e=>by have:=hk.2.1; omega
  exact⟨⟨y,hlk k' y hy hne⟩,by rw[Yk hne]⟩
 ·intro k' y hy
  by_cases hne:k'=k
  ·subst hne;rw[aT,Yl rfl]at hy;cases hy;rw[Yl rfl];refine hxr _ _ _ _ (eU hf hal) hf.sz (fun k'' b hne hb=>by rw[Yk hne];exact hb) ?_;show(w.heap.push o)[w.heap.size]?=_;simp
  ·have hy':=hlk k' y hy hne;rw[Yk hne];refine BlkRep.mono (eU hf hal) hf.sz ?_ rfl ?_ (h.heap.blk k' y hy')
   ·intro k'' b hn hb;have:k''≠k:=fun e=>hk.2.2.2 k' y hy' (e▸hn)
    rw[Yk this];exact hb
   ·intro b hb;have:=hown k' y b hy' hb;show(w.heap.push o)[b]?=_;rw[Array.getElem?_push,Yk oz]
 ·intro k1 k2 y1 y2 b h1 h2 hb1 hb2
  by_cases e1:k1=k <;> by_cases e2:k2=k
  ·rw[e1,e2]
  ·rw[Yl e1]at hb1;rw[Yk e2]at hb2;cases hb1
   exact absurd (hown k2 y2 _ (hlk k2 y2 h2 e2) hb2) oz
  ·rw[Yk e1]at hb1;rw[Yl e2]at hb2;cases hb2
   exact absurd (hown k1 y1 _ (hlk k1 y1 h1 e1) hb1) oz
  ·rw[Yk e1]at hb1;rw[Yk e2]at hb2
   exact h.heap.inj k1 k2 y1 y2 b (hlk k1 y1 h1 e1) (hlk k2 y2 h2 e2) hb1 hb2
 ·intro k' y b hy hb
  by_cases hne:k'=k
  ·rw[Yl hne]at hb;cases hb
   refine⟨fun hc=>?_,by simp⟩;have:=h.ext_lt hc;omega
  ·rw[Yk hne]at hb;have:=h.heap.sep k' y b (hlk k' y hy hne) hb;refine⟨this.1,?_⟩;have:=this.2;simp;omega
theorem RelM.write{C:Ctx}{s:AS}{m:Nat->Option Nat}{a:Act}{w:World}(h:RelM C s m a w){k b:Nat}{x x':Blk}{w':World}
  {c c':Array Value} {t:TypeId}
  (hk:lk s.hp k=some x) (hm:m k=some b) (hb:w.heap[b]?=some (.cells c t (0,0))) (hsz:c'.size=c.size)
  (hw:w'={ w with heap:=w.heap.setIfInBounds b (.cells c' t (0,0)) })
  (hx:∀(g:Nat->Array Value->Prop)(S:Nat->Nat->Prop),
   (∀b cs,Im C.ext s.hp m w b cs->g b cs)->(∀b n,Sz w b n->S b n) ->
   w'.heap[b]?=some (.cells c' t (0,0))->BlkRep g S m w' (some b) x') :
  RelM C ⟨s.sl,(k,some x')::s.hp⟩ m a w':=by
 have hlt:=(h.heap.sep k x b hk hm).2
 have hget:∀b',w'.heap[b']?=if b=b' then some (.cells c' t (0,0))else w.heap[b']? := by
  intro b';subst hw;show(w.heap.setIfInBounds b _)[b']?=_;rw[Array.getElem?_setIfInBounds]
  by_cases e:b=b'
  ·simp[e];omega
  ·simp[e]
 have hlk:∀k' y,lk ((k,some x')::s.hp) k'=some y->∃z,lk s.hp k'=some z:=by
  intro k' y hy;rw[aT]at hy;split at hy
  ·subst_vars;exact⟨x,hk⟩
  ·exact⟨y,hy⟩
 have hf:Frame (a9 s.hp m) w w':=by
  refine⟨by rw[hw],by rw[hw],by rw[hw],by rw[hw];simp,?_,?_⟩
  ·rintro b' n ⟨c1,t1,f1,h1,h2⟩
   by_cases e:b=b'
   ·subst e;rw[hb]at h1;cases h1;exact⟨c',t,(0,0),by rw[hget,Yl rfl],by omega⟩
   ·exact⟨c1,t1,f1,by rw[hget,Yk e,h1],h2⟩
  ·intro b' hb' hn;rw[hget,Yk];rintro rfl;exact hn ⟨k,x,hk,hm⟩
 have hal:∀k' y b',lk ((k,some x')::s.hp) k'=some y->m k'=some b'->a9 s.hp m b'\/w.heap.size<=b':=by
  intro k' y b' hy hb';obtain⟨z,hz⟩:=hlk k' y hy;exact .inl ⟨k',z,hz,hb'⟩
 refine h.update hf (fun t y k' b' _ _ hb'=>hb') hal (fun k' y _ hy=>⟨hlk k' y hy,rfl⟩) ⟨?_,?_,?_⟩
 ·intro k' y hy
  by_cases e:k'=k
  ·subst e;rw[aT,Yl rfl]at hy;cases hy;rw[hm];exact hx _ _ (eU hf hal) hf.sz (by rw[hget,Yl rfl])
  ·rw[aT,Yk e]at hy;refine BlkRep.mono (eU hf hal) hf.sz (fun k'' b' _ hb'=>hb') rfl ?_ (h.heap.blk k' y hy);intro b' hb';rw[hget,Yk];rintro rfl;exact e (h.heap.inj k' k y x b hy hk hb' hm)
 ·intro k1 k2 y1 y2 b' h1 h2 hb1 hb2;obtain⟨z1,hz1⟩:=hlk k1 y1 h1;obtain⟨z2,hz2⟩:=hlk k2 y2 h2;exact h.heap.inj k1 k2 z1 z2 b' hz1 hz2 hb1 hb2
 ·intro k' y b' hy hb';obtain⟨z,hz⟩:=hlk k' y hy;have:=h.heap.sep k' z b' hz hb';exact⟨this.1,XS this.2 hf.size⟩
theorem RelM.drawn{C:Ctx}{s:AS}{m:Nat->Option Nat}{a:Act}{w:World}(h:RelM C s m a w)(n:Nat):RelM C s m a { w with drawn:=n }:=by
 have hf:=KH (a9 s.hp m) w n;have hal:∀k' y b',lk s.hp k'=some y->m k'=some b'->a9 s.hp m b'\/w.heap.size<=b':=fun k' y b' h1 h2=>.inl ⟨k',y,h1,h2⟩
 refine h.update hf (fun t y k' b' _ _ hb'=>hb') hal (fun k' y _ hy=>⟨⟨y,hy⟩,rfl⟩) ⟨?_,h.heap.inj,h.heap.sep⟩;intro k x hk;exact BlkRep.mono (w:=w) (eU hf hal) hf.sz (fun _ _ _ h=>h) rfl (fun _ _=>rfl) (h.heap.blk k x hk)
structure Out where
  val:Option AV
  upd:Hp
  rt:List Nat
  rd:List Nat
  deriving Inhabited
def AS.app(s:AS)(dst:Option Tmp)(o:Out):AS :=
  ⟨match dst with |some d=>(d,o.val)::s.sl |none=>s.sl,o.upd++s.hp⟩
def f9(s s':AS)(o:Out):Prop:=(∀t∈o.rt,s'.get t=s.get t)/\∀k∈o.rd,s'.blk k=s.blk k
def jH(s:AS)(o:Out):Prop:=∀k∈o.upd.map (·.1),k∈o.rd\/s.Fresh k
def wq(P:Program)(o:Oper)(a:Act)(w:World)(next:Act->World->Prop)(Q:Exit->Act->World->Prop):Prop:=∀ro n,o.uponIn (Fw ro) n P a next Q ((execOp a.eval o).run P w)
theorem TF{P:Program}{f:FuncId}{args:Array Value}{w:World}{R:Ending->World->Prop}(h:Calls P f args w R)(ro:Option Nat)(n:Nat):(((Fw ro).depth.isSome=true->1<=n)/\CallsIn (Fw ro) (n-1) P f args w R) :=
 ⟨(fun h=>by cases h),(callsIn_wide (n:=n-1)).2 h⟩
theorem Wo{P:Program}{f:String}{args:Array Value}{w:World}{R:Value->World->Prop}(h:Rows P f args w R)(ro:Option Nat)(n:Nat):(((Fw ro).depth.isSome=true->1<=n)/\RowsIn (Fw ro) (n-1) P f args w R) :=
 ⟨(fun h=>by cases h),fun c cs _=>let⟨v,w',r,s⟩:=h c cs;⟨v,w',r,(stepsIn_wide (P:=P)).2 s⟩⟩
theorem sj{P:Program}{o:Oper}{a:Act}{w:World}{next:Act->World->Prop}{Q:Exit->Act->World->Prop}(h:o.wp P a w next Q):wq P o a w next Q:=by
 intro ro n;unfold Oper.wp at h;generalize(execOp a.eval o).run P w=r at h;cases r with
 |ok x w' =>
  cases x with
  |enter f args=>exact TF h ro n
  |row f args=>exact Wo h ro n
  |round l f ts x y=>exact(show False from h).elim
  |_=>exact h
 |halt x w'=>cases x <;> exact h
structure Step(P:Program)(N:Nat)(R:Array Oper)(s:AS)(o:Oper)(u:Out):Prop where
  run:∀s',f9 s s' u->jH s' u->∀C m a w Q (next:Act->World->Prop),C.nt=N->RelM C s' m a w ->
    (∀m' a' w',RelM C (s'.app o.dst u) m' a' w'->next a' w') ->
    if Region.wanted o (yielded R a.tmps)then wq P o a w next Q else next (a.put o.dst undef) w
def gk(P:Program)(N:Nat)(R:Array Oper):List Oper->AS->List Out->(AS->List Out->Prop)->Prop
  |[],s,us,K=>K s us
  |o::ops,s,us,K=>∃u,Step P N R s o u/\jH s u/\gk P N R ops (s.app o.dst u) (us++[u]) K
def nd(o:Oper):Bool:=match o.op with
  | .defer _=>false
  |_=>true
theorem FT{P:Program}{o:Oper}{a:Act}{w:World}{next:Act->World->Prop}{Q:Exit->Act->World->Prop}{ro:Option Nat}{n:Nat}(hd:nd o=true)(h:wq P o a w next Q):o.wpIn (Fw ro) n P a w next Q:=by
 refine⟨fun _ _=>trivial,?_⟩;rw[Oper.semAt_eq _ _ _ (by intro c hc;simp[nd,hc]at hd)];exact h ro n
theorem Qj{P:Program}{N n:Nat}{R:Array Oper}{C:Ctx}(hN:C.nt=N){Q:Exit->Act->World->Prop}{K:AS->List Out->Prop}
  (hK:∀s us m a w,K s us->RelM C s m a w->Q .normal a w) :
  ∀(ops:List Oper)(i:Nat)(s:AS)(us:List Out)(m:Nat->Option Nat)(a:Act)(w:World),
   (∀j,R[i+j]?=ops[j]?)->ops.all nd=true->gk P N R ops s us K->RelM C s m a w->wpOpsIn (Fw C.ro) n P R Q (List.range' i ops.length) a w:=by
 intro ops
 induction ops with
 |nil=>intro i s us m a w _ _ h hr;exact hK s us m a w h hr
 |cons o ops ih =>
  intro i s us m a w hR hnd h hr;simp only[List.all_cons,XF]at hnd;obtain⟨u,hs,hn,h⟩:=h;have ho:R[i]?=some o:=by simpa using hR 0
  simp only[XK,List.range'_succ];rw[wpOpsIn_cons];unfold wpOpIn;simp only[ho]
  have:=hs.run s ⟨fun _ _=>rfl,fun _ _=>rfl⟩ hn C m a w Q (wpOpsIn (Fw C.ro) n P R Q (List.range' (i+1) ops.length)) hN hr
   (fun m' a' w' hr'=>ih (i+1) _ _ m' a' w' (fun j=>by have:=hR (j+1);simpa[Nat.add_assoc,Nat.add_comm 1 j]using this) hnd.2 h hr')
  split
  ·rename_i hw;rw[Yl hw]at this;exact FT hnd.1 this
  ·rename_i hw;rw[Yk hw]at this;exact⟨fun _ _=>trivial,this⟩
theorem HeapRel.congr{ext:Nat->Prop}{hp hp':Hp}{m:Nat->Option Nat}{w:World}(h:∀k,lk hp k=lk hp' k)
  (hr:HeapRel ext hp m w):HeapRel ext hp' m w:=by
 have e1:a9 hp m=a9 hp' m:=by funext b;simp only[a9,h]
 have e2:Im ext hp m w=Im ext hp' m w:=by funext b cs;simp only[Im,e1]
 refine⟨?_,?_,?_⟩
 ·intro k x hk;rw[<- e2];exact hr.blk k x ((h k).trans hk)
 ·intro k k' x x' b h1 h2;exact hr.inj k k' x x' b ((h k).trans h1) ((h k').trans h2)
 ·intro k x b h1;exact hr.sep k x b ((h k).trans h1)
theorem RelM.congr{C:Ctx}{s s':AS}{m:Nat->Option Nat}{a:Act}{w:World}(h1:∀t,s.get t=s'.get t)(h2:∀k,s.blk k=s'.blk k)
  (hr:RelM C s m a w):RelM C s' m a w:=by
 have e1:a9 s.hp m=a9 s'.hp m:=by funext b;simp only[a9];simp only[AS.blk]at h2;simp only[h2]
 have e2:Im C.ext s.hp m w=Im C.ext s'.hp m w:=by funext b cs;simp only[Im,e1]
 refine⟨?_,hr.heap.congr h2,hr.frame,?_,fun k x h3 h4=>hr.keep k x h3 ((h2 k).trans h4),hr.defers,hr.nt⟩
 ·intro t x hx;rw[<- e2];exact hr.slots t x ((h1 t).trans hx)
 ·intro k x b hk;exact hr.new k x b ((h2 k).trans hk)
def AK(prev:List Nat)(o:Oper):Nat :=
  o.after.toList.foldl (fun s e=>match Region.binds .any e with
    |true=>s ||| (2^e.on ||| prev.getD e.on 0)
    |false=>s) 0
def iu:List Oper->List Nat->List Nat
  |[],prev=>prev
  |o::ops,prev=>iu ops (prev++[AK prev o])
theorem NU(prev:List Nat)(j:Nat):∀(l:List Edge)(s:Nat),
  (l.foldl (fun s e=>match Region.binds .any e with
   |true=>s ||| (2^e.on ||| prev.getD e.on 0)
   |false=>s) s).testBit j=true ->
  s.testBit j=true\/∃e∈l,Region.binds .any e=true/\(j=e.on\/(prev.getD e.on 0).testBit j=true):=by
 intro l
 induction l with
 |nil=>intro s h;exact .inl h
 |cons e l ih =>
  intro s h;simp only[foldl_cons]at h;rcases ih _ h with h |⟨e',he',hb,hj⟩
  ·cases hb:Region.binds .any e with
   |false=>rw[hb]at h;exact .inl h
   |true =>
    rw[hb]at h;simp only[Nat.testBit_or,Yf,Nat.testBit_two_pow,decide_eq_true_eq]at h;rcases h with h |h |h
    ·exact .inl h
    ·exact .inr ⟨e,X7,hb,.inl h.symm⟩
    ·exact .inr ⟨e,X7,hb,.inr h⟩
  ·exact .inr ⟨e',X8 _ he',hb,hj⟩
theorem Eg:∀(ops:List Oper)(prev:List Nat),(iu ops prev).length=prev.length+ops.length
 |[],prev=>rfl
 |o::ops,prev=>by simp only[iu,Eg ops,XZ,XK,XM];omega
theorem BF:∀(ops:List Oper)(prev:List Nat)(i:Nat),i<prev.length->(iu ops prev).getD i 0=prev.getD i 0
 |[],prev,i,_=>rfl
 |o::ops,prev,i,h=>by
  simp only[iu];rw[BF ops _ i (by simp;omega)];simp[Xy,XU h]
theorem Iw:∀(ops:List Oper)(prev:List Nat)(i:Nat)(o:Oper),ops[i]?=some o ->
  ∃q,(iu ops prev).getD (prev.length+i) 0=AK q o/\∀j,q.getD j 0≠0->j<prev.length+i/\q.getD j 0=(iu ops prev).getD j 0
 |[],prev,i,o,h=>by simp at h
 |o'::ops,prev,0,o,h=>by
  simp at h;subst h
  refine⟨prev,?_,?_⟩
  ·simp only[iu,Nat.add_zero];rw[BF ops _ _ (by simp)];simp[Xy]
  ·intro j hj
   have hlt:j<prev.length:=by
    rcases XH j prev.length with h |h
    ·exact h
    ·exact absurd (by simp[Xy,XN h]) hj
   refine⟨by omega,?_⟩;simp only[iu];rw[BF ops _ _ (by simp;omega)];simp[Xy,XU hlt]
 |o'::ops,prev,i+1,o,h=>by
  simp at h;obtain⟨q,h1,h2⟩:=Iw ops (prev++[AK prev o']) i o h;refine⟨q,?_,?_⟩
  ·simp only[iu];rw[<- h1];simp only[XZ,XK,XM];congr 1;omega
  ·intro j hj;obtain⟨h3,h4⟩:=h2 j hj;simp at h3;exact⟨by omega,h4⟩
def JF(R:Array Oper)(L:Nat->Bool):Prop:=∀i o,R[i]?=some o->L i=true->∀e∈o.after.toList,Region.binds .any e=true->L e.on=true
theorem Du{R:Array Oper}{L:Nat->Bool}(hc:JF R L):∀(i:Nat)(o:Oper),R[i]?=some o ->
  (∀e∈o.after.toList,Region.binds .any e=true->L e.on=true)->∀j,((iu R.toList []).getD i 0).testBit j=true->L j=true:=by
 intro i
 induction i using Nat.strongRecOn with
 |_ i ih =>
  intro o ho hp j hj;obtain⟨q,h1,h2⟩:=Iw R.toList [] i o (by simpa using ho);simp only[XM,Nat.zero_add]at h1 h2;rw[h1]at hj;rcases NU q j _ _ hj with h |⟨e,he,hb,h |h⟩
  ·simp at h
  ·exact h▸hp e he hb
  ·have hne : q.getD e.on 0 ≠ 0 := fun h0 => by rw [h0] at h; simp at h
   obtain⟨h3,h4⟩:=h2 e.on hne;rw[h4]at h;have hl:=hp e he hb
   have hlt:e.on<R.size:=by
    rcases XH e.on R.size with hh |hh
    ·exact hh
    ·exfalso;have:(iu R.toList []).length = R.size:=by rw [Eg]; simp
     rw[Xy,XN oz]at h;simp at h
   exact ih e.on h3 R[e.on] (by simp[hlt]) (hc e.on _ (by simp[hlt]) hl) j h
def Out.wr(u:Out):List Nat:=u.upd.map (·.1)
def Out.nm(u:Out):List Nat:=(match u.val with |some x=>x.nm |none=>[])++u.upd.flatMap fun p=>match p.2 with |some x=>x.nm |none=>[]
def ko(a b:List Nat):Bool:=a.any fun x=>b.contains x
def xu(d:Option Nat)(l:List Nat):Bool:=match d with |some d=>l.contains d |none=>false
def jC(o1:Oper)(u1:Out)(o2:Oper)(u2:Out):Bool :=
  xu o1.dst u2.rt||xu o2.dst u1.rt||(match o1.dst with |some d=>o2.dst==some d |none=>false) ||
    ko u1.wr u2.rd||ko u1.wr u2.wr||ko u2.wr u1.rd||ko (u1.wr.filter fun k=>!u1.rd.contains k) u2.nm
def tp(M:List Nat)(o2:Oper)(u2:Out)(j:Nat):Nat->List Oper->List Out->Bool
  |i,o1::ops,u1::us=>(match Nat.blt i j with
      |true=>(!jC o1 u1 o2 u2||(M.getD j 0).testBit i)&&!ko (u2.wr.filter fun k=>!u2.rd.contains k) (u1.nm++u1.wr)
      |false=>true)&&tp M o2 u2 j (i+1) ops us
  |_,_,_=>true
def wX(M:List Nat)(R:List Oper)(U:List Out):Nat->List Oper->List Out->Bool
  |j,o::ops,u::us=>tp M o u j 0 R U&&(o.after.toList.all fun e=>!Region.binds .any e||Nat.blt e.on j)&&wX M R U (j+1) ops us
  |_,_,_=>true
def AS.freshB(s:AS)(k:Nat):Bool :=
  (s.sl.all fun p=>match p.2 with |some x=>!x.nm.contains k |none=>true) &&
    (s.hp.all fun p=>match p.2 with |some x=>!x.nm.contains k |none=>true) &&
    (match lk s.hp k with |some _=>false |none=>true)&&Nat.blt k 1000
theorem AS.fresh_of{s:AS}{k:Nat}(h:s.freshB k=true):s.Fresh k:=by
 simp only[AS.freshB,XF,X9]at h;obtain⟨⟨⟨h1,h2⟩,h3⟩,h4⟩:=h;refine⟨?_,by simpa[Nat.blt_eq]using h4,?_,?_⟩
 ·cases hk:lk s.hp k with
  |none=>rfl
  |some x=>rw[hk]at h3;simp at h3
 ·intro t x hx hn;have:=h1 _ (mC hx);simp at this;exact this hn.mem
 ·intro t x hx hn;have:=h2 _ (mC hx);simp at this;exact this hn.mem
def chk(R:List Oper)(U:List Out)(s:AS):Bool :=
  wX (iu R []) R U 0 R U&&(U.all fun u=>u.wr.all fun k=>u.rd.contains k||s.freshB k)
theorem HH{M:List Nat}{o2:Oper}{u2:Out}{j:Nat}:∀(ops:List Oper)(us:List Out)(i0:Nat),tp M o2 u2 j i0 ops us=true ->
  ∀i o1 u1,ops[i]?=some o1->us[i]?=some u1->i0+i<j ->
   (jC o1 u1 o2 u2=true->(M.getD j 0).testBit (i0+i)=true)/\ko (u2.wr.filter fun k=>!u2.rd.contains k) (u1.nm++u1.wr)=false
 |[],_,_,_,i,o1,u1,h,_,_=>by simp at h
 |_::_,[],_,_,i,o1,u1,_,h,_=>by simp at h
 |o::ops,u::us,i0,hc,i,o1,u1,h1,h2,hlt=>by
  simp only[tp,XF]at hc;obtain⟨hc1,hc2⟩:=hc;cases i with
  |zero =>
   simp at h1 h2;subst h1;subst h2
   have hb:Nat.blt i0 j=true:=by simpa[Nat.blt_eq]using hlt
   rw[hb]at hc1;simp only[XF,Yf,Bool.not_eq_true']at hc1;refine⟨fun hw=>?_,hc1.2⟩;rcases hc1.1 with h |h
   ·rw[hw]at h;cases h
   ·simpa using h
  |succ i =>
   simp at h1 h2;have:=HH ops us (i0+1) hc2 i o1 u1 h1 h2 oz;rw[show i0+(i+1)=i0+1+i by omega];exact this
theorem yn{M:List Nat}{R:List Oper}{U:List Out}:∀(ops:List Oper)(us:List Out)(j0:Nat),wX M R U j0 ops us=true ->
  ∀j o u,ops[j]?=some o->us[j]?=some u->tp M o u (j0+j) 0 R U=true/\∀e∈o.after.toList,Region.binds .any e=true->e.on<j0+j
 |[],_,_,_,i,o1,u1,h,_=>by simp at h
 |_::_,[],_,_,i,o1,u1,_,h=>by simp at h
 |o::ops,u::us,j0,hc,j,o1,u1,h1,h2=>by
  simp only[wX,XF,X9]at hc;obtain⟨⟨hc1,hc2⟩,hc3⟩:=hc;cases j with
  |zero =>
   simp at h1 h2;subst h1;subst h2
   refine⟨hc1,fun e he hb=>?_⟩;have:=hc2 e he;simpa[hb,Nat.blt_eq]using this
  |succ j =>
   simp at h1 h2;have:=yn ops us (j0+1) hc3 j o1 u1 h1 h2;rw[show j0+(j+1)=j0+1+j by omega];exact this
def vw(R:Array Oper)(U:List Out)(s:AS)(L:Nat->Bool):Nat->AS
  |0=>s
  |i+1=>match L i,R[i]?,U[i]? with
    |true,some o,some u=>(vw R U s L i).app o.dst u
    |_,_,_=>vw R U s L i
theorem ir(s:AS)(d:Option Tmp)(u:Out)(t:Nat):(s.app d u).get t=if d=some t then u.val else s.get t:=by
 cases d with
 |none=>simp[AS.app,AS.get]
 |some d =>
  simp only[AS.app,AS.get,aT]
  by_cases h:t=d
  ·simp[h]
  ·rw[Yk h,Yk (by simpa using fun e=>h e.symm)]
theorem qe(s:AS)(d:Option Tmp)(u:Out)(k:Nat):(s.app d u).blk k=if k∈u.wr then lk u.upd k else s.blk k:=by
 simp only[AS.app,AS.blk,nG,Out.wr];rfl
section
variable{R:Array Oper}{U:List Out}{s:AS}
theorem Jz{L:Nat->Bool}{t i:Nat}(n:Nat)(hle:i<=n)(h:∀j o,i<=j->R[j]?=some o->o.dst=some t->L j=false) :
  (vw R U s L n).get t=(vw R U s L i).get t:=by
 induction n with
 |zero=>rw[show i=0 by omega]
 |succ n ih =>
  by_cases hn:i<=n
  ·rw[<- ih hn];simp only[vw];split
   ·rename_i o u h1 h2 h3;rw[ir,Yk];intro hd;rw[h n o hn h2 hd]at h1;cases h1
   ·rfl
  ·rw[show i=n+1 by omega]
theorem GQ{L:Nat->Bool}{k i:Nat}(n:Nat)(hle:i<=n)(h:∀j u,i<=j->U[j]?=some u->k∈u.wr->L j=false) :
  (vw R U s L n).blk k=(vw R U s L i).blk k:=by
 induction n with
 |zero=>rw[show i=0 by omega]
 |succ n ih =>
  by_cases hn:i<=n
  ·rw[<- ih hn];simp only[vw];split
   ·rename_i o u h1 h2 h3;rw[qe,Yk];intro hd;rw[h n u hn h3 hd]at h1;cases h1
   ·rfl
  ·rw[show i=n+1 by omega]
theorem A6{L L':Nat->Bool}{t:Nat}(n:Nat)(h:∀j o,j<n->R[j]?=some o->o.dst=some t->L j=L' j) :
  (vw R U s L n).get t=(vw R U s L' n).get t:=by
 induction n with
 |zero=>rfl
 |succ n ih =>
  have ih:=ih (fun j o hj=>h j o oz);simp only[vw];cases ho:R[n]? with
  |none=>cases L n <;> cases L' n <;> simp only[ih]
  |some o =>
   cases hu:U[n]? with
   |none=>cases L n <;> cases L' n <;> simp only[ih]
   |some u =>
    by_cases hd:o.dst=some t
    ·rw[h n o oz ho hd];cases L' n <;> simp only[ir,hd,if_true,ih]
    ·cases L n <;> cases L' n <;> simp only[ir,Yk hd,ih]
theorem zj{L L':Nat->Bool}{k:Nat}(n:Nat)(h:∀j u,j<n->U[j]?=some u->k∈u.wr->L j=L' j) :
  (vw R U s L n).blk k=(vw R U s L' n).blk k:=by
 induction n with
 |zero=>rfl
 |succ n ih =>
  have ih:=ih (fun j o hj=>h j o oz);simp only[vw];cases ho:R[n]? with
  |none=>cases L n <;> cases L' n <;> simp only[ih]
  |some o =>
   cases hu:U[n]? with
   |none=>cases L n <;> cases L' n <;> simp only[ih]
   |some u =>
    by_cases hd:k∈u.wr
    ·rw[h n u oz hu hd];cases L' n <;> simp only[qe,hd,if_true,ih]
    ·cases L n <;> cases L' n <;> simp only[qe,Yk hd,ih]
theorem NC{L:Nat->Bool}{t:Nat}{x:AV}:∀n,(vw R U s L n).get t=some x ->
  s.get t=some x\/∃j u,L j=true/\U[j]?=some u/\u.val=some x:=by
 intro n
 induction n with
 |zero=>exact .inl
 |succ n ih =>
  intro h;simp only[vw]at h;split at h
  ·rename_i o u h1 h2 h3;rw[ir]at h;split at h
   ·exact .inr ⟨n,u,h1,h3,h⟩
   ·exact ih h
  ·exact ih h
theorem Dq{L:Nat->Bool}{k:Nat}{x:Blk}:∀n,(vw R U s L n).blk k=some x ->
  s.blk k=some x\/∃j u,L j=true/\U[j]?=some u/\k∈u.wr/\lk u.upd k=some x:=by
 intro n
 induction n with
 |zero=>exact .inl
 |succ n ih =>
  intro h;simp only[vw]at h;split at h
  ·rename_i o u h1 h2 h3;rw[qe]at h;split at h
   ·rename_i hk;exact .inr ⟨n,u,h1,h3,hk,h⟩
   ·exact ih h
  ·exact ih h
end
theorem Ns{a b:List Nat}(h:ko a b=false){x:Nat}(ha:x∈a):x∉b:=by
 intro hb;simp only[ko,List.any_eq_false]at h;exact h x ha (by simpa using hb)
theorem tO{a b:List Nat}{x:Nat}(ha:x∈a)(hb:x∈b):ko a b=true:=by
 simp only[ko,List.any_eq_true];exact⟨x,ha,by simpa using hb⟩
section
variable{P:Program}{N:Nat}{R:Array Oper}{U:List Out}{s0:AS}{C:Ctx}{Q:Exit->Act->World->Prop}
theorem L1{u:Out}{x:AV}{k:Nat}(h:u.val=some x)(hk:x.Names k):k∈u.nm:=by
 simp only[Out.nm,h,mem_append];exact .inl hk.mem
theorem NV{u:Out}{x:Blk}{k k':Nat}(h:lk u.upd k'=some x)(hk:x.Names k):k∈u.nm:=by
 simp only[Out.nm,mem_append,List.mem_flatMap];exact .inr ⟨_,mC h,hk.mem⟩
theorem W5{n:Nat}(hnd:R.toList.all nd=true)(hN:C.nt=N)(hlen:U.length=R.size)(hst:∀(i:Nat) o u,R[i]?=some o->U[i]?=some u->Step P N R (vw R U s0 (fun _=>true) i) o u)
    (hc:chk R.toList U s0=true) (hQ:∀m a w,RelM C (vw R U s0 (fun _=>true) R.size) m a w->Q .normal a w) :
    ∀(fuel:Nat)(listed:Array Bool),listed.size=R.size->JF R (fun i=>listed.getD i false) ->
      ((List.range R.size).filter fun i=>!listed.getD i false).length<=fuel ->
      ∀m a w,RelM C (vw R U s0 (fun i=>listed.getD i false) R.size) m a w->wpAnyIn (Fw C.ro) n P .any R Q fuel listed a w:=by
  simp only[chk,XF,X9,Yf]at hc;obtain⟨hc1,hc2⟩:=hc;have hU:∀i,i<R.size->∃o u,R[i]?=some o/\U[i]?=some u:=fun i hi=>⟨R[i],U[i],by simp[hi],by simp⟩
  have hpair:∀i j o1 u1 o2 u2,R[i]?=some o1->U[i]?=some u1->R[j]?=some o2->U[j]?=some u2->i<j ->
      (jC o1 u1 o2 u2=true->((iu R.toList []).getD j 0).testBit i=true)/\ko (u2.wr.filter fun k=>!u2.rd.contains k) (u1.nm++u1.wr)=false:=by
    intro i j o1 u1 o2 u2 h1 h2 h3 h4 hlt;have:=yn R.toList U 0 hc1 j o2 u2 (by simpa using h3) h4;simp only[Nat.zero_add]at this;have:=HH R.toList U 0 this.1 i o1 u1 (by simpa using h1) h2 oz;simpa using this
  have hback:∀j o,R[j]?=some o->∀e∈o.after.toList,Region.binds .any e=true->e.on<j:=by
    intro j o h
    have hj:j<R.size:=by
      rcases XH j R.size with hh |hh
      · exact hh
      · simp[Array.getElem?_eq_none hh]at h
    obtain⟨o',u,h1,h2⟩:=hU j hj;rw[h]at h1;cases h1
    have:=(yn R.toList U 0 hc1 j o u (by simpa using h) h2).2;simpa using this
  have hdone:∀(listed:Array Bool),listed.size=R.size->Region.ready .any R listed=[]->∀i,i<R.size->listed.getD i false=true:=by
    intro listed hsz hr i
    induction i using Nat.strongRecOn with
    |_ i ih =>
      intro hi;cases hl:listed.getD i false with
      |true=>rfl
      |false =>
        exfalso
        have:i∈Region.ready .any R listed:=by
          simp only[Region.ready,List.mem_filter,List.mem_range];refine⟨hi,?_⟩
          have e1:listed.getD i true=false:=by
            simp only[XI]at hl ⊢;rw[Array.getElem?_eq_getElem oz]at hl ⊢;exact hl
          simp only[e1,Bool.not_false,Bool.true_and];rw[Array.getElem?_eq_getElem hi];simp only[Option.map_some,Option.getD_some,Array.all_eq_true_iff_forall_mem,Yf,Bool.not_eq_true'];intro e he;cases hb:Region.binds .any e with
          |false=>exact .inl rfl
          |true =>
            have:=hback i R[i] (by simp[hi]) e (by simpa using he) hb;exact .inr (ih e.on this oz)
        rw[hr]at this;cases this
  have hfin:∀(listed:Array Bool),listed.size=R.size->Region.ready .any R listed=[]->∀m a w,
      RelM C (vw R U s0 (fun i=>listed.getD i false) R.size) m a w->Q .normal a w:=by
    intro listed hsz hr m a w h;refine hQ m a w (h.congr (fun t=>A6 _ (fun j o hj _ _=>hdone listed hsz hr j hj)) (fun k=>zj _ (fun j u hj _ _=>hdone listed hsz hr j hj)))
  intro fuel
  induction fuel with
  |zero =>
    intro listed hsz hcl hf m a w h
    have hnil:Region.ready .any R listed=[]:=by
      cases hr:Region.ready .any R listed with
      |nil=>rfl
      |cons i l =>
        exfalso;have hi:i∈Region.ready .any R listed:=by rw[hr];exact X7
        simp only[Region.ready,List.mem_filter,List.mem_range,XF,Bool.not_eq_true']at hi
        have:listed.getD i false=false:=by
          have h1:=hi.2.1;simp only[XI]at h1 ⊢;rw[Array.getElem?_eq_getElem oz]at h1 ⊢;exact h1
        have hmem:i∈(List.range R.size).filter fun i=>!listed.getD i false:=by simp[List.mem_filter,hi.1];simpa using this
        have:=List.length_pos_of_mem hmem;omega
    exact⟨hnil,hfin listed hsz hnil m a w h⟩
  |succ fuel ih =>
    intro listed hsz hcl hf m a w h;refine⟨fun hr=>hfin listed hsz hr m a w h,?_⟩;intro i hi;simp only[Region.ready,List.mem_filter,List.mem_range,XF,Bool.not_eq_true']at hi;obtain⟨hilt,hil,hie⟩:=hi
    have hil:listed.getD i false=false:=by
      simp only[XI]at hil ⊢;rw[Array.getElem?_eq_getElem oz]at hil ⊢;exact hil
    obtain⟨o,u,ho,hu⟩:=hU i hilt;rw[ho]at hie;simp only[Option.map_some,Option.getD_some,Array.all_eq_true_iff_forall_mem,Yf,Bool.not_eq_true']at hie
    have hpre:∀e∈o.after.toList,Region.binds .any e=true->listed.getD e.on false=true:=by
      intro e he hb;rcases hie e (by simpa using he)with h |h
      · rw[hb]at h;cases h
      · exact h
    have hbefore:∀j oj uj,R[j]?=some oj->U[j]?=some uj->j<i->jC oj uj o u=true->listed.getD j false=true:=by
      intro j oj uj h1 h2 hlt hw;exact Du hcl i o ho hpre j ((hpair j i oj uj o u h1 h2 ho hu hlt).1 hw)
    have hafter:∀j oj uj,R[j]?=some oj->U[j]?=some uj->i<j->jC o u oj uj=true->listed.getD j false=false:=by
      intro j oj uj h1 h2 hlt hw;cases hl:listed.getD j false with
      |false=>rfl
      |true =>
        have:=Du hcl j oj h1 (hcl j oj h1 hl) i ((hpair i j o u oj uj ho hu h1 h2 hlt).1 hw);rw[hil]at this;cases this
    have hUj:∀(j:Nat) oj,R[j]?=some oj->∃uj,U[j]?=some uj:=by
      intro j oj h
      have hj:j<R.size:=by
        rcases XH j R.size with hh |hh
        · exact hh
        · simp[Array.getElem?_eq_none hh]at h
      obtain⟨_,uj,_,h2⟩:=hU j hj;exact⟨uj,h2⟩
    have hRj:∀(j:Nat) uj,U[j]?=some uj->∃oj,R[j]?=some oj:=by
      intro j uj h
      have hj:j<R.size:=by
        rcases XH j R.size with hh |hh
        · exact hh
        · rw[XN oz]at h;cases h
      obtain⟨oj,_,h1,_⟩:=hU j hj;exact⟨oj,h1⟩
    have hget:∀t,t∈u.rt->(vw R U s0 (fun i=>listed.getD i false) R.size).get t=(vw R U s0 (fun _=>true) i).get t:=by
      intro t ht;rw[Jz (i:=i) R.size oz]
      · refine A6 i (fun j oj hj hoj hd=>?_)
        obtain⟨uj,huj⟩:=hUj j oj hoj;exact hbefore j oj uj hoj huj hj (by simp[jC,xu,hd,ht])
      · intro j oj hj hoj hd
        obtain⟨uj,huj⟩:=hUj j oj hoj;rcases XH i j with hlt |hge
        · exact hafter j oj uj hoj huj hlt (by simp[jC,xu,hd,ht])
        · rw[show j=i by omega];exact hil
    have hblk:∀k,k∈u.rd->(vw R U s0 (fun i=>listed.getD i false) R.size).blk k=(vw R U s0 (fun _=>true) i).blk k:=by
      intro k hk;rw[GQ (i:=i) R.size oz]
      · refine zj i (fun j uj hj huj hd=>?_)
        obtain⟨oj,hoj⟩:=hRj j uj huj;exact hbefore j oj uj hoj huj hj (by simp[jC,tO hd hk])
      · intro j uj hj huj hd
        obtain⟨oj,hoj⟩:=hRj j uj huj;rcases XH i j with hlt |hge
        · exact hafter j oj uj hoj huj hlt (by simp[jC,tO hd hk])
        · rw[show j=i by omega];exact hil
    have hnew:jH (vw R U s0 (fun i=>listed.getD i false) R.size) u:=by
      intro k hk
      by_cases hrd:k∈u.rd
      · exact .inl hrd
      refine .inr ?_
      have hfr:s0.Fresh k:=by
        rcases hc2 u (Xx hu) k hk with h |h
        · exact absurd (by simpa using h) hrd
        · exact AS.fresh_of h
      have hkn:k∈u.wr.filter fun k=>!u.rd.contains k:=by simp[List.mem_filter,hrd];simpa[Out.wr]using hk
      have hno:∀j uj,listed.getD j false=true->U[j]?=some uj->k∉uj.nm/\k∉uj.wr:=by
        intro j uj hl huj;obtain⟨oj,hoj⟩:=hRj j uj huj;rcases Nat.lt_trichotomy j i with hlt |heq |hgt
        · have hm:=Ns (hpair j i oj uj o u hoj huj ho hu hlt).2 hkn
          exact⟨fun h=>hm (List.mem_append.2 (.inl h)),fun h=>hm (List.mem_append.2 (.inr h))⟩
        · subst heq;rw[hil]at hl;cases hl
        · refine⟨fun hn=>?_,fun hwr=>?_⟩
          · have := hafter j oj uj hoj huj hgt (by simp only [jC, tO hkn hn, Bool.or_true])
            rw[hl]at this;cases this
          · have := hafter j oj uj hoj huj hgt (by simp [jC, tO (by simpa [Out.wr] using hk : k ∈ u.wr) hwr])
            rw[hl]at this;cases this
      refine⟨?_,hfr.2.1,?_,?_⟩
      · cases hb:(vw R U s0 (fun i=>listed.getD i false) R.size).blk k with
        |none=>exact hb
        |some x =>
          rcases Dq _ hb with h |⟨j,uj,hl,huj,hwr,_⟩
          · rw[AS.blk,hfr.1]at h;cases h
          · exact absurd hwr (hno j uj hl huj).2
      · intro t x hx hn
        rcases NC _ hx with h |⟨j,uj,hl,huj,hv⟩
        · exact hfr.2.2.1 t x h hn
        · exact(hno j uj hl huj).1 (L1 hv hn)
      · intro k' x hx hn
        rcases Dq _ hx with h |⟨j,uj,hl,huj,_,hv⟩
        · exact hfr.2.2.2 k' x h hn
        · exact(hno j uj hl huj).1 (NV hv hn)
    unfold wpOpIn;simp only[ho];have hndo:nd o=true:=List.all_eq_true.1 hnd o (by simpa using Array.mem_of_getElem? ho)
    suffices hs:(if Region.wanted o (yielded R a.tmps)then wq P o a w (wpAnyIn (Fw C.ro) n P .any R Q _ (listed.setIfInBounds i true)) Q else wpAnyIn (Fw C.ro) n P .any R Q _ (listed.setIfInBounds i true) (a.put o.dst undef) w) by
      split
      · rename_i hw;rw[Yl hw]at hs;exact FT hndo hs
      · rename_i hw;rw[Yk hw]at hs;exact⟨fun _ _=>trivial,hs⟩
    refine(hst i o u ho hu).run _ ⟨hget,hblk⟩ hnew C m a w Q _ hN h ?_;intro m' a' w' h'
    have hL:∀j,(listed.setIfInBounds i true).getD j false=if j=i then true else listed.getD j false:=by
      intro j;simp only[XI,Array.getElem?_setIfInBounds]
      by_cases hj:j=i
      · subst hj
        rw[Yl rfl,Yl rfl,Yl oz];rfl
      · rw[Yk oz,Yk hj]
    refine ih (listed.setIfInBounds i true) (by simpa using hsz) ?_ ?_ m' a' w' ?_
    · intro j oj hoj hl e he hb
      simp only[hL]at hl ⊢
      by_cases hje:e.on=i
      · simp[hje]
      · rw[Yk hje]
        by_cases hj:j=i
        · subst hj;rw[ho]at hoj;cases hoj;exact hpre e he hb
        · rw[Yk hj]at hl;exact hcl j oj hoj hl e he hb
    · have e1:((List.range R.size).filter fun j=>!(listed.setIfInBounds i true).getD j false) =
          ((List.range R.size).filter fun j=>!listed.getD j false).filter fun j=>!decide (j=i):=by
        rw[List.filter_filter];refine List.filter_congr (fun j _=>?_);rw[hL]
        by_cases hj:j=i <;> simp[hj]
      have e2:(((List.range R.size).filter fun j=>!listed.getD j false).filter fun j=>!decide (j=i)).length<((List.range R.size).filter fun j=>!listed.getD j false).length:=by
        rw[List.length_filter_lt_length_iff_exists];exact⟨i,by simp[List.mem_filter,hilt];simpa using hil,by simp⟩
      rw[e1];omega
    · refine h'.congr (fun t=>?_) (fun k=>?_)
      · rw[ir]
        by_cases hd:o.dst=some t
        · rw[Yl hd]
          rw[Jz (i:=i+1) R.size oz]
          · simp only[vw,hL,if_true,ho,hu,ir,hd]
          · intro j oj hj hoj hdj
            rw[hL,Yk oz];obtain⟨uj,huj⟩:=hUj j oj hoj;exact hafter j oj uj hoj huj oz (by simp[jC,hd,hdj])
        · rw[Yk hd]
          refine A6 _ (fun j oj hj hoj hdj=>?_);rw[hL,Yk];rintro rfl;rw[ho]at hoj;cases hoj;exact hd hdj
      · rw[qe]
        by_cases hd:k∈u.wr
        · rw[Yl hd]
          rw[GQ (i:=i+1) R.size oz]
          · simp only[vw,hL,if_true,ho,hu,qe,hd]
          · intro j uj hj huj hdj
            rw[hL,Yk oz];obtain⟨oj,hoj⟩:=hRj j uj huj;exact hafter j oj uj hoj huj oz (by simp[jC,tO hd hdj])
        · rw[Yk hd]
          refine zj _ (fun j uj hj huj hdj=>?_);rw[hL,Yk];rintro rfl;rw[hu]at huj;cases huj;exact hd hdj
end
inductive TK where
  |bool |int (k:IntKind) |string |slice (e:Nat) |array (n e:Nat) |struct |iface (n:Nat) |pointer (e:Nat) |other
  deriving Inhabited
structure TI where
  size:Nat
  bytes:Nat
  zero:List Value
  k:TK
  fs:List (Nat×Nat)
  deriving Inhabited
def TI.ag(t:TI):Bool:=match t.k with | .struct | .array _ _=>true |_=>false
def fV:TypeDesc->TK
  | .bool=>.bool
  | .int k=>.int k
  | .string=>.string
  | .slice e=>.slice e
  | .array n e=>.array n e
  | .struct _=>.struct
  | .interface ms=>.iface ms.size
  | .pointer e=>.pointer e
  |_=>.other
def qW(P:Program):TypeDesc->List (Nat×Nat)
  | .struct fs=>fs.toList.map fun f=>(f.offset,match P.info? f.type with |some j=>j.size |none=>0)
  |_=>[]
def aC(P:Program)(t:TypeId):Option TI :=
  match P.info? t,P.underlying t with
  |some i,some d=>match i.zero with
    |some z=>some ⟨i.size,i.bytes,z.cells.toList,fV d,qW P d⟩
    |none=>none
  |_,_=>none
theorem ud{P:Program}{t:TypeId}{ti:TI}(h:aC P t=some ti) :
  ∃i d z,P.info? t=some i/\P.underlying t=some d/\i.zero=some z/\ti=⟨i.size,i.bytes,z.cells.toList,fV d,qW P d⟩:=by
 unfold aC at h;split at h
 ·rename_i i d h1 h2;split at h
  ·rename_i z h3;cases h;exact⟨i,d,z,h1,h2,h3,rfl⟩
  ·cases h
 ·cases h
theorem f8{P:Program}{t:TypeId}{ti:TI}(h:aC P t=some ti)(w:World):(sizeOf t).run P w=.ok ti.size w:=by
 obtain⟨i,d,z,h1,h2,h3,rfl⟩:=ud h;simp[sizeOf,typeInfo,h1]
theorem EW{P:Program}{t:TypeId}{ti:TI}(h:aC P t=some ti)(w:World):∃i,(typeInfo t).run P w=.ok i w/\i.bytes=ti.bytes/\i.size=ti.size:=by
 obtain⟨i,d,z,h1,h2,h3,rfl⟩:=ud h;exact⟨i,by simp[typeInfo,h1],rfl,rfl⟩
theorem tt{P:Program}{t:TypeId}{ti:TI}(h:aC P t=some ti)(w:World):∃z,(zeroValue t).run P w=.ok z w/\z.cells.toList=ti.zero:=by
 obtain⟨i,d,z,h1,h2,h3,rfl⟩:=ud h;exact⟨z,by simp[zeroValue,typeInfo,h1,h3],rfl⟩
theorem d9{P:Program}{t:TypeId}{ti:TI}(h:aC P t=some ti)(w:World):∃d,(underlying t).run P w=.ok d w/\fV d=ti.k/\qW P d=ti.fs/\P.underlying t=some d:=by
 obtain⟨i,d,z,h1,h2,h3,rfl⟩:=ud h;exact⟨d,by simp[underlying,h2],rfl,rfl,h2⟩
theorem iG{d:TypeDesc}{e:Nat}(h:fV d=.slice e):d=.slice e:=by cases d <;> simp_all [fV]
theorem Dx{d:TypeDesc}(h:fV d=.string):d=.string:=by cases d <;> simp_all [fV]
theorem Ep{d:TypeDesc}(h:fV d=.bool):d=.bool:=by cases d <;> simp_all [fV]
theorem Q2{d:TypeDesc}{k:IntKind}(h:fV d=.int k):d=.int k:=by cases d <;> simp_all [fV]
theorem UA{d:TypeDesc}{n e:Nat}(h:fV d=.array n e):d=.array n e:=by cases d <;> simp_all [fV]
theorem GM{d:TypeDesc}(h:fV d=.struct):∃fs,d=.struct fs:=by cases d <;> simp_all [fV]
theorem FI{d:TypeDesc}{n:Nat}(h:fV d=.iface n):∃ms,d=.interface ms/\ms.size=n:=by cases d <;> simp_all [fV]
theorem JT{P:Program}{t:TypeId}{ti:TI}(h:aC P t=some ti)(w:World):(isAgg t).run P w=.ok ti.ag w:=by
 obtain⟨d,h1,h2,-,-⟩:=d9 h w;simp only[isAgg,Sem.run_bind,h1,Result.andThen_ok,TI.ag,<- h2];cases d <;> rfl
theorem iV(b off n:Nat):(⟨b,off,none⟩:Addr).add n=⟨b,off+n,none⟩:=by
 unfold Addr.add;split
 ·subst_vars;rfl
 ·rfl
theorem rc{w:World}{b off:Nat}{c:Array Value}{t:TypeId}{f:Nat×Nat}(hb:w.heap[b]?=some (.cells c t f)) :
  w.cell? ⟨b,off,none⟩=c[off]? := by
 simp[World.cell?,hb]
theorem xH{P:Program}{w:World}{T:TypeId}{ti:TI}{b off:Nat}{c:Array Value}{t:TypeId}{f:Nat×Nat}
  (hT:aC P T=some ti) (hb:w.heap[b]?=some (.cells c t f)) (hle:off+ti.size<=c.size) (h1:ti.ag=true\/ti.size=1) :
  (loadVar T ⟨b,off,none⟩).run P w=.ok (if ti.ag then .agg (c.extract off (off+ti.size))else c.getD off undef) w:=by
 simp only[loadVar,Sem.run_bind,JT hT,Result.andThen_ok];cases ha:ti.ag with
 |true =>
  simp only[if_true];have hl:(c.extract off (off+ti.size)).toList.length=ti.size:=by simp;omega
  have:=run_loadCells_list (P:=P) w ⟨b,off,none⟩ (c.extract off (off+ti.size)).toList (by
   intro j v hj;rw[iV,rc hb];simp only[Array.getElem?_toList,Array.getElem?_extract]at hj;split at hj
   ·exact hj
   ·cases hj)
  rw[hl]at this;simp only[Sem.run_bind,f8 hT,Result.andThen_ok,this,Sem.run_pure,Array.toArray_toList]
 |false =>
  rcases h1 with h1 |h1
  ·rw[ha]at h1;cases h1
  ·simp only [Bool.false_eq_true, if_false, run_load, rc hb];have:off < c.size:=by omega
   simp[this,XI]
def kH(ag:Bool)(l:List AV):AV:=match ag with
  |true=>.agg l
  |false=>match l with |x::_=>x |[]=>default
theorem vn{g:Nat->Array Value->Prop}{S:Nat->Nat->Prop}{m:Nat->Option Nat}{c:Array Value}{off n:Nat}{ag:Bool}{xs:List AV}
  (hn:xs.length=n) (hle:off+n<=c.size) (h1:ag=true\/n=1) (ho:∀(j:Nat)(x:AV),xs[j]?=some x->x.one=true)
  (hr:∀(j:Nat)(u:Value)(x:AV),xs[j]?=some x->c[off+j]?=some u->Rep g S m u x) :
  Rep g S m (if ag then .agg (c.extract off (off+n))else c.getD off undef) (kH ag xs):=by
 cases ag with
 |true =>
  simp only[if_true,kH];refine .agg (by simp;omega) ho ?_;intro j u x hu hx;simp only[Array.getElem?_extract]at hu;split at hu
  ·exact hr j u x hx hu
  ·cases hu
 |false =>
  rcases h1 with h1 |h1
  ·cases h1
  ·subst h1
   match xs,hn with
   |[x],_ =>
    simp only[Bool.false_eq_true,if_false,kH];have:off<c.size:=by omega
    refine hr 0 _ x rfl ?_;simp[this,XI]
def bQ(P:Program)(N:Nat)(c:Code)(Q:Exit->AS->Prop)(s:AS):Prop :=
  ∀C m a w n,C.nt=N->RelM C s m a w->c.wpIn (Fw C.ro) n P (fun e a' w'=>∃s' m',Q e s'/\RelM C s' m' a' w') a w
def j6(P:Program)(N:Nat)(c:Code)(Q:Exit->AS->Prop)(s:AS):Prop :=
  ∀C m a w n,C.ro=none->C.nt=N->RelM C s m a w->c.wpIn (Fw C.ro) n P (fun e a' w'=>∃s' m',Q e s'/\RelM C s' m' a' w') a w
theorem bQ.out{P:Program}{N:Nat}{c:Code}{Q:Exit->AS->Prop}{s:AS}(h:bQ P N c Q s):j6 P N c Q s:=fun C m a w n _=>h C m a w n
def Wk(s s':AS):Prop:=∀C m a w,RelM C s m a w->∃m',RelM C s' m' a w
theorem Wk.refl(s:AS):Wk s s:=fun _ m _ _ h=>⟨m,h⟩
theorem Wk.trans{s s' s'':AS}(h:Wk s s')(h':Wk s' s''):Wk s s'':=fun C m a w hr=>by
 obtain⟨m',hr'⟩:=h C m a w hr;exact h' C m' a w hr'
variable{P:Program}{N:Nat}{Q:Exit->AS->Prop}{s:AS}
theorem rD{c:Code}{s':AS}(hw:Wk s s')(h:bQ P N c Q s'):bQ P N c Q s:=by
 intro C m a w n hN hr;obtain⟨m',hr'⟩:=hw C m a w hr;exact h C m' a w n hN hr'
theorem jr{c:Code}{Q':Exit->AS->Prop}(h:bQ P N c Q s)(hq:∀e s,Q e s->Q' e s):bQ P N c Q' s :=
 fun C m a w n hN hr=>wpIn_mono (h C m a w n hN hr) fun e _ _ ⟨s',m',hQ,hr'⟩=>⟨s',m',hq e s' hQ,hr'⟩
theorem PS{c:Code}{p:Prop}(hp:∀C m a w,RelM C s m a w->p)(h:p->bQ P N c Q s):bQ P N c Q s :=
 fun C m a w n hN hr=>h (hp C m a w hr) C m a w n hN hr
def CE(K:AS->Prop)(Q:Exit->AS->Prop):Exit->AS->Prop
  | .normal,s=>K s
  |e,s=>Q e s
theorem Qp{x y:Code}(h:∀K:AS->Prop,(∀s,bQ P N y Q s->K s)->bQ P N x (CE K Q) s):bQ P N (.seq x y) Q s:=by
 intro C m a w n hN hr;refine wpIn_seq (wpIn_mono (h (bQ P N y Q) (fun _ h=>h) C m a w n hN hr) ?_);rintro e a' w' ⟨s',m',hq,hr'⟩;cases e with
 |normal=>exact hq C m' a' w' n hN hr'
 |_=>exact⟨s',m',hq,hr'⟩
theorem Oi(h:Q .normal s):bQ P N .skip Q s:=fun _ m _ _ _ _ hr=>wpIn_skip ⟨s,m,h,hr⟩
theorem Kx(h:Q .ret s):bQ P N .ret Q s:=fun _ m _ _ _ _ hr=>wpIn_ret ⟨s,m,h,hr⟩
theorem Px{id:Nat}(h:Q (.exit id) s):bQ P N (.exit id) Q s:=fun _ m _ _ _ _ hr=>wpIn_exit ⟨s,m,h,hr⟩
def xE(id:Nat)(K:AS->Prop)(Q:Exit->AS->Prop):Exit->AS->Prop
  | .exit id',s=>match Nat.beq id' id with |true=>K s |false=>Q (.exit id') s
  | .normal,s=>K s
  |e,s=>Q e s
theorem Wu{id:Nat}{c:Code}(h:bQ P N c (xE id (Q .normal) Q) s):bQ P N (.block id c) Q s:=by
 intro C m a w n hN hr;refine wpIn_block (wpIn_mono (h C m a w n hN hr) ?_);rintro e a' w' ⟨s',m',hq,hr'⟩;cases e with
 |exit id' =>
  simp only[Exit.inBlock];simp only[xE]at hq;split at hq
  ·rename_i hb;rw[Yl (XG hb)];exact⟨s',m',hq,hr'⟩
  ·rename_i hb;rw[Yk (Nat.ne_of_beq_eq_false hb)];exact⟨s',m',hq,hr'⟩
 |_=>exact⟨s',m',hq,hr'⟩
inductive Ev(s:AS):Operand->AV->Prop
  |tmp {t:Nat} {x:AV} (h:s.get t=some x):Ev s (.tmp t) x
  |opt {t:Nat} {b:Bool} {x:AV} (h:s.get t=some (.opt b x)) (hb:b=true):Ev s (.tmp t) x
  |const (c:Value):Ev s (.const c) (.v c)
  |func (f:FuncId):Ev s (.func f) (.v (.func (.func f) #[] #[]))
theorem Ev.rep{C:Ctx}{m:Nat->Option Nat}{a:Act}{w:World}(hr:RelM C s m a w){o:Operand}{x:AV}(h:Ev s o x) :
  Rep (Im C.ext s.hp m w) (Sz w) m (a.eval o) x:=by
 cases h with
 |tmp h=>exact(hr.slots _ _ h).2
 | @opt t _ _ h hb =>
  have h2:=(hr.slots _ _ h).2;show Rep _ _ m (a.tmps.getD t undef) x;generalize a.tmps.getD t undef=u at h2;cases h2 with |opt h' _=>exact h' hb
 |const c=>exact .v _
 |func f=>exact .v _
theorem SC{c:Operand}{x y:Code}{b:Bool}(hc:Ev s c (.v (.bool b)))(ht:b=true->bQ P N x Q s)(hf:b=false->bQ P N y Q s) :
  bQ P N (.cond c x y) Q s:=by
 intro C m a w n hN hr;have h:=hc.rep hr
 have:a.eval c=.bool b:=by
  generalize a.eval c=v at h;cases h;rfl
 exact wpIn_cond_split this (fun hb=>ht hb C m a w n hN hr) (fun hb=>hf hb C m a w n hN hr)
theorem Vi{F:Fence}{n9:Nat}{c:Code}{Q:Exit->Act->World->Prop}{a:Act}{w:World}(I:Nat->Act->World->Prop){n:Nat}(h₀:I n a w)
  (round:∀n a w,I n a w->c.wpIn F n9 P (Exit.then (fun a' w'=>∃n',n'<n/\I n' a' w') Q) a w):(Code.loop c).wpIn F n9 P Q a w:=by
 intro b k cs hro hb hr
 have key:∀n a w,I n a w->∃e a' w',Q e a' w'/\ArrivesIn (Machine.fenced P F) P (lone (b.atR a (.code c :: .inLoop c::k)) cs w) b k cs e a' w':=by
  intro n
  induction n using Nat.strongRecOn with
  |_ n ih =>
   intro a w hI;obtain⟨e,a₁,w₁,hq,harr⟩:=round n a w hI b (.inLoop c::k) cs hro hb hr;cases e with
   |normal =>
    obtain⟨n',hlt,hI₁⟩:=hq;obtain⟨e₂,a₂,w₂,hq₂,harr₂⟩:=ih n' hlt a₁ w₁ hI₁;exact⟨e₂,a₂,w₂,hq₂,.of_steps (StepsIn.trans harr (.one (fenced_calm hb hr rfl) stepR_inLoop)) harr₂⟩
   |_=>exact⟨_,a₁,w₁,hq,.pass (x:=.inLoop c) rfl (fun _ _=>.inl (by simp)) harr⟩
 obtain⟨e,a',w',hq,harr⟩:=key n a w h₀;exact⟨e,a',w',hq,.of_steps (.one (fenced_calm hb hr rfl) stepR_loop) harr⟩
theorem rv{c:Code}(I:Nat->AS->Prop){n:Nat}{s':AS}(hw:Wk s s')(h₀:I n s')
  (round:∀n s,I n s->∀K:AS->Prop,(∀s1 s2 n',Wk s1 s2->I n' s2->n'<n->K s1)->bQ P N c (CE K Q) s):bQ P N (.loop c) Q s:=by
 intro C m a w n9 hN hr;obtain⟨m1,hr1⟩:=hw C m a w hr;refine Vi (fun n a w=>∃s m,I n s/\RelM C s m a w) ⟨s',m1,h₀,hr1⟩ ?_;rintro n a w ⟨s,m,hI,hr⟩;refine wpIn_mono (round n s hI (fun s1=>∃s2 n',Wk s1 s2/\I n' s2/\n'<n) (fun s1 s2 n' h1 h2 h3=>⟨s2,n',h1,h2,h3⟩) C m a w n9 hN hr) ?_;rintro e a' w' ⟨s1,m1,hq,hr1⟩;cases e with
 |normal =>
  obtain⟨s2,n',h1,h2,h3⟩:=hq;obtain⟨m2,hr2⟩:=h1 C m1 a' w' hr1;exact⟨n',h3,s2,m2,h2,hr2⟩
 |_=>exact⟨s1,m1,hq,hr1⟩
theorem QP{id:Nat}{ops:List Oper}(hd:ops.all nd=true)(h:gk P N ops.toArray ops s [] (fun s' _=>Q .normal s')):bQ P N (.region id ops.toArray false) Q s:=by
 intro C m a w n hN hr;refine wpIn_region ?_;have:=Qj (C:=C) (n:=n) hN (Q:=fun e a' w'=>∃s' m',Q e s'/\RelM C s' m' a' w') (fun s us m a w hq hr=>⟨s,m,hq,hr⟩) ops 0 s [] m a w (by simp) hd h hr;rw[List.range_eq_range'];simpa using this
theorem Sl{R:Array Oper}{K:AS->List Out->Prop}:∀(ops:List Oper)(s:AS)(us:List Out),gk P N R ops s us K ->
  ∃us',us'.length=ops.length/\K (vw ops.toArray us' s (fun _=>true) ops.length) (us++us') /\
   ∀(i:Nat) o u,ops[i]?=some o->us'[i]?=some u->Step P N R (vw ops.toArray us' s (fun _=>true) i) o u:=by
 intro ops
 induction ops with
 |nil=>intro s us h;exact⟨[],rfl,by simpa[vw,gk]using h,by simp⟩
 |cons o ops ih =>
  intro s us h;obtain⟨u,hs,hn,h⟩:=h;obtain⟨us',h1,h2,h3⟩:=ih _ _ h
  have hv:∀i,vw (o::ops).toArray (u::us') s (fun _=>true) (i+1)=vw ops.toArray us' (s.app o.dst u) (fun _=>true) i:=by
   intro i
   induction i with
   |zero=>simp[vw]
   |succ i ih =>
    rw[vw,ih,vw];simp
  refine⟨u::us',by simp[h1],?_,?_⟩
  ·rw[XK,hv];simpa using h2
  ·intro i o' u' ho hu;cases i with
   |zero=>simp at ho hu;subst ho;subst hu;simpa[vw]using hs
   |succ i =>
    rw[hv];exact h3 i o' u' (by simpa using ho) (by simpa using hu)
theorem LQ{id:Nat}{ops:List Oper}(hd:ops.all nd=true)(hm:P.follows .mixedOrders=true)
  (h:gk P N ops.toArray ops s [] (fun s' us=>chk ops us s=true/\Q .normal s')):bQ P N (.region id ops.toArray true) Q s:=by
 intro C m a w n hN hr;obtain⟨us,h1,⟨h2,h3⟩,h4⟩:=Sl ops s [] h;refine wpIn_region_any hm ?_;refine W5 (C:=C) (by simpa using hd) hN (U:=us) (s0:=s) (by simpa using h1) (by simpa using h4) (by simpa using h2) ?_ _ _ (by simp) ?_ ?_ m a _ ?_
 ·intro m a w hr;exact⟨_,m,h3,by simpa using hr⟩
 ·intro i o _ hl;simp only[XI,Array.getElem?_replicate]at hl;split at hl <;> simp at hl
 ·exact XW (List.length_filter_le _ _) (by simp)
 ·have hz:∀n,vw ops.toArray us s (fun i=>(Array.replicate ops.toArray.size false).getD i false) n=s:=by
   intro n
   induction n with
   |zero=>rfl
   |succ n ih =>
    rw[vw,ih]
    have:(Array.replicate ops.toArray.size false).getD n false=false:=by
     simp only[XI,Array.getElem?_replicate];split <;> rfl
    rw[this]
  rw[hz];exact hr.drawn _
end Go.Lw
namespace Go.Lw
variable{P:Program}{N:Nat}{R:Array Oper}{s:AS}{pos:String}{after:Array Edge}
theorem ar{o:Oper}{ops:List Oper}{us:List Out}{K:AS->List Out->Prop}{u:Out}(hs:Step P N R s o u)(hn:jH s u)
  (h:gk P N R ops (s.app o.dst u) (us++[u]) K):gk P N R (o::ops) s us K:=⟨u,hs,hn,h⟩
def au:Operand->List Nat
  | .tmp t=>[t]
  |_=>[]
theorem Ev.agree{s':AS}{u:Out}(h:f9 s s' u){o:Operand}{x:AV}(he:Ev s o x)(hs:∀t∈au o,t∈u.rt):Ev s' o x:=by
 cases he with
 |tmp ht=>exact .tmp ((h.1 _ (hs _ (by simp[au]))).trans ht)
 |opt ht hb=>exact .opt ((h.1 _ (hs _ (by simp[au]))).trans ht) hb
 |const c=>exact .const c
 |func f=>exact .func f
theorem lZ{o:Oper}(hg:o.guard=none)(y:Nat->Option Bool):Region.wanted o y=true:=by simp[Region.wanted,hg]
theorem dA{o:Oper}{d:Nat}{x:AV}{rt rd:List Nat}(hg:o.guard=none)(hd:o.dst=some d)(hN:Nat.blt d N=true)
  (h:∀s',f9 s s' ⟨some x,[],rt,rd⟩->∀C m a w,RelM C s' m a w ->
   ∃v,(execOp a.eval o).run P w=.ok (.value v) w/\Rep (Im C.ext s'.hp m w) (Sz w) m v x):Step P N R s o ⟨some x,[],rt,rd⟩:=by
 refine⟨fun s' hag _ C m a w Q next hC hr hnext=>?_⟩;rw[Yl (lZ hg _)];refine sj ?_;obtain⟨v,h1,h2⟩:=h s' hag C m a w hr;rw[Nat.blt_eq]at hN;unfold Oper.wp;rw[h1];simp only[Oper.upon,hd,Act.put];refine hnext m _ _ ?_;have:=hr.put d v (some x) (fun y hy=>by cases hy;exact⟨by have:=hr.nt;omega,h2⟩);simpa[AS.app,hd]using this
theorem MK{d:Nat}{x:Operand}{v:AV}{t:TypeId}(he:Ev s x v)(hN:Nat.blt d N=true) :
  Step P N R s ⟨some d,.move x,t,pos,after,none⟩ ⟨some v,[],au x,[]⟩ :=
 dA rfl rfl hN fun s' hag C m a w hr=>⟨a.eval x,rfl,(he.agree hag (fun _ h=>h)).rep hr⟩
theorem Uh{d:Nat}{x:Operand}{v:AV}{t:TypeId}(he:Ev s x v)(hN:Nat.blt d N=true) :
  Step P N R s ⟨some d,.assign x,t,pos,after,none⟩ ⟨some v,[],au x,[]⟩ :=
 dA rfl rfl hN fun s' hag C m a w hr=>⟨a.eval x,rfl,(he.agree hag (fun _ h=>h)).rep hr⟩
def Sub(x y:AV):Prop:=∀g S m v,Rep g S m v x->Rep g S m v y
theorem Sub.nil(sz:Nat)(a:Option Addr)(c:Nat):Sub (.v (.slice a 0 c)) (.lst sz []):=fun g S m v h=>by cases h;exact .lst0 a c sz
theorem qD{d:Nat}{op:Op}{x:Operand}{vx y:Value}{t:TypeId}(he:Ev s x (.v vx))(hN:Nat.blt d N=true)
  (h:∀(ρ:Operand->Value)(w:World),ρ x=vx->(execOp ρ ⟨some d,op,t,pos,after,none⟩).run P w=.ok (.value y) w) :
  Step P N R s ⟨some d,op,t,pos,after,none⟩ ⟨some (.v y),[],au x,[]⟩ :=
 dA rfl rfl hN fun s' hag C m a w hr=>⟨y,h _ _ (by
  have:=(he.agree hag (fun _ h=>h)).rep hr;generalize a.eval x=u at this;cases this;rfl),.v y⟩
theorem ju{d:Nat}{op:Op}{x x':Operand}{vx vx' y:Value}{t:TypeId}(he:Ev s x (.v vx))(he':Ev s x' (.v vx'))
  (hN:Nat.blt d N=true)
  (h:∀(ρ:Operand->Value)(w:World),ρ x=vx->ρ x'=vx'->(execOp ρ ⟨some d,op,t,pos,after,none⟩).run P w=.ok (.value y) w) :
  Step P N R s ⟨some d,op,t,pos,after,none⟩ ⟨some (.v y),[],au x++au x',[]⟩ :=
 dA rfl rfl hN fun s' hag C m a w hr=>⟨y,h _ _ (by
  have:=(he.agree hag (fun _ h=>List.mem_append.2 (.inl h))).rep hr;generalize a.eval x=u at this;cases this;rfl) (by
  have:=(he'.agree hag (fun _ h=>List.mem_append.2 (.inr h))).rep hr;generalize a.eval x'=u at this;cases this;rfl),.v y⟩
theorem Lj{d:Nat}{x:Operand}{b:Bool}{T t:TypeId}(he:Ev s x (.v (.bool b)))(hN:Nat.blt d N=true) :
  Step P N R s ⟨some d,.unOp .not T x,t,pos,after,none⟩ ⟨some (.v (.bool !b)),[],au x,[]⟩ :=
 qD he hN fun ρ w h=>by simp[execOp,h,Op.unary]
theorem vm{d:Nat}{x:Operand}{k:IntKind}{n:Int}{T t:TypeId}(he:Ev s x (.v (.int k n)))(hN:Nat.blt d N=true) :
  Step P N R s ⟨some d,.unOp .neg T x,t,pos,after,none⟩ ⟨some (.v (.int k (k.wrap (0-n)))),[],au x,[]⟩ :=
 qD he hN fun ρ w h=>by simp[execOp,h,Op.unary,Op.intArith]
theorem TY{d:Nat}{x:Operand}{k k':IntKind}{n:Int}{S T t:TypeId}{ts ti:TI}(he:Ev s x (.v (.int k n)))
  (hN:Nat.blt d N=true) (hS:aC P S=some ts) (hT:aC P T=some ti) (hk:ti.k=.int k') :
  Step P N R s ⟨some d,.convert S T x,t,pos,after,none⟩ ⟨some (.v (.int k' (k'.wrap n))),[],au x,[]⟩ :=
 qD he hN fun ρ w h=>by
  obtain⟨d1,h1,-,-,-⟩:=d9 hS w;obtain⟨d2,h2,h3,-,-⟩:=d9 hT w;obtain rfl:=Q2 (h3.trans hk);simp[execOp,h,convert,h1,h2,Conv.intToInt]
theorem Ob{d:Nat}{x:Operand}{v:Value}{T t:TypeId}{ti:TI}(he:Ev s x (.v v))(hN:Nat.blt d N=true)
  (hT:aC P T=some ti) (hk:(match ti.k with | .int _=>true | .struct=>true | .pointer _=>true | .string=>true |_=>false)=true) :
  Step P N R s ⟨some d,.makeInterface T x,t,pos,after,none⟩ ⟨some (.v (.iface T v)),[],au x,[]⟩ :=
 qD he hN fun ρ w h=>by
  obtain⟨d2,h2,h3,-,-⟩:=d9 hT w
  have:∀ms,d2≠.interface ms:=by
   rintro ms rfl;rw[<- h3]at hk;simp[fV]at hk
  simp only[execOp,h,Instr.makeInterface,Sem.run_bind,h2,Result.andThen_ok];cases d2 <;> first |rfl |exact absurd rfl (this _)
def fN(op:BinOp)(a b:Int):Int:=match op with | .add=>a+b | .sub=>a-b |_=>a*b
theorem V2{d:Nat}{op:BinOp}{x y:Operand}{k:IntKind}{a b:Int}{S T t:TypeId}
  (hx:Ev s x (.v (.int k a))) (hy:Ev s y (.v (.int k b))) (hop:(match op with | .add | .sub | .mul=>true |_=>false)=true) (hN:Nat.blt d N=true) :
  Step P N R s ⟨some d,.binOp op S x y T,t,pos,after,none⟩ ⟨some (.v (.int k (k.wrap (fN op a b)))),[],au x++au y,[]⟩ :=
 ju hx hy hN fun ρ w h1 h2=>by
  cases op <;> simp at hop <;> simp[execOp,h1,h2,eqGuard,binOp,Op.intArith,fN]
def aa(op:BinOp)(a b:Int):Bool:=match op with
  | .eql=>a==b | .neq=>a != b | .lss=>a<b | .leq=>a<=b | .gtr=>a>b |_=>a>=b
theorem Qc{d:Nat}{op:BinOp}{x y:Operand}{k:IntKind}{a b:Int}{S T t:TypeId}
  (hx:Ev s x (.v (.int k a))) (hy:Ev s y (.v (.int k b))) (hop:(match op with | .eql | .neq | .lss | .leq | .gtr | .geq=>true |_=>false)=true) (hN:Nat.blt d N=true) :
  Step P N R s ⟨some d,.binOp op S x y T,t,pos,after,none⟩ ⟨some (.v (.bool (aa op a b))),[],au x++au y,[]⟩ :=
 ju hx hy hN fun ρ w h1 h2=>by
  cases op <;> simp at hop <;> simp[execOp,h1,h2,eqGuard,binOp,Op.intCmp,aa]
theorem RI{d:Nat}{x y:Operand}{k:IntKind}{a b:Int}{S T t:TypeId}
  (hx:Ev s x (.v (.int k a))) (hy:Ev s y (.v (.int k b))) (hb:b≠0) (hN:Nat.blt d N=true) :
  Step P N R s ⟨some d,.binOp .quo S x y T,t,pos,after,none⟩ ⟨some (.v (.int k (k.wrap (a.tdiv b)))),[],au x++au y,[]⟩ :=
 ju hx hy hN fun ρ w h1 h2=>by simp[execOp,h1,h2,eqGuard,binOp,Op.intDiv,hb]
theorem UM{d:Nat}{x y:Operand}{k:IntKind}{a b:Int}{S T t:TypeId}
  (hx:Ev s x (.v (.int k a))) (hy:Ev s y (.v (.int k b))) (hb:b≠0) (hN:Nat.blt d N=true) :
  Step P N R s ⟨some d,.binOp .rem S x y T,t,pos,after,none⟩ ⟨some (.v (.int k (a.tmod b))),[],au x++au y,[]⟩ :=
 ju hx hy hN fun ρ w h1 h2=>by simp[execOp,h1,h2,eqGuard,binOp,Op.intDiv,hb]
theorem Oj{d:Nat}{x y:Operand}{k k':IntKind}{a b:Int}{S T t:TypeId}
  (hx:Ev s x (.v (.int k a))) (hy:Ev s y (.v (.int k' b))) (hb:0<=b) (hN:Nat.blt d N=true) :
  Step P N R s ⟨some d,.binOp .shl S x y T,t,pos,after,none⟩ ⟨some (.v (.int k (k.wrap (a*2^(min b.toNat k.bits))))),[],au x++au y,[]⟩ :=
 ju hx hy hN fun ρ w h1 h2=>by simp[execOp,h1,h2,eqGuard,binOp,Op.shift,Int.not_lt.2 hb]
theorem Xq{d:Nat}{x y:Operand}{k k':IntKind}{a b:Int}{S T t:TypeId}
  (hx:Ev s x (.v (.int k a))) (hy:Ev s y (.v (.int k' b))) (hb:0<=b) (hN:Nat.blt d N=true) :
  Step P N R s ⟨some d,.binOp .shr S x y T,t,pos,after,none⟩ ⟨some (.v (.int k (a.fdiv (2^(min b.toNat k.bits))))),[],au x++au y,[]⟩ :=
 ju hx hy hN fun ρ w h1 h2=>by simp[execOp,h1,h2,eqGuard,binOp,Op.shift,Int.not_lt.2 hb]
def n8(op:BinOp)(k:IntKind)(a b:Int):Int :=
  let x:=BitVec.ofInt k.bits a
  let y:=BitVec.ofInt k.bits b
  k.wrap ((match op with | .and=>x &&& y | .or=>x ||| y | .xor=>x ^^^ y |_=>x &&& ~~~y).toNat:Int)
theorem Vy{d:Nat}{op:BinOp}{x y:Operand}{k:IntKind}{a b:Int}{S T t:TypeId}
  (hx:Ev s x (.v (.int k a))) (hy:Ev s y (.v (.int k b))) (hop:(match op with | .and | .or | .xor | .andNot=>true |_=>false)=true) (hN:Nat.blt d N=true) :
  Step P N R s ⟨some d,.binOp op S x y T,t,pos,after,none⟩ ⟨some (.v (.int k (n8 op k a b))),[],au x++au y,[]⟩ :=
 ju hx hy hN fun ρ w h1 h2=>by
  cases op <;> simp at hop <;> simp[execOp,h1,h2,eqGuard,binOp,Op.intBits,n8]
theorem Qx{d:Nat}{x y:Operand}{a b:ByteArray}{S T t:TypeId}
  (hx:Ev s x (.v (.string a))) (hy:Ev s y (.v (.string b))) (hN:Nat.blt d N=true) :
  Step P N R s ⟨some d,.binOp .eql S x y T,t,pos,after,none⟩ ⟨some (.v (.bool (a.toList==b.toList))),[],au x++au y,[]⟩ :=
 ju hx hy hN fun ρ w h1 h2=>by simp[execOp,h1,h2,eqGuard,binOp,Op.stringOp]
theorem Qh{d:Nat}{x y:Operand}{a b:ByteArray}{S T t:TypeId}
  (hx:Ev s x (.v (.string a))) (hy:Ev s y (.v (.string b))) (hN:Nat.blt d N=true) :
  Step P N R s ⟨some d,.binOp .neq S x y T,t,pos,after,none⟩ ⟨some (.v (.bool !(a.toList==b.toList))),[],au x++au y,[]⟩ :=
 ju hx hy hN fun ρ w h1 h2=>by simp[execOp,h1,h2,eqGuard,binOp,Op.stringOp]
theorem IJ{S:TypeId}{w:World}(h3:(underlying S).run P w=.ok .bool w)(a b:Bool):(Op.equal S (.bool a) (.bool b)).run P w=.ok (a==b) w:=by
 show(Op.equalIn (9999+1) S _ _).run P w=_;rw[Op.equalIn];simp[h3]
theorem Gv{S:TypeId}{w:World}{ms:Array (String×TypeId)}(h3:(underlying S).run P w=.ok (.interface ms) w){v:Value}
  (hv:v=.nilIface\/∃T u,v=.iface T u):(Op.equal S v .nilIface).run P w=.ok (match v with | .nilIface=>true |_=>false) w:=by
 show(Op.equalIn (9999+1) S _ _).run P w=_;rw[Op.equalIn];rcases hv with rfl |⟨T',u,rfl⟩ <;> simp[h3]
theorem RU{d:Nat}{x y:Operand}{a b:Bool}{S T t:TypeId}{ti:TI}
  (hx:Ev s x (.v (.bool a))) (hy:Ev s y (.v (.bool b))) (hS:aC P S=some ti) (hk:ti.k=.bool) (hN:Nat.blt d N=true) :
  Step P N R s ⟨some d,.binOp .eql S x y T,t,pos,after,none⟩ ⟨some (.v (.bool (a==b))),[],au x++au y,[]⟩ :=
 ju hx hy hN fun ρ w h1 h2=>by
  obtain⟨d2,h3,h4,-,-⟩:=d9 hS w;obtain rfl:=Ep (h4.trans hk);simp[execOp,h1,h2,eqGuard,binOp,IJ h3]
theorem RE{d:Nat}{x y:Operand}{a b:Bool}{S T t:TypeId}{ti:TI}
  (hx:Ev s x (.v (.bool a))) (hy:Ev s y (.v (.bool b))) (hS:aC P S=some ti) (hk:ti.k=.bool) (hN:Nat.blt d N=true) :
  Step P N R s ⟨some d,.binOp .neq S x y T,t,pos,after,none⟩ ⟨some (.v (.bool (a != b))),[],au x++au y,[]⟩ :=
 ju hx hy hN fun ρ w h1 h2=>by
  obtain⟨d2,h3,h4,-,-⟩:=d9 hS w;obtain rfl:=Ep (h4.trans hk);simp[execOp,h1,h2,eqGuard,binOp,IJ h3,bne]
def ef:Value->Bool
  | .nilIface=>true
  |_=>false
theorem MW{d:Nat}{x:Operand}{v:Value}{S T t:TypeId}{ti:TI}{n:Nat}
  (hx:Ev s x (.v v)) (hv:v=.nilIface\/∃T u,v=.iface T u) (hS:aC P S=some ti) (hk:ti.k=.iface n) (hN:Nat.blt d N=true) :
  Step P N R s ⟨some d,.binOp .eql S x (.const .nilIface) T,t,pos,after,none⟩ ⟨some (.v (.bool (ef v))),[],au x++[],[]⟩ :=
 dA rfl rfl hN fun s' hag C m a w hr=>⟨.bool (ef v),by
  have h:=(hx.agree hag (fun _ h=>List.mem_append.2 (.inl h))).rep hr
  have h1:a.eval x=v:=by
   generalize a.eval x=u at h;cases h;rfl
  have h2:a.eval (.const .nilIface)=.nilIface:=rfl;obtain⟨d2,h3,h4,-,-⟩:=d9 hS w;obtain⟨ms,rfl,-⟩:=FI (h4.trans hk);have h5:=Gv h3 hv;rcases hv with rfl |⟨T',u,rfl⟩ <;> simp[execOp,h1,h2,eqGuard,binOp,h5,ef],.v _⟩
theorem OG{d:Nat}{x:Operand}{v:Value}{S T t:TypeId}{ti:TI}{n:Nat}
  (hx:Ev s x (.v v)) (hv:v=.nilIface\/∃T u,v=.iface T u) (hS:aC P S=some ti) (hk:ti.k=.iface n) (hN:Nat.blt d N=true) :
  Step P N R s ⟨some d,.binOp .neq S x (.const .nilIface) T,t,pos,after,none⟩ ⟨some (.v (.bool !(ef v))),[],au x++[],[]⟩ :=
 dA rfl rfl hN fun s' hag C m a w hr=>⟨.bool !(ef v),by
  have h:=(hx.agree hag (fun _ h=>List.mem_append.2 (.inl h))).rep hr
  have h1:a.eval x=v:=by
   generalize a.eval x=u at h;cases h;rfl
  have h2:a.eval (.const .nilIface)=.nilIface:=rfl;obtain⟨d2,h3,h4,-,-⟩:=d9 hS w;obtain⟨ms,rfl,-⟩:=FI (h4.trans hk);have h5:=Gv h3 hv;rcases hv with rfl |⟨T',u,rfl⟩ <;> simp[execOp,h1,h2,eqGuard,binOp,h5,ef],.v _⟩
theorem UF{d:Nat}{x:Operand}{sz:Nat}{es:List AV}{T t:TypeId}{ti:TI}{e:Nat}
  (hx:Ev s x (.lst sz es)) (hT:aC P T=some ti) (hk:ti.k=.slice e) (hN:Nat.blt d N=true) :
  Step P N R s ⟨some d,.call ⟨.builtin .len,#[x],#[T]⟩,t,pos,after,none⟩ ⟨some (.v (.int .i64 es.length)),[],au x,[]⟩ :=
 dA rfl rfl hN fun s' hag C m a w hr=>⟨.int .i64 es.length,by
  have h:=(hx.agree hag (fun _ h=>h)).rep hr;obtain⟨d2,h3,h4,-,-⟩:=d9 hT w;obtain rfl:=iG (h4.trans hk);generalize hu:a.eval x=u at h;cases h <;> simp[execOp,resolve,hu,invoke,builtin,Builtin.len_,h3,goInt],.v _⟩
theorem Kk{d:Nat}{x:Operand}{k sz off len:Nat}{T t:TypeId}{ti:TI}{e:Nat}
  (hx:Ev s x (.ms k sz off len)) (hT:aC P T=some ti) (hk:ti.k=.slice e) (hN:Nat.blt d N=true) :
  Step P N R s ⟨some d,.call ⟨.builtin .len,#[x],#[T]⟩,t,pos,after,none⟩ ⟨some (.v (.int .i64 len)),[],au x,[]⟩ :=
 dA rfl rfl hN fun s' hag C m a w hr=>⟨.int .i64 len,by
  have h:=(hx.agree hag (fun _ h=>h)).rep hr;obtain⟨d2,h3,h4,-,-⟩:=d9 hT w;obtain rfl:=iG (h4.trans hk);generalize hu:a.eval x=u at h;cases h <;> simp[execOp,resolve,hu,invoke,builtin,Builtin.len_,h3,goInt],.v _⟩
theorem WN{d:Nat}{x:Operand}{b:ByteArray}{T t:TypeId}{ti:TI}
  (hx:Ev s x (.v (.string b))) (hT:aC P T=some ti) (hk:ti.k=.string) (hN:Nat.blt d N=true) :
  Step P N R s ⟨some d,.call ⟨.builtin .len,#[x],#[T]⟩,t,pos,after,none⟩ ⟨some (.v (.int .i64 b.size)),[],au x,[]⟩ :=
 qD hx hN fun ρ w h=>by
  obtain⟨d2,h3,h4,-,-⟩:=d9 hT w;obtain rfl:=Dx (h4.trans hk);simp[execOp,resolve,h,invoke,builtin,Builtin.len_,h3,goInt]
theorem Qt{d:Nat}{x:Operand}{a:Option Addr}{n c:Nat}{T t:TypeId}{ti:TI}{e:Nat}
  (hx:Ev s x (.v (.slice a n c))) (hT:aC P T=some ti) (hk:ti.k=.slice e) (hN:Nat.blt d N=true) :
  Step P N R s ⟨some d,.call ⟨.builtin .len,#[x],#[T]⟩,t,pos,after,none⟩ ⟨some (.v (.int .i64 n)),[],au x,[]⟩ :=
 qD hx hN fun ρ w h=>by
  obtain⟨d2,h3,h4,-,-⟩:=d9 hT w;obtain rfl:=iG (h4.trans hk);simp[execOp,resolve,h,invoke,builtin,Builtin.len_,h3,goInt]
theorem vq{d:Nat}{x y:Operand}{a b:Int}{k:IntKind}{T T' t:TypeId}
  (hx:Ev s x (.v (.int k a))) (hy:Ev s y (.v (.int k b))) (hN:Nat.blt d N=true) :
  Step P N R s ⟨some d,.call ⟨.builtin .max,#[x,y],#[T,T']⟩,t,pos,after,none⟩ ⟨some (.v (.int k (max a b))),[],au x++au y,[]⟩ :=
 ju hx hy hN fun ρ w h1 h2=>by
  have:(if b>a then b else a)=max a b:=by split <;> omega
  simp[execOp,resolve,h1,h2,invoke,builtin,Builtin.max_,Builtin.max2,this]
theorem PB{d:Nat}{x:Operand}{xs:List AV}{i:Nat}{y:AV}{t:TypeId}
  (hx:Ev s x (.tup xs)) (hy:xs[i]?=some y) (hN:Nat.blt d N=true) :
  Step P N R s ⟨some d,.extract x i,t,pos,after,none⟩ ⟨some y,[],au x,[]⟩ :=
 dA rfl rfl hN fun s' hag C m a w hr=>by
  have h:=(hx.agree hag (fun _ h=>h)).rep hr;generalize hu:a.eval x=u at h;cases h with
  | @tup _ vs _ hn hrr =>
   have hi:i<vs.size:=by
    rw[hn];rcases XH i xs.length with h |h
    ·exact h
    ·rw[XN h]at hy;cases hy
   exact⟨vs[i],by simp[execOp,hu,Instr.extract,hi],hrr i _ y (by simp[hi]) hy⟩
theorem RS{d:Nat}{c x y:Operand}{b bx bz:Bool}{t:TypeId}(hc:Ev s c (.v (.bool b)))
  (hx:b=true->Ev s x (.v (.bool bx))) (hy:b=false->Ev s y (.v (.bool bz))) (hN:Nat.blt d N=true) :
  Step P N R s ⟨some d,.pick c x y,t,pos,after,none⟩ ⟨some (.v (.bool (cond b bx bz))),[],au c++(au x++au y),[]⟩ :=
 dA rfl rfl hN fun s' hag C m a w hr=>by
  have hval:∀(o:Operand)(z:Bool),(∀t∈au o,t∈au c++(au x++au y))->Ev s o (.v (.bool z))->a.eval o=.bool z:=by
   intro o z hsub h;have:=(h.agree hag hsub).rep hr;generalize a.eval o=u at this;cases this;rfl
  have h1:=hval c b (fun t h=>by simp[h]) hc;cases b with
  |true=>exact⟨.bool bx,by simp[execOp,h1,asBool,hval x bx (fun t h=>by simp[h]) (hx rfl)],.v _⟩
  |false=>exact⟨.bool bz,by simp[execOp,h1,asBool,hval y bz (fun t h=>by simp[h]) (hy rfl)],.v _⟩
theorem fq{d j g:Nat}{op:Op}{t:TypeId}{want b:Bool}{x:AV}{rt rd:List Nat}
  (hj:(R[j]?).bind (·.dst)=some g) (hb:s.get g=some (.v (.bool b))) (hN:Nat.blt d N=true)
  (h:b=want->Step P N R s ⟨some d,op,t,pos,after,none⟩ ⟨some x,[],rt,rd⟩) :
  Step P N R s ⟨some d,op,t,pos,after,some (j,want)⟩ ⟨some (.opt (b==want) x),[],g::rt,rd⟩:=by
 refine⟨fun s' hag hnew C m a w Q next hC hr hnext=>?_⟩;have hg:=hr.slots g _ ((hag.1 g (by simp)).trans hb)
 have hgv:a.tmps[g]?=some (.bool b):=by
  obtain⟨h1,h2⟩:=hg;generalize hu:a.tmps.getD g undef=u at h2;cases h2;simp only[XI]at hu;rw[Array.getElem?_eq_getElem h1]at hu ⊢;simpa using hu
 have hy:yielded R a.tmps j=some b:=by simp[yielded,hj,hgv]
 have hd:d<a.tmps.size:=by rw[Nat.blt_eq]at hN;have:=hr.nt;omega
 by_cases hbw:b=want
 ·subst hbw;have hwt:Region.wanted ⟨some d,op,t,pos,after,some (j,b)⟩ (yielded R a.tmps) = true:=by simp [Region.wanted,hy]
  rw[Yl hwt];have:=(h rfl).run s' ⟨fun t ht=>hag.1 t (by simp[show t∈rt from ht]),hag.2⟩ (fun k hk=>by cases hk) C m a w Q next hC hr (fun m' a' w' h'=>hnext m' a' w' ?_)
  ·rw[Yl (lZ rfl _)]at this;exact this
  ·refine⟨fun t y hy=>?_,h'.heap,h'.frame,h'.new,h'.keep,h'.defers,h'.nt⟩;simp only[ir]at hy;split at hy
   ·rename_i hdt;cases hy;have:=h'.slots t x (by simp only[ir,Yl hdt]);exact⟨this.1,.opt (fun _=>this.2) (fun h=>by simp at h)⟩
   ·rename_i hdt;exact h'.slots t y (by simp only[ir,Yk hdt];exact hy)
 ·have hwt : ¬ Region.wanted ⟨some d, op, t, pos, after, some (j, want)⟩ (yielded R a.tmps) = true := by simp [Region.wanted, hy, hbw]
  rw[Yk hwt];have:=hr.put d undef (some (.opt (b==want) x)) (fun y hy=>by cases hy;exact⟨hd,.opt (fun h=>absurd (beq_iff_eq.1 h) hbw) (fun _=>rfl)⟩);refine hnext m _ _ ?_;simpa[AS.app,Act.put]using this
theorem rh{d j g:Nat}{op:Op}{t:TypeId}{want b c:Bool}{x:AV}{rt rd:List Nat}
  (hj:(R[j]?).bind (·.dst)=some g) (hb:s.get g=some (.opt c (.v (.bool b)))) (hN:Nat.blt d N=true)
  (h:c=true->b=want->Step P N R s ⟨some d,op,t,pos,after,none⟩ ⟨some x,[],rt,rd⟩) :
  Step P N R s ⟨some d,op,t,pos,after,some (j,want)⟩ ⟨some (.opt (c&&b==want) x),[],g::rt,rd⟩:=by
 refine⟨fun s' hag hnew C m a w Q next hC hr hnext=>?_⟩;have hg:=hr.slots g _ ((hag.1 g (by simp)).trans hb);have hd:d<a.tmps.size:=by rw[Nat.blt_eq]at hN;have:=hr.nt;omega
 have hgv:(c=true/\a.tmps[g]?=some (.bool b))\/(c=false/\a.tmps[g]?=some undef):=by
  obtain⟨h1,h2⟩:=hg;generalize hu:a.tmps.getD g undef=u at h2;simp only[XI]at hu;rw[Array.getElem?_eq_getElem h1]at hu ⊢;simp only[Option.getD_some]at hu;cases h2 with
  |opt h2 h2' =>
   cases c with
   |true=>have:=h2 rfl;cases this;exact .inl ⟨rfl,by rw[hu]⟩
   |false=>exact .inr ⟨rfl,by rw[hu,h2' rfl]⟩
 have hno:∀hwt:¬Region.wanted ⟨some d,op,t,pos,after,some (j,want)⟩ (yielded R a.tmps)=true,(c&&b==want)=false ->
   if Region.wanted ⟨some d,op,t,pos,after,some (j,want)⟩ (yielded R a.tmps)then wq P ⟨some d,op,t,pos,after,some (j,want)⟩ a w next Q
    else next (a.put (some d) undef) w:=by
  intro hwt hc;rw[Yk hwt];have:=hr.put d undef (some (.opt (c&&b==want) x)) (fun y hy=>by cases hy;exact⟨hd,.opt (fun h=>by rw[hc]at h;cases h) (fun _=>rfl)⟩);refine hnext m _ _ ?_;simpa[AS.app,Act.put]using this
 rcases hgv with⟨rfl,hgv⟩ |⟨rfl,hgv⟩
 ·have hy : yielded R a.tmps j = some b := by simp [yielded, hj, hgv]
  by_cases hbw:b=want
  ·subst hbw;have hwt:Region.wanted ⟨some d,op,t,pos,after,some (j,b)⟩ (yielded R a.tmps) = true:=by simp [Region.wanted,hy]
   rw[Yl hwt];have:=(h rfl rfl).run s' ⟨fun t ht=>hag.1 t (by simp[show t∈rt from ht]),hag.2⟩ (fun k hk=>by cases hk) C m a w Q next hC hr (fun m' a' w' h'=>hnext m' a' w' ?_)
   ·rw[Yl (lZ rfl _)]at this;exact this
   ·refine⟨fun t y hy=>?_,h'.heap,h'.frame,h'.new,h'.keep,h'.defers,h'.nt⟩;simp only[ir]at hy;split at hy
    ·rename_i hdt;cases hy;have:=h'.slots t x (by simp only[ir,Yl hdt]);exact⟨this.1,.opt (fun _=>this.2) (fun h=>by simp at h)⟩
    ·rename_i hdt;exact h'.slots t y (by simp only[ir,Yk hdt];exact hy)
  ·exact hno (by simp[Region.wanted,hy,hbw]) (by simp[hbw])
 ·have hy : yielded R a.tmps j = none := by simp [yielded, hj, hgv, undef]
  exact hno (by simp[Region.wanted,hy]) rfl
end Go.Lw
namespace Go.Lw
variable{P:Program}{N:Nat}{R:Array Oper}{s:AS}{pos:String}{after:Array Edge}
def AV.ok:AV->Bool
  | .agg _=>true
  |x=>x.one
theorem AV.ok_spec{x:AV}(h:x.ok=true):(∃cs,x=.agg cs)\/x.one=true:=by
 cases x <;> simp_all [AV.ok]
theorem pz{C:Ctx}{m:Nat->Option Nat}{a:Act}{w:World}(hr:RelM C s m a w){x:Operand}{k off:Nat}(hx:Ev s x (.ptr k off)) :
  ∃b,m k=some b/\a.eval x=.pointer (some ⟨b,off,none⟩):=by
 have h:=hx.rep hr;generalize a.eval x=u at h;cases h with |ptr hm=>exact⟨_,hm,rfl⟩
theorem v5{C:Ctx}{m:Nat->Option Nat}{a:Act}{w:World}(hr:RelM C s m a w){x:Operand}{k sz i off:Nat}(hx:Ev s x (.eptr k sz i off)) :
  ∃b,m k=some b/\a.eval x=.pointer (some ⟨b,i*sz+off,none⟩):=by
 have h:=hx.rep hr;generalize a.eval x=u at h;cases h with |eptr hm=>exact⟨_,hm,rfl⟩
theorem mL{C:Ctx}{m:Nat->Option Nat}{a:Act}{w:World}(hr:RelM C s m a w){x:Operand}{v:Value}(hx:Ev s x (.v v)):a.eval x=v:=by
 have h:=hx.rep hr;generalize a.eval x=u at h;cases h;rfl
theorem wW{ext:Nat->Prop}{hp:Hp}{m:Nat->Option Nat}{w:World}(h:HeapRel ext hp m w){k b:Nat}{cs:List AV}(hk:lk hp k=some (.box cs))(hm:m k=some b) :
  ∃c t,w.heap[b]?=some (.cells c t (0,0))/\c.size=cs.length/\(∀(j:Nat)(x:AV),cs[j]?=some x->x.one=true) /\
   ∀(j:Nat)(u:Value)(x:AV),c[j]?=some u->cs[j]?=some x->Rep (Im ext hp m w) (Sz w) m u x:=by
 have:=h.blk k _ hk;rw[hm]at this;cases this with |box hw hn h1 hr=>exact⟨_,_,hw,hn,h1,hr⟩
theorem uk{ext:Nat->Prop}{hp:Hp}{m:Nat->Option Nat}{w:World}(h:HeapRel ext hp m w){k b sz:Nat}{es:List AV}(hk:lk hp k=some (.row sz es))(hm:m k=some b) :
  ∃c t,w.heap[b]?=some (.cells c t (0,0))/\es.length*sz<=c.size/\es.length<=a8/\(∀(i:Nat)(e:AV),es[i]?=some e->e.cells.length=sz) /\
   (∀(i j:Nat)(e x:AV),es[i]?=some e->e.cells[j]?=some x->x.one=true) /\
   ∀(i j:Nat)(e:AV)(u:Value)(x:AV),es[i]?=some e->e.cells[j]?=some x->c[i*sz+j]?=some u->Rep (Im ext hp m w) (Sz w) dl u x:=by
 have:=h.blk k _ hk;rw[hm]at this;cases this with |row hw hn hl hs h1 hr=>exact⟨_,_,hw,hn,hl,hs,h1,hr⟩
theorem SG{d:Nat}{x:Operand}{k off:Nat}{cs:List AV}{T t:TypeId}{ti:TI}
  (hx:Ev s x (.ptr k off)) (hk:s.blk k=some (.box cs)) (hT:aC P T=some ti) (hle:Nat.ble (off+ti.size) cs.length=true)
  (h1:(ti.ag||Nat.beq ti.size 1)=true) (hN:Nat.blt d N=true) :
  Step P N R s ⟨some d,.load T x,t,pos,after,none⟩ ⟨some (kH ti.ag ((cs.drop off).take ti.size)),[],au x,[k]⟩ :=
 dA rfl rfl hN fun s' hag C m a w hr=>by
  rw[Nat.ble_eq]at hle;have h1:ti.ag=true\/ti.size=1:=by simpa using h1
  obtain⟨b,hm,hv⟩:=pz hr (hx.agree hag (fun _ h=>h));obtain⟨c,t,hw,hn,ho,hrr⟩:=wW hr.heap ((hag.2 k (by simp)).trans hk) hm;refine⟨_,?_,vn (c:=c) (off:=off) (n:=ti.size) (by simp;omega) oz h1 ?_ ?_⟩
  ·simp[execOp,Instr.loadAt,hv,Instr.sureAddr,xH hT hw (by omega:off+ti.size<=c.size) h1]
  ·intro j y hy;rw[X0]at hy;split at hy
   ·rw[Ya]at hy;exact ho _ y hy
   ·cases hy
  ·intro j u y hy hu;rw[X0]at hy;split at hy
   ·rw[Ya]at hy;exact hrr _ u y hu hy
   ·cases hy
theorem HI{g:Nat->Array Value->Prop}{S:Nat->Nat->Prop}{m:Nat->Option Nat}{u:Value}{x:AV}(h:Rep g S dl u x):Rep g S m u x :=
 h.mono (fun _ _ h=>h) (fun _ _ h=>h) (fun k b _ hb=>by cases hb)
theorem Oc{g:Nat->Array Value->Prop}{S:Nat->Nat->Prop}{m:Nat->Option Nat}{u:Value}{x:AV}(h:Rep g S m u x)(hx:x.nm=[]):Rep g S dl u x :=
 h.mono (fun _ _ h=>h) (fun _ _ h=>h) (fun k b hk _=>by have:=hk.mem;rw[hx]at this;cases this)
theorem mh{i n sz:Nat}(h:i<n):i*sz+sz<=n*sz:=by
 have:=XY sz (show i+1<=n from h);rw[Nat.succ_mul]at this;exact this
theorem ez{d:Nat}{x:Operand}{k sz i off:Nat}{es:List AV}{e:AV}{T t:TypeId}{ti:TI}
  (hx:Ev s x (.eptr k sz i off)) (hk:s.blk k=some (.row sz es)) (he:es[i]?=some e) (hT:aC P T=some ti) (hle:Nat.ble (off+ti.size) e.cells.length=true)
  (h1:(ti.ag||Nat.beq ti.size 1)=true) (hN:Nat.blt d N=true) :
  Step P N R s ⟨some d,.load T x,t,pos,after,none⟩ ⟨some (kH ti.ag ((e.cells.drop off).take ti.size)),[],au x,[k]⟩ :=
 dA rfl rfl hN fun s' hag C m a w hr=>by
  rw[Nat.ble_eq]at hle;have h1:ti.ag=true\/ti.size=1:=by simpa using h1
  obtain⟨b,hm,hv⟩:=v5 hr (hx.agree hag (fun _ h=>h));obtain⟨c,t,hw,hn,hl,hs,ho,hrr⟩:=uk hr.heap ((hag.2 k (by simp)).trans hk) hm
  have hi:i<es.length:=by
   rcases XH i es.length with h |h
   ·exact h
   ·rw[XN h]at he;cases he
  have hb:=mh (sz:=sz) hi;have hel:=hs i e he;refine⟨_,?_,vn (c:=c) (off:=i*sz+off) (n:=ti.size) (by simp;omega) oz h1 ?_ ?_⟩
  ·simp[execOp,Instr.loadAt,hv,Instr.sureAddr,xH hT hw (by omega:i*sz+off+ti.size<=c.size) h1]
  ·intro j y hy;rw[X0]at hy;split at hy
   ·rw[Ya]at hy;exact ho i _ e y he hy
   ·cases hy
  ·intro j u y hy hu;rw[X0]at hy;split at hy
   ·rw[Ya]at hy;exact HI (hrr i _ e u y he hy (by rw[<- hu];congr 1;omega))
   ·cases hy
theorem Og{d:Nat}{x:Operand}{xs:List AV}{T t:TypeId}{ti:TI}
  (hx:Ev s x (.iptr xs)) (hT:aC P T=some ti) (hle:(Nat.blt 0 ti.size&&Nat.ble ti.size xs.length)=true)
  (h1:(ti.ag||Nat.beq ti.size 1)=true) (hN:Nat.blt d N=true) :
  Step P N R s ⟨some d,.load T x,t,pos,after,none⟩ ⟨some (kH ti.ag (xs.take ti.size)),[],au x,[]⟩ :=
 dA rfl rfl hN fun s' hag C m a w hr=>by
  simp only[XF,Nat.ble_eq,Nat.blt_eq]at hle;have h1:ti.ag=true\/ti.size=1:=by simpa using h1
  have h:=(hx.agree hag (fun _ h=>h)).rep hr;generalize hv:a.eval x=u at h;cases h with
  | @iptr _ b off cs _ u hb ho hu hrr =>
   obtain⟨_,_,t,f,hw⟩:=hb
   have hsz:off+ti.size<=cs.size:=by
    have hlt:ti.size-1<xs.length:=by omega
    have:=hu (ti.size-1) xs[ti.size-1] (by simp[hlt]);rcases XH (off+(ti.size-1)) cs.size with h |h
    ·omega
    ·rw[Array.getElem?_eq_none h]at this;cases this
   refine⟨_,?_,vn (c:=cs) (off:=off) (n:=ti.size) (by simp;omega) oz h1 ?_ ?_⟩
   ·simp[execOp,Instr.loadAt,hv,Instr.sureAddr,xH hT hw hsz h1]
   ·intro j y hy;rw[X0]at hy;split at hy
    ·exact ho _ y hy
    ·cases hy
   ·intro j u' y hy hu';rw[X0]at hy;split at hy
    ·have:=hu j y hy;rw[hu']at this;cases this
     exact HI (hrr j y hy)
    ·cases hy
theorem x9{T:TypeId}{ti:TI}{f o n:Nat}(hT:aC P T=some ti)(hk:ti.k=.struct)(hf:ti.fs[f]?=some (o,n))(hn:Nat.blt 0 n=true)
  (w:World) (b off:Nat):(Instr.fieldAt T (.pointer (some ⟨b,off,none⟩)) f).run P w=.ok (.pointer (some ⟨b,off+o,none⟩)) w:=by
 rw[Nat.blt_eq]at hn;obtain⟨d2,h2,h3,h4,-⟩:=d9 hT w;obtain⟨fs,rfl⟩:=GM (h3.trans hk);rw[<- h4]at hf;simp only[qW,XE,XB,Array.getElem?_toList]at hf;obtain⟨fl,h5,h6⟩:=hf;cases h6;cases hi:P.info? fl.type with
 |none=>rw[hi]at hn;simp at hn
 |some j =>
  rw[hi]at hn;have hj:¬j.size=0:=by simp only at hn;omega
  simp[Instr.fieldAt,h2,h5,Instr.sureAddr,fieldPlace,sizeOf,typeInfo,hi,hj,iV]
theorem SX{d:Nat}{x:Operand}{k off f o n:Nat}{T t:TypeId}{ti:TI}
  (hx:Ev s x (.ptr k off)) (hT:aC P T=some ti) (hk:ti.k=.struct) (hf:ti.fs[f]?=some (o,n)) (hn:Nat.blt 0 n=true) (hN:Nat.blt d N=true) :
  Step P N R s ⟨some d,.fieldAddr T x f,t,pos,after,none⟩ ⟨some (.ptr k (off+o)),[],au x,[]⟩ :=
 dA rfl rfl hN fun s' hag C m a w hr=>by
  obtain⟨b,hm,hv⟩:=pz hr (hx.agree hag (fun _ h=>h));exact⟨_,by simp[execOp,hv,x9 hT hk hf hn],.ptr hm⟩
theorem SE{d:Nat}{x:Operand}{k sz i off f o n:Nat}{T t:TypeId}{ti:TI}
  (hx:Ev s x (.eptr k sz i off)) (hT:aC P T=some ti) (hk:ti.k=.struct) (hf:ti.fs[f]?=some (o,n)) (hn:Nat.blt 0 n=true) (hN:Nat.blt d N=true) :
  Step P N R s ⟨some d,.fieldAddr T x f,t,pos,after,none⟩ ⟨some (.eptr k sz i (off+o)),[],au x,[]⟩ :=
 dA rfl rfl hN fun s' hag C m a w hr=>by
  obtain⟨b,hm,hv⟩:=v5 hr (hx.agree hag (fun _ h=>h));refine⟨.pointer (some ⟨b,i*sz+(off+o),none⟩),?_,.eptr hm⟩;simp[execOp,hv,x9 hT hk hf hn,Nat.add_assoc]
theorem TZ{d:Nat}{x:Operand}{xs:List AV}{f o n:Nat}{T t:TypeId}{ti:TI}
  (hx:Ev s x (.iptr xs)) (hT:aC P T=some ti) (hk:ti.k=.struct) (hf:ti.fs[f]?=some (o,n)) (hn:Nat.blt 0 n=true) (hN:Nat.blt d N=true) :
  Step P N R s ⟨some d,.fieldAddr T x f,t,pos,after,none⟩ ⟨some (.iptr (xs.drop o)),[],au x,[]⟩ :=
 dA rfl rfl hN fun s' hag C m a w hr=>by
  have h:=(hx.agree hag (fun _ h=>h)).rep hr;generalize hv:a.eval x=u at h;cases h with
  | @iptr _ b off cs _ u hb ho hu hrr =>
   refine⟨_,by simp[execOp,hv,x9 hT hk hf hn];rfl,?_⟩;refine .iptr (fun j=>u (o+j)) hb ?_ ?_ ?_
   ·intro j c hc;rw[Ya]at hc;exact ho _ c hc
   ·intro j c hc;rw[Ya]at hc;rw[Nat.add_assoc];exact hu _ c hc
   ·intro j c hc;rw[Ya]at hc;exact hrr _ c hc
theorem ND{d:Nat}{x ix:Operand}{kk:IntKind}{i:Int}{sz:Nat}{es:List AV}{e:AV}{T E t:TypeId}{ti te:TI}
  (hx:Ev s x (.lst sz es)) (hi:Ev s ix (.v (.int kk i))) (hT:aC P T=some ti) (hk:ti.k=.slice E) (hE:aC P E=some te) (hsz:te.size=sz)
  (h0:0<=i) (he:es[i.toNat]?=some e) (hN:Nat.blt d N=true) :
  Step P N R s ⟨some d,.indexAddr T x ix,t,pos,after,none⟩ ⟨some (.iptr e.cells),[],au x++au ix,[]⟩ :=
 dA rfl rfl hN fun s' hag C m a w hr=>by
  have h:=(hx.agree hag (fun _ h=>List.mem_append.2 (.inl h))).rep hr;have hiv:=mL hr (hi.agree hag (fun _ h=>List.mem_append.2 (.inr h)));obtain⟨d2,h2,h3,-,-⟩:=d9 hT w;obtain rfl:=iG (h3.trans hk)
  have hlt:i.toNat<es.length:=by
   rcases XH i.toNat es.length with h |h
   ·exact h
   ·rw[XN h]at he;cases he
  generalize hv:a.eval x=u at h;cases h with
  |lst0 a cap=>simp at hlt
  | @lst _ b off cap _ _ cs u hb hc hl hs ho hu hrr =>
   have hc1:0<=i/\i<(es.length:Int):=by omega
   subst hsz;refine⟨.pointer (some ⟨b,off+i.toNat*te.size,none⟩),?_,?_⟩
   ·simp[execOp,hv,hiv,Instr.indexAt,asIntOf,h2,hc1,f8 hE,iV]
   ·refine .iptr (fun j=>u i.toNat j) hb (fun j c hc=>ho i.toNat j e c he hc) (fun j c hc=>hu i.toNat j e c he hc) (fun j c hc=>hrr i.toNat j e c he hc)
theorem lW{d:Nat}{x ix:Operand}{kk:IntKind}{i:Int}{k sz off len:Nat}{T E t:TypeId}{ti te:TI}
  (hx:Ev s x (.ms k sz off len)) (hi:Ev s ix (.v (.int kk i))) (hT:aC P T=some ti) (hk:ti.k=.slice E) (hE:aC P E=some te) (hsz:te.size=sz)
  (h0:0<=i) (he:i<(len:Int)) (hN:Nat.blt d N=true) :
  Step P N R s ⟨some d,.indexAddr T x ix,t,pos,after,none⟩ ⟨some (.eptr k sz (off+i.toNat) 0),[],au x++au ix,[]⟩ :=
 dA rfl rfl hN fun s' hag C m a w hr=>by
  have h:=(hx.agree hag (fun _ h=>List.mem_append.2 (.inl h))).rep hr;have hiv:=mL hr (hi.agree hag (fun _ h=>List.mem_append.2 (.inr h)));obtain⟨d2,h2,h3,-,-⟩:=d9 hT w;obtain rfl:=iG (h3.trans hk);generalize hv:a.eval x=u at h;cases h with
  |ms0=>simp at he;omega
  | @ms _ _ _ _ _ cap b hm hc hS =>
   subst hsz;refine⟨.pointer (some ⟨b,(off+i.toNat)*te.size+0,none⟩),?_,.eptr hm⟩;simp[execOp,hv,hiv,Instr.indexAt,asIntOf,h2,h0,he,f8 hE,iV,Nat.add_mul]
theorem uP{d:Nat}{x ix:Operand}{kk:IntKind}{i:Int}{b:ByteArray}{T t:TypeId}{ti:TI}
  (hx:Ev s x (.v (.string b))) (hi:Ev s ix (.v (.int kk i))) (hT:aC P T=some ti) (hk:ti.k=.string)
  (h0:0<=i) (he:i<(b.size:Int)) (hN:Nat.blt d N=true) :
  Step P N R s ⟨some d,.index T x ix,t,pos,after,none⟩ ⟨some (.v (.int .u8 (b.data.getD i.toNat 0).toNat)),[],au x++au ix,[]⟩ :=
 ju hx hi hN fun ρ w h1 h2=>by
  obtain⟨d2,h3,h4,-,-⟩:=d9 hT w;obtain rfl:=Dx (h4.trans hk);have hlt:i.toNat<b.size:=by omega
  have:b[i.toNat]?=some (b.data.getD i.toNat 0):=by
   rw[getElem?_pos b i.toNat hlt,XI,Array.getElem?_eq_getElem (show i.toNat<b.data.size from hlt)];rfl
  simp[execOp,h1,h2,Instr.index,asIntOf,h3,h0,this]
inductive EvI(s:AS):Option Operand->Nat->Nat->Prop
  |none (d:Nat):EvI s none d d
  |some {x:Operand} {k:IntKind} {i:Int} (d:Nat) (h:Ev s x (.v (.int k i))) (h0:0<=i):EvI s (some x) d i.toNat
def sw:Option Operand->List Nat
  |some x=>au x
  |none=>[]
theorem EvI.agree{s':AS}{u:Out}(h:f9 s s' u){o:Option Operand}{d n:Nat}(he:EvI s o d n)(hs:∀t∈sw o,t∈u.rt):EvI s' o d n:=by
 cases he with
 |none=>exact .none _
 |some d h' h0=>exact .some d (h'.agree h hs) h0
theorem EvI.bound{C:Ctx}{m:Nat->Option Nat}{a:Act}{w:World}(hr:RelM C s m a w){x:Operand}{d n y:Nat}(h:EvI s (Option.some x) d n)(hy:n<=y)(code:BoundsCode) :
  (Instr.sliceBound (a.eval x) y code).run P w=.ok n w:=by
 cases h with
 | @some _ k i _ h h0 =>
  have:=mL hr h;have:0<=i/\i<=(y:Int):=by omega
  simp[Instr.sliceBound,asIntOf,mL hr h,this]
theorem vA{C:Ctx}{m:Nat->Option Nat}{a:Act}{w:World}(hr:RelM C s m a w){lo hi:Option Operand}{l h len cap:Nat}(isS:Bool)
  (hl:EvI s lo 0 l) (hh:EvI s hi len h) (h1:l<=h) (h2:h<=cap) :
  (Instr.sliceBounds isS len cap (lo.map a.eval) (hi.map a.eval) none).run P w=.ok (l,h,cap) w:=by
 cases hi with
 |none =>
  cases hh;cases lo with
  |none=>cases hl;simp[Instr.sliceBounds]
  |some x=>simp[Instr.sliceBounds,hl.bound hr h1]
 |some y =>
  cases lo with
  |none=>cases hl;simp[Instr.sliceBounds,hh.bound hr h2]
  |some x=>simp[Instr.sliceBounds,hl.bound hr h1,hh.bound hr h2]
theorem eW{d:Nat}{x:Operand}{lo hi:Option Operand}{l h sz:Nat}{es:List AV}{T E t:TypeId}{ti te:TI}
  (hx:Ev s x (.lst sz es)) (hl:EvI s lo 0 l) (hh:EvI s hi es.length h) (hT:aC P T=some ti) (hk:ti.k=.slice E) (hE:aC P E=some te) (hsz:te.size=sz)
  (h1:l<=h) (h2:h<=es.length) (hN:Nat.blt d N=true) :
  Step P N R s ⟨some d,.slice T x lo hi none,t,pos,after,none⟩ ⟨some (.lst sz ((es.drop l).take (h-l))),[],au x++(sw lo++sw hi),[]⟩ :=
 dA rfl rfl hN fun s' hag C m a w hr=>by
  have hxr:=(hx.agree hag (fun _ h=>List.mem_append.2 (.inl h))).rep hr;have hl':=hl.agree hag (fun _ h=>List.mem_append.2 (.inr (List.mem_append.2 (.inl h))));have hh':=hh.agree hag (fun _ h=>List.mem_append.2 (.inr (List.mem_append.2 (.inr h))));obtain⟨d2,hu,h3,-,-⟩:=d9 hT w;obtain rfl:=iG (h3.trans hk);subst hsz;generalize hv:a.eval x=u at hxr;cases hxr with
  |lst0 a' cap =>
   have:=vA (P:=P) hr (cap:=cap) true hl' hh' h1 (by simp at h2;omega);simp at this h2;have hl0:l=0:=by omega
   refine⟨.slice (if cap=l then a' else a'.map (·.add (l*te.size))) (h-l) (cap-l),?_,?_⟩
   ·simp[execOp,hv,Instr.sliceAt,hu,Instr.slice,this,f8 hE]
   ·simp[h2];exact .lst0 _ _ _
  | @lst _ b off cap _ _ cs u hb hc hml hs ho hu' hrr =>
   have:=vA (P:=P) hr (cap:=cap) true hl' hh' h1 oz;refine⟨.slice (if cap=l then some ⟨b,off,none⟩else some ⟨b,off+l*te.size,none⟩) (h-l) (cap-l),?_,?_⟩
   ·simp[execOp,hv,Instr.sliceAt,hu,Instr.slice,this,f8 hE,iV]
   ·by_cases hlh:l=h
    ·subst hlh;simp;exact .lst0 _ _ _
    ·have hne : ¬ cap = l := by omega
     rw[Yk hne];have hlen:((es.drop l).take (h-l)).length=h-l:=by simp;omega
     have hget:∀(i:Nat)(e:AV),((es.drop l).take (h-l))[i]?=some e->es[l+i]?=some e:=by
      intro i e he;rw[X0]at he;split at he
      ·rwa [Ya]at he
      ·cases he
     have:=Rep.lst (g:=Im C.ext s'.hp m w) (S:=Sz w) (m:=m) (b:=b) (off:=off+l*te.size) (cap:=cap-l) (sz:=te.size) (es:=(es.drop l).take (h-l)) (cs:=cs)
      (fun i j=>u (l+i) j) hb oz oz (fun i e he=>hs _ e (hget i e he)) (fun i j e c he hc=>ho _ j e c (hget i e he) hc)
      (fun i j e c he hc=>by rw[<- hu' (l+i) j e c (hget i e he) hc];congr 1;rw[Nat.add_mul];omega) (fun i j e c he hc=>hrr _ j e c (hget i e he) hc)
     rwa [hlen]at this
theorem wl{d:Nat}{x:Operand}{lo hi:Option Operand}{l h k sz off len:Nat}{T E t:TypeId}{ti te:TI}
  (hx:Ev s x (.ms k sz off len)) (hl:EvI s lo 0 l) (hh:EvI s hi len h) (hT:aC P T=some ti) (hk:ti.k=.slice E) (hE:aC P E=some te) (hsz:te.size=sz)
  (h1:l<=h) (h2:h<=len) (hN:Nat.blt d N=true) :
  Step P N R s ⟨some d,.slice T x lo hi none,t,pos,after,none⟩ ⟨some (.ms k sz (off+l) (h-l)),[],au x++(sw lo++sw hi),[]⟩ :=
 dA rfl rfl hN fun s' hag C m a w hr=>by
  have hxr:=(hx.agree hag (fun _ h=>List.mem_append.2 (.inl h))).rep hr;have hl':=hl.agree hag (fun _ h=>List.mem_append.2 (.inr (List.mem_append.2 (.inl h))));have hh':=hh.agree hag (fun _ h=>List.mem_append.2 (.inr (List.mem_append.2 (.inr h))));obtain⟨d2,hu,h3,-,-⟩:=d9 hT w;obtain rfl:=iG (h3.trans hk);subst hsz;generalize hv:a.eval x=u at hxr;cases hxr with
  |ms0 a' =>
   have:=vA (P:=P) hr (cap:=0) true hl' hh' h1 oz;have hl0:l=0:=by omega
   have hh0:h=0:=by omega
   subst hl0;subst hh0
   exact⟨.slice a' 0 0,by simp[execOp,hv,Instr.sliceAt,hu,Instr.slice,this,f8 hE],.ms0 _ _ _ _⟩
  | @ms _ _ _ _ _ cap b hm hc hS =>
   have:=vA (P:=P) hr (cap:=cap) true hl' hh' h1 oz;refine⟨.slice (if cap=l then some ⟨b,off*te.size,none⟩else some ⟨b,off*te.size+l*te.size,none⟩) (h-l) (cap-l),?_,?_⟩
   ·simp[execOp,hv,Instr.sliceAt,hu,Instr.slice,this,f8 hE,iV]
   ·by_cases hcl:cap=l
    ·subst hcl;have:h - cap = 0:=by omega
     rw[this,Nat.sub_self];exact .ms0 _ _ _ _
    ·rw[Yk hcl,<- Nat.add_mul];exact .ms hm oz (by rw[show off+l+(cap-l)=off+cap by omega];exact hS)
theorem Ls{d:Nat}{x:Operand}{k off:Nat}{t:TypeId}(hx:Ev s x (.ptr k off))(hN:Nat.blt d N=true) :
  Step P N R s ⟨some d,.nilCheck x,t,pos,after,none⟩ ⟨some (.ptr k off),[],au x,[]⟩ :=
 dA rfl rfl hN fun s' hag C m a w hr=>by
  obtain⟨b,hm,hv⟩:=pz hr (hx.agree hag (fun _ h=>h));exact⟨_,by simp[execOp,hv],.ptr hm⟩
inductive EvL(s:AS):List Operand->List AV->Prop
  |nil:EvL s [] []
  |cons {o:Operand} {x:AV} {os:List Operand} {xs:List AV} (h:Ev s o x) (hs:EvL s os xs):EvL s (o::os) (x::xs)
theorem cB{s:AS}{t:Nat}{x:AV}(h:s.get t=some x):EvL s [.tmp t] [x]:=.cons (.tmp h) .nil
theorem bB{s:AS}{t u:Nat}{x y:AV}(h:s.get t=some x)(h2:s.get u=some y):EvL s [.tmp t,.tmp u] [x,y]:=.cons (.tmp h) (cB h2)
theorem aJ{s:AS}{t u v:Nat}{x y z:AV}(h:s.get t=some x)(h2:s.get u=some y)(h3:s.get v=some z):EvL s [.tmp t,.tmp u,.tmp v] [x,y,z]:=.cons (.tmp h) (bB h2 h3)
def eG:List Operand->List Nat
  |[]=>[]
  |o::os=>au o++eG os
theorem EvL.agree{s':AS}{u:Out}(h:f9 s s' u){os:List Operand}{xs:List AV}(he:EvL s os xs)(hs:∀t∈eG os,t∈u.rt):EvL s' os xs:=by
 induction he with
 |nil=>exact .nil
 |cons h1 _ ih=>exact .cons (h1.agree h (fun t ht=>hs t (by simp[eG,ht]))) (ih (fun t ht=>hs t (by simp[eG,ht])))
theorem EvL.length{os:List Operand}{xs:List AV}(he:EvL s os xs):os.length=xs.length:=by
 induction he with
 |nil=>rfl
 |cons _ _ ih=>simp[ih]
theorem EvL.rep{C:Ctx}{m:Nat->Option Nat}{a:Act}{w:World}(hr:RelM C s m a w){os:List Operand}{xs:List AV}(he:EvL s os xs) :
  ∀(j:Nat)(v:Value)(x:AV),(os.map a.eval)[j]?=some v->xs[j]?=some x->Rep (Im C.ext s.hp m w) (Sz w) m v x:=by
 induction he with
 |nil=>intro j v x h;simp at h
 |cons h1 _ ih =>
  intro j v x hv hx;cases j with
  |zero=>simp at hv hx;subst hv;subst hx;exact h1.rep hr
  |succ j=>exact ih j v x (by simpa using hv) (by simpa using hx)
theorem U5{d:Nat}{x:Operand}{xs:List AV}{t:TypeId}(hx:Ev s x (.iptr xs))(hN:Nat.blt d N=true) :
  Step P N R s ⟨some d,.nilCheck x,t,pos,after,none⟩ ⟨some (.iptr xs),[],au x,[]⟩ :=
 dA rfl rfl hN fun s' hag C m a w hr=>by
  have h:=(hx.agree hag (fun _ h=>h)).rep hr;generalize hu:a.eval x=u at h;cases h with
  |iptr u' hb ho hv hrr=>exact⟨_,by simp[execOp,hu],.iptr u' hb ho hv hrr⟩
theorem Ps{d f:Nat}{pre:Array Operand}{xs:List AV}{t:TypeId}(hx:EvL s pre.toList xs)(hnm:(xs.all fun x=>x.nm.isEmpty)=true)(hN:Nat.blt d N=true) :
  Step P N R s ⟨some d,.makeFunc (.func f) pre #[],t,pos,after,none⟩ ⟨some (.cl f xs []),[],eG pre.toList,[]⟩ :=
 dA rfl rfl hN fun s' hag C m a w hr=>by
  have hl:=hx.agree hag (fun _ h=>h);refine⟨.func (.func f) (pre.map a.eval) #[],by simp[execOp,Instr.makeFunc],.cl ?_ ?_ rfl (fun j u c hu hc=>by simp at hc)⟩
  ·have:=hl.length;simpa using this
  ·intro j u c hu hc
   exact (hl.rep hr j u c (by simpa using hu) hc).mono (fun _ _ h => h) (fun _ _ h => h) (fun k b hk => by
    have h1:=List.all_eq_true.1 hnm c (Xx hc);have h2:=hk.mem;simp only[List.isEmpty_iff]at h1;rw[h1]at h2;cases h2)
theorem QK{d f:Nat}{caps:Array Operand}{xs:List AV}{t:TypeId}(hx:EvL s caps.toList xs)(hN:Nat.blt d N=true) :
  Step P N R s ⟨some d,.makeFunc (.func f) #[] caps,t,pos,after,none⟩ ⟨some (.fn f xs),[],eG caps.toList,[]⟩ :=
 dA rfl rfl hN fun s' hag C m a w hr=>by
  have hl:=hx.agree hag (fun _ h=>h);refine⟨.func (.func f) #[] (caps.map a.eval),by simp[execOp,Instr.makeFunc],.fn ?_ ?_⟩
  ·have:=hl.length;simpa using this
  ·intro j u c hu hc;exact hl.rep hr j u c (by simpa using hu) hc
end Go.Lw
namespace Go.Lw
variable{P:Program}{N:Nat}{R:Array Oper}{s:AS}{pos:String}{after:Array Edge}
def dx(g:Nat->Array Value->Prop)(S:Nat->Nat->Prop)(m:Nat->Option Nat)(c:List Value)(l:List AV):Prop :=
  c.length=l.length/\(∀(j:Nat)(x:AV),l[j]?=some x->x.one=true)/\∀(j:Nat)(u:Value)(x:AV),c[j]?=some u->l[j]?=some x->Rep g S m u x
theorem dx.of_zero{g:Nat->Array Value->Prop}{S:Nat->Nat->Prop}{m:Nat->Option Nat}(z:List Value)(h:z.all Value.oneCell'=true) :
  dx g S m z (z.map .v):=by
 refine⟨by simp,?_,?_⟩
 ·intro j x hx;simp only[XE,XB]at hx;obtain⟨v,hv,rfl⟩:=hx;exact List.all_eq_true.1 h v (Xx hv)
 ·intro j u x hu hx;simp only[XE,XB]at hx;obtain⟨v,hv,rfl⟩:=hx;rw[hu]at hv;cases hv
  exact .v _
theorem dx.of_value{g:Nat->Array Value->Prop}{S:Nat->Nat->Prop}{m:Nat->Option Nat}{v:Value}{x:AV}(h:Rep g S m v x)(hx:x.ok=true) :
  dx g S m v.cells.toList x.cells:=by
 obtain⟨h1,h2,h3⟩:=h.cells (AV.ok_spec hx);exact⟨by simpa using h1,h2,fun j u y hu hy=>h3 j u y (by simpa using hu) hy⟩
theorem dx.mono{g g':Nat->Array Value->Prop}{S S':Nat->Nat->Prop}{m m':Nat->Option Nat}{c:List Value}{l:List AV}(h:dx g S m c l)
  (hg:∀b cs,g b cs->g' b cs) (hS:∀b n,S b n->S' b n) (hm:∀x∈l,∀k b,x.Names k->m k=some b->m' k=some b):dx g' S' m' c l :=
 ⟨h.1,h.2.1,fun j u x hu hx=>(h.2.2 j u x hu hx).mono hg hS (fun k b hk hb=>hm x (Xx hx) k b hk hb)⟩
def over{α:Type}(l:List α)(off:Nat)(xs:List α):List α:=l.take off++xs++l.drop (off+xs.length)
theorem ja{α:Type}(l:List α)(off:Nat)(xs:List α)(h:off+xs.length<=l.length)(p:Nat) :
  (over l off xs)[p]?=if p<off then l[p]? else if p<off+xs.length then xs[p-off]? else l[p]? := by
 have h1:(l.take off).length=off:=by simp;omega
 unfold over
 by_cases h2:p<off
 ·rw[Yl h2,Ye,XU oz,X0,Yl h2]
 ·rw[Yk h2]
  by_cases h3:p<off+xs.length
  ·rw[Yl h3,XU (by simp;omega),XT oz,h1]
  ·rw[Yk h3,XT (by simp;omega),Ya];congr 1;simp;omega
theorem sM{α:Type}(l:List α)(off:Nat)(xs:List α)(h:off+xs.length<=l.length):(over l off xs).length=l.length:=by
 simp[over];omega
theorem dx.over{g:Nat->Array Value->Prop}{S:Nat->Nat->Prop}{m:Nat->Option Nat}{c:List Value}{l:List AV}{c':List Value}{l':List AV}{off:Nat}
  (h:dx g S m c l) (h':dx g S m c' l') (hle:off+l'.length<=l.length):dx g S m (over c off c') (Lw.over l off l'):=by
 have e1:=h.1;have e2:=h'.1;refine⟨by rw[sM _ _ _ oz,sM _ _ _ hle,e1],?_,?_⟩
 ·intro j x hx;rw[ja _ _ _ hle]at hx;split at hx
  ·exact h.2.1 j x hx
  ·split at hx
   ·exact h'.2.1 _ x hx
   ·exact h.2.1 j x hx
 ·intro j u x hu hx;rw[ja _ _ _ hle]at hx;rw[ja _ _ _ oz,e2]at hu;split at hx
  ·rename_i hj;rw[Yl hj]at hu;exact h.2.2 j u x hu hx
  ·rename_i hj;rw[Yk hj]at hu
   split at hx
   ·rename_i hj;rw[Yl hj]at hu;exact h'.2.2 _ u x hu hx
   ·rename_i hj;rw[Yk hj]at hu;exact h.2.2 j u x hu hx
theorem sN{o:Oper}{d:Nat}{k:Nat}{x:AV}{y:Blk}{rt rd:List Nat}(hg:o.guard=none)(hd:o.dst=some d)(hN:Nat.blt d N=true)
  (hkrd:k∉rd)
  (h:∀s',f9 s s' ⟨some x,[(k,some y)],rt,rd⟩->s'.Fresh k->∀C m a w,RelM C s' m a w ->
   ∃(v:Value)(c:Array Value)(t:TypeId)(n:Nat),(execOp a.eval o).run P w=.ok (.value v) { w with heap:=w.heap.push (.cells c t),drawn:=n }/\¬y.Names k /\
    (∀(g:Nat->Array Value->Prop)(S:Nat->Nat->Prop)(m':Nat->Option Nat)(w':World),
     (∀b cs,Im C.ext s'.hp m w b cs->g b cs)->(∀b n,Sz w b n->S b n)->(∀k' b,k'≠k->m k'=some b->m' k'=some b) ->
     w'.heap[w.heap.size]?=some (.cells c t (0,0))->BlkRep g S m' w' (some w.heap.size) y) /\
    (∀(g:Nat->Array Value->Prop)(S:Nat->Nat->Prop)(m':Nat->Option Nat),m' k=some w.heap.size->S w.heap.size c.size->Rep g S m' v x)) :
  Step P N R s o ⟨some x,[(k,some y)],rt,rd⟩:=by
 refine⟨fun s' hag hnew C m a w Q next hC hr hnext=>?_⟩;rw[Yl (lZ hg _)];refine sj ?_
 have hfr:s'.Fresh k:=by
  rcases hnew k (by simp)with h |h
  ·exact absurd h hkrd
  ·exact h
 obtain⟨v,c,t,n,h1,h2,h3,h4⟩:=h s' hag hfr C m a w hr;rw[Nat.blt_eq]at hN;unfold Oper.wp;rw[h1];simp only[Oper.upon,hd,Act.put];refine hnext (fun k'=>if k'=k then some w.heap.size else m k') _ _ ?_;have hr1:=(hr.alloc hfr (.cells c t) y h2 h3).drawn n
 have:=hr1.put d v (some x) (fun z hz=>by
  cases hz;refine⟨by have:=hr.nt;omega,h4 _ _ _ (Yl rfl) ⟨c,t,(0,0),?_,XD _⟩⟩;show(w.heap.push _)[w.heap.size]?=_;simp)
 simpa[AS.app,hd]using this
theorem Dj{ext:Nat->Prop}{hp:Hp}{m:Nat->Option Nat}{w:World}{c:Array Value}{l:List AV}{t:TypeId}{k:Nat}
  (h:dx (Im ext hp m w) (Sz w) m c.toList l) (hk:∀x∈l,¬x.Names k)
  {g:Nat->Array Value->Prop} {S:Nat->Nat->Prop} {m':Nat->Option Nat} {w':World}
  (hg:∀b cs,Im ext hp m w b cs->g b cs) (hS:∀b n,Sz w b n->S b n) (hm:∀k' b,k'≠k->m k'=some b->m' k'=some b)
  (hw:w'.heap[w.heap.size]?=some (.cells c t (0,0))):BlkRep g S m' w' (some w.heap.size) (.box l):=by
 have h':=h.mono hg hS (m':=m') (fun x hx k' b hn hb=>hm k' b (fun e=>hk x hx (e▸hn)) hb);exact .box hw (by simpa using h'.1) h'.2.1 (fun j u x hu hx=>h'.2.2 j u x (by simpa using hu) hx)
theorem Kb{d:Nat}{T t:TypeId}{ti:TI}(hT:aC P T=some ti)(hz:ti.zero.all Value.oneCell'=true)(hN:Nat.blt d N=true) :
  Step P N R s ⟨some d,.alloc T,t,pos,after,none⟩ ⟨some (.ptr d 0),[(d,some (.box (ti.zero.map .v)))],[],[]⟩ :=
 sN rfl rfl hN (by simp) fun s' hag hfr C m a w hr => by
  obtain⟨z,h1,h2⟩:=tt hT w;have hc:dx (Im C.ext s'.hp m w) (Sz w) m z.cells.toList (ti.zero.map .v):=by rw[h2];exact .of_zero _ hz
  refine⟨.pointer (some ⟨w.heap.size,0,none⟩),z.cells,T,w.drawn,?_,?_,?_,fun g S m' hm _=>.ptr hm⟩
  ·simp[execOp,Instr.alloc,h1,newVar,newRow]
  ·rintro⟨c,hc,hn⟩;simp only[List.mem_map]at hc;obtain⟨v,_,rfl⟩:=hc;cases hn
  ·intro g S m' w' hg hS hm hw;refine Dj hc ?_ hg hS hm hw;rintro x hx hn;simp only[List.mem_map]at hx;obtain⟨v,_,rfl⟩:=hx;cases hn
theorem Ev.fresh{x:Operand}{v:AV}{k:Nat}(h:Ev s x v)(hf:s.Fresh k):¬v.Names k:=by
 cases h with
 |tmp h=>exact hf.2.2.1 _ _ h
 |opt h _=>intro hn;exact hf.2.2.1 _ _ h (.opt hn)
 |const=>intro hn;cases hn
 |func=>intro hn;cases hn
theorem Uj{x c:AV}{k:Nat}(hc:c∈x.cells)(hn:c.Names k):x.Names k:=by
 cases x <;> simp only[AV.cells,List.mem_singleton]at hc <;> first
  |(subst hc;exact hn)
  |exact .agg hc hn
theorem MA{d:Nat}{x:Operand}{v:AV}{T t:TypeId}(hx:Ev s x v)(hv:v.ok=true)(hN:Nat.blt d N=true) :
  Step P N R s ⟨some d,.box T x,t,pos,after,none⟩ ⟨some (.ptr d 0),[(d,some (.box v.cells))],au x,[]⟩ :=
 sN rfl rfl hN (by simp) fun s' hag hfr C m a w hr => by
  have hx':=hx.agree hag (fun _ h=>h);have hc:=dx.of_value (hx'.rep hr) hv;have hno:∀c∈v.cells,¬c.Names d:=fun c hc hn=>hx'.fresh hfr (Uj hc hn)
  refine⟨.pointer (some ⟨w.heap.size,0,none⟩),(a.eval x).cells,T,w.drawn,?_,?_,?_,fun g S m' hm _=>.ptr hm⟩
  ·simp[execOp,Instr.box,newVar,newRow]
  ·rintro⟨c,hc,hn⟩;exact hno c hc hn
  ·intro g S m' w' hg hS hm hw;exact Dj hc hno hg hS hm hw
theorem ww{w:World}{b:Nat}{o:Obj}(hb:w.heap[b]?=some o):b<w.heap.size:=by
 rcases XH b w.heap.size with h |h
 ·exact h
 ·rw[Array.getElem?_eq_none h]at hb;cases hb
theorem Wl{w:World}{b i:Nat}{c:Array Value}{t:TypeId}{v:Value}(hb:w.heap[b]?=some (.cells c t (0,0))) :
  w.setCell ⟨b,i,none⟩ v={ w with heap:=w.heap.setIfInBounds b (.cells (c.setIfInBounds i v) t (0,0)) }:=by
 have hlt:=ww hb;unfold World.setCell;congr 1;apply Array.ext_getElem?;intro j;rw[Array.getElem?_setIfInBounds,Array.getElem?_modify]
 by_cases h:b=j
 ·subst h;rw[Yl rfl,Yl rfl,Yl hlt,hb];rfl
 ·rw[Yk h,Yk h]
theorem C8{α:Type}(l:List α)(n:Nat)(v:α)(vs:List α)(h:n+(vs.length+1)<=l.length) :
  over (l.set n v) (n+1) vs=over l n (v::vs):=by
 apply List.ext_getElem?;intro p;rw[ja _ _ _ (by simp;omega),ja _ _ _ (by simpa using h),List.getElem?_set];simp only[XK]
 by_cases h1:p<n
 ·rw[Yl oz,Yk oz,Yl h1]
 ·by_cases h2:p=n
  ·subst h2;rw[Yl oz,Yl rfl,Yl oz,Yk oz,Yl oz,Nat.sub_self];rfl
  ·by_cases h3:p<n+1+vs.length
   ·rw[Yk oz,Yl h3,Yk oz,Yl oz,show p-n=p-(n+1)+1 by omega,List.getElem?_cons_succ]
   ·rw[Yk oz,Yk h3,Yk oz,Yk h1,Yk oz]
theorem B2{b:Nat}{t:TypeId}:∀(vs:List Value)(c:Array Value)(w:World)(off i:Nat),w.heap[b]?=some (.cells c t (0,0)) ->
  off+i+vs.length<=c.size->(∀v∈vs,v.oneCell'=true) ->
  (storeCells ⟨b,off,none⟩ vs i).run P w=.ok () { w with heap:=w.heap.setIfInBounds b (.cells (over c.toList (off+i) vs).toArray t (0,0)) }:=by
 intro vs
 induction vs with
 |nil =>
  intro c w off i hb hle _;have hlt:=ww hb
  have:w.heap.setIfInBounds b (.cells (over c.toList (off+i) []).toArray t (0,0))=w.heap:=by
   apply Array.ext_getElem?;intro j;rw[Array.getElem?_setIfInBounds];split
   ·subst_vars;rw[hb];simp[over]
   ·rfl
  simp[storeCells,this]
 |cons v vs ih =>
  intro c w off i hb hle hv;have hlt:=ww hb;simp only[XK]at hle
  have h1:(store ((⟨b,off,none⟩:Addr).add i) v).run P w=.ok () (w.setCell ⟨b,off+i,none⟩ v):=by
   rw[iV,run_store P w _ v .plain (hv v (by simp)),rc hb];have:off+i<c.size:=by omega
   simp[Array.getElem?_eq_getElem this,World.frozen?,hb]
  rw[storeCells,Sem.run_bind,h1,Result.andThen_ok,Wl hb]
  have hb':(w.heap.setIfInBounds b (.cells (c.setIfInBounds (off+i) v) t (0,0)))[b]?=some (.cells (c.setIfInBounds (off+i) v) t (0,0)):=by
   rw[Array.getElem?_setIfInBounds,Yl rfl,Yl hlt]
  rw[ih (c.setIfInBounds (off+i) v) _ off (i+1) hb' (by simp;omega) (fun v hm=>hv v (by simp[hm]))];congr 2;rw[Array.setIfInBounds_setIfInBounds];congr 3;rw[Array.toList_setIfInBounds,show off+(i+1)=off+i+1 by omega,C8 _ _ _ _ (by simp;omega)]
theorem x5{T:TypeId}{ti:TI}{w:World}{b off:Nat}{t:TypeId}{c:Array Value}{v:Value}(hT:aC P T=some ti)(hb:w.heap[b]?=some (.cells c t (0,0)))
  (hsz:v.cells.size=ti.size) (hle:off+ti.size<=c.size) (hv:∀x∈v.cells.toList,x.oneCell'=true) :
  (storeVar T ⟨b,off,none⟩ v).run P w=.ok () { w with heap:=w.heap.setIfInBounds b (.cells (over c.toList off v.cells.toList).toArray t (0,0)) }:=by
 have:=B2 (P:=P) v.cells.toList c w off 0 hb (by simp;omega) hv;simp only[Nat.add_zero]at this;simp[storeVar,f8 hT,hsz,this]
theorem BZ{o:Oper}{k:Nat}{y y':Blk}{rt rd:List Nat}(hg:o.guard=none)(hd:o.dst=none)(hkrd:k∈rd)(hk:s.blk k=some y)
  (h:∀s',f9 s s' ⟨none,[(k,some y')],rt,rd⟩->∀C m a w,RelM C s' m a w ->
   ∃(b:Nat)(c c':Array Value)(t:TypeId),m k=some b/\w.heap[b]?=some (.cells c t (0,0))/\c'.size=c.size /\
    (execOp a.eval o).run P w=.ok .skip { w with heap:=w.heap.setIfInBounds b (.cells c' t (0,0)) } /\
    ∀(g:Nat->Array Value->Prop)(S:Nat->Nat->Prop)(w':World),
     (∀b cs,Im C.ext s'.hp m w b cs->g b cs)->(∀b n,Sz w b n->S b n)->w'.heap[b]?=some (.cells c' t (0,0))->BlkRep g S m w' (some b) y') :
  Step P N R s o ⟨none,[(k,some y')],rt,rd⟩:=by
 refine⟨fun s' hag hnew C m a w Q next hC hr hnext=>?_⟩;rw[Yl (lZ hg _)];refine sj ?_;obtain⟨b,c,c',t,hm,hb,hsz,h1,h2⟩:=h s' hag C m a w hr;unfold Oper.wp;rw[h1];simp only[Oper.upon,hd,Act.put];refine hnext m _ _ ?_;have:=hr.write (x':=y') ((hag.2 k hkrd).trans hk) hm hb hsz rfl (fun g S hg hS hw=>h2 g S _ hg hS hw);simpa[AS.app,hd]using this
theorem IR{g:Nat->Array Value->Prop}{S:Nat->Nat->Prop}{m:Nat->Option Nat}{v:Value}{x:AV}(h:Rep g S m v x)(hx:x.ok=true) :
  ∀u∈v.cells.toList,u.oneCell'=true:=by
 have hc:=dx.of_value h hx;intro u hu;obtain⟨j,hj,rfl⟩:=List.mem_iff_getElem.1 hu;have hj':j<x.cells.length:=by rw[<- hc.1];exact hj
 exact(hc.2.2 j _ _ (XC hj) (XC hj')).one (hc.2.1 j _ (XC hj'))
theorem Eb{x y:Operand}{k off:Nat}{cs:List AV}{v:AV}{T t:TypeId}{ti:TI}
  (hx:Ev s x (.ptr k off)) (hk:s.blk k=some (.box cs)) (hy:Ev s y v) (hv:v.ok=true) (hT:aC P T=some ti) (hsz:Nat.beq v.cells.length ti.size=true)
  (hle:Nat.ble (off+ti.size) cs.length=true) :
  Step P N R s ⟨none,.store T x y,t,pos,after,none⟩ ⟨none,[(k,some (.box (over cs off v.cells)))],au x++au y,[k]⟩ :=
 BZ rfl rfl (by simp) hk fun s' hag C m a w hr => by
  rw[Nat.ble_eq]at hle;have hsz:=XG hsz;obtain⟨b,hm,hxv⟩:=pz hr (hx.agree hag (fun _ h=>List.mem_append.2 (.inl h)));have hyr:=(hy.agree hag (fun _ h=>List.mem_append.2 (.inr h))).rep hr;obtain⟨c,t,hw,hn,ho,hrr⟩:=wW hr.heap ((hag.2 k (by simp)).trans hk) hm;have hc:=dx.of_value hyr hv;have hcl:(a.eval y).cells.size=ti.size:=by have:=hc.1;simp at this;omega
  have h0:dx (Im C.ext s'.hp m w) (Sz w) m c.toList cs:=⟨by simpa using hn,ho,fun j u x hu hx=>hrr j u x (by simpa using hu) hx⟩
  have h1:=h0.over hc (off:=off) oz;refine⟨b,c,(over c.toList off (a.eval y).cells.toList).toArray,t,hm,hw,?_,?_,?_⟩
  ·simp[over];omega
  ·have hrun:=x5 (P:=P) (off:=off) hT hw hcl oz (IR hyr hv);simp[execOp,Instr.storeAt,hxv,Instr.sureAddr,hrun]
  ·intro g S w' hg hS hw';have h2:=h1.mono hg hS (m':=m) (fun _ _ _ _ _ h=>h);exact .box hw' (by simpa using h2.1) h2.2.1 (fun j u x hu hx=>h2.2.2 j u x (by simpa using hu) hx)
theorem Jg{x y:Operand}{k sz i off:Nat}{es:List AV}{e e' v:AV}{T t:TypeId}{ti:TI}
  (hx:Ev s x (.eptr k sz i off)) (hk:s.blk k=some (.row sz es)) (he:es[i]?=some e) (hy:Ev s y v) (hv:v.ok=true) (hnm:v.nm=[]) (hT:aC P T=some ti)
  (hsz:Nat.beq v.cells.length ti.size=true) (hle:Nat.ble (off+ti.size) e.cells.length=true) (he':e'.cells=over e.cells off v.cells) :
  Step P N R s ⟨none,.store T x y,t,pos,after,none⟩ ⟨none,[(k,some (.row sz (es.set i e')))],au x++au y,[k]⟩ :=
 BZ rfl rfl (by simp) hk fun s' hag C m a w hr => by
  rw[Nat.ble_eq]at hle;have hsz:=XG hsz;obtain⟨b,hm,hxv⟩:=v5 hr (hx.agree hag (fun _ h=>List.mem_append.2 (.inl h)));have hyr:=(hy.agree hag (fun _ h=>List.mem_append.2 (.inr h))).rep hr;obtain⟨c,t,hw,hn,hl,hs,ho,hrr⟩:=uk hr.heap ((hag.2 k (by simp)).trans hk) hm;have hc:=dx.of_value (Oc hyr hnm) hv;have hcl:(a.eval y).cells.size=ti.size:=by have:=hc.1;simp at this;omega
  have hi:i<es.length:=by
   rcases XH i es.length with h |h
   ·exact h
   ·rw[XN h]at he;cases he
  have hb:=mh (sz:=sz) hi;have hel:=hs i e he;have hel':e'.cells.length=sz:=by rw[he',sM _ _ _ oz,hel]
  refine⟨b,c,(over c.toList (i*sz+off) (a.eval y).cells.toList).toArray,t,hm,hw,?_,?_,?_⟩
  ·simp[over];omega
  ·have hrun:=x5 (P:=P) (off:=i*sz+off) hT hw hcl oz (IR hyr hv);simp[execOp,Instr.storeAt,hxv,Instr.sureAddr,hrun]
  ·intro g S w' hg hS hw'
   have hset:∀(i':Nat)(e2:AV),(es.set i e')[i']?=some e2->(i'=i/\e2=e')\/(i'≠i/\es[i']?=some e2):=by
    intro i' e2 h;rw[List.getElem?_set]at h;split at h
    ·rename_i hii;subst hii
     cases h;exact .inl ⟨rfl,rfl⟩
    ·rename_i hii;exact .inr ⟨fun e=>hii e.symm,h⟩
   have hcell:∀(j:Nat)(z:AV),e'.cells[j]?=some z->z.one=true/\∀u,(over c.toList (i*sz+off) (a.eval y).cells.toList)[i*sz+j]?=some u->Rep (Im C.ext s'.hp m w) (Sz w) dl u z:=by
    intro j z hz
    have hjs:j<sz:=by
     rw[<- hel'];rcases XH j e'.cells.length with h |h
     ·exact h
     ·rw[XN h]at hz;cases hz
    rw[he',ja _ _ _ oz]at hz;have hlc:i*sz+off+(a.eval y).cells.toList.length<=c.toList.length:=by simp;omega
    split at hz
    ·rename_i h1;refine⟨ho i j e z he hz,fun u hu=>?_⟩;rw[ja _ _ _ hlc,Yl oz]at hu;exact hrr i j e u z he hz (by simpa using hu)
    ·rename_i h1;split at hz
     ·rename_i h2;refine⟨hc.2.1 _ z hz,fun u hu=>?_⟩;rw[ja _ _ _ hlc,Yk oz,Yl (by simp;omega)]at hu;refine hc.2.2 _ u z ?_ hz;rw[<- hu];congr 1;omega
     ·rename_i h2;refine⟨ho i j e z he hz,fun u hu=>?_⟩;rw[ja _ _ _ hlc,Yk oz,Yk (by simp;omega)]at hu;exact hrr i j e u z he hz (by simpa using hu)
   refine .row hw' (by simp[over];omega) (by simpa using hl) ?_ ?_ ?_
   ·intro i' e2 h;rcases hset i' e2 h with⟨rfl,rfl⟩ |⟨_,h⟩
    ·exact hel'
    ·exact hs i' e2 h
   ·intro i' j e2 z h hz;rcases hset i' e2 h with⟨rfl,rfl⟩ |⟨_,h⟩
    ·exact(hcell j z hz).1
    ·exact ho i' j e2 z h hz
   ·intro i' j e2 u z h hz hu;refine Rep.mono hg hS ?_ (fun _ _ _ h=>h);rcases hset i' e2 h with⟨rfl,rfl⟩ |⟨hne,h⟩
    ·exact(hcell j z hz).2 u (by simpa using hu)
    ·have hlc : i * sz + off + (a.eval y).cells.toList.length <= c.toList.length := by simp; omega
     have hj:j<sz:=by
      rw[<- hs i' e2 h];rcases XH j e2.cells.length with h |h
      ·exact h
      ·rw[XN h]at hz;cases hz
     have hu':(over c.toList (i*sz+off) (a.eval y).cells.toList)[i'*sz+j]?=some u:=by simpa using hu
     rw[ja _ _ _ hlc]at hu'
     have hcu:c.toList[i'*sz+j]?=some u:=by
      rcases XH i' i with hlt |hge
      ·have:=mh (sz:=sz) hlt
       rwa [Yl oz]at hu'
      ·have := mh (sz := sz) (show i < i' by omega)
       rwa [Yk oz,Yk (by simp;omega)]at hu'
     exact hrr i' j e2 u z h hz (by simpa using hcu)
end Go.Lw
namespace Go.Lw
variable{P:Program}{N:Nat}{R:Array Oper}{s:AS}{pos:String}{after:Array Edge}
theorem CU:∀(l:List Value)(n off:Nat)(arr:Array Value),off+n+l.length<=arr.size ->
  ((l.zipIdx n).foldl (fun cs p=>cs.setIfInBounds (off+p.2) p.1) arr).toList=over arr.toList (off+n) l:=by
 intro l
 induction l with
 |nil=>intro n off arr h;simp[over]
 |cons v l ih =>
  intro n off arr h;simp only[XK]at h;simp only[List.zipIdx_cons,foldl_cons];rw[ih (n+1) off _ (by simp;omega),Array.toList_setIfInBounds,show off+(n+1)=off+n+1 by omega,C8 _ _ _ _ (by simp;omega)]
def tP(place:Nat->Option (Nat×Nat)):List AV->List (Nat×AV)->Option (List AV)
  |l,[]=>some l
  |l,(i,x)::r=>match place i with
    |some (off,n)=>match Nat.beq x.cells.length n&&Nat.ble (off+n) l.length&&x.ok with
      |true=>tP place (over l off x.cells) r
      |false=>none
    |none=>none
inductive EvP(s:AS):List (Nat×Operand)->List (Nat×AV)->Prop
  |nil:EvP s [] []
  |cons {i:Nat} {o:Operand} {x:AV} {os:List (Nat×Operand)} {xs:List (Nat×AV)} (h:Ev s o x) (hs:EvP s os xs):EvP s ((i,o)::os) ((i,x)::xs)
def qS:List (Nat×Operand)->List Nat
  |[]=>[]
  |(_,o)::os=>au o++qS os
theorem EvP.agree{s':AS}{u:Out}(h:f9 s s' u){os:List (Nat×Operand)}{xs:List (Nat×AV)}(he:EvP s os xs)(hs:∀t∈qS os,t∈u.rt):EvP s' os xs:=by
 induction he with
 |nil=>exact .nil
 |cons h1 _ ih=>exact .cons (h1.agree h (fun t ht=>hs t (by simp[qS,ht]))) (ih (fun t ht=>hs t (by simp[qS,ht])))
theorem Ts{g:Nat->Array Value->Prop}{S:Nat->Nat->Prop}{mm:Nat->Option Nat}{ev:Operand->Value}{place:Nat->Option (Nat×Nat)}
  {os:List (Nat×Operand)} {xs:List (Nat×AV)} (hp:EvP s os xs) (hev:∀o x,Ev s o x->Rep g S mm (ev o) x) :
  ∀(c:Array Value)(l l':List AV),dx g S mm c.toList l->tP place l xs=some l' ->
   ∃c',Instr.fill place c (os.map fun p=>(p.1,ev p.2))=some c'/\dx g S mm c'.toList l':=by
 induction hp with
 |nil=>intro c l l' h hf;cases hf;exact⟨c,rfl,h⟩
 | @cons i o x os xs h1 _ ih =>
  intro c l l' h hf;unfold tP at hf;split at hf
  ·rename_i off n hpl;split at hf
   ·rename_i hc;simp only [XF,Nat.ble_eq] at hc;obtain ⟨⟨hc1,hc2⟩,hc3⟩:=hc;have hc1:=XG hc1;have hx:=dx.of_value (hev o x h1) hc3;have hlen:(ev o).cells.size = n:=by have:=hx.1; simp at this; omega
    have hcl:c.size=l.length:=by have:=h.1;simpa using this
    have hov:=h.over hx (off:=off) oz;have hfo:=CU (ev o).cells.toList 0 off c (by simp;omega);simp only[Nat.add_zero]at hfo;obtain⟨c',h2,h3⟩:=ih ((((ev o).cells.toList.zipIdx 0).foldl (fun cs p=>cs.setIfInBounds (off+p.2) p.1) c)) _ l' (by rw[hfo];exact hov) hf;refine⟨c',?_,h3⟩;rw[<- h2];simp only[Yi,Instr.fill,hpl];rw[Yk (by simp;omega)];congr 1;rw[<- Array.foldl_toList,Array.toList_zipIdx]
   ·cases hf
  ·cases hf
theorem JV{α β:Type}{w:World}(f:α->Sem β)(g:α->β):∀(l:List α),(∀x∈l,(f x).run P w=.ok (g x) w)->(l.mapM f).run P w=.ok (l.map g) w:=by
 intro l
 induction l with
 |nil=>intro _;simp
 |cons x l ih =>
  intro h;simp[List.mapM_cons,h x (by simp),ih (fun y hy=>h y (by simp[hy]))]
theorem NY{d:Nat}{parts:Array (Nat×Operand)}{xs:List (Nat×AV)}{l:List AV}{T t:TypeId}{ti:TI}
  (hx:EvP s parts.toList xs) (hT:aC P T=some ti) (hk:ti.k=.struct) (hz:ti.zero.all Value.oneCell'=true) (hp:(ti.fs.all fun p=>Nat.blt 0 p.2)=true)
  (hl:tP (fun i=>ti.fs[i]?) (ti.zero.map .v) xs=some l) (hN:Nat.blt d N=true) :
  Step P N R s ⟨some d,.build T parts,t,pos,after,none⟩ ⟨some (.agg l),[],qS parts.toList,[]⟩ :=
 dA rfl rfl hN fun s' hag C m a w hr=>by
  have hx':=hx.agree hag (fun _ h=>h);obtain⟨z,h1,h2⟩:=tt hT w;obtain⟨d2,h3,h4,h5,-⟩:=d9 hT w;obtain⟨fs,rfl⟩:=GM (h4.trans hk);have hz0:dx (Im C.ext s'.hp m w) (Sz w) m z.cells.toList (ti.zero.map .v):=by rw[h2];exact .of_zero _ hz
  obtain⟨c',h6,h7⟩:=Ts (place:=fun i=>ti.fs[i]?) hx' (fun o x h=>h.rep hr) z.cells _ l hz0 hl
  have hm:(fs.mapM fun f=>(do pure (f.offset,<- sizeOf f.type):Sem (Nat×Nat))).run P w=.ok ti.fs.toArray w:=by
   rw[Array.mapM_eq_mapM_toList];simp only[Sem.run_map];rw[JV _ (fun f=>(f.offset,match P.info? f.type with |some j=>j.size |none=>0))]
   ·simp only[Result.andThen_ok,<- h5,qW] <;> rfl
   ·intro f hf
    have:(f.offset,match P.info? f.type with |some j=>j.size |none=>0)∈ti.fs:=by
     rw[<- h5];simp only[qW,List.mem_map];exact⟨f,hf,rfl⟩
    have:=List.all_eq_true.1 hp _ this;simp only[Nat.blt_eq]at this;cases hi:P.info? f.type with
    |none=>rw[hi]at this;simp at this
    |some j=>simp[sizeOf,typeInfo,hi]
  refine⟨.agg c',?_,.agg (by simpa using h7.1) h7.2.1 (fun j u x hu hx=>h7.2.2 j u x (by simpa using hu) hx)⟩;have hpl:(fun x:Nat=>ti.fs.toArray[x]?)=fun i:Nat=>ti.fs[i]?:=by funext i;simp
  have hpm:(parts.map fun p=>(p.1,a.eval p.2)).toList=parts.toList.map fun p=>(p.1,a.eval p.2):=by simp
  have hb:(Instr.build T (parts.map fun p=>(p.1,a.eval p.2))).run P w=.ok (.agg c') w:=by
   simp only[Instr.build,Sem.run_bind,h1,Result.andThen_ok,h3,hm,hpl,hpm,h6,Sem.run_pure]
  simp only[execOp,Sem.run_bind,hb,Result.andThen_ok,Sem.run_pure]
theorem Xo{o:Oper}{d:Nat}{x:AV}{rt rd:List Nat}(hg:o.guard=none)(hd:o.dst=some d)(hN:Nat.blt d N=true)
  (h:∀s',f9 s s' ⟨some x,[],rt,rd⟩->∀C m a w,RelM C s' m a w ->
   ∃(v:Value)(c:Array Value)(t:TypeId),(execOp a.eval o).run P w=.ok (.value v) { w with heap:=w.heap.push (.cells c t) } /\
    (∀(g:Nat->Array Value->Prop)(S:Nat->Nat->Prop),(∀b cs,Im C.ext s'.hp m w b cs->g b cs)->(∀b n,Sz w b n->S b n)->g w.heap.size c->Rep g S m v x)) :
  Step P N R s o ⟨some x,[],rt,rd⟩:=by
 refine⟨fun s' hag _ C m a w Q next hC hr hnext=>?_⟩;rw[Yl (lZ hg _)];refine sj ?_;obtain⟨v,c,t,h1,h2⟩:=h s' hag C m a w hr;rw[Nat.blt_eq]at hN;unfold Oper.wp;rw[h1];simp only[Oper.upon,hd,Act.put];refine hnext m _ _ ?_;have hf:=Bm (a9 s'.hp m) w (.cells c t);have hal:∀k' y b',lk s'.hp k'=some y->m k'=some b'->a9 s'.hp m b'\/w.heap.size<=b':=fun k' y b' h1 h2=>.inl ⟨k',y,h1,h2⟩
 have hr1:RelM C s' m a { w with heap:=w.heap.push (.cells c t) }:=by
  refine hr.update hf (fun t y k' b' _ _ hb'=>hb') hal (fun k' y _ hy=>⟨⟨y,hy⟩,rfl⟩) ⟨?_,hr.heap.inj,?_⟩
  ·intro k y hk;refine BlkRep.mono (eU hf hal) hf.sz (fun _ _ _ h=>h) rfl ?_ (hr.heap.blk k y hk);intro b hb;have:=(hr.heap.sep k y b hk hb).2;show(w.heap.push _)[b]?=_;rw[Array.getElem?_push,Yk oz]
  ·intro k y b hk hb;have:=hr.heap.sep k y b hk hb;refine⟨this.1,?_⟩;have:=this.2;simp;omega
 have:=hr1.put d v (some x) (fun z hz=>by
  cases hz;refine⟨by have:=hr.nt;omega,h2 _ _ (eU hf hal) hf.sz ⟨fun hc=>?_,?_,t,(0,0),?_⟩⟩
  ·have:=hr.ext_lt hc;omega
  ·rintro⟨k,y,hk,hb⟩;have:=(hr.heap.sep k y _ hk hb).2;omega
  ·show(w.heap.push _)[w.heap.size]?=_;simp)
 simpa[AS.app,hd]using this
end Go.Lw
namespace Go.Lw
variable{P:Program}{N:Nat}{R:Array Oper}{s:AS}{pos:String}{after:Array Edge}
def gq:List AV->List AV
  |[]=>[]
  |e::es=>e.cells++gq es
theorem CM{sz:Nat}:∀(es:List AV),(∀e∈es,e.cells.length=sz)->(gq es).length=es.length*sz
 |[],_=>by simp[gq]
 |e::es,h=>by
  simp only[gq,XZ,XK,h e (by simp),CM es (fun e he=>h e (by simp[he])),Nat.succ_mul];omega
theorem GF{sz:Nat}:∀(es:List AV),(∀e∈es,e.cells.length=sz)->∀(i j:Nat)(e x:AV),es[i]?=some e->e.cells[j]?=some x->(gq es)[i*sz+j]?=some x
 |[],_,i,j,e,x,h,_=>by simp at h
 |e0::es,h,0,j,e,x,he,hx=>by
  simp at he;subst he
  have hj:j<e0.cells.length:=by
   rcases XH j e0.cells.length with h |h
   ·exact h
   ·rw[XN h]at hx;cases hx
  simp only[gq,Nat.zero_mul,Nat.zero_add];rw[XU hj,hx]
 |e0::es,h,i+1,j,e,x,he,hx=>by
  have h0:=h e0 (by simp);simp only[gq,Nat.succ_mul];rw[XT oz,h0,show i*sz+sz+j-sz=i*sz+j by omega];exact GF es (fun e he=>h e (by simp[he])) i j e x (by simpa using he) hx
def mt(n:Nat):List Operand->List (Nat×Operand)
  |[]=>[]
  |o::os=>(n,o)::mt (n+1) os
theorem TH{g:Nat->Array Value->Prop}{S:Nat->Nat->Prop}{mm:Nat->Option Nat}{ev:Operand->Value}{sz:Nat}
  (hev:∀o x,Ev s o x->Rep g S mm (ev o) x):∀(os:List Operand)(es:List AV),EvL s os es->(es.all fun e=>Nat.beq e.cells.length sz&&e.ok)=true ->
   ∀(n:Nat)(c:Array Value)(A Z:List AV),A.length=n*sz->Z.length=es.length*sz->dx g S mm c.toList (A++Z) ->
    ∃c',Instr.fill (fun i=>some (i*sz,sz)) c ((mt n os).map fun p=>(p.1,ev p.2))=some c'/\dx g S mm c'.toList (A++gq es):=by
 intro os es hl
 induction hl with
 |nil =>
  intro _ n c A Z hA hZ hc;have:Z=[]:=by simpa using hZ
  subst this;exact⟨c,rfl,by simpa[gq]using hc⟩
 | @cons o x os xs h1 _ ih =>
  intro hes n c A Z hA hZ hc;simp only[List.all_cons,XF]at hes;obtain⟨⟨hx1,hx2⟩,hes⟩:=hes;have hx1:=XG hx1;have hx:=dx.of_value (hev o x h1) hx2;have hlen:(ev o).cells.size=sz:=by have:=hx.1;simp at this;omega
  simp only[XK,Nat.succ_mul]at hZ;have hcl:c.size=A.length+Z.length:=by have:=hc.1;simpa using this
  have hov:=hc.over hx (off:=n*sz) (by simp;omega)
  have hoe:over (A++Z) (n*sz) x.cells=(A++x.cells)++Z.drop sz:=by
   unfold over;rw[<- hA,List.take_left,hx1,List.drop_append,X2 oz,show A.length+sz-A.length=sz by omega,nil_append]
  rw[hoe]at hov;have hfo:=CU (ev o).cells.toList 0 (n*sz) c (by simp;omega);simp only[Nat.add_zero]at hfo
  obtain⟨c',h2,h3⟩:=ih hes (n+1) ((((ev o).cells.toList.zipIdx 0).foldl (fun cs p=>cs.setIfInBounds (n*sz+p.2) p.1) c)) (A++x.cells) (Z.drop sz)
   (by simp[Nat.succ_mul];omega) (by simp;omega) (by rw[hfo];exact hov)
  refine⟨c',?_,by simpa[gq,Ye]using h3⟩;rw[<- h2];simp only[mt,Yi,Instr.fill];rw[Yk (by simp;omega)];congr 1;rw[<- Array.foldl_toList,Array.toList_zipIdx]
theorem Q0{g:Nat->Array Value->Prop}{S:Nat->Nat->Prop}{m:Nat->Option Nat}(zero:Array Value)(n:Nat)(hz:zero.toList.all Value.oneCell'=true)(h0:n=0\/zero ≠ #[]) :
  ∃l:List AV,dx g S m ((Array.range n).map (zero[· % zero.size]!)).toList l/\l.length=n:=by
 refine⟨(List.range n).map (fun i=>AV.v (zero[i%zero.size]!)),⟨by simp,?_,?_⟩,by simp⟩
 ·intro j x hx;simp only [XE,XB] at hx;obtain ⟨i,hi,rfl⟩:=hx;have hn:0 < n:=by have:=Xx hi; simp at this; omega
  have hpos:0<zero.size:=by
   rcases h0 with h |h
   ·omega
   ·rcases Nat.eq_zero_or_pos zero.size with h' |h'
    ·exact absurd (Array.size_eq_zero_iff.1 h') h
    ·exact h'
  have hlt:i%zero.size<zero.size:=Nat.mod_lt _ hpos;simp only[AV.one];rw[getElem!_pos zero _ hlt];exact List.all_eq_true.1 hz _ (by simp)
 ·intro j u x hu hx;simp only[XE,XB]at hx;obtain⟨i,hi,rfl⟩:=hx;simp only[Array.toList_map,Array.toList_range,XE,hi,Option.map_some,Option.some.injEq]at hu;subst hu;exact .v _
theorem Jd{T E:TypeId}{ti te:TI}{w:World}{n:Nat}{g:Nat->Array Value->Prop}{S:Nat->Nat->Prop}{mm:Nat->Option Nat}{ev:Operand->Value}
  (hT:aC P T=some ti) (hk:ti.k=.slice E) (hE:aC P E=some te) (hz:te.zero.all Value.oneCell'=true) (hz0:Nat.beq te.zero.length te.size=true)
  (hev:∀o x,Ev s o x->Rep g S mm (ev o) x) {os:List Operand} {es:List AV} (hl:EvL s os es) (hes:(es.all fun e=>Nat.beq e.cells.length te.size&&e.ok)=true)
  (hn:n=es.length) (hb:n*te.size<=2^24) :
  ∃c:Array Value,(Instr.buildSlice T n ((mt 0 os).map fun p=>(p.1,ev p.2)).toArray).run P w =
    .ok (.slice (some ⟨w.heap.size,0,none⟩) n n) { w with heap:=w.heap.push (.cells c E) }/\dx g S mm c.toList (gq es):=by
 obtain⟨d2,h3,h4,-,-⟩:=d9 hT w;obtain rfl:=iG (h4.trans hk);obtain⟨z,h5,h6⟩:=tt hE w;have hz0:=XG hz0;have hzs:z.cells.size=te.size:=by rw[<- Array.length_toList,h6];exact hz0
 subst hn
 have key:∀zero:Array Value,zero=(if es.length*te.size=0 then #[]else z.cells)->zero.toList.all Value.oneCell'=true/\(es.length*te.size=0\/zero ≠ #[]):=by
  intro zero h;subst h;split
  ·exact⟨rfl,.inl ‹_›⟩
  ·rename_i h;refine⟨by rw[h6];exact hz,.inr (fun he=>?_)⟩;rw[he]at hzs;simp at hzs;exact h (by rw[<- hzs];omega)
 obtain⟨zero,hzero⟩:∃zero:Array Value,zero=(if es.length*te.size=0 then #[]else z.cells):=⟨_,rfl⟩
 obtain⟨k1,k2⟩:=key zero hzero;obtain⟨Z,hZ,hZl⟩:=Q0 (g:=g) (S:=S) (m:=mm) zero (es.length*te.size) k1 k2;obtain⟨c',h7,h8⟩:=TH hev os es hl hes 0 ((Array.range (es.length*te.size)).map (zero[· % zero.size]!)) [] Z (by simp) hZl (by simpa using hZ);refine⟨c',?_,by simpa using h8⟩;have hnb:¬(es.length*te.size>2^24):=by omega
 simp only[Instr.buildSlice,Sem.run_bind,h3,Result.andThen_ok,f8 hE];rw[Yk hnb]
 by_cases h0:es.length*te.size=0
 ·rw[Yl h0]at hzero ⊢;subst hzero;simp only[Sem.run_bind,Sem.run_pure,Result.andThen_ok,h7,newRow,run_newObj]
 ·rw[Yk h0]at hzero ⊢;subst hzero;simp only[Sem.run_bind,Sem.run_pure,Result.andThen_ok,h5,h7,newRow,run_newObj]
theorem Ve{g:Nat->Array Value->Prop}{S:Nat->Nat->Prop}{m:Nat->Option Nat}{b sz:Nat}{c:Array Value}{es:List AV}(hb:g b c)
  (hc:dx g S dl c.toList (gq es)) (hs:∀e∈es,e.cells.length=sz) (hl:es.length<=a8) :
  Rep g S m (.slice (some ⟨b,0,none⟩) es.length es.length) (.lst sz es):=by
 have hlen:=CM es hs;have hsz:c.size=es.length*sz:=by have:=hc.1;simp at this;omega
 have hcell:∀(i j:Nat)(e x:AV),es[i]?=some e->e.cells[j]?=some x->∃u,c[i*sz+j]?=some u/\x.one=true/\Rep g S dl u x:=by
  intro i j e x he hx;have hf:=GF es hs i j e x he hx
  have hlt:i*sz+j<(gq es).length:=by
   rcases XH (i*sz+j) (gq es).length with h |h
   ·exact h
   ·rw[XN h]at hf;cases hf
  have hlt':i*sz+j<c.size:=by omega
  refine⟨c[i*sz+j],Array.getElem?_eq_getElem hlt',hc.2.1 _ x hf,hc.2.2 _ _ x (by simp[hlt']) hf⟩
 refine .lst (fun i j=>c.getD (i*sz+j) undef) hb (XD _) hl (fun i e he=>hs e (Xx he)) ?_ ?_ ?_
 ·intro i j e x he hx;obtain⟨u,_,h,_⟩:=hcell i j e x he hx;exact h
 ·intro i j e x he hx;obtain⟨u,h,_,_⟩:=hcell i j e x he hx;simp[XI,h]
 ·intro i j e x he hx;obtain⟨u,h,_,h2⟩:=hcell i j e x he hx;simpa[XI,h]using h2
theorem Mv{es:List AV}{sz:Nat}(h:(es.all fun e=>Nat.beq e.cells.length sz&&e.ok)=true):∀e∈es,e.cells.length=sz:=by
 intro e he;have:=List.all_eq_true.1 h e he;simp only[XF]at this;exact XG this.1
theorem Fp{es:List AV}(h:AV.nms es=[]):∀e∈es,e.nm=[]:=by
 induction es with
 |nil=>intro e he;cases he
 |cons x es ih =>
  simp only[AV.nms,List.append_eq_nil_iff]at h;intro e he;rcases List.mem_cons.1 he with rfl |he
  ·exact h.1
  ·exact ih h.2 e he
theorem VV{d n:Nat}{os:List Operand}{es:List AV}{T E t:TypeId}{ti te:TI}{parts:Array (Nat×Operand)}
  (hp:parts=(mt 0 os).toArray) (hx:EvL s os es) (hT:aC P T=some ti) (hk:ti.k=.slice E) (hE:aC P E=some te) (hz:te.zero.all Value.oneCell'=true)
  (hz0:Nat.beq te.zero.length te.size=true) (hes:(es.all fun e=>Nat.beq e.cells.length te.size&&e.ok)=true) (hnm:AV.nms es=[])
  (hn:n=es.length) (hb:Nat.ble (n*te.size) 16777216=true) (hb':Nat.ble n 16777216=true) (hN:Nat.blt d N=true) :
  Step P N R s ⟨some d,.buildSlice T n parts,t,pos,after,none⟩ ⟨some (.lst te.size es),[],eG os,[]⟩ :=
 Xo rfl rfl hN fun s' hag C m a w hr=>by
  subst hp;rw[Nat.ble_eq]at hb hb';have hx':=hx.agree hag (fun _ h=>h);obtain⟨c,h1,h2⟩:=Jd (w:=w) hT hk hE hz hz0 (fun o x h=>h.rep hr) hx' hes hn oz;refine⟨.slice (some ⟨w.heap.size,0,none⟩) n n,c,E,?_,?_⟩
  ·have : ((mt 0 os).toArray.map fun p => (p.1, a.eval p.2)) = ((mt 0 os).map fun p => (p.1, a.eval p.2)).toArray := by simp
   simp only[execOp,Sem.run_bind,this,h1,Result.andThen_ok,Sem.run_pure]
  ·intro g S hg hS hgb;subst hn
   have hnm':∀x∈gq es,x.nm=[]:=by
    have hh:=Fp hnm;clear h2 h1 hx' hx hes hb hb' hnm hag
    induction es with
    |nil=>intro x hx;cases hx
    |cons e es ih =>
     intro x hx;simp only[gq,mem_append]at hx;rcases hx with hx |hx
     ·have := hh e (by simp)
      cases e <;> simp only[AV.cells,List.mem_singleton]at hx <;> first
       |(subst hx;exact this)
       |(exact Fp this x hx)
     ·exact ih (fun e he=>hh e (by simp[he])) x hx
   have h3:dx g S dl c.toList (gq es):=h2.mono hg hS (fun x hx k b hk _=>by have:=hk.mem;rw[hnm' x hx]at this;cases this);exact Ve hgb h3 (Mv hes) (by unfold a8;omega)
theorem iK{d:Nat}{T E t:TypeId}{ti te:TI}
  (hT:aC P T=some ti) (hk:ti.k=.slice E) (hE:aC P E=some te) (hz:te.zero.all Value.oneCell'=true)
  (hz0:Nat.beq te.zero.length te.size=true) (hN:Nat.blt d N=true) :
  Step P N R s ⟨some d,.buildSlice T 0 #[],t,pos,after,none⟩ ⟨some (.ms d te.size 0 0),[(d,some (.row te.size []))],[],[]⟩ :=
 sN rfl rfl hN (by simp) fun s' hag hfr C m a w hr => by
  obtain⟨c,h1,h2⟩:=Jd (w:=w) (n:=0) hT hk hE hz hz0 (fun o x h=>h.rep hr) (.nil:EvL s' [] []) rfl rfl oz;refine⟨.slice (some ⟨w.heap.size,0,none⟩) 0 0,c,E,w.drawn,?_,fun h=>h,?_,fun g S m' hm _=>.ms0 _ _ _ _⟩
  ·have h1':(Instr.buildSlice T 0 #[]).run P w = .ok (.slice (some ⟨w.heap.size, 0, none⟩) 0 0) { w with heap:=w.heap.push (.cells c E) }:=h1;have:((#[]:Array (Nat × Operand)).map fun (i,x)=>(i,a.eval x)) = #[]:=by simp
   simp only[execOp,Sem.run_bind,this,h1',Result.andThen_ok,Sem.run_pure]
  ·intro g S m' w' hg hS hm hw;exact .row hw (by simp) (by simp) (by simp) (by simp) (by simp)
theorem gV{d:Nat}{x:Operand}{n:Int}{T E t:TypeId}{ti te:TI}(hx:Ev s x (.v (.int .i64 n)))
    (hT:aC P T=some ti) (hk:ti.k=.slice E) (hE:aC P E=some te) (hz:te.zero.all Value.oneCell'=true)
    (hz0:(Nat.beq te.zero.length te.size&&Nat.blt 0 te.size&&Nat.blt 0 te.bytes&&(te.ag||Nat.beq te.size 1))=true)
    (h0:0<=n) (hb:n*te.bytes<=281474976710656) (hN:Nat.blt d N=true) :
    Step P N R s ⟨some d,.makeSlice T x x,t,pos,after,none⟩
      ⟨some (.ms d te.size 0 n.toNat),[(d,some (.row te.size (List.replicate n.toNat (kH te.ag (te.zero.map .v)))))],au x,[]⟩ :=
  sN rfl rfl hN (by simp) fun s' hag hfr C m a w hr => by
    have hxv:=mL hr (hx.agree hag (fun _ h=>h));simp only[XF,Yf,Nat.blt_eq]at hz0;obtain⟨⟨⟨hz0,hz1⟩,hz2⟩,hz3⟩:=hz0;have hz0:=XG hz0;obtain⟨d2,h3,h4,-,-⟩:=d9 hT w;obtain rfl:=iG (h4.trans hk);obtain⟨z,h5,h6⟩:=tt hE w;obtain⟨ie,h7,h8,-⟩:=EW hE w;have hzs:z.cells.size=te.size:=by rw[<- Array.length_toList,h6];exact hz0
    have hnb:n<=281474976710656:=by
      have:n*1<=n*te.bytes:=Int.mul_le_mul_of_nonneg_left oz h0;omega
    have hw1:IntKind.i64.wrap n=n:=IntWalk.i64_in n oz;obtain⟨zero,hzero⟩:∃zero:Array Value,zero=(if n.toNat*te.size=0 then #[]else z.cells):=⟨_,rfl⟩
    refine⟨.slice (some ⟨w.heap.size,0,none⟩) n.toNat n.toNat,(Array.range (n.toNat*te.size)).map (zero[· % zero.size]!),E,w.drawn,?_,fun h=>h,?_,?_⟩
    · have hmk:(Instr.makeSlice T (.int .i64 n) (.int .i64 n)).run P w =
          .ok (.slice (some ⟨w.heap.size,0,none⟩) n.toNat n.toNat) { w with heap:=w.heap.push (.cells ((Array.range (n.toNat*te.size)).map (zero[· % zero.size]!)) E) }:=by
        have hc:¬((n<0\/281474976710656<(ie.bytes:Int)*n)\/n<0):=by
          rw[h8,Int.mul_comm];omega
        simp only[Instr.makeSlice,Sem.run_bind,h3,Result.andThen_ok,asInt,asIntOf,Sem.run_pure,h7,hw1];rw[Yk (by simpa using hc)];simp only[Sem.run_bind,run_askRoom,Result.andThen_ok,f8 hE]
        by_cases h0:n.toNat*te.size=0
        · rw[Yl h0]at hzero ⊢
          subst hzero;simp only[Sem.run_bind,Sem.run_pure,Result.andThen_ok,newRow,run_newObj]
        · rw[Yk h0]at hzero ⊢
          subst hzero;simp only[Sem.run_bind,Sem.run_pure,Result.andThen_ok,h5,newRow,run_newObj]
      simp only[execOp,hxv,Sem.run_bind,hmk,Result.andThen_ok,Sem.run_pure]
    · intro g S m' w' hg hS hm hw
      have hcl:(kH te.ag (te.zero.map .v)).cells=te.zero.map .v:=by
        rcases hz3 with h |h
        · rw[h];rfl
        · have h:=XG h
          match hq:te.zero with
          |[]=>rw[hq]at hz0;simp at hz0;omega
          |[u] =>
            rw[hq]at hz;simp only[List.all_cons,List.all_nil,Bool.and_true]at hz;cases te.ag <;> simp[kH,AV.cells]
          |u::u'::r=>rw[hq]at hz0;simp at hz0;omega
      have hcell:∀(i j:Nat)(x:AV),i<n.toNat->(te.zero.map AV.v)[j]?=some x->x.one=true/\∀u,((Array.range (n.toNat*te.size)).map (zero[· % zero.size]!))[i*te.size+j]?=some u->x=.v u:=by
        intro i j x hi hx;simp only[XE,XB]at hx;obtain⟨v,hv,rfl⟩:=hx;refine⟨List.all_eq_true.1 hz v (Xx hv),?_⟩;intro u hu
        have hj:j<te.size:=by
          rw[<- hz0];rcases XH j te.zero.length with h |h
          · exact h
          · rw[XN h]at hv;cases hv
        have hpos:¬n.toNat*te.size=0:=by
          have:=Nat.mul_pos (show 0<n.toNat by omega) hz1;omega
        rw[Yk hpos]at hzero;subst hzero;have hb2:=mh (sz:=te.size) hi;have hlt:i*te.size+j<n.toNat*te.size:=by omega
        simp only[Array.getElem?_map,Array.getElem?_range,hlt,if_true,Option.map_some,Option.some.injEq]at hu;have hmod:(i*te.size+j)%z.cells.size=j:=by rw[hzs,Nat.add_comm,Nat.add_mul_mod_self_right,Nat.mod_eq_of_lt hj]
        rw[hmod,getElem!_pos z.cells j oz]at hu;rw[<- h6,Array.getElem?_toList,Array.getElem?_eq_getElem oz]at hv;cases hv;rw[hu]
      refine .row hw (by simp) (by unfold a8;simp;omega) ?_ ?_ ?_
      · intro i e he
        rw[X1]at he;split at he
        · cases he;rw[hcl];simpa using hz0
        · cases he
      · intro i j e x he hx
        rw[X1]at he;split at he
        · rename_i hi;cases he;rw[hcl]at hx;exact(hcell i j x hi hx).1
        · cases he
      · intro i j e u x he hx hu
        rw[X1]at he;split at he
        · rename_i hi;cases he;rw[hcl]at hx
          rw[(hcell i j x hi hx).2 u hu];exact .v _
        · cases he
    · intro g S m' hm hS
      have:=Rep.ms (g:=g) (S:=S) (m:=m') (k:=d) (sz:=te.size) (off:=0) (len:=n.toNat) (cap:=n.toNat) hm (XD _) (by simpa using hS);simpa using this
end Go.Lw
namespace Go.Lw
variable{P:Program}{N:Nat}{R:Array Oper}{s:AS}{pos:String}{after:Array Edge}
theorem RelM.rk{C:Ctx}{m:Nat->Option Nat}{a:Act}{w:World}(h:RelM C s m a w){k d:Nat}{y:Blk}(hk:lk s.hp k=some y)(hd:s.Fresh d) :
  RelM C ⟨s.sl,(d,some y)::(k,none)::s.hp⟩ (fun k'=>if k'=d then m k else m k') a w:=by
 have hne:k≠d:=fun e=>by rw[e,hd.1]at hk;cases hk
 have hlk:∀k' z,lk ((d,some y)::(k,none)::s.hp) k'=some z->(k'=d/\z=y)\/(k'≠d/\k'≠k/\lk s.hp k'=some z):=by
  intro k' z hz;rw[aT]at hz;split at hz
  ·cases hz;exact .inl ⟨‹_›,rfl⟩
  ·rw[aT]at hz;split at hz
   ·cases hz
   ·exact .inr ⟨‹_›,‹_›,hz⟩
 have hf:=Frame.refl (a9 s.hp m) w
 have hal:∀k' z b,lk ((d,some y)::(k,none)::s.hp) k'=some z->(if k'=d then m k else m k')=some b->a9 s.hp m b\/w.heap.size<=b:=by
  intro k' z b hz hb;rcases hlk k' z hz with⟨h1,h2⟩ |⟨h1,h2,h3⟩
  ·rw[Yl h1]at hb;exact .inl ⟨k,y,hk,hb⟩
  ·rw[Yk h1]at hb;exact .inl ⟨k',z,h3,hb⟩
 have hmm:∀z:Blk,¬z.Names d->∀k'' b,z.Names k''->m k''=some b->(if k''=d then m k else m k'')=some b:=by
  intro z hz k'' b hn hb;rw[Yk (fun(e:k''=d)=>hz (e▸hn))];exact hb
 refine h.update hf ?_ hal ?_ ⟨?_,?_,?_⟩
 ·intro t z k' b hz hn hb;have:k'≠d:=fun e=>hd.2.2.1 t z hz (e▸hn)
  rw[Yk this];exact hb
 ·intro k' z h1000 hz;rcases hlk k' z hz with⟨h1,h2⟩ |⟨h1,h2,h3⟩
  ·have:=hd.2.1;omega
  ·exact⟨⟨z,h3⟩,by rw[Yk h1]⟩
 ·intro k' z hz;rcases hlk k' z hz with⟨h1,h2⟩ |⟨h1,h2,h3⟩
  ·subst h2;rw[Yl h1];exact BlkRep.mono (w:=w) (eU hf hal) hf.sz (hmm z (hd.2.2.2 k z hk)) rfl (fun _ _=>rfl) (h.heap.blk k z hk)
  ·rw[Yk h1];exact BlkRep.mono (w:=w) (eU hf hal) hf.sz (hmm z (hd.2.2.2 k' z h3)) rfl (fun _ _=>rfl) (h.heap.blk k' z h3)
 ·intro k1 k2 z1 z2 b h1 h2 hb1 hb2;rcases hlk k1 z1 h1 with⟨e1,e2⟩ |⟨e1,e2,e3⟩ <;> rcases hlk k2 z2 h2 with⟨g1,g2⟩ |⟨g1,g2,g3⟩
  ·rw[e1,g1]
  ·rw[Yl e1]at hb1;rw[Yk g1]at hb2
   exact absurd (h.heap.inj k k2 y z2 b hk g3 hb1 hb2).symm g2
  ·rw[Yk e1]at hb1;rw[Yl g1]at hb2
   exact absurd (h.heap.inj k1 k z1 y b e3 hk hb1 hb2) e2
  ·rw[Yk e1]at hb1;rw[Yk g1]at hb2
   exact h.heap.inj k1 k2 z1 z2 b e3 g3 hb1 hb2
 ·intro k' z b hz hb;rcases hlk k' z hz with⟨h1,h2⟩ |⟨h1,h2,h3⟩
  ·rw[Yl h1]at hb;exact h.heap.sep k y b hk hb
  ·rw[Yk h1]at hb;exact h.heap.sep k' z b h3 hb
theorem RelM.fewer{C:Ctx}{m:Nat->Option Nat}{a:Act}{w:World}(h:RelM C s m a w){hp':Hp}(hs:∀k z,lk hp' k=some z->lk s.hp k=some z) :
  RelM C ⟨s.sl,hp'⟩ m a w:=by
 have hf:=Frame.refl (a9 s.hp m) w;have hal:∀k' z b,lk hp' k'=some z->m k'=some b->a9 s.hp m b\/w.heap.size<=b:=fun k' z b hz hb=>.inl ⟨k',z,hs k' z hz,hb⟩
 refine h.update hf (fun _ _ _ _ _ _ hb=>hb) hal (fun k' z _ hz=>⟨⟨z,hs k' z hz⟩,rfl⟩) ⟨?_,?_,?_⟩
 ·intro k' z hz;exact BlkRep.mono (w:=w) (eU hf hal) hf.sz (fun _ _ _ h=>h) rfl (fun _ _=>rfl) (h.heap.blk k' z (hs k' z hz))
 ·intro k1 k2 z1 z2 b h1 h2;exact h.heap.inj k1 k2 z1 z2 b (hs _ _ h1) (hs _ _ h2)
 ·intro k' z b hz hb;exact h.heap.sep k' z b (hs k' z hz) hb
theorem RelM.virt{C:Ctx}{m:Nat->Option Nat}{a:Act}{w:World}(h:RelM C s m a w){d:Nat}(sz:Nat)(hd:s.Fresh d) :
  RelM C ⟨s.sl,(d,some (.row sz []))::s.hp⟩ (fun k'=>if k'=d then none else m k') a w:=by
 have hlk:∀k' z,lk ((d,some (.row sz []))::s.hp) k'=some z->(k'=d/\z=.row sz [])\/(k'≠d/\lk s.hp k'=some z):=by
  intro k' z hz;rw[aT]at hz;split at hz
  ·cases hz;exact .inl ⟨‹_›,rfl⟩
  ·exact .inr ⟨‹_›,hz⟩
 have hf:=Frame.refl (a9 s.hp m) w
 have hal:∀k' z b,lk ((d,some (.row sz []))::s.hp) k'=some z->(if k'=d then none else m k')=some b->a9 s.hp m b\/w.heap.size<=b:=by
  intro k' z b hz hb;rcases hlk k' z hz with⟨h1,h2⟩ |⟨h1,h3⟩
  ·rw[Yl h1]at hb;cases hb
  ·rw[Yk h1]at hb;exact .inl ⟨k',z,h3,hb⟩
 refine h.update hf ?_ hal ?_ ⟨?_,?_,?_⟩
 ·intro t z k' b hz hn hb;rw[Yk (fun(e:k'=d)=>hd.2.2.1 t z hz (e▸hn))];exact hb
 ·intro k' z h1000 hz;rcases hlk k' z hz with⟨h1,h2⟩ |⟨h1,h3⟩
  ·have:=hd.2.1;omega
  ·exact⟨⟨z,h3⟩,by rw[Yk h1]⟩
 ·intro k' z hz;rcases hlk k' z hz with⟨h1,h2⟩ |⟨h1,h3⟩
  ·subst h2;rw[Yl h1];exact .none sz
  ·rw[Yk h1];exact BlkRep.mono (w:=w) (eU hf hal) hf.sz (fun k'' b hn hb=>by rw[Yk (fun(e:k''=d)=>hd.2.2.2 k' z h3 (e▸hn))];exact hb) rfl (fun _ _=>rfl) (h.heap.blk k' z h3)
 ·intro k1 k2 z1 z2 b h1 h2 hb1 hb2;rcases hlk k1 z1 h1 with⟨e1,_⟩ |⟨e1,e3⟩ <;> rcases hlk k2 z2 h2 with⟨g1,_⟩ |⟨g1,g3⟩
  ·rw[e1,g1]
  ·rw[Yl e1]at hb1;cases hb1
  ·rw[Yl g1]at hb2;cases hb2
  ·rw[Yk e1]at hb1;rw[Yk g1]at hb2
   exact h.heap.inj k1 k2 z1 z2 b e3 g3 hb1 hb2
 ·intro k' z b hz hb;rcases hlk k' z hz with⟨h1,_⟩ |⟨h1,h3⟩
  ·rw[Yl h1]at hb;cases hb
  ·rw[Yk h1]at hb;exact h.heap.sep k' z b h3 hb
theorem C4{C:Ctx}{m:Nat->Option Nat}{w:World}{hp:Hp}{v:Value}{sz:Nat}{xs:List AV}(h:Rep (Im C.ext hp m w) (Sz w) m v (.lst sz xs))(hsz:0<sz) :
  (xs=[]/\∃a cap,v=.slice a 0 cap)\/∃b off cap cs,v=.slice (some ⟨b,off,none⟩) xs.length cap/\0<xs.length/\Im C.ext hp m w b cs/\off+xs.length*sz<=cs.size /\
   xs.length<=a8/\(∀(i:Nat)(e:AV),xs[i]?=some e->e.cells.length=sz)/\(∀(i j:Nat)(e c:AV),xs[i]?=some e->e.cells[j]?=some c->c.one=true) /\
   ∀(i j:Nat)(e c:AV)(u:Value),xs[i]?=some e->e.cells[j]?=some c->cs[off+i*sz+j]?=some u->Rep (Im C.ext hp m w) (Sz w) dl u c:=by
 cases h with
 |lst0 a cap=>exact .inl ⟨rfl,a,cap,rfl⟩
 | @lst _ b off cap _ _ cs u hb hc hl hs h1 hu hr =>
  rcases Nat.eq_zero_or_pos xs.length with h0 |h0
  ·have:xs=[]:=List.eq_nil_of_length_eq_zero h0;subst this;exact .inl ⟨rfl,_,_,rfl⟩
  refine .inr ⟨b,off,cap,cs,rfl,h0,hb,?_,hl,hs,h1,?_⟩
  ·have he:xs[xs.length - 1]? = some (xs[xs.length - 1]'oz):=XC oz;have hel:=hs _ _ he;have hc':=hu (xs.length - 1) (sz - 1) _ _ he (XC (show sz - 1 < _ by omega))
   have hlt:off+(xs.length-1)*sz+(sz-1)<cs.size:=by
    rcases XH (off+(xs.length-1)*sz+(sz-1)) cs.size with h |h
    ·exact h
    ·rw[Array.getElem?_eq_none h]at hc';cases hc'
   have:xs.length*sz=(xs.length-1)*sz+sz:=by
    rw[<- Nat.succ_mul];congr 1;omega
   omega
  ·intro i j e c v he hc hv;have:=hu i j e c he hc;rw[this]at hv;cases hv
   exact hr i j e c he hc
theorem CF{g:Nat->Array Value->Prop}{S:Nat->Nat->Prop}{m:Nat->Option Nat}{w':World}{b sz off:Nat}{es xs:List AV}{c cs aD:Array Value}{t:TypeId}
  (hw:w'.heap[b]?=some (.cells aD t (0,0))) (hn:(es.length+xs.length)*sz<=aD.size) (hl:es.length+xs.length<=a8)
  (hs:∀(i:Nat)(e:AV),es[i]?=some e->e.cells.length=sz) (h1:∀(i j:Nat)(e x:AV),es[i]?=some e->e.cells[j]?=some x->x.one=true)
  (hr:∀(i j:Nat)(e:AV)(u:Value)(x:AV),es[i]?=some e->e.cells[j]?=some x->c[i*sz+j]?=some u->Rep g S dl u x)
  (hs':∀(i:Nat)(e:AV),xs[i]?=some e->e.cells.length=sz) (h1':∀(i j:Nat)(e x:AV),xs[i]?=some e->e.cells[j]?=some x->x.one=true)
  (hr':∀(i j:Nat)(e:AV)(x:AV)(u:Value),xs[i]?=some e->e.cells[j]?=some x->cs[off+i*sz+j]?=some u->Rep g S dl u x)
  (ho:∀p,p<es.length*sz->aD[p]?=c[p]?) (hn':∀p,p<xs.length*sz->aD[es.length*sz+p]?=cs[off+p]?) :
  BlkRep g S m w' (some b) (.row sz (es++xs)):=by
 have split:∀(i:Nat)(e:AV),(es++xs)[i]?=some e->es[i]?=some e\/(es.length<=i/\xs[i-es.length]?=some e):=by
  intro i e he;rcases XH i es.length with h |h
  ·rw[XU h]at he;exact .inl he
  ·rw[XT h]at he;exact .inr ⟨h,he⟩
 have lt_of:∀{l:List AV}{i:Nat}{e:AV},l[i]?=some e->i<l.length:=by
  intro l i e h;rcases XH i l.length with h' |h'
  ·exact h'
  ·rw[XN h']at h;cases h
 refine .row hw (by simpa using hn) (by simpa using hl) ?_ ?_ ?_
 ·intro i e he;rcases split i e he with h |⟨_,h⟩
  ·exact hs i e h
  ·exact hs' _ e h
 ·intro i j e x he hx;rcases split i e he with h |⟨_,h⟩
  ·exact h1 i j e x h hx
  ·exact h1' _ j e x h hx
 ·intro i j e u x he hx hu;rcases split i e he with h |⟨hge,h⟩
  ·have hi:=lt_of h;have hj:=lt_of hx;rw[hs i e h]at hj;have:=mh (sz:=sz) hi;rw[ho _ oz]at hu;exact hr i j e u x h hx hu
  ·have hi:=lt_of h;have hj:=lt_of hx;rw[hs' _ e h]at hj;have:=mh (sz:=sz) hi
   have e1:i*sz+j=es.length*sz+((i-es.length)*sz+j):=by
    rw[<- Nat.add_assoc,<- Nat.add_mul];congr 2;omega
   rw[e1,hn' _ oz,<- Nat.add_assoc]at hu;exact hr' _ j e x u h hx hu
theorem A4{o:Oper}{u:Out}(hg:o.guard=none)
  (h:∀s',f9 s s' u->jH s' u->∀C m a w (next:Act->World->Prop),C.nt=N->RelM C s' m a w->(∀m' a' w',RelM C (s'.app o.dst u) m' a' w'->next a' w') ->
   o.upon P a next (fun _ _ _=>False) ((execOp a.eval o).run P w)):Step P N R s o u:=by
 refine⟨fun s' hag hnew C m a w Q next hC hr hnext=>?_⟩;rw[Yl (lZ hg _)];refine sj ?_;have:=h s' hag hnew C m a w next hC hr hnext;unfold Oper.wp;generalize(execOp a.eval o).run P w=r at *;cases r with
 |ok n w' =>
  cases n <;> simp only[Oper.upon]at this ⊢ <;> first
   |exact this
   |exact this.mono (fun e w'' he=>by cases e <;> first |exact he |exact he.elim |(obtain⟨_,_,h⟩:=he;exact h.elim))
 |halt x w'=>cases x <;> simp only[Oper.upon]at this
end Go.Lw
namespace Go.Lw
variable{P:Program}{N:Nat}{R:Array Oper}{s:AS}{pos:String}{after:Array Edge}
theorem pS{ρ:Operand->Value}{d:Option Tmp}{x y:Operand}{T t:TypeId}{w w':World}{v:Value}
  (h:(Builtin.append_ #[T,T] t #[ρ x,ρ y]).run P w=.ok v w') :
  (execOp ρ ⟨d,.call ⟨.builtin .append,#[x,y],#[T,T]⟩,t,pos,after,none⟩).run P w=.ok (.value v) w':=by
 simp[execOp,resolve,invoke,builtin,h]
theorem FU{T t E:TypeId}{ti te:TI}{w:World}{base a:Option Addr}{len cap cap':Nat}(hT:aC P T=some ti)(hk:ti.k=.slice E)(hE:aC P E=some te)
  (hle:len<=cap):(Builtin.append_ #[T,T] t #[.slice base len cap,.slice a 0 cap']).run P w=.ok (.slice base len cap) w:=by
 obtain⟨d2,h3,h4,-,hu⟩:=d9 hT w;obtain rfl:=iG (h4.trans hk)
 have hfc:(Builtin.firstCells te.size 0 (.slice a 0 cap')).run P w=.ok #[] w:=by
  cases a with
  |none=>exact run_firstCells_none w _ _ _ _
  |some a=>exact run_firstCells_some w _ _ a _ _ [] (by simp) (by simp)
 cases base with
 |none=>simp[Builtin.append_,h3,f8 hE,Builtin.lenOf,hle,hfc]
 |some b=>simp[Builtin.append_,h3,f8 hE,Builtin.lenOf,hle,hfc,storeCells]
theorem MB{T t E:TypeId}{ti te:TI}{w:World}{b len n cap cap':Nat}{a:Addr}{c:Array Value}{t2:TypeId}(hT:aC P T=some ti)(hk:ti.k=.slice E)(hE:aC P E=some te)
  (hw:w.heap[b]?=some (.cells c t2 (0,0))) (news:List Value) (hnl:news.length=n*te.size) (hnc:∀(j:Nat) v,news[j]?=some v->w.cell? (a.add j)=some v)
  (hn1:∀u∈news,u.oneCell'=true) (hroom:len+n<=cap) (hfit:len*te.size+n*te.size<=c.size) :
  (Builtin.append_ #[T,T] t #[.slice (some ⟨b,0,none⟩) len cap,.slice (some a) n cap']).run P w =
   .ok (.slice (some ⟨b,0,none⟩) (len+n) cap) { w with heap:=w.heap.setIfInBounds b (.cells (over c.toList (len*te.size) news).toArray t2 (0,0)) }:=by
 obtain⟨d2,h3,h4,-,hu⟩:=d9 hT w;obtain rfl:=iG (h4.trans hk);have hfc:=run_firstCells_some (P:=P) w te.size n a n cap' _ hnl hnc;have hst:=B2 (P:=P) news c w (len*te.size) 0 hw (by rw[hnl];omega) hn1;simp only[Nat.add_zero]at hst;simp[Builtin.append_,h3,f8 hE,Builtin.lenOf,hroom,hfc,iV,hst]
theorem MG{C:Ctx}{m:Nat->Option Nat}{a:Act}{w:World}(hr:RelM C s m a w){b n:Nat}{c:Array Value}{t:TypeId}(hw:w.heap[b]?=some (.cells c t (0,0)))
  (h:Sz w b n):n<=c.size:=by
 obtain⟨c',t',f',h1,h2⟩:=h;rw[hw]at h1;cases h1;exact h2
theorem Fresh.row{d k:Nat}{z:Blk}(h:s.Fresh d)(hne:d≠k)(hz:¬z.Names d):AS.Fresh ⟨s.sl,(k,some z)::s.hp⟩ d:=by
 refine⟨?_,h.2.1,h.2.2.1,?_⟩
 ·simp only[aT,Yk hne];exact h.1
 ·intro k' x hx;simp only[aT]at hx;split at hx
  ·cases hx;exact hz
  ·exact h.2.2.2 k' x hx
theorem xt{C:Ctx}{m:Nat->Option Nat}{a:Act}{w:World}{d k sz n:Nat}{y:Blk}{v:Value}{rt rd:List Nat}{next:Act->World->Prop}
  (hr:RelM C ⟨s.sl,(d,some y)::(k,none)::s.hp⟩ m a w) (hd:d<C.nt)
  (hv:Rep (Im C.ext ((d,some y)::(k,none)::s.hp) m w) (Sz w) m v (.ms d sz 0 n))
  (hnext:∀m' a' w',RelM C (s.app (some d) ⟨some (.ms d sz 0 n),[(d,some y),(k,none)],rt,rd⟩) m' a' w'->next a' w'):next (a.put (some d) v) w:=by
 refine hnext m _ _ ?_;have:=hr.put d v (some (.ms d sz 0 n)) (fun z hz=>by cases hz;exact⟨XS hd hr.nt,hv⟩);simpa[AS.app,Act.put]using this
theorem TM{C:Ctx}{m:Nat->Option Nat}{a:Act}{w:World}{d k sz:Nat}{es xs:List AV}{E:TypeId}{aD:Array Value}{cap:Nat}{rt rd:List Nat}{next:Act->World->Prop}
  (hr:RelM C s m a w) (hfr:s.Fresh d) (hd:d<C.nt)
  (hblk:∀(g:Nat->Array Value->Prop)(S:Nat->Nat->Prop)(m':Nat->Option Nat)(w':World),
   (∀b cs,Im C.ext s.hp m w b cs->g b cs)->(∀b n,Sz w b n->S b n)->w'.heap[w.heap.size]?=some (.cells aD E (0,0))->BlkRep g S m' w' (some w.heap.size) (.row sz (es++xs)))
  (hcap:es.length+xs.length<=cap) (hsz:cap*sz<=aD.size)
  (hnext:∀m' a' w',RelM C (s.app (some d) ⟨some (.ms d sz 0 (es.length+xs.length)),[(d,some (.row sz (es++xs))),(k,none)],rt,rd⟩) m' a' w'->next a' w') :
  next (a.put (some d) (.slice (some ⟨w.heap.size,0,none⟩) (es.length+xs.length) cap)) (w.drew.alloc (.cells aD E)):=by
 have h1:=hr.drawn (w.drawn+1);have h2:=h1.alloc hfr (.cells aD E) (.row sz (es++xs)) (fun h=>h) (fun g S m' w' hg hS _ hw=>hblk g S m' w' hg hS hw)
 have h3:=h2.fewer (hp':=(d,some (.row sz (es++xs)))::(k,none)::s.hp) (by
  intro k' z hz;simp only[aT]at hz ⊢;split at hz
  ·rename_i h;rw[Yl h];exact hz
  ·rename_i h;rw[Yk h]
   split at hz
   ·cases hz
   ·exact hz)
 refine xt h3 hd ?_ hnext
 have:=Rep.ms (g:=Im C.ext ((d,some (.row sz (es++xs)))::(k,none)::s.hp) (fun k'=>if k'=d then some w.heap.size else m k') (w.drew.alloc (.cells aD E)))
  (S:=Sz (w.drew.alloc (.cells aD E))) (m:=fun k'=>if k'=d then some w.heap.size else m k') (k:=d) (sz:=sz) (off:=0) (len:=es.length+xs.length) (cap:=cap)
  (Yl rfl) hcap ⟨aD,E,(0,0),by show(w.heap.push _)[w.heap.size]?=_;simp,by simpa using hsz⟩
 simpa using this
set_option maxHeartbeats 1000000 in
theorem Xv{d k sz len:Nat}{xv:AV}{es xs:List AV}{x y:Operand}{T E t:TypeId}{ti te:TI}
  (hx:Ev s x xv) (hsub:∀g S m v,Rep g S m v xv->Rep g S m v (.ms k sz 0 len)) (hk:s.blk k=some (.row sz es)) (hlen:len=es.length) (hy:Ev s y (.lst sz xs)) (hT:aC P T=some ti) (hkd:ti.k=.slice E) (hE:aC P E=some te)
  (hsz:te.size=sz) (hz0:(Nat.beq te.zero.length te.size&&Nat.blt 0 te.size&&Nat.blt 0 te.bytes)=true) (hb:(len+xs.length)*te.bytes<=140737488355328) (hdk:Nat.beq d k=false)
  (hN:Nat.blt d N=true) :
  Step P N R s ⟨some d,.call ⟨.builtin .append,#[x,y],#[T,T]⟩,t,pos,after,none⟩
   ⟨some (.ms d sz 0 (len+xs.length)),[(d,some (.row sz (es++xs))),(k,none)],au x++au y,[k]⟩:=by
 refine A4 rfl ?_;intro s' hag hnew C m a w next hC hr hnext;subst hsz;subst hlen
 simp only[XF,Nat.blt_eq]at hz0;obtain⟨⟨hz0,hz1⟩,hz2⟩:=hz0;have hz0:=XG hz0;have hdk:=Nat.ne_of_beq_eq_false hdk;rw[Nat.blt_eq]at hN;have hkk:lk s'.hp k=some (.row te.size es):=(hag.2 k (by simp)).trans hk
 have hfr:s'.Fresh d:=by
  rcases hnew d (by simp)with h |h
  ·exact absurd (by simpa using h) hdk
  ·exact h
 have hd:d<C.nt:=by omega
 have hxr:=hsub _ _ _ _ ((hx.agree hag (fun _ h=>List.mem_append.2 (.inl h))).rep hr);have hyr:=(hy.agree hag (fun _ h=>List.mem_append.2 (.inr h))).rep hr;obtain⟨i,dd,z,hi,hu,hz,rfl⟩:=ud hE;obtain⟨d2,h3,h4,-,hu2⟩:=d9 hT w;obtain rfl:=iG (h4.trans hkd);simp only at hz0 hz1 hz2 hb hkk hxr hyr hnext ⊢
 have hb2:es.length+xs.length<=140737488355328:=by
  have:=XL (es.length+xs.length) (show 1<=i.bytes by omega);omega
 obtain⟨ll,hll⟩:∃ll,ll=es.length:=⟨_,rfl⟩
 rw[<- hll]at hxr;rcases C4 hyr hz1 with⟨rfl,a1,cap1,hyv⟩ |⟨b1,off1,cap1,cs,hyv,hxl,him,hle1,hl1,hs1,ho1,hr1⟩
 ·-- nothing
  generalize hxv:a.eval x=u at hxr;cases hxr with
  |ms0 a0 =>
   have hes:es=[]:=List.eq_nil_of_length_eq_zero oz;have hrun:=FU (t:=t) (w:=w) (base:=a0) (a:=a1) (len:=0) (cap:=0) (cap':=cap1) hT hkd hE (XD _);have hex:=pS (d:=some d) (x:=x) (y:=y) (pos:=pos) (after:=after) (ρ:=a.eval) (by rw[hxv,hyv];exact hrun);rw[hex];simp only[append_nil,XM,Nat.add_zero]at hnext ⊢;exact xt (hr.rk hkk hfr) hd (by rw[show es.length=0 by omega];exact .ms0 _ _ _ _) hnext
  | @ms _ _ _ _ _ cap b hm hc hS =>
   have hrun:=FU (t:=t) (w:=w) (base:=some ⟨b,0*i.size,none⟩) (a:=a1) (len:=ll) (cap:=cap) (cap':=cap1) hT hkd hE hc;have hex:=pS (d:=some d) (x:=x) (y:=y) (pos:=pos) (after:=after) (ρ:=a.eval) (by rw[hxv,hyv];exact hrun);rw[hex];simp only[append_nil,XM,Nat.add_zero]at hnext ⊢;subst hll;exact xt (hr.rk hkk hfr) hd (.ms (by rw[Yl rfl];exact hm) hc hS) hnext
 ·-- something
  obtain⟨hne1,hno1,t1,f1,hw1⟩:=him;have hnl:(cs.extract off1 (off1+xs.length*i.size)).toList.length=xs.length*i.size:=by simp;omega
  have hnc:∀(j:Nat) v,(cs.extract off1 (off1+xs.length*i.size)).toList[j]?=some v->w.cell? ((⟨b1,off1,none⟩:Addr).add j)=some v:=by
   intro j v hj;rw[iV,rc hw1];rw[Array.getElem?_toList,Array.getElem?_extract]at hj;split at hj
   ·exact hj
   ·cases hj
  have hn1:∀u∈(cs.extract off1 (off1+xs.length*i.size)).toList,u.oneCell'=true:=by
   intro u hu;obtain⟨p,hp,rfl⟩:=List.mem_iff_getElem.1 hu;rw[hnl]at hp;have hi':p/i.size<xs.length:=by rw[Nat.div_lt_iff_lt_mul hz1];exact hp
   have he:=XC hi';have hel:=hs1 _ _ he;have hpm:p%i.size<i.size:=Nat.mod_lt _ hz1;have hx2:=XC (show p%i.size<(xs[p/i.size]).cells.length by omega);have hpe:p/i.size*i.size+p%i.size=p:=by rw[Nat.mul_comm];exact Nat.div_add_mod _ _
   have hcv:cs[off1+p/i.size*i.size+p%i.size]?=some ((cs.extract off1 (off1+xs.length*i.size)).toList[p]'oz):=by
    rw[Nat.add_assoc,hpe];simp only[Array.getElem_toList,Array.getElem_extract];exact Array.getElem?_eq_getElem oz
   exact(hr1 _ _ _ _ _ he hx2 hcv).one (ho1 _ _ _ _ he hx2)
  have hnew':∀(aD:Array Value)(base:Nat),(∀p,p<xs.length*i.size->aD[base+p]?=(cs.extract off1 (off1+xs.length*i.size)).toList[p]?) ->
    ∀p,p<xs.length*i.size->aD[base+p]?=cs[off1+p]? := by
   intro aD base h p hp;rw[h p hp,Array.getElem?_toList,Array.getElem?_extract,Yl oz]
  generalize hxv:a.eval x=u at hxr
  have hgrow:∀(c:Array Value)(olds:List Value)(sCap:Nat),olds.length=es.length*i.size->(∀p,p<es.length*i.size->olds[p]?=c[p]?) ->
    (∀(i':Nat)(e:AV),es[i']?=some e->e.cells.length=i.size)->(∀(i' j:Nat)(e x:AV),es[i']?=some e->e.cells[j]?=some x->x.one=true) ->
    (∀(i' j:Nat)(e:AV)(u:Value)(x:AV),es[i']?=some e->e.cells[j]?=some x->c[i'*i.size+j]?=some u->Rep (Im C.ext s'.hp m w) (Sz w) dl u x) ->
    next (a.put (some d) (.slice (some ⟨w.heap.size,0,none⟩) (es.length+xs.length) (grownCap w (es.length+xs.length) sCap E)))
     (w.drew.alloc (.cells (olds.toArray++(cs.extract off1 (off1+xs.length*i.size)).toList.toArray++Builtin.zeroCells z.cells (grownCap w (es.length+xs.length) sCap E-(es.length+xs.length))) E)):=by
   intro c olds sCap hol hoc hs0 ho0 hr0;have hzc:z.cells.size=i.size:=by rw[<- Array.length_toList];exact hz0
   have hcapge:es.length+xs.length<=grownCap w (es.length+xs.length) sCap E:=by simp only[grownCap,Question.cut];omega
   refine TM (es:=es) (xs:=xs) hr hfr hd ?_ hcapge ?_ hnext
   ·intro g S m' w' hg hS hw'
    refine CF (c := c) (cs := cs) (off := off1) hw' ?_ (by unfold a8; omega) hs0 ho0 (fun i' j e u x he hx hu => (hr0 i' j e u x he hx hu).mono hg hS (fun _ _ _ h => h)) hs1 ho1
     (fun i' j e x u he hx hu=>(hr1 i' j e x u he hx hu).mono hg hS (fun _ _ _ h=>h)) ?_ ?_
    ·simp only[Array.size_append,List.size_toArray,hol,hnl,Nat.add_mul];omega
    ·intro p hp;rw[Array.getElem?_append_left (by simp[hol];omega),Array.getElem?_append_left (by simp[hol];omega)];simpa using hoc p hp
    ·refine hnew' _ _ (fun p hp=>?_);rw[Array.getElem?_append_left (by simp only[Array.size_append,List.size_toArray,hol,hnl];omega),Array.getElem?_append_right (by simp only[List.size_toArray,hol];omega)];simp only[List.size_toArray,hol,List.getElem?_toArray];congr 1;omega
   ·simp only[Array.size_append,List.size_toArray,hol,hnl,size_zeroCells,hzc];rw[<- Nat.add_mul,<- Nat.add_mul];exact XY _ oz
  have hfits:∀sCap,sCap<es.length+xs.length->Builtin.nextslicecap (es.length+xs.length) sCap*i.bytes<=281474976710656:=fun sCap h=>growslice_fits h hb
  cases hxr with
  |ms0 a0 =>
   have hes:es=[]:=List.eq_nil_of_length_eq_zero oz;subst hes;have hg:=hgrow #[] [] 0 (by simp) (by simp) (by simp) (by simp) (by simp);simp only[XM,Nat.zero_add]at hg;cases a0 with
   |none =>
    have hrun:=run_append_nil w T t E i z hu2 hi hz ⟨b1,off1,none⟩ xs.length cap1 _ hnl hnc hxl oz (by simp only[XM,Nat.zero_add]at hb;omega);have hex:=pS (P:=P) (d:=some d) (x:=x) (y:=y) (pos:=pos) (after:=after) (ρ:=a.eval) (by rw[hxv,hyv];exact hrun);rw[hex];show next _ _;simpa using hg
   |some a0 =>
    have hrun := run_append_grow w T t E i z hu2 hi hz a0 0 0 [] (by simp) (by simp) ⟨b1, off1, none⟩ xs.length cap1 _ hnl hnc oz oz
     (by have:=hfits 0 (by simp;omega);simpa using this)
    have hex:=pS (P:=P) (d:=some d) (x:=x) (y:=y) (pos:=pos) (after:=after) (ρ:=a.eval) (by rw[hxv,hyv];exact hrun);rw[hex];show next _ _;simpa using hg
  | @ms _ _ _ _ _ cap b hm hc hS =>
   subst hll;obtain⟨c,t2,hw,hn,hl,hs0,ho0,hr0⟩:=uk hr.heap hkk hm;have hcap:=MG hr hw hS;simp only[Nat.zero_add,Nat.zero_mul]at hcap hxv
   by_cases hroom:es.length+xs.length<=cap
   ·have hle2:(es.length + xs.length) * i.size <= c.size:=XW (XY _ hroom) hcap;rw [Nat.add_mul] at hle2;have hrun:=MB (P:=P) (t:=t) hT hkd hE hw _ hnl hnc hn1 hroom hle2 (cap':=cap1) (len:=es.length);have hex:=pS (P:=P) (d:=some d) (x:=x) (y:=y) (pos:=pos) (after:=after) (ρ:=a.eval) (by rw [hxv,hyv]; exact hrun);rw [hex]
    have hcs:(over c.toList (es.length*i.size) (cs.extract off1 (off1+xs.length*i.size)).toList).toArray.size=c.size:=by
     simp only[List.size_toArray];rw[sM _ _ _ (by rw[hnl];simp;omega)];simp
    have hr2:=hr.write (x':=.row i.size (es++xs)) hkk hm hw hcs rfl (by
     intro g S hg hS hw'
     refine CF (c := c) (cs := cs) (off := off1) hw' (by rw [hcs, Nat.add_mul]; omega) (by unfold a8; omega) hs0 ho0 (fun i' j e u x he hx hu => (hr0 i' j e u x he hx hu).mono hg hS (fun _ _ _ h => h)) hs1 ho1
      (fun i' j e x u he hx hu=>(hr1 i' j e x u he hx hu).mono hg hS (fun _ _ _ h=>h)) ?_ ?_
     ·intro p hp;rw[List.getElem?_toArray,ja _ _ _ (by rw[hnl];simp;omega),Yl hp,Array.getElem?_toList]
     ·refine hnew' _ _ (fun p hp=>?_);rw[List.getElem?_toArray,ja _ _ _ (by rw[hnl];simp;omega),Yk oz,Yl (by rw[hnl];omega)];congr 1;omega)
    have hr3:=hr2.rk (k:=k) (d:=d) (y:=.row i.size (es++xs)) (by simp[aT]) (Fresh.row hfr hdk (fun h=>h))
    have hr4:RelM C ⟨s'.sl,(d,some (.row i.size (es++xs)))::(k,none)::s'.hp⟩ (fun k'=>if k'=d then m k else m k') a
      { w with heap:=w.heap.setIfInBounds b (.cells (over c.toList (es.length*i.size) (cs.extract off1 (off1+xs.length*i.size)).toList).toArray t2 (0,0)) }:=by
     refine RelM.congr ?_ ?_ hr3
     ·intro t;rfl
     intro k';simp only[AS.blk,aT];split
     ·rfl
     ·split <;> rfl
    refine xt hr4 hd ?_ hnext
    have:=Rep.ms (g:=Im C.ext ((d,some (.row i.size (es++xs)))::(k,none)::s'.hp) (fun k'=>if k'=d then m k else m k')
      { w with heap:=w.heap.setIfInBounds b (.cells (over c.toList (es.length*i.size) (cs.extract off1 (off1+xs.length*i.size)).toList).toArray t2 (0,0)) })
     (S:=Sz { w with heap:=w.heap.setIfInBounds b (.cells (over c.toList (es.length*i.size) (cs.extract off1 (off1+xs.length*i.size)).toList).toArray t2 (0,0)) })
     (m:=fun k'=>if k'=d then m k else m k') (k:=d) (sz:=i.size) (off:=0) (len:=es.length+xs.length) (cap:=cap) (b:=b)
     (by rw [Yl rfl]; exact hm) hroom ⟨_, t2, (0, 0), by
      show(w.heap.setIfInBounds b _)[b]?=_;rw[Array.getElem?_setIfInBounds,Yl rfl,Yl (ww hw)],by rw[hcs,Nat.zero_add];exact hcap⟩
    simpa using this
   ·have holl : (c.extract 0 (es.length * i.size)).toList.length = es.length * i.size := by simp; omega
    have hg:=hgrow c (c.extract 0 (es.length*i.size)).toList cap holl (by
     intro p hp;rw[Array.getElem?_toList,Array.getElem?_extract,Yl oz,Nat.zero_add]) hs0 ho0 hr0
    have hrun:=run_append_grow w T t E i z hu2 hi hz ⟨b,0,none⟩ es.length cap (c.extract 0 (es.length*i.size)).toList holl (by
     intro j v hj;rw[iV,rc hw];rw[Array.getElem?_toList,Array.getElem?_extract]at hj;split at hj
     ·simpa using hj
     ·cases hj) ⟨b1,off1,none⟩ xs.length cap1 _ hnl hnc oz oz (hfits cap oz)
    have hex:=pS (P:=P) (d:=some d) (x:=x) (y:=y) (pos:=pos) (after:=after) (ρ:=a.eval) (by rw[hxv,hyv];exact hrun);rw[hex];exact hg
theorem bX{d k sz len:Nat}{es xs:List AV}{x y:Operand}{T E t:TypeId}{ti te:TI}
  (hx:Ev s x (.ms k sz 0 len)) (hk:s.blk k=some (.row sz es)) (hlen:len=es.length) (hy:Ev s y (.lst sz xs)) (hT:aC P T=some ti) (hkd:ti.k=.slice E) (hE:aC P E=some te)
  (hsz:te.size=sz) (hz0:(Nat.beq te.zero.length te.size&&Nat.blt 0 te.size&&Nat.blt 0 te.bytes)=true) (hb:(len+xs.length)*te.bytes<=140737488355328) (hdk:Nat.beq d k=false)
  (hN:Nat.blt d N=true) :
  Step P N R s ⟨some d,.call ⟨.builtin .append,#[x,y],#[T,T]⟩,t,pos,after,none⟩
   ⟨some (.ms d sz 0 (len+xs.length)),[(d,some (.row sz (es++xs))),(k,none)],au x++au y,[k]⟩ :=
 Xv hx (fun _ _ _ _ h=>h) hk hlen hy hT hkd hE hsz hz0 hb hdk hN
end Go.Lw
namespace Go.Lw
variable{P:Program}{N:Nat}{R:Array Oper}{s:AS}{pos:String}{after:Array Edge}
def sI(P:Program)(f:FuncId):Prop:=∀args w,(callFunc f args).run P w=.ok (.enter f args) w
theorem J6 {f : FuncId} {fn : Func} {c : Code} (hf : P.funcs[f]? = some fn) (hb : fn.body = some c) (hn : (fn.name == "runtime.NumGoroutine") = false) : sI P f := by
 intro args w;have hn' : ¬ fn.name = "runtime.NumGoroutine" := by simpa using hn
 simp[callFunc,hf,hb,hn']
structure Con(P:Program)(f:FuncId)(args:List AV)(H:Hp)(r:AV)(H':Hp):Prop where
  ok:sI P f
  ret:Sf P f args H r H'
abbrev gO(P:Program)(f:FuncId)(args:List AV)(r:AV):Prop:=Con P f args [] r []
theorem UR{ρ:Operand->Value}{o:Oper}{f:FuncId}{args:Array Operand}{ts:Array TypeId}{w:World}{vs:Array Value}(ho:o.op=.call ⟨.value (.func f),args,ts⟩)
  (hρ:ρ (.func f)=.func (.func f) #[] #[]) (hok:sI P f) (hvs:args.map ρ=vs):(execOp ρ o).run P w=.ok (.enter f vs) w:=by
 subst hvs;have:=hok (args.map ρ) w;obtain⟨dst,op,type,pos,after,guard⟩:=o;subst ho;simp[execOp,resolve,hρ,Deferred.ofValue,invoke,this]
theorem V1{ρ:Operand->Value}{o:Oper}{g:Operand}{f:FuncId}{caps:Array Value}{args:Array Operand}{ts:Array TypeId}{w:World}{vs:Array Value}(ho:o.op=.call ⟨.value g,args,ts⟩)
  (hρ:ρ g=.func (.func f) #[] caps) (hok:sI P f) (hvs:args.map ρ++caps=vs):(execOp ρ o).run P w=.ok (.enter f vs) w:=by
 subst hvs;have:=hok (args.map ρ++caps) w;obtain⟨dst,op,type,pos,after,guard⟩:=o;subst ho;simp[execOp,resolve,hρ,Deferred.ofValue,invoke,this]
def gQ(H:Hp)(k:Nat):Bool:=match lk H k with |some _=>true |none=>false
theorem gU{H:Hp}{k:Nat}:gQ H k=true↔∃z,lk H k=some z:=by
 unfold gQ;cases lk H k <;> simp
def rU(r:AV)(H':Hp):Bool :=
  (r.nm.all fun k=>gQ H' k)&&H'.all fun p=>match p.2 with |some x=>x.nm.all fun k=>gQ H' k |none=>true
def dp(H:Hp):Hp:=H.map fun p=>(p.1,none)
theorem PP(H:Hp)(k:Nat):lk (dp H) k=none:=by
 induction H with
 |nil=>rfl
 |cons p H ih =>
  obtain⟨k',x⟩:=p;simp only[dp,Yi,aT];split
  ·rfl
  ·exact ih
theorem mX{H:Hp}{k:Nat}{z:Blk}(h:lk H k=some z):k∈H.map (·.1):=List.mem_map.2 ⟨_,mC h,rfl⟩
theorem RelM.called{C:Ctx}{m:Nat->Option Nat}{a:Act}{w:World}(hr:RelM C s m a w){run:Array Value->World->(Ending->World->Prop)->Prop}(hmono:∀vs w R R',run vs w R->(∀e w',R e w'->R' e w')->run vs w R'){xs:List AV}{H H':Hp}{r:AV}(hcon:y9 run xs H r H'){vs:Array Value}
  (hvs:vs.size=xs.length) (hrep:∀(j:Nat) v x,vs[j]?=some v->xs[j]?=some x->Rep (Im C.ext s.hp m w) (Sz w) m v x)
  (hH:∀k z,lk H k=some z->lk s.hp k=some z) (hnew:∀k z,lk H' k=some z->(∃y,lk H k=some y)\/s.Fresh k)
  (hHk:∀k∈H.map (·.1),gQ H k=true) (hnm:rU r H'=true) :
  run vs w fun e w'=>∃v m'',e=.returned v/\RelM C ⟨s.sl,H'++dp H++s.hp⟩ m'' a w'/\Rep (Im C.ext (H'++dp H++s.hp) m'' w') (Sz w') m'' v r /\
   ∀k y z,lk H k=some y->lk H' k=some z->m'' k=m k:=by
 simp only[rU,XF,X9]at hnm;obtain⟨hnm1,hnm2⟩:=hnm
 let ext':Nat->Prop:=fun b=>C.ext b\/∃k z,lk s.hp k=some z/\lk H k=none/\m k=some b
 have hown:∀b,a9 H m b->a9 s.hp m b:=fun b ⟨k,z,h1,h2⟩=>⟨k,z,hH k z h1,h2⟩
 have him:∀b cs,Im C.ext s.hp m w b cs->Im ext' H m w b cs:=by
  rintro b cs ⟨h1,h2,h3⟩;refine⟨?_,fun h=>h2 (hown b h),h3⟩;rintro(h |⟨k,z,hk,_,hb⟩)
  ·exact h1 h
  ·exact h2 ⟨k,z,hk,hb⟩
 have hheap:HeapRel ext' H m w:=by
  refine⟨?_,?_,?_⟩
  ·intro k z hk;exact BlkRep.mono (w:=w) him (fun _ _ h=>h) (fun _ _ _ h=>h) rfl (fun _ _=>rfl) (hr.heap.blk k z (hH k z hk))
  ·intro k k' z z' b h1 h2;exact hr.heap.inj k k' z z' b (hH _ _ h1) (hH _ _ h2)
  ·intro k z b hk hb;have:=hr.heap.sep k z b (hH k z hk) hb;refine⟨?_,this.2⟩;rintro(h |⟨k2,z2,hk2,hn2,hb2⟩)
   ·exact this.1 h
   ·have:=hr.heap.inj k k2 z z2 b (hH k z hk) hk2 hb hb2;subst this;rw[hk]at hn2;cases hn2
 have hext':∀b,ext' b->b<w.heap.size:=by
  rintro b (h |⟨k,z,hk,_,hb⟩)
  ·exact hr.ext_lt h
  ·exact(hr.heap.sep k z b hk hb).2
 refine hmono _ _ _ _ (hcon ext' m w vs hext' hheap hvs (fun j v x h1 h2=>(hrep j v x h1 h2).mono him (fun _ _ h=>h) (fun _ _ _ h=>h))) ?_;rintro e w' ⟨v,m',rfl,hf,hh',hown',hkeep,hrr⟩
 have hkeys:∀k,k∈(dp H).map (·.1)->gQ H k=true:=by
  intro k hk;apply hHk;simpa[dp]using hk
 have hlk:∀k z,lk (H'++dp H++s.hp) k=some z->lk H' k=some z\/(gQ H' k=false/\lk H k=none/\lk s.hp k=some z):=by
  intro k z hz;rw[Ye,nG]at hz;split at hz
  ·exact .inl hz
  ·rename_i h1
   have ha:gQ H' k=false:=by
    cases h:gQ H' k with
    |false=>rfl
    |true=>obtain⟨z',hz'⟩:=gU.1 h;exact absurd (mX hz') h1
   rw[nG]at hz;split at hz
   ·rw[PP]at hz;cases hz
   ·rename_i h2;refine .inr ⟨ha,?_,hz⟩;cases h:lk H k with
    |none=>rfl
    |some y=>exact absurd (by simpa[dp]using mX h) h2
 let m'':Nat->Option Nat:=fun k=>if gQ H' k=true then m' k else m k
 have hm1:∀k,gQ H' k=true->m'' k=m' k:=fun k h=>Yl h
 have hm2:∀k,gQ H' k=false->m'' k=m k:=fun k h=>Yk (by simp[h])
 have hstay:∀(k:Nat) b,¬s.Fresh k->m k=some b->m'' k=some b:=by
  intro k b hnf hb;cases h:gQ H' k with
  |false=>rw[hm2 k h];exact hb
  |true =>
   rw[hm1 k h];obtain⟨z,hz⟩:=gU.1 h;rcases hnew k z hz with⟨y,hy⟩ |hfr
   ·rw[hkeep k y z hy hz];exact hb
   ·exact absurd hfr hnf
 have hf':Frame (a9 s.hp m) w w':=⟨hf.os,hf.tape,hf.output,hf.size,hf.sz,fun b hb hn=>hf.keep b hb (fun h=>hn (hown b h))⟩
 have hal:∀k z b,lk (H'++dp H++s.hp) k=some z->m'' k=some b->a9 s.hp m b\/w.heap.size<=b:=by
  intro k z b hz hb;rcases hlk k z hz with h |⟨h1,h2,h3⟩
  ·rw[hm1 k (gU.2 ⟨z,h⟩)]at hb;rcases hown' k z b h hb with h' |h'
   ·exact .inl (hown b h')
   ·exact .inr h'
  ·rw[hm2 k h1]at hb;exact .inl ⟨k,z,h3,hb⟩
 have him':∀b cs,Im ext' H' m' w' b cs->Im C.ext (H'++dp H++s.hp) m'' w' b cs:=by
  rintro b cs ⟨h1,h2,h3⟩;refine⟨fun h=>h1 (.inl h),?_,h3⟩;rintro⟨k,z,hz,hb⟩;rcases hlk k z hz with h |⟨g1,g2,g3⟩
  ·rw[hm1 k (gU.2 ⟨z,h⟩)]at hb;exact h2 ⟨k,z,h,hb⟩
  ·rw[hm2 k g1]at hb;exact h1 (.inr ⟨k,z,g3,g2,hb⟩)
 refine⟨v,m'',rfl,hr.update hf' ?_ hal ?_ ⟨?_,?_,?_⟩,hrr.mono him' (fun _ _ h=>h) ?_,fun k y z hy hz=>by rw[hm1 k (gU.2 ⟨z,hz⟩)];exact hkeep k y z hy hz⟩
 ·intro t x k b hx hn hb;exact hstay k b (fun hfr=>hfr.2.2.1 t x hx hn) hb
 ·intro k z h1000 hz;rcases hlk k z hz with h |⟨h1,h2,h3⟩
  ·rcases hnew k z h with⟨y,hy⟩ |hfr
   ·exact⟨⟨y,hH k y hy⟩,by rw[hm1 k (gU.2 ⟨z,h⟩)];exact hkeep k y z hy h⟩
   ·have:=hfr.2.1;omega
  ·exact⟨⟨z,h3⟩,hm2 k h1⟩
 ·intro k z hz;rcases hlk k z hz with h |⟨h1,h2,h3⟩
  ·rw[hm1 k (gU.2 ⟨z,h⟩)];refine BlkRep.mono (w:=w') him' (fun _ _ h=>h) ?_ rfl (fun _ _=>rfl) (hh'.blk k z h);intro k2 b hn hb;have:=hnm2 _ (mC h);simp only[X9]at this;rw[hm1 k2 (this k2 hn.mem)];exact hb
  ·rw[hm2 k h1];refine BlkRep.mono (w:=w) (eU hf' hal) hf.sz ?_ rfl ?_ (hr.heap.blk k z h3)
   ·intro k2 b hn hb;exact hstay k2 b (fun hfr=>hfr.2.2.2 k z h3 hn) hb
   ·intro b hb;refine hf.keep b (hr.heap.sep k z b h3 hb).2 ?_;rintro⟨k2,z2,hk2,hb2⟩;have:=hr.heap.inj k k2 z z2 b h3 (hH k2 z2 hk2) hb hb2;subst this;rw[h2]at hk2;cases hk2
 ·intro k1 k2 z1 z2 b h1 h2 hb1 hb2;rcases hlk k1 z1 h1 with e |⟨e1,e2,e3⟩ <;> rcases hlk k2 z2 h2 with g |⟨g1,g2,g3⟩
  ·rw[hm1 k1 (gU.2 ⟨z1,e⟩)]at hb1;rw[hm1 k2 (gU.2 ⟨z2,g⟩)]at hb2
   exact hh'.inj k1 k2 z1 z2 b e g hb1 hb2
  ·rw[hm1 k1 (gU.2 ⟨z1,e⟩)]at hb1;rw[hm2 k2 g1]at hb2
   exact absurd (.inr ⟨k2,z2,g3,g2,hb2⟩) (hh'.sep k1 z1 b e hb1).1
  ·rw[hm2 k1 e1]at hb1;rw[hm1 k2 (gU.2 ⟨z2,g⟩)]at hb2
   exact absurd (.inr ⟨k1,z1,e3,e2,hb1⟩) (hh'.sep k2 z2 b g hb2).1
  ·rw[hm2 k1 e1]at hb1;rw[hm2 k2 g1]at hb2
   exact hr.heap.inj k1 k2 z1 z2 b e3 g3 hb1 hb2
 ·intro k z b hz hb;rcases hlk k z hz with h |⟨h1,h2,h3⟩
  ·rw[hm1 k (gU.2 ⟨z,h⟩)]at hb;have:=hh'.sep k z b h hb;exact⟨fun hc=>this.1 (.inl hc),this.2⟩
  ·rw[hm2 k h1]at hb;have:=hr.heap.sep k z b h3 hb;exact⟨this.1,XS this.2 hf.size⟩
 ·intro k b hn hb;rw[hm1 k (hnm1 k hn.mem)];exact hb
end Go.Lw
namespace Go.Lw
variable{P:Program}{N:Nat}{R:Array Oper}{s:AS}{pos:String}{after:Array Edge}
def iA(s:AS)(H H':Hp)(r:AV):Bool:=(H.all fun p=>gQ H p.1)&&rU r H'
theorem zJ{o:Oper}{f:FuncId}{xs:List AV}{H H':Hp}{r:AV}{rt:List Nat}{x:Option AV}(hg:o.guard=none)(hd:∀d,o.dst=some d->Nat.blt d N=true/\x=some r)
  (hcon:Con P f xs H r H') (hH:∀k z,lk H k=some z->s.blk k=some z) (hok:iA s H H' r=true)
  (h:∀s',(∀t∈rt,s'.get t=s.get t)->∀C m a w,RelM C s' m a w->∃vs:Array Value,(execOp a.eval o).run P w=.ok (.enter f vs) w/\vs.size=xs.length /\
   ∀(j:Nat) v x,vs[j]?=some v->xs[j]?=some x->Rep (Im C.ext s'.hp m w) (Sz w) m v x) :
  Step P N R s o ⟨x,H'++dp H,rt,H.map (·.1)⟩:=by
 refine A4 hg ?_;intro s' hag hnew C m a w next hC hr hnext;simp only[iA,XF,X9]at hok;obtain⟨hok1,hok2⟩:=hok;obtain⟨vs,h1,h2,h3⟩:=h s' hag.1 C m a w hr;rw[h1]
 have hc := hr.called (run := Calls P f) (fun _ _ _ _ h h' => Calls.mono h h') hcon.ret h2 h3 (fun k z hz => by rw [<- hH k z hz]; exact hag.2 k (mX hz)) (by
  intro k z hz;rcases hnew k (by simp only[XQ,mem_append];exact .inl (mX hz))with h |h
  ·obtain⟨p,hp,rfl⟩:=List.mem_map.1 h;exact .inl (gU.1 (hok1 p hp))
  ·exact .inr h) (by
  intro k hk;obtain⟨p,hp,rfl⟩:=List.mem_map.1 hk;exact hok1 p hp) hok2
 refine Calls.mono hc ?_;rintro e w' ⟨v,m'',rfl,hr',hrr,_⟩;cases hdst:o.dst with
 |none =>
  refine hnext m'' _ _ ?_;simpa[AS.app,hdst,Act.put]using hr'
 |some d =>
  obtain⟨hN,rfl⟩:=hd d hdst;rw[Nat.blt_eq]at hN;refine hnext m'' _ _ ?_;have:=hr'.put d v (some r) (fun z hz=>by cases hz;exact⟨by have:=hr'.nt;omega,hrr⟩);simpa[AS.app,hdst,Act.put]using this
theorem aH{d f:Nat}{args:Array Operand}{ts:Array TypeId}{xs:List AV}{H H':Hp}{r:AV}{t:TypeId}
  (hcon:Con P f xs H r H') (ha:EvL s args.toList xs) (hH:∀k z,lk H k=some z->s.blk k=some z) (hok:iA s H H' r=true) (hN:Nat.blt d N=true) :
  Step P N R s ⟨some d,.call ⟨.value (.func f),args,ts⟩,t,pos,after,none⟩ ⟨some r,H'++dp H,eG args.toList,H.map (·.1)⟩ :=
 zJ rfl (fun d' h => by cases h; exact ⟨hN, rfl⟩) hcon hH hok fun s' hag C m a w hr => by
  have ha':=ha.agree (u:=⟨none,[],eG args.toList,[]⟩) ⟨hag,fun k hk=>by cases hk⟩ (fun _ h=>h);refine⟨args.map a.eval,UR rfl rfl hcon.ok rfl,?_,?_⟩
  ·have:=ha'.length;simpa using this
  ·intro j v x hv hx;exact ha'.rep hr j v x (by simpa using hv) hx
theorem SU{d f:Nat}{args:Array Operand}{ts:Array TypeId}{xs:List AV}{r:AV}{t:TypeId}
  (hcon:gO P f xs r) (ha:EvL s args.toList xs) (hnm:r.nm=[]) (hN:Nat.blt d N=true) :
  Step P N R s ⟨some d,.call ⟨.value (.func f),args,ts⟩,t,pos,after,none⟩ ⟨some r,[],eG args.toList,[]⟩ :=
 aH hcon ha (fun k z h=>by cases h) (by simp[iA,rU,hnm]) hN
theorem vK{d f:Nat}{g:Operand}{args:Array Operand}{ts:Array TypeId}{xs caps:List AV}{H H':Hp}{r:AV}{t:TypeId}
  (hg:Ev s g (.fn f caps)) (hcon:Con P f (xs++caps) H r H') (ha:EvL s args.toList xs) (hH:∀k z,lk H k=some z->s.blk k=some z) (hok:iA s H H' r=true) (hN:Nat.blt d N=true) :
  Step P N R s ⟨some d,.call ⟨.value g,args,ts⟩,t,pos,after,none⟩ ⟨some r,H'++dp H,au g++eG args.toList,H.map (·.1)⟩ :=
 zJ rfl (fun d' h => by cases h; exact ⟨hN, rfl⟩) hcon hH hok fun s' hag C m a w hr => by
  have hag':f9 s s' ⟨none,[],au g++eG args.toList,[]⟩:=⟨hag,fun k hk=>by cases hk⟩
  have ha':=ha.agree hag' (fun _ h=>List.mem_append.2 (.inr h));have hgr:=(hg.agree hag' (fun _ h=>List.mem_append.2 (.inl h))).rep hr;generalize hv:a.eval g=u at hgr;cases hgr with
  | @fn _ _ cvs _ hn hrr =>
   have hl:=ha'.length;refine⟨args.map a.eval++cvs,V1 rfl hv hcon.ok rfl,by simp[hn];simpa using hl,?_⟩;intro j v x hv hx;rcases XH j xs.length with h |h
   ·rw[XU h]at hx;rw[Array.getElem?_append_left (by simp;simp at hl;omega)]at hv;exact ha'.rep hr j v x (by simpa using hv) hx
   ·rw[XT h]at hx;rw[Array.getElem?_append_right (by simp;simp at hl;omega)]at hv;refine hrr (j-xs.length) v x ?_ hx;rw[<- hv];congr 1;simp at hl ⊢;omega
inductive ResV(P:Program)(s:AS):ResultVar->AV->Prop
  |tmp {t:Nat} {x:AV} (h:s.get t=some x):ResV P s (.tmp t) x
  |cell {t k:Nat} {cs:List AV} {T:TypeId} {ti:TI} (h:s.get t=some (.ptr k 0)) (hk:s.blk k=some (.box cs)) (hT:aC P T=some ti)
      (hle:Nat.ble ti.size cs.length=true) (h1:(ti.ag||Nat.beq ti.size 1)=true):ResV P s (.cell t T) (kH ti.ag (cs.take ti.size))
inductive ResL(P:Program)(s:AS):List ResultVar->List AV->Prop
  |nil:ResL P s [] []
  |cons {r:ResultVar} {x:AV} {rs:List ResultVar} {xs:List AV} (h:ResV P s r x) (hs:ResL P s rs xs):ResL P s (r::rs) (x::xs)
def d7:List AV->AV
  |[x]=>x
  |xs=>.tup xs
def wk(tmps:Array Value):ResultVar->Sem Value
  | .tmp t=>pure (tmps.getD t undef)
  | .cell a t=>do loadVar t (<- asAddr (tmps.getD a undef))
theorem OK(fn:Func)(tmps:Array Value) :
  results fn tmps=(fn.results.mapM (wk tmps) >>= fun vs=>pure (if h:vs.size=1 then vs[0]else .tuple vs)):=by
 unfold results;congr 2
theorem ResV.run{x:AV}{r:ResultVar}(h:ResV P s r x){C:Ctx}{m:Nat->Option Nat}{a:Act}{w:World}(hr:RelM C s m a w) :
  ∃v,(wk a.tmps r).run P w=.ok v w/\Rep (Im C.ext s.hp m w) (Sz w) m v x:=by
 cases h with
 |tmp h=>exact⟨_,rfl,(hr.slots _ _ h).2⟩
 | @cell t k cs T ti h hk hT hle h1 =>
  rw[Nat.ble_eq]at hle;have h1:ti.ag=true\/ti.size=1:=by simpa using h1
  obtain⟨b,hm,hv⟩:=pz hr (Ev.tmp h);obtain⟨c,t2,hw,hn,ho,hrr⟩:=wW hr.heap hk hm;have hv':a.tmps.getD t undef=.pointer (some ⟨b,0,none⟩):=hv;refine⟨_,by simp only[wk,hv',Sem.run_bind,asAddr,Sem.run_pure,Result.andThen_ok];exact xH hT hw (by omega:0+ti.size<=c.size) h1,?_⟩;refine vn (c:=c) (off:=0) (n:=ti.size) (by simp;omega) oz h1 ?_ ?_
  ·intro j y hy;rw[X0]at hy;split at hy
   ·exact ho _ y hy
   ·cases hy
  ·intro j u y hy hu;rw[X0]at hy;split at hy
   ·exact hrr _ u y (by simpa using hu) hy
   ·cases hy
theorem LM{g:Nat->Array Value->Prop}{S:Nat->Nat->Prop}{m:Nat->Option Nat}:∀(vs:List Value)(xs:List AV),vs.length=xs.length ->
  (∀(j:Nat) v x,vs[j]?=some v->xs[j]?=some x->Rep g S m v x) ->
  Rep g S m (if h:vs.toArray.size=1 then vs.toArray[0]else .tuple vs.toArray) (d7 xs)
 |[],[],_,_=>by simp[d7];exact .tup rfl (by simp)
 |[v],[x],_,h=>by simp[d7];exact h 0 v x rfl rfl
 |v::v'::vs,x::x'::xs,h2,h=>by
  simp[d7];exact .tup (by simpa using h2) (fun j u c hu hc=>h j u c (by simpa using hu) hc)
theorem QE{fn:Func}{rs:List ResultVar}{xs:List AV}(hfn:fn.results=rs.toArray)(h:ResL P s rs xs){C:Ctx}{m:Nat->Option Nat}{a:Act}{w:World}(hr:RelM C s m a w) :
  ∃v,(results fn a.tmps).run P w=.ok v w/\Rep (Im C.ext s.hp m w) (Sz w) m v (d7 xs):=by
 have key:∃vs:List Value,(rs.mapM (wk a.tmps)).run P w=.ok vs w /\
   vs.length=xs.length/\∀(j:Nat) v x,vs[j]?=some v->xs[j]?=some x->Rep (Im C.ext s.hp m w) (Sz w) m v x:=by
  clear hfn
  induction h with
  |nil=>exact⟨[],by simp,rfl,by simp⟩
  |cons h1 _ ih =>
   obtain⟨v,h2,h3⟩:=h1.run hr;obtain⟨vs,h4,h5,h6⟩:=ih;refine⟨v::vs,by simp only[List.mapM_cons,Sem.run_bind,h2,Result.andThen_ok,h4,Sem.run_pure],by simp[h5],?_⟩;intro j v' x hv hx;cases j with
   |zero=>simp at hv hx;subst hv;subst hx;exact h3
   |succ j=>exact h6 j v' x (by simpa using hv) (by simpa using hx)
 obtain⟨vs,h1,h2,h3⟩:=key;refine⟨_,?_,LM vs xs h2 h3⟩;rw[OK,hfn,Array.mapM_eq_mapM_toList];simp only[Sem.run_bind,Sem.run_map,h1,Result.andThen_ok,Sem.run_pure]
def az(s:AS)(x:AV)(r:AV)(H':Hp):Prop :=
  ∀ext m w v,HeapRel ext s.hp m w->(∀b,ext b->b<w.heap.size)->Rep (Im ext s.hp m w) (Sz w) m v x ->
    ∃m',HeapRel ext H' m' w/\(∀k z b,lk H' k=some z->m' k=some b->a9 s.hp m b)/\(∀k z,1000<=k->lk H' k=some z->(∃y,lk s.hp k=some y)/\m' k=m k) /\
      Rep (Im ext H' m' w) (Sz w) m' v r
def lY(P:Program)(rs:List ResultVar)(r:AV)(H':Hp):Exit->AS->Prop
  | .normal,s | .ret,s=>∃xs,ResL P s rs xs/\az s (d7 xs) r H'
  |_,_=>False
def mo:Nat->List AV->bO
  |_,[]=>[]
  |n,x::xs=>(n,some x)::mo (n+1) xs
theorem F8:∀(xs:List AV)(n t:Nat)(x:AV),lk (mo n xs) t=some x->n<=t/\xs[t-n]?=some x
 |[],n,t,x,h=>by simp[mo,lk]at h
 |y::ys,n,t,x,h=>by
  simp only[mo,aT]at h;split at h
  ·cases h;subst_vars;simp
  ·obtain⟨h1,h2⟩:=F8 ys (n+1) t x h;refine⟨by omega,?_⟩;rw[show t-n=(t-(n+1))+1 by omega,List.getElem?_cons_succ];exact h2
theorem RelM.unmark{C:Ctx}{m:Nat->Option Nat}{a:Act}{w:World}(h:RelM C s m a w){D:Nat}{l:List Deferred}(h1:C.w0.heap.size<=D)(h2:w.heap[D]?=some (.deferred (some [])))
  (hl:qf C.w0.heap.size l (w.putObj D (.deferred none))):RelM C s m { a with defers:=l } (w.putObj D (.deferred none)):=by
 have hlt:=h.heap.lt h2;have hoth:∀b,b≠D->(w.putObj D (.deferred none)).heap[b]?=w.heap[b]? := fun b hb=>World.putObj_heap_other hb
 have hc:∀(b:Nat)(cs:Array Value)(t:TypeId)(f:Nat×Nat),w.heap[b]?=some (Obj.cells cs t f)->(w.putObj D (.deferred none)).heap[b]?=some (Obj.cells cs t f):=fun b cs t f hb=>by
  rw[hoth b (fun e=>by rw[e,h2]at hb;cases hb)];exact hb
 have him:∀b cs,Im C.ext s.hp m w b cs->Im C.ext s.hp m (w.putObj D (.deferred none)) b cs:=fun b cs ⟨e1,e2,t,f,e3⟩=>⟨e1,e2,t,f,hc _ _ _ _ e3⟩
 have hsz:∀b n,Sz w b n->Sz (w.putObj D (.deferred none)) b n:=fun b n ⟨c,t,f,e1,e2⟩=>⟨c,t,f,hc _ _ _ _ e1,e2⟩
 refine⟨fun t x hx=>⟨(h.slots t x hx).1,(h.slots t x hx).2.mono him hsz (fun _ _ _ h=>h)⟩,⟨?_,h.heap.inj,fun k x b hk hb=>⟨(h.heap.sep k x b hk hb).1,by simpa[World.putObj]using(h.heap.sep k x b hk hb).2⟩⟩,?_,h.new,h.keep,hl,h.nt⟩
 ·intro k x hk;refine BlkRep.mono him hsz (fun _ _ _ h=>h) rfl (fun b hb=>hoth b (fun e=>?_)) (h.heap.blk k x hk);subst e;exact h.heap.cells hk hb h2
 ·refine⟨h.frame.os,h.frame.tape,h.frame.output,by simpa[World.putObj]using h.frame.size,fun b n hs => hsz b n (h.frame.sz b n hs),fun b hb hn => ?_⟩;rw[hoth b oz];exact h.frame.keep b hb hn
theorem GR{C:Ctx}{fn:Func}{n:Nat}{R:Ending->World->Prop}(hR:∀m a w,a.defers=[]->RelM C s m a w->∃v,(results fn a.tmps).run P w=.ok v w/\R (.returned v) w) :
  ∀(Ds:List Nat)(m:Nat->Option Nat)(a:Act)(w:World),a.defers=Ds.map qI->Ds.Nodup->(∀D∈Ds,C.w0.heap.size<=D/\w.heap[D]?=some (.deferred (some [])))->RelM C s m a w ->
   LeavesInM Fence.wide n P fn a.tmps R a.defers .returning w
 |[],m,a,w,ha,hn,hD,h=>by
  have hn:a.defers=[]:=ha;rw[hn];exact hR m a w hn h
 |D::Ds,m,a,w,ha,hn,hD,h=>by
  obtain⟨h1,h2⟩:=hD D (X7 ..);rw[ha];refine⟨by simp,.inl ⟨D,_,rfl,run_takeDeferred h2,?_⟩⟩;obtain⟨hnd,hn'⟩:=List.nodup_cons.1 hn
  have hD':∀D'∈Ds,C.w0.heap.size<=D'/\(w.putObj D (.deferred none)).heap[D']?=some (.deferred (some [])):=fun D' hm=>by
   obtain⟨g1,g2⟩:=hD D' (X8 _ hm);have hne:D'≠D:=fun e=>hnd (by rw[<- e];exact hm)
   exact⟨g1,by rw[World.putObj_heap_other hne];exact g2⟩
  exact GR hR Ds m { a with defers:=Ds.map qI } _ rfl hn' hD' (h.unmark h1 h2 ⟨Ds,rfl,hn',hD'⟩)
theorem F0{f:FuncId}{fn:Func}{c:Code}{rs:List ResultVar}{args:List AV}{H:Hp}{r:AV}{H':Hp}(hf:P.funcs[f]?=some fn)(hb:fn.body=some c)
    (hn : (fn.name == "runtime.NumGoroutine") = false) (hrs : fn.results = rs.toArray) (hN : fn.ntmps = N) (hH : ∀ k z, lk H k = some z -> 1000 <= k)
    (h:j6 P N c (lY P rs r H') ⟨mo 0 args,H⟩):Con P f args H r H':=by
  refine⟨J6 hf hb hn,?_⟩;intro ext m w vs hext hheap hvs hrep;refine(callsIn_wide (n:=0)).1 (callsIn_of_wp_marks hf hb trivial ?_ rfl)
  let C:Ctx:=⟨w,ext,a9 H m,m,N,hext,none⟩
  have hr0:RelM C ⟨mo 0 args,H⟩ m { tmps:=vs++Array.replicate (fn.ntmps-vs.size) undef,defers:=[] } w:=by
    refine⟨?_,hheap,Frame.refl _ _,fun k x b h1 h2=>.inl ⟨k,x,h1,h2⟩,fun _ _ _ _=>rfl,qf.nil _ _,?_⟩
    · intro t x hx
      obtain⟨_,h2⟩:=F8 args 0 t x hx;simp only[Nat.sub_zero]at h2
      have ht:t<args.length:=by
        rcases XH t args.length with h |h
        · exact h
        · rw[XN h]at h2;cases h2
      have ht':t<vs.size:=by omega
      refine⟨by simp;omega,?_⟩
      have:(vs++Array.replicate (fn.ntmps-vs.size) undef).getD t undef=vs[t]:=by
        rw[XI,Array.getElem?_append_left ht',Array.getElem?_eq_getElem ht'];rfl
      simp only[this];exact hrep t vs[t] x (Array.getElem?_eq_getElem ht') h2
    · show N<=_
      simp;omega
  refine wpIn_mono (h C m _ w 0 rfl rfl hr0) ?_;rintro e a' w' ⟨s',m',hq,hr⟩
  have hend:∀(xs:List AV),ResL P s' rs xs->az s' (d7 xs) r H'->LeavesInM Fence.wide 0 P fn a'.tmps (fun e w'=>∃v' m'',e=Ending.returned v'/\Frame (a9 H m) w w'/\HeapRel ext H' m'' w' /\
        (∀k x b,lk H' k=some x->m'' k=some b->a9 H m b\/w.heap.size<=b)/\(∀k x y,lk H k=some x->lk H' k=some y->m'' k=m k) /\
        Rep (Im ext H' m'' w') (Sz w') m'' v' r) a'.defers .returning w':=by
    intro xs hx hfin;obtain⟨Ds,e1,e2,e3⟩:=hr.defers;refine GR (C:=C) (s:=s') (fun m1 a1 w1 _ hr1=>?_) Ds m' a' w' e1 e2 e3 hr;obtain⟨v,h1,h2⟩:=QE hrs hx hr1;obtain⟨m'',h3,h4,h5,h6⟩:=hfin ext m1 w1 v hr1.heap (fun b hb=>hr1.ext_lt hb) h2;refine⟨v,h1,v,m'',rfl,hr1.frame,h3,?_,?_,h6⟩
    · intro k z b hk hb
      obtain⟨k2,z2,hk2,hb2⟩:=h4 k z b hk hb;exact hr1.new k2 z2 b hk2 hb2
    · intro k z y hk hy
      obtain⟨⟨y',hy'⟩,h8⟩:=h5 k y (hH k z hk) hy;rw[h8];exact hr1.keep k y' (hH k z hk) hy'
  cases e with
  |normal =>
    obtain⟨xs,h1,h2⟩:=hq;exact hend xs h1 h2
  |ret =>
    obtain⟨xs,h1,h2⟩:=hq;exact hend xs h1 h2
  |_=>exact hq.elim
theorem Ir{f:FuncId}{fn:Func}{c:Code}{rs:List ResultVar}{args:List AV}{H:Hp}{r:AV}{H':Hp}(hf:P.funcs[f]?=some fn)(hb:fn.body=some c)
  (hn : (fn.name == "runtime.NumGoroutine") = false) (hrs : fn.results = rs.toArray) (hN : fn.ntmps = N) (hH : ∀ k z, lk H k = some z -> 1000 <= k)
  (h:bQ P N c (lY P rs r H') ⟨mo 0 args,H⟩):Con P f args H r H':=F0 hf hb hn hrs hN hH h.out
end Go.Lw
