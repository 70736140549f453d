/- AssembleComplete: for anything drawn the law returns true and leaves its arguments as they were. No other condition. Part 1 of 8: what the later parts need -/
import Derived.Calls
import Derived.Below
import Derived.Laws.Sem
import Derived.Laws.Cells
import Derived.Laws.Append
import Derived.Laws.Rows
import Derived.OrdersIn
import Derived.RangeFuncLeaves
import Derived.RangeFuncRecord
import Derived.Orders
import Derived.IntWalk
import Derived.Laws.AppendOwn
set_option linter.unusedVariables false
open List (all_cons foldl_cons nil_append append_nil)
open List renaming mem_of_getElem? → ank, mem_cons_of_mem → aom, mem_append → anz, map_cons → aow, mem_cons → an9, length_cons → an0, mem_cons_self → aok, length_append → aoe, length_nil → aoa, getD_eq_getElem?_getD → anm, getElem?_append_left → an8, getElem?_eq_none → an2, all_eq_true → anx, getElem?_take → aof, getElem?_drop → aop, getElem?_map → anr, append_assoc → aor, getElem?_append_right → an7, getElem?_eq_getElem → ano, drop_eq_nil_of_le → aoi, getElem?_replicate → aoh, map_append → aoc, mem_filter → ak3, cons_append → ak5, eq_nil_of_length_eq_zero → alb, any_eq_true → ald, mem_range → alh, getElem?_toArray → alk, mem_singleton → alr, replicate → als, size_toArray → alu, mem_iff_getElem → alx, mem_map → al0
open Nat renaming eq_of_beq_eq_true → anw, le_refl → anp, lt_of_lt_of_le → an5, lt_or_ge → anu, le_trans → an4, mul_le_mul_right → aod, mul_le_mul_left → ant, add_assoc → ajs, mul_comm → ajt, mul_pos → aju, add_comm → ajw, beq → ajx, div_lt_iff_lt_mul → ajz, mod_eq_of_lt → aj4, blt_eq → aj6, succ_mul → aj9, ne_of_beq_eq_false → ake, add_mul → akk, add_zero → akn, ble_eq → akp, div_add_mod → akq, blt → aks, zero_add → akv, eq_zero_or_pos → akx, mod_lt → akz
open Option renaming map_eq_some_iff → ann, map_some → anh, getD_some → ani
open Bool renaming and_eq_true → anq, or_eq_true → aos, not_eq_true' → amo, false_eq_true → ams, true_and → amt
open Array renaming getD_eq_getD_getElem? → anv, getElem?_eq_getElem → amz, getElem?_replicate → am0, getElem?_eq_none → am2, size_append → am3, toList_setIfInBounds → am4, getElem?_extract → am5, all_eq_true_iff_forall_mem → am6, mapM_eq_mapM_toList → am7, length_toList → am8, getElem?_append_right → am9, getElem?_toList → ana, getElem?_append_left → anc, replicate → ane, getElem?_setIfInBounds → anf, getElem?_push → ang
open Go renaming Operand → ao8, Value → ao9, TypeId → apa, Program → apb, World → apc
open Go.Result renaming andThen_ok → apd
open Go.Sem renaming run_bind → ape, run_pure → apf
namespace Go.Lw
abbrev pP{a:Type}(k:Nat)(v:a):Nat×Option a:=(k,some v)
theorem aoy{c:Prop}{h:Decidable c}(n:¬c){α:Sort _}{t e:α}:ite c t e=e:=if_neg n
theorem aoz{c:Prop}{h:Decidable c}(n:c){α:Sort _}{t e:α}:ite c t e=t:=if_pos n
theorem ao0{p:Prop}[Decidable p]:(decide p=true)=p:=decide_eq_true_eq
theorem ao1{p:Prop}[Decidable p](n:decide p=true):p:=of_decide_eq_true n
theorem ao2{p:Prop}[Decidable p](n:decide p=false):¬p:=of_decide_eq_false n
theorem ao3{p:Prop}[Decidable p](n:p):decide p=true:=decide_eq_true n
theorem ao4{p:Prop}[Decidable p](n:¬p):decide p=false:=decide_eq_false n
theorem ao5{a b:Prop}(h:a)(n:¬a):b:=absurd h n
theorem ao6{α β:Sort _}{x y:α}(f:α→β)(h:x=y):f x=f y:=congrArg f h
abbrev ao7{α:Sort _}(i:α:=by infer_instance):α:=i
theorem oz{p:Prop}(h:p:=by omega):p:=h
abbrev LL:=List (List Rat)
inductive AV where
  |v (x:ao9)
  |lst (sz:Nat) (es:List AV)
  |agg (cs:List AV)
  |tup (xs:List AV)
  |iptr (cs:List AV)
  |ms (k sz off len:Nat)
  |ptr (k off:Nat)
  |eptr (k sz i off:Nat)
  |fn (f:FuncId) (caps:List AV)
  |opt (b:Bool) (x:AV)
  |yl (k:Nat)
  |cl (f:FuncId) (pre caps:List AV)
  deriving Inhabited
abbrev nS:AV:=.v (.slice none 0 0)
def AV.cells:AV->List AV
  | .agg cs=>cs
  |x=>[x]
def AV.one:AV->Bool
  | .v x=>x.oneCell'
  | .agg _ | .tup _ | .opt _ _=>false
  |_=>true
abbrev bb:Nat:=281474976710656
abbrev eQ:Nat->Option Nat:=fun _=>none
inductive Rep(g:Nat->Array ao9->Prop)(S:Nat->Nat->Prop):(Nat->Option Nat)->ao9->AV->Prop
  |v {m:Nat->Option Nat} (x:ao9):Rep g S m x (.v x)
  |lst0 {m:Nat->Option Nat} (a:Option Addr) (cap sz:Nat):Rep g S m (.slice a 0 cap) (.lst sz [])
  |lst {m:Nat->Option Nat} {b off cap sz:Nat} {es:List AV} {cs:Array ao9} (u:Nat->Nat->ao9)
      (hb:g b cs) (hc:es.length<=cap) (hl:es.length<=bb) (hs:∀(i:Nat)(e:AV),es[i]?=some e->e.cells.length=sz)
      (h1:∀(i j:Nat)(e c:AV),es[i]?=some e->e.cells[j]?=some c->c.one=true)
      (hu:∀(i j:Nat)(e c:AV),es[i]?=some e->e.cells[j]?=some c->cs[off+i*sz+j]?=some (u i j))
      (hr:∀(i j:Nat)(e c:AV),es[i]?=some e->e.cells[j]?=some c->Rep g S eQ (u i j) c) :
      Rep g S m (.slice (some ⟨b,off,none⟩) es.length cap) (.lst sz es)
  |agg {m:Nat->Option Nat} {vs:Array ao9} {cs:List AV} (hn:vs.size=cs.length)
      (h1:∀(j:Nat)(c:AV),cs[j]?=some c->c.one=true)
      (hr:∀(j:Nat)(u:ao9)(c:AV),vs[j]?=some u->cs[j]?=some c->Rep g S m u c):Rep g S m (.agg vs) (.agg cs)
  |tup {m:Nat->Option Nat} {vs:Array ao9} {xs:List AV} (hn:vs.size=xs.length)
      (hr:∀(j:Nat)(u:ao9)(c:AV),vs[j]?=some u->xs[j]?=some c->Rep g S m u c):Rep g S m (.tuple vs) (.tup xs)
  |iptr {m:Nat->Option Nat} {b off:Nat} {cs:Array ao9} {xs:List AV} (u:Nat->ao9)
      (hb:g b cs) (h1:∀(j:Nat)(c:AV),xs[j]?=some c->c.one=true)
      (hu:∀(j:Nat)(c:AV),xs[j]?=some c->cs[off+j]?=some (u j))
      (hr:∀(j:Nat)(c:AV),xs[j]?=some c->Rep g S eQ (u j) c):Rep g S m (.pointer (some ⟨b,off,none⟩)) (.iptr xs)
  |ms0 {m:Nat->Option Nat} (a:Option Addr) (k sz off:Nat):Rep g S m (.slice a 0 0) (.ms k sz off 0)
  |ms {m:Nat->Option Nat} {k sz off len cap b:Nat} (hm:m k=some b) (hc:len<=cap) (hS:S b ((off+cap)*sz)) :
      Rep g S m (.slice (some ⟨b,off*sz,none⟩) len cap) (.ms k sz off len)
  |ptr {m:Nat->Option Nat} {k off b:Nat} (hm:m k=some b):Rep g S m (.pointer (some ⟨b,off,none⟩)) (.ptr k off)
  |eptr {m:Nat->Option Nat} {k sz i off b:Nat} (hm:m k=some b):Rep g S m (.pointer (some ⟨b,i*sz+off,none⟩)) (.eptr k sz i off)
  |fn {m:Nat->Option Nat} {f:FuncId} {vs:Array ao9} {xs:List AV} (hn:vs.size=xs.length)
      (hr:∀(j:Nat)(u:ao9)(c:AV),vs[j]?=some u->xs[j]?=some c->Rep g S m u c):Rep g S m (.func (.func f) #[] vs) (.fn f xs)
  |opt {m:Nat->Option Nat} {x:ao9} {b:Bool} {y:AV} (h:b=true->Rep g S m x y) (h':b=false->x=undef):Rep g S m x (.opt b y)
  |yl {m:Nat->Option Nat} {k b:Nat} (hm:m k=some b):Rep g S m (.func (.yield b) #[] #[]) (.yl k)
  |cl {m:Nat->Option Nat} {f:FuncId} {vs us:Array ao9} {xs ys:List AV} (hn:vs.size=xs.length)
      (hr:∀(j:Nat)(u:ao9)(c:AV),vs[j]?=some u->xs[j]?=some c->Rep g S eQ u c) (hn':us.size=ys.length)
      (hr':∀(j:Nat)(u:ao9)(c:AV),us[j]?=some u->ys[j]?=some c->Rep g S eQ u c):Rep g S m (.func (.func f) vs us) (.cl f xs ys)
inductive AV.Names:AV->Nat->Prop
  |ms (k sz off len:Nat):AV.Names (.ms k sz off len) k
  |ptr (k off:Nat):AV.Names (.ptr k off) k
  |eptr (k sz i off:Nat):AV.Names (.eptr k sz i off) k
  |agg {cs:List AV} {c:AV} {k:Nat} (h:c∈cs) (hc:AV.Names c k):AV.Names (.agg cs) k
  |tup {cs:List AV} {c:AV} {k:Nat} (h:c∈cs) (hc:AV.Names c k):AV.Names (.tup cs) k
  |fn {f:FuncId} {cs:List AV} {c:AV} {k:Nat} (h:c∈cs) (hc:AV.Names c k):AV.Names (.fn f cs) k
  |opt {b:Bool} {c:AV} {k:Nat} (hc:AV.Names c k):AV.Names (.opt b c) k
  |yl (k:Nat):AV.Names (.yl k) k
theorem Rep.mono{g g':Nat->Array ao9->Prop}{S S':Nat->Nat->Prop}(hg:∀b cs,g b cs->g' b cs)
  (hS:∀b n,S b n->S' b n) {m:Nat->Option Nat} {v:ao9} {x:AV} (h:Rep g S m v x) :
  ∀{m':Nat->Option Nat},(∀k b,x.Names k->m k=some b->m' k=some b)->Rep g' S' m' v x:=by
 induction h with
 |v x=>intro m' _;exact .v x
 |lst0 a cap sz=>intro m' _;exact .lst0 a cap sz
 |lst u hb hc hl hs h1 hu hr ih =>
  intro m' _;exact .lst u (hg _ _ hb) hc hl hs h1 hu (fun i j e c he hc=>ih i j e c he hc (fun k b _ h=>h))
 |agg hn h1 hr ih =>
  intro m' hm;exact .agg hn h1 (fun j u c hu hc=>ih j u c hu hc (fun k b hk=>hm k b (.agg (ank hc) hk)))
 |tup hn hr ih =>
  intro m' hm;exact .tup hn (fun j u c hu hc=>ih j u c hu hc (fun k b hk=>hm k b (.tup (ank hc) hk)))
 |iptr u hb h1 hu hr ih =>
  intro m' _;exact .iptr u (hg _ _ hb) h1 hu (fun j c hc=>ih j c hc (fun k b _ h=>h))
 |ms0 a k sz off=>intro m' _;exact .ms0 a k sz off
 |ms h hc hs=>intro m' hm;exact .ms (hm _ _ (.ms _ _ _ _) h) hc (hS _ _ hs)
 |ptr h=>intro m' hm;exact .ptr (hm _ _ (.ptr _ _) h)
 |eptr h=>intro m' hm;exact .eptr (hm _ _ (.eptr _ _ _ _) h)
 |fn hn hr ih =>
  intro m' hm;exact .fn hn (fun j u c hu hc=>ih j u c hu hc (fun k b hk=>hm k b (.fn (ank hc) hk)))
 |opt h h' ih=>intro m' hm;exact .opt (fun hb=>ih hb (fun k b hk=>hm k b (.opt hk))) h'
 |yl h=>intro m' hm;exact .yl (hm _ _ (.yl _) h)
 |cl hn hr hn' hr' ih ih' =>
  intro m' hm
  exact .cl hn (fun j u c hu hc=>ih j u c hu hc (fun k b _ h=>h))
   hn' (fun j u c hu hc=>ih' j u c hu hc (fun k b _ h=>h))
theorem Rep.one{g:Nat->Array ao9->Prop}{S:Nat->Nat->Prop}{m:Nat->Option Nat}{v:ao9}{x:AV}
  (h:Rep g S m v x) (h1:x.one=true):v.oneCell'=true:=by
 cases h <;> simp_all[AV.one,Value.oneCell']
theorem Rep.cells{g:Nat->Array ao9->Prop}{S:Nat->Nat->Prop}{m:Nat->Option Nat}{v:ao9}{x:AV}
  (h:Rep g S m v x) (hx:(∃cs,x=.agg cs)\/x.one=true) :
  v.cells.size=x.cells.length/\(∀(j:Nat)(c:AV),x.cells[j]?=some c->c.one=true) /\
   ∀(j:Nat)(u:ao9)(c:AV),v.cells[j]?=some u->x.cells[j]?=some c->Rep g S m u c:=by
 rcases hx with⟨cs,rfl⟩ |hx
 ·cases h with
  |agg hn h1 hr=>exact⟨hn,h1,hr⟩
 ·have hv:=h.one hx;have e1:v.cells=#[v]:=by cases v <;> simp_all[Value.cells,Value.oneCell']
  have e2:x.cells=[x]:=by cases x <;> simp_all[AV.cells,AV.one]
  rw[e1,e2];refine⟨rfl,?_,?_⟩
  ·intro j c hc;rcases j with _ |j <;> simp at hc
   exact hc▸hx
  ·intro j u c hu hc;rcases j with _ |j <;> simp at hc hu
   exact hc▸hu▸h
def lk{α:Type}:List (Nat×Option α)->Nat->Option α
  |[],_=>none
  |(t',x)::l,t=>match ajx t t' with
    |true=>x
    |false=>lk l t
theorem a5{α:Type}(t t':Nat)(x:Option α)(l:List (Nat×Option α)):lk ((t',x)::l) t=if t=t' then x else lk l t:=by
 show(match ajx t t' with |true=>x |false=>lk l t)=_;split
 ·rename_i h;rw[aoz (anw h)]
 ·rename_i h;rw[aoy (ake h)]
theorem rA{α:Type}{l:List (Nat×Option α)}{t:Nat}{x:α}(h:lk l t=some x):(t,some x)∈l:=by
 induction l with
 |nil=>simp[lk]at h
 |cons y l ih =>
  obtain⟨t',y⟩:=y;rw[a5]at h;split at h
  ·subst_vars;simp
  ·exact aom _ (ih h)
structure LpD where
  params:Array Tmp
  assign:Code
  body:Code
  nt:Nat
inductive Blk where
  |box (cs:List AV)
  |row (sz:Nat) (es:List AV)
  |loop (d:LpD) (st:LoopState) (pend:Option Code) (sl:List (Nat×Option AV))
  |vec (vs:List ao9)
  deriving Inhabited
inductive BlkRep(g:Nat->Array ao9->Prop)(S:Nat->Nat->Prop)(m:Nat->Option Nat)(w:apc):Option Nat->Blk->Prop
  |none (sz:Nat):BlkRep g S m w none (.row sz [])
  |box {b:Nat} {cs:List AV} {c:Array ao9} {t:apa} (hw:w.heap[b]?=some (.cells c t (0,0))) (hn:c.size=cs.length)
      (h1:∀(j:Nat)(x:AV),cs[j]?=some x->x.one=true)
      (hr:∀(j:Nat)(u:ao9)(x:AV),c[j]?=some u->cs[j]?=some x->Rep g S m u x):BlkRep g S m w (some b) (.box cs)
  |row {b sz:Nat} {es:List AV} {c:Array ao9} {t:apa} (hw:w.heap[b]?=some (.cells c t (0,0))) (hn:es.length*sz<=c.size)
      (hl:es.length<=bb)
      (hs:∀(i:Nat)(e:AV),es[i]?=some e->e.cells.length=sz)
      (h1:∀(i j:Nat)(e x:AV),es[i]?=some e->e.cells[j]?=some x->x.one=true)
      (hr:∀(i j:Nat)(e:AV)(u:ao9)(x:AV),es[i]?=some e->e.cells[j]?=some x->c[i*sz+j]?=some u->Rep g S eQ u x) :
      BlkRep g S m w (some b) (.row sz es)
  |loop {b:Nat} {r:Loop} {d:LpD} {st:LoopState} {pend:Option Code} {sl:List (Nat×Option AV)} (hw:w.heap[b]?=some (.loop r)) (dD:r.state=st) (wX:r.pending=pend)
      (eT:r.params=d.params) (has:r.assign=d.assign) (o5:r.body=d.body) (hnt:d.nt<=r.tmps.size)
      (hr:∀(t:Nat)(x:AV),lk sl t=some x->t<r.tmps.size/\Rep g S m (r.tmps.getD t undef) x):BlkRep g S m w (some b) (.loop d st pend sl)
  |vec {b:Nat} {vs:List ao9} {c:Array ao9} {t:apa} (hw:w.heap[b]?=some (.cells c t (0,0))) (hc:c.toList=vs) (h1:∀v∈vs,v.oneCell'=true):BlkRep g S m w (some b) (.vec vs)
def Blk.Names(k:Nat):Blk->Prop
  | .box cs=>∃c∈cs,c.Names k
  | .row _ _=>False
  | .loop _ _ _ sl=>∃t x,(t,some x)∈sl/\x.Names k
  | .vec _=>False
theorem BlkRep.mono{g g':Nat->Array ao9->Prop}{S S':Nat->Nat->Prop}{m m':Nat->Option Nat}{w w':apc}{o o':Option Nat}{x:Blk}
  (hg:∀b cs,g b cs->g' b cs) (hS:∀b n,S b n->S' b n) (hm:∀k b,x.Names k->m k=some b->m' k=some b)
  (ho:o'=o) (hw:∀b,o=some b->w'.heap[b]?=w.heap[b]?)
  (h:BlkRep g S m w o x):BlkRep g' S' m' w' o' x:=by
 subst ho;cases h with
 |none sz=>exact .none sz
 |box h hn h1 hr =>
  refine .box ((hw _ rfl).trans h) hn h1 (fun j u x hu hx=>(hr j u x hu hx).mono hg hS (fun k b hk=>hm k b ⟨x,ank hx,hk⟩))
 |row h hn hl hs h1 hr =>
  refine .row ((hw _ rfl).trans h) hn hl hs h1 (fun i j e u x he hx hu=>(hr i j e u x he hx hu).mono hg hS (fun k b _ h=>h))
 |loop h h1 h2 h3 h4 h5 hn hr =>
  refine .loop ((hw _ rfl).trans h) h1 h2 h3 h4 h5 hn (fun t x hx=>⟨(hr t x hx).1,(hr t x hx).2.mono hg hS (fun k b hk=>hm k b ⟨t,x,rA hx,hk⟩)⟩)
 |vec h hc h1=>exact .vec ((hw _ rfl).trans h) hc h1
mutual
def AV.nm:AV->List Nat
  | .ms k _ _ _=>[k]
  | .ptr k _=>[k]
  | .eptr k _ _ _=>[k]
  | .agg cs=>AV.nms cs
  | .tup xs=>AV.nms xs
  | .fn _ xs=>AV.nms xs
  | .opt _ x=>x.nm
  | .yl k=>[k]
  |_=>[]
def AV.nms:List AV->List Nat
  |[]=>[]
  |x::l=>x.nm++AV.nms l
end
theorem AV.mem_nms{l:List AV}{c:AV}{k:Nat}(hc:c∈l)(hk:k∈c.nm):k∈AV.nms l:=by
 induction l with
 |nil=>cases hc
 |cons x l ih =>
  simp only[AV.nms,anz];rcases an9.1 hc with rfl |hc
  ·exact .inl hk
  ·exact .inr (ih hc)
theorem AV.Names.mem{x:AV}{k:Nat}(h:x.Names k):k∈x.nm:=by
 induction h with
 |ms=>simp[AV.nm]
 |ptr=>simp[AV.nm]
 |eptr=>simp[AV.nm]
 |agg h _ ih=>exact AV.mem_nms h ih
 |tup h _ ih=>exact AV.mem_nms h ih
 |fn h _ ih=>exact AV.mem_nms h ih
 |opt _ ih=>exact ih
 |yl=>simp[AV.nm]
def Fv(sl:List (Nat×Option AV)):List Nat:=sl.flatMap fun p=>match p.2 with |some x=>x.nm |none=>[]
def Blk.nm:Blk->List Nat
  | .box cs=>AV.nms cs
  | .row _ _=>[]
  | .loop _ _ _ sl=>Fv sl
  | .vec _=>[]
theorem Blk.Names.mem{x:Blk}{k:Nat}(h:x.Names k):k∈x.nm:=by
 cases x with
 |box cs=>obtain⟨c,hc,hk⟩:=h;exact AV.mem_nms hc hk.mem
 |row sz es=>exact h.elim
 |vec vs=>exact h.elim
 |loop d st pe sl =>
  obtain⟨t,c,hc,hk⟩:=h;exact List.mem_flatMap.2 ⟨_,hc,hk.mem⟩
abbrev c9:=List (Nat×Option AV)
abbrev Hp:=List (Nat×Option Blk)
theorem sr{α:Type}(u l:List (Nat×Option α))(t:Nat):lk (u++l) t=if t∈u.map (·.1)then lk u t else lk l t:=by
 induction u with
 |nil=>simp
 |cons x u ih =>
  obtain⟨t',x⟩:=x;simp only[ak5,a5,ih,aow,an9]
  by_cases h:t=t'
  ·simp[h]
  ·rw[aoy h]
   by_cases h2:t∈u.map (·.1)
   ·rw[aoz h2,aoz (.inr h2),aoy h]
   ·rw[aoy h2,aoy (by simp only[h,h2,or_self,not_false_eq_true])]
structure AS where
  sl:c9
  hp:Hp
def AS.get(s:AS)(t:Nat):Option AV:=lk s.sl t
def AS.blk(s:AS)(k:Nat):Option Blk:=lk s.hp k
def bj(hp:Hp)(m:Nat->Option Nat)(b:Nat):Prop:=∃k x,lk hp k=some x/\m k=some b
def Im(ext:Nat->Prop)(hp:Hp)(m:Nat->Option Nat)(w:apc)(b:Nat)(cs:Array ao9):Prop :=
  ¬ext b/\¬bj hp m b/\∃t f,w.heap[b]?=some (.cells cs t f)
def Sz(w:apc)(b n:Nat):Prop:=∃c t f,w.heap[b]?=some (.cells c t f)/\n<=c.size
structure HeapRel(ext:Nat->Prop)(hp:Hp)(m:Nat->Option Nat)(w:apc):Prop where
  blk:∀k x,lk hp k=some x->BlkRep (Im ext hp m w) (Sz w) m w (m k) x
  inj:∀k k' x x' b,lk hp k=some x->lk hp k'=some x'->m k=some b->m k'=some b->k=k'
  sep:∀k x b,lk hp k=some x->m k=some b->¬ext b/\b<w.heap.size
structure Frame(own:Nat->Prop)(w w':apc):Prop where
  os:w'.os=w.os
  tape:w'.tape=w.tape
  output:w'.output=w.output
  size:w.heap.size<=w'.heap.size
  sz:∀b n,Sz w b n->Sz w' b n
  keep:∀b,b<w.heap.size->¬own b->w'.heap[b]?=w.heap[b]?
theorem Frame.refl(own:Nat->Prop)(w:apc):Frame own w w:=⟨rfl,rfl,rfl,anp _,fun _ _ h=>h,fun _ _ _=>rfl⟩
def FZ(run:Array ao9->apc->(Ending->apc->Prop)->Prop)(args:List AV)(H:Hp)(r:AV)(H':Hp):Prop :=
  ∀(ext:Nat->Prop)(m:Nat->Option Nat)(w:apc)(vs:Array ao9),(∀b,ext b->b<w.heap.size)->HeapRel ext H m w ->
    vs.size=args.length->(∀(j:Nat) v x,vs[j]?=some v->args[j]?=some x->Rep (Im ext H m w) (Sz w) m v x) ->
    run vs w fun e w'=>∃v m',e=.returned v/\Frame (bj H m) w w'/\HeapRel ext H' m' w' /\
      (∀k x b,lk H' k=some x->m' k=some b->bj H m b\/w.heap.size<=b) /\
      (∀k x y,lk H k=some x->lk H' k=some y->m' k=m k) /\
      Rep (Im ext H' m' w') (Sz w') m' v r
def Zr(P:apb)(f:FuncId)(args:List AV)(H:Hp)(r:AV)(H':Hp):Prop:=FZ (Calls P f) args H r H'
structure Ctx where
  w0:apc
  ext:Nat->Prop
  own0:Nat->Prop
  m0:Nat->Option Nat
  nt:Nat
  hext:∀b,ext b->b<w0.heap.size
  ro:Option Nat:=none
def Fw(ro:Option Nat):Fence:={ Fence.wide with round:=ro }
def wT(D:Nat):Deferred:={ target:=.collected D,args:=#[] }
def v8(b0:Nat)(l:List Deferred)(w:apc):Prop:=∃Ds:List Nat,l=Ds.map wT/\Ds.Nodup/\∀D∈Ds,b0<=D/\w.heap[D]?=some (.deferred (some []))
theorem v8.nil(b0:Nat)(w:apc):v8 b0 [] w:=⟨[],rfl,List.nodup_nil,fun D h=>by cases h⟩
structure RelM(C:Ctx)(s:AS)(m:Nat->Option Nat)(a:Act)(w:apc):Prop where
  slots:∀t x,s.get t=some x->t<a.tmps.size/\Rep (Im C.ext s.hp m w) (Sz w) m (a.tmps.getD t undef) x
  heap:HeapRel C.ext s.hp m w
  frame:Frame C.own0 C.w0 w
  new:∀k x b,lk s.hp k=some x->m k=some b->C.own0 b\/C.w0.heap.size<=b
  keep:∀k x,1000<=k->lk s.hp k=some x->m k=C.m0 k
  defers:v8 C.w0.heap.size a.defers w
  nt:C.nt<=a.tmps.size
def AS.Fresh(s:AS)(k:Nat):Prop :=
  lk s.hp k=none/\k<1000/\(∀t x,s.get t=some x->¬x.Names k)/\(∀k' x,lk s.hp k'=some x->¬x.Names k)
theorem HeapRel.lt{ext:Nat->Prop}{hp:Hp}{m:Nat->Option Nat}{w:apc}(_:HeapRel ext hp m w){b:Nat}{o:Obj}(h:w.heap[b]?=some o):b<w.heap.size:=(Array.getElem?_eq_some_iff.1 h).1
theorem HeapRel.cells{ext:Nat->Prop}{hp:Hp}{m:Nat->Option Nat}{w:apc}(h:HeapRel ext hp m w){k b:Nat}{x:Blk}(hk:lk hp k=some x)(hb:m k=some b){o:Option (List Deferred)}(ho:w.heap[b]?=some (.deferred o)):False:=by
 have:=h.blk k x hk;rw[hb]at this;cases this with
 |box hw=>rw[ho]at hw;cases hw
 |row hw=>rw[ho]at hw;cases hw
 |loop hw=>rw[ho]at hw;cases hw
 |vec hw=>rw[ho]at hw;cases hw
theorem RelM.ext_lt{C:Ctx}{s:AS}{m:Nat->Option Nat}{a:Act}{w:apc}(h:RelM C s m a w){b:Nat}(hb:C.ext b):b<w.heap.size :=
 an5 (C.hext b hb) h.frame.size
theorem RelM.update{C:Ctx}{s:AS}{m:Nat->Option Nat}{a:Act}{w:apc}(h:RelM C s m a w){w':apc}{m':Nat->Option Nat}{hp':Hp}
  (hf:Frame (bj s.hp m) w w')
  (hm:∀t x k b,s.get t=some x->x.Names k->m k=some b->m' k=some b)
  (bQ:∀k x b,lk hp' k=some x->m' k=some b->bj s.hp m b\/w.heap.size<=b)
  (Dc:∀k x,1000<=k->lk hp' k=some x->(∃y,lk s.hp k=some y)/\m' k=m k)
  (hh:HeapRel C.ext hp' m' w'):RelM C ⟨s.sl,hp'⟩ m' a w':=by
 refine⟨?_,hh,?_,?_,fun k x h1 h2=>by obtain⟨⟨y,hy⟩,h4⟩:=Dc k x h1 h2;exact h4.trans (h.keep k y h1 hy),?_,h.nt⟩
 ·intro t x hx;obtain⟨h1,h2⟩:=h.slots t x hx;refine⟨h1,h2.mono ?_ hf.sz (fun k b hk=>hm t x k b hx hk)⟩;rintro b cs ⟨he,ho,t',f',hb⟩
  have hlt:b<w.heap.size:=by
   rcases anu b w.heap.size with h |h
   ·exact h
   ·simp[am2 h]at hb
  refine⟨he,?_,t',f',(hf.keep b hlt ho).trans hb⟩;rintro⟨k,y,hk,lA⟩;rcases bQ k y b hk lA with h' |h'
  ·exact ho h'
  ·omega
 ·refine⟨hf.os.trans h.frame.os,hf.tape.trans h.frame.tape,hf.output.trans h.frame.output,an4 h.frame.size hf.size,fun b n hs=>hf.sz b n (h.frame.sz b n hs),?_⟩;intro b hb ho;rw[hf.keep b (an5 hb h.frame.size) ?_,h.frame.keep b hb ho];rintro⟨k,x,hk,lA⟩;rcases h.new k x b hk lA with h' |h'
  ·exact ho h'
  ·omega
 ·intro k x b hk lA;rcases bQ k x b hk lA with⟨k2,y,dF,aig⟩ |h'
  ·exact h.new k2 y b dF aig
  ·exact .inr (an4 h.frame.size h')
 ·obtain⟨Ds,e,hn,hD⟩:=h.defers;refine⟨Ds,e,hn,fun D hm=>?_⟩;obtain⟨h1,h2⟩:=hD D hm;refine⟨h1,(hf.keep D (h.heap.lt h2) ?_).trans h2⟩;rintro⟨k,x,hk,lA⟩;exact h.heap.cells hk lA h2
theorem gQ{ext:Nat->Prop}{hp hp':Hp}{m m':Nat->Option Nat}{w w':apc}(hf:Frame (bj hp m) w w')
  (bQ:∀k x b,lk hp' k=some x->m' k=some b->bj hp m b\/w.heap.size<=b) :
  ∀b cs,Im ext hp m w b cs->Im ext hp' m' w' b cs:=by
 rintro b cs ⟨he,ho,t',f',hb⟩
 have hlt:b<w.heap.size:=by
  rcases anu b w.heap.size with h |h
  ·exact h
  ·simp[am2 h]at hb
 refine⟨he,?_,t',f',(hf.keep b hlt ho).trans hb⟩;rintro⟨k,y,hk,lA⟩;rcases bQ k y b hk lA with h' |h'
 ·exact ho h'
 ·omega
theorem RelM.put{C:Ctx}{s:AS}{m:Nat->Option Nat}{a:Act}{w:apc}(h:RelM C s m a w)(d:Nat)(v:ao9)(x:Option AV)
  (hx:∀y,x=some y->d<a.tmps.size/\Rep (Im C.ext s.hp m w) (Sz w) m v y) :
  RelM C ⟨(d,x)::s.sl,s.hp⟩ m { a with tmps:=a.tmps.setIfInBounds d v } w:=by
 refine⟨?_,h.heap,h.frame,h.new,h.keep,h.defers,by simpa using h.nt⟩;intro t y hy;simp only[AS.get,a5]at hy
 by_cases ht:t=d
 ·subst ht;rw[aoz rfl]at hy;obtain⟨h1,h2⟩:=hx y hy;refine⟨by simpa using h1,?_⟩;simpa[anv,anf,h1]using h2
 ·rw[aoy ht] at hy;obtain⟨h1,h2⟩:=h.slots t y hy;refine ⟨by simpa using h1,?_⟩
  have:(a.tmps.setIfInBounds d v).getD t undef=a.tmps.getD t undef:=by
   simp only[anv,anf];rw[aoy oz]
  simpa[this]using h2
theorem Sz.alloc{w:apc}{o:Obj}{b n:Nat}(h:Sz w b n):Sz { w with heap:=w.heap.push o } b n:=by
 obtain⟨c,t,f,hb,hn⟩:=h;refine⟨c,t,f,?_,hn⟩
 have hlt:b<w.heap.size:=by
  rcases anu b w.heap.size with h |h
  ·exact h
  ·simp[am2 h]at hb
 show(w.heap.push o)[b]?=_;rw[ang,aoy oz,hb]
theorem Gy(own:Nat->Prop)(w:apc)(o:Obj):Frame own w { w with heap:=w.heap.push o }:=by
 refine⟨rfl,rfl,rfl,by simp,fun b n h=>h.alloc,?_⟩;intro b hb _;show(w.heap.push o)[b]?=_;rw[ang,aoy oz]
theorem aco(own:Nat->Prop)(w:apc)(n:Nat):Frame own w { w with drawn:=n } :=
 ⟨rfl,rfl,rfl,anp _,fun _ _ h=>h,fun _ _ _=>rfl⟩
theorem Frame.trans{own own':Nat->Prop}{w w' w'':apc}(h:Frame own w w')(h':Frame own' w' w'')
  (ho:∀b,b<w.heap.size->own' b->own b):Frame own w w'' :=
 ⟨h'.os.trans h.os,h'.tape.trans h.tape,h'.output.trans h.output,an4 h.size h'.size,fun b n hs=>h'.sz b n (h.sz b n hs),
  fun b hb hn=>(h'.keep b (an5 hb h.size) (fun hc=>hn (ho b hb hc))).trans (h.keep b hb hn)⟩
theorem RelM.alloc{C:Ctx}{s:AS}{m:Nat->Option Nat}{a:Act}{w:apc}(h:RelM C s m a w){k:Nat}(hk:s.Fresh k)(o:Obj)(x:Blk)
  (hx:¬x.Names k) (iS:∀(g:Nat->Array ao9->Prop)(S:Nat->Nat->Prop)(m':Nat->Option Nat)(w':apc),
   (∀b cs,Im C.ext s.hp m w b cs->g b cs)->(∀b n,Sz w b n->S b n)->(∀k' b,k'≠k->m k'=some b->m' k'=some b) ->
   w'.heap[w.heap.size]?=some o->BlkRep g S m' w' (some w.heap.size) x) :
  RelM C ⟨s.sl,(k,some x)::s.hp⟩ (fun k'=>if k'=k then some w.heap.size else m k') a { w with heap:=w.heap.push o }:=by
 have cO:∀k' y,lk ((k,some x)::s.hp) k'=some y->k'≠k->lk s.hp k'=some y:=by
  intro k' y hy bV;rw[a5,aoy bV]at hy;exact hy
 have eJ:∀k' y b,lk s.hp k'=some y->m k'=some b->b<w.heap.size:=fun k' y b h1 h2=>(h.heap.sep k' y b h1 h2).2
 have hf:=Gy (bj s.hp m) w o
 have bQ:∀k' y b,lk ((k,some x)::s.hp) k'=some y->(if k'=k then some w.heap.size else m k')=some b->bj s.hp m b\/w.heap.size<=b:=by
  intro k' y b hy hb
  by_cases bV:k'=k
  ·rw[aoz bV]at hb;cases hb;exact .inr (anp _)
  ·rw[aoy bV]at hb;exact .inl ⟨k',y,cO k' y hy bV,hb⟩
 refine h.update hf ?_ bQ ?_ ⟨?_,?_,?_⟩
 ·intro t y k' b hy hn hb;have:k'≠k:=fun e=>hk.2.2.1 t y hy (e▸hn)
  rw[aoy this];exact hb
 ·intro k' y rg hy;have bV:k'≠k:=fun e=>by have:=hk.2.1; omega
  exact⟨⟨y,cO k' y hy bV⟩,by rw[aoy bV]⟩
 ·intro k' y hy
  by_cases bV:k'=k
  ·subst bV;rw[a5,aoz rfl]at hy;cases hy;rw[aoz rfl];refine iS _ _ _ _ (gQ hf bQ) hf.sz (fun k'' b bV hb=>by rw[aoy bV];exact hb) ?_;show(w.heap.push o)[w.heap.size]?=_;simp
  ·have hy':=cO k' y hy bV;rw[aoy bV];refine BlkRep.mono (gQ hf bQ) hf.sz ?_ rfl ?_ (h.heap.blk k' y hy')
   ·intro k'' b hn hb;have:k''≠k:=fun e=>hk.2.2.2 k' y hy' (e▸hn)
    rw[aoy this];exact hb
   ·intro b hb;have:=eJ k' y b hy' hb;show(w.heap.push o)[b]?=_;rw[ang,aoy oz]
 ·intro k1 k2 y1 y2 b h1 h2 cw bJ
  by_cases e1:k1=k <;> by_cases e2:k2=k
  ·rw[e1,e2]
  ·rw[aoz e1]at cw;rw[aoy e2]at bJ;cases cw
   exact ao5 (eJ k2 y2 _ (cO k2 y2 h2 e2) bJ) oz
  ·rw[aoy e1]at cw;rw[aoz e2]at bJ;cases bJ
   exact ao5 (eJ k1 y1 _ (cO k1 y1 h1 e1) cw) oz
  ·rw[aoy e1]at cw;rw[aoy e2]at bJ
   exact h.heap.inj k1 k2 y1 y2 b (cO k1 y1 h1 e1) (cO k2 y2 h2 e2) cw bJ
 ·intro k' y b hy hb
  by_cases bV:k'=k
  ·rw[aoz bV]at hb;cases hb
   refine⟨fun hc=>?_,by simp⟩;have:=h.ext_lt hc;omega
  ·rw[aoy bV]at hb;have:=h.heap.sep k' y b (cO k' y hy bV) hb;refine⟨this.1,?_⟩;have:=this.2;simp;omega
theorem RelM.write{C:Ctx}{s:AS}{m:Nat->Option Nat}{a:Act}{w:apc}(h:RelM C s m a w){k b:Nat}{x x':Blk}{w':apc}
  {c c':Array ao9} {t:apa}
  (hk:lk s.hp k=some x) (hm:m k=some b) (hb:w.heap[b]?=some (.cells c t (0,0))) (bG:c'.size=c.size)
  (hw:w'={ w with heap:=w.heap.setIfInBounds b (.cells c' t (0,0)) })
  (hx:∀(g:Nat->Array ao9->Prop)(S:Nat->Nat->Prop),
   (∀b cs,Im C.ext s.hp m w b cs->g b cs)->(∀b n,Sz w b n->S b n) ->
   w'.heap[b]?=some (.cells c' t (0,0))->BlkRep g S m w' (some b) x') :
  RelM C ⟨s.sl,(k,some x')::s.hp⟩ m a w':=by
 have hlt:=(h.heap.sep k x b hk hm).2
 have gj:∀b',w'.heap[b']?=if b=b' then some (.cells c' t (0,0))else w.heap[b']?:=by
  intro b';subst hw;show(w.heap.setIfInBounds b _)[b']?=_;rw[anf]
  by_cases e:b=b'
  ·simp[e];omega
  ·simp[e]
 have cO:∀k' y,lk ((k,some x')::s.hp) k'=some y->∃z,lk s.hp k'=some z:=by
  intro k' y hy;rw[a5]at hy;split at hy
  ·subst_vars;exact⟨x,hk⟩
  ·exact⟨y,hy⟩
 have hf:Frame (bj s.hp m) w w':=by
  refine⟨by rw[hw],by rw[hw],by rw[hw],by rw[hw];simp,?_,?_⟩
  ·rintro b' n ⟨c1,t1,f1,h1,h2⟩
   by_cases e:b=b'
   ·subst e;rw[hb]at h1;cases h1;exact⟨c',t,(0,0),by rw[gj,aoz rfl],by omega⟩
   ·exact⟨c1,t1,f1,by rw[gj,aoy e,h1],h2⟩
  ·intro b' hb' hn;rw[gj,aoy];rintro rfl;exact hn ⟨k,x,hk,hm⟩
 have bQ:∀k' y b',lk ((k,some x')::s.hp) k'=some y->m k'=some b'->bj s.hp m b'\/w.heap.size<=b':=by
  intro k' y b' hy hb';obtain⟨z,hz⟩:=cO k' y hy;exact .inl ⟨k',z,hz,hb'⟩
 refine h.update hf (fun t y k' b' _ _ hb'=>hb') bQ (fun k' y _ hy=>⟨cO k' y hy,rfl⟩) ⟨?_,?_,?_⟩
 ·intro k' y hy
  by_cases e:k'=k
  ·subst e;rw[a5,aoz rfl]at hy;cases hy;rw[hm];exact hx _ _ (gQ hf bQ) hf.sz (by rw[gj,aoz rfl])
  ·rw[a5,aoy e]at hy;refine BlkRep.mono (gQ hf bQ) hf.sz (fun k'' b' _ hb'=>hb') rfl ?_ (h.heap.blk k' y hy);intro b' hb';rw[gj,aoy];rintro rfl;exact e (h.heap.inj k' k y x b hy hk hb' hm)
 ·intro k1 k2 y1 y2 b' h1 h2 cw bJ;obtain⟨z1,jb⟩:=cO k1 y1 h1;obtain⟨z2,kF⟩:=cO k2 y2 h2;exact h.heap.inj k1 k2 z1 z2 b' jb kF cw bJ
 ·intro k' y b' hy hb';obtain⟨z,hz⟩:=cO k' y hy;have:=h.heap.sep k' z b' hz hb';exact⟨this.1,an5 this.2 hf.size⟩
theorem RelM.drawn{C:Ctx}{s:AS}{m:Nat->Option Nat}{a:Act}{w:apc}(h:RelM C s m a w)(n:Nat):RelM C s m a { w with drawn:=n }:=by
 have hf:=aco (bj s.hp m) w n;have bQ:∀k' y b',lk s.hp k'=some y->m k'=some b'->bj s.hp m b'\/w.heap.size<=b':=fun k' y b' h1 h2=>.inl ⟨k',y,h1,h2⟩
 refine h.update hf (fun t y k' b' _ _ hb'=>hb') bQ (fun k' y _ hy=>⟨⟨y,hy⟩,rfl⟩) ⟨?_,h.heap.inj,h.heap.sep⟩;intro k x hk;exact BlkRep.mono (w:=w) (gQ hf bQ) hf.sz (fun _ _ _ h=>h) rfl (fun _ _=>rfl) (h.heap.blk k x hk)
structure Out where
  val:Option AV
  upd:Hp
  rt:List Nat
  rd:List Nat
  deriving Inhabited
def AS.app(s:AS)(dst:Option Tmp)(o:Out):AS :=
  ⟨match dst with |some d=>(d,o.val)::s.sl |none=>s.sl,o.upd++s.hp⟩
def jx(s s':AS)(o:Out):Prop:=(∀t∈o.rt,s'.get t=s.get t)/\∀k∈o.rd,s'.blk k=s.blk k
def mU(s:AS)(o:Out):Prop:=∀k∈o.upd.map (·.1),k∈o.rd\/s.Fresh k
def wq(P:apb)(o:Oper)(a:Act)(w:apc)(next:Act->apc->Prop)(Q:Exit->Act->apc->Prop):Prop:=∀ro n,o.uponIn (Fw ro) n P a next Q ((execOp a.eval o).run P w)
theorem Wg{P:apb}{f:FuncId}{args:Array ao9}{w:apc}{R:Ending->apc->Prop}(h:Calls P f args w R)(ro:Option Nat)(n:Nat):(((Fw ro).depth.isSome=true->1<=n)/\CallsIn (Fw ro) (n-1) P f args w R) :=
 ⟨(fun h=>by cases h),(callsIn_wide (n:=n-1)).2 h⟩
theorem adc{P:apb}{f:String}{args:Array ao9}{w:apc}{R:ao9->apc->Prop}(h:Rows P f args w R)(ro:Option Nat)(n:Nat):(((Fw ro).depth.isSome=true->1<=n)/\RowsIn (Fw ro) (n-1) P f args w R) :=
 ⟨(fun h=>by cases h),fun c cs _=>let⟨v,w',r,s⟩:=h c cs;⟨v,w',r,(stepsIn_wide (P:=P)).2 s⟩⟩
theorem zp{P:apb}{o:Oper}{a:Act}{w:apc}{next:Act->apc->Prop}{Q:Exit->Act->apc->Prop}(h:o.wp P a w next Q):wq P o a w next Q:=by
 intro ro n;unfold Oper.wp at h;generalize(execOp a.eval o).run P w=r at h;cases r with
 |ok x w' =>
  cases x with
  |enter f args=>exact Wg h ro n
  |row f args=>exact adc h ro n
  |round l f ts x y=>exact(show False from h).elim
  |_=>exact h
 |halt x w'=>cases x <;> exact h
structure Step(P:apb)(N:Nat)(R:Array Oper)(s:AS)(o:Oper)(u:Out):Prop where
  run:∀s',jx s s' u->mU s' u->∀C m a w Q (next:Act->apc->Prop),C.nt=N->RelM C s' m a w ->
    (∀m' a' w',RelM C (s'.app o.dst u) m' a' w'->next a' w') ->
    if Region.wanted o (yielded R a.tmps)then wq P o a w next Q else next (a.put o.dst undef) w
def jH(P:apb)(N:Nat)(R:Array Oper):List Oper->AS->List Out->(AS->List Out->Prop)->Prop
  |[],s,us,K=>K s us
  |o::ops,s,us,K=>∃u,Step P N R s o u/\mU s u/\jH P N R ops (s.app o.dst u) (us++[u]) K
def nd(o:Oper):Bool:=match o.op with
  | .defer _=>false
  |_=>true
theorem Lm{P:apb}{o:Oper}{a:Act}{w:apc}{next:Act->apc->Prop}{Q:Exit->Act->apc->Prop}{ro:Option Nat}{n:Nat}(hd:nd o=true)(h:wq P o a w next Q):o.wpIn (Fw ro) n P a w next Q:=by
 refine⟨fun _ _=>trivial,?_⟩;rw[Oper.semAt_eq _ _ _ (by intro c hc;simp[nd,hc]at hd)];exact h ro n
theorem ZN{P:apb}{N n:Nat}{R:Array Oper}{C:Ctx}(hN:C.nt=N){Q:Exit->Act->apc->Prop}{K:AS->List Out->Prop}
  (hK:∀s us m a w,K s us->RelM C s m a w->Q .normal a w) :
  ∀(ops:List Oper)(i:Nat)(s:AS)(us:List Out)(m:Nat->Option Nat)(a:Act)(w:apc),
   (∀j,R[i+j]?=ops[j]?)->ops.all nd=true->jH P N R ops s us K->RelM C s m a w->wpOpsIn (Fw C.ro) n P R Q (List.range' i ops.length) a w:=by
 intro ops
 induction ops with
 |nil=>intro i s us m a w _ _ h hr;exact hK s us m a w h hr
 |cons o ops ih =>
  intro i s us m a w hR dA h hr;simp only[all_cons,anq]at dA;obtain⟨u,hs,hn,h⟩:=h;have ho:R[i]?=some o:=by simpa using hR 0
  simp only[an0,List.range'_succ];rw[wpOpsIn_cons];unfold wpOpIn;simp only[ho]
  have:=hs.run s ⟨fun _ _=>rfl,fun _ _=>rfl⟩ hn C m a w Q (wpOpsIn (Fw C.ro) n P R Q (List.range' (i+1) ops.length)) hN hr
   (fun m' a' w' hr'=>ih (i+1) _ _ m' a' w' (fun j=>by have:=hR (j+1);simpa[ajs,ajw 1 j]using this) dA.2 h hr')
  split
  ·rename_i hw;rw[aoz hw]at this;exact Lm dA.1 this
  ·rename_i hw;rw[aoy hw]at this;exact⟨fun _ _=>trivial,this⟩
theorem HeapRel.congr{ext:Nat->Prop}{hp hp':Hp}{m:Nat->Option Nat}{w:apc}(h:∀k,lk hp k=lk hp' k)
  (hr:HeapRel ext hp m w):HeapRel ext hp' m w:=by
 have e1:bj hp m=bj hp' m:=by funext b;simp only[bj,h]
 have e2:Im ext hp m w=Im ext hp' m w:=by funext b cs;simp only[Im,e1]
 refine⟨?_,?_,?_⟩
 ·intro k x hk;rw[<- e2];exact hr.blk k x ((h k).trans hk)
 ·intro k k' x x' b h1 h2;exact hr.inj k k' x x' b ((h k).trans h1) ((h k').trans h2)
 ·intro k x b h1;exact hr.sep k x b ((h k).trans h1)
theorem RelM.congr{C:Ctx}{s s':AS}{m:Nat->Option Nat}{a:Act}{w:apc}(h1:∀t,s.get t=s'.get t)(h2:∀k,s.blk k=s'.blk k)
  (hr:RelM C s m a w):RelM C s' m a w:=by
 have e1:bj s.hp m=bj s'.hp m:=by funext b;simp only[bj];simp only[AS.blk]at h2;simp only[h2]
 have e2:Im C.ext s.hp m w=Im C.ext s'.hp m w:=by funext b cs;simp only[Im,e1]
 refine⟨?_,hr.heap.congr h2,hr.frame,?_,fun k x h3 h4=>hr.keep k x h3 ((h2 k).trans h4),hr.defers,hr.nt⟩
 ·intro t x hx;rw[<- e2];exact hr.slots t x ((h1 t).trans hx)
 ·intro k x b hk;exact hr.new k x b ((h2 k).trans hk)
def Hn(prev:List Nat)(o:Oper):Nat :=
  o.after.toList.foldl (fun s e=>match Region.binds .any e with
    |true=>s ||| (2^e.on ||| prev.getD e.on 0)
    |false=>s) 0
def lQ:List Oper->List Nat->List Nat
  |[],prev=>prev
  |o::ops,prev=>lQ ops (prev++[Hn prev o])
theorem U1(prev:List Nat)(j:Nat):∀(l:List Edge)(s:Nat),
  (l.foldl (fun s e=>match Region.binds .any e with
   |true=>s ||| (2^e.on ||| prev.getD e.on 0)
   |false=>s) s).testBit j=true ->
  s.testBit j=true\/∃e∈l,Region.binds .any e=true/\(j=e.on\/(prev.getD e.on 0).testBit j=true):=by
 intro l
 induction l with
 |nil=>intro s h;exact .inl h
 |cons e l ih =>
  intro s h;simp only[foldl_cons]at h;rcases ih _ h with h |⟨e',he',hb,hj⟩
  ·cases hb:Region.binds .any e with
   |false=>rw[hb]at h;exact .inl h
   |true =>
    rw[hb]at h;simp only[Nat.testBit_or,aos,Nat.testBit_two_pow,ao0]at h;rcases h with h |h |h
    ·exact .inl h
    ·exact .inr ⟨e,aok,hb,.inl h.symm⟩
    ·exact .inr ⟨e,aok,hb,.inr h⟩
  ·exact .inr ⟨e',aom _ he',hb,hj⟩
theorem Nf:∀(ops:List Oper)(prev:List Nat),(lQ ops prev).length=prev.length+ops.length
 |[],prev=>rfl
 |o::ops,prev=>by simp only[lQ,Nf ops,aoe,an0,aoa];omega
theorem Ey:∀(ops:List Oper)(prev:List Nat)(i:Nat),i<prev.length->(lQ ops prev).getD i 0=prev.getD i 0
 |[],prev,i,_=>rfl
 |o::ops,prev,i,h=>by
  simp only[lQ];rw[Ey ops _ i (by simp;omega)];simp[anm,an8 h]
theorem L9:∀(ops:List Oper)(prev:List Nat)(i:Nat)(o:Oper),ops[i]?=some o ->
  ∃q,(lQ ops prev).getD (prev.length+i) 0=Hn q o/\∀j,q.getD j 0≠0->j<prev.length+i/\q.getD j 0=(lQ ops prev).getD j 0
 |[],prev,i,o,h=>by simp at h
 |o'::ops,prev,0,o,h=>by
  simp at h;subst h
  refine⟨prev,?_,?_⟩
  ·simp only[lQ,akn];rw[Ey ops _ _ (by simp)];simp[anm]
  ·intro j hj
   have hlt:j<prev.length:=by
    rcases anu j prev.length with h |h
    ·exact h
    ·exact ao5 (by simp[anm,an2 h]) hj
   refine⟨by omega,?_⟩;simp only[lQ];rw[Ey ops _ _ (by simp;omega)];simp[anm,an8 hlt]
 |o'::ops,prev,i+1,o,h=>by
  simp at h;obtain⟨q,h1,h2⟩:=L9 ops (prev++[Hn prev o']) i o h;refine⟨q,?_,?_⟩
  ·simp only[lQ];rw[<- h1];simp only[aoe,an0,aoa];congr 1;omega
  ·intro j hj;obtain⟨h3,h4⟩:=h2 j hj;simp at h3;exact⟨by omega,h4⟩
def MI(R:Array Oper)(L:Nat->Bool):Prop:=∀i o,R[i]?=some o->L i=true->∀e∈o.after.toList,Region.binds .any e=true->L e.on=true
theorem Ld{R:Array Oper}{L:Nat->Bool}(hc:MI R L):∀(i:Nat)(o:Oper),R[i]?=some o ->
  (∀e∈o.after.toList,Region.binds .any e=true->L e.on=true)->∀j,((lQ R.toList []).getD i 0).testBit j=true->L j=true:=by
 intro i
 induction i using Nat.strongRecOn with
 |_ i ih =>
  intro o ho hp j hj;obtain⟨q,h1,h2⟩:=L9 R.toList [] i o (by simpa using ho);simp only[aoa,akv]at h1 h2;rw[h1]at hj;rcases U1 q j _ _ hj with h |⟨e,he,hb,h |h⟩
  ·simp at h
  ·exact h▸hp e he hb
  ·have bV:q.getD e.on 0≠0:=fun h0=>by rw[h0] at h; simp at h
   obtain⟨h3,h4⟩:=h2 e.on bV;rw[h4]at h;have hl:=hp e he hb
   have hlt:e.on<R.size:=by
    rcases anu e.on R.size with hh |hh
    ·exact hh
    ·exfalso;have:(lQ R.toList []).length=R.size:=by rw[Nf]; simp
     rw[anm,an2 oz]at h;simp at h
   exact ih e.on h3 R[e.on] (by simp[hlt]) (hc e.on _ (by simp[hlt]) hl) j h
def Out.wr(u:Out):List Nat:=u.upd.map (·.1)
def Out.nm(u:Out):List Nat:=(match u.val with |some x=>x.nm |none=>[])++u.upd.flatMap fun p=>match p.2 with |some x=>x.nm |none=>[]
def oW(a b:List Nat):Bool:=a.any fun x=>b.contains x
def C7(d:Option Nat)(l:List Nat):Bool:=match d with |some d=>l.contains d |none=>false
def nf(o1:Oper)(u1:Out)(o2:Oper)(u2:Out):Bool :=
  C7 o1.dst u2.rt||C7 o2.dst u1.rt||(match o1.dst with |some d=>o2.dst==some d |none=>false) ||
    oW u1.wr u2.rd||oW u1.wr u2.wr||oW u2.wr u1.rd||oW (u1.wr.filter fun k=>!u1.rd.contains k) u2.nm
def x6(M:List Nat)(o2:Oper)(u2:Out)(j:Nat):Nat->List Oper->List Out->Bool
  |i,o1::ops,u1::us=>(match aks i j with
      |true=>(!nf o1 u1 o2 u2||(M.getD j 0).testBit i)&&!oW (u2.wr.filter fun k=>!u2.rd.contains k) (u1.nm++u1.wr)
      |false=>true)&&x6 M o2 u2 j (i+1) ops us
  |_,_,_=>true
def Bf(M:List Nat)(R:List Oper)(U:List Out):Nat->List Oper->List Out->Bool
  |j,o::ops,u::us=>x6 M o u j 0 R U&&(o.after.toList.all fun e=>!Region.binds .any e||aks e.on j)&&Bf M R U (j+1) ops us
  |_,_,_=>true
def AS.freshB(s:AS)(k:Nat):Bool :=
  (s.sl.all fun p=>match p.2 with |some x=>!x.nm.contains k |none=>true) &&
    (s.hp.all fun p=>match p.2 with |some x=>!x.nm.contains k |none=>true) &&
    (match lk s.hp k with |some _=>false |none=>true)&&aks k 1000
theorem AS.fresh_of{s:AS}{k:Nat}(h:s.freshB k=true):s.Fresh k:=by
 simp only[AS.freshB,anq,anx]at h;obtain⟨⟨⟨h1,h2⟩,h3⟩,h4⟩:=h;refine⟨?_,by simpa[aj6]using h4,?_,?_⟩
 ·cases hk:lk s.hp k with
  |none=>rfl
  |some x=>rw[hk]at h3;simp at h3
 ·intro t x hx hn;have:=h1 _ (rA hx);simp at this;exact this hn.mem
 ·intro t x hx hn;have:=h2 _ (rA hx);simp at this;exact this hn.mem
def chk(R:List Oper)(U:List Out)(s:AS):Bool :=
  Bf (lQ R []) R U 0 R U&&(U.all fun u=>u.wr.all fun k=>u.rd.contains k||s.freshB k)
theorem KL{M:List Nat}{o2:Oper}{u2:Out}{j:Nat}:∀(ops:List Oper)(us:List Out)(i0:Nat),x6 M o2 u2 j i0 ops us=true ->
  ∀i o1 u1,ops[i]?=some o1->us[i]?=some u1->i0+i<j ->
   (nf o1 u1 o2 u2=true->(M.getD j 0).testBit (i0+i)=true)/\oW (u2.wr.filter fun k=>!u2.rd.contains k) (u1.nm++u1.wr)=false
 |[],_,_,_,i,o1,u1,h,_,_=>by simp at h
 |_::_,[],_,_,i,o1,u1,_,h,_=>by simp at h
 |o::ops,u::us,i0,hc,i,o1,u1,h1,h2,hlt=>by
  simp only[x6,anq]at hc;obtain⟨jc,sV⟩:=hc;cases i with
  |zero =>
   simp at h1 h2;subst h1;subst h2
   have hb:aks i0 j=true:=by simpa[aj6]using hlt
   rw[hb]at jc;simp only[anq,aos,amo]at jc;refine⟨fun hw=>?_,jc.2⟩;rcases jc.1 with h |h
   ·rw[hw]at h;cases h
   ·simpa using h
  |succ i =>
   simp at h1 h2;have:=KL ops us (i0+1) sV i o1 u1 h1 h2 oz;rw[show i0+(i+1)=i0+1+i by omega];exact this
theorem DN{M:List Nat}{R:List Oper}{U:List Out}:∀(ops:List Oper)(us:List Out)(j0:Nat),Bf M R U j0 ops us=true ->
  ∀j o u,ops[j]?=some o->us[j]?=some u->x6 M o u (j0+j) 0 R U=true/\∀e∈o.after.toList,Region.binds .any e=true->e.on<j0+j
 |[],_,_,_,i,o1,u1,h,_=>by simp at h
 |_::_,[],_,_,i,o1,u1,_,h=>by simp at h
 |o::ops,u::us,j0,hc,j,o1,u1,h1,h2=>by
  simp only[Bf,anq,anx]at hc;obtain⟨⟨jc,sV⟩,HA⟩:=hc;cases j with
  |zero =>
   simp at h1 h2;subst h1;subst h2
   refine⟨jc,fun e he hb=>?_⟩;have:=sV e he;simpa[hb,aj6]using this
  |succ j =>
   simp at h1 h2;have:=DN ops us (j0+1) HA j o1 u1 h1 h2;rw[show j0+(j+1)=j0+1+j by omega];exact this
def vw(R:Array Oper)(U:List Out)(s:AS)(L:Nat->Bool):Nat->AS
  |0=>s
  |i+1=>match L i,R[i]?,U[i]? with
    |true,some o,some u=>(vw R U s L i).app o.dst u
    |_,_,_=>vw R U s L i
theorem kQ(s:AS)(d:Option Tmp)(u:Out)(t:Nat):(s.app d u).get t=if d=some t then u.val else s.get t:=by
 cases d with
 |none=>simp[AS.app,AS.get]
 |some d =>
  simp only[AS.app,AS.get,a5]
  by_cases h:t=d
  ·simp[h]
  ·rw[aoy h,aoy (by simpa using fun e=>h e.symm)]
theorem vB(s:AS)(d:Option Tmp)(u:Out)(k:Nat):(s.app d u).blk k=if k∈u.wr then lk u.upd k else s.blk k:=by
 simp only[AS.app,AS.blk,sr,Out.wr];rfl
section
variable{R:Array Oper}{U:List Out}{s:AS}
theorem Pk{L:Nat->Bool}{t i:Nat}(n:Nat)(cF:i<=n)(h:∀j o,i<=j->R[j]?=some o->o.dst=some t->L j=false) :
  (vw R U s L n).get t=(vw R U s L i).get t:=by
 induction n with
 |zero=>rw[show i=0 by omega]
 |succ n ih =>
  by_cases hn:i<=n
  ·rw[<- ih hn];simp only[vw];split
   ·rename_i o u h1 h2 h3;rw[kQ,aoy];intro hd;rw[h n o hn h2 hd]at h1;cases h1
   ·rfl
  ·rw[show i=n+1 by omega]
theorem L5{L:Nat->Bool}{k i:Nat}(n:Nat)(cF:i<=n)(h:∀j u,i<=j->U[j]?=some u->k∈u.wr->L j=false) :
  (vw R U s L n).blk k=(vw R U s L i).blk k:=by
 induction n with
 |zero=>rw[show i=0 by omega]
 |succ n ih =>
  by_cases hn:i<=n
  ·rw[<- ih hn];simp only[vw];split
   ·rename_i o u h1 h2 h3;rw[vB,aoy];intro hd;rw[h n u hn h3 hd]at h1;cases h1
   ·rfl
  ·rw[show i=n+1 by omega]
theorem Hs{L L':Nat->Bool}{t:Nat}(n:Nat)(h:∀j o,j<n->R[j]?=some o->o.dst=some t->L j=L' j) :
  (vw R U s L n).get t=(vw R U s L' n).get t:=by
 induction n with
 |zero=>rfl
 |succ n ih =>
  have ih:=ih (fun j o hj=>h j o oz);simp only[vw];cases ho:R[n]? with
  |none=>cases L n <;> cases L' n <;> simp only[ih]
  |some o =>
   cases hu:U[n]? with
   |none=>cases L n <;> cases L' n <;> simp only[ih]
   |some u =>
    by_cases hd:o.dst=some t
    ·rw[h n o oz ho hd];cases L' n <;> simp only[kQ,hd,if_true,ih]
    ·cases L n <;> cases L' n <;> simp only[kQ,aoy hd,ih]
theorem Fz{L L':Nat->Bool}{k:Nat}(n:Nat)(h:∀j u,j<n->U[j]?=some u->k∈u.wr->L j=L' j) :
  (vw R U s L n).blk k=(vw R U s L' n).blk k:=by
 induction n with
 |zero=>rfl
 |succ n ih =>
  have ih:=ih (fun j o hj=>h j o oz);simp only[vw];cases ho:R[n]? with
  |none=>cases L n <;> cases L' n <;> simp only[ih]
  |some o =>
   cases hu:U[n]? with
   |none=>cases L n <;> cases L' n <;> simp only[ih]
   |some u =>
    by_cases hd:k∈u.wr
    ·rw[h n u oz hu hd];cases L' n <;> simp only[vB,hd,if_true,ih]
    ·cases L n <;> cases L' n <;> simp only[vB,aoy hd,ih]
theorem aer{L:Nat->Bool}{t:Nat}{x:AV}:∀n,(vw R U s L n).get t=some x ->
  s.get t=some x\/∃j u,L j=true/\U[j]?=some u/\u.val=some x:=by
 intro n
 induction n with
 |zero=>exact .inl
 |succ n ih =>
  intro h;simp only[vw]at h;split at h
  ·rename_i o u h1 h2 h3;rw[kQ]at h;split at h
   ·exact .inr ⟨n,u,h1,h3,h⟩
   ·exact ih h
  ·exact ih h
theorem OP{L:Nat->Bool}{k:Nat}{x:Blk}:∀n,(vw R U s L n).blk k=some x ->
  s.blk k=some x\/∃j u,L j=true/\U[j]?=some u/\k∈u.wr/\lk u.upd k=some x:=by
 intro n
 induction n with
 |zero=>exact .inl
 |succ n ih =>
  intro h;simp only[vw]at h;split at h
  ·rename_i o u h1 h2 h3;rw[vB]at h;split at h
   ·rename_i hk;exact .inr ⟨n,u,h1,h3,hk,h⟩
   ·exact ih h
  ·exact ih h
end
theorem agp{a b:List Nat}(h:oW a b=false){x:Nat}(ha:x∈a):x∉b:=by
 intro hb;simp only[oW,List.any_eq_false]at h;exact h x ha (by simpa using hb)
theorem zF{a b:List Nat}{x:Nat}(ha:x∈a)(hb:x∈b):oW a b=true:=by
 simp only[oW,ald];exact⟨x,ha,by simpa using hb⟩
section
variable{P:apb}{N:Nat}{R:Array Oper}{U:List Out}{s0:AS}{C:Ctx}{Q:Exit->Act->apc->Prop}
theorem aet{u:Out}{x:AV}{k:Nat}(h:u.val=some x)(hk:x.Names k):k∈u.nm:=by
 simp only[Out.nm,h,anz];exact .inl hk.mem
theorem WU{u:Out}{x:Blk}{k k':Nat}(h:lk u.upd k'=some x)(hk:x.Names k):k∈u.nm:=by
 simp only[Out.nm,anz,List.mem_flatMap];exact .inr ⟨_,rA h,hk.mem⟩
theorem Y2{n:Nat}(dA:R.toList.all nd=true)(hN:C.nt=N)(bK:U.length=R.size)(dD:∀(i:Nat) o u,R[i]?=some o->U[i]?=some u->Step P N R (vw R U s0 (fun _=>true) i) o u)
    (hc:chk R.toList U s0=true) (hQ:∀m a w,RelM C (vw R U s0 (fun _=>true) R.size) m a w->Q .normal a w) :
    ∀(fuel:Nat)(listed:Array Bool),listed.size=R.size->MI R (fun i=>listed.getD i false) ->
      ((List.range R.size).filter fun i=>!listed.getD i false).length<=fuel ->
      ∀m a w,RelM C (vw R U s0 (fun i=>listed.getD i false) R.size) m a w->wpAnyIn (Fw C.ro) n P .any R Q fuel listed a w:=by
  simp only[chk,anq,anx,aos]at hc;obtain⟨jc,sV⟩:=hc;have hU:∀i,i<R.size->∃o u,R[i]?=some o/\U[i]?=some u:=fun i hi=>⟨R[i],U[i],by simp[hi],by simp⟩
  have HB:∀i j o1 u1 o2 u2,R[i]?=some o1->U[i]?=some u1->R[j]?=some o2->U[j]?=some u2->i<j ->
      (nf o1 u1 o2 u2=true->((lQ R.toList []).getD j 0).testBit i=true)/\oW (u2.wr.filter fun k=>!u2.rd.contains k) (u1.nm++u1.wr)=false:=by
    intro i j o1 u1 o2 u2 h1 h2 h3 h4 hlt;have:=DN R.toList U 0 jc j o2 u2 (by simpa using h3) h4;simp only[akv]at this;have:=KL R.toList U 0 this.1 i o1 u1 (by simpa using h1) h2 oz;simpa using this
  have aih:∀j o,R[j]?=some o->∀e∈o.after.toList,Region.binds .any e=true->e.on<j:=by
    intro j o h
    have hj:j<R.size:=by
      rcases anu j R.size with hh |hh
      · exact hh
      · simp[am2 hh]at h
    obtain⟨o',u,h1,h2⟩:=hU j hj;rw[h]at h1;cases h1
    have:=(DN R.toList U 0 jc j o u (by simpa using h) h2).2;simpa using this
  have QF:∀(listed:Array Bool),listed.size=R.size->Region.ready .any R listed=[]->∀i,i<R.size->listed.getD i false=true:=by
    intro listed bG hr i
    induction i using Nat.strongRecOn with
    |_ i ih =>
      intro hi;cases hl:listed.getD i false with
      |true=>rfl
      |false =>
        exfalso
        have:i∈Region.ready .any R listed:=by
          simp only[Region.ready,ak3,alh];refine⟨hi,?_⟩
          have e1:listed.getD i true=false:=by
            simp only[anv]at hl ⊢;rw[amz oz]at hl ⊢;exact hl
          simp only[e1,Bool.not_false,amt];rw[amz hi];simp only[anh,ani,am6,aos,amo];intro e he;cases hb:Region.binds .any e with
          |false=>exact .inl rfl
          |true =>
            have:=aih i R[i] (by simp[hi]) e (by simpa using he) hb;exact .inr (ih e.on this oz)
        rw[hr]at this;cases this
  have mg:∀(listed:Array Bool),listed.size=R.size->Region.ready .any R listed=[]->∀m a w,
      RelM C (vw R U s0 (fun i=>listed.getD i false) R.size) m a w->Q .normal a w:=by
    intro listed bG hr m a w h;refine hQ m a w (h.congr (fun t=>Hs _ (fun j o hj _ _=>QF listed bG hr j hj)) (fun k=>Fz _ (fun j u hj _ _=>QF listed bG hr j hj)))
  intro fuel
  induction fuel with
  |zero =>
    intro listed bG fX hf m a w h
    have QG:Region.ready .any R listed=[]:=by
      cases hr:Region.ready .any R listed with
      |nil=>rfl
      |cons i l =>
        exfalso;have hi:i∈Region.ready .any R listed:=by rw[hr];exact aok
        simp only[Region.ready,ak3,alh,anq,amo]at hi
        have:listed.getD i false=false:=by
          have h1:=hi.2.1;simp only[anv]at h1 ⊢;rw[amz oz]at h1 ⊢;exact h1
        have aii:i∈(List.range R.size).filter fun i=>!listed.getD i false:=by simp[ak3,hi.1];simpa using this
        have:=List.length_pos_of_mem aii;omega
    exact⟨QG,mg listed bG QG m a w h⟩
  |succ fuel ih =>
    intro listed bG fX hf m a w h;refine⟨fun hr=>mg listed bG hr m a w h,?_⟩;intro i hi;simp only[Region.ready,ak3,alh,anq,amo]at hi;obtain⟨QH,eK,HC⟩:=hi
    have eK:listed.getD i false=false:=by
      simp only[anv]at eK ⊢;rw[amz oz]at eK ⊢;exact eK
    obtain⟨o,u,ho,hu⟩:=hU i QH;rw[ho]at HC;simp only[anh,ani,am6,aos,amo]at HC
    have QI:∀e∈o.after.toList,Region.binds .any e=true->listed.getD e.on false=true:=by
      intro e he hb;rcases HC e (by simpa using he)with h |h
      · rw[hb]at h;cases h
      · exact h
    have QJ:∀j oj uj,R[j]?=some oj->U[j]?=some uj->j<i->nf oj uj o u=true->listed.getD j false=true:=by
      intro j oj uj h1 h2 hlt hw;exact Ld fX i o ho QI j ((HB j i oj uj o u h1 h2 ho hu hlt).1 hw)
    have wY:∀j oj uj,R[j]?=some oj->U[j]?=some uj->i<j->nf o u oj uj=true->listed.getD j false=false:=by
      intro j oj uj h1 h2 hlt hw;cases hl:listed.getD j false with
      |false=>rfl
      |true =>
        have:=Ld fX j oj h1 (fX j oj h1 hl) i ((HB i j o u oj uj ho hu h1 h2 hlt).1 hw);rw[eK]at this;cases this
    have HD:∀(j:Nat) oj,R[j]?=some oj->∃uj,U[j]?=some uj:=by
      intro j oj h
      have hj:j<R.size:=by
        rcases anu j R.size with hh |hh
        · exact hh
        · simp[am2 hh]at h
      obtain⟨_,uj,_,h2⟩:=hU j hj;exact⟨uj,h2⟩
    have Dd:∀(j:Nat) uj,U[j]?=some uj->∃oj,R[j]?=some oj:=by
      intro j uj h
      have hj:j<R.size:=by
        rcases anu j R.size with hh |hh
        · exact hh
        · rw[an2 oz]at h;cases h
      obtain⟨oj,_,h1,_⟩:=hU j hj;exact⟨oj,h1⟩
    have gj:∀t,t∈u.rt->(vw R U s0 (fun i=>listed.getD i false) R.size).get t=(vw R U s0 (fun _=>true) i).get t:=by
      intro t ht;rw[Pk (i:=i) R.size oz]
      · refine Hs i (fun j oj hj gk hd=>?_)
        obtain⟨uj,fy⟩:=HD j oj gk;exact QJ j oj uj gk fy hj (by simp[nf,C7,hd,ht])
      · intro j oj hj gk hd
        obtain⟨uj,fy⟩:=HD j oj gk;rcases anu i j with hlt |hge
        · exact wY j oj uj gk fy hlt (by simp[nf,C7,hd,ht])
        · rw[show j=i by omega];exact eK
    have qr:∀k,k∈u.rd->(vw R U s0 (fun i=>listed.getD i false) R.size).blk k=(vw R U s0 (fun _=>true) i).blk k:=by
      intro k hk;rw[L5 (i:=i) R.size oz]
      · refine Fz i (fun j uj hj fy hd=>?_)
        obtain⟨oj,gk⟩:=Dd j uj fy;exact QJ j oj uj gk fy hj (by simp[nf,zF hd hk])
      · intro j uj hj fy hd
        obtain⟨oj,gk⟩:=Dd j uj fy;rcases anu i j with hlt |hge
        · exact wY j oj uj gk fy hlt (by simp[nf,zF hd hk])
        · rw[show j=i by omega];exact eK
    have ee:mU (vw R U s0 (fun i=>listed.getD i false) R.size) u:=by
      intro k hk
      by_cases HE:k∈u.rd
      · exact .inl HE
      refine .inr ?_
      have hfr:s0.Fresh k:=by
        rcases sV u (ank hu) k hk with h |h
        · exact ao5 (by simpa using h) HE
        · exact AS.fresh_of h
      have bw:k∈u.wr.filter fun k=>!u.rd.contains k:=by simp[ak3,HE];simpa[Out.wr]using hk
      have nv:∀j uj,listed.getD j false=true->U[j]?=some uj->k∉uj.nm/\k∉uj.wr:=by
        intro j uj hl fy;obtain⟨oj,gk⟩:=Dd j uj fy;rcases Nat.lt_trichotomy j i with hlt |heq |hgt
        · have hm:=agp (HB j i oj uj o u gk fy ho hu hlt).2 bw
          exact⟨fun h=>hm (anz.2 (.inl h)),fun h=>hm (anz.2 (.inr h))⟩
        · subst heq;rw[eK]at hl;cases hl
        · refine⟨fun hn=>?_,fun w6=>?_⟩
          · have:=wY j oj uj gk fy hgt (by simp only [nf,zF bw hn,Bool.or_true])
            rw[hl]at this;cases this
          · have:=wY j oj uj gk fy hgt (by simp[nf,zF (by simpa[Out.wr] using hk:k∈u.wr) w6])
            rw[hl]at this;cases this
      refine⟨?_,hfr.2.1,?_,?_⟩
      · cases hb:(vw R U s0 (fun i=>listed.getD i false) R.size).blk k with
        |none=>exact hb
        |some x =>
          rcases OP _ hb with h |⟨j,uj,hl,fy,w6,_⟩
          · rw[AS.blk,hfr.1]at h;cases h
          · exact ao5 w6 (nv j uj hl fy).2
      · intro t x hx hn
        rcases aer _ hx with h |⟨j,uj,hl,fy,hv⟩
        · exact hfr.2.2.1 t x h hn
        · exact(nv j uj hl fy).1 (aet hv hn)
      · intro k' x hx hn
        rcases OP _ hx with h |⟨j,uj,hl,fy,_,hv⟩
        · exact hfr.2.2.2 k' x h hn
        · exact(nv j uj hl fy).1 (WU hv hn)
    unfold wpOpIn;simp only[ho];have aij:nd o=true:=anx.1 dA o (by simpa using Array.mem_of_getElem? ho)
    suffices hs:(if Region.wanted o (yielded R a.tmps)then wq P o a w (wpAnyIn (Fw C.ro) n P .any R Q _ (listed.setIfInBounds i true)) Q else wpAnyIn (Fw C.ro) n P .any R Q _ (listed.setIfInBounds i true) (a.put o.dst undef) w) by
      split
      · rename_i hw;rw[aoz hw]at hs;exact Lm aij hs
      · rename_i hw;rw[aoy hw]at hs;exact⟨fun _ _=>trivial,hs⟩
    refine(dD i o u ho hu).run _ ⟨gj,qr⟩ ee C m a w Q _ hN h ?_;intro m' a' w' h'
    have hL:∀j,(listed.setIfInBounds i true).getD j false=if j=i then true else listed.getD j false:=by
      intro j;simp only[anv,anf]
      by_cases hj:j=i
      · subst hj
        rw[aoz rfl,aoz rfl,aoz oz];rfl
      · rw[aoy oz,aoy hj]
    refine ih (listed.setIfInBounds i true) (by simpa using bG) ?_ ?_ m' a' w' ?_
    · intro j oj gk hl e he hb
      simp only[hL]at hl ⊢
      by_cases QK:e.on=i
      · simp[QK]
      · rw[aoy QK]
        by_cases hj:j=i
        · subst hj;rw[ho]at gk;cases gk;exact QI e he hb
        · rw[aoy hj]at hl;exact fX j oj gk hl e he hb
    · have e1:((List.range R.size).filter fun j=>!(listed.setIfInBounds i true).getD j false) =
          ((List.range R.size).filter fun j=>!listed.getD j false).filter fun j=>!decide (j=i):=by
        rw[List.filter_filter];refine List.filter_congr (fun j _=>?_);rw[hL]
        by_cases hj:j=i <;> simp[hj]
      have e2:(((List.range R.size).filter fun j=>!listed.getD j false).filter fun j=>!decide (j=i)).length<((List.range R.size).filter fun j=>!listed.getD j false).length:=by
        rw[List.length_filter_lt_length_iff_exists];exact⟨i,by simp[ak3,QH];simpa using eK,by simp⟩
      rw[e1];omega
    · refine h'.congr (fun t=>?_) (fun k=>?_)
      · rw[kQ]
        by_cases hd:o.dst=some t
        · rw[aoz hd]
          rw[Pk (i:=i+1) R.size oz]
          · simp only[vw,hL,if_true,ho,hu,kQ,hd]
          · intro j oj hj gk uC
            rw[hL,aoy oz];obtain⟨uj,fy⟩:=HD j oj gk;exact wY j oj uj gk fy oz (by simp[nf,hd,uC])
        · rw[aoy hd]
          refine Hs _ (fun j oj hj gk uC=>?_);rw[hL,aoy];rintro rfl;rw[ho]at gk;cases gk;exact hd uC
      · rw[vB]
        by_cases hd:k∈u.wr
        · rw[aoz hd]
          rw[L5 (i:=i+1) R.size oz]
          · simp only[vw,hL,if_true,ho,hu,vB,hd]
          · intro j uj hj fy uC
            rw[hL,aoy oz];obtain⟨oj,gk⟩:=Dd j uj fy;exact wY j oj uj gk fy oz (by simp[nf,zF hd uC])
        · rw[aoy hd]
          refine Fz _ (fun j uj hj fy uC=>?_);rw[hL,aoy];rintro rfl;rw[hu]at fy;cases fy;exact hd uC
end
inductive TK where
  |bool |int (k:IntKind) |string |slice (e:Nat) |array (n e:Nat) |struct |iface (n:Nat) |pointer (e:Nat) |other
  deriving Inhabited
structure TI where
  size:Nat
  bytes:Nat
  zero:List ao9
  k:TK
  fs:List (Nat×Nat)
  deriving Inhabited
def TI.ag(t:TI):Bool:=match t.k with | .struct | .array _ _=>true |_=>false
def ky:TypeDesc->TK
  | .bool=>.bool
  | .int k=>.int k
  | .string=>.string
  | .slice e=>.slice e
  | .array n e=>.array n e
  | .struct _=>.struct
  | .interface ms=>.iface ms.size
  | .pointer e=>.pointer e
  |_=>.other
def wl(P:apb):TypeDesc->List (Nat×Nat)
  | .struct fs=>fs.toList.map fun f=>(f.offset,match P.info? f.type with |some j=>j.size |none=>0)
  |_=>[]
def aI(P:apb)(t:apa):Option TI :=
  match P.info? t,P.underlying t with
  |some i,some d=>match i.zero with
    |some z=>some ⟨i.size,i.bytes,z.cells.toList,ky d,wl P d⟩
    |none=>none
  |_,_=>none
theorem yI{P:apb}{t:apa}{ti:TI}(h:aI P t=some ti) :
  ∃i d z,P.info? t=some i/\P.underlying t=some d/\i.zero=some z/\ti=⟨i.size,i.bytes,z.cells.toList,ky d,wl P d⟩:=by
 unfold aI at h;split at h
 ·rename_i i d h1 h2;split at h
  ·rename_i z h3;cases h;exact⟨i,d,z,h1,h2,h3,rfl⟩
  ·cases h
 ·cases h
theorem jW{P:apb}{t:apa}{ti:TI}(h:aI P t=some ti)(w:apc):(sizeOf t).run P w=.ok ti.size w:=by
 obtain⟨i,d,z,h1,h2,h3,rfl⟩:=yI h;simp[sizeOf,typeInfo,h1]
theorem Kn{P:apb}{t:apa}{ti:TI}(h:aI P t=some ti)(w:apc):∃i,(typeInfo t).run P w=.ok i w/\i.bytes=ti.bytes/\i.size=ti.size:=by
 obtain⟨i,d,z,h1,h2,h3,rfl⟩:=yI h;exact⟨i,by simp[typeInfo,h1],rfl,rfl⟩
theorem yX{P:apb}{t:apa}{ti:TI}(h:aI P t=some ti)(w:apc):∃z,(zeroValue t).run P w=.ok z w/\z.cells.toList=ti.zero:=by
 obtain⟨i,d,z,h1,h2,h3,rfl⟩:=yI h;exact⟨z,by simp[zeroValue,typeInfo,h1,h3],rfl⟩
theorem fK{P:apb}{t:apa}{ti:TI}(h:aI P t=some ti)(w:apc):∃d,(underlying t).run P w=.ok d w/\ky d=ti.k/\wl P d=ti.fs/\P.underlying t=some d:=by
 obtain⟨i,d,z,h1,h2,h3,rfl⟩:=yI h;exact⟨d,by simp[underlying,h2],rfl,rfl,h2⟩
theorem lN{d:TypeDesc}{e:Nat}(h:ky d=.slice e):d=.slice e:=by cases d <;> simp_all[ky]
theorem P9{d:TypeDesc}(h:ky d=.string):d=.string:=by cases d <;> simp_all[ky]
theorem PQ{d:TypeDesc}(h:ky d=.bool):d=.bool:=by cases d <;> simp_all[ky]
theorem NH{d:TypeDesc}{k:IntKind}(h:ky d=.int k):d=.int k:=by cases d <;> simp_all[ky]
theorem Oz{d:TypeDesc}(h:ky d=.struct):∃fs,d=.struct fs:=by cases d <;> simp_all[ky]
theorem Ky{d:TypeDesc}{n:Nat}(h:ky d=.iface n):∃ms,d=.interface ms/\ms.size=n:=by cases d <;> simp_all[ky]
theorem ad5{P:apb}{t:apa}{ti:TI}(h:aI P t=some ti)(w:apc):(isAgg t).run P w=.ok ti.ag w:=by
 obtain⟨d,h1,h2,-,-⟩:=fK h w;simp only[isAgg,ape,h1,apd,TI.ag,<- h2];cases d <;> rfl
theorem mG(b off n:Nat):(⟨b,off,none⟩:Addr).add n=⟨b,off+n,none⟩:=by
 unfold Addr.add;split
 ·subst_vars;rfl
 ·rfl
theorem vZ{w:apc}{b off:Nat}{c:Array ao9}{t:apa}{f:Nat×Nat}(hb:w.heap[b]?=some (.cells c t f)) :
  w.cell? ⟨b,off,none⟩=c[off]?:=by
 simp[World.cell?,hb]
theorem Bq{P:apb}{w:apc}{T:apa}{ti:TI}{b off:Nat}{c:Array ao9}{t:apa}{f:Nat×Nat}
  (hT:aI P T=some ti) (hb:w.heap[b]?=some (.cells c t f)) (cF:off+ti.size<=c.size) (h1:ti.ag=true\/ti.size=1) :
  (loadVar T ⟨b,off,none⟩).run P w=.ok (if ti.ag then .agg (c.extract off (off+ti.size))else c.getD off undef) w:=by
 simp only[loadVar,ape,ad5 hT,apd];cases ha:ti.ag with
 |true =>
  simp only[if_true];have hl:(c.extract off (off+ti.size)).toList.length=ti.size:=by simp;omega
  have:=run_loadCells_list (P:=P) w ⟨b,off,none⟩ (c.extract off (off+ti.size)).toList (by
   intro j v hj;rw[mG,vZ hb];simp only[ana,am5]at hj;split at hj
   ·exact hj
   ·cases hj)
  rw[hl]at this;simp only[ape,jW hT,apd,this,apf,Array.toArray_toList]
 |false =>
  rcases h1 with h1 |h1
  ·rw[ha]at h1;cases h1
  ·simp only [ams,if_false,run_load,vZ hb];have:off<c.size:=by omega
   simp[this,anv]
def oR(ag:Bool)(l:List AV):AV:=match ag with
  |true=>.agg l
  |false=>match l with |x::_=>x |[]=>default
theorem BQ{g:Nat->Array ao9->Prop}{S:Nat->Nat->Prop}{m:Nat->Option Nat}{c:Array ao9}{off n:Nat}{ag:Bool}{xs:List AV}
  (hn:xs.length=n) (cF:off+n<=c.size) (h1:ag=true\/n=1) (ho:∀(j:Nat)(x:AV),xs[j]?=some x->x.one=true)
  (hr:∀(j:Nat)(u:ao9)(x:AV),xs[j]?=some x->c[off+j]?=some u->Rep g S m u x) :
  Rep g S m (if ag then .agg (c.extract off (off+n))else c.getD off undef) (oR ag xs):=by
 cases ag with
 |true =>
  simp only[if_true,oR];refine .agg (by simp;omega) ho ?_;intro j u x hu hx;simp only[am5]at hu;split at hu
  ·exact hr j u x hx hu
  ·cases hu
 |false =>
  rcases h1 with h1 |h1
  ·cases h1
  ·subst h1
   match xs,hn with
   |[x],_ =>
    simp only[ams,if_false,oR];have:off<c.size:=by omega
    refine hr 0 _ x rfl ?_;simp[this,anv]
def cg(P:apb)(N:Nat)(c:Code)(Q:Exit->AS->Prop)(s:AS):Prop :=
  ∀C m a w n,C.nt=N->RelM C s m a w->c.wpIn (Fw C.ro) n P (fun e a' w'=>∃s' m',Q e s'/\RelM C s' m' a' w') a w
def nP(P:apb)(N:Nat)(c:Code)(Q:Exit->AS->Prop)(s:AS):Prop :=
  ∀C m a w n,C.ro=none->C.nt=N->RelM C s m a w->c.wpIn (Fw C.ro) n P (fun e a' w'=>∃s' m',Q e s'/\RelM C s' m' a' w') a w
theorem cg.out{P:apb}{N:Nat}{c:Code}{Q:Exit->AS->Prop}{s:AS}(h:cg P N c Q s):nP P N c Q s:=fun C m a w n _=>h C m a w n
def Wk(s s':AS):Prop:=∀C m a w,RelM C s m a w->∃m',RelM C s' m' a w
theorem Wk.refl(s:AS):Wk s s:=fun _ m _ _ h=>⟨m,h⟩
theorem Wk.trans{s s' s'':AS}(h:Wk s s')(h':Wk s' s''):Wk s s'':=fun C m a w hr=>by
 obtain⟨m',hr'⟩:=h C m a w hr;exact h' C m' a w hr'
variable{P:apb}{N:Nat}{Q:Exit->AS->Prop}{s:AS}
theorem yx{c:Code}{s':AS}(hw:Wk s s')(h:cg P N c Q s'):cg P N c Q s:=by
 intro C m a w n hN hr;obtain⟨m',hr'⟩:=hw C m a w hr;exact h C m' a w n hN hr'
theorem mD{c:Code}{Q':Exit->AS->Prop}(h:cg P N c Q s)(hq:∀e s,Q e s->Q' e s):cg P N c Q' s :=
 fun C m a w n hN hr=>wpIn_mono (h C m a w n hN hr) fun e _ _ ⟨s',m',hQ,hr'⟩=>⟨s',m',hq e s' hQ,hr'⟩
theorem ad6{c:Code}{p:Prop}(hp:∀C m a w,RelM C s m a w->p)(h:p->cg P N c Q s):cg P N c Q s :=
 fun C m a w n hN hr=>h (hp C m a w hr) C m a w n hN hr
def Pt(K:AS->Prop)(Q:Exit->AS->Prop):Exit->AS->Prop
  | .normal,s=>K s
  |e,s=>Q e s
theorem Zb{x y:Code}(h:∀K:AS->Prop,(∀s,cg P N y Q s->K s)->cg P N x (Pt K Q) s):cg P N (.seq x y) Q s:=by
 intro C m a w n hN hr;refine wpIn_seq (wpIn_mono (h (cg P N y Q) (fun _ h=>h) C m a w n hN hr) ?_);rintro e a' w' ⟨s',m',hq,hr'⟩;cases e with
 |normal=>exact hq C m' a' w' n hN hr'
 |_=>exact⟨s',m',hq,hr'⟩
theorem ahr(h:Q .normal s):cg P N .skip Q s:=fun _ m _ _ _ _ hr=>wpIn_skip ⟨s,m,h,hr⟩
theorem Xj(h:Q .ret s):cg P N .ret Q s:=fun _ m _ _ _ _ hr=>wpIn_ret ⟨s,m,h,hr⟩
theorem ah8{id:Nat}(h:Q (.exit id) s):cg P N (.exit id) Q s:=fun _ m _ _ _ _ hr=>wpIn_exit ⟨s,m,h,hr⟩
def Cr(id:Nat)(K:AS->Prop)(Q:Exit->AS->Prop):Exit->AS->Prop
  | .exit id',s=>match ajx id' id with |true=>K s |false=>Q (.exit id') s
  | .normal,s=>K s
  |e,s=>Q e s
theorem Uy{id:Nat}{c:Code}(h:cg P N c (Cr id (Q .normal) Q) s):cg P N (.block id c) Q s:=by
 intro C m a w n hN hr;refine wpIn_block (wpIn_mono (h C m a w n hN hr) ?_);rintro e a' w' ⟨s',m',hq,hr'⟩;cases e with
 |exit id' =>
  simp only[Exit.inBlock];simp only[Cr]at hq;split at hq
  ·rename_i hb;rw[aoz (anw hb)];exact⟨s',m',hq,hr'⟩
  ·rename_i hb;rw[aoy (ake hb)];exact⟨s',m',hq,hr'⟩
 |_=>exact⟨s',m',hq,hr'⟩
inductive Ev(s:AS):ao8->AV->Prop
  |tmp {t:Nat} {x:AV} (h:s.get t=some x):Ev s (.tmp t) x
  |opt {t:Nat} {b:Bool} {x:AV} (h:s.get t=some (.opt b x)) (hb:b=true):Ev s (.tmp t) x
  |const (c:ao9):Ev s (.const c) (.v c)
  |func (f:FuncId):Ev s (.func f) (.v (.func (.func f) #[] #[]))
theorem Ev.rep{C:Ctx}{m:Nat->Option Nat}{a:Act}{w:apc}(hr:RelM C s m a w){o:ao8}{x:AV}(h:Ev s o x) :
  Rep (Im C.ext s.hp m w) (Sz w) m (a.eval o) x:=by
 cases h with
 |tmp h=>exact(hr.slots _ _ h).2
 | @opt t _ _ h hb =>
  have h2:=(hr.slots _ _ h).2;show Rep _ _ m (a.tmps.getD t undef) x;generalize a.tmps.getD t undef=u at h2;cases h2 with |opt h' _=>exact h' hb
 |const c=>exact .v _
 |func f=>exact .v _
theorem KC{c:ao8}{x y:Code}{b:Bool}(hc:Ev s c (.v (.bool b)))(ht:b=true->cg P N x Q s)(hf:b=false->cg P N y Q s) :
  cg P N (.cond c x y) Q s:=by
 intro C m a w n hN hr;have h:=hc.rep hr
 have:a.eval c=.bool b:=by
  generalize a.eval c=v at h;cases h;rfl
 exact wpIn_cond_split this (fun hb=>ht hb C m a w n hN hr) (fun hb=>hf hb C m a w n hN hr)
theorem ae6{F:Fence}{n9:Nat}{c:Code}{Q:Exit->Act->apc->Prop}{a:Act}{w:apc}(I:Nat->Act->apc->Prop){n:Nat}(h₀:I n a w)
  (round:∀n a w,I n a w->c.wpIn F n9 P (Exit.then (fun a' w'=>∃n',n'<n/\I n' a' w') Q) a w):(Code.loop c).wpIn F n9 P Q a w:=by
 intro b k cs om hb hr
 have key:∀n a w,I n a w->∃e a' w',Q e a' w'/\ArrivesIn (Machine.fenced P F) P (lone (b.atR a (.code c :: .inLoop c::k)) cs w) b k cs e a' w':=by
  intro n
  induction n using Nat.strongRecOn with
  |_ n ih =>
   intro a w hI;obtain⟨e,a₁,w₁,hq,De⟩:=round n a w hI b (.inLoop c::k) cs om hb hr;cases e with
   |normal =>
    obtain⟨n',hlt,hI₁⟩:=hq;obtain⟨e₂,a₂,w₂,hq₂,harr₂⟩:=ih n' hlt a₁ w₁ hI₁;exact⟨e₂,a₂,w₂,hq₂,.of_steps (StepsIn.trans De (.one (fenced_calm hb hr rfl) stepR_inLoop)) harr₂⟩
   |_=>exact⟨_,a₁,w₁,hq,.pass (x:=.inLoop c) rfl (fun _ _=>.inl (by simp)) De⟩
 obtain⟨e,a',w',hq,De⟩:=key n a w h₀;exact⟨e,a',w',hq,.of_steps (.one (fenced_calm hb hr rfl) stepR_loop) De⟩
theorem wP{c:Code}(I:Nat->AS->Prop){n:Nat}{s':AS}(hw:Wk s s')(h₀:I n s')
  (round:∀n s,I n s->∀K:AS->Prop,(∀s1 s2 n',Wk s1 s2->I n' s2->n'<n->K s1)->cg P N c (Pt K Q) s):cg P N (.loop c) Q s:=by
 intro C m a w n9 hN hr;obtain⟨m1,br⟩:=hw C m a w hr;refine ae6 (fun n a w=>∃s m,I n s/\RelM C s m a w) ⟨s',m1,h₀,br⟩ ?_;rintro n a w ⟨s,m,hI,hr⟩;refine wpIn_mono (round n s hI (fun s1=>∃s2 n',Wk s1 s2/\I n' s2/\n'<n) (fun s1 s2 n' h1 h2 h3=>⟨s2,n',h1,h2,h3⟩) C m a w n9 hN hr) ?_;rintro e a' w' ⟨s1,m1,hq,br⟩;cases e with
 |normal =>
  obtain⟨s2,n',h1,h2,h3⟩:=hq;obtain⟨m2,gG⟩:=h1 C m1 a' w' br;exact⟨n',h3,s2,m2,h2,gG⟩
 |_=>exact⟨s1,m1,hq,br⟩
theorem aic{id:Nat}{ops:List Oper}(hd:ops.all nd=true)(h:jH P N ops.toArray ops s [] (fun s' _=>Q .normal s')):cg P N (.region id ops.toArray false) Q s:=by
 intro C m a w n hN hr;refine wpIn_region ?_;have:=ZN (C:=C) (n:=n) hN (Q:=fun e a' w'=>∃s' m',Q e s'/\RelM C s' m' a' w') (fun s us m a w hq hr=>⟨s,m,hq,hr⟩) ops 0 s [] m a w (by simp) hd h hr;rw[List.range_eq_range'];simpa using this
theorem ad9{R:Array Oper}{K:AS->List Out->Prop}:∀(ops:List Oper)(s:AS)(us:List Out),jH P N R ops s us K ->
  ∃us',us'.length=ops.length/\K (vw ops.toArray us' s (fun _=>true) ops.length) (us++us') /\
   ∀(i:Nat) o u,ops[i]?=some o->us'[i]?=some u->Step P N R (vw ops.toArray us' s (fun _=>true) i) o u:=by
 intro ops
 induction ops with
 |nil=>intro s us h;exact⟨[],rfl,by simpa[vw,jH]using h,by simp⟩
 |cons o ops ih =>
  intro s us h;obtain⟨u,hs,hn,h⟩:=h;obtain⟨us',h1,h2,h3⟩:=ih _ _ h
  have hv:∀i,vw (o::ops).toArray (u::us') s (fun _=>true) (i+1)=vw ops.toArray us' (s.app o.dst u) (fun _=>true) i:=by
   intro i
   induction i with
   |zero=>simp[vw]
   |succ i ih =>
    rw[vw,ih,vw];simp
  refine⟨u::us',by simp[h1],?_,?_⟩
  ·rw[an0,hv];simpa using h2
  ·intro i o' u' ho hu;cases i with
   |zero=>simp at ho hu;subst ho;subst hu;simpa[vw]using hs
   |succ i =>
    rw[hv];exact h3 i o' u' (by simpa using ho) (by simpa using hu)
theorem aba{id:Nat}{ops:List Oper}(hd:ops.all nd=true)(hm:P.follows .mixedOrders=true)
  (h:jH P N ops.toArray ops s [] (fun s' us=>chk ops us s=true/\Q .normal s')):cg P N (.region id ops.toArray true) Q s:=by
 intro C m a w n hN hr;obtain⟨us,h1,⟨h2,h3⟩,h4⟩:=ad9 ops s [] h;refine wpIn_region_any hm ?_;refine Y2 (C:=C) (by simpa using hd) hN (U:=us) (s0:=s) (by simpa using h1) (by simpa using h4) (by simpa using h2) ?_ _ _ (by simp) ?_ ?_ m a _ ?_
 ·intro m a w hr;exact⟨_,m,h3,by simpa using hr⟩
 ·intro i o _ hl;simp only[anv,am0]at hl;split at hl <;> simp at hl
 ·exact an4 (List.length_filter_le _ _) (by simp)
 ·have hz:∀n,vw ops.toArray us s (fun i=>(ane ops.toArray.size false).getD i false) n=s:=by
   intro n
   induction n with
   |zero=>rfl
   |succ n ih =>
    rw[vw,ih]
    have:(ane ops.toArray.size false).getD n false=false:=by
     simp only[anv,am0];split <;> rfl
    rw[this]
  rw[hz];exact hr.drawn _
end Go.Lw
namespace Go.Lw
variable{P:apb}{N:Nat}{R:Array Oper}{s:AS}{pos:String}{after:Array Edge}
theorem ar{o:Oper}{ops:List Oper}{us:List Out}{K:AS->List Out->Prop}{u:Out}(hs:Step P N R s o u)(hn:mU s u)
  (h:jH P N R ops (s.app o.dst u) (us++[u]) K):jH P N R (o::ops) s us K:=⟨u,hs,hn,h⟩
def aA:ao8->List Nat
  | .tmp t=>[t]
  |_=>[]
theorem Ev.agree{s':AS}{u:Out}(h:jx s s' u){o:ao8}{x:AV}(he:Ev s o x)(hs:∀t∈aA o,t∈u.rt):Ev s' o x:=by
 cases he with
 |tmp ht=>exact .tmp ((h.1 _ (hs _ (by simp[aA]))).trans ht)
 |opt ht hb=>exact .opt ((h.1 _ (hs _ (by simp[aA]))).trans ht) hb
 |const c=>exact .const c
 |func f=>exact .func f
theorem qK{o:Oper}(hg:o.guard=none)(y:Nat->Option Bool):Region.wanted o y=true:=by simp[Region.wanted,hg]
theorem fp{o:Oper}{d:Nat}{x:AV}{rt rd:List Nat}(hg:o.guard=none)(hd:o.dst=some d)(hN:aks d N=true)
  (h:∀s',jx s s' ⟨some x,[],rt,rd⟩->∀C m a w,RelM C s' m a w ->
   ∃v,(execOp a.eval o).run P w=.ok (.value v) w/\Rep (Im C.ext s'.hp m w) (Sz w) m v x):Step P N R s o ⟨some x,[],rt,rd⟩:=by
 refine⟨fun s' aK _ C m a w Q next hC hr hnext=>?_⟩;rw[aoz (qK hg _)];refine zp ?_;obtain⟨v,h1,h2⟩:=h s' aK C m a w hr;rw[aj6]at hN;unfold Oper.wp;rw[h1];simp only[Oper.upon,hd,Act.put];refine hnext m _ _ ?_;have:=hr.put d v (some x) (fun y hy=>by cases hy;exact⟨by have:=hr.nt;omega,h2⟩);simpa[AS.app,hd]using this
theorem acn{d:Nat}{x:ao8}{v:AV}{t:apa}(he:Ev s x v)(hN:aks d N=true) :
  Step P N R s ⟨some d,.move x,t,pos,after,none⟩ ⟨some v,[],aA x,[]⟩ :=
 fp rfl rfl hN fun s' aK C m a w hr=>⟨a.eval x,rfl,(he.agree aK (fun _ h=>h)).rep hr⟩
theorem SJ{d:Nat}{x:ao8}{v:AV}{t:apa}(he:Ev s x v)(hN:aks d N=true) :
  Step P N R s ⟨some d,.assign x,t,pos,after,none⟩ ⟨some v,[],aA x,[]⟩ :=
 fp rfl rfl hN fun s' aK C m a w hr=>⟨a.eval x,rfl,(he.agree aK (fun _ h=>h)).rep hr⟩
def Sub(x y:AV):Prop:=∀g S m v,Rep g S m v x->Rep g S m v y
theorem Sub.nil(sz:Nat)(a:Option Addr)(c:Nat):Sub (.v (.slice a 0 c)) (.lst sz []):=fun g S m v h=>by cases h;exact .lst0 a c sz
theorem wG{d:Nat}{op:Op}{x:ao8}{vx y:ao9}{t:apa}(he:Ev s x (.v vx))(hN:aks d N=true)
  (h:∀(ρ:ao8->ao9)(w:apc),ρ x=vx->(execOp ρ ⟨some d,op,t,pos,after,none⟩).run P w=.ok (.value y) w) :
  Step P N R s ⟨some d,op,t,pos,after,none⟩ ⟨some (.v y),[],aA x,[]⟩ :=
 fp rfl rfl hN fun s' aK C m a w hr=>⟨y,h _ _ (by
  have:=(he.agree aK (fun _ h=>h)).rep hr;generalize a.eval x=u at this;cases this;rfl),.v y⟩
theorem mS{d:Nat}{op:Op}{x x':ao8}{vx vx' y:ao9}{t:apa}(he:Ev s x (.v vx))(he':Ev s x' (.v vx'))
  (hN:aks d N=true)
  (h:∀(ρ:ao8->ao9)(w:apc),ρ x=vx->ρ x'=vx'->(execOp ρ ⟨some d,op,t,pos,after,none⟩).run P w=.ok (.value y) w) :
  Step P N R s ⟨some d,op,t,pos,after,none⟩ ⟨some (.v y),[],aA x++aA x',[]⟩ :=
 fp rfl rfl hN fun s' aK C m a w hr=>⟨y,h _ _ (by
  have:=(he.agree aK (fun _ h=>anz.2 (.inl h))).rep hr;generalize a.eval x=u at this;cases this;rfl) (by
  have:=(he'.agree aK (fun _ h=>anz.2 (.inr h))).rep hr;generalize a.eval x'=u at this;cases this;rfl),.v y⟩
theorem XG{d:Nat}{x:ao8}{b:Bool}{T t:apa}(he:Ev s x (.v (.bool b)))(hN:aks d N=true) :
  Step P N R s ⟨some d,.unOp .not T x,t,pos,after,none⟩ ⟨some (.v (.bool !b)),[],aA x,[]⟩ :=
 wG he hN fun ρ w h=>by simp[execOp,h,Op.unary]
theorem Hq{d:Nat}{x:ao8}{k:IntKind}{n:Int}{T t:apa}(he:Ev s x (.v (.int k n)))(hN:aks d N=true) :
  Step P N R s ⟨some d,.unOp .neg T x,t,pos,after,none⟩ ⟨some (.v (.int k (k.wrap (0-n)))),[],aA x,[]⟩ :=
 wG he hN fun ρ w h=>by simp[execOp,h,Op.unary,Op.intArith]
theorem ac9{d:Nat}{x:ao8}{k k':IntKind}{n:Int}{S T t:apa}{ts ti:TI}(he:Ev s x (.v (.int k n)))
  (hN:aks d N=true) (hS:aI P S=some ts) (hT:aI P T=some ti) (hk:ti.k=.int k') :
  Step P N R s ⟨some d,.convert S T x,t,pos,after,none⟩ ⟨some (.v (.int k' (k'.wrap n))),[],aA x,[]⟩ :=
 wG he hN fun ρ w h=>by
  obtain⟨d1,h1,-,-,-⟩:=fK hS w;obtain⟨d2,h2,h3,-,-⟩:=fK hT w;obtain rfl:=NH (h3.trans hk);simp[execOp,h,convert,h1,h2,Conv.intToInt]
theorem TB{d:Nat}{x:ao8}{v:ao9}{T t:apa}{ti:TI}(he:Ev s x (.v v))(hN:aks d N=true)
  (hT:aI P T=some ti) (hk:(match ti.k with | .int _=>true | .struct=>true | .pointer _=>true | .string=>true |_=>false)=true) :
  Step P N R s ⟨some d,.makeInterface T x,t,pos,after,none⟩ ⟨some (.v (.iface T v)),[],aA x,[]⟩ :=
 wG he hN fun ρ w h=>by
  obtain⟨d2,h2,h3,-,-⟩:=fK hT w
  have:∀ms,d2≠.interface ms:=by
   rintro ms rfl;rw[<- h3]at hk;simp[ky]at hk
  simp only[execOp,h,Instr.makeInterface,ape,h2,apd];cases d2 <;> first |rfl |exact ao5 rfl (this _)
def i7(op:BinOp)(a b:Int):Int:=match op with | .add=>a+b | .sub=>a-b |_=>a*b
theorem afz{d:Nat}{op:BinOp}{x y:ao8}{k:IntKind}{a b:Int}{S T t:apa}
  (hx:Ev s x (.v (.int k a))) (hy:Ev s y (.v (.int k b))) (fO:(match op with | .add | .sub | .mul=>true |_=>false)=true) (hN:aks d N=true) :
  Step P N R s ⟨some d,.binOp op S x y T,t,pos,after,none⟩ ⟨some (.v (.int k (k.wrap (i7 op a b)))),[],aA x++aA y,[]⟩ :=
 mS hx hy hN fun ρ w h1 h2=>by
  cases op <;> simp at fO <;> simp[execOp,h1,h2,eqGuard,binOp,Op.intArith,i7]
def aa(op:BinOp)(a b:Int):Bool:=match op with
  | .eql=>a==b | .neq=>a != b | .lss=>a<b | .leq=>a<=b | .gtr=>a>b |_=>a>=b
theorem ST{d:Nat}{op:BinOp}{x y:ao8}{k:IntKind}{a b:Int}{S T t:apa}
  (hx:Ev s x (.v (.int k a))) (hy:Ev s y (.v (.int k b))) (fO:(match op with | .eql | .neq | .lss | .leq | .gtr | .geq=>true |_=>false)=true) (hN:aks d N=true) :
  Step P N R s ⟨some d,.binOp op S x y T,t,pos,after,none⟩ ⟨some (.v (.bool (aa op a b))),[],aA x++aA y,[]⟩ :=
 mS hx hy hN fun ρ w h1 h2=>by
  cases op <;> simp at fO <;> simp[execOp,h1,h2,eqGuard,binOp,Op.intCmp,aa]
theorem WC{d:Nat}{x y:ao8}{k:IntKind}{a b:Int}{S T t:apa}
  (hx:Ev s x (.v (.int k a))) (hy:Ev s y (.v (.int k b))) (hb:b≠0) (hN:aks d N=true) :
  Step P N R s ⟨some d,.binOp .quo S x y T,t,pos,after,none⟩ ⟨some (.v (.int k (k.wrap (a.tdiv b)))),[],aA x++aA y,[]⟩ :=
 mS hx hy hN fun ρ w h1 h2=>by simp[execOp,h1,h2,eqGuard,binOp,Op.intDiv,hb]
theorem adk{d:Nat}{x y:ao8}{k:IntKind}{a b:Int}{S T t:apa}
  (hx:Ev s x (.v (.int k a))) (hy:Ev s y (.v (.int k b))) (hb:b≠0) (hN:aks d N=true) :
  Step P N R s ⟨some d,.binOp .rem S x y T,t,pos,after,none⟩ ⟨some (.v (.int k (a.tmod b))),[],aA x++aA y,[]⟩ :=
 mS hx hy hN fun ρ w h1 h2=>by simp[execOp,h1,h2,eqGuard,binOp,Op.intDiv,hb]
theorem Vp{d:Nat}{x y:ao8}{k k':IntKind}{a b:Int}{S T t:apa}
  (hx:Ev s x (.v (.int k a))) (hy:Ev s y (.v (.int k' b))) (hb:0<=b) (hN:aks d N=true) :
  Step P N R s ⟨some d,.binOp .shl S x y T,t,pos,after,none⟩ ⟨some (.v (.int k (k.wrap (a*2^(min b.toNat k.bits))))),[],aA x++aA y,[]⟩ :=
 mS hx hy hN fun ρ w h1 h2=>by simp[execOp,h1,h2,eqGuard,binOp,Op.shift,Int.not_lt.2 hb]
theorem agl{d:Nat}{x y:ao8}{k k':IntKind}{a b:Int}{S T t:apa}
  (hx:Ev s x (.v (.int k a))) (hy:Ev s y (.v (.int k' b))) (hb:0<=b) (hN:aks d N=true) :
  Step P N R s ⟨some d,.binOp .shr S x y T,t,pos,after,none⟩ ⟨some (.v (.int k (a.fdiv (2^(min b.toNat k.bits))))),[],aA x++aA y,[]⟩ :=
 mS hx hy hN fun ρ w h1 h2=>by simp[execOp,h1,h2,eqGuard,binOp,Op.shift,Int.not_lt.2 hb]
def tE(op:BinOp)(k:IntKind)(a b:Int):Int :=
  let x:=BitVec.ofInt k.bits a
  let y:=BitVec.ofInt k.bits b
  k.wrap ((match op with | .and=>x &&& y | .or=>x ||| y | .xor=>x ^^^ y |_=>x &&& ~~~y).toNat:Int)
theorem ae1{d:Nat}{op:BinOp}{x y:ao8}{k:IntKind}{a b:Int}{S T t:apa}
  (hx:Ev s x (.v (.int k a))) (hy:Ev s y (.v (.int k b))) (fO:(match op with | .and | .or | .xor | .andNot=>true |_=>false)=true) (hN:aks d N=true) :
  Step P N R s ⟨some d,.binOp op S x y T,t,pos,after,none⟩ ⟨some (.v (.int k (tE op k a b))),[],aA x++aA y,[]⟩ :=
 mS hx hy hN fun ρ w h1 h2=>by
  cases op <;> simp at fO <;> simp[execOp,h1,h2,eqGuard,binOp,Op.intBits,tE]
theorem SD{d:Nat}{x y:ao8}{a b:ByteArray}{S T t:apa}
  (hx:Ev s x (.v (.string a))) (hy:Ev s y (.v (.string b))) (hN:aks d N=true) :
  Step P N R s ⟨some d,.binOp .eql S x y T,t,pos,after,none⟩ ⟨some (.v (.bool (a.toList==b.toList))),[],aA x++aA y,[]⟩ :=
 mS hx hy hN fun ρ w h1 h2=>by simp[execOp,h1,h2,eqGuard,binOp,Op.stringOp]
theorem Vu{d:Nat}{x y:ao8}{a b:ByteArray}{S T t:apa}
  (hx:Ev s x (.v (.string a))) (hy:Ev s y (.v (.string b))) (hN:aks d N=true) :
  Step P N R s ⟨some d,.binOp .neq S x y T,t,pos,after,none⟩ ⟨some (.v (.bool !(a.toList==b.toList))),[],aA x++aA y,[]⟩ :=
 mS hx hy hN fun ρ w h1 h2=>by simp[execOp,h1,h2,eqGuard,binOp,Op.stringOp]
theorem Qk{S:apa}{w:apc}(h3:(underlying S).run P w=.ok .bool w)(a b:Bool):(Op.equal S (.bool a) (.bool b)).run P w=.ok (a==b) w:=by
 show(Op.equalIn (9999+1) S _ _).run P w=_;rw[Op.equalIn];simp[h3]
theorem NE{S:apa}{w:apc}{ms:Array (String×apa)}(h3:(underlying S).run P w=.ok (.interface ms) w){v:ao9}
  (hv:v=.nilIface\/∃T u,v=.iface T u):(Op.equal S v .nilIface).run P w=.ok (match v with | .nilIface=>true |_=>false) w:=by
 show(Op.equalIn (9999+1) S _ _).run P w=_;rw[Op.equalIn];rcases hv with rfl |⟨T',u,rfl⟩ <;> simp[h3]
theorem aee{d:Nat}{x y:ao8}{a b:Bool}{S T t:apa}{ti:TI}
  (hx:Ev s x (.v (.bool a))) (hy:Ev s y (.v (.bool b))) (hS:aI P S=some ti) (hk:ti.k=.bool) (hN:aks d N=true) :
  Step P N R s ⟨some d,.binOp .eql S x y T,t,pos,after,none⟩ ⟨some (.v (.bool (a==b))),[],aA x++aA y,[]⟩ :=
 mS hx hy hN fun ρ w h1 h2=>by
  obtain⟨d2,h3,h4,-,-⟩:=fK hS w;obtain rfl:=PQ (h4.trans hk);simp[execOp,h1,h2,eqGuard,binOp,Qk h3]
theorem ZS{d:Nat}{x y:ao8}{a b:Bool}{S T t:apa}{ti:TI}
  (hx:Ev s x (.v (.bool a))) (hy:Ev s y (.v (.bool b))) (hS:aI P S=some ti) (hk:ti.k=.bool) (hN:aks d N=true) :
  Step P N R s ⟨some d,.binOp .neq S x y T,t,pos,after,none⟩ ⟨some (.v (.bool (a != b))),[],aA x++aA y,[]⟩ :=
 mS hx hy hN fun ρ w h1 h2=>by
  obtain⟨d2,h3,h4,-,-⟩:=fK hS w;obtain rfl:=PQ (h4.trans hk);simp[execOp,h1,h2,eqGuard,binOp,Qk h3,bne]
def iJ:ao9->Bool
  | .nilIface=>true
  |_=>false
theorem UY{d:Nat}{x:ao8}{v:ao9}{S T t:apa}{ti:TI}{n:Nat}
  (hx:Ev s x (.v v)) (hv:v=.nilIface\/∃T u,v=.iface T u) (hS:aI P S=some ti) (hk:ti.k=.iface n) (hN:aks d N=true) :
  Step P N R s ⟨some d,.binOp .eql S x (.const .nilIface) T,t,pos,after,none⟩ ⟨some (.v (.bool (iJ v))),[],aA x++[],[]⟩ :=
 fp rfl rfl hN fun s' aK C m a w hr=>⟨.bool (iJ v),by
  have h:=(hx.agree aK (fun _ h=>anz.2 (.inl h))).rep hr
  have h1:a.eval x=v:=by
   generalize a.eval x=u at h;cases h;rfl
  have h2:a.eval (.const .nilIface)=.nilIface:=rfl;obtain⟨d2,h3,h4,-,-⟩:=fK hS w;obtain⟨ms,rfl,-⟩:=Ky (h4.trans hk);have h5:=NE h3 hv;rcases hv with rfl |⟨T',u,rfl⟩ <;> simp[execOp,h1,h2,eqGuard,binOp,h5,iJ],.v _⟩
theorem ag4{d:Nat}{x:ao8}{v:ao9}{S T t:apa}{ti:TI}{n:Nat}
  (hx:Ev s x (.v v)) (hv:v=.nilIface\/∃T u,v=.iface T u) (hS:aI P S=some ti) (hk:ti.k=.iface n) (hN:aks d N=true) :
  Step P N R s ⟨some d,.binOp .neq S x (.const .nilIface) T,t,pos,after,none⟩ ⟨some (.v (.bool !(iJ v))),[],aA x++[],[]⟩ :=
 fp rfl rfl hN fun s' aK C m a w hr=>⟨.bool !(iJ v),by
  have h:=(hx.agree aK (fun _ h=>anz.2 (.inl h))).rep hr
  have h1:a.eval x=v:=by
   generalize a.eval x=u at h;cases h;rfl
  have h2:a.eval (.const .nilIface)=.nilIface:=rfl;obtain⟨d2,h3,h4,-,-⟩:=fK hS w;obtain⟨ms,rfl,-⟩:=Ky (h4.trans hk);have h5:=NE h3 hv;rcases hv with rfl |⟨T',u,rfl⟩ <;> simp[execOp,h1,h2,eqGuard,binOp,h5,iJ],.v _⟩
theorem WY{d:Nat}{x:ao8}{sz:Nat}{es:List AV}{T t:apa}{ti:TI}{e:Nat}
  (hx:Ev s x (.lst sz es)) (hT:aI P T=some ti) (hk:ti.k=.slice e) (hN:aks d N=true) :
  Step P N R s ⟨some d,.call ⟨.builtin .len,#[x],#[T]⟩,t,pos,after,none⟩ ⟨some (.v (.int .i64 es.length)),[],aA x,[]⟩ :=
 fp rfl rfl hN fun s' aK C m a w hr=>⟨.int .i64 es.length,by
  have h:=(hx.agree aK (fun _ h=>h)).rep hr;obtain⟨d2,h3,h4,-,-⟩:=fK hT w;obtain rfl:=lN (h4.trans hk);generalize hu:a.eval x=u at h;cases h <;> simp[execOp,resolve,hu,invoke,builtin,Builtin.len_,h3,goInt],.v _⟩
theorem U6{d:Nat}{x:ao8}{k sz off len:Nat}{T t:apa}{ti:TI}{e:Nat}
  (hx:Ev s x (.ms k sz off len)) (hT:aI P T=some ti) (hk:ti.k=.slice e) (hN:aks d N=true) :
  Step P N R s ⟨some d,.call ⟨.builtin .len,#[x],#[T]⟩,t,pos,after,none⟩ ⟨some (.v (.int .i64 len)),[],aA x,[]⟩ :=
 fp rfl rfl hN fun s' aK C m a w hr=>⟨.int .i64 len,by
  have h:=(hx.agree aK (fun _ h=>h)).rep hr;obtain⟨d2,h3,h4,-,-⟩:=fK hT w;obtain rfl:=lN (h4.trans hk);generalize hu:a.eval x=u at h;cases h <;> simp[execOp,resolve,hu,invoke,builtin,Builtin.len_,h3,goInt],.v _⟩
theorem RZ{d:Nat}{x:ao8}{b:ByteArray}{T t:apa}{ti:TI}
  (hx:Ev s x (.v (.string b))) (hT:aI P T=some ti) (hk:ti.k=.string) (hN:aks d N=true) :
  Step P N R s ⟨some d,.call ⟨.builtin .len,#[x],#[T]⟩,t,pos,after,none⟩ ⟨some (.v (.int .i64 b.size)),[],aA x,[]⟩ :=
 wG hx hN fun ρ w h=>by
  obtain⟨d2,h3,h4,-,-⟩:=fK hT w;obtain rfl:=P9 (h4.trans hk);simp[execOp,resolve,h,invoke,builtin,Builtin.len_,h3,goInt]
theorem Yw{d:Nat}{x:ao8}{a:Option Addr}{n c:Nat}{T t:apa}{ti:TI}{e:Nat}
  (hx:Ev s x (.v (.slice a n c))) (hT:aI P T=some ti) (hk:ti.k=.slice e) (hN:aks d N=true) :
  Step P N R s ⟨some d,.call ⟨.builtin .len,#[x],#[T]⟩,t,pos,after,none⟩ ⟨some (.v (.int .i64 n)),[],aA x,[]⟩ :=
 wG hx hN fun ρ w h=>by
  obtain⟨d2,h3,h4,-,-⟩:=fK hT w;obtain rfl:=lN (h4.trans hk);simp[execOp,resolve,h,invoke,builtin,Builtin.len_,h3,goInt]
theorem vC{d:Nat}{x y:ao8}{a b:Int}{k:IntKind}{T T' t:apa}
  (hx:Ev s x (.v (.int k a))) (hy:Ev s y (.v (.int k b))) (hN:aks d N=true) :
  Step P N R s ⟨some d,.call ⟨.builtin .max,#[x,y],#[T,T']⟩,t,pos,after,none⟩ ⟨some (.v (.int k (max a b))),[],aA x++aA y,[]⟩ :=
 mS hx hy hN fun ρ w h1 h2=>by
  have:(if b>a then b else a)=max a b:=by split <;> omega
  simp[execOp,resolve,h1,h2,invoke,builtin,Builtin.max_,Builtin.max2,this]
theorem Xt{d:Nat}{x:ao8}{xs:List AV}{i:Nat}{y:AV}{t:apa}
  (hx:Ev s x (.tup xs)) (hy:xs[i]?=some y) (hN:aks d N=true) :
  Step P N R s ⟨some d,.extract x i,t,pos,after,none⟩ ⟨some y,[],aA x,[]⟩ :=
 fp rfl rfl hN fun s' aK C m a w hr=>by
  have h:=(hx.agree aK (fun _ h=>h)).rep hr;generalize hu:a.eval x=u at h;cases h with
  | @tup _ vs _ hn bA =>
   have hi:i<vs.size:=by
    rw[hn];rcases anu i xs.length with h |h
    ·exact h
    ·rw[an2 h]at hy;cases hy
   exact⟨vs[i],by simp[execOp,hu,Instr.extract,hi],bA i _ y (by simp[hi]) hy⟩
theorem R3{d:Nat}{c x y:ao8}{b bx bz:Bool}{t:apa}(hc:Ev s c (.v (.bool b)))
  (hx:b=true->Ev s x (.v (.bool bx))) (hy:b=false->Ev s y (.v (.bool bz))) (hN:aks d N=true) :
  Step P N R s ⟨some d,.pick c x y,t,pos,after,none⟩ ⟨some (.v (.bool (cond b bx bz))),[],aA c++(aA x++aA y),[]⟩ :=
 fp rfl rfl hN fun s' aK C m a w hr=>by
  have mh:∀(o:ao8)(z:Bool),(∀t∈aA o,t∈aA c++(aA x++aA y))->Ev s o (.v (.bool z))->a.eval o=.bool z:=by
   intro o z lB h;have:=(h.agree aK lB).rep hr;generalize a.eval o=u at this;cases this;rfl
  have h1:=mh c b (fun t h=>by simp[h]) hc;cases b with
  |true=>exact⟨.bool bx,by simp[execOp,h1,asBool,mh x bx (fun t h=>by simp[h]) (hx rfl)],.v _⟩
  |false=>exact⟨.bool bz,by simp[execOp,h1,asBool,mh y bz (fun t h=>by simp[h]) (hy rfl)],.v _⟩
theorem gy{d j g:Nat}{op:Op}{t:apa}{want b:Bool}{x:AV}{rt rd:List Nat}
  (hj:(R[j]?).bind (·.dst)=some g) (hb:s.get g=some (.v (.bool b))) (hN:aks d N=true)
  (h:b=want->Step P N R s ⟨some d,op,t,pos,after,none⟩ ⟨some x,[],rt,rd⟩) :
  Step P N R s ⟨some d,op,t,pos,after,some (j,want)⟩ ⟨some (.opt (b==want) x),[],g::rt,rd⟩:=by
 refine⟨fun s' aK ee C m a w Q next hC hr hnext=>?_⟩;have hg:=hr.slots g _ ((aK.1 g (by simp)).trans hb)
 have rh:a.tmps[g]?=some (.bool b):=by
  obtain⟨h1,h2⟩:=hg;generalize hu:a.tmps.getD g undef=u at h2;cases h2;simp only[anv]at hu;rw[amz h1]at hu ⊢;simpa using hu
 have hy:yielded R a.tmps j=some b:=by simp[yielded,hj,rh]
 have hd:d<a.tmps.size:=by rw[aj6]at hN;have:=hr.nt;omega
 by_cases oo:b=want
 ·subst oo;have eU:Region.wanted ⟨some d,op,t,pos,after,some (j,b)⟩ (yielded R a.tmps)=true:=by simp[Region.wanted,hy]
  rw[aoz eU];have:=(h rfl).run s' ⟨fun t ht=>aK.1 t (by simp[show t∈rt from ht]),aK.2⟩ (fun k hk=>by cases hk) C m a w Q next hC hr (fun m' a' w' h'=>hnext m' a' w' ?_)
  ·rw[aoz (qK rfl _)]at this;exact this
  ·refine⟨fun t y hy=>?_,h'.heap,h'.frame,h'.new,h'.keep,h'.defers,h'.nt⟩;simp only[kQ]at hy;split at hy
   ·rename_i lC;cases hy;have:=h'.slots t x (by simp only[kQ,aoz lC]);exact⟨this.1,.opt (fun _=>this.2) (fun h=>by simp at h)⟩
   ·rename_i lC;exact h'.slots t y (by simp only[kQ,aoy lC];exact hy)
 ·have eU:¬ Region.wanted ⟨some d,op,t,pos,after,some (j,want)⟩ (yielded R a.tmps)=true:=by simp[Region.wanted,hy,oo]
  rw[aoy eU];have:=hr.put d undef (some (.opt (b==want) x)) (fun y hy=>by cases hy;exact⟨hd,.opt (fun h=>ao5 (beq_iff_eq.1 h) oo) (fun _=>rfl)⟩);refine hnext m _ _ ?_;simpa[AS.app,Act.put]using this
theorem wD{d j g:Nat}{op:Op}{t:apa}{want b c:Bool}{x:AV}{rt rd:List Nat}
  (hj:(R[j]?).bind (·.dst)=some g) (hb:s.get g=some (.opt c (.v (.bool b)))) (hN:aks d N=true)
  (h:c=true->b=want->Step P N R s ⟨some d,op,t,pos,after,none⟩ ⟨some x,[],rt,rd⟩) :
  Step P N R s ⟨some d,op,t,pos,after,some (j,want)⟩ ⟨some (.opt (c&&b==want) x),[],g::rt,rd⟩:=by
 refine⟨fun s' aK ee C m a w Q next hC hr hnext=>?_⟩;have hg:=hr.slots g _ ((aK.1 g (by simp)).trans hb);have hd:d<a.tmps.size:=by rw[aj6]at hN;have:=hr.nt;omega
 have rh:(c=true/\a.tmps[g]?=some (.bool b))\/(c=false/\a.tmps[g]?=some undef):=by
  obtain⟨h1,h2⟩:=hg;generalize hu:a.tmps.getD g undef=u at h2;simp only[anv]at hu;rw[amz h1]at hu ⊢;simp only[ani]at hu;cases h2 with
  |opt h2 h2' =>
   cases c with
   |true=>have:=h2 rfl;cases this;exact .inl ⟨rfl,by rw[hu]⟩
   |false=>exact .inr ⟨rfl,by rw[hu,h2' rfl]⟩
 have nv:∀eU:¬Region.wanted ⟨some d,op,t,pos,after,some (j,want)⟩ (yielded R a.tmps)=true,(c&&b==want)=false ->
   if Region.wanted ⟨some d,op,t,pos,after,some (j,want)⟩ (yielded R a.tmps)then wq P ⟨some d,op,t,pos,after,some (j,want)⟩ a w next Q
    else next (a.put (some d) undef) w:=by
  intro eU hc;rw[aoy eU];have:=hr.put d undef (some (.opt (c&&b==want) x)) (fun y hy=>by cases hy;exact⟨hd,.opt (fun h=>by rw[hc]at h;cases h) (fun _=>rfl)⟩);refine hnext m _ _ ?_;simpa[AS.app,Act.put]using this
 rcases rh with⟨rfl,rh⟩ |⟨rfl,rh⟩
 ·have hy:yielded R a.tmps j=some b:=by simp[yielded,hj,rh]
  by_cases oo:b=want
  ·subst oo;have eU:Region.wanted ⟨some d,op,t,pos,after,some (j,b)⟩ (yielded R a.tmps)=true:=by simp[Region.wanted,hy]
   rw[aoz eU];have:=(h rfl rfl).run s' ⟨fun t ht=>aK.1 t (by simp[show t∈rt from ht]),aK.2⟩ (fun k hk=>by cases hk) C m a w Q next hC hr (fun m' a' w' h'=>hnext m' a' w' ?_)
   ·rw[aoz (qK rfl _)]at this;exact this
   ·refine⟨fun t y hy=>?_,h'.heap,h'.frame,h'.new,h'.keep,h'.defers,h'.nt⟩;simp only[kQ]at hy;split at hy
    ·rename_i lC;cases hy;have:=h'.slots t x (by simp only[kQ,aoz lC]);exact⟨this.1,.opt (fun _=>this.2) (fun h=>by simp at h)⟩
    ·rename_i lC;exact h'.slots t y (by simp only[kQ,aoy lC];exact hy)
  ·exact nv (by simp[Region.wanted,hy,oo]) (by simp[oo])
 ·have hy:yielded R a.tmps j=none:=by simp[yielded,hj,rh,undef]
  exact nv (by simp[Region.wanted,hy]) rfl
def AV.ok:AV->Bool
  | .agg _=>true
  |x=>x.one
theorem AV.ok_spec{x:AV}(h:x.ok=true):(∃cs,x=.agg cs)\/x.one=true:=by
 cases x <;> simp_all[AV.ok]
theorem xZ{C:Ctx}{m:Nat->Option Nat}{a:Act}{w:apc}(hr:RelM C s m a w){x:ao8}{k off:Nat}(hx:Ev s x (.ptr k off)) :
  ∃b,m k=some b/\a.eval x=.pointer (some ⟨b,off,none⟩):=by
 have h:=hx.rep hr;generalize a.eval x=u at h;cases h with |ptr hm=>exact⟨_,hm,rfl⟩
theorem AM{C:Ctx}{m:Nat->Option Nat}{a:Act}{w:apc}(hr:RelM C s m a w){x:ao8}{k sz i off:Nat}(hx:Ev s x (.eptr k sz i off)) :
  ∃b,m k=some b/\a.eval x=.pointer (some ⟨b,i*sz+off,none⟩):=by
 have h:=hx.rep hr;generalize a.eval x=u at h;cases h with |eptr hm=>exact⟨_,hm,rfl⟩
theorem ug{C:Ctx}{m:Nat->Option Nat}{a:Act}{w:apc}(hr:RelM C s m a w){x:ao8}{v:ao9}(hx:Ev s x (.v v)):a.eval x=v:=by
 have h:=hx.rep hr;generalize a.eval x=u at h;cases h;rfl
theorem Cl{ext:Nat->Prop}{hp:Hp}{m:Nat->Option Nat}{w:apc}(h:HeapRel ext hp m w){k b:Nat}{cs:List AV}(hk:lk hp k=some (.box cs))(hm:m k=some b) :
  ∃c t,w.heap[b]?=some (.cells c t (0,0))/\c.size=cs.length/\(∀(j:Nat)(x:AV),cs[j]?=some x->x.one=true) /\
   ∀(j:Nat)(u:ao9)(x:AV),c[j]?=some u->cs[j]?=some x->Rep (Im ext hp m w) (Sz w) m u x:=by
 have:=h.blk k _ hk;rw[hm]at this;cases this with |box hw hn h1 hr=>exact⟨_,_,hw,hn,h1,hr⟩
theorem yG{ext:Nat->Prop}{hp:Hp}{m:Nat->Option Nat}{w:apc}(h:HeapRel ext hp m w){k b sz:Nat}{es:List AV}(hk:lk hp k=some (.row sz es))(hm:m k=some b) :
  ∃c t,w.heap[b]?=some (.cells c t (0,0))/\es.length*sz<=c.size/\es.length<=bb/\(∀(i:Nat)(e:AV),es[i]?=some e->e.cells.length=sz) /\
   (∀(i j:Nat)(e x:AV),es[i]?=some e->e.cells[j]?=some x->x.one=true) /\
   ∀(i j:Nat)(e:AV)(u:ao9)(x:AV),es[i]?=some e->e.cells[j]?=some x->c[i*sz+j]?=some u->Rep (Im ext hp m w) (Sz w) eQ u x:=by
 have:=h.blk k _ hk;rw[hm]at this;cases this with |row hw hn hl hs h1 hr=>exact⟨_,_,hw,hn,hl,hs,h1,hr⟩
theorem ag2{d:Nat}{x:ao8}{k off:Nat}{cs:List AV}{T t:apa}{ti:TI}
  (hx:Ev s x (.ptr k off)) (hk:s.blk k=some (.box cs)) (hT:aI P T=some ti) (cF:Nat.ble (off+ti.size) cs.length=true)
  (h1:(ti.ag||ajx ti.size 1)=true) (hN:aks d N=true) :
  Step P N R s ⟨some d,.load T x,t,pos,after,none⟩ ⟨some (oR ti.ag ((cs.drop off).take ti.size)),[],aA x,[k]⟩ :=
 fp rfl rfl hN fun s' aK C m a w hr=>by
  rw[akp]at cF;have h1:ti.ag=true\/ti.size=1:=by simpa using h1
  obtain⟨b,hm,hv⟩:=xZ hr (hx.agree aK (fun _ h=>h));obtain⟨c,t,hw,hn,ho,bA⟩:=Cl hr.heap ((aK.2 k (by simp)).trans hk) hm;refine⟨_,?_,BQ (c:=c) (off:=off) (n:=ti.size) (by simp;omega) oz h1 ?_ ?_⟩
  ·simp[execOp,Instr.loadAt,hv,Instr.sureAddr,Bq hT hw (by omega:off+ti.size<=c.size) h1]
  ·intro j y hy;rw[aof]at hy;split at hy
   ·rw[aop]at hy;exact ho _ y hy
   ·cases hy
  ·intro j u y hy hu;rw[aof]at hy;split at hy
   ·rw[aop]at hy;exact bA _ u y hu hy
   ·cases hy
theorem I2{g:Nat->Array ao9->Prop}{S:Nat->Nat->Prop}{m:Nat->Option Nat}{u:ao9}{x:AV}(h:Rep g S eQ u x):Rep g S m u x :=
 h.mono (fun _ _ h=>h) (fun _ _ h=>h) (fun k b _ hb=>by cases hb)
theorem afh{g:Nat->Array ao9->Prop}{S:Nat->Nat->Prop}{m:Nat->Option Nat}{u:ao9}{x:AV}(h:Rep g S m u x)(hx:x.nm=[]):Rep g S eQ u x :=
 h.mono (fun _ _ h=>h) (fun _ _ h=>h) (fun k b hk _=>by have:=hk.mem;rw[hx]at this;cases this)
theorem qI{i n sz:Nat}(h:i<n):i*sz+sz<=n*sz:=by
 have:=aod sz (show i+1<=n from h);rw[aj9]at this;exact this
theorem fR{d:Nat}{x:ao8}{k sz i off:Nat}{es:List AV}{e:AV}{T t:apa}{ti:TI}
  (hx:Ev s x (.eptr k sz i off)) (hk:s.blk k=some (.row sz es)) (he:es[i]?=some e) (hT:aI P T=some ti) (cF:Nat.ble (off+ti.size) e.cells.length=true)
  (h1:(ti.ag||ajx ti.size 1)=true) (hN:aks d N=true) :
  Step P N R s ⟨some d,.load T x,t,pos,after,none⟩ ⟨some (oR ti.ag ((e.cells.drop off).take ti.size)),[],aA x,[k]⟩ :=
 fp rfl rfl hN fun s' aK C m a w hr=>by
  rw[akp]at cF;have h1:ti.ag=true\/ti.size=1:=by simpa using h1
  obtain⟨b,hm,hv⟩:=AM hr (hx.agree aK (fun _ h=>h));obtain⟨c,t,hw,hn,hl,hs,ho,bA⟩:=yG hr.heap ((aK.2 k (by simp)).trans hk) hm
  have hi:i<es.length:=by
   rcases anu i es.length with h |h
   ·exact h
   ·rw[an2 h]at he;cases he
  have hb:=qI (sz:=sz) hi;have mi:=hs i e he;refine⟨_,?_,BQ (c:=c) (off:=i*sz+off) (n:=ti.size) (by simp;omega) oz h1 ?_ ?_⟩
  ·simp[execOp,Instr.loadAt,hv,Instr.sureAddr,Bq hT hw (by omega:i*sz+off+ti.size<=c.size) h1]
  ·intro j y hy;rw[aof]at hy;split at hy
   ·rw[aop]at hy;exact ho i _ e y he hy
   ·cases hy
  ·intro j u y hy hu;rw[aof]at hy;split at hy
   ·rw[aop]at hy;exact I2 (bA i _ e u y he hy (by rw[<- hu];congr 1;omega))
   ·cases hy
theorem afs{d:Nat}{x:ao8}{xs:List AV}{T t:apa}{ti:TI}
  (hx:Ev s x (.iptr xs)) (hT:aI P T=some ti) (cF:(aks 0 ti.size&&Nat.ble ti.size xs.length)=true)
  (h1:(ti.ag||ajx ti.size 1)=true) (hN:aks d N=true) :
  Step P N R s ⟨some d,.load T x,t,pos,after,none⟩ ⟨some (oR ti.ag (xs.take ti.size)),[],aA x,[]⟩ :=
 fp rfl rfl hN fun s' aK C m a w hr=>by
  simp only[anq,akp,aj6]at cF;have h1:ti.ag=true\/ti.size=1:=by simpa using h1
  have h:=(hx.agree aK (fun _ h=>h)).rep hr;generalize hv:a.eval x=u at h;cases h with
  | @iptr _ b off cs _ u hb ho hu bA =>
   obtain⟨_,_,t,f,hw⟩:=hb
   have bG:off+ti.size<=cs.size:=by
    have hlt:ti.size-1<xs.length:=by omega
    have:=hu (ti.size-1) xs[ti.size-1] (by simp[hlt]);rcases anu (off+(ti.size-1)) cs.size with h |h
    ·omega
    ·rw[am2 h]at this;cases this
   refine⟨_,?_,BQ (c:=cs) (off:=off) (n:=ti.size) (by simp;omega) oz h1 ?_ ?_⟩
   ·simp[execOp,Instr.loadAt,hv,Instr.sureAddr,Bq hT hw bG h1]
   ·intro j y hy;rw[aof]at hy;split at hy
    ·exact ho _ y hy
    ·cases hy
   ·intro j u' y hy hu';rw[aof]at hy;split at hy
    ·have:=hu j y hy;rw[hu']at this;cases this
     exact I2 (bA j y hy)
    ·cases hy
theorem EF{T:apa}{ti:TI}{f o n:Nat}(hT:aI P T=some ti)(hk:ti.k=.struct)(hf:ti.fs[f]?=some (o,n))(hn:aks 0 n=true)
  (w:apc) (b off:Nat):(Instr.fieldAt T (.pointer (some ⟨b,off,none⟩)) f).run P w=.ok (.pointer (some ⟨b,off+o,none⟩)) w:=by
 rw[aj6]at hn;obtain⟨d2,h2,h3,h4,-⟩:=fK hT w;obtain⟨fs,rfl⟩:=Oz (h3.trans hk);rw[<- h4]at hf;simp only[wl,anr,ann,ana]at hf;obtain⟨fl,h5,h6⟩:=hf;cases h6;cases hi:P.info? fl.type with
 |none=>rw[hi]at hn;simp at hn
 |some j =>
  rw[hi]at hn;have hj:¬j.size=0:=by simp only at hn;omega
  simp[Instr.fieldAt,h2,h5,Instr.sureAddr,fieldPlace,sizeOf,typeInfo,hi,hj,mG]
theorem Vv{d:Nat}{x:ao8}{k off f o n:Nat}{T t:apa}{ti:TI}
  (hx:Ev s x (.ptr k off)) (hT:aI P T=some ti) (hk:ti.k=.struct) (hf:ti.fs[f]?=some (o,n)) (hn:aks 0 n=true) (hN:aks d N=true) :
  Step P N R s ⟨some d,.fieldAddr T x f,t,pos,after,none⟩ ⟨some (.ptr k (off+o)),[],aA x,[]⟩ :=
 fp rfl rfl hN fun s' aK C m a w hr=>by
  obtain⟨b,hm,hv⟩:=xZ hr (hx.agree aK (fun _ h=>h));exact⟨_,by simp[execOp,hv,EF hT hk hf hn],.ptr hm⟩
theorem aan{d:Nat}{x:ao8}{k sz i off f o n:Nat}{T t:apa}{ti:TI}
  (hx:Ev s x (.eptr k sz i off)) (hT:aI P T=some ti) (hk:ti.k=.struct) (hf:ti.fs[f]?=some (o,n)) (hn:aks 0 n=true) (hN:aks d N=true) :
  Step P N R s ⟨some d,.fieldAddr T x f,t,pos,after,none⟩ ⟨some (.eptr k sz i (off+o)),[],aA x,[]⟩ :=
 fp rfl rfl hN fun s' aK C m a w hr=>by
  obtain⟨b,hm,hv⟩:=AM hr (hx.agree aK (fun _ h=>h));refine⟨.pointer (some ⟨b,i*sz+(off+o),none⟩),?_,.eptr hm⟩;simp[execOp,hv,EF hT hk hf hn,ajs]
theorem agc{d:Nat}{x:ao8}{xs:List AV}{f o n:Nat}{T t:apa}{ti:TI}
  (hx:Ev s x (.iptr xs)) (hT:aI P T=some ti) (hk:ti.k=.struct) (hf:ti.fs[f]?=some (o,n)) (hn:aks 0 n=true) (hN:aks d N=true) :
  Step P N R s ⟨some d,.fieldAddr T x f,t,pos,after,none⟩ ⟨some (.iptr (xs.drop o)),[],aA x,[]⟩ :=
 fp rfl rfl hN fun s' aK C m a w hr=>by
  have h:=(hx.agree aK (fun _ h=>h)).rep hr;generalize hv:a.eval x=u at h;cases h with
  | @iptr _ b off cs _ u hb ho hu bA =>
   refine⟨_,by simp[execOp,hv,EF hT hk hf hn];rfl,?_⟩;refine .iptr (fun j=>u (o+j)) hb ?_ ?_ ?_
   ·intro j c hc;rw[aop]at hc;exact ho _ c hc
   ·intro j c hc;rw[aop]at hc;rw[ajs];exact hu _ c hc
   ·intro j c hc;rw[aop]at hc;exact bA _ c hc
theorem ab3{d:Nat}{x ix:ao8}{kk:IntKind}{i:Int}{sz:Nat}{es:List AV}{e:AV}{T E t:apa}{ti te:TI}
  (hx:Ev s x (.lst sz es)) (hi:Ev s ix (.v (.int kk i))) (hT:aI P T=some ti) (hk:ti.k=.slice E) (hE:aI P E=some te) (bG:te.size=sz)
  (h0:0<=i) (he:es[i.toNat]?=some e) (hN:aks d N=true) :
  Step P N R s ⟨some d,.indexAddr T x ix,t,pos,after,none⟩ ⟨some (.iptr e.cells),[],aA x++aA ix,[]⟩ :=
 fp rfl rfl hN fun s' aK C m a w hr=>by
  have h:=(hx.agree aK (fun _ h=>anz.2 (.inl h))).rep hr;have HF:=ug hr (hi.agree aK (fun _ h=>anz.2 (.inr h)));obtain⟨d2,h2,h3,-,-⟩:=fK hT w;obtain rfl:=lN (h3.trans hk)
  have hlt:i.toNat<es.length:=by
   rcases anu i.toNat es.length with h |h
   ·exact h
   ·rw[an2 h]at he;cases he
  generalize hv:a.eval x=u at h;cases h with
  |lst0 a cap=>simp at hlt
  | @lst _ b off cap _ _ cs u hb hc hl hs ho hu bA =>
   have jc:0<=i/\i<(es.length:Int):=by omega
   subst bG;refine⟨.pointer (some ⟨b,off+i.toNat*te.size,none⟩),?_,?_⟩
   ·simp[execOp,hv,HF,Instr.indexAt,asIntOf,h2,jc,jW hE,mG]
   ·refine .iptr (fun j=>u i.toNat j) hb (fun j c hc=>ho i.toNat j e c he hc) (fun j c hc=>hu i.toNat j e c he hc) (fun j c hc=>bA i.toNat j e c he hc)
theorem qY{d:Nat}{x ix:ao8}{kk:IntKind}{i:Int}{k sz off len:Nat}{T E t:apa}{ti te:TI}
  (hx:Ev s x (.ms k sz off len)) (hi:Ev s ix (.v (.int kk i))) (hT:aI P T=some ti) (hk:ti.k=.slice E) (hE:aI P E=some te) (bG:te.size=sz)
  (h0:0<=i) (he:i<(len:Int)) (hN:aks d N=true) :
  Step P N R s ⟨some d,.indexAddr T x ix,t,pos,after,none⟩ ⟨some (.eptr k sz (off+i.toNat) 0),[],aA x++aA ix,[]⟩ :=
 fp rfl rfl hN fun s' aK C m a w hr=>by
  have h:=(hx.agree aK (fun _ h=>anz.2 (.inl h))).rep hr;have HF:=ug hr (hi.agree aK (fun _ h=>anz.2 (.inr h)));obtain⟨d2,h2,h3,-,-⟩:=fK hT w;obtain rfl:=lN (h3.trans hk);generalize hv:a.eval x=u at h;cases h with
  |ms0=>simp at he;omega
  | @ms _ _ _ _ _ cap b hm hc hS =>
   subst bG;refine⟨.pointer (some ⟨b,(off+i.toNat)*te.size+0,none⟩),?_,.eptr hm⟩;simp[execOp,hv,HF,Instr.indexAt,asIntOf,h2,h0,he,jW hE,mG,akk]
theorem C3{d:Nat}{x ix:ao8}{kk:IntKind}{i:Int}{b:ByteArray}{T t:apa}{ti:TI}
  (hx:Ev s x (.v (.string b))) (hi:Ev s ix (.v (.int kk i))) (hT:aI P T=some ti) (hk:ti.k=.string)
  (h0:0<=i) (he:i<(b.size:Int)) (hN:aks d N=true) :
  Step P N R s ⟨some d,.index T x ix,t,pos,after,none⟩ ⟨some (.v (.int .u8 (b.data.getD i.toNat 0).toNat)),[],aA x++aA ix,[]⟩ :=
 mS hx hi hN fun ρ w h1 h2=>by
  obtain⟨d2,h3,h4,-,-⟩:=fK hT w;obtain rfl:=P9 (h4.trans hk);have hlt:i.toNat<b.size:=by omega
  have:b[i.toNat]?=some (b.data.getD i.toNat 0):=by
   rw[getElem?_pos b i.toNat hlt,anv,amz (show i.toNat<b.data.size from hlt)];rfl
  simp[execOp,h1,h2,Instr.index,asIntOf,h3,h0,this]
inductive EvI(s:AS):Option ao8->Nat->Nat->Prop
  |none (d:Nat):EvI s none d d
  |some {x:ao8} {k:IntKind} {i:Int} (d:Nat) (h:Ev s x (.v (.int k i))) (h0:0<=i):EvI s (some x) d i.toNat
def yS:Option ao8->List Nat
  |some x=>aA x
  |none=>[]
theorem EvI.agree{s':AS}{u:Out}(h:jx s s' u){o:Option ao8}{d n:Nat}(he:EvI s o d n)(hs:∀t∈yS o,t∈u.rt):EvI s' o d n:=by
 cases he with
 |none=>exact .none _
 |some d h' h0=>exact .some d (h'.agree h hs) h0
theorem EvI.bound{C:Ctx}{m:Nat->Option Nat}{a:Act}{w:apc}(hr:RelM C s m a w){x:ao8}{d n y:Nat}(h:EvI s (Option.some x) d n)(hy:n<=y)(code:BoundsCode) :
  (Instr.sliceBound (a.eval x) y code).run P w=.ok n w:=by
 cases h with
 | @some _ k i _ h h0 =>
  have:=ug hr h;have:0<=i/\i<=(y:Int):=by omega
  simp[Instr.sliceBound,asIntOf,ug hr h,this]
theorem CX{C:Ctx}{m:Nat->Option Nat}{a:Act}{w:apc}(hr:RelM C s m a w){lo hi:Option ao8}{l h len cap:Nat}(isS:Bool)
  (hl:EvI s lo 0 l) (hh:EvI s hi len h) (h1:l<=h) (h2:h<=cap) :
  (Instr.sliceBounds isS len cap (lo.map a.eval) (hi.map a.eval) none).run P w=.ok (l,h,cap) w:=by
 cases hi with
 |none =>
  cases hh;cases lo with
  |none=>cases hl;simp[Instr.sliceBounds]
  |some x=>simp[Instr.sliceBounds,hl.bound hr h1]
 |some y =>
  cases lo with
  |none=>cases hl;simp[Instr.sliceBounds,hh.bound hr h2]
  |some x=>simp[Instr.sliceBounds,hl.bound hr h1,hh.bound hr h2]
theorem dS{d:Nat}{x:ao8}{lo hi:Option ao8}{l h sz:Nat}{es:List AV}{T E t:apa}{ti te:TI}
  (hx:Ev s x (.lst sz es)) (hl:EvI s lo 0 l) (hh:EvI s hi es.length h) (hT:aI P T=some ti) (hk:ti.k=.slice E) (hE:aI P E=some te) (bG:te.size=sz)
  (h1:l<=h) (h2:h<=es.length) (hN:aks d N=true) :
  Step P N R s ⟨some d,.slice T x lo hi none,t,pos,after,none⟩ ⟨some (.lst sz ((es.drop l).take (h-l))),[],aA x++(yS lo++yS hi),[]⟩ :=
 fp rfl rfl hN fun s' aK C m a w hr=>by
  have iS:=(hx.agree aK (fun _ h=>anz.2 (.inl h))).rep hr;have hl':=hl.agree aK (fun _ h=>anz.2 (.inr (anz.2 (.inl h))));have hh':=hh.agree aK (fun _ h=>anz.2 (.inr (anz.2 (.inr h))));obtain⟨d2,hu,h3,-,-⟩:=fK hT w;obtain rfl:=lN (h3.trans hk);subst bG;generalize hv:a.eval x=u at iS;cases iS with
  |lst0 a' cap =>
   have:=CX (P:=P) hr (cap:=cap) true hl' hh' h1 (by simp at h2;omega);simp at this h2;have QL:l=0:=by omega
   refine⟨.slice (if cap=l then a' else a'.map (·.add (l*te.size))) (h-l) (cap-l),?_,?_⟩
   ·simp[execOp,hv,Instr.sliceAt,hu,Instr.slice,this,jW hE]
   ·simp[h2];exact .lst0 _ _ _
  | @lst _ b off cap _ _ cs u hb hc fP hs ho hu' bA =>
   have:=CX (P:=P) hr (cap:=cap) true hl' hh' h1 oz;refine⟨.slice (if cap=l then some ⟨b,off,none⟩else some ⟨b,off+l*te.size,none⟩) (h-l) (cap-l),?_,?_⟩
   ·simp[execOp,hv,Instr.sliceAt,hu,Instr.slice,this,jW hE,mG]
   ·by_cases hlh:l=h
    ·subst hlh;simp;exact .lst0 _ _ _
    ·have bV:¬ cap=l:=by omega
     rw[aoy bV];have bK:((es.drop l).take (h-l)).length=h-l:=by simp;omega
     have gj:∀(i:Nat)(e:AV),((es.drop l).take (h-l))[i]?=some e->es[l+i]?=some e:=by
      intro i e he;rw[aof]at he;split at he
      ·rwa [aop]at he
      ·cases he
     have:=Rep.lst (g:=Im C.ext s'.hp m w) (S:=Sz w) (m:=m) (b:=b) (off:=off+l*te.size) (cap:=cap-l) (sz:=te.size) (es:=(es.drop l).take (h-l)) (cs:=cs)
      (fun i j=>u (l+i) j) hb oz oz (fun i e he=>hs _ e (gj i e he)) (fun i j e c he hc=>ho _ j e c (gj i e he) hc)
      (fun i j e c he hc=>by rw[<- hu' (l+i) j e c (gj i e he) hc];congr 1;rw[akk];omega) (fun i j e c he hc=>bA _ j e c (gj i e he) hc)
     rwa [bK]at this
theorem CJ{d:Nat}{x:ao8}{lo hi:Option ao8}{l h k sz off len:Nat}{T E t:apa}{ti te:TI}
  (hx:Ev s x (.ms k sz off len)) (hl:EvI s lo 0 l) (hh:EvI s hi len h) (hT:aI P T=some ti) (hk:ti.k=.slice E) (hE:aI P E=some te) (bG:te.size=sz)
  (h1:l<=h) (h2:h<=len) (hN:aks d N=true) :
  Step P N R s ⟨some d,.slice T x lo hi none,t,pos,after,none⟩ ⟨some (.ms k sz (off+l) (h-l)),[],aA x++(yS lo++yS hi),[]⟩ :=
 fp rfl rfl hN fun s' aK C m a w hr=>by
  have iS:=(hx.agree aK (fun _ h=>anz.2 (.inl h))).rep hr;have hl':=hl.agree aK (fun _ h=>anz.2 (.inr (anz.2 (.inl h))));have hh':=hh.agree aK (fun _ h=>anz.2 (.inr (anz.2 (.inr h))));obtain⟨d2,hu,h3,-,-⟩:=fK hT w;obtain rfl:=lN (h3.trans hk);subst bG;generalize hv:a.eval x=u at iS;cases iS with
  |ms0 a' =>
   have:=CX (P:=P) hr (cap:=0) true hl' hh' h1 oz;have QL:l=0:=by omega
   have hh0:h=0:=by omega
   subst QL;subst hh0
   exact⟨.slice a' 0 0,by simp[execOp,hv,Instr.sliceAt,hu,Instr.slice,this,jW hE],.ms0 _ _ _ _⟩
  | @ms _ _ _ _ _ cap b hm hc hS =>
   have:=CX (P:=P) hr (cap:=cap) true hl' hh' h1 oz;refine⟨.slice (if cap=l then some ⟨b,off*te.size,none⟩else some ⟨b,off*te.size+l*te.size,none⟩) (h-l) (cap-l),?_,?_⟩
   ·simp[execOp,hv,Instr.sliceAt,hu,Instr.slice,this,jW hE,mG]
   ·by_cases fX:cap=l
    ·subst fX;have:h - cap=0:=by omega
     rw[this,Nat.sub_self];exact .ms0 _ _ _ _
    ·rw[aoy fX,<- akk];exact .ms hm oz (by rw[show off+l+(cap-l)=off+cap by omega];exact hS)
theorem Sy{d:Nat}{x:ao8}{k off:Nat}{t:apa}(hx:Ev s x (.ptr k off))(hN:aks d N=true) :
  Step P N R s ⟨some d,.nilCheck x,t,pos,after,none⟩ ⟨some (.ptr k off),[],aA x,[]⟩ :=
 fp rfl rfl hN fun s' aK C m a w hr=>by
  obtain⟨b,hm,hv⟩:=xZ hr (hx.agree aK (fun _ h=>h));exact⟨_,by simp[execOp,hv],.ptr hm⟩
inductive EvL(s:AS):List ao8->List AV->Prop
  |nil:EvL s [] []
  |cons {o:ao8} {x:AV} {os:List ao8} {xs:List AV} (h:Ev s o x) (hs:EvL s os xs):EvL s (o::os) (x::xs)
theorem dJ{s:AS}{t:Nat}{x:AV}(h:s.get t=some x):EvL s [.tmp t] [x]:=.cons (.tmp h) .nil
theorem b8{s:AS}{t u:Nat}{x y:AV}(h:s.get t=some x)(h2:s.get u=some y):EvL s [.tmp t,.tmp u] [x,y]:=.cons (.tmp h) (dJ h2)
theorem aV{s:AS}{t u v:Nat}{x y z:AV}(h:s.get t=some x)(h2:s.get u=some y)(h3:s.get v=some z):EvL s [.tmp t,.tmp u,.tmp v] [x,y,z]:=.cons (.tmp h) (b8 h2 h3)
def gB:List ao8->List Nat
  |[]=>[]
  |o::os=>aA o++gB os
theorem EvL.agree{s':AS}{u:Out}(h:jx s s' u){os:List ao8}{xs:List AV}(he:EvL s os xs)(hs:∀t∈gB os,t∈u.rt):EvL s' os xs:=by
 induction he with
 |nil=>exact .nil
 |cons h1 _ ih=>exact .cons (h1.agree h (fun t ht=>hs t (by simp[gB,ht]))) (ih (fun t ht=>hs t (by simp[gB,ht])))
theorem EvL.length{os:List ao8}{xs:List AV}(he:EvL s os xs):os.length=xs.length:=by
 induction he with
 |nil=>rfl
 |cons _ _ ih=>simp[ih]
theorem EvL.rep{C:Ctx}{m:Nat->Option Nat}{a:Act}{w:apc}(hr:RelM C s m a w){os:List ao8}{xs:List AV}(he:EvL s os xs) :
  ∀(j:Nat)(v:ao9)(x:AV),(os.map a.eval)[j]?=some v->xs[j]?=some x->Rep (Im C.ext s.hp m w) (Sz w) m v x:=by
 induction he with
 |nil=>intro j v x h;simp at h
 |cons h1 _ ih =>
  intro j v x hv hx;cases j with
  |zero=>simp at hv hx;subst hv;subst hx;exact h1.rep hr
  |succ j=>exact ih j v x (by simpa using hv) (by simpa using hx)
theorem UC{d:Nat}{x:ao8}{xs:List AV}{t:apa}(hx:Ev s x (.iptr xs))(hN:aks d N=true) :
  Step P N R s ⟨some d,.nilCheck x,t,pos,after,none⟩ ⟨some (.iptr xs),[],aA x,[]⟩ :=
 fp rfl rfl hN fun s' aK C m a w hr=>by
  have h:=(hx.agree aK (fun _ h=>h)).rep hr;generalize hu:a.eval x=u at h;cases h with
  |iptr u' hb ho hv bA=>exact⟨_,by simp[execOp,hu],.iptr u' hb ho hv bA⟩
theorem Uv{d f:Nat}{pre:Array ao8}{xs:List AV}{t:apa}(hx:EvL s pre.toList xs)(hnm:(xs.all fun x=>x.nm.isEmpty)=true)(hN:aks d N=true) :
  Step P N R s ⟨some d,.makeFunc (.func f) pre #[],t,pos,after,none⟩ ⟨some (.cl f xs []),[],gB pre.toList,[]⟩ :=
 fp rfl rfl hN fun s' aK C m a w hr=>by
  have hl:=hx.agree aK (fun _ h=>h);refine⟨.func (.func f) (pre.map a.eval) #[],by simp[execOp,Instr.makeFunc],.cl ?_ ?_ rfl (fun j u c hu hc=>by simp at hc)⟩
  ·have:=hl.length;simpa using this
  ·intro j u c hu hc
   exact (hl.rep hr j u c (by simpa using hu) hc).mono (fun _ _ h=>h) (fun _ _ h=>h) (fun k b hk=>by
    have h1:=anx.1 hnm c (ank hc);have h2:=hk.mem;simp only[List.isEmpty_iff]at h1;rw[h1]at h2;cases h2)
theorem ahp{d f:Nat}{caps:Array ao8}{xs:List AV}{t:apa}(hx:EvL s caps.toList xs)(hN:aks d N=true) :
  Step P N R s ⟨some d,.makeFunc (.func f) #[] caps,t,pos,after,none⟩ ⟨some (.fn f xs),[],gB caps.toList,[]⟩ :=
 fp rfl rfl hN fun s' aK C m a w hr=>by
  have hl:=hx.agree aK (fun _ h=>h);refine⟨.func (.func f) #[] (caps.map a.eval),by simp[execOp,Instr.makeFunc],.fn ?_ ?_⟩
  ·have:=hl.length;simpa using this
  ·intro j u c hu hc;exact hl.rep hr j u c (by simpa using hu) hc
def eO(g:Nat->Array ao9->Prop)(S:Nat->Nat->Prop)(m:Nat->Option Nat)(c:List ao9)(l:List AV):Prop :=
  c.length=l.length/\(∀(j:Nat)(x:AV),l[j]?=some x->x.one=true)/\∀(j:Nat)(u:ao9)(x:AV),c[j]?=some u->l[j]?=some x->Rep g S m u x
theorem eO.of_zero{g:Nat->Array ao9->Prop}{S:Nat->Nat->Prop}{m:Nat->Option Nat}(z:List ao9)(h:z.all Value.oneCell'=true) :
  eO g S m z (z.map .v):=by
 refine⟨by simp,?_,?_⟩
 ·intro j x hx;simp only[anr,ann]at hx;obtain⟨v,hv,rfl⟩:=hx;exact anx.1 h v (ank hv)
 ·intro j u x hu hx;simp only[anr,ann]at hx;obtain⟨v,hv,rfl⟩:=hx;rw[hu]at hv;cases hv
  exact .v _
theorem eO.of_value{g:Nat->Array ao9->Prop}{S:Nat->Nat->Prop}{m:Nat->Option Nat}{v:ao9}{x:AV}(h:Rep g S m v x)(hx:x.ok=true) :
  eO g S m v.cells.toList x.cells:=by
 obtain⟨h1,h2,h3⟩:=h.cells (AV.ok_spec hx);exact⟨by simpa using h1,h2,fun j u y hu hy=>h3 j u y (by simpa using hu) hy⟩
theorem eO.mono{g g':Nat->Array ao9->Prop}{S S':Nat->Nat->Prop}{m m':Nat->Option Nat}{c:List ao9}{l:List AV}(h:eO g S m c l)
  (hg:∀b cs,g b cs->g' b cs) (hS:∀b n,S b n->S' b n) (hm:∀x∈l,∀k b,x.Names k->m k=some b->m' k=some b):eO g' S' m' c l :=
 ⟨h.1,h.2.1,fun j u x hu hx=>(h.2.2 j u x hu hx).mono hg hS (fun k b hk hb=>hm x (ank hx) k b hk hb)⟩
def over{α:Type}(l:List α)(off:Nat)(xs:List α):List α:=l.take off++xs++l.drop (off+xs.length)
theorem m7{α:Type}(l:List α)(off:Nat)(xs:List α)(h:off+xs.length<=l.length)(p:Nat) :
  (over l off xs)[p]?=if p<off then l[p]? else if p<off+xs.length then xs[p-off]? else l[p]?:=by
 have h1:(l.take off).length=off:=by simp;omega
 unfold over
 by_cases h2:p<off
 ·rw[aoz h2,aor,an8 oz,aof,aoz h2]
 ·rw[aoy h2]
  by_cases h3:p<off+xs.length
  ·rw[aoz h3,an8 (by simp;omega),an7 oz,h1]
  ·rw[aoy h3,an7 (by simp;omega),aop];congr 1;simp;omega
theorem zw{α:Type}(l:List α)(off:Nat)(xs:List α)(h:off+xs.length<=l.length):(over l off xs).length=l.length:=by
 simp[over];omega
theorem eO.over{g:Nat->Array ao9->Prop}{S:Nat->Nat->Prop}{m:Nat->Option Nat}{c:List ao9}{l:List AV}{c':List ao9}{l':List AV}{off:Nat}
  (h:eO g S m c l) (h':eO g S m c' l') (cF:off+l'.length<=l.length):eO g S m (over c off c') (Lw.over l off l'):=by
 have e1:=h.1;have e2:=h'.1;refine⟨by rw[zw _ _ _ oz,zw _ _ _ cF,e1],?_,?_⟩
 ·intro j x hx;rw[m7 _ _ _ cF]at hx;split at hx
  ·exact h.2.1 j x hx
  ·split at hx
   ·exact h'.2.1 _ x hx
   ·exact h.2.1 j x hx
 ·intro j u x hu hx;rw[m7 _ _ _ cF]at hx;rw[m7 _ _ _ oz,e2]at hu;split at hx
  ·rename_i hj;rw[aoz hj]at hu;exact h.2.2 j u x hu hx
  ·rename_i hj;rw[aoy hj]at hu
   split at hx
   ·rename_i hj;rw[aoz hj]at hu;exact h'.2.2 _ u x hu hx
   ·rename_i hj;rw[aoy hj]at hu;exact h.2.2 j u x hu hx
theorem xT{o:Oper}{d:Nat}{k:Nat}{x:AV}{y:Blk}{rt rd:List Nat}(hg:o.guard=none)(hd:o.dst=some d)(hN:aks d N=true)
  (HG:k∉rd)
  (h:∀s',jx s s' ⟨some x,[(k,some y)],rt,rd⟩->s'.Fresh k->∀C m a w,RelM C s' m a w ->
   ∃(v:ao9)(c:Array ao9)(t:apa)(n:Nat),(execOp a.eval o).run P w=.ok (.value v) { w with heap:=w.heap.push (.cells c t),drawn:=n }/\¬y.Names k /\
    (∀(g:Nat->Array ao9->Prop)(S:Nat->Nat->Prop)(m':Nat->Option Nat)(w':apc),
     (∀b cs,Im C.ext s'.hp m w b cs->g b cs)->(∀b n,Sz w b n->S b n)->(∀k' b,k'≠k->m k'=some b->m' k'=some b) ->
     w'.heap[w.heap.size]?=some (.cells c t (0,0))->BlkRep g S m' w' (some w.heap.size) y) /\
    (∀(g:Nat->Array ao9->Prop)(S:Nat->Nat->Prop)(m':Nat->Option Nat),m' k=some w.heap.size->S w.heap.size c.size->Rep g S m' v x)) :
  Step P N R s o ⟨some x,[(k,some y)],rt,rd⟩:=by
 refine⟨fun s' aK ee C m a w Q next hC hr hnext=>?_⟩;rw[aoz (qK hg _)];refine zp ?_
 have hfr:s'.Fresh k:=by
  rcases ee k (by simp)with h |h
  ·exact ao5 h HG
  ·exact h
 obtain⟨v,c,t,n,h1,h2,h3,h4⟩:=h s' aK hfr C m a w hr;rw[aj6]at hN;unfold Oper.wp;rw[h1];simp only[Oper.upon,hd,Act.put];refine hnext (fun k'=>if k'=k then some w.heap.size else m k') _ _ ?_;have br:=(hr.alloc hfr (.cells c t) y h2 h3).drawn n
 have:=br.put d v (some x) (fun z hz=>by
  cases hz;refine⟨by have:=hr.nt;omega,h4 _ _ _ (aoz rfl) ⟨c,t,(0,0),?_,anp _⟩⟩;show(w.heap.push _)[w.heap.size]?=_;simp)
 simpa[AS.app,hd]using this
theorem Kl{ext:Nat->Prop}{hp:Hp}{m:Nat->Option Nat}{w:apc}{c:Array ao9}{l:List AV}{t:apa}{k:Nat}
  (h:eO (Im ext hp m w) (Sz w) m c.toList l) (hk:∀x∈l,¬x.Names k)
  {g:Nat->Array ao9->Prop} {S:Nat->Nat->Prop} {m':Nat->Option Nat} {w':apc}
  (hg:∀b cs,Im ext hp m w b cs->g b cs) (hS:∀b n,Sz w b n->S b n) (hm:∀k' b,k'≠k->m k'=some b->m' k'=some b)
  (hw:w'.heap[w.heap.size]?=some (.cells c t (0,0))):BlkRep g S m' w' (some w.heap.size) (.box l):=by
 have h':=h.mono hg hS (m':=m') (fun x hx k' b hn hb=>hm k' b (fun e=>hk x hx (e▸hn)) hb);exact .box hw (by simpa using h'.1) h'.2.1 (fun j u x hu hx=>h'.2.2 j u x (by simpa using hu) hx)
theorem aia{d:Nat}{T t:apa}{ti:TI}(hT:aI P T=some ti)(hz:ti.zero.all Value.oneCell'=true)(hN:aks d N=true) :
  Step P N R s ⟨some d,.alloc T,t,pos,after,none⟩ ⟨some (.ptr d 0),[(d,some (.box (ti.zero.map .v)))],[],[]⟩ :=
 xT rfl rfl hN (by simp) fun s' aK hfr C m a w hr=>by
  obtain⟨z,h1,h2⟩:=yX hT w;have hc:eO (Im C.ext s'.hp m w) (Sz w) m z.cells.toList (ti.zero.map .v):=by rw[h2];exact .of_zero _ hz
  refine⟨.pointer (some ⟨w.heap.size,0,none⟩),z.cells,T,w.drawn,?_,?_,?_,fun g S m' hm _=>.ptr hm⟩
  ·simp[execOp,Instr.alloc,h1,newVar,newRow]
  ·rintro⟨c,hc,hn⟩;simp only[al0]at hc;obtain⟨v,_,rfl⟩:=hc;cases hn
  ·intro g S m' w' hg hS hm hw;refine Kl hc ?_ hg hS hm hw;rintro x hx hn;simp only[al0]at hx;obtain⟨v,_,rfl⟩:=hx;cases hn
theorem Ev.fresh{x:ao8}{v:AV}{k:Nat}(h:Ev s x v)(hf:s.Fresh k):¬v.Names k:=by
 cases h with
 |tmp h=>exact hf.2.2.1 _ _ h
 |opt h _=>intro hn;exact hf.2.2.1 _ _ h (.opt hn)
 |const=>intro hn;cases hn
 |func=>intro hn;cases hn
theorem Tt{x c:AV}{k:Nat}(hc:c∈x.cells)(hn:c.Names k):x.Names k:=by
 cases x <;> simp only[AV.cells,alr]at hc <;> first
  |(subst hc;exact hn)
  |exact .agg hc hn
theorem Zy{d:Nat}{x:ao8}{v:AV}{T t:apa}(hx:Ev s x v)(hv:v.ok=true)(hN:aks d N=true) :
  Step P N R s ⟨some d,.box T x,t,pos,after,none⟩ ⟨some (.ptr d 0),[(d,some (.box v.cells))],aA x,[]⟩ :=
 xT rfl rfl hN (by simp) fun s' aK hfr C m a w hr=>by
  have hx':=hx.agree aK (fun _ h=>h);have hc:=eO.of_value (hx'.rep hr) hv;have nv:∀c∈v.cells,¬c.Names d:=fun c hc hn=>hx'.fresh hfr (Tt hc hn)
  refine⟨.pointer (some ⟨w.heap.size,0,none⟩),(a.eval x).cells,T,w.drawn,?_,?_,?_,fun g S m' hm _=>.ptr hm⟩
  ·simp[execOp,Instr.box,newVar,newRow]
  ·rintro⟨c,hc,hn⟩;exact nv c hc hn
  ·intro g S m' w' hg hS hm hw;exact Kl hc nv hg hS hm hw
theorem By{w:apc}{b:Nat}{o:Obj}(hb:w.heap[b]?=some o):b<w.heap.size:=by
 rcases anu b w.heap.size with h |h
 ·exact h
 ·rw[am2 h]at hb;cases hb
theorem TX{w:apc}{b i:Nat}{c:Array ao9}{t:apa}{v:ao9}(hb:w.heap[b]?=some (.cells c t (0,0))) :
  w.setCell ⟨b,i,none⟩ v={ w with heap:=w.heap.setIfInBounds b (.cells (c.setIfInBounds i v) t (0,0)) }:=by
 have hlt:=By hb;unfold World.setCell;congr 1;apply Array.ext_getElem?;intro j;rw[anf,Array.getElem?_modify]
 by_cases h:b=j
 ·subst h;rw[aoz rfl,aoz rfl,aoz hlt,hb];rfl
 ·rw[aoy h,aoy h]
theorem Mx{α:Type}(l:List α)(n:Nat)(v:α)(vs:List α)(h:n+(vs.length+1)<=l.length) :
  over (l.set n v) (n+1) vs=over l n (v::vs):=by
 apply List.ext_getElem?;intro p;rw[m7 _ _ _ (by simp;omega),m7 _ _ _ (by simpa using h),List.getElem?_set];simp only[an0]
 by_cases h1:p<n
 ·rw[aoz oz,aoy oz,aoz h1]
 ·by_cases h2:p=n
  ·subst h2;rw[aoz oz,aoz rfl,aoz oz,aoy oz,aoz oz,Nat.sub_self];rfl
  ·by_cases h3:p<n+1+vs.length
   ·rw[aoy oz,aoz h3,aoy oz,aoz oz,show p-n=p-(n+1)+1 by omega,List.getElem?_cons_succ]
   ·rw[aoy oz,aoy h3,aoy oz,aoy h1,aoy oz]
theorem GW{b:Nat}{t:apa}:∀(vs:List ao9)(c:Array ao9)(w:apc)(off i:Nat),w.heap[b]?=some (.cells c t (0,0)) ->
  off+i+vs.length<=c.size->(∀v∈vs,v.oneCell'=true) ->
  (storeCells ⟨b,off,none⟩ vs i).run P w=.ok () { w with heap:=w.heap.setIfInBounds b (.cells (over c.toList (off+i) vs).toArray t (0,0)) }:=by
 intro vs
 induction vs with
 |nil =>
  intro c w off i hb cF _;have hlt:=By hb
  have:w.heap.setIfInBounds b (.cells (over c.toList (off+i) []).toArray t (0,0))=w.heap:=by
   apply Array.ext_getElem?;intro j;rw[anf];split
   ·subst_vars;rw[hb];simp[over]
   ·rfl
  simp[storeCells,this]
 |cons v vs ih =>
  intro c w off i hb cF hv;have hlt:=By hb;simp only[an0]at cF
  have h1:(store ((⟨b,off,none⟩:Addr).add i) v).run P w=.ok () (w.setCell ⟨b,off+i,none⟩ v):=by
   rw[mG,run_store P w _ v .plain (hv v (by simp)),vZ hb];have:off+i<c.size:=by omega
   simp[amz this,World.frozen?,hb]
  rw[storeCells,ape,h1,apd,TX hb]
  have hb':(w.heap.setIfInBounds b (.cells (c.setIfInBounds (off+i) v) t (0,0)))[b]?=some (.cells (c.setIfInBounds (off+i) v) t (0,0)):=by
   rw[anf,aoz rfl,aoz hlt]
  rw[ih (c.setIfInBounds (off+i) v) _ off (i+1) hb' (by simp;omega) (fun v hm=>hv v (by simp[hm]))];congr 2;rw[Array.setIfInBounds_setIfInBounds];congr 3;rw[am4,show off+(i+1)=off+i+1 by omega,Mx _ _ _ _ (by simp;omega)]
theorem EK{T:apa}{ti:TI}{w:apc}{b off:Nat}{t:apa}{c:Array ao9}{v:ao9}(hT:aI P T=some ti)(hb:w.heap[b]?=some (.cells c t (0,0)))
  (bG:v.cells.size=ti.size) (cF:off+ti.size<=c.size) (hv:∀x∈v.cells.toList,x.oneCell'=true) :
  (storeVar T ⟨b,off,none⟩ v).run P w=.ok () { w with heap:=w.heap.setIfInBounds b (.cells (over c.toList off v.cells.toList).toArray t (0,0)) }:=by
 have:=GW (P:=P) v.cells.toList c w off 0 hb (by simp;omega) hv;simp only[akn]at this;simp[storeVar,jW hT,bG,this]
theorem Ga{o:Oper}{k:Nat}{y y':Blk}{rt rd:List Nat}(hg:o.guard=none)(hd:o.dst=none)(HG:k∈rd)(hk:s.blk k=some y)
  (h:∀s',jx s s' ⟨none,[(k,some y')],rt,rd⟩->∀C m a w,RelM C s' m a w ->
   ∃(b:Nat)(c c':Array ao9)(t:apa),m k=some b/\w.heap[b]?=some (.cells c t (0,0))/\c'.size=c.size /\
    (execOp a.eval o).run P w=.ok .skip { w with heap:=w.heap.setIfInBounds b (.cells c' t (0,0)) } /\
    ∀(g:Nat->Array ao9->Prop)(S:Nat->Nat->Prop)(w':apc),
     (∀b cs,Im C.ext s'.hp m w b cs->g b cs)->(∀b n,Sz w b n->S b n)->w'.heap[b]?=some (.cells c' t (0,0))->BlkRep g S m w' (some b) y') :
  Step P N R s o ⟨none,[(k,some y')],rt,rd⟩:=by
 refine⟨fun s' aK ee C m a w Q next hC hr hnext=>?_⟩;rw[aoz (qK hg _)];refine zp ?_;obtain⟨b,c,c',t,hm,hb,bG,h1,h2⟩:=h s' aK C m a w hr;unfold Oper.wp;rw[h1];simp only[Oper.upon,hd,Act.put];refine hnext m _ _ ?_;have:=hr.write (x':=y') ((aK.2 k HG).trans hk) hm hb bG rfl (fun g S hg hS hw=>h2 g S _ hg hS hw);simpa[AS.app,hd]using this
theorem Jg{g:Nat->Array ao9->Prop}{S:Nat->Nat->Prop}{m:Nat->Option Nat}{v:ao9}{x:AV}(h:Rep g S m v x)(hx:x.ok=true) :
  ∀u∈v.cells.toList,u.oneCell'=true:=by
 have hc:=eO.of_value h hx;intro u hu;obtain⟨j,hj,rfl⟩:=alx.1 hu;have hj':j<x.cells.length:=by rw[<- hc.1];exact hj
 exact(hc.2.2 j _ _ (ano hj) (ano hj')).one (hc.2.1 j _ (ano hj'))
theorem ahg{x y:ao8}{k off:Nat}{cs:List AV}{v:AV}{T t:apa}{ti:TI}
  (hx:Ev s x (.ptr k off)) (hk:s.blk k=some (.box cs)) (hy:Ev s y v) (hv:v.ok=true) (hT:aI P T=some ti) (bG:ajx v.cells.length ti.size=true)
  (cF:Nat.ble (off+ti.size) cs.length=true) :
  Step P N R s ⟨none,.store T x y,t,pos,after,none⟩ ⟨none,[(k,some (.box (over cs off v.cells)))],aA x++aA y,[k]⟩ :=
 Ga rfl rfl (by simp) hk fun s' aK C m a w hr=>by
  rw[akp]at cF;have bG:=anw bG;obtain⟨b,hm,gY⟩:=xZ hr (hx.agree aK (fun _ h=>anz.2 (.inl h)));have qu:=(hy.agree aK (fun _ h=>anz.2 (.inr h))).rep hr;obtain⟨c,t,hw,hn,ho,bA⟩:=Cl hr.heap ((aK.2 k (by simp)).trans hk) hm;have hc:=eO.of_value qu hv;have fX:(a.eval y).cells.size=ti.size:=by have:=hc.1;simp at this;omega
  have h0:eO (Im C.ext s'.hp m w) (Sz w) m c.toList cs:=⟨by simpa using hn,ho,fun j u x hu hx=>bA j u x (by simpa using hu) hx⟩
  have h1:=h0.over hc (off:=off) oz;refine⟨b,c,(over c.toList off (a.eval y).cells.toList).toArray,t,hm,hw,?_,?_,?_⟩
  ·simp[over];omega
  ·have gH:=EK (P:=P) (off:=off) hT hw fX oz (Jg qu hv);simp[execOp,Instr.storeAt,gY,Instr.sureAddr,gH]
  ·intro g S w' hg hS hw';have h2:=h1.mono hg hS (m':=m) (fun _ _ _ _ _ h=>h);exact .box hw' (by simpa using h2.1) h2.2.1 (fun j u x hu hx=>h2.2.2 j u x (by simpa using hu) hx)
theorem Mv{x y:ao8}{k sz i off:Nat}{es:List AV}{e e' v:AV}{T t:apa}{ti:TI}
  (hx:Ev s x (.eptr k sz i off)) (hk:s.blk k=some (.row sz es)) (he:es[i]?=some e) (hy:Ev s y v) (hv:v.ok=true) (hnm:v.nm=[]) (hT:aI P T=some ti)
  (bG:ajx v.cells.length ti.size=true) (cF:Nat.ble (off+ti.size) e.cells.length=true) (he':e'.cells=over e.cells off v.cells) :
  Step P N R s ⟨none,.store T x y,t,pos,after,none⟩ ⟨none,[(k,some (.row sz (es.set i e')))],aA x++aA y,[k]⟩ :=
 Ga rfl rfl (by simp) hk fun s' aK C m a w hr=>by
  rw[akp]at cF;have bG:=anw bG;obtain⟨b,hm,gY⟩:=AM hr (hx.agree aK (fun _ h=>anz.2 (.inl h)));have qu:=(hy.agree aK (fun _ h=>anz.2 (.inr h))).rep hr;obtain⟨c,t,hw,hn,hl,hs,ho,bA⟩:=yG hr.heap ((aK.2 k (by simp)).trans hk) hm;have hc:=eO.of_value (afh qu hnm) hv;have fX:(a.eval y).cells.size=ti.size:=by have:=hc.1;simp at this;omega
  have hi:i<es.length:=by
   rcases anu i es.length with h |h
   ·exact h
   ·rw[an2 h]at he;cases he
  have hb:=qI (sz:=sz) hi;have mi:=hs i e he;have QM:e'.cells.length=sz:=by rw[he',zw _ _ _ oz,mi]
  refine⟨b,c,(over c.toList (i*sz+off) (a.eval y).cells.toList).toArray,t,hm,hw,?_,?_,?_⟩
  ·simp[over];omega
  ·have gH:=EK (P:=P) (off:=i*sz+off) hT hw fX oz (Jg qu hv);simp[execOp,Instr.storeAt,gY,Instr.sureAddr,gH]
  ·intro g S w' hg hS hw'
   have HH:∀(i':Nat)(e2:AV),(es.set i e')[i']?=some e2->(i'=i/\e2=e')\/(i'≠i/\es[i']?=some e2):=by
    intro i' e2 h;rw[List.getElem?_set]at h;split at h
    ·rename_i HI;subst HI
     cases h;exact .inl ⟨rfl,rfl⟩
    ·rename_i HI;exact .inr ⟨fun e=>HI e.symm,h⟩
   have iT:∀(j:Nat)(z:AV),e'.cells[j]?=some z->z.one=true/\∀u,(over c.toList (i*sz+off) (a.eval y).cells.toList)[i*sz+j]?=some u->Rep (Im C.ext s'.hp m w) (Sz w) eQ u z:=by
    intro j z hz
    have hjs:j<sz:=by
     rw[<- QM];rcases anu j e'.cells.length with h |h
     ·exact h
     ·rw[an2 h]at hz;cases hz
    rw[he',m7 _ _ _ oz]at hz;have zZ:i*sz+off+(a.eval y).cells.toList.length<=c.toList.length:=by simp;omega
    split at hz
    ·rename_i h1;refine⟨ho i j e z he hz,fun u hu=>?_⟩;rw[m7 _ _ _ zZ,aoz oz]at hu;exact bA i j e u z he hz (by simpa using hu)
    ·rename_i h1;split at hz
     ·rename_i h2;refine⟨hc.2.1 _ z hz,fun u hu=>?_⟩;rw[m7 _ _ _ zZ,aoy oz,aoz (by simp;omega)]at hu;refine hc.2.2 _ u z ?_ hz;rw[<- hu];congr 1;omega
     ·rename_i h2;refine⟨ho i j e z he hz,fun u hu=>?_⟩;rw[m7 _ _ _ zZ,aoy oz,aoy (by simp;omega)]at hu;exact bA i j e u z he hz (by simpa using hu)
   refine .row hw' (by simp[over];omega) (by simpa using hl) ?_ ?_ ?_
   ·intro i' e2 h;rcases HH i' e2 h with⟨rfl,rfl⟩ |⟨_,h⟩
    ·exact QM
    ·exact hs i' e2 h
   ·intro i' j e2 z h hz;rcases HH i' e2 h with⟨rfl,rfl⟩ |⟨_,h⟩
    ·exact(iT j z hz).1
    ·exact ho i' j e2 z h hz
   ·intro i' j e2 u z h hz hu;refine Rep.mono hg hS ?_ (fun _ _ _ h=>h);rcases HH i' e2 h with⟨rfl,rfl⟩ |⟨bV,h⟩
    ·exact(iT j z hz).2 u (by simpa using hu)
    ·have zZ:i*sz+off+(a.eval y).cells.toList.length<=c.toList.length:=by simp; omega
     have hj:j<sz:=by
      rw[<- hs i' e2 h];rcases anu j e2.cells.length with h |h
      ·exact h
      ·rw[an2 h]at hz;cases hz
     have hu':(over c.toList (i*sz+off) (a.eval y).cells.toList)[i'*sz+j]?=some u:=by simpa using hu
     rw[m7 _ _ _ zZ]at hu'
     have hcu:c.toList[i'*sz+j]?=some u:=by
      rcases anu i' i with hlt |hge
      ·have:=qI (sz:=sz) hlt
       rwa [aoz oz]at hu'
      ·have:=qI (sz:=sz) (show i<i' by omega)
       rwa [aoy oz,aoy (by simp;omega)]at hu'
     exact bA i' j e2 u z h hz (by simpa using hcu)
theorem IW:∀(l:List ao9)(n off:Nat)(arr:Array ao9),off+n+l.length<=arr.size ->
  ((l.zipIdx n).foldl (fun cs p=>cs.setIfInBounds (off+p.2) p.1) arr).toList=over arr.toList (off+n) l:=by
 intro l
 induction l with
 |nil=>intro n off arr h;simp[over]
 |cons v l ih =>
  intro n off arr h;simp only[an0]at h;simp only[List.zipIdx_cons,foldl_cons];rw[ih (n+1) off _ (by simp;omega),am4,show off+(n+1)=off+n+1 by omega,Mx _ _ _ _ (by simp;omega)]
def xF(place:Nat->Option (Nat×Nat)):List AV->List (Nat×AV)->Option (List AV)
  |l,[]=>some l
  |l,(i,x)::r=>match place i with
    |some (off,n)=>match ajx x.cells.length n&&Nat.ble (off+n) l.length&&x.ok with
      |true=>xF place (over l off x.cells) r
      |false=>none
    |none=>none
inductive EvP(s:AS):List (Nat×ao8)->List (Nat×AV)->Prop
  |nil:EvP s [] []
  |cons {i:Nat} {o:ao8} {x:AV} {os:List (Nat×ao8)} {xs:List (Nat×AV)} (h:Ev s o x) (hs:EvP s os xs):EvP s ((i,o)::os) ((i,x)::xs)
def wH:List (Nat×ao8)->List Nat
  |[]=>[]
  |(_,o)::os=>aA o++wH os
theorem EvP.agree{s':AS}{u:Out}(h:jx s s' u){os:List (Nat×ao8)}{xs:List (Nat×AV)}(he:EvP s os xs)(hs:∀t∈wH os,t∈u.rt):EvP s' os xs:=by
 induction he with
 |nil=>exact .nil
 |cons h1 _ ih=>exact .cons (h1.agree h (fun t ht=>hs t (by simp[wH,ht]))) (ih (fun t ht=>hs t (by simp[wH,ht])))
theorem afk{g:Nat->Array ao9->Prop}{S:Nat->Nat->Prop}{mm:Nat->Option Nat}{ev:ao8->ao9}{place:Nat->Option (Nat×Nat)}
  {os:List (Nat×ao8)} {xs:List (Nat×AV)} (hp:EvP s os xs) (kG:∀o x,Ev s o x->Rep g S mm (ev o) x) :
  ∀(c:Array ao9)(l l':List AV),eO g S mm c.toList l->xF place l xs=some l' ->
   ∃c',Instr.fill place c (os.map fun p=>(p.1,ev p.2))=some c'/\eO g S mm c'.toList l':=by
 induction hp with
 |nil=>intro c l l' h hf;cases hf;exact⟨c,rfl,h⟩
 | @cons i o x os xs h1 _ ih =>
  intro c l l' h hf;unfold xF at hf;split at hf
  ·rename_i off n kH;split at hf
   ·rename_i hc;simp only [anq,akp] at hc;obtain⟨⟨jc,sV⟩,HA⟩:=hc;have jc:=anw jc;have hx:=eO.of_value (kG o x h1) HA;have bK:(ev o).cells.size=n:=by have:=hx.1; simp at this; omega
    have fX:c.size=l.length:=by have:=h.1;simpa using this
    have Df:=h.over hx (off:=off) oz;have oq:=IW (ev o).cells.toList 0 off c (by simp;omega);simp only[akn]at oq;obtain⟨c',h2,h3⟩:=ih ((((ev o).cells.toList.zipIdx 0).foldl (fun cs p=>cs.setIfInBounds (off+p.2) p.1) c)) _ l' (by rw[oq];exact Df) hf;refine⟨c',?_,h3⟩;rw[<- h2];simp only[aow,Instr.fill,kH];rw[aoy (by simp;omega)];congr 1;rw[<- Array.foldl_toList,Array.toList_zipIdx]
   ·cases hf
  ·cases hf
theorem SX{α β:Type}{w:apc}(f:α->Sem β)(g:α->β):∀(l:List α),(∀x∈l,(f x).run P w=.ok (g x) w)->(l.mapM f).run P w=.ok (l.map g) w:=by
 intro l
 induction l with
 |nil=>intro _;simp
 |cons x l ih =>
  intro h;simp[List.mapM_cons,h x (by simp),ih (fun y hy=>h y (by simp[hy]))]
theorem Vx{d:Nat}{parts:Array (Nat×ao8)}{xs:List (Nat×AV)}{l:List AV}{T t:apa}{ti:TI}
  (hx:EvP s parts.toList xs) (hT:aI P T=some ti) (hk:ti.k=.struct) (hz:ti.zero.all Value.oneCell'=true) (hp:(ti.fs.all fun p=>aks 0 p.2)=true)
  (hl:xF (fun i=>ti.fs[i]?) (ti.zero.map .v) xs=some l) (hN:aks d N=true) :
  Step P N R s ⟨some d,.build T parts,t,pos,after,none⟩ ⟨some (.agg l),[],wH parts.toList,[]⟩ :=
 fp rfl rfl hN fun s' aK C m a w hr=>by
  have hx':=hx.agree aK (fun _ h=>h);obtain⟨z,h1,h2⟩:=yX hT w;obtain⟨d2,h3,h4,h5,-⟩:=fK hT w;obtain⟨fs,rfl⟩:=Oz (h4.trans hk);have da:eO (Im C.ext s'.hp m w) (Sz w) m z.cells.toList (ti.zero.map .v):=by rw[h2];exact .of_zero _ hz
  obtain⟨c',h6,h7⟩:=afk (place:=fun i=>ti.fs[i]?) hx' (fun o x h=>h.rep hr) z.cells _ l da hl
  have hm:(fs.mapM fun f=>(do pure (f.offset,<- sizeOf f.type):Sem (Nat×Nat))).run P w=.ok ti.fs.toArray w:=by
   rw[am7];simp only[Sem.run_map];rw[SX _ (fun f=>(f.offset,match P.info? f.type with |some j=>j.size |none=>0))]
   ·simp only[apd,<- h5,wl] <;> rfl
   ·intro f hf
    have:(f.offset,match P.info? f.type with |some j=>j.size |none=>0)∈ti.fs:=by
     rw[<- h5];simp only[wl,al0];exact⟨f,hf,rfl⟩
    have:=anx.1 hp _ this;simp only[aj6]at this;cases hi:P.info? f.type with
    |none=>rw[hi]at this;simp at this
    |some j=>simp[sizeOf,typeInfo,hi]
  refine⟨.agg c',?_,.agg (by simpa using h7.1) h7.2.1 (fun j u x hu hx=>h7.2.2 j u x (by simpa using hu) hx)⟩;have kH:(fun x:Nat=>ti.fs.toArray[x]?)=fun i:Nat=>ti.fs[i]?:=by funext i;simp
  have nB:(parts.map fun p=>(p.1,a.eval p.2)).toList=parts.toList.map fun p=>(p.1,a.eval p.2):=by simp
  have hb:(Instr.build T (parts.map fun p=>(p.1,a.eval p.2))).run P w=.ok (.agg c') w:=by
   simp only[Instr.build,ape,h1,apd,h3,hm,kH,nB,h6,apf]
  simp only[execOp,ape,hb,apd,apf]
theorem abm{o:Oper}{d:Nat}{x:AV}{rt rd:List Nat}(hg:o.guard=none)(hd:o.dst=some d)(hN:aks d N=true)
  (h:∀s',jx s s' ⟨some x,[],rt,rd⟩->∀C m a w,RelM C s' m a w ->
   ∃(v:ao9)(c:Array ao9)(t:apa),(execOp a.eval o).run P w=.ok (.value v) { w with heap:=w.heap.push (.cells c t) } /\
    (∀(g:Nat->Array ao9->Prop)(S:Nat->Nat->Prop),(∀b cs,Im C.ext s'.hp m w b cs->g b cs)->(∀b n,Sz w b n->S b n)->g w.heap.size c->Rep g S m v x)) :
  Step P N R s o ⟨some x,[],rt,rd⟩:=by
 refine⟨fun s' aK _ C m a w Q next hC hr hnext=>?_⟩;rw[aoz (qK hg _)];refine zp ?_;obtain⟨v,c,t,h1,h2⟩:=h s' aK C m a w hr;rw[aj6]at hN;unfold Oper.wp;rw[h1];simp only[Oper.upon,hd,Act.put];refine hnext m _ _ ?_;have hf:=Gy (bj s'.hp m) w (.cells c t);have bQ:∀k' y b',lk s'.hp k'=some y->m k'=some b'->bj s'.hp m b'\/w.heap.size<=b':=fun k' y b' h1 h2=>.inl ⟨k',y,h1,h2⟩
 have br:RelM C s' m a { w with heap:=w.heap.push (.cells c t) }:=by
  refine hr.update hf (fun t y k' b' _ _ hb'=>hb') bQ (fun k' y _ hy=>⟨⟨y,hy⟩,rfl⟩) ⟨?_,hr.heap.inj,?_⟩
  ·intro k y hk;refine BlkRep.mono (gQ hf bQ) hf.sz (fun _ _ _ h=>h) rfl ?_ (hr.heap.blk k y hk);intro b hb;have:=(hr.heap.sep k y b hk hb).2;show(w.heap.push _)[b]?=_;rw[ang,aoy oz]
  ·intro k y b hk hb;have:=hr.heap.sep k y b hk hb;refine⟨this.1,?_⟩;have:=this.2;simp;omega
 have:=br.put d v (some x) (fun z hz=>by
  cases hz;refine⟨by have:=hr.nt;omega,h2 _ _ (gQ hf bQ) hf.sz ⟨fun hc=>?_,?_,t,(0,0),?_⟩⟩
  ·have:=hr.ext_lt hc;omega
  ·rintro⟨k,y,hk,hb⟩;have:=(hr.heap.sep k y _ hk hb).2;omega
  ·show(w.heap.push _)[w.heap.size]?=_;simp)
 simpa[AS.app,hd]using this
def jF:List AV->List AV
  |[]=>[]
  |e::es=>e.cells++jF es
theorem M1{sz:Nat}:∀(es:List AV),(∀e∈es,e.cells.length=sz)->(jF es).length=es.length*sz
 |[],_=>by simp[jF]
 |e::es,h=>by
  simp only[jF,aoe,an0,h e (by simp),M1 es (fun e he=>h e (by simp[he])),aj9];omega
theorem Ob{sz:Nat}:∀(es:List AV),(∀e∈es,e.cells.length=sz)->∀(i j:Nat)(e x:AV),es[i]?=some e->e.cells[j]?=some x->(jF es)[i*sz+j]?=some x
 |[],_,i,j,e,x,h,_=>by simp at h
 |e0::es,h,0,j,e,x,he,hx=>by
  simp at he;subst he
  have hj:j<e0.cells.length:=by
   rcases anu j e0.cells.length with h |h
   ·exact h
   ·rw[an2 h]at hx;cases hx
  simp only[jF,Nat.zero_mul,akv];rw[an8 hj,hx]
 |e0::es,h,i+1,j,e,x,he,hx=>by
  have h0:=h e0 (by simp);simp only[jF,aj9];rw[an7 oz,h0,show i*sz+sz+j-sz=i*sz+j by omega];exact Ob es (fun e he=>h e (by simp[he])) i j e x (by simpa using he) hx
def qW(n:Nat):List ao8->List (Nat×ao8)
  |[]=>[]
  |o::os=>(n,o)::qW (n+1) os
theorem abr{g:Nat->Array ao9->Prop}{S:Nat->Nat->Prop}{mm:Nat->Option Nat}{ev:ao8->ao9}{sz:Nat}
  (kG:∀o x,Ev s o x->Rep g S mm (ev o) x):∀(os:List ao8)(es:List AV),EvL s os es->(es.all fun e=>ajx e.cells.length sz&&e.ok)=true ->
   ∀(n:Nat)(c:Array ao9)(A Z:List AV),A.length=n*sz->Z.length=es.length*sz->eO g S mm c.toList (A++Z) ->
    ∃c',Instr.fill (fun i=>some (i*sz,sz)) c ((qW n os).map fun p=>(p.1,ev p.2))=some c'/\eO g S mm c'.toList (A++jF es):=by
 intro os es hl
 induction hl with
 |nil =>
  intro _ n c A Z hA hZ hc;have:Z=[]:=by simpa using hZ
  subst this;exact⟨c,rfl,by simpa[jF]using hc⟩
 | @cons o x os xs h1 _ ih =>
  intro lD n c A Z hA hZ hc;simp only[all_cons,anq]at lD;obtain⟨⟨mj,o6⟩,lD⟩:=lD;have mj:=anw mj;have hx:=eO.of_value (kG o x h1) o6;have bK:(ev o).cells.size=sz:=by have:=hx.1;simp at this;omega
  simp only[an0,aj9]at hZ;have fX:c.size=A.length+Z.length:=by have:=hc.1;simpa using this
  have Df:=hc.over hx (off:=n*sz) (by simp;omega)
  have hoe:over (A++Z) (n*sz) x.cells=(A++x.cells)++Z.drop sz:=by
   unfold over;rw[<- hA,List.take_left,mj,List.drop_append,aoi oz,show A.length+sz-A.length=sz by omega,nil_append]
  rw[hoe]at Df;have oq:=IW (ev o).cells.toList 0 (n*sz) c (by simp;omega);simp only[akn]at oq
  obtain⟨c',h2,h3⟩:=ih lD (n+1) ((((ev o).cells.toList.zipIdx 0).foldl (fun cs p=>cs.setIfInBounds (n*sz+p.2) p.1) c)) (A++x.cells) (Z.drop sz)
   (by simp[aj9];omega) (by simp;omega) (by rw[oq];exact Df)
  refine⟨c',?_,by simpa[jF,aor]using h3⟩;rw[<- h2];simp only[qW,aow,Instr.fill];rw[aoy (by simp;omega)];congr 1;rw[<- Array.foldl_toList,Array.toList_zipIdx]
theorem Xh{g:Nat->Array ao9->Prop}{S:Nat->Nat->Prop}{m:Nat->Option Nat}(zero:Array ao9)(n:Nat)(hz:zero.toList.all Value.oneCell'=true)(h0:n=0\/zero≠#[]) :
  ∃l:List AV,eO g S m ((Array.range n).map (zero[· % zero.size]!)).toList l/\l.length=n:=by
 refine⟨(List.range n).map (fun i=>AV.v (zero[i%zero.size]!)),⟨by simp,?_,?_⟩,by simp⟩
 ·intro j x hx;simp only [anr,ann] at hx;obtain⟨i,hi,rfl⟩:=hx;have hn:0<n:=by have:=ank hi; simp at this; omega
  have jB:0<zero.size:=by
   rcases h0 with h |h
   ·omega
   ·rcases akx zero.size with h' |h'
    ·exact ao5 (Array.size_eq_zero_iff.1 h') h
    ·exact h'
  have hlt:i%zero.size<zero.size:=akz _ jB;simp only[AV.one];rw[getElem!_pos zero _ hlt];exact anx.1 hz _ (by simp)
 ·intro j u x hu hx;simp only[anr,ann]at hx;obtain⟨i,hi,rfl⟩:=hx;simp only[Array.toList_map,Array.toList_range,anr,hi,anh,Option.some.injEq]at hu;subst hu;exact .v _
theorem P8{T E:apa}{ti te:TI}{w:apc}{n:Nat}{g:Nat->Array ao9->Prop}{S:Nat->Nat->Prop}{mm:Nat->Option Nat}{ev:ao8->ao9}
  (hT:aI P T=some ti) (hk:ti.k=.slice E) (hE:aI P E=some te) (hz:te.zero.all Value.oneCell'=true) (da:ajx te.zero.length te.size=true)
  (kG:∀o x,Ev s o x->Rep g S mm (ev o) x) {os:List ao8} {es:List AV} (hl:EvL s os es) (lD:(es.all fun e=>ajx e.cells.length te.size&&e.ok)=true)
  (hn:n=es.length) (hb:n*te.size<=2^24) :
  ∃c:Array ao9,(Instr.buildSlice T n ((qW 0 os).map fun p=>(p.1,ev p.2)).toArray).run P w =
    .ok (.slice (some ⟨w.heap.size,0,none⟩) n n) { w with heap:=w.heap.push (.cells c E) }/\eO g S mm c.toList (jF es):=by
 obtain⟨d2,h3,h4,-,-⟩:=fK hT w;obtain rfl:=lN (h4.trans hk);obtain⟨z,h5,h6⟩:=yX hE w;have da:=anw da;have z4:z.cells.size=te.size:=by rw[<- am8,h6];exact da
 subst hn
 have key:∀zero:Array ao9,zero=(if es.length*te.size=0 then #[]else z.cells)->zero.toList.all Value.oneCell'=true/\(es.length*te.size=0\/zero≠#[]):=by
  intro zero h;subst h;split
  ·exact⟨rfl,.inl ‹_›⟩
  ·rename_i h;refine⟨by rw[h6];exact hz,.inr (fun he=>?_)⟩;rw[he]at z4;simp at z4;exact h (by rw[<- z4];omega)
 obtain⟨zero,iu⟩:∃zero:Array ao9,zero=(if es.length*te.size=0 then #[]else z.cells):=⟨_,rfl⟩
 obtain⟨k1,k2⟩:=key zero iu;obtain⟨Z,hZ,hZl⟩:=Xh (g:=g) (S:=S) (m:=mm) zero (es.length*te.size) k1 k2;obtain⟨c',h7,h8⟩:=abr kG os es hl lD 0 ((Array.range (es.length*te.size)).map (zero[· % zero.size]!)) [] Z (by simp) hZl (by simpa using hZ);refine⟨c',?_,by simpa using h8⟩;have uD:¬(es.length*te.size>2^24):=by omega
 simp only[Instr.buildSlice,ape,h3,apd,jW hE];rw[aoy uD]
 by_cases h0:es.length*te.size=0
 ·rw[aoz h0]at iu ⊢;subst iu;simp only[ape,apf,apd,h7,newRow,run_newObj]
 ·rw[aoy h0]at iu ⊢;subst iu;simp only[ape,apf,apd,h5,h7,newRow,run_newObj]
theorem R8{g:Nat->Array ao9->Prop}{S:Nat->Nat->Prop}{m:Nat->Option Nat}{b sz:Nat}{c:Array ao9}{es:List AV}(hb:g b c)
  (hc:eO g S eQ c.toList (jF es)) (hs:∀e∈es,e.cells.length=sz) (hl:es.length<=bb) :
  Rep g S m (.slice (some ⟨b,0,none⟩) es.length es.length) (.lst sz es):=by
 have bK:=M1 es hs;have bG:c.size=es.length*sz:=by have:=hc.1;simp at this;omega
 have iT:∀(i j:Nat)(e x:AV),es[i]?=some e->e.cells[j]?=some x->∃u,c[i*sz+j]?=some u/\x.one=true/\Rep g S eQ u x:=by
  intro i j e x he hx;have hf:=Ob es hs i j e x he hx
  have hlt:i*sz+j<(jF es).length:=by
   rcases anu (i*sz+j) (jF es).length with h |h
   ·exact h
   ·rw[an2 h]at hf;cases hf
  have QN:i*sz+j<c.size:=by omega
  refine⟨c[i*sz+j],amz QN,hc.2.1 _ x hf,hc.2.2 _ _ x (by simp[QN]) hf⟩
 refine .lst (fun i j=>c.getD (i*sz+j) undef) hb (anp _) hl (fun i e he=>hs e (ank he)) ?_ ?_ ?_
 ·intro i j e x he hx;obtain⟨u,_,h,_⟩:=iT i j e x he hx;exact h
 ·intro i j e x he hx;obtain⟨u,h,_,_⟩:=iT i j e x he hx;simp[anv,h]
 ·intro i j e x he hx;obtain⟨u,h,_,h2⟩:=iT i j e x he hx;simpa[anv,h]using h2
theorem Vh{es:List AV}{sz:Nat}(h:(es.all fun e=>ajx e.cells.length sz&&e.ok)=true):∀e∈es,e.cells.length=sz:=by
 intro e he;have:=anx.1 h e he;simp only[anq]at this;exact anw this.1
theorem Og{es:List AV}(h:AV.nms es=[]):∀e∈es,e.nm=[]:=by
 induction es with
 |nil=>intro e he;cases he
 |cons x es ih =>
  simp only[AV.nms,List.append_eq_nil_iff]at h;intro e he;rcases an9.1 he with rfl |he
  ·exact h.1
  ·exact ih h.2 e he
theorem Xw{d n:Nat}{os:List ao8}{es:List AV}{T E t:apa}{ti te:TI}{parts:Array (Nat×ao8)}
  (hp:parts=(qW 0 os).toArray) (hx:EvL s os es) (hT:aI P T=some ti) (hk:ti.k=.slice E) (hE:aI P E=some te) (hz:te.zero.all Value.oneCell'=true)
  (da:ajx te.zero.length te.size=true) (lD:(es.all fun e=>ajx e.cells.length te.size&&e.ok)=true) (hnm:AV.nms es=[])
  (hn:n=es.length) (hb:Nat.ble (n*te.size) 16777216=true) (hb':Nat.ble n 16777216=true) (hN:aks d N=true) :
  Step P N R s ⟨some d,.buildSlice T n parts,t,pos,after,none⟩ ⟨some (.lst te.size es),[],gB os,[]⟩ :=
 abm rfl rfl hN fun s' aK C m a w hr=>by
  subst hp;rw[akp]at hb hb';have hx':=hx.agree aK (fun _ h=>h);obtain⟨c,h1,h2⟩:=P8 (w:=w) hT hk hE hz da (fun o x h=>h.rep hr) hx' lD hn oz;refine⟨.slice (some ⟨w.heap.size,0,none⟩) n n,c,E,?_,?_⟩
  ·have:((qW 0 os).toArray.map fun p=>(p.1,a.eval p.2))=((qW 0 os).map fun p=>(p.1,a.eval p.2)).toArray:=by simp
   simp only[execOp,ape,this,h1,apd,apf]
  ·intro g S hg hS jC;subst hn
   have aik:∀x∈jF es,x.nm=[]:=by
    have hh:=Og hnm;clear h2 h1 hx' hx lD hb hb' hnm aK
    induction es with
    |nil=>intro x hx;cases hx
    |cons e es ih =>
     intro x hx;simp only[jF,anz]at hx;rcases hx with hx |hx
     ·have:=hh e (by simp)
      cases e <;> simp only[AV.cells,alr]at hx <;> first
       |(subst hx;exact this)
       |(exact Og this x hx)
     ·exact ih (fun e he=>hh e (by simp[he])) x hx
   have h3:eO g S eQ c.toList (jF es):=h2.mono hg hS (fun x hx k b hk _=>by have:=hk.mem;rw[aik x hx]at this;cases this);exact R8 jC h3 (Vh lD) (by unfold bb;omega)
theorem lX{d:Nat}{T E t:apa}{ti te:TI}
  (hT:aI P T=some ti) (hk:ti.k=.slice E) (hE:aI P E=some te) (hz:te.zero.all Value.oneCell'=true)
  (da:ajx te.zero.length te.size=true) (hN:aks d N=true) :
  Step P N R s ⟨some d,.buildSlice T 0 #[],t,pos,after,none⟩ ⟨some (.ms d te.size 0 0),[(d,some (.row te.size []))],[],[]⟩ :=
 xT rfl rfl hN (by simp) fun s' aK hfr C m a w hr=>by
  obtain⟨c,h1,h2⟩:=P8 (w:=w) (n:=0) hT hk hE hz da (fun o x h=>h.rep hr) (.nil:EvL s' [] []) rfl rfl oz;refine⟨.slice (some ⟨w.heap.size,0,none⟩) 0 0,c,E,w.drawn,?_,fun h=>h,?_,fun g S m' hm _=>.ms0 _ _ _ _⟩
  ·have h1':(Instr.buildSlice T 0 #[]).run P w=.ok (.slice (some ⟨w.heap.size,0,none⟩) 0 0) { w with heap:=w.heap.push (.cells c E) }:=h1;have:((#[]:Array (Nat×ao8)).map fun (i,x)=>(i,a.eval x))=#[]:=by simp
   simp only[execOp,ape,this,h1',apd,apf]
  ·intro g S m' w' hg hS hm hw;exact .row hw (by simp) (by simp) (by simp) (by simp) (by simp)
theorem kq{d:Nat}{x:ao8}{n:Int}{T E t:apa}{ti te:TI}(hx:Ev s x (.v (.int .i64 n)))
    (hT:aI P T=some ti) (hk:ti.k=.slice E) (hE:aI P E=some te) (hz:te.zero.all Value.oneCell'=true)
    (da:(ajx te.zero.length te.size&&aks 0 te.size&&aks 0 te.bytes&&(te.ag||ajx te.size 1))=true)
    (h0:0<=n) (hb:n*te.bytes<=281474976710656) (hN:aks d N=true) :
    Step P N R s ⟨some d,.makeSlice T x x,t,pos,after,none⟩
      ⟨some (.ms d te.size 0 n.toNat),[(d,some (.row te.size (als n.toNat (oR te.ag (te.zero.map .v)))))],aA x,[]⟩ :=
  xT rfl rfl hN (by simp) fun s' aK hfr C m a w hr=>by
    have gY:=ug hr (hx.agree aK (fun _ h=>h));simp only[anq,aos,aj6]at da;obtain⟨⟨⟨da,jb⟩,kF⟩,hz3⟩:=da;have da:=anw da;obtain⟨d2,h3,h4,-,-⟩:=fK hT w;obtain rfl:=lN (h4.trans hk);obtain⟨z,h5,h6⟩:=yX hE w;obtain⟨ie,h7,h8,-⟩:=Kn hE w;have z4:z.cells.size=te.size:=by rw[<- am8,h6];exact da
    have uD:n<=281474976710656:=by
      have:n*1<=n*te.bytes:=Int.mul_le_mul_of_nonneg_left oz h0;omega
    have qv:IntKind.i64.wrap n=n:=IntWalk.i64_in n oz;obtain⟨zero,iu⟩:∃zero:Array ao9,zero=(if n.toNat*te.size=0 then #[]else z.cells):=⟨_,rfl⟩
    refine⟨.slice (some ⟨w.heap.size,0,none⟩) n.toNat n.toNat,(Array.range (n.toNat*te.size)).map (zero[· % zero.size]!),E,w.drawn,?_,fun h=>h,?_,?_⟩
    · have g9:(Instr.makeSlice T (.int .i64 n) (.int .i64 n)).run P w =
          .ok (.slice (some ⟨w.heap.size,0,none⟩) n.toNat n.toNat) { w with heap:=w.heap.push (.cells ((Array.range (n.toNat*te.size)).map (zero[· % zero.size]!)) E) }:=by
        have hc:¬((n<0\/281474976710656<(ie.bytes:Int)*n)\/n<0):=by
          rw[h8,Int.mul_comm];omega
        simp only[Instr.makeSlice,ape,h3,apd,asInt,asIntOf,apf,h7,qv];rw[aoy (by simpa using hc)];simp only[ape,run_askRoom,apd,jW hE]
        by_cases h0:n.toNat*te.size=0
        · rw[aoz h0]at iu ⊢
          subst iu;simp only[ape,apf,apd,newRow,run_newObj]
        · rw[aoy h0]at iu ⊢
          subst iu;simp only[ape,apf,apd,h5,newRow,run_newObj]
      simp only[execOp,gY,ape,g9,apd,apf]
    · intro g S m' w' hg hS hm hw
      have fX:(oR te.ag (te.zero.map .v)).cells=te.zero.map .v:=by
        rcases hz3 with h |h
        · rw[h];rfl
        · have h:=anw h
          match hq:te.zero with
          |[]=>rw[hq]at da;simp at da;omega
          |[u] =>
            rw[hq]at hz;simp only[all_cons,List.all_nil,Bool.and_true]at hz;cases te.ag <;> simp[oR,AV.cells]
          |u::u'::r=>rw[hq]at da;simp at da;omega
      have iT:∀(i j:Nat)(x:AV),i<n.toNat->(te.zero.map AV.v)[j]?=some x->x.one=true/\∀u,((Array.range (n.toNat*te.size)).map (zero[· % zero.size]!))[i*te.size+j]?=some u->x=.v u:=by
        intro i j x hi hx;simp only[anr,ann]at hx;obtain⟨v,hv,rfl⟩:=hx;refine⟨anx.1 hz v (ank hv),?_⟩;intro u hu
        have hj:j<te.size:=by
          rw[<- da];rcases anu j te.zero.length with h |h
          · exact h
          · rw[an2 h]at hv;cases hv
        have jB:¬n.toNat*te.size=0:=by
          have:=aju (show 0<n.toNat by omega) jb;omega
        rw[aoy jB]at iu;subst iu;have bJ:=qI (sz:=te.size) hi;have hlt:i*te.size+j<n.toNat*te.size:=by omega
        simp only[Array.getElem?_map,Array.getElem?_range,hlt,if_true,anh,Option.some.injEq]at hu;have z5:(i*te.size+j)%z.cells.size=j:=by rw[z4,ajw,Nat.add_mul_mod_self_right,aj4 hj]
        rw[z5,getElem!_pos z.cells j oz]at hu;rw[<- h6,ana,amz oz]at hv;cases hv;rw[hu]
      refine .row hw (by simp) (by unfold bb;simp;omega) ?_ ?_ ?_
      · intro i e he
        rw[aoh]at he;split at he
        · cases he;rw[fX];simpa using da
        · cases he
      · intro i j e x he hx
        rw[aoh]at he;split at he
        · rename_i hi;cases he;rw[fX]at hx;exact(iT i j x hi hx).1
        · cases he
      · intro i j e u x he hx hu
        rw[aoh]at he;split at he
        · rename_i hi;cases he;rw[fX]at hx
          rw[(iT i j x hi hx).2 u hu];exact .v _
        · cases he
    · intro g S m' hm hS
      have:=Rep.ms (g:=g) (S:=S) (m:=m') (k:=d) (sz:=te.size) (off:=0) (len:=n.toNat) (cap:=n.toNat) hm (anp _) (by simpa using hS);simpa using this
theorem RelM.rk{C:Ctx}{m:Nat->Option Nat}{a:Act}{w:apc}(h:RelM C s m a w){k d:Nat}{y:Blk}(hk:lk s.hp k=some y)(hd:s.Fresh d) :
  RelM C ⟨s.sl,(d,some y)::(k,none)::s.hp⟩ (fun k'=>if k'=d then m k else m k') a w:=by
 have bV:k≠d:=fun e=>by rw[e,hd.1]at hk;cases hk
 have cO:∀k' z,lk ((d,some y)::(k,none)::s.hp) k'=some z->(k'=d/\z=y)\/(k'≠d/\k'≠k/\lk s.hp k'=some z):=by
  intro k' z hz;rw[a5]at hz;split at hz
  ·cases hz;exact .inl ⟨‹_›,rfl⟩
  ·rw[a5]at hz;split at hz
   ·cases hz
   ·exact .inr ⟨‹_›,‹_›,hz⟩
 have hf:=Frame.refl (bj s.hp m) w
 have bQ:∀k' z b,lk ((d,some y)::(k,none)::s.hp) k'=some z->(if k'=d then m k else m k')=some b->bj s.hp m b\/w.heap.size<=b:=by
  intro k' z b hz hb;rcases cO k' z hz with⟨h1,h2⟩ |⟨h1,h2,h3⟩
  ·rw[aoz h1]at hb;exact .inl ⟨k,y,hk,hb⟩
  ·rw[aoy h1]at hb;exact .inl ⟨k',z,h3,hb⟩
 have sW:∀z:Blk,¬z.Names d->∀k'' b,z.Names k''->m k''=some b->(if k''=d then m k else m k'')=some b:=by
  intro z hz k'' b hn hb;rw[aoy (fun(e:k''=d)=>hz (e▸hn))];exact hb
 refine h.update hf ?_ bQ ?_ ⟨?_,?_,?_⟩
 ·intro t z k' b hz hn hb;have:k'≠d:=fun e=>hd.2.2.1 t z hz (e▸hn)
  rw[aoy this];exact hb
 ·intro k' z rg hz;rcases cO k' z hz with⟨h1,h2⟩ |⟨h1,h2,h3⟩
  ·have:=hd.2.1;omega
  ·exact⟨⟨z,h3⟩,by rw[aoy h1]⟩
 ·intro k' z hz;rcases cO k' z hz with⟨h1,h2⟩ |⟨h1,h2,h3⟩
  ·subst h2;rw[aoz h1];exact BlkRep.mono (w:=w) (gQ hf bQ) hf.sz (sW z (hd.2.2.2 k z hk)) rfl (fun _ _=>rfl) (h.heap.blk k z hk)
  ·rw[aoy h1];exact BlkRep.mono (w:=w) (gQ hf bQ) hf.sz (sW z (hd.2.2.2 k' z h3)) rfl (fun _ _=>rfl) (h.heap.blk k' z h3)
 ·intro k1 k2 z1 z2 b h1 h2 cw bJ;rcases cO k1 z1 h1 with⟨e1,e2⟩ |⟨e1,e2,e3⟩ <;> rcases cO k2 z2 h2 with⟨g1,g2⟩ |⟨g1,g2,g3⟩
  ·rw[e1,g1]
  ·rw[aoz e1]at cw;rw[aoy g1]at bJ
   exact ao5 (h.heap.inj k k2 y z2 b hk g3 cw bJ).symm g2
  ·rw[aoy e1]at cw;rw[aoz g1]at bJ
   exact ao5 (h.heap.inj k1 k z1 y b e3 hk cw bJ) e2
  ·rw[aoy e1]at cw;rw[aoy g1]at bJ
   exact h.heap.inj k1 k2 z1 z2 b e3 g3 cw bJ
 ·intro k' z b hz hb;rcases cO k' z hz with⟨h1,h2⟩ |⟨h1,h2,h3⟩
  ·rw[aoz h1]at hb;exact h.heap.sep k y b hk hb
  ·rw[aoy h1]at hb;exact h.heap.sep k' z b h3 hb
theorem RelM.fewer{C:Ctx}{m:Nat->Option Nat}{a:Act}{w:apc}(h:RelM C s m a w){hp':Hp}(hs:∀k z,lk hp' k=some z->lk s.hp k=some z) :
  RelM C ⟨s.sl,hp'⟩ m a w:=by
 have hf:=Frame.refl (bj s.hp m) w;have bQ:∀k' z b,lk hp' k'=some z->m k'=some b->bj s.hp m b\/w.heap.size<=b:=fun k' z b hz hb=>.inl ⟨k',z,hs k' z hz,hb⟩
 refine h.update hf (fun _ _ _ _ _ _ hb=>hb) bQ (fun k' z _ hz=>⟨⟨z,hs k' z hz⟩,rfl⟩) ⟨?_,?_,?_⟩
 ·intro k' z hz;exact BlkRep.mono (w:=w) (gQ hf bQ) hf.sz (fun _ _ _ h=>h) rfl (fun _ _=>rfl) (h.heap.blk k' z (hs k' z hz))
 ·intro k1 k2 z1 z2 b h1 h2;exact h.heap.inj k1 k2 z1 z2 b (hs _ _ h1) (hs _ _ h2)
 ·intro k' z b hz hb;exact h.heap.sep k' z b (hs k' z hz) hb
theorem RelM.virt{C:Ctx}{m:Nat->Option Nat}{a:Act}{w:apc}(h:RelM C s m a w){d:Nat}(sz:Nat)(hd:s.Fresh d) :
  RelM C ⟨s.sl,(d,some (.row sz []))::s.hp⟩ (fun k'=>if k'=d then none else m k') a w:=by
 have cO:∀k' z,lk ((d,some (.row sz []))::s.hp) k'=some z->(k'=d/\z=.row sz [])\/(k'≠d/\lk s.hp k'=some z):=by
  intro k' z hz;rw[a5]at hz;split at hz
  ·cases hz;exact .inl ⟨‹_›,rfl⟩
  ·exact .inr ⟨‹_›,hz⟩
 have hf:=Frame.refl (bj s.hp m) w
 have bQ:∀k' z b,lk ((d,some (.row sz []))::s.hp) k'=some z->(if k'=d then none else m k')=some b->bj s.hp m b\/w.heap.size<=b:=by
  intro k' z b hz hb;rcases cO k' z hz with⟨h1,h2⟩ |⟨h1,h3⟩
  ·rw[aoz h1]at hb;cases hb
  ·rw[aoy h1]at hb;exact .inl ⟨k',z,h3,hb⟩
 refine h.update hf ?_ bQ ?_ ⟨?_,?_,?_⟩
 ·intro t z k' b hz hn hb;rw[aoy (fun(e:k'=d)=>hd.2.2.1 t z hz (e▸hn))];exact hb
 ·intro k' z rg hz;rcases cO k' z hz with⟨h1,h2⟩ |⟨h1,h3⟩
  ·have:=hd.2.1;omega
  ·exact⟨⟨z,h3⟩,by rw[aoy h1]⟩
 ·intro k' z hz;rcases cO k' z hz with⟨h1,h2⟩ |⟨h1,h3⟩
  ·subst h2;rw[aoz h1];exact .none sz
  ·rw[aoy h1];exact BlkRep.mono (w:=w) (gQ hf bQ) hf.sz (fun k'' b hn hb=>by rw[aoy (fun(e:k''=d)=>hd.2.2.2 k' z h3 (e▸hn))];exact hb) rfl (fun _ _=>rfl) (h.heap.blk k' z h3)
 ·intro k1 k2 z1 z2 b h1 h2 cw bJ;rcases cO k1 z1 h1 with⟨e1,_⟩ |⟨e1,e3⟩ <;> rcases cO k2 z2 h2 with⟨g1,_⟩ |⟨g1,g3⟩
  ·rw[e1,g1]
  ·rw[aoz e1]at cw;cases cw
  ·rw[aoz g1]at bJ;cases bJ
  ·rw[aoy e1]at cw;rw[aoy g1]at bJ
   exact h.heap.inj k1 k2 z1 z2 b e3 g3 cw bJ
 ·intro k' z b hz hb;rcases cO k' z hz with⟨h1,_⟩ |⟨h1,h3⟩
  ·rw[aoz h1]at hb;cases hb
  ·rw[aoy h1]at hb;exact h.heap.sep k' z b h3 hb
theorem KU{C:Ctx}{m:Nat->Option Nat}{w:apc}{hp:Hp}{v:ao9}{sz:Nat}{xs:List AV}(h:Rep (Im C.ext hp m w) (Sz w) m v (.lst sz xs))(bG:0<sz) :
  (xs=[]/\∃a cap,v=.slice a 0 cap)\/∃b off cap cs,v=.slice (some ⟨b,off,none⟩) xs.length cap/\0<xs.length/\Im C.ext hp m w b cs/\off+xs.length*sz<=cs.size /\
   xs.length<=bb/\(∀(i:Nat)(e:AV),xs[i]?=some e->e.cells.length=sz)/\(∀(i j:Nat)(e c:AV),xs[i]?=some e->e.cells[j]?=some c->c.one=true) /\
   ∀(i j:Nat)(e c:AV)(u:ao9),xs[i]?=some e->e.cells[j]?=some c->cs[off+i*sz+j]?=some u->Rep (Im C.ext hp m w) (Sz w) eQ u c:=by
 cases h with
 |lst0 a cap=>exact .inl ⟨rfl,a,cap,rfl⟩
 | @lst _ b off cap _ _ cs u hb hc hl hs h1 hu hr =>
  rcases akx xs.length with h0 |h0
  ·have:xs=[]:=alb h0;subst this;exact .inl ⟨rfl,_,_,rfl⟩
  refine .inr ⟨b,off,cap,cs,rfl,h0,hb,?_,hl,hs,h1,?_⟩
  ·have he:xs[xs.length - 1]?=some (xs[xs.length - 1]'oz):=ano oz;have mi:=hs _ _ he;have hc':=hu (xs.length - 1) (sz - 1) _ _ he (ano (show sz - 1<_ by omega))
   have hlt:off+(xs.length-1)*sz+(sz-1)<cs.size:=by
    rcases anu (off+(xs.length-1)*sz+(sz-1)) cs.size with h |h
    ·exact h
    ·rw[am2 h]at hc';cases hc'
   have:xs.length*sz=(xs.length-1)*sz+sz:=by
    rw[<- aj9];congr 1;omega
   omega
  ·intro i j e c v he hc hv;have:=hu i j e c he hc;rw[this]at hv;cases hv
   exact hr i j e c he hc
theorem N9{g:Nat->Array ao9->Prop}{S:Nat->Nat->Prop}{m:Nat->Option Nat}{w':apc}{b sz off:Nat}{es xs:List AV}{c cs aJ:Array ao9}{t:apa}
  (hw:w'.heap[b]?=some (.cells aJ t (0,0))) (hn:(es.length+xs.length)*sz<=aJ.size) (hl:es.length+xs.length<=bb)
  (hs:∀(i:Nat)(e:AV),es[i]?=some e->e.cells.length=sz) (h1:∀(i j:Nat)(e x:AV),es[i]?=some e->e.cells[j]?=some x->x.one=true)
  (hr:∀(i j:Nat)(e:AV)(u:ao9)(x:AV),es[i]?=some e->e.cells[j]?=some x->c[i*sz+j]?=some u->Rep g S eQ u x)
  (hs':∀(i:Nat)(e:AV),xs[i]?=some e->e.cells.length=sz) (h1':∀(i j:Nat)(e x:AV),xs[i]?=some e->e.cells[j]?=some x->x.one=true)
  (hr':∀(i j:Nat)(e:AV)(x:AV)(u:ao9),xs[i]?=some e->e.cells[j]?=some x->cs[off+i*sz+j]?=some u->Rep g S eQ u x)
  (ho:∀p,p<es.length*sz->aJ[p]?=c[p]?) (hn':∀p,p<xs.length*sz->aJ[es.length*sz+p]?=cs[off+p]?) :
  BlkRep g S m w' (some b) (.row sz (es++xs)):=by
 have split:∀(i:Nat)(e:AV),(es++xs)[i]?=some e->es[i]?=some e\/(es.length<=i/\xs[i-es.length]?=some e):=by
  intro i e he;rcases anu i es.length with h |h
  ·rw[an8 h]at he;exact .inl he
  ·rw[an7 h]at he;exact .inr ⟨h,he⟩
 have lt_of:∀{l:List AV}{i:Nat}{e:AV},l[i]?=some e->i<l.length:=by
  intro l i e h;rcases anu i l.length with h' |h'
  ·exact h'
  ·rw[an2 h']at h;cases h
 refine .row hw (by simpa using hn) (by simpa using hl) ?_ ?_ ?_
 ·intro i e he;rcases split i e he with h |⟨_,h⟩
  ·exact hs i e h
  ·exact hs' _ e h
 ·intro i j e x he hx;rcases split i e he with h |⟨_,h⟩
  ·exact h1 i j e x h hx
  ·exact h1' _ j e x h hx
 ·intro i j e u x he hx hu;rcases split i e he with h |⟨hge,h⟩
  ·have hi:=lt_of h;have hj:=lt_of hx;rw[hs i e h]at hj;have:=qI (sz:=sz) hi;rw[ho _ oz]at hu;exact hr i j e u x h hx hu
  ·have hi:=lt_of h;have hj:=lt_of hx;rw[hs' _ e h]at hj;have:=qI (sz:=sz) hi
   have e1:i*sz+j=es.length*sz+((i-es.length)*sz+j):=by
    rw[<- ajs,<- akk];congr 2;omega
   rw[e1,hn' _ oz,<- ajs]at hu;exact hr' _ j e x u h hx hu
theorem Ei{o:Oper}{u:Out}(hg:o.guard=none)
  (h:∀s',jx s s' u->mU s' u->∀C m a w (next:Act->apc->Prop),C.nt=N->RelM C s' m a w->(∀m' a' w',RelM C (s'.app o.dst u) m' a' w'->next a' w') ->
   o.upon P a next (fun _ _ _=>False) ((execOp a.eval o).run P w)):Step P N R s o u:=by
 refine⟨fun s' aK ee C m a w Q next hC hr hnext=>?_⟩;rw[aoz (qK hg _)];refine zp ?_;have:=h s' aK ee C m a w next hC hr hnext;unfold Oper.wp;generalize(execOp a.eval o).run P w=r at *;cases r with
 |ok n w' =>
  cases n <;> simp only[Oper.upon]at this ⊢ <;> first
   |exact this
   |exact this.mono (fun e w'' he=>by cases e <;> first |exact he |exact he.elim |(obtain⟨_,_,h⟩:=he;exact h.elim))
 |halt x w'=>cases x <;> simp only[Oper.upon]at this
theorem wN{ρ:ao8->ao9}{d:Option Tmp}{x y:ao8}{T t:apa}{w w':apc}{v:ao9}
  (h:(Builtin.append_ #[T,T] t #[ρ x,ρ y]).run P w=.ok v w') :
  (execOp ρ ⟨d,.call ⟨.builtin .append,#[x,y],#[T,T]⟩,t,pos,after,none⟩).run P w=.ok (.value v) w':=by
 simp[execOp,resolve,invoke,builtin,h]
theorem QC{T t E:apa}{ti te:TI}{w:apc}{base a:Option Addr}{len cap cap':Nat}(hT:aI P T=some ti)(hk:ti.k=.slice E)(hE:aI P E=some te)
  (cF:len<=cap):(Builtin.append_ #[T,T] t #[.slice base len cap,.slice a 0 cap']).run P w=.ok (.slice base len cap) w:=by
 obtain⟨d2,h3,h4,-,hu⟩:=fK hT w;obtain rfl:=lN (h4.trans hk)
 have qw:(Builtin.firstCells te.size 0 (.slice a 0 cap')).run P w=.ok #[] w:=by
  cases a with
  |none=>exact run_firstCells_none w _ _ _ _
  |some a=>exact run_firstCells_some w _ _ a _ _ [] (by simp) (by simp)
 cases base with
 |none=>simp[Builtin.append_,h3,jW hE,Builtin.lenOf,cF,qw]
 |some b=>simp[Builtin.append_,h3,jW hE,Builtin.lenOf,cF,qw,storeCells]
theorem abc{T t E:apa}{ti te:TI}{w:apc}{b len n cap cap':Nat}{a:Addr}{c:Array ao9}{t2:apa}(hT:aI P T=some ti)(hk:ti.k=.slice E)(hE:aI P E=some te)
  (hw:w.heap[b]?=some (.cells c t2 (0,0))) (news:List ao9) (fA:news.length=n*te.size) (sY:∀(j:Nat) v,news[j]?=some v->w.cell? (a.add j)=some v)
  (ot:∀u∈news,u.oneCell'=true) (z6:len+n<=cap) (aje:len*te.size+n*te.size<=c.size) :
  (Builtin.append_ #[T,T] t #[.slice (some ⟨b,0,none⟩) len cap,.slice (some a) n cap']).run P w =
   .ok (.slice (some ⟨b,0,none⟩) (len+n) cap) { w with heap:=w.heap.setIfInBounds b (.cells (over c.toList (len*te.size) news).toArray t2 (0,0)) }:=by
 obtain⟨d2,h3,h4,-,hu⟩:=fK hT w;obtain rfl:=lN (h4.trans hk);have qw:=run_firstCells_some (P:=P) w te.size n a n cap' _ fA sY;have dD:=GW (P:=P) news c w (len*te.size) 0 hw (by rw[fA];omega) ot;simp only[akn]at dD;simp[Builtin.append_,h3,jW hE,Builtin.lenOf,z6,qw,mG,dD]
theorem YE{C:Ctx}{m:Nat->Option Nat}{a:Act}{w:apc}(hr:RelM C s m a w){b n:Nat}{c:Array ao9}{t:apa}(hw:w.heap[b]?=some (.cells c t (0,0)))
  (h:Sz w b n):n<=c.size:=by
 obtain⟨c',t',f',h1,h2⟩:=h;rw[hw]at h1;cases h1;exact h2
theorem Fresh.row{d k:Nat}{z:Blk}(h:s.Fresh d)(bV:d≠k)(hz:¬z.Names d):AS.Fresh ⟨s.sl,(k,some z)::s.hp⟩ d:=by
 refine⟨?_,h.2.1,h.2.2.1,?_⟩
 ·simp only[a5,aoy bV];exact h.1
 ·intro k' x hx;simp only[a5]at hx;split at hx
  ·cases hx;exact hz
  ·exact h.2.2.2 k' x hx
theorem Bu{C:Ctx}{m:Nat->Option Nat}{a:Act}{w:apc}{d k sz n:Nat}{y:Blk}{v:ao9}{rt rd:List Nat}{next:Act->apc->Prop}
  (hr:RelM C ⟨s.sl,(d,some y)::(k,none)::s.hp⟩ m a w) (hd:d<C.nt)
  (hv:Rep (Im C.ext ((d,some y)::(k,none)::s.hp) m w) (Sz w) m v (.ms d sz 0 n))
  (hnext:∀m' a' w',RelM C (s.app (some d) ⟨some (.ms d sz 0 n),[(d,some y),(k,none)],rt,rd⟩) m' a' w'->next a' w'):next (a.put (some d) v) w:=by
 refine hnext m _ _ ?_;have:=hr.put d v (some (.ms d sz 0 n)) (fun z hz=>by cases hz;exact⟨an5 hd hr.nt,hv⟩);simpa[AS.app,Act.put]using this
theorem Y6{C:Ctx}{m:Nat->Option Nat}{a:Act}{w:apc}{d k sz:Nat}{es xs:List AV}{E:apa}{aJ:Array ao9}{cap:Nat}{rt rd:List Nat}{next:Act->apc->Prop}
  (hr:RelM C s m a w) (hfr:s.Fresh d) (hd:d<C.nt)
  (qr:∀(g:Nat->Array ao9->Prop)(S:Nat->Nat->Prop)(m':Nat->Option Nat)(w':apc),
   (∀b cs,Im C.ext s.hp m w b cs->g b cs)->(∀b n,Sz w b n->S b n)->w'.heap[w.heap.size]?=some (.cells aJ E (0,0))->BlkRep g S m' w' (some w.heap.size) (.row sz (es++xs)))
  (z7:es.length+xs.length<=cap) (bG:cap*sz<=aJ.size)
  (hnext:∀m' a' w',RelM C (s.app (some d) ⟨some (.ms d sz 0 (es.length+xs.length)),[(d,some (.row sz (es++xs))),(k,none)],rt,rd⟩) m' a' w'->next a' w') :
  next (a.put (some d) (.slice (some ⟨w.heap.size,0,none⟩) (es.length+xs.length) cap)) (w.drew.alloc (.cells aJ E)):=by
 have h1:=hr.drawn (w.drawn+1);have h2:=h1.alloc hfr (.cells aJ E) (.row sz (es++xs)) (fun h=>h) (fun g S m' w' hg hS _ hw=>qr g S m' w' hg hS hw)
 have h3:=h2.fewer (hp':=(d,some (.row sz (es++xs)))::(k,none)::s.hp) (by
  intro k' z hz;simp only[a5]at hz ⊢;split at hz
  ·rename_i h;rw[aoz h];exact hz
  ·rename_i h;rw[aoy h]
   split at hz
   ·cases hz
   ·exact hz)
 refine Bu h3 hd ?_ hnext
 have:=Rep.ms (g:=Im C.ext ((d,some (.row sz (es++xs)))::(k,none)::s.hp) (fun k'=>if k'=d then some w.heap.size else m k') (w.drew.alloc (.cells aJ E)))
  (S:=Sz (w.drew.alloc (.cells aJ E))) (m:=fun k'=>if k'=d then some w.heap.size else m k') (k:=d) (sz:=sz) (off:=0) (len:=es.length+xs.length) (cap:=cap)
  (aoz rfl) z7 ⟨aJ,E,(0,0),by show(w.heap.push _)[w.heap.size]?=_;simp,by simpa using bG⟩
 simpa using this
set_option maxHeartbeats 1000000 in
theorem Vg{d k sz len:Nat}{xv:AV}{es xs:List AV}{x y:ao8}{T E t:apa}{ti te:TI}
  (hx:Ev s x xv) (lB:∀g S m v,Rep g S m v xv->Rep g S m v (.ms k sz 0 len)) (hk:s.blk k=some (.row sz es)) (bK:len=es.length) (hy:Ev s y (.lst sz xs)) (hT:aI P T=some ti) (nC:ti.k=.slice E) (hE:aI P E=some te)
  (bG:te.size=sz) (da:(ajx te.zero.length te.size&&aks 0 te.size&&aks 0 te.bytes)=true) (hb:(len+xs.length)*te.bytes<=140737488355328) (o7:ajx d k=false)
  (hN:aks d N=true) :
  Step P N R s ⟨some d,.call ⟨.builtin .append,#[x,y],#[T,T]⟩,t,pos,after,none⟩
   ⟨some (.ms d sz 0 (len+xs.length)),[(d,some (.row sz (es++xs))),(k,none)],aA x++aA y,[k]⟩:=by
 refine Ei rfl ?_;intro s' aK ee C m a w next hC hr hnext;subst bG;subst bK
 simp only[anq,aj6]at da;obtain⟨⟨da,jb⟩,kF⟩:=da;have da:=anw da;have o7:=ake o7;rw[aj6]at hN;have eV:lk s'.hp k=some (.row te.size es):=(aK.2 k (by simp)).trans hk
 have hfr:s'.Fresh d:=by
  rcases ee d (by simp)with h |h
  ·exact ao5 (by simpa using h) o7
  ·exact h
 have hd:d<C.nt:=by omega
 have iS:=lB _ _ _ _ ((hx.agree aK (fun _ h=>anz.2 (.inl h))).rep hr);have qu:=(hy.agree aK (fun _ h=>anz.2 (.inr h))).rep hr;obtain⟨i,dd,z,hi,hu,hz,rfl⟩:=yI hE;obtain⟨d2,h3,h4,-,sZ⟩:=fK hT w;obtain rfl:=lN (h4.trans nC);simp only at da jb kF hb eV iS qu hnext ⊢
 have bJ:es.length+xs.length<=140737488355328:=by
  have:=ant (es.length+xs.length) (show 1<=i.bytes by omega);omega
 obtain⟨ll,kI⟩:∃ll,ll=es.length:=⟨_,rfl⟩
 rw[<- kI]at iS;rcases KU qu jb with⟨rfl,a1,cap1,mn⟩ |⟨b1,off1,cap1,cs,mn,gI,ef,ail,s6,gK,iG,br⟩
 ·-- nothing
  generalize gY:a.eval x=u at iS;cases iS with
  |ms0 a0 =>
   have lD:es=[]:=alb oz;have gH:=QC (t:=t) (w:=w) (base:=a0) (a:=a1) (len:=0) (cap:=0) (cap':=cap1) hT nC hE (anp _);have j5:=wN (d:=some d) (x:=x) (y:=y) (pos:=pos) (after:=after) (ρ:=a.eval) (by rw[gY,mn];exact gH);rw[j5];simp only[append_nil,aoa,akn]at hnext ⊢;exact Bu (hr.rk eV hfr) hd (by rw[show es.length=0 by omega];exact .ms0 _ _ _ _) hnext
  | @ms _ _ _ _ _ cap b hm hc hS =>
   have gH:=QC (t:=t) (w:=w) (base:=some ⟨b,0*i.size,none⟩) (a:=a1) (len:=ll) (cap:=cap) (cap':=cap1) hT nC hE hc;have j5:=wN (d:=some d) (x:=x) (y:=y) (pos:=pos) (after:=after) (ρ:=a.eval) (by rw[gY,mn];exact gH);rw[j5];simp only[append_nil,aoa,akn]at hnext ⊢;subst kI;exact Bu (hr.rk eV hfr) hd (.ms (by rw[aoz rfl];exact hm) hc hS) hnext
 ·-- something
  obtain⟨aim,ain,t1,f1,qv⟩:=ef;have fA:(cs.extract off1 (off1+xs.length*i.size)).toList.length=xs.length*i.size:=by simp;omega
  have sY:∀(j:Nat) v,(cs.extract off1 (off1+xs.length*i.size)).toList[j]?=some v->w.cell? ((⟨b1,off1,none⟩:Addr).add j)=some v:=by
   intro j v hj;rw[mG,vZ qv];rw[ana,am5]at hj;split at hj
   ·exact hj
   ·cases hj
  have ot:∀u∈(cs.extract off1 (off1+xs.length*i.size)).toList,u.oneCell'=true:=by
   intro u hu;obtain⟨p,hp,rfl⟩:=alx.1 hu;rw[fA]at hp;have hi':p/i.size<xs.length:=by rw[ajz jb];exact hp
   have he:=ano hi';have mi:=gK _ _ he;have nB:p%i.size<i.size:=akz _ jb;have o6:=ano (show p%i.size<(xs[p/i.size]).cells.length by omega);have wX:p/i.size*i.size+p%i.size=p:=by rw[ajt];exact akq _ _
   have qz:cs[off1+p/i.size*i.size+p%i.size]?=some ((cs.extract off1 (off1+xs.length*i.size)).toList[p]'oz):=by
    rw[ajs,wX];simp only[Array.getElem_toList,Array.getElem_extract];exact amz oz
   exact(br _ _ _ _ _ he o6 qz).one (iG _ _ _ _ he o6)
  have QO:∀(aJ:Array ao9)(base:Nat),(∀p,p<xs.length*i.size->aJ[base+p]?=(cs.extract off1 (off1+xs.length*i.size)).toList[p]?) ->
    ∀p,p<xs.length*i.size->aJ[base+p]?=cs[off1+p]?:=by
   intro aJ base h p hp;rw[h p hp,ana,am5,aoz oz]
  generalize gY:a.eval x=u at iS
  have QP:∀(c:Array ao9)(olds:List ao9)(sCap:Nat),olds.length=es.length*i.size->(∀p,p<es.length*i.size->olds[p]?=c[p]?) ->
    (∀(i':Nat)(e:AV),es[i']?=some e->e.cells.length=i.size)->(∀(i' j:Nat)(e x:AV),es[i']?=some e->e.cells[j]?=some x->x.one=true) ->
    (∀(i' j:Nat)(e:AV)(u:ao9)(x:AV),es[i']?=some e->e.cells[j]?=some x->c[i'*i.size+j]?=some u->Rep (Im C.ext s'.hp m w) (Sz w) eQ u x) ->
    next (a.put (some d) (.slice (some ⟨w.heap.size,0,none⟩) (es.length+xs.length) (grownCap w (es.length+xs.length) sCap E)))
     (w.drew.alloc (.cells (olds.toArray++(cs.extract off1 (off1+xs.length*i.size)).toList.toArray++Builtin.zeroCells z.cells (grownCap w (es.length+xs.length) sCap E-(es.length+xs.length))) E)):=by
   intro c olds sCap ou hoc iw w7 nD;have HJ:z.cells.size=i.size:=by rw[<- am8];exact da
   have aio:es.length+xs.length<=grownCap w (es.length+xs.length) sCap E:=by simp only[grownCap,Question.cut];omega
   refine Y6 (es:=es) (xs:=xs) hr hfr hd ?_ aio ?_ hnext
   ·intro g S m' w' hg hS hw'
    refine N9 (c:=c) (cs:=cs) (off:=off1) hw' ?_ (by unfold bb; omega) iw w7 (fun i' j e u x he hx hu=>(nD i' j e u x he hx hu).mono hg hS (fun _ _ _ h=>h)) gK iG
     (fun i' j e x u he hx hu=>(br i' j e x u he hx hu).mono hg hS (fun _ _ _ h=>h)) ?_ ?_
    ·simp only[am3,alu,ou,fA,akk];omega
    ·intro p hp;rw[anc (by simp[ou];omega),anc (by simp[ou];omega)];simpa using hoc p hp
    ·refine QO _ _ (fun p hp=>?_);rw[anc (by simp only[am3,alu,ou,fA];omega),am9 (by simp only[alu,ou];omega)];simp only[alu,ou,alk];congr 1;omega
   ·simp only[am3,alu,ou,fA,size_zeroCells,HJ];rw[<- akk,<- akk];exact aod _ oz
  have QQ:∀sCap,sCap<es.length+xs.length->Builtin.nextslicecap (es.length+xs.length) sCap*i.bytes<=281474976710656:=fun sCap h=>growslice_fits h hb
  cases iS with
  |ms0 a0 =>
   have lD:es=[]:=alb oz;subst lD;have hg:=QP #[] [] 0 (by simp) (by simp) (by simp) (by simp) (by simp);simp only[aoa,akv]at hg;cases a0 with
   |none =>
    have gH:=run_append_nil w T t E i z sZ hi hz ⟨b1,off1,none⟩ xs.length cap1 _ fA sY gI oz (by simp only[aoa,akv]at hb;omega);have j5:=wN (P:=P) (d:=some d) (x:=x) (y:=y) (pos:=pos) (after:=after) (ρ:=a.eval) (by rw[gY,mn];exact gH);rw[j5];show next _ _;simpa using hg
   |some a0 =>
    have gH:=run_append_grow w T t E i z sZ hi hz a0 0 0 [] (by simp) (by simp) ⟨b1,off1,none⟩ xs.length cap1 _ fA sY oz oz
     (by have:=QQ 0 (by simp;omega);simpa using this)
    have j5:=wN (P:=P) (d:=some d) (x:=x) (y:=y) (pos:=pos) (after:=after) (ρ:=a.eval) (by rw[gY,mn];exact gH);rw[j5];show next _ _;simpa using hg
  | @ms _ _ _ _ _ cap b hm hc hS =>
   subst kI;obtain⟨c,t2,hw,hn,hl,iw,w7,nD⟩:=yG hr.heap eV hm;have z7:=YE hr hw hS;simp only[akv,Nat.zero_mul]at z7 gY
   by_cases z6:es.length+xs.length<=cap
   ·have HK:(es.length+xs.length)*i.size<=c.size:=an4 (aod _ z6) z7;rw[akk] at HK;have gH:=abc (P:=P) (t:=t) hT nC hE hw _ fA sY ot z6 HK (cap':=cap1) (len:=es.length);have j5:=wN (P:=P) (d:=some d) (x:=x) (y:=y) (pos:=pos) (after:=after) (ρ:=a.eval) (by rw[gY,mn]; exact gH);rw[j5]
    have co:(over c.toList (es.length*i.size) (cs.extract off1 (off1+xs.length*i.size)).toList).toArray.size=c.size:=by
     simp only[alu];rw[zw _ _ _ (by rw[fA];simp;omega)];simp
    have gG:=hr.write (x':=.row i.size (es++xs)) eV hm hw co rfl (by
     intro g S hg hS hw'
     refine N9 (c:=c) (cs:=cs) (off:=off1) hw' (by rw[co,akk]; omega) (by unfold bb; omega) iw w7 (fun i' j e u x he hx hu=>(nD i' j e u x he hx hu).mono hg hS (fun _ _ _ h=>h)) gK iG
      (fun i' j e x u he hx hu=>(br i' j e x u he hx hu).mono hg hS (fun _ _ _ h=>h)) ?_ ?_
     ·intro p hp;rw[alk,m7 _ _ _ (by rw[fA];simp;omega),aoz hp,ana]
     ·refine QO _ _ (fun p hp=>?_);rw[alk,m7 _ _ _ (by rw[fA];simp;omega),aoy oz,aoz (by rw[fA];omega)];congr 1;omega)
    have s7:=gG.rk (k:=k) (d:=d) (y:=.row i.size (es++xs)) (by simp[a5]) (Fresh.row hfr o7 (fun h=>h))
    have qB:RelM C ⟨s'.sl,(d,some (.row i.size (es++xs)))::(k,none)::s'.hp⟩ (fun k'=>if k'=d then m k else m k') a
      { w with heap:=w.heap.setIfInBounds b (.cells (over c.toList (es.length*i.size) (cs.extract off1 (off1+xs.length*i.size)).toList).toArray t2 (0,0)) }:=by
     refine RelM.congr ?_ ?_ s7
     ·intro t;rfl
     intro k';simp only[AS.blk,a5];split
     ·rfl
     ·split <;> rfl
    refine Bu qB hd ?_ hnext
    have:=Rep.ms (g:=Im C.ext ((d,some (.row i.size (es++xs)))::(k,none)::s'.hp) (fun k'=>if k'=d then m k else m k')
      { w with heap:=w.heap.setIfInBounds b (.cells (over c.toList (es.length*i.size) (cs.extract off1 (off1+xs.length*i.size)).toList).toArray t2 (0,0)) })
     (S:=Sz { w with heap:=w.heap.setIfInBounds b (.cells (over c.toList (es.length*i.size) (cs.extract off1 (off1+xs.length*i.size)).toList).toArray t2 (0,0)) })
     (m:=fun k'=>if k'=d then m k else m k') (k:=d) (sz:=i.size) (off:=0) (len:=es.length+xs.length) (cap:=cap) (b:=b)
     (by rw[aoz rfl]; exact hm) z6 ⟨_,t2,(0,0),by
      show(w.heap.setIfInBounds b _)[b]?=_;rw[anf,aoz rfl,aoz (By hw)],by rw[co,akv];exact z7⟩
    simpa using this
   ·have QR:(c.extract 0 (es.length*i.size)).toList.length=es.length*i.size:=by simp; omega
    have hg:=QP c (c.extract 0 (es.length*i.size)).toList cap QR (by
     intro p hp;rw[ana,am5,aoz oz,akv]) iw w7 nD
    have gH:=run_append_grow w T t E i z sZ hi hz ⟨b,0,none⟩ es.length cap (c.extract 0 (es.length*i.size)).toList QR (by
     intro j v hj;rw[mG,vZ hw];rw[ana,am5]at hj;split at hj
     ·simpa using hj
     ·cases hj) ⟨b1,off1,none⟩ xs.length cap1 _ fA sY oz oz (QQ cap oz)
    have j5:=wN (P:=P) (d:=some d) (x:=x) (y:=y) (pos:=pos) (after:=after) (ρ:=a.eval) (by rw[gY,mn];exact gH);rw[j5];exact hg
theorem cZ{d k sz len:Nat}{es xs:List AV}{x y:ao8}{T E t:apa}{ti te:TI}
  (hx:Ev s x (.ms k sz 0 len)) (hk:s.blk k=some (.row sz es)) (bK:len=es.length) (hy:Ev s y (.lst sz xs)) (hT:aI P T=some ti) (nC:ti.k=.slice E) (hE:aI P E=some te)
  (bG:te.size=sz) (da:(ajx te.zero.length te.size&&aks 0 te.size&&aks 0 te.bytes)=true) (hb:(len+xs.length)*te.bytes<=140737488355328) (o7:ajx d k=false)
  (hN:aks d N=true) :
  Step P N R s ⟨some d,.call ⟨.builtin .append,#[x,y],#[T,T]⟩,t,pos,after,none⟩
   ⟨some (.ms d sz 0 (len+xs.length)),[(d,some (.row sz (es++xs))),(k,none)],aA x++aA y,[k]⟩ :=
 Vg hx (fun _ _ _ _ h=>h) hk bK hy hT nC hE bG da hb o7 hN
def zQ(P:apb)(f:FuncId):Prop:=∀args w,(callFunc f args).run P w=.ok (.enter f args) w
theorem Yq {f : FuncId} {fn : Func} {c : Code} (hf : P.funcs[f]? = some fn) (hb : fn.body = some c) (hn : (fn.name == "runtime.NumGoroutine") = false) : zQ P f := by
 intro args w;have hn' : ¬ fn.name = "runtime.NumGoroutine" := by simpa using hn
 simp[callFunc,hf,hb,hn']
structure Con(P:apb)(f:FuncId)(args:List AV)(H:Hp)(r:AV)(H':Hp):Prop where
  ok:zQ P f
  ret:Zr P f args H r H'
abbrev lR(P:apb)(f:FuncId)(args:List AV)(r:AV):Prop:=Con P f args [] r []
theorem UN{ρ:ao8->ao9}{o:Oper}{f:FuncId}{args:Array ao8}{ts:Array apa}{w:apc}{vs:Array ao9}(ho:o.op=.call ⟨.value (.func f),args,ts⟩)
  (hρ:ρ (.func f)=.func (.func f) #[] #[]) (ci:zQ P f) (dG:args.map ρ=vs):(execOp ρ o).run P w=.ok (.enter f vs) w:=by
 subst dG;have:=ci (args.map ρ) w;obtain⟨dst,op,type,pos,after,guard⟩:=o;subst ho;simp[execOp,resolve,hρ,Deferred.ofValue,invoke,this]
theorem W5{ρ:ao8->ao9}{o:Oper}{g:ao8}{f:FuncId}{caps:Array ao9}{args:Array ao8}{ts:Array apa}{w:apc}{vs:Array ao9}(ho:o.op=.call ⟨.value g,args,ts⟩)
  (hρ:ρ g=.func (.func f) #[] caps) (ci:zQ P f) (dG:args.map ρ++caps=vs):(execOp ρ o).run P w=.ok (.enter f vs) w:=by
 subst dG;have:=ci (args.map ρ++caps) w;obtain⟨dst,op,type,pos,after,guard⟩:=o;subst ho;simp[execOp,resolve,hρ,Deferred.ofValue,invoke,this]
def kj(H:Hp)(k:Nat):Bool:=match lk H k with |some _=>true |none=>false
theorem kg{H:Hp}{k:Nat}:kj H k=true↔∃z,lk H k=some z:=by
 unfold kj;cases lk H k <;> simp
def xN(r:AV)(H':Hp):Bool :=
  (r.nm.all fun k=>kj H' k)&&H'.all fun p=>match p.2 with |some x=>x.nm.all fun k=>kj H' k |none=>true
def eA(H:Hp):Hp:=H.map fun p=>(p.1,none)
theorem UF(H:Hp)(k:Nat):lk (eA H) k=none:=by
 induction H with
 |nil=>rfl
 |cons p H ih =>
  obtain⟨k',x⟩:=p;simp only[eA,aow,a5];split
  ·rfl
  ·exact ih
theorem sj{H:Hp}{k:Nat}{z:Blk}(h:lk H k=some z):k∈H.map (·.1):=al0.2 ⟨_,rA h,rfl⟩
theorem RelM.called{C:Ctx}{m:Nat->Option Nat}{a:Act}{w:apc}(hr:RelM C s m a w){run:Array ao9->apc->(Ending->apc->Prop)->Prop}(aip:∀vs w R R',run vs w R->(∀e w',R e w'->R' e w')->run vs w R'){xs:List AV}{H H':Hp}{r:AV}(eW:FZ run xs H r H'){vs:Array ao9}
  (dG:vs.size=xs.length) (dm:∀(j:Nat) v x,vs[j]?=some v->xs[j]?=some x->Rep (Im C.ext s.hp m w) (Sz w) m v x)
  (hH:∀k z,lk H k=some z->lk s.hp k=some z) (ee:∀k z,lk H' k=some z->(∃y,lk H k=some y)\/s.Fresh k)
  (hHk:∀k∈H.map (·.1),kj H k=true) (hnm:xN r H'=true) :
  run vs w fun e w'=>∃v m'',e=.returned v/\RelM C ⟨s.sl,H'++eA H++s.hp⟩ m'' a w'/\Rep (Im C.ext (H'++eA H++s.hp) m'' w') (Sz w') m'' v r /\
   ∀k y z,lk H k=some y->lk H' k=some z->m'' k=m k:=by
 simp only[xN,anq,anx]at hnm;obtain⟨aiq,air⟩:=hnm
 let ext':Nat->Prop:=fun b=>C.ext b\/∃k z,lk s.hp k=some z/\lk H k=none/\m k=some b
 have eJ:∀b,bj H m b->bj s.hp m b:=fun b ⟨k,z,h1,h2⟩=>⟨k,z,hH k z h1,h2⟩
 have ef:∀b cs,Im C.ext s.hp m w b cs->Im ext' H m w b cs:=by
  rintro b cs ⟨h1,h2,h3⟩;refine⟨?_,fun h=>h2 (eJ b h),h3⟩;rintro(h |⟨k,z,hk,_,hb⟩)
  ·exact h1 h
  ·exact h2 ⟨k,z,hk,hb⟩
 have cI:HeapRel ext' H m w:=by
  refine⟨?_,?_,?_⟩
  ·intro k z hk;exact BlkRep.mono (w:=w) ef (fun _ _ h=>h) (fun _ _ _ h=>h) rfl (fun _ _=>rfl) (hr.heap.blk k z (hH k z hk))
  ·intro k k' z z' b h1 h2;exact hr.heap.inj k k' z z' b (hH _ _ h1) (hH _ _ h2)
  ·intro k z b hk hb;have:=hr.heap.sep k z b (hH k z hk) hb;refine⟨?_,this.2⟩;rintro(h |⟨k2,z2,dF,s8,bJ⟩)
   ·exact this.1 h
   ·have:=hr.heap.inj k k2 z z2 b (hH k z hk) dF hb bJ;subst this;rw[hk]at s8;cases s8
 have HL:∀b,ext' b->b<w.heap.size:=by
  rintro b (h |⟨k,z,hk,_,hb⟩)
  ·exact hr.ext_lt h
  ·exact(hr.heap.sep k z b hk hb).2
 refine aip _ _ _ _ (eW ext' m w vs HL cI dG (fun j v x h1 h2=>(dm j v x h1 h2).mono ef (fun _ _ h=>h) (fun _ _ _ h=>h))) ?_;rintro e w' ⟨v,m',rfl,hf,hh',uE,uF,bA⟩
 have ajf:∀k,k∈(eA H).map (·.1)->kj H k=true:=by
  intro k hk;apply hHk;simpa[eA]using hk
 have cO:∀k z,lk (H'++eA H++s.hp) k=some z->lk H' k=some z\/(kj H' k=false/\lk H k=none/\lk s.hp k=some z):=by
  intro k z hz;rw[aor,sr]at hz;split at hz
  ·exact .inl hz
  ·rename_i h1
   have ha:kj H' k=false:=by
    cases h:kj H' k with
    |false=>rfl
    |true=>obtain⟨z',hz'⟩:=kg.1 h;exact ao5 (sj hz') h1
   rw[sr]at hz;split at hz
   ·rw[UF]at hz;cases hz
   ·rename_i h2;refine .inr ⟨ha,?_,hz⟩;cases h:lk H k with
    |none=>rfl
    |some y=>exact ao5 (by simpa[eA]using sj h) h2
 let m'':Nat->Option Nat:=fun k=>if kj H' k=true then m' k else m k
 have iU:∀k,kj H' k=true->m'' k=m' k:=fun k h=>aoz h
 have mo:∀k,kj H' k=false->m'' k=m k:=fun k h=>aoy (by simp[h])
 have QS:∀(k:Nat) b,¬s.Fresh k->m k=some b->m'' k=some b:=by
  intro k b hnf hb;cases h:kj H' k with
  |false=>rw[mo k h];exact hb
  |true =>
   rw[iU k h];obtain⟨z,hz⟩:=kg.1 h;rcases ee k z hz with⟨y,hy⟩ |hfr
   ·rw[uF k y z hy hz];exact hb
   ·exact ao5 hfr hnf
 have hf':Frame (bj s.hp m) w w':=⟨hf.os,hf.tape,hf.output,hf.size,hf.sz,fun b hb hn=>hf.keep b hb (fun h=>hn (eJ b h))⟩
 have bQ:∀k z b,lk (H'++eA H++s.hp) k=some z->m'' k=some b->bj s.hp m b\/w.heap.size<=b:=by
  intro k z b hz hb;rcases cO k z hz with h |⟨h1,h2,h3⟩
  ·rw[iU k (kg.2 ⟨z,h⟩)]at hb;rcases uE k z b h hb with h' |h'
   ·exact .inl (eJ b h')
   ·exact .inr h'
  ·rw[mo k h1]at hb;exact .inl ⟨k,z,h3,hb⟩
 have QT:∀b cs,Im ext' H' m' w' b cs->Im C.ext (H'++eA H++s.hp) m'' w' b cs:=by
  rintro b cs ⟨h1,h2,h3⟩;refine⟨fun h=>h1 (.inl h),?_,h3⟩;rintro⟨k,z,hz,hb⟩;rcases cO k z hz with h |⟨g1,g2,g3⟩
  ·rw[iU k (kg.2 ⟨z,h⟩)]at hb;exact h2 ⟨k,z,h,hb⟩
  ·rw[mo k g1]at hb;exact h1 (.inr ⟨k,z,g3,g2,hb⟩)
 refine⟨v,m'',rfl,hr.update hf' ?_ bQ ?_ ⟨?_,?_,?_⟩,bA.mono QT (fun _ _ h=>h) ?_,fun k y z hy hz=>by rw[iU k (kg.2 ⟨z,hz⟩)];exact uF k y z hy hz⟩
 ·intro t x k b hx hn hb;exact QS k b (fun hfr=>hfr.2.2.1 t x hx hn) hb
 ·intro k z rg hz;rcases cO k z hz with h |⟨h1,h2,h3⟩
  ·rcases ee k z h with⟨y,hy⟩ |hfr
   ·exact⟨⟨y,hH k y hy⟩,by rw[iU k (kg.2 ⟨z,h⟩)];exact uF k y z hy h⟩
   ·have:=hfr.2.1;omega
  ·exact⟨⟨z,h3⟩,mo k h1⟩
 ·intro k z hz;rcases cO k z hz with h |⟨h1,h2,h3⟩
  ·rw[iU k (kg.2 ⟨z,h⟩)];refine BlkRep.mono (w:=w') QT (fun _ _ h=>h) ?_ rfl (fun _ _=>rfl) (hh'.blk k z h);intro k2 b hn hb;have:=air _ (rA h);simp only[anx]at this;rw[iU k2 (this k2 hn.mem)];exact hb
  ·rw[mo k h1];refine BlkRep.mono (w:=w) (gQ hf' bQ) hf.sz ?_ rfl ?_ (hr.heap.blk k z h3)
   ·intro k2 b hn hb;exact QS k2 b (fun hfr=>hfr.2.2.2 k z h3 hn) hb
   ·intro b hb;refine hf.keep b (hr.heap.sep k z b h3 hb).2 ?_;rintro⟨k2,z2,dF,bJ⟩;have:=hr.heap.inj k k2 z z2 b h3 (hH k2 z2 dF) hb bJ;subst this;rw[h2]at dF;cases dF
 ·intro k1 k2 z1 z2 b h1 h2 cw bJ;rcases cO k1 z1 h1 with e |⟨e1,e2,e3⟩ <;> rcases cO k2 z2 h2 with g |⟨g1,g2,g3⟩
  ·rw[iU k1 (kg.2 ⟨z1,e⟩)]at cw;rw[iU k2 (kg.2 ⟨z2,g⟩)]at bJ
   exact hh'.inj k1 k2 z1 z2 b e g cw bJ
  ·rw[iU k1 (kg.2 ⟨z1,e⟩)]at cw;rw[mo k2 g1]at bJ
   exact ao5 (.inr ⟨k2,z2,g3,g2,bJ⟩) (hh'.sep k1 z1 b e cw).1
  ·rw[mo k1 e1]at cw;rw[iU k2 (kg.2 ⟨z2,g⟩)]at bJ
   exact ao5 (.inr ⟨k1,z1,e3,e2,cw⟩) (hh'.sep k2 z2 b g bJ).1
  ·rw[mo k1 e1]at cw;rw[mo k2 g1]at bJ
   exact hr.heap.inj k1 k2 z1 z2 b e3 g3 cw bJ
 ·intro k z b hz hb;rcases cO k z hz with h |⟨h1,h2,h3⟩
  ·rw[iU k (kg.2 ⟨z,h⟩)]at hb;have:=hh'.sep k z b h hb;exact⟨fun hc=>this.1 (.inl hc),this.2⟩
  ·rw[mo k h1]at hb;have:=hr.heap.sep k z b h3 hb;exact⟨this.1,an5 this.2 hf.size⟩
 ·intro k b hn hb;rw[iU k (aiq k hn.mem)];exact hb
def l0(s:AS)(H H':Hp)(r:AV):Bool:=(H.all fun p=>kj H p.1)&&xN r H'
theorem DW{o:Oper}{f:FuncId}{xs:List AV}{H H':Hp}{r:AV}{rt:List Nat}{x:Option AV}(hg:o.guard=none)(hd:∀d,o.dst=some d->aks d N=true/\x=some r)
  (eW:Con P f xs H r H') (hH:∀k z,lk H k=some z->s.blk k=some z) (ci:l0 s H H' r=true)
  (h:∀s',(∀t∈rt,s'.get t=s.get t)->∀C m a w,RelM C s' m a w->∃vs:Array ao9,(execOp a.eval o).run P w=.ok (.enter f vs) w/\vs.size=xs.length /\
   ∀(j:Nat) v x,vs[j]?=some v->xs[j]?=some x->Rep (Im C.ext s'.hp m w) (Sz w) m v x) :
  Step P N R s o ⟨x,H'++eA H,rt,H.map (·.1)⟩:=by
 refine Ei hg ?_;intro s' aK ee C m a w next hC hr hnext;simp only[l0,anq,anx]at ci;obtain⟨uG,z8⟩:=ci;obtain⟨vs,h1,h2,h3⟩:=h s' aK.1 C m a w hr;rw[h1]
 have hc:=hr.called (run:=Calls P f) (fun _ _ _ _ h h'=>Calls.mono h h') eW.ret h2 h3 (fun k z hz=>by rw[<- hH k z hz]; exact aK.2 k (sj hz)) (by
  intro k z hz;rcases ee k (by simp only[aoc,anz];exact .inl (sj hz))with h |h
  ·obtain⟨p,hp,rfl⟩:=al0.1 h;exact .inl (kg.1 (uG p hp))
  ·exact .inr h) (by
  intro k hk;obtain⟨p,hp,rfl⟩:=al0.1 hk;exact uG p hp) z8
 refine Calls.mono hc ?_;rintro e w' ⟨v,m'',rfl,hr',bA,_⟩;cases HM:o.dst with
 |none =>
  refine hnext m'' _ _ ?_;simpa[AS.app,HM,Act.put]using hr'
 |some d =>
  obtain⟨hN,rfl⟩:=hd d HM;rw[aj6]at hN;refine hnext m'' _ _ ?_;have:=hr'.put d v (some r) (fun z hz=>by cases hz;exact⟨by have:=hr'.nt;omega,bA⟩);simpa[AS.app,HM,Act.put]using this
theorem aR{d f:Nat}{args:Array ao8}{ts:Array apa}{xs:List AV}{H H':Hp}{r:AV}{t:apa}
  (eW:Con P f xs H r H') (ha:EvL s args.toList xs) (hH:∀k z,lk H k=some z->s.blk k=some z) (ci:l0 s H H' r=true) (hN:aks d N=true) :
  Step P N R s ⟨some d,.call ⟨.value (.func f),args,ts⟩,t,pos,after,none⟩ ⟨some r,H'++eA H,gB args.toList,H.map (·.1)⟩ :=
 DW rfl (fun d' h=>by cases h; exact ⟨hN,rfl⟩) eW hH ci fun s' aK C m a w hr=>by
  have ha':=ha.agree (u:=⟨none,[],gB args.toList,[]⟩) ⟨aK,fun k hk=>by cases hk⟩ (fun _ h=>h);refine⟨args.map a.eval,UN rfl rfl eW.ok rfl,?_,?_⟩
  ·have:=ha'.length;simpa using this
  ·intro j v x hv hx;exact ha'.rep hr j v x (by simpa using hv) hx
theorem XV{d f:Nat}{args:Array ao8}{ts:Array apa}{xs:List AV}{r:AV}{t:apa}
  (eW:lR P f xs r) (ha:EvL s args.toList xs) (hnm:r.nm=[]) (hN:aks d N=true) :
  Step P N R s ⟨some d,.call ⟨.value (.func f),args,ts⟩,t,pos,after,none⟩ ⟨some r,[],gB args.toList,[]⟩ :=
 aR eW ha (fun k z h=>by cases h) (by simp[l0,xN,hnm]) hN
theorem Sf{d f:Nat}{g:ao8}{args:Array ao8}{ts:Array apa}{xs caps:List AV}{H H':Hp}{r:AV}{t:apa}
  (hg:Ev s g (.fn f caps)) (eW:Con P f (xs++caps) H r H') (ha:EvL s args.toList xs) (hH:∀k z,lk H k=some z->s.blk k=some z) (ci:l0 s H H' r=true) (hN:aks d N=true) :
  Step P N R s ⟨some d,.call ⟨.value g,args,ts⟩,t,pos,after,none⟩ ⟨some r,H'++eA H,aA g++gB args.toList,H.map (·.1)⟩ :=
 DW rfl (fun d' h=>by cases h; exact ⟨hN,rfl⟩) eW hH ci fun s' aK C m a w hr=>by
  have ov:jx s s' ⟨none,[],aA g++gB args.toList,[]⟩:=⟨aK,fun k hk=>by cases hk⟩
  have ha':=ha.agree ov (fun _ h=>anz.2 (.inr h));have lE:=(hg.agree ov (fun _ h=>anz.2 (.inl h))).rep hr;generalize hv:a.eval g=u at lE;cases lE with
  | @fn _ _ cvs _ hn bA =>
   have hl:=ha'.length;refine⟨args.map a.eval++cvs,W5 rfl hv eW.ok rfl,by simp[hn];simpa using hl,?_⟩;intro j v x hv hx;rcases anu j xs.length with h |h
   ·rw[an8 h]at hx;rw[anc (by simp;simp at hl;omega)]at hv;exact ha'.rep hr j v x (by simpa using hv) hx
   ·rw[an7 h]at hx;rw[am9 (by simp;simp at hl;omega)]at hv;refine bA (j-xs.length) v x ?_ hx;rw[<- hv];congr 1;simp at hl ⊢;omega
inductive ResV(P:apb)(s:AS):ResultVar->AV->Prop
  |tmp {t:Nat} {x:AV} (h:s.get t=some x):ResV P s (.tmp t) x
  |cell {t k:Nat} {cs:List AV} {T:apa} {ti:TI} (h:s.get t=some (.ptr k 0)) (hk:s.blk k=some (.box cs)) (hT:aI P T=some ti)
      (cF:Nat.ble ti.size cs.length=true) (h1:(ti.ag||ajx ti.size 1)=true):ResV P s (.cell t T) (oR ti.ag (cs.take ti.size))
inductive ResL(P:apb)(s:AS):List ResultVar->List AV->Prop
  |nil:ResL P s [] []
  |cons {r:ResultVar} {x:AV} {rs:List ResultVar} {xs:List AV} (h:ResV P s r x) (hs:ResL P s rs xs):ResL P s (r::rs) (x::xs)
def fu:List AV->AV
  |[x]=>x
  |xs=>.tup xs
def Cq(tmps:Array ao9):ResultVar->Sem ao9
  | .tmp t=>pure (tmps.getD t undef)
  | .cell a t=>do loadVar t (<- asAddr (tmps.getD a undef))
theorem YX(fn:Func)(tmps:Array ao9) :
  results fn tmps=(fn.results.mapM (Cq tmps) >>= fun vs=>pure (if h:vs.size=1 then vs[0]else .tuple vs)):=by
 unfold results;congr 2
theorem ResV.run{x:AV}{r:ResultVar}(h:ResV P s r x){C:Ctx}{m:Nat->Option Nat}{a:Act}{w:apc}(hr:RelM C s m a w) :
  ∃v,(Cq a.tmps r).run P w=.ok v w/\Rep (Im C.ext s.hp m w) (Sz w) m v x:=by
 cases h with
 |tmp h=>exact⟨_,rfl,(hr.slots _ _ h).2⟩
 | @cell t k cs T ti h hk hT cF h1 =>
  rw[akp]at cF;have h1:ti.ag=true\/ti.size=1:=by simpa using h1
  obtain⟨b,hm,hv⟩:=xZ hr (Ev.tmp h);obtain⟨c,t2,hw,hn,ho,bA⟩:=Cl hr.heap hk hm;have hv':a.tmps.getD t undef=.pointer (some ⟨b,0,none⟩):=hv;refine⟨_,by simp only[Cq,hv',ape,asAddr,apf,apd];exact Bq hT hw (by omega:0+ti.size<=c.size) h1,?_⟩;refine BQ (c:=c) (off:=0) (n:=ti.size) (by simp;omega) oz h1 ?_ ?_
  ·intro j y hy;rw[aof]at hy;split at hy
   ·exact ho _ y hy
   ·cases hy
  ·intro j u y hy hu;rw[aof]at hy;split at hy
   ·exact bA _ u y (by simpa using hu) hy
   ·cases hy
theorem afw{g:Nat->Array ao9->Prop}{S:Nat->Nat->Prop}{m:Nat->Option Nat}:∀(vs:List ao9)(xs:List AV),vs.length=xs.length ->
  (∀(j:Nat) v x,vs[j]?=some v->xs[j]?=some x->Rep g S m v x) ->
  Rep g S m (if h:vs.toArray.size=1 then vs.toArray[0]else .tuple vs.toArray) (fu xs)
 |[],[],_,_=>by simp[fu];exact .tup rfl (by simp)
 |[v],[x],_,h=>by simp[fu];exact h 0 v x rfl rfl
 |v::v'::vs,x::x'::xs,h2,h=>by
  simp[fu];exact .tup (by simpa using h2) (fun j u c hu hc=>h j u c (by simpa using hu) hc)
theorem Ta{fn:Func}{rs:List ResultVar}{xs:List AV}(QU:fn.results=rs.toArray)(h:ResL P s rs xs){C:Ctx}{m:Nat->Option Nat}{a:Act}{w:apc}(hr:RelM C s m a w) :
  ∃v,(results fn a.tmps).run P w=.ok v w/\Rep (Im C.ext s.hp m w) (Sz w) m v (fu xs):=by
 have key:∃vs:List ao9,(rs.mapM (Cq a.tmps)).run P w=.ok vs w /\
   vs.length=xs.length/\∀(j:Nat) v x,vs[j]?=some v->xs[j]?=some x->Rep (Im C.ext s.hp m w) (Sz w) m v x:=by
  clear QU
  induction h with
  |nil=>exact⟨[],by simp,rfl,by simp⟩
  |cons h1 _ ih =>
   obtain⟨v,h2,h3⟩:=h1.run hr;obtain⟨vs,h4,h5,h6⟩:=ih;refine⟨v::vs,by simp only[List.mapM_cons,ape,h2,apd,h4,apf],by simp[h5],?_⟩;intro j v' x hv hx;cases j with
   |zero=>simp at hv hx;subst hv;subst hx;exact h3
   |succ j=>exact h6 j v' x (by simpa using hv) (by simpa using hx)
 obtain⟨vs,h1,h2,h3⟩:=key;refine⟨_,?_,afw vs xs h2 h3⟩;rw[YX,QU,am7];simp only[ape,Sem.run_map,h1,apd,apf]
def aD(s:AS)(x:AV)(r:AV)(H':Hp):Prop :=
  ∀ext m w v,HeapRel ext s.hp m w->(∀b,ext b->b<w.heap.size)->Rep (Im ext s.hp m w) (Sz w) m v x ->
    ∃m',HeapRel ext H' m' w/\(∀k z b,lk H' k=some z->m' k=some b->bj s.hp m b)/\(∀k z,1000<=k->lk H' k=some z->(∃y,lk s.hp k=some y)/\m' k=m k) /\
      Rep (Im ext H' m' w) (Sz w) m' v r
def qU(P:apb)(rs:List ResultVar)(r:AV)(H':Hp):Exit->AS->Prop
  | .normal,s | .ret,s=>∃xs,ResL P s rs xs/\aD s (fu xs) r H'
  |_,_=>False
def qL:Nat->List AV->c9
  |_,[]=>[]
  |n,x::xs=>(n,some x)::qL (n+1) xs
theorem PD:∀(xs:List AV)(n t:Nat)(x:AV),lk (qL n xs) t=some x->n<=t/\xs[t-n]?=some x
 |[],n,t,x,h=>by simp[qL,lk]at h
 |y::ys,n,t,x,h=>by
  simp only[qL,a5]at h;split at h
  ·cases h;subst_vars;simp
  ·obtain⟨h1,h2⟩:=PD ys (n+1) t x h;refine⟨by omega,?_⟩;rw[show t-n=(t-(n+1))+1 by omega,List.getElem?_cons_succ];exact h2
theorem RelM.unmark{C:Ctx}{m:Nat->Option Nat}{a:Act}{w:apc}(h:RelM C s m a w){D:Nat}{l:List Deferred}(h1:C.w0.heap.size<=D)(h2:w.heap[D]?=some (.deferred (some [])))
  (hl:v8 C.w0.heap.size l (w.putObj D (.deferred none))):RelM C s m { a with defers:=l } (w.putObj D (.deferred none)):=by
 have hlt:=h.heap.lt h2;have HN:∀b,b≠D->(w.putObj D (.deferred none)).heap[b]?=w.heap[b]?:=fun b hb=>World.putObj_heap_other hb
 have hc:∀(b:Nat)(cs:Array ao9)(t:apa)(f:Nat×Nat),w.heap[b]?=some (Obj.cells cs t f)->(w.putObj D (.deferred none)).heap[b]?=some (Obj.cells cs t f):=fun b cs t f hb=>by
  rw[HN b (fun e=>by rw[e,h2]at hb;cases hb)];exact hb
 have ef:∀b cs,Im C.ext s.hp m w b cs->Im C.ext s.hp m (w.putObj D (.deferred none)) b cs:=fun b cs ⟨e1,e2,t,f,e3⟩=>⟨e1,e2,t,f,hc _ _ _ _ e3⟩
 have bG:∀b n,Sz w b n->Sz (w.putObj D (.deferred none)) b n:=fun b n ⟨c,t,f,e1,e2⟩=>⟨c,t,f,hc _ _ _ _ e1,e2⟩
 refine⟨fun t x hx=>⟨(h.slots t x hx).1,(h.slots t x hx).2.mono ef bG (fun _ _ _ h=>h)⟩,⟨?_,h.heap.inj,fun k x b hk hb=>⟨(h.heap.sep k x b hk hb).1,by simpa[World.putObj]using(h.heap.sep k x b hk hb).2⟩⟩,?_,h.new,h.keep,hl,h.nt⟩
 ·intro k x hk;refine BlkRep.mono ef bG (fun _ _ _ h=>h) rfl (fun b hb=>HN b (fun e=>?_)) (h.heap.blk k x hk);subst e;exact h.heap.cells hk hb h2
 ·refine⟨h.frame.os,h.frame.tape,h.frame.output,by simpa[World.putObj]using h.frame.size,fun b n hs=>bG b n (h.frame.sz b n hs),fun b hb hn=>?_⟩;rw[HN b oz];exact h.frame.keep b hb hn
theorem I6{C:Ctx}{fn:Func}{n:Nat}{R:Ending->apc->Prop}(hR:∀m a w,a.defers=[]->RelM C s m a w->∃v,(results fn a.tmps).run P w=.ok v w/\R (.returned v) w) :
  ∀(Ds:List Nat)(m:Nat->Option Nat)(a:Act)(w:apc),a.defers=Ds.map wT->Ds.Nodup->(∀D∈Ds,C.w0.heap.size<=D/\w.heap[D]?=some (.deferred (some [])))->RelM C s m a w ->
   LeavesInM Fence.wide n P fn a.tmps R a.defers .returning w
 |[],m,a,w,ha,hn,hD,h=>by
  have hn:a.defers=[]:=ha;rw[hn];exact hR m a w hn h
 |D::Ds,m,a,w,ha,hn,hD,h=>by
  obtain⟨h1,h2⟩:=hD D (aok ..);rw[ha];refine⟨by simp,.inl ⟨D,_,rfl,run_takeDeferred h2,?_⟩⟩;obtain⟨dA,hn'⟩:=List.nodup_cons.1 hn
  have hD':∀D'∈Ds,C.w0.heap.size<=D'/\(w.putObj D (.deferred none)).heap[D']?=some (.deferred (some [])):=fun D' hm=>by
   obtain⟨g1,g2⟩:=hD D' (aom _ hm);have bV:D'≠D:=fun e=>dA (by rw[<- e];exact hm)
   exact⟨g1,by rw[World.putObj_heap_other bV];exact g2⟩
  exact I6 hR Ds m { a with defers:=Ds.map wT } _ rfl hn' hD' (h.unmark h1 h2 ⟨Ds,rfl,hn',hD'⟩)
theorem Jx{f:FuncId}{fn:Func}{c:Code}{rs:List ResultVar}{args:List AV}{H:Hp}{r:AV}{H':Hp}(hf:P.funcs[f]?=some fn)(hb:fn.body=some c)
    (hn : (fn.name == "runtime.NumGoroutine") = false) (o8 : fn.results = rs.toArray) (hN : fn.ntmps = N) (hH : ∀ k z, lk H k = some z -> 1000 <= k)
    (h:nP P N c (qU P rs r H') ⟨qL 0 args,H⟩):Con P f args H r H':=by
  refine⟨Yq hf hb hn,?_⟩;intro ext m w vs hext cI dG dm;refine(callsIn_wide (n:=0)).1 (callsIn_of_wp_marks hf hb trivial ?_ rfl)
  let C:Ctx:=⟨w,ext,bj H m,m,N,hext,none⟩
  have nD:RelM C ⟨qL 0 args,H⟩ m { tmps:=vs++ane (fn.ntmps-vs.size) undef,defers:=[] } w:=by
    refine⟨?_,cI,Frame.refl _ _,fun k x b h1 h2=>.inl ⟨k,x,h1,h2⟩,fun _ _ _ _=>rfl,v8.nil _ _,?_⟩
    · intro t x hx
      obtain⟨_,h2⟩:=PD args 0 t x hx;simp only[Nat.sub_zero]at h2
      have ht:t<args.length:=by
        rcases anu t args.length with h |h
        · exact h
        · rw[an2 h]at h2;cases h2
      have ht':t<vs.size:=by omega
      refine⟨by simp;omega,?_⟩
      have:(vs++ane (fn.ntmps-vs.size) undef).getD t undef=vs[t]:=by
        rw[anv,anc ht',amz ht'];rfl
      simp only[this];exact dm t vs[t] x (amz ht') h2
    · show N<=_
      simp;omega
  refine wpIn_mono (h C m _ w 0 rfl rfl nD) ?_;rintro e a' w' ⟨s',m',hq,hr⟩
  have w8:∀(xs:List AV),ResL P s' rs xs->aD s' (fu xs) r H'->LeavesInM Fence.wide 0 P fn a'.tmps (fun e w'=>∃v' m'',e=Ending.returned v'/\Frame (bj H m) w w'/\HeapRel ext H' m'' w' /\
        (∀k x b,lk H' k=some x->m'' k=some b->bj H m b\/w.heap.size<=b)/\(∀k x y,lk H k=some x->lk H' k=some y->m'' k=m k) /\
        Rep (Im ext H' m'' w') (Sz w') m'' v' r) a'.defers .returning w':=by
    intro xs hx mg;obtain⟨Ds,e1,e2,e3⟩:=hr.defers;refine I6 (C:=C) (s:=s') (fun m1 a1 w1 _ br=>?_) Ds m' a' w' e1 e2 e3 hr;obtain⟨v,h1,h2⟩:=Ta o8 hx br;obtain⟨m'',h3,h4,h5,h6⟩:=mg ext m1 w1 v br.heap (fun b hb=>br.ext_lt hb) h2;refine⟨v,h1,v,m'',rfl,br.frame,h3,?_,?_,h6⟩
    · intro k z b hk hb
      obtain⟨k2,z2,dF,bJ⟩:=h4 k z b hk hb;exact br.new k2 z2 b dF bJ
    · intro k z y hk hy
      obtain⟨⟨y',hy'⟩,h8⟩:=h5 k y (hH k z hk) hy;rw[h8];exact br.keep k y' (hH k z hk) hy'
  cases e with
  |normal =>
    obtain⟨xs,h1,h2⟩:=hq;exact w8 xs h1 h2
  |ret =>
    obtain⟨xs,h1,h2⟩:=hq;exact w8 xs h1 h2
  |_=>exact hq.elim
theorem Pg{f:FuncId}{fn:Func}{c:Code}{rs:List ResultVar}{args:List AV}{H:Hp}{r:AV}{H':Hp}(hf:P.funcs[f]?=some fn)(hb:fn.body=some c)
  (hn : (fn.name == "runtime.NumGoroutine") = false) (o8 : fn.results = rs.toArray) (hN : fn.ntmps = N) (hH : ∀ k z, lk H k = some z -> 1000 <= k)
  (h:cg P N c (qU P rs r H') ⟨qL 0 args,H⟩):Con P f args H r H':=Jx hf hb hn o8 hN hH h.out
end Go.Lw
