/- ModesImage: for any linkage and any turns the law returns true and leaves its arguments as they were. No other condition. Part 1 of 8: what the later parts need -/
import Derived.Calls
import Derived.Below
import Derived.Laws.Sem
import Derived.Laws.Cells
import Derived.Laws.Append
import Derived.Laws.Rows
import Derived.OrdersIn
import Derived.RangeFuncLeaves
import Derived.RangeFuncRecord
import Derived.Orders
import Derived.IntWalk
import Derived.Laws.AppendOwn
set_option linter.unusedVariables false
open List (all_cons nil_append append_nil)
open List renaming mem_of_getElem? → apo, mem_cons_of_mem → aqq, mem_append → ap2, map_cons → aq2, mem_cons → aqf, length_cons → ap4, foldl_cons → aq5, mem_cons_self → aqr, length_append → aqk, length_nil → ap9, getD_eq_getElem?_getD → apq, getElem?_append_left → aqc, getElem?_eq_none → ap6, all_eq_true → ap3, getElem?_take → aqh, getElem?_drop → aqv, getElem?_map → apv, append_assoc → aqt, getElem?_append_right → aqb, getElem?_eq_getElem → aps, drop_eq_nil_of_le → aqm, getElem?_replicate → aql, map_append → ap8, size_toArray → am6, any_eq_true → am7, mem_singleton → am8, replicate → ana, mem_filter → anq, eq_nil_of_length_eq_zero → anr, cons_append → ans, getElem?_toArray → ant, mem_map → anx, mem_range → an2, mem_iff_getElem → an4
open Nat renaming eq_of_beq_eq_true → apy, le_refl → apu, lt_of_lt_of_le → aqd, lt_or_ge → apz, le_trans → aqe, mul_le_mul_right → aqi, mul_le_mul_left → ap0, mod_lt → alw, mul_comm → alx, blt → aly, ne_of_beq_eq_false → al1, eq_zero_or_pos → al2, ble_eq → al3, add_assoc → al4, blt_eq → al5, mod_eq_of_lt → al8, div_lt_iff_lt_mul → al9, add_comm → ama, add_zero → amj, mul_pos → aml, beq → amq, zero_add → ams, add_mul → amt, div_add_mod → amy, succ_mul → am5
open Option renaming map_eq_some_iff → apt, getD_some → apl, map_some → apm
open Bool renaming and_eq_true → apw, or_eq_true → aqy, false_eq_true → aoz, not_eq_true' → ao0
open Array renaming getD_eq_getD_getElem? → ap1, getElem?_extract → ao5, size_append → ao6, getElem?_append_right → ao8, getElem?_push → ao9, getElem?_eq_getElem → apa, mapM_eq_mapM_toList → apb, length_toList → apc, getElem?_toList → apd, getElem?_replicate → ape, replicate → apf, getElem?_append_left → apg, toList_setIfInBounds → aph, getElem?_setIfInBounds → api, getElem?_eq_none → apj, all_eq_true_iff_forall_mem → apk
open Go renaming Operand → arg, Value → arh, TypeId → ari, Program → arj, World → ark
open Go.Result renaming andThen_ok → arl
open Go.Sem renaming run_bind → arm, run_pure → arn
namespace Go.Lw
abbrev pP{a:Type}(k:Nat)(v:a):Nat×Option a:=(k,some v)
theorem aq6{c:Prop}{h:Decidable c}(n:¬c){α:Sort _}{t e:α}:ite c t e=e:=if_neg n
theorem aq7{c:Prop}{h:Decidable c}(n:c){α:Sort _}{t e:α}:ite c t e=t:=if_pos n
theorem aq8{p:Prop}[Decidable p]:(decide p=true)=p:=decide_eq_true_eq
theorem aq9{p:Prop}[Decidable p](n:decide p=true):p:=of_decide_eq_true n
theorem ara{p:Prop}[Decidable p](n:decide p=false):¬p:=of_decide_eq_false n
theorem arb{p:Prop}[Decidable p](n:p):decide p=true:=decide_eq_true n
theorem arc{p:Prop}[Decidable p](n:¬p):decide p=false:=decide_eq_false n
theorem ard{a b:Prop}(h:a)(n:¬a):b:=absurd h n
theorem are{α β:Sort _}{x y:α}(f:α→β)(h:x=y):f x=f y:=congrArg f h
abbrev arf{α:Sort _}(i:α:=by infer_instance):α:=i
theorem oz{p:Prop}(h:p:=by omega):p:=h
abbrev LL:=List (List Rat)
inductive AV where
  |v (x:arh)
  |lst (sz:Nat) (es:List AV)
  |agg (cs:List AV)
  |tup (xs:List AV)
  |iptr (cs:List AV)
  |ms (k sz off len:Nat)
  |ptr (k off:Nat)
  |eptr (k sz i off:Nat)
  |fn (f:FuncId) (caps:List AV)
  |opt (b:Bool) (x:AV)
  |yl (k:Nat)
  |cl (f:FuncId) (pre caps:List AV)
  deriving Inhabited
abbrev nS:AV:=.v (.slice none 0 0)
def AV.cells:AV->List AV
  | .agg cs=>cs
  |x=>[x]
def AV.one:AV->Bool
  | .v x=>x.oneCell'
  | .agg _ | .tup _ | .opt _ _=>false
  |_=>true
abbrev bf:Nat:=281474976710656
abbrev eP:Nat->Option Nat:=fun _=>none
inductive Rep(g:Nat->Array arh->Prop)(S:Nat->Nat->Prop):(Nat->Option Nat)->arh->AV->Prop
  |v {m:Nat->Option Nat} (x:arh):Rep g S m x (.v x)
  |lst0 {m:Nat->Option Nat} (a:Option Addr) (cap sz:Nat):Rep g S m (.slice a 0 cap) (.lst sz [])
  |lst {m:Nat->Option Nat} {b off cap sz:Nat} {es:List AV} {cs:Array arh} (u:Nat->Nat->arh)
      (hb:g b cs) (hc:es.length<=cap) (hl:es.length<=bf) (hs:∀(i:Nat)(e:AV),es[i]?=some e->e.cells.length=sz)
      (h1:∀(i j:Nat)(e c:AV),es[i]?=some e->e.cells[j]?=some c->c.one=true)
      (hu:∀(i j:Nat)(e c:AV),es[i]?=some e->e.cells[j]?=some c->cs[off+i*sz+j]?=some (u i j))
      (hr:∀(i j:Nat)(e c:AV),es[i]?=some e->e.cells[j]?=some c->Rep g S eP (u i j) c) :
      Rep g S m (.slice (some ⟨b,off,none⟩) es.length cap) (.lst sz es)
  |agg {m:Nat->Option Nat} {vs:Array arh} {cs:List AV} (hn:vs.size=cs.length)
      (h1:∀(j:Nat)(c:AV),cs[j]?=some c->c.one=true)
      (hr:∀(j:Nat)(u:arh)(c:AV),vs[j]?=some u->cs[j]?=some c->Rep g S m u c):Rep g S m (.agg vs) (.agg cs)
  |tup {m:Nat->Option Nat} {vs:Array arh} {xs:List AV} (hn:vs.size=xs.length)
      (hr:∀(j:Nat)(u:arh)(c:AV),vs[j]?=some u->xs[j]?=some c->Rep g S m u c):Rep g S m (.tuple vs) (.tup xs)
  |iptr {m:Nat->Option Nat} {b off:Nat} {cs:Array arh} {xs:List AV} (u:Nat->arh)
      (hb:g b cs) (h1:∀(j:Nat)(c:AV),xs[j]?=some c->c.one=true)
      (hu:∀(j:Nat)(c:AV),xs[j]?=some c->cs[off+j]?=some (u j))
      (hr:∀(j:Nat)(c:AV),xs[j]?=some c->Rep g S eP (u j) c):Rep g S m (.pointer (some ⟨b,off,none⟩)) (.iptr xs)
  |ms0 {m:Nat->Option Nat} (a:Option Addr) (k sz off:Nat):Rep g S m (.slice a 0 0) (.ms k sz off 0)
  |ms {m:Nat->Option Nat} {k sz off len cap b:Nat} (hm:m k=some b) (hc:len<=cap) (hS:S b ((off+cap)*sz)) :
      Rep g S m (.slice (some ⟨b,off*sz,none⟩) len cap) (.ms k sz off len)
  |ptr {m:Nat->Option Nat} {k off b:Nat} (hm:m k=some b):Rep g S m (.pointer (some ⟨b,off,none⟩)) (.ptr k off)
  |eptr {m:Nat->Option Nat} {k sz i off b:Nat} (hm:m k=some b):Rep g S m (.pointer (some ⟨b,i*sz+off,none⟩)) (.eptr k sz i off)
  |fn {m:Nat->Option Nat} {f:FuncId} {vs:Array arh} {xs:List AV} (hn:vs.size=xs.length)
      (hr:∀(j:Nat)(u:arh)(c:AV),vs[j]?=some u->xs[j]?=some c->Rep g S m u c):Rep g S m (.func (.func f) #[] vs) (.fn f xs)
  |opt {m:Nat->Option Nat} {x:arh} {b:Bool} {y:AV} (h:b=true->Rep g S m x y) (h':b=false->x=undef):Rep g S m x (.opt b y)
  |yl {m:Nat->Option Nat} {k b:Nat} (hm:m k=some b):Rep g S m (.func (.yield b) #[] #[]) (.yl k)
  |cl {m:Nat->Option Nat} {f:FuncId} {vs us:Array arh} {xs ys:List AV} (hn:vs.size=xs.length)
      (hr:∀(j:Nat)(u:arh)(c:AV),vs[j]?=some u->xs[j]?=some c->Rep g S eP u c) (hn':us.size=ys.length)
      (hr':∀(j:Nat)(u:arh)(c:AV),us[j]?=some u->ys[j]?=some c->Rep g S eP u c):Rep g S m (.func (.func f) vs us) (.cl f xs ys)
inductive AV.Names:AV->Nat->Prop
  |ms (k sz off len:Nat):AV.Names (.ms k sz off len) k
  |ptr (k off:Nat):AV.Names (.ptr k off) k
  |eptr (k sz i off:Nat):AV.Names (.eptr k sz i off) k
  |agg {cs:List AV} {c:AV} {k:Nat} (h:c∈cs) (hc:AV.Names c k):AV.Names (.agg cs) k
  |tup {cs:List AV} {c:AV} {k:Nat} (h:c∈cs) (hc:AV.Names c k):AV.Names (.tup cs) k
  |fn {f:FuncId} {cs:List AV} {c:AV} {k:Nat} (h:c∈cs) (hc:AV.Names c k):AV.Names (.fn f cs) k
  |opt {b:Bool} {c:AV} {k:Nat} (hc:AV.Names c k):AV.Names (.opt b c) k
  |yl (k:Nat):AV.Names (.yl k) k
theorem Rep.mono{g g':Nat->Array arh->Prop}{S S':Nat->Nat->Prop}(hg:∀b cs,g b cs->g' b cs)
  (hS:∀b n,S b n->S' b n) {m:Nat->Option Nat} {v:arh} {x:AV} (h:Rep g S m v x) :
  ∀{m':Nat->Option Nat},(∀k b,x.Names k->m k=some b->m' k=some b)->Rep g' S' m' v x:=by
 induction h with
 |v x=>intro m' _;exact .v x
 |lst0 a cap sz=>intro m' _;exact .lst0 a cap sz
 |lst u hb hc hl hs h1 hu hr ih =>
  intro m' _;exact .lst u (hg _ _ hb) hc hl hs h1 hu (fun i j e c he hc=>ih i j e c he hc (fun k b _ h=>h))
 |agg hn h1 hr ih =>
  intro m' hm;exact .agg hn h1 (fun j u c hu hc=>ih j u c hu hc (fun k b hk=>hm k b (.agg (apo hc) hk)))
 |tup hn hr ih =>
  intro m' hm;exact .tup hn (fun j u c hu hc=>ih j u c hu hc (fun k b hk=>hm k b (.tup (apo hc) hk)))
 |iptr u hb h1 hu hr ih =>
  intro m' _;exact .iptr u (hg _ _ hb) h1 hu (fun j c hc=>ih j c hc (fun k b _ h=>h))
 |ms0 a k sz off=>intro m' _;exact .ms0 a k sz off
 |ms h hc hs=>intro m' hm;exact .ms (hm _ _ (.ms _ _ _ _) h) hc (hS _ _ hs)
 |ptr h=>intro m' hm;exact .ptr (hm _ _ (.ptr _ _) h)
 |eptr h=>intro m' hm;exact .eptr (hm _ _ (.eptr _ _ _ _) h)
 |fn hn hr ih =>
  intro m' hm;exact .fn hn (fun j u c hu hc=>ih j u c hu hc (fun k b hk=>hm k b (.fn (apo hc) hk)))
 |opt h h' ih=>intro m' hm;exact .opt (fun hb=>ih hb (fun k b hk=>hm k b (.opt hk))) h'
 |yl h=>intro m' hm;exact .yl (hm _ _ (.yl _) h)
 |cl hn hr hn' hr' ih ih' =>
  intro m' hm
  exact .cl hn (fun j u c hu hc=>ih j u c hu hc (fun k b _ h=>h))
   hn' (fun j u c hu hc=>ih' j u c hu hc (fun k b _ h=>h))
theorem Rep.one{g:Nat->Array arh->Prop}{S:Nat->Nat->Prop}{m:Nat->Option Nat}{v:arh}{x:AV}
  (h:Rep g S m v x) (h1:x.one=true):v.oneCell'=true:=by
 cases h <;> simp_all [AV.one,Value.oneCell']
theorem Rep.cells{g:Nat->Array arh->Prop}{S:Nat->Nat->Prop}{m:Nat->Option Nat}{v:arh}{x:AV}
  (h:Rep g S m v x) (hx:(∃cs,x=.agg cs)\/x.one=true) :
  v.cells.size=x.cells.length/\(∀(j:Nat)(c:AV),x.cells[j]?=some c->c.one=true) /\
   ∀(j:Nat)(u:arh)(c:AV),v.cells[j]?=some u->x.cells[j]?=some c->Rep g S m u c:=by
 rcases hx with⟨cs,rfl⟩ |hx
 ·cases h with
  |agg hn h1 hr=>exact⟨hn,h1,hr⟩
 ·have hv:=h.one hx;have e1:v.cells = #[v]:=by cases v <;> simp_all [Value.cells,Value.oneCell']
  have e2:x.cells=[x]:=by cases x <;> simp_all [AV.cells,AV.one]
  rw[e1,e2];refine⟨rfl,?_,?_⟩
  ·intro j c hc;rcases j with _ |j <;> simp at hc
   exact hc▸hx
  ·intro j u c hu hc;rcases j with _ |j <;> simp at hc hu
   exact hc▸hu▸h
def lk{α:Type}:List (Nat×Option α)->Nat->Option α
  |[],_=>none
  |(t',x)::l,t=>match amq t t' with
    |true=>x
    |false=>lk l t
theorem a5{α:Type}(t t':Nat)(x:Option α)(l:List (Nat×Option α)):lk ((t',x)::l) t=if t=t' then x else lk l t:=by
 show(match amq t t' with |true=>x |false=>lk l t)=_;split
 ·rename_i h;rw[aq7 (apy h)]
 ·rename_i h;rw[aq6 (al1 h)]
theorem so{α:Type}{l:List (Nat×Option α)}{t:Nat}{x:α}(h:lk l t=some x):(t,some x)∈l:=by
 induction l with
 |nil=>simp[lk]at h
 |cons y l ih =>
  obtain⟨t',y⟩:=y;rw[a5]at h;split at h
  ·subst_vars;simp
  ·exact aqq _ (ih h)
structure LpD where
  params:Array Tmp
  assign:Code
  body:Code
  nt:Nat
inductive Blk where
  |box (cs:List AV)
  |row (sz:Nat) (es:List AV)
  |loop (d:LpD) (st:LoopState) (pend:Option Code) (sl:List (Nat×Option AV))
  |vec (vs:List arh)
  deriving Inhabited
inductive BlkRep(g:Nat->Array arh->Prop)(S:Nat->Nat->Prop)(m:Nat->Option Nat)(w:ark):Option Nat->Blk->Prop
  |none (sz:Nat):BlkRep g S m w none (.row sz [])
  |box {b:Nat} {cs:List AV} {c:Array arh} {t:ari} (hw:w.heap[b]?=some (.cells c t (0,0))) (hn:c.size=cs.length)
      (h1:∀(j:Nat)(x:AV),cs[j]?=some x->x.one=true)
      (hr:∀(j:Nat)(u:arh)(x:AV),c[j]?=some u->cs[j]?=some x->Rep g S m u x):BlkRep g S m w (some b) (.box cs)
  |row {b sz:Nat} {es:List AV} {c:Array arh} {t:ari} (hw:w.heap[b]?=some (.cells c t (0,0))) (hn:es.length*sz<=c.size)
      (hl:es.length<=bf)
      (hs:∀(i:Nat)(e:AV),es[i]?=some e->e.cells.length=sz)
      (h1:∀(i j:Nat)(e x:AV),es[i]?=some e->e.cells[j]?=some x->x.one=true)
      (hr:∀(i j:Nat)(e:AV)(u:arh)(x:AV),es[i]?=some e->e.cells[j]?=some x->c[i*sz+j]?=some u->Rep g S eP u x) :
      BlkRep g S m w (some b) (.row sz es)
  |loop {b:Nat} {r:Loop} {d:LpD} {st:LoopState} {pend:Option Code} {sl:List (Nat×Option AV)} (hw:w.heap[b]?=some (.loop r)) (ep:r.state=st) (w9:r.pending=pend)
      (qu:r.params=d.params) (has:r.assign=d.assign) (nc:r.body=d.body) (hnt:d.nt<=r.tmps.size)
      (hr:∀(t:Nat)(x:AV),lk sl t=some x->t<r.tmps.size/\Rep g S m (r.tmps.getD t undef) x):BlkRep g S m w (some b) (.loop d st pend sl)
  |vec {b:Nat} {vs:List arh} {c:Array arh} {t:ari} (hw:w.heap[b]?=some (.cells c t (0,0))) (hc:c.toList=vs) (h1:∀v∈vs,v.oneCell'=true):BlkRep g S m w (some b) (.vec vs)
def Blk.Names(k:Nat):Blk->Prop
  | .box cs=>∃c∈cs,c.Names k
  | .row _ _=>False
  | .loop _ _ _ sl=>∃t x,(t,some x)∈sl/\x.Names k
  | .vec _=>False
theorem BlkRep.mono{g g':Nat->Array arh->Prop}{S S':Nat->Nat->Prop}{m m':Nat->Option Nat}{w w':ark}{o o':Option Nat}{x:Blk}
  (hg:∀b cs,g b cs->g' b cs) (hS:∀b n,S b n->S' b n) (hm:∀k b,x.Names k->m k=some b->m' k=some b)
  (ho:o'=o) (hw:∀b,o=some b->w'.heap[b]?=w.heap[b]?)
  (h:BlkRep g S m w o x):BlkRep g' S' m' w' o' x:=by
 subst ho;cases h with
 |none sz=>exact .none sz
 |box h hn h1 hr =>
  refine .box ((hw _ rfl).trans h) hn h1 (fun j u x hu hx=>(hr j u x hu hx).mono hg hS (fun k b hk=>hm k b ⟨x,apo hx,hk⟩))
 |row h hn hl hs h1 hr =>
  refine .row ((hw _ rfl).trans h) hn hl hs h1 (fun i j e u x he hx hu=>(hr i j e u x he hx hu).mono hg hS (fun k b _ h=>h))
 |loop h h1 h2 h3 h4 h5 hn hr =>
  refine .loop ((hw _ rfl).trans h) h1 h2 h3 h4 h5 hn (fun t x hx=>⟨(hr t x hx).1,(hr t x hx).2.mono hg hS (fun k b hk=>hm k b ⟨t,x,so hx,hk⟩)⟩)
 |vec h hc h1=>exact .vec ((hw _ rfl).trans h) hc h1
mutual
def AV.nm:AV->List Nat
  | .ms k _ _ _=>[k]
  | .ptr k _=>[k]
  | .eptr k _ _ _=>[k]
  | .agg cs=>AV.nms cs
  | .tup xs=>AV.nms xs
  | .fn _ xs=>AV.nms xs
  | .opt _ x=>x.nm
  | .yl k=>[k]
  |_=>[]
def AV.nms:List AV->List Nat
  |[]=>[]
  |x::l=>x.nm++AV.nms l
end
theorem AV.mem_nms{l:List AV}{c:AV}{k:Nat}(hc:c∈l)(hk:k∈c.nm):k∈AV.nms l:=by
 induction l with
 |nil=>cases hc
 |cons x l ih =>
  simp only[AV.nms,ap2];rcases aqf.1 hc with rfl |hc
  ·exact .inl hk
  ·exact .inr (ih hc)
theorem AV.Names.mem{x:AV}{k:Nat}(h:x.Names k):k∈x.nm:=by
 induction h with
 |ms=>simp[AV.nm]
 |ptr=>simp[AV.nm]
 |eptr=>simp[AV.nm]
 |agg h _ ih=>exact AV.mem_nms h ih
 |tup h _ ih=>exact AV.mem_nms h ih
 |fn h _ ih=>exact AV.mem_nms h ih
 |opt _ ih=>exact ih
 |yl=>simp[AV.nm]
def GD(sl:List (Nat×Option AV)):List Nat:=sl.flatMap fun p=>match p.2 with |some x=>x.nm |none=>[]
def Blk.nm:Blk->List Nat
  | .box cs=>AV.nms cs
  | .row _ _=>[]
  | .loop _ _ _ sl=>GD sl
  | .vec _=>[]
theorem Blk.Names.mem{x:Blk}{k:Nat}(h:x.Names k):k∈x.nm:=by
 cases x with
 |box cs=>obtain⟨c,hc,hk⟩:=h;exact AV.mem_nms hc hk.mem
 |row sz es=>exact h.elim
 |vec vs=>exact h.elim
 |loop d st pe sl =>
  obtain⟨t,c,hc,hk⟩:=h;exact List.mem_flatMap.2 ⟨_,hc,hk.mem⟩
end Go.Lw
namespace Go.Lw
abbrev di:=List (Nat×Option AV)
abbrev Hp:=List (Nat×Option Blk)
theorem sf{α:Type}(u l:List (Nat×Option α))(t:Nat):lk (u++l) t=if t∈u.map (·.1)then lk u t else lk l t:=by
 induction u with
 |nil=>simp
 |cons x u ih =>
  obtain⟨t',x⟩:=x;simp only[ans,a5,ih,aq2,aqf]
  by_cases h:t=t'
  ·simp[h]
  ·rw[aq6 h]
   by_cases h2:t∈u.map (·.1)
   ·rw[aq7 h2,aq7 (.inr h2),aq6 h]
   ·rw[aq6 h2,aq6 (by simp only[h,h2,or_self,not_false_eq_true])]
structure AS where
  sl:di
  hp:Hp
def AS.get(s:AS)(t:Nat):Option AV:=lk s.sl t
def AS.blk(s:AS)(k:Nat):Option Blk:=lk s.hp k
def bh(hp:Hp)(m:Nat->Option Nat)(b:Nat):Prop:=∃k x,lk hp k=some x/\m k=some b
def Im(ext:Nat->Prop)(hp:Hp)(m:Nat->Option Nat)(w:ark)(b:Nat)(cs:Array arh):Prop :=
  ¬ext b/\¬bh hp m b/\∃t f,w.heap[b]?=some (.cells cs t f)
def Sz(w:ark)(b n:Nat):Prop:=∃c t f,w.heap[b]?=some (.cells c t f)/\n<=c.size
structure HeapRel(ext:Nat->Prop)(hp:Hp)(m:Nat->Option Nat)(w:ark):Prop where
  blk:∀k x,lk hp k=some x->BlkRep (Im ext hp m w) (Sz w) m w (m k) x
  inj:∀k k' x x' b,lk hp k=some x->lk hp k'=some x'->m k=some b->m k'=some b->k=k'
  sep:∀k x b,lk hp k=some x->m k=some b->¬ext b/\b<w.heap.size
structure Frame(own:Nat->Prop)(w w':ark):Prop where
  os:w'.os=w.os
  tape:w'.tape=w.tape
  output:w'.output=w.output
  size:w.heap.size<=w'.heap.size
  sz:∀b n,Sz w b n->Sz w' b n
  keep:∀b,b<w.heap.size->¬own b->w'.heap[b]?=w.heap[b]?
theorem Frame.refl(own:Nat->Prop)(w:ark):Frame own w w:=⟨rfl,rfl,rfl,apu _,fun _ _ h=>h,fun _ _ _=>rfl⟩
def Eg(run:Array arh->ark->(Ending->ark->Prop)->Prop)(args:List AV)(H:Hp)(r:AV)(H':Hp):Prop :=
  ∀(ext:Nat->Prop)(m:Nat->Option Nat)(w:ark)(vs:Array arh),(∀b,ext b->b<w.heap.size)->HeapRel ext H m w ->
    vs.size=args.length->(∀(j:Nat) v x,vs[j]?=some v->args[j]?=some x->Rep (Im ext H m w) (Sz w) m v x) ->
    run vs w fun e w'=>∃v m',e=.returned v/\Frame (bh H m) w w'/\HeapRel ext H' m' w' /\
      (∀k x b,lk H' k=some x->m' k=some b->bh H m b\/w.heap.size<=b) /\
      (∀k x y,lk H k=some x->lk H' k=some y->m' k=m k) /\
      Rep (Im ext H' m' w') (Sz w') m' v r
def aai(P:arj)(f:FuncId)(args:List AV)(H:Hp)(r:AV)(H':Hp):Prop:=Eg (Calls P f) args H r H'
structure Ctx where
  w0:ark
  ext:Nat->Prop
  own0:Nat->Prop
  m0:Nat->Option Nat
  nt:Nat
  hext:∀b,ext b->b<w0.heap.size
  ro:Option Nat:=none
def Fw(ro:Option Nat):Fence:={ Fence.wide with round:=ro }
def wj(D:Nat):Deferred:={ target:=.collected D,args:=#[] }
def wL(b0:Nat)(l:List Deferred)(w:ark):Prop:=∃Ds:List Nat,l=Ds.map wj/\Ds.Nodup/\∀D∈Ds,b0<=D/\w.heap[D]?=some (.deferred (some []))
theorem wL.nil(b0:Nat)(w:ark):wL b0 [] w:=⟨[],rfl,List.nodup_nil,fun D h=>by cases h⟩
structure RelM(C:Ctx)(s:AS)(m:Nat->Option Nat)(a:Act)(w:ark):Prop where
  slots:∀t x,s.get t=some x->t<a.tmps.size/\Rep (Im C.ext s.hp m w) (Sz w) m (a.tmps.getD t undef) x
  heap:HeapRel C.ext s.hp m w
  frame:Frame C.own0 C.w0 w
  new:∀k x b,lk s.hp k=some x->m k=some b->C.own0 b\/C.w0.heap.size<=b
  keep:∀k x,1000<=k->lk s.hp k=some x->m k=C.m0 k
  defers:wL C.w0.heap.size a.defers w
  nt:C.nt<=a.tmps.size
def AS.Fresh(s:AS)(k:Nat):Prop :=
  lk s.hp k=none/\k<1000/\(∀t x,s.get t=some x->¬x.Names k)/\(∀k' x,lk s.hp k'=some x->¬x.Names k)
theorem HeapRel.lt{ext:Nat->Prop}{hp:Hp}{m:Nat->Option Nat}{w:ark}(_:HeapRel ext hp m w){b:Nat}{o:Obj}(h:w.heap[b]?=some o):b<w.heap.size:=(Array.getElem?_eq_some_iff.1 h).1
theorem HeapRel.cells{ext:Nat->Prop}{hp:Hp}{m:Nat->Option Nat}{w:ark}(h:HeapRel ext hp m w){k b:Nat}{x:Blk}(hk:lk hp k=some x)(hb:m k=some b){o:Option (List Deferred)}(ho:w.heap[b]?=some (.deferred o)):False:=by
 have:=h.blk k x hk;rw[hb]at this;cases this with
 |box hw=>rw[ho]at hw;cases hw
 |row hw=>rw[ho]at hw;cases hw
 |loop hw=>rw[ho]at hw;cases hw
 |vec hw=>rw[ho]at hw;cases hw
theorem RelM.ext_lt{C:Ctx}{s:AS}{m:Nat->Option Nat}{a:Act}{w:ark}(h:RelM C s m a w){b:Nat}(hb:C.ext b):b<w.heap.size :=
 aqd (C.hext b hb) h.frame.size
theorem RelM.update{C:Ctx}{s:AS}{m:Nat->Option Nat}{a:Act}{w:ark}(h:RelM C s m a w){w':ark}{m':Nat->Option Nat}{hp':Hp}
  (hf:Frame (bh s.hp m) w w')
  (hm:∀t x k b,s.get t=some x->x.Names k->m k=some b->m' k=some b)
  (bU:∀k x b,lk hp' k=some x->m' k=some b->bh s.hp m b\/w.heap.size<=b)
  (DJ:∀k x,1000<=k->lk hp' k=some x->(∃y,lk s.hp k=some y)/\m' k=m k)
  (hh:HeapRel C.ext hp' m' w'):RelM C ⟨s.sl,hp'⟩ m' a w':=by
 refine⟨?_,hh,?_,?_,fun k x h1 h2=>by obtain⟨⟨y,hy⟩,h4⟩:=DJ k x h1 h2;exact h4.trans (h.keep k y h1 hy),?_,h.nt⟩
 ·intro t x hx;obtain⟨h1,h2⟩:=h.slots t x hx;refine⟨h1,h2.mono ?_ hf.sz (fun k b hk=>hm t x k b hx hk)⟩;rintro b cs ⟨he,ho,t',f',hb⟩
  have hlt:b<w.heap.size:=by
   rcases apz b w.heap.size with h |h
   ·exact h
   ·simp[apj h]at hb
  refine⟨he,?_,t',f',(hf.keep b hlt ho).trans hb⟩;rintro⟨k,y,hk,kT⟩;rcases bU k y b hk kT with h' |h'
  ·exact ho h'
  ·omega
 ·refine⟨hf.os.trans h.frame.os,hf.tape.trans h.frame.tape,hf.output.trans h.frame.output,aqe h.frame.size hf.size,fun b n hs=>hf.sz b n (h.frame.sz b n hs),?_⟩;intro b hb ho;rw[hf.keep b (aqd hb h.frame.size) ?_,h.frame.keep b hb ho];rintro⟨k,x,hk,kT⟩;rcases h.new k x b hk kT with h' |h'
  ·exact ho h'
  ·omega
 ·intro k x b hk kT;rcases bU k x b hk kT with⟨k2,y,dj,ako⟩ |h'
  ·exact h.new k2 y b dj ako
  ·exact .inr (aqe h.frame.size h')
 ·obtain⟨Ds,e,hn,hD⟩:=h.defers;refine⟨Ds,e,hn,fun D hm=>?_⟩;obtain⟨h1,h2⟩:=hD D hm;refine⟨h1,(hf.keep D (h.heap.lt h2) ?_).trans h2⟩;rintro⟨k,x,hk,kT⟩;exact h.heap.cells hk kT h2
theorem ia{ext:Nat->Prop}{hp hp':Hp}{m m':Nat->Option Nat}{w w':ark}(hf:Frame (bh hp m) w w')
  (bU:∀k x b,lk hp' k=some x->m' k=some b->bh hp m b\/w.heap.size<=b) :
  ∀b cs,Im ext hp m w b cs->Im ext hp' m' w' b cs:=by
 rintro b cs ⟨he,ho,t',f',hb⟩
 have hlt:b<w.heap.size:=by
  rcases apz b w.heap.size with h |h
  ·exact h
  ·simp[apj h]at hb
 refine⟨he,?_,t',f',(hf.keep b hlt ho).trans hb⟩;rintro⟨k,y,hk,kT⟩;rcases bU k y b hk kT with h' |h'
 ·exact ho h'
 ·omega
theorem RelM.put{C:Ctx}{s:AS}{m:Nat->Option Nat}{a:Act}{w:ark}(h:RelM C s m a w)(d:Nat)(v:arh)(x:Option AV)
  (hx:∀y,x=some y->d<a.tmps.size/\Rep (Im C.ext s.hp m w) (Sz w) m v y) :
  RelM C ⟨(d,x)::s.sl,s.hp⟩ m { a with tmps:=a.tmps.setIfInBounds d v } w:=by
 refine⟨?_,h.heap,h.frame,h.new,h.keep,h.defers,by simpa using h.nt⟩;intro t y hy;simp only[AS.get,a5]at hy
 by_cases ht:t=d
 ·subst ht;rw[aq7 rfl]at hy;obtain⟨h1,h2⟩:=hx y hy;refine⟨by simpa using h1,?_⟩;simpa[ap1,api,h1]using h2
 ·rw [aq6 ht] at hy;obtain ⟨h1,h2⟩:=h.slots t y hy;refine ⟨by simpa using h1,?_⟩
  have:(a.tmps.setIfInBounds d v).getD t undef=a.tmps.getD t undef:=by
   simp only[ap1,api];rw[aq6 oz]
  simpa[this]using h2
theorem Sz.alloc{w:ark}{o:Obj}{b n:Nat}(h:Sz w b n):Sz { w with heap:=w.heap.push o } b n:=by
 obtain⟨c,t,f,hb,hn⟩:=h;refine⟨c,t,f,?_,hn⟩
 have hlt:b<w.heap.size:=by
  rcases apz b w.heap.size with h |h
  ·exact h
  ·simp[apj h]at hb
 show(w.heap.push o)[b]?=_;rw[ao9,aq6 oz,hb]
theorem G0(own:Nat->Prop)(w:ark)(o:Obj):Frame own w { w with heap:=w.heap.push o }:=by
 refine⟨rfl,rfl,rfl,by simp,fun b n h=>h.alloc,?_⟩;intro b hb _;show(w.heap.push o)[b]?=_;rw[ao9,aq6 oz]
theorem Ym(own:Nat->Prop)(w:ark)(n:Nat):Frame own w { w with drawn:=n } :=
 ⟨rfl,rfl,rfl,apu _,fun _ _ h=>h,fun _ _ _=>rfl⟩
theorem Frame.trans{own own':Nat->Prop}{w w' w'':ark}(h:Frame own w w')(h':Frame own' w' w'')
  (ho:∀b,b<w.heap.size->own' b->own b):Frame own w w'' :=
 ⟨h'.os.trans h.os,h'.tape.trans h.tape,h'.output.trans h.output,aqe h.size h'.size,fun b n hs=>h'.sz b n (h.sz b n hs),
  fun b hb hn=>(h'.keep b (aqd hb h.size) (fun hc=>hn (ho b hb hc))).trans (h.keep b hb hn)⟩
theorem RelM.alloc{C:Ctx}{s:AS}{m:Nat->Option Nat}{a:Act}{w:ark}(h:RelM C s m a w){k:Nat}(hk:s.Fresh k)(o:Obj)(x:Blk)
  (hx:¬x.Names k) (jc:∀(g:Nat->Array arh->Prop)(S:Nat->Nat->Prop)(m':Nat->Option Nat)(w':ark),
   (∀b cs,Im C.ext s.hp m w b cs->g b cs)->(∀b n,Sz w b n->S b n)->(∀k' b,k'≠k->m k'=some b->m' k'=some b) ->
   w'.heap[w.heap.size]?=some o->BlkRep g S m' w' (some w.heap.size) x) :
  RelM C ⟨s.sl,(k,some x)::s.hp⟩ (fun k'=>if k'=k then some w.heap.size else m k') a { w with heap:=w.heap.push o }:=by
 have cS:∀k' y,lk ((k,some x)::s.hp) k'=some y->k'≠k->lk s.hp k'=some y:=by
  intro k' y hy b9;rw[a5,aq6 b9]at hy;exact hy
 have eW:∀k' y b,lk s.hp k'=some y->m k'=some b->b<w.heap.size:=fun k' y b h1 h2=>(h.heap.sep k' y b h1 h2).2
 have hf:=G0 (bh s.hp m) w o
 have bU:∀k' y b,lk ((k,some x)::s.hp) k'=some y->(if k'=k then some w.heap.size else m k')=some b->bh s.hp m b\/w.heap.size<=b:=by
  intro k' y b hy hb
  by_cases b9:k'=k
  ·rw[aq7 b9]at hb;cases hb;exact .inr (apu _)
  ·rw[aq6 b9]at hb;exact .inl ⟨k',y,cS k' y hy b9,hb⟩
 refine h.update hf ?_ bU ?_ ⟨?_,?_,?_⟩
 ·intro t y k' b hy hn hb;have:k'≠k:=fun e=>hk.2.2.1 t y hy (e▸hn)
  rw[aq6 this];exact hb
 ·intro k' y rC hy;have b9:k' ≠ k:=fun e=>by have:=hk.2.1; omega
  exact⟨⟨y,cS k' y hy b9⟩,by rw[aq6 b9]⟩
 ·intro k' y hy
  by_cases b9:k'=k
  ·subst b9;rw[a5,aq7 rfl]at hy;cases hy;rw[aq7 rfl];refine jc _ _ _ _ (ia hf bU) hf.sz (fun k'' b b9 hb=>by rw[aq6 b9];exact hb) ?_;show(w.heap.push o)[w.heap.size]?=_;simp
  ·have hy':=cS k' y hy b9;rw[aq6 b9];refine BlkRep.mono (ia hf bU) hf.sz ?_ rfl ?_ (h.heap.blk k' y hy')
   ·intro k'' b hn hb;have:k''≠k:=fun e=>hk.2.2.2 k' y hy' (e▸hn)
    rw[aq6 this];exact hb
   ·intro b hb;have:=eW k' y b hy' hb;show(w.heap.push o)[b]?=_;rw[ao9,aq6 oz]
 ·intro k1 k2 y1 y2 b h1 h2 cE bF
  by_cases e1:k1=k <;> by_cases e2:k2=k
  ·rw[e1,e2]
  ·rw[aq7 e1]at cE;rw[aq6 e2]at bF;cases cE
   exact ard (eW k2 y2 _ (cS k2 y2 h2 e2) bF) oz
  ·rw[aq6 e1]at cE;rw[aq7 e2]at bF;cases bF
   exact ard (eW k1 y1 _ (cS k1 y1 h1 e1) cE) oz
  ·rw[aq6 e1]at cE;rw[aq6 e2]at bF
   exact h.heap.inj k1 k2 y1 y2 b (cS k1 y1 h1 e1) (cS k2 y2 h2 e2) cE bF
 ·intro k' y b hy hb
  by_cases b9:k'=k
  ·rw[aq7 b9]at hb;cases hb
   refine⟨fun hc=>?_,by simp⟩;have:=h.ext_lt hc;omega
  ·rw[aq6 b9]at hb;have:=h.heap.sep k' y b (cS k' y hy b9) hb;refine⟨this.1,?_⟩;have:=this.2;simp;omega
theorem RelM.write{C:Ctx}{s:AS}{m:Nat->Option Nat}{a:Act}{w:ark}(h:RelM C s m a w){k b:Nat}{x x':Blk}{w':ark}
  {c c':Array arh} {t:ari}
  (hk:lk s.hp k=some x) (hm:m k=some b) (hb:w.heap[b]?=some (.cells c t (0,0))) (bH:c'.size=c.size)
  (hw:w'={ w with heap:=w.heap.setIfInBounds b (.cells c' t (0,0)) })
  (hx:∀(g:Nat->Array arh->Prop)(S:Nat->Nat->Prop),
   (∀b cs,Im C.ext s.hp m w b cs->g b cs)->(∀b n,Sz w b n->S b n) ->
   w'.heap[b]?=some (.cells c' t (0,0))->BlkRep g S m w' (some b) x') :
  RelM C ⟨s.sl,(k,some x')::s.hp⟩ m a w':=by
 have hlt:=(h.heap.sep k x b hk hm).2
 have gx:∀b',w'.heap[b']?=if b=b' then some (.cells c' t (0,0))else w.heap[b']? := by
  intro b';subst hw;show(w.heap.setIfInBounds b _)[b']?=_;rw[api]
  by_cases e:b=b'
  ·simp[e];omega
  ·simp[e]
 have cS:∀k' y,lk ((k,some x')::s.hp) k'=some y->∃z,lk s.hp k'=some z:=by
  intro k' y hy;rw[a5]at hy;split at hy
  ·subst_vars;exact⟨x,hk⟩
  ·exact⟨y,hy⟩
 have hf:Frame (bh s.hp m) w w':=by
  refine⟨by rw[hw],by rw[hw],by rw[hw],by rw[hw];simp,?_,?_⟩
  ·rintro b' n ⟨c1,t1,f1,h1,h2⟩
   by_cases e:b=b'
   ·subst e;rw[hb]at h1;cases h1;exact⟨c',t,(0,0),by rw[gx,aq7 rfl],by omega⟩
   ·exact⟨c1,t1,f1,by rw[gx,aq6 e,h1],h2⟩
  ·intro b' hb' hn;rw[gx,aq6];rintro rfl;exact hn ⟨k,x,hk,hm⟩
 have bU:∀k' y b',lk ((k,some x')::s.hp) k'=some y->m k'=some b'->bh s.hp m b'\/w.heap.size<=b':=by
  intro k' y b' hy hb';obtain⟨z,hz⟩:=cS k' y hy;exact .inl ⟨k',z,hz,hb'⟩
 refine h.update hf (fun t y k' b' _ _ hb'=>hb') bU (fun k' y _ hy=>⟨cS k' y hy,rfl⟩) ⟨?_,?_,?_⟩
 ·intro k' y hy
  by_cases e:k'=k
  ·subst e;rw[a5,aq7 rfl]at hy;cases hy;rw[hm];exact hx _ _ (ia hf bU) hf.sz (by rw[gx,aq7 rfl])
  ·rw[a5,aq6 e]at hy;refine BlkRep.mono (ia hf bU) hf.sz (fun k'' b' _ hb'=>hb') rfl ?_ (h.heap.blk k' y hy);intro b' hb';rw[gx,aq6];rintro rfl;exact e (h.heap.inj k' k y x b hy hk hb' hm)
 ·intro k1 k2 y1 y2 b' h1 h2 cE bF;obtain⟨z1,iT⟩:=cS k1 y1 h1;obtain⟨z2,jy⟩:=cS k2 y2 h2;exact h.heap.inj k1 k2 z1 z2 b' iT jy cE bF
 ·intro k' y b' hy hb';obtain⟨z,hz⟩:=cS k' y hy;have:=h.heap.sep k' z b' hz hb';exact⟨this.1,aqd this.2 hf.size⟩
theorem RelM.drawn{C:Ctx}{s:AS}{m:Nat->Option Nat}{a:Act}{w:ark}(h:RelM C s m a w)(n:Nat):RelM C s m a { w with drawn:=n }:=by
 have hf:=Ym (bh s.hp m) w n;have bU:∀k' y b',lk s.hp k'=some y->m k'=some b'->bh s.hp m b'\/w.heap.size<=b':=fun k' y b' h1 h2=>.inl ⟨k',y,h1,h2⟩
 refine h.update hf (fun t y k' b' _ _ hb'=>hb') bU (fun k' y _ hy=>⟨⟨y,hy⟩,rfl⟩) ⟨?_,h.heap.inj,h.heap.sep⟩;intro k x hk;exact BlkRep.mono (w:=w) (ia hf bU) hf.sz (fun _ _ _ h=>h) rfl (fun _ _=>rfl) (h.heap.blk k x hk)
structure Out where
  val:Option AV
  upd:Hp
  rt:List Nat
  rd:List Nat
  deriving Inhabited
def AS.app(s:AS)(dst:Option Tmp)(o:Out):AS :=
  ⟨match dst with |some d=>(d,o.val)::s.sl |none=>s.sl,o.upd++s.hp⟩
def jF(s s':AS)(o:Out):Prop:=(∀t∈o.rt,s'.get t=s.get t)/\∀k∈o.rd,s'.blk k=s.blk k
def mG(s:AS)(o:Out):Prop:=∀k∈o.upd.map (·.1),k∈o.rd\/s.Fresh k
def wq(P:arj)(o:Oper)(a:Act)(w:ark)(next:Act->ark->Prop)(Q:Exit->Act->ark->Prop):Prop:=∀ro n,o.uponIn (Fw ro) n P a next Q ((execOp a.eval o).run P w)
theorem Ze{P:arj}{f:FuncId}{args:Array arh}{w:ark}{R:Ending->ark->Prop}(h:Calls P f args w R)(ro:Option Nat)(n:Nat):(((Fw ro).depth.isSome=true->1<=n)/\CallsIn (Fw ro) (n-1) P f args w R) :=
 ⟨(fun h=>by cases h),(callsIn_wide (n:=n-1)).2 h⟩
theorem U1{P:arj}{f:String}{args:Array arh}{w:ark}{R:arh->ark->Prop}(h:Rows P f args w R)(ro:Option Nat)(n:Nat):(((Fw ro).depth.isSome=true->1<=n)/\RowsIn (Fw ro) (n-1) P f args w R) :=
 ⟨(fun h=>by cases h),fun c cs _=>let⟨v,w',r,s⟩:=h c cs;⟨v,w',r,(stepsIn_wide (P:=P)).2 s⟩⟩
theorem z9{P:arj}{o:Oper}{a:Act}{w:ark}{next:Act->ark->Prop}{Q:Exit->Act->ark->Prop}(h:o.wp P a w next Q):wq P o a w next Q:=by
 intro ro n;unfold Oper.wp at h;generalize(execOp a.eval o).run P w=r at h;cases r with
 |ok x w' =>
  cases x with
  |enter f args=>exact Ze h ro n
  |row f args=>exact U1 h ro n
  |round l f ts x y=>exact(show False from h).elim
  |_=>exact h
 |halt x w'=>cases x <;> exact h
structure Step(P:arj)(N:Nat)(R:Array Oper)(s:AS)(o:Oper)(u:Out):Prop where
  run:∀s',jF s s' u->mG s' u->∀C m a w Q (next:Act->ark->Prop),C.nt=N->RelM C s' m a w ->
    (∀m' a' w',RelM C (s'.app o.dst u) m' a' w'->next a' w') ->
    if Region.wanted o (yielded R a.tmps)then wq P o a w next Q else next (a.put o.dst undef) w
def kc(P:arj)(N:Nat)(R:Array Oper):List Oper->AS->List Out->(AS->List Out->Prop)->Prop
  |[],s,us,K=>K s us
  |o::ops,s,us,K=>∃u,Step P N R s o u/\mG s u/\kc P N R ops (s.app o.dst u) (us++[u]) K
def nd(o:Oper):Bool:=match o.op with
  | .defer _=>false
  |_=>true
theorem Pa{P:arj}{o:Oper}{a:Act}{w:ark}{next:Act->ark->Prop}{Q:Exit->Act->ark->Prop}{ro:Option Nat}{n:Nat}(hd:nd o=true)(h:wq P o a w next Q):o.wpIn (Fw ro) n P a w next Q:=by
 refine⟨fun _ _=>trivial,?_⟩;rw[Oper.semAt_eq _ _ _ (by intro c hc;simp[nd,hc]at hd)];exact h ro n
theorem VV{P:arj}{N n:Nat}{R:Array Oper}{C:Ctx}(hN:C.nt=N){Q:Exit->Act->ark->Prop}{K:AS->List Out->Prop}
  (hK:∀s us m a w,K s us->RelM C s m a w->Q .normal a w) :
  ∀(ops:List Oper)(i:Nat)(s:AS)(us:List Out)(m:Nat->Option Nat)(a:Act)(w:ark),
   (∀j,R[i+j]?=ops[j]?)->ops.all nd=true->kc P N R ops s us K->RelM C s m a w->wpOpsIn (Fw C.ro) n P R Q (List.range' i ops.length) a w:=by
 intro ops
 induction ops with
 |nil=>intro i s us m a w _ _ h hr;exact hK s us m a w h hr
 |cons o ops ih =>
  intro i s us m a w hR dN h hr;simp only[all_cons,apw]at dN;obtain⟨u,hs,hn,h⟩:=h;have ho:R[i]?=some o:=by simpa using hR 0
  simp only[ap4,List.range'_succ];rw[wpOpsIn_cons];unfold wpOpIn;simp only[ho]
  have:=hs.run s ⟨fun _ _=>rfl,fun _ _=>rfl⟩ hn C m a w Q (wpOpsIn (Fw C.ro) n P R Q (List.range' (i+1) ops.length)) hN hr
   (fun m' a' w' hr'=>ih (i+1) _ _ m' a' w' (fun j=>by have:=hR (j+1);simpa[al4,ama 1 j]using this) dN.2 h hr')
  split
  ·rename_i hw;rw[aq7 hw]at this;exact Pa dN.1 this
  ·rename_i hw;rw[aq6 hw]at this;exact⟨fun _ _=>trivial,this⟩
theorem HeapRel.congr{ext:Nat->Prop}{hp hp':Hp}{m:Nat->Option Nat}{w:ark}(h:∀k,lk hp k=lk hp' k)
  (hr:HeapRel ext hp m w):HeapRel ext hp' m w:=by
 have e1:bh hp m=bh hp' m:=by funext b;simp only[bh,h]
 have e2:Im ext hp m w=Im ext hp' m w:=by funext b cs;simp only[Im,e1]
 refine⟨?_,?_,?_⟩
 ·intro k x hk;rw[<- e2];exact hr.blk k x ((h k).trans hk)
 ·intro k k' x x' b h1 h2;exact hr.inj k k' x x' b ((h k).trans h1) ((h k').trans h2)
 ·intro k x b h1;exact hr.sep k x b ((h k).trans h1)
theorem RelM.congr{C:Ctx}{s s':AS}{m:Nat->Option Nat}{a:Act}{w:ark}(h1:∀t,s.get t=s'.get t)(h2:∀k,s.blk k=s'.blk k)
  (hr:RelM C s m a w):RelM C s' m a w:=by
 have e1:bh s.hp m=bh s'.hp m:=by funext b;simp only[bh];simp only[AS.blk]at h2;simp only[h2]
 have e2:Im C.ext s.hp m w=Im C.ext s'.hp m w:=by funext b cs;simp only[Im,e1]
 refine⟨?_,hr.heap.congr h2,hr.frame,?_,fun k x h3 h4=>hr.keep k x h3 ((h2 k).trans h4),hr.defers,hr.nt⟩
 ·intro t x hx;rw[<- e2];exact hr.slots t x ((h1 t).trans hx)
 ·intro k x b hk;exact hr.new k x b ((h2 k).trans hk)
def EU(prev:List Nat)(o:Oper):Nat :=
  o.after.toList.foldl (fun s e=>match Region.binds .any e with
    |true=>s ||| (2^e.on ||| prev.getD e.on 0)
    |false=>s) 0
def lU:List Oper->List Nat->List Nat
  |[],prev=>prev
  |o::ops,prev=>lU ops (prev++[EU prev o])
theorem ad3(prev:List Nat)(j:Nat):∀(l:List Edge)(s:Nat),
  (l.foldl (fun s e=>match Region.binds .any e with
   |true=>s ||| (2^e.on ||| prev.getD e.on 0)
   |false=>s) s).testBit j=true ->
  s.testBit j=true\/∃e∈l,Region.binds .any e=true/\(j=e.on\/(prev.getD e.on 0).testBit j=true):=by
 intro l
 induction l with
 |nil=>intro s h;exact .inl h
 |cons e l ih =>
  intro s h;simp only[aq5]at h;rcases ih _ h with h |⟨e',he',hb,hj⟩
  ·cases hb:Region.binds .any e with
   |false=>rw[hb]at h;exact .inl h
   |true =>
    rw[hb]at h;simp only[Nat.testBit_or,aqy,Nat.testBit_two_pow,aq8]at h;rcases h with h |h |h
    ·exact .inl h
    ·exact .inr ⟨e,aqr,hb,.inl h.symm⟩
    ·exact .inr ⟨e,aqr,hb,.inr h⟩
  ·exact .inr ⟨e',aqq _ he',hb,hj⟩
theorem Q8:∀(ops:List Oper)(prev:List Nat),(lU ops prev).length=prev.length+ops.length
 |[],prev=>rfl
 |o::ops,prev=>by simp only[lU,Q8 ops,aqk,ap4,ap9];omega
theorem FU:∀(ops:List Oper)(prev:List Nat)(i:Nat),i<prev.length->(lU ops prev).getD i 0=prev.getD i 0
 |[],prev,i,_=>rfl
 |o::ops,prev,i,h=>by
  simp only[lU];rw[FU ops _ i (by simp;omega)];simp[apq,aqc h]
theorem ME:∀(ops:List Oper)(prev:List Nat)(i:Nat)(o:Oper),ops[i]?=some o ->
  ∃q,(lU ops prev).getD (prev.length+i) 0=EU q o/\∀j,q.getD j 0≠0->j<prev.length+i/\q.getD j 0=(lU ops prev).getD j 0
 |[],prev,i,o,h=>by simp at h
 |o'::ops,prev,0,o,h=>by
  simp at h;subst h
  refine⟨prev,?_,?_⟩
  ·simp only[lU,amj];rw[FU ops _ _ (by simp)];simp[apq]
  ·intro j hj
   have hlt:j<prev.length:=by
    rcases apz j prev.length with h |h
    ·exact h
    ·exact ard (by simp[apq,ap6 h]) hj
   refine⟨by omega,?_⟩;simp only[lU];rw[FU ops _ _ (by simp;omega)];simp[apq,aqc hlt]
 |o'::ops,prev,i+1,o,h=>by
  simp at h;obtain⟨q,h1,h2⟩:=ME ops (prev++[EU prev o']) i o h;refine⟨q,?_,?_⟩
  ·simp only[lU];rw[<- h1];simp only[aqk,ap4,ap9];congr 1;omega
  ·intro j hj;obtain⟨h3,h4⟩:=h2 j hj;simp at h3;exact⟨by omega,h4⟩
def Qy(R:Array Oper)(L:Nat->Bool):Prop:=∀i o,R[i]?=some o->L i=true->∀e∈o.after.toList,Region.binds .any e=true->L e.on=true
theorem N5{R:Array Oper}{L:Nat->Bool}(hc:Qy R L):∀(i:Nat)(o:Oper),R[i]?=some o ->
  (∀e∈o.after.toList,Region.binds .any e=true->L e.on=true)->∀j,((lU R.toList []).getD i 0).testBit j=true->L j=true:=by
 intro i
 induction i using Nat.strongRecOn with
 |_ i ih =>
  intro o ho hp j hj;obtain⟨q,h1,h2⟩:=ME R.toList [] i o (by simpa using ho);simp only[ap9,ams]at h1 h2;rw[h1]at hj;rcases ad3 q j _ _ hj with h |⟨e,he,hb,h |h⟩
  ·simp at h
  ·exact h▸hp e he hb
  ·have b9 : q.getD e.on 0 ≠ 0 := fun h0 => by rw [h0] at h; simp at h
   obtain⟨h3,h4⟩:=h2 e.on b9;rw[h4]at h;have hl:=hp e he hb
   have hlt:e.on<R.size:=by
    rcases apz e.on R.size with hh |hh
    ·exact hh
    ·exfalso;have:(lU R.toList []).length = R.size:=by rw [Q8]; simp
     rw[apq,ap6 oz]at h;simp at h
   exact ih e.on h3 R[e.on] (by simp[hlt]) (hc e.on _ (by simp[hlt]) hl) j h
def Out.wr(u:Out):List Nat:=u.upd.map (·.1)
def Out.nm(u:Out):List Nat:=(match u.val with |some x=>x.nm |none=>[])++u.upd.flatMap fun p=>match p.2 with |some x=>x.nm |none=>[]
def o8(a b:List Nat):Bool:=a.any fun x=>b.contains x
def CD(d:Option Nat)(l:List Nat):Bool:=match d with |some d=>l.contains d |none=>false
def mQ(o1:Oper)(u1:Out)(o2:Oper)(u2:Out):Bool :=
  CD o1.dst u2.rt||CD o2.dst u1.rt||(match o1.dst with |some d=>o2.dst==some d |none=>false) ||
    o8 u1.wr u2.rd||o8 u1.wr u2.wr||o8 u2.wr u1.rd||o8 (u1.wr.filter fun k=>!u1.rd.contains k) u2.nm
def xV(M:List Nat)(o2:Oper)(u2:Out)(j:Nat):Nat->List Oper->List Out->Bool
  |i,o1::ops,u1::us=>(match aly i j with
      |true=>(!mQ o1 u1 o2 u2||(M.getD j 0).testBit i)&&!o8 (u2.wr.filter fun k=>!u2.rd.contains k) (u1.nm++u1.wr)
      |false=>true)&&xV M o2 u2 j (i+1) ops us
  |_,_,_=>true
def C6(M:List Nat)(R:List Oper)(U:List Out):Nat->List Oper->List Out->Bool
  |j,o::ops,u::us=>xV M o u j 0 R U&&(o.after.toList.all fun e=>!Region.binds .any e||aly e.on j)&&C6 M R U (j+1) ops us
  |_,_,_=>true
def AS.freshB(s:AS)(k:Nat):Bool :=
  (s.sl.all fun p=>match p.2 with |some x=>!x.nm.contains k |none=>true) &&
    (s.hp.all fun p=>match p.2 with |some x=>!x.nm.contains k |none=>true) &&
    (match lk s.hp k with |some _=>false |none=>true)&&aly k 1000
theorem AS.fresh_of{s:AS}{k:Nat}(h:s.freshB k=true):s.Fresh k:=by
 simp only[AS.freshB,apw,ap3]at h;obtain⟨⟨⟨h1,h2⟩,h3⟩,h4⟩:=h;refine⟨?_,by simpa[al5]using h4,?_,?_⟩
 ·cases hk:lk s.hp k with
  |none=>rfl
  |some x=>rw[hk]at h3;simp at h3
 ·intro t x hx hn;have:=h1 _ (so hx);simp at this;exact this hn.mem
 ·intro t x hx hn;have:=h2 _ (so hx);simp at this;exact this hn.mem
def chk(R:List Oper)(U:List Out)(s:AS):Bool :=
  C6 (lU R []) R U 0 R U&&(U.all fun u=>u.wr.all fun k=>u.rd.contains k||s.freshB k)
theorem OK{M:List Nat}{o2:Oper}{u2:Out}{j:Nat}:∀(ops:List Oper)(us:List Out)(i0:Nat),xV M o2 u2 j i0 ops us=true ->
  ∀i o1 u1,ops[i]?=some o1->us[i]?=some u1->i0+i<j ->
   (mQ o1 u1 o2 u2=true->(M.getD j 0).testBit (i0+i)=true)/\o8 (u2.wr.filter fun k=>!u2.rd.contains k) (u1.nm++u1.wr)=false
 |[],_,_,_,i,o1,u1,h,_,_=>by simp at h
 |_::_,[],_,_,i,o1,u1,_,h,_=>by simp at h
 |o::ops,u::us,i0,hc,i,o1,u1,h1,h2,hlt=>by
  simp only[xV,apw]at hc;obtain⟨jz,sW⟩:=hc;cases i with
  |zero =>
   simp at h1 h2;subst h1;subst h2
   have hb:aly i0 j=true:=by simpa[al5]using hlt
   rw[hb]at jz;simp only[apw,aqy,ao0]at jz;refine⟨fun hw=>?_,jz.2⟩;rcases jz.1 with h |h
   ·rw[hw]at h;cases h
   ·simpa using h
  |succ i =>
   simp at h1 h2;have:=OK ops us (i0+1) sW i o1 u1 h1 h2 oz;rw[show i0+(i+1)=i0+1+i by omega];exact this
theorem Hf{M:List Nat}{R:List Oper}{U:List Out}:∀(ops:List Oper)(us:List Out)(j0:Nat),C6 M R U j0 ops us=true ->
  ∀j o u,ops[j]?=some o->us[j]?=some u->xV M o u (j0+j) 0 R U=true/\∀e∈o.after.toList,Region.binds .any e=true->e.on<j0+j
 |[],_,_,_,i,o1,u1,h,_=>by simp at h
 |_::_,[],_,_,i,o1,u1,_,h=>by simp at h
 |o::ops,u::us,j0,hc,j,o1,u1,h1,h2=>by
  simp only[C6,apw,ap3]at hc;obtain⟨⟨jz,sW⟩,Is⟩:=hc;cases j with
  |zero =>
   simp at h1 h2;subst h1;subst h2
   refine⟨jz,fun e he hb=>?_⟩;have:=sW e he;simpa[hb,al5]using this
  |succ j =>
   simp at h1 h2;have:=Hf ops us (j0+1) Is j o1 u1 h1 h2;rw[show j0+(j+1)=j0+1+j by omega];exact this
def vw(R:Array Oper)(U:List Out)(s:AS)(L:Nat->Bool):Nat->AS
  |0=>s
  |i+1=>match L i,R[i]?,U[i]? with
    |true,some o,some u=>(vw R U s L i).app o.dst u
    |_,_,_=>vw R U s L i
theorem lr(s:AS)(d:Option Tmp)(u:Out)(t:Nat):(s.app d u).get t=if d=some t then u.val else s.get t:=by
 cases d with
 |none=>simp[AS.app,AS.get]
 |some d =>
  simp only[AS.app,AS.get,a5]
  by_cases h:t=d
  ·simp[h]
  ·rw[aq6 h,aq6 (by simpa using fun e=>h e.symm)]
theorem wC(s:AS)(d:Option Tmp)(u:Out)(k:Nat):(s.app d u).blk k=if k∈u.wr then lk u.upd k else s.blk k:=by
 simp only[AS.app,AS.blk,sf,Out.wr];rfl
section
variable{R:Array Oper}{U:List Out}{s:AS}
theorem Oi{L:Nat->Bool}{t i:Nat}(n:Nat)(cG:i<=n)(h:∀j o,i<=j->R[j]?=some o->o.dst=some t->L j=false) :
  (vw R U s L n).get t=(vw R U s L i).get t:=by
 induction n with
 |zero=>rw[show i=0 by omega]
 |succ n ih =>
  by_cases hn:i<=n
  ·rw[<- ih hn];simp only[vw];split
   ·rename_i o u h1 h2 h3;rw[lr,aq6];intro hd;rw[h n o hn h2 hd]at h1;cases h1
   ·rfl
  ·rw[show i=n+1 by omega]
theorem L3{L:Nat->Bool}{k i:Nat}(n:Nat)(cG:i<=n)(h:∀j u,i<=j->U[j]?=some u->k∈u.wr->L j=false) :
  (vw R U s L n).blk k=(vw R U s L i).blk k:=by
 induction n with
 |zero=>rw[show i=0 by omega]
 |succ n ih =>
  by_cases hn:i<=n
  ·rw[<- ih hn];simp only[vw];split
   ·rename_i o u h1 h2 h3;rw[wC,aq6];intro hd;rw[h n u hn h3 hd]at h1;cases h1
   ·rfl
  ·rw[show i=n+1 by omega]
theorem G5{L L':Nat->Bool}{t:Nat}(n:Nat)(h:∀j o,j<n->R[j]?=some o->o.dst=some t->L j=L' j) :
  (vw R U s L n).get t=(vw R U s L' n).get t:=by
 induction n with
 |zero=>rfl
 |succ n ih =>
  have ih:=ih (fun j o hj=>h j o oz);simp only[vw];cases ho:R[n]? with
  |none=>cases L n <;> cases L' n <;> simp only[ih]
  |some o =>
   cases hu:U[n]? with
   |none=>cases L n <;> cases L' n <;> simp only[ih]
   |some u =>
    by_cases hd:o.dst=some t
    ·rw[h n o oz ho hd];cases L' n <;> simp only[lr,hd,if_true,ih]
    ·cases L n <;> cases L' n <;> simp only[lr,aq6 hd,ih]
theorem Gs{L L':Nat->Bool}{k:Nat}(n:Nat)(h:∀j u,j<n->U[j]?=some u->k∈u.wr->L j=L' j) :
  (vw R U s L n).blk k=(vw R U s L' n).blk k:=by
 induction n with
 |zero=>rfl
 |succ n ih =>
  have ih:=ih (fun j o hj=>h j o oz);simp only[vw];cases ho:R[n]? with
  |none=>cases L n <;> cases L' n <;> simp only[ih]
  |some o =>
   cases hu:U[n]? with
   |none=>cases L n <;> cases L' n <;> simp only[ih]
   |some u =>
    by_cases hd:k∈u.wr
    ·rw[h n u oz hu hd];cases L' n <;> simp only[wC,hd,if_true,ih]
    ·cases L n <;> cases L' n <;> simp only[wC,aq6 hd,ih]
theorem UU{L:Nat->Bool}{t:Nat}{x:AV}:∀n,(vw R U s L n).get t=some x ->
  s.get t=some x\/∃j u,L j=true/\U[j]?=some u/\u.val=some x:=by
 intro n
 induction n with
 |zero=>exact .inl
 |succ n ih =>
  intro h;simp only[vw]at h;split at h
  ·rename_i o u h1 h2 h3;rw[lr]at h;split at h
   ·exact .inr ⟨n,u,h1,h3,h⟩
   ·exact ih h
  ·exact ih h
theorem PZ{L:Nat->Bool}{k:Nat}{x:Blk}:∀n,(vw R U s L n).blk k=some x ->
  s.blk k=some x\/∃j u,L j=true/\U[j]?=some u/\k∈u.wr/\lk u.upd k=some x:=by
 intro n
 induction n with
 |zero=>exact .inl
 |succ n ih =>
  intro h;simp only[vw]at h;split at h
  ·rename_i o u h1 h2 h3;rw[wC]at h;split at h
   ·rename_i hk;exact .inr ⟨n,u,h1,h3,hk,h⟩
   ·exact ih h
  ·exact ih h
end
theorem aj5{a b:List Nat}(h:o8 a b=false){x:Nat}(ha:x∈a):x∉b:=by
 intro hb;simp only[o8,List.any_eq_false]at h;exact h x ha (by simpa using hb)
theorem zg{a b:List Nat}{x:Nat}(ha:x∈a)(hb:x∈b):o8 a b=true:=by
 simp only[o8,am7];exact⟨x,ha,by simpa using hb⟩
section
variable{P:arj}{N:Nat}{R:Array Oper}{U:List Out}{s0:AS}{C:Ctx}{Q:Exit->Act->ark->Prop}
theorem ajt{u:Out}{x:AV}{k:Nat}(h:u.val=some x)(hk:x.Names k):k∈u.nm:=by
 simp only[Out.nm,h,ap2];exact .inl hk.mem
theorem VO{u:Out}{x:Blk}{k k':Nat}(h:lk u.upd k'=some x)(hk:x.Names k):k∈u.nm:=by
 simp only[Out.nm,ap2,List.mem_flatMap];exact .inr ⟨_,so h,hk.mem⟩
theorem Yp{n:Nat}(dN:R.toList.all nd=true)(hN:C.nt=N)(bV:U.length=R.size)(ep:∀(i:Nat) o u,R[i]?=some o->U[i]?=some u->Step P N R (vw R U s0 (fun _=>true) i) o u)
    (hc:chk R.toList U s0=true) (hQ:∀m a w,RelM C (vw R U s0 (fun _=>true) R.size) m a w->Q .normal a w) :
    ∀(fuel:Nat)(listed:Array Bool),listed.size=R.size->Qy R (fun i=>listed.getD i false) ->
      ((List.range R.size).filter fun i=>!listed.getD i false).length<=fuel ->
      ∀m a w,RelM C (vw R U s0 (fun i=>listed.getD i false) R.size) m a w->wpAnyIn (Fw C.ro) n P .any R Q fuel listed a w:=by
  simp only[chk,apw,ap3,aqy]at hc;obtain⟨jz,sW⟩:=hc;have hU:∀i,i<R.size->∃o u,R[i]?=some o/\U[i]?=some u:=fun i hi=>⟨R[i],U[i],by simp[hi],by simp⟩
  have It:∀i j o1 u1 o2 u2,R[i]?=some o1->U[i]?=some u1->R[j]?=some o2->U[j]?=some u2->i<j ->
      (mQ o1 u1 o2 u2=true->((lU R.toList []).getD j 0).testBit i=true)/\o8 (u2.wr.filter fun k=>!u2.rd.contains k) (u1.nm++u1.wr)=false:=by
    intro i j o1 u1 o2 u2 h1 h2 h3 h4 hlt;have:=Hf R.toList U 0 jz j o2 u2 (by simpa using h3) h4;simp only[ams]at this;have:=OK R.toList U 0 this.1 i o1 u1 (by simpa using h1) h2 oz;simpa using this
  have akp:∀j o,R[j]?=some o->∀e∈o.after.toList,Region.binds .any e=true->e.on<j:=by
    intro j o h
    have hj:j<R.size:=by
      rcases apz j R.size with hh |hh
      · exact hh
      · simp[apj hh]at h
    obtain⟨o',u,h1,h2⟩:=hU j hj;rw[h]at h1;cases h1
    have:=(Hf R.toList U 0 jz j o u (by simpa using h) h2).2;simpa using this
  have RG:∀(listed:Array Bool),listed.size=R.size->Region.ready .any R listed=[]->∀i,i<R.size->listed.getD i false=true:=by
    intro listed bH hr i
    induction i using Nat.strongRecOn with
    |_ i ih =>
      intro hi;cases hl:listed.getD i false with
      |true=>rfl
      |false =>
        exfalso
        have:i∈Region.ready .any R listed:=by
          simp only[Region.ready,anq,an2];refine⟨hi,?_⟩
          have e1:listed.getD i true=false:=by
            simp only[ap1]at hl ⊢;rw[apa oz]at hl ⊢;exact hl
          simp only[e1,Bool.not_false,Bool.true_and];rw[apa hi];simp only[apm,apl,apk,aqy,ao0];intro e he;cases hb:Region.binds .any e with
          |false=>exact .inl rfl
          |true =>
            have:=akp i R[i] (by simp[hi]) e (by simpa using he) hb;exact .inr (ih e.on this oz)
        rw[hr]at this;cases this
  have mf:∀(listed:Array Bool),listed.size=R.size->Region.ready .any R listed=[]->∀m a w,
      RelM C (vw R U s0 (fun i=>listed.getD i false) R.size) m a w->Q .normal a w:=by
    intro listed bH hr m a w h;refine hQ m a w (h.congr (fun t=>G5 _ (fun j o hj _ _=>RG listed bH hr j hj)) (fun k=>Gs _ (fun j u hj _ _=>RG listed bH hr j hj)))
  intro fuel
  induction fuel with
  |zero =>
    intro listed bH f7 hf m a w h
    have RH:Region.ready .any R listed=[]:=by
      cases hr:Region.ready .any R listed with
      |nil=>rfl
      |cons i l =>
        exfalso;have hi:i∈Region.ready .any R listed:=by rw[hr];exact aqr
        simp only[Region.ready,anq,an2,apw,ao0]at hi
        have:listed.getD i false=false:=by
          have h1:=hi.2.1;simp only[ap1]at h1 ⊢;rw[apa oz]at h1 ⊢;exact h1
        have Iu:i∈(List.range R.size).filter fun i=>!listed.getD i false:=by simp[anq,hi.1];simpa using this
        have:=List.length_pos_of_mem Iu;omega
    exact⟨RH,mf listed bH RH m a w h⟩
  |succ fuel ih =>
    intro listed bH f7 hf m a w h;refine⟨fun hr=>mf listed bH hr m a w h,?_⟩;intro i hi;simp only[Region.ready,anq,an2,apw,ao0]at hi;obtain⟨RI,dO,Iv⟩:=hi
    have dO:listed.getD i false=false:=by
      simp only[ap1]at dO ⊢;rw[apa oz]at dO ⊢;exact dO
    obtain⟨o,u,ho,hu⟩:=hU i RI;rw[ho]at Iv;simp only[apm,apl,apk,aqy,ao0]at Iv
    have RJ:∀e∈o.after.toList,Region.binds .any e=true->listed.getD e.on false=true:=by
      intro e he hb;rcases Iv e (by simpa using he)with h |h
      · rw[hb]at h;cases h
      · exact h
    have RK:∀j oj uj,R[j]?=some oj->U[j]?=some uj->j<i->mQ oj uj o u=true->listed.getD j false=true:=by
      intro j oj uj h1 h2 hlt hw;exact N5 f7 i o ho RJ j ((It j i oj uj o u h1 h2 ho hu hlt).1 hw)
    have xa:∀j oj uj,R[j]?=some oj->U[j]?=some uj->i<j->mQ o u oj uj=true->listed.getD j false=false:=by
      intro j oj uj h1 h2 hlt hw;cases hl:listed.getD j false with
      |false=>rfl
      |true =>
        have:=N5 f7 j oj h1 (f7 j oj h1 hl) i ((It i j o u oj uj ho hu h1 h2 hlt).1 hw);rw[dO]at this;cases this
    have Iw:∀(j:Nat) oj,R[j]?=some oj->∃uj,U[j]?=some uj:=by
      intro j oj h
      have hj:j<R.size:=by
        rcases apz j R.size with hh |hh
        · exact hh
        · simp[apj hh]at h
      obtain⟨_,uj,_,h2⟩:=hU j hj;exact⟨uj,h2⟩
    have DK:∀(j:Nat) uj,U[j]?=some uj->∃oj,R[j]?=some oj:=by
      intro j uj h
      have hj:j<R.size:=by
        rcases apz j R.size with hh |hh
        · exact hh
        · rw[ap6 oz]at h;cases h
      obtain⟨oj,_,h1,_⟩:=hU j hj;exact⟨oj,h1⟩
    have gx:∀t,t∈u.rt->(vw R U s0 (fun i=>listed.getD i false) R.size).get t=(vw R U s0 (fun _=>true) i).get t:=by
      intro t ht;rw[Oi (i:=i) R.size oz]
      · refine G5 i (fun j oj hj gy hd=>?_)
        obtain⟨uj,fH⟩:=Iw j oj gy;exact RK j oj uj gy fH hj (by simp[mQ,CD,hd,ht])
      · intro j oj hj gy hd
        obtain⟨uj,fH⟩:=Iw j oj gy;rcases apz i j with hlt |hge
        · exact xa j oj uj gy fH hlt (by simp[mQ,CD,hd,ht])
        · rw[show j=i by omega];exact dO
    have qv:∀k,k∈u.rd->(vw R U s0 (fun i=>listed.getD i false) R.size).blk k=(vw R U s0 (fun _=>true) i).blk k:=by
      intro k hk;rw[L3 (i:=i) R.size oz]
      · refine Gs i (fun j uj hj fH hd=>?_)
        obtain⟨oj,gy⟩:=DK j uj fH;exact RK j oj uj gy fH hj (by simp[mQ,zg hd hk])
      · intro j uj hj fH hd
        obtain⟨oj,gy⟩:=DK j uj fH;rcases apz i j with hlt |hge
        · exact xa j oj uj gy fH hlt (by simp[mQ,zg hd hk])
        · rw[show j=i by omega];exact dO
    have eK:mG (vw R U s0 (fun i=>listed.getD i false) R.size) u:=by
      intro k hk
      by_cases Ix:k∈u.rd
      · exact .inl Ix
      refine .inr ?_
      have hfr:s0.Fresh k:=by
        rcases sW u (apo hu) k hk with h |h
        · exact ard (by simpa using h) Ix
        · exact AS.fresh_of h
      have bp:k∈u.wr.filter fun k=>!u.rd.contains k:=by simp[anq,Ix];simpa[Out.wr]using hk
      have nf:∀j uj,listed.getD j false=true->U[j]?=some uj->k∉uj.nm/\k∉uj.wr:=by
        intro j uj hl fH;obtain⟨oj,gy⟩:=DK j uj fH;rcases Nat.lt_trichotomy j i with hlt |heq |hgt
        · have hm:=aj5 (It j i oj uj o u gy fH ho hu hlt).2 bp
          exact⟨fun h=>hm (ap2.2 (.inl h)),fun h=>hm (ap2.2 (.inr h))⟩
        · subst heq;rw[dO]at hl;cases hl
        · refine⟨fun hn=>?_,fun xb=>?_⟩
          · have := xa j oj uj gy fH hgt (by simp only [mQ, zg bp hn, Bool.or_true])
            rw[hl]at this;cases this
          · have := xa j oj uj gy fH hgt (by simp [mQ, zg (by simpa [Out.wr] using hk : k ∈ u.wr) xb])
            rw[hl]at this;cases this
      refine⟨?_,hfr.2.1,?_,?_⟩
      · cases hb:(vw R U s0 (fun i=>listed.getD i false) R.size).blk k with
        |none=>exact hb
        |some x =>
          rcases PZ _ hb with h |⟨j,uj,hl,fH,xb,_⟩
          · rw[AS.blk,hfr.1]at h;cases h
          · exact ard xb (nf j uj hl fH).2
      · intro t x hx hn
        rcases UU _ hx with h |⟨j,uj,hl,fH,hv⟩
        · exact hfr.2.2.1 t x h hn
        · exact(nf j uj hl fH).1 (ajt hv hn)
      · intro k' x hx hn
        rcases PZ _ hx with h |⟨j,uj,hl,fH,_,hv⟩
        · exact hfr.2.2.2 k' x h hn
        · exact(nf j uj hl fH).1 (VO hv hn)
    unfold wpOpIn;simp only[ho];have akq:nd o=true:=ap3.1 dN o (by simpa using Array.mem_of_getElem? ho)
    suffices hs:(if Region.wanted o (yielded R a.tmps)then wq P o a w (wpAnyIn (Fw C.ro) n P .any R Q _ (listed.setIfInBounds i true)) Q else wpAnyIn (Fw C.ro) n P .any R Q _ (listed.setIfInBounds i true) (a.put o.dst undef) w) by
      split
      · rename_i hw;rw[aq7 hw]at hs;exact Pa akq hs
      · rename_i hw;rw[aq6 hw]at hs;exact⟨fun _ _=>trivial,hs⟩
    refine(ep i o u ho hu).run _ ⟨gx,qv⟩ eK C m a w Q _ hN h ?_;intro m' a' w' h'
    have hL:∀j,(listed.setIfInBounds i true).getD j false=if j=i then true else listed.getD j false:=by
      intro j;simp only[ap1,api]
      by_cases hj:j=i
      · subst hj
        rw[aq7 rfl,aq7 rfl,aq7 oz];rfl
      · rw[aq6 oz,aq6 hj]
    refine ih (listed.setIfInBounds i true) (by simpa using bH) ?_ ?_ m' a' w' ?_
    · intro j oj gy hl e he hb
      simp only[hL]at hl ⊢
      by_cases RL:e.on=i
      · simp[RL]
      · rw[aq6 RL]
        by_cases hj:j=i
        · subst hj;rw[ho]at gy;cases gy;exact RJ e he hb
        · rw[aq6 hj]at hl;exact f7 j oj gy hl e he hb
    · have e1:((List.range R.size).filter fun j=>!(listed.setIfInBounds i true).getD j false) =
          ((List.range R.size).filter fun j=>!listed.getD j false).filter fun j=>!decide (j=i):=by
        rw[List.filter_filter];refine List.filter_congr (fun j _=>?_);rw[hL]
        by_cases hj:j=i <;> simp[hj]
      have e2:(((List.range R.size).filter fun j=>!listed.getD j false).filter fun j=>!decide (j=i)).length<((List.range R.size).filter fun j=>!listed.getD j false).length:=by
        rw[List.length_filter_lt_length_iff_exists];exact⟨i,by simp[anq,RI];simpa using dO,by simp⟩
      rw[e1];omega
    · refine h'.congr (fun t=>?_) (fun k=>?_)
      · rw[lr]
        by_cases hd:o.dst=some t
        · rw[aq7 hd]
          rw[Oi (i:=i+1) R.size oz]
          · simp only[vw,hL,if_true,ho,hu,lr,hd]
          · intro j oj hj gy uL
            rw[hL,aq6 oz];obtain⟨uj,fH⟩:=Iw j oj gy;exact xa j oj uj gy fH oz (by simp[mQ,hd,uL])
        · rw[aq6 hd]
          refine G5 _ (fun j oj hj gy uL=>?_);rw[hL,aq6];rintro rfl;rw[ho]at gy;cases gy;exact hd uL
      · rw[wC]
        by_cases hd:k∈u.wr
        · rw[aq7 hd]
          rw[L3 (i:=i+1) R.size oz]
          · simp only[vw,hL,if_true,ho,hu,wC,hd]
          · intro j uj hj fH uL
            rw[hL,aq6 oz];obtain⟨oj,gy⟩:=DK j uj fH;exact xa j oj uj gy fH oz (by simp[mQ,zg hd uL])
        · rw[aq6 hd]
          refine Gs _ (fun j uj hj fH uL=>?_);rw[hL,aq6];rintro rfl;rw[hu]at fH;cases fH;exact hd uL
end
inductive TK where
  |bool |int (k:IntKind) |string |slice (e:Nat) |array (n e:Nat) |struct |iface (n:Nat) |pointer (e:Nat) |other
  deriving Inhabited
structure TI where
  size:Nat
  bytes:Nat
  zero:List arh
  k:TK
  fs:List (Nat×Nat)
  deriving Inhabited
def TI.ag(t:TI):Bool:=match t.k with | .struct | .array _ _=>true |_=>false
def kQ:TypeDesc->TK
  | .bool=>.bool
  | .int k=>.int k
  | .string=>.string
  | .slice e=>.slice e
  | .array n e=>.array n e
  | .struct _=>.struct
  | .interface ms=>.iface ms.size
  | .pointer e=>.pointer e
  |_=>.other
def wM(P:arj):TypeDesc->List (Nat×Nat)
  | .struct fs=>fs.toList.map fun f=>(f.offset,match P.info? f.type with |some j=>j.size |none=>0)
  |_=>[]
def aJ(P:arj)(t:ari):Option TI :=
  match P.info? t,P.underlying t with
  |some i,some d=>match i.zero with
    |some z=>some ⟨i.size,i.bytes,z.cells.toList,kQ d,wM P d⟩
    |none=>none
  |_,_=>none
theorem z6{P:arj}{t:ari}{ti:TI}(h:aJ P t=some ti) :
  ∃i d z,P.info? t=some i/\P.underlying t=some d/\i.zero=some z/\ti=⟨i.size,i.bytes,z.cells.toList,kQ d,wM P d⟩:=by
 unfold aJ at h;split at h
 ·rename_i i d h1 h2;split at h
  ·rename_i z h3;cases h;exact⟨i,d,z,h1,h2,h3,rfl⟩
  ·cases h
 ·cases h
theorem kj{P:arj}{t:ari}{ti:TI}(h:aJ P t=some ti)(w:ark):(sizeOf t).run P w=.ok ti.size w:=by
 obtain⟨i,d,z,h1,h2,h3,rfl⟩:=z6 h;simp[sizeOf,typeInfo,h1]
theorem JL{P:arj}{t:ari}{ti:TI}(h:aJ P t=some ti)(w:ark):∃i,(typeInfo t).run P w=.ok i w/\i.bytes=ti.bytes/\i.size=ti.size:=by
 obtain⟨i,d,z,h1,h2,h3,rfl⟩:=z6 h;exact⟨i,by simp[typeInfo,h1],rfl,rfl⟩
theorem xy{P:arj}{t:ari}{ti:TI}(h:aJ P t=some ti)(w:ark):∃z,(zeroValue t).run P w=.ok z w/\z.cells.toList=ti.zero:=by
 obtain⟨i,d,z,h1,h2,h3,rfl⟩:=z6 h;exact⟨z,by simp[zeroValue,typeInfo,h1,h3],rfl⟩
theorem f6{P:arj}{t:ari}{ti:TI}(h:aJ P t=some ti)(w:ark):∃d,(underlying t).run P w=.ok d w/\kQ d=ti.k/\wM P d=ti.fs/\P.underlying t=some d:=by
 obtain⟨i,d,z,h1,h2,h3,rfl⟩:=z6 h;exact⟨d,by simp[underlying,h2],rfl,rfl,h2⟩
theorem mb{d:TypeDesc}{e:Nat}(h:kQ d=.slice e):d=.slice e:=by cases d <;> simp_all [kQ]
theorem Qi{d:TypeDesc}(h:kQ d=.string):d=.string:=by cases d <;> simp_all [kQ]
theorem Mz{d:TypeDesc}(h:kQ d=.bool):d=.bool:=by cases d <;> simp_all [kQ]
theorem XT{d:TypeDesc}{k:IntKind}(h:kQ d=.int k):d=.int k:=by cases d <;> simp_all [kQ]
theorem QZ{d:TypeDesc}(h:kQ d=.struct):∃fs,d=.struct fs:=by cases d <;> simp_all [kQ]
theorem Mo{d:TypeDesc}{n:Nat}(h:kQ d=.iface n):∃ms,d=.interface ms/\ms.size=n:=by cases d <;> simp_all [kQ]
theorem aat{P:arj}{t:ari}{ti:TI}(h:aJ P t=some ti)(w:ark):(isAgg t).run P w=.ok ti.ag w:=by
 obtain⟨d,h1,h2,-,-⟩:=f6 h w;simp only[isAgg,arm,h1,arl,TI.ag,<- h2];cases d <;> rfl
theorem mX(b off n:Nat):(⟨b,off,none⟩:Addr).add n=⟨b,off+n,none⟩:=by
 unfold Addr.add;split
 ·subst_vars;rfl
 ·rfl
theorem vB{w:ark}{b off:Nat}{c:Array arh}{t:ari}{f:Nat×Nat}(hb:w.heap[b]?=some (.cells c t f)) :
  w.cell? ⟨b,off,none⟩=c[off]? := by
 simp[World.cell?,hb]
theorem Bq{P:arj}{w:ark}{T:ari}{ti:TI}{b off:Nat}{c:Array arh}{t:ari}{f:Nat×Nat}
  (hT:aJ P T=some ti) (hb:w.heap[b]?=some (.cells c t f)) (cG:off+ti.size<=c.size) (h1:ti.ag=true\/ti.size=1) :
  (loadVar T ⟨b,off,none⟩).run P w=.ok (if ti.ag then .agg (c.extract off (off+ti.size))else c.getD off undef) w:=by
 simp only[loadVar,arm,aat hT,arl];cases ha:ti.ag with
 |true =>
  simp only[if_true];have hl:(c.extract off (off+ti.size)).toList.length=ti.size:=by simp;omega
  have:=run_loadCells_list (P:=P) w ⟨b,off,none⟩ (c.extract off (off+ti.size)).toList (by
   intro j v hj;rw[mX,vB hb];simp only[apd,ao5]at hj;split at hj
   ·exact hj
   ·cases hj)
  rw[hl]at this;simp only[arm,kj hT,arl,this,arn,Array.toArray_toList]
 |false =>
  rcases h1 with h1 |h1
  ·rw[ha]at h1;cases h1
  ·simp only [aoz, if_false, run_load, vB hb];have:off < c.size:=by omega
   simp[this,ap1]
def oG(ag:Bool)(l:List AV):AV:=match ag with
  |true=>.agg l
  |false=>match l with |x::_=>x |[]=>default
theorem BT{g:Nat->Array arh->Prop}{S:Nat->Nat->Prop}{m:Nat->Option Nat}{c:Array arh}{off n:Nat}{ag:Bool}{xs:List AV}
  (hn:xs.length=n) (cG:off+n<=c.size) (h1:ag=true\/n=1) (ho:∀(j:Nat)(x:AV),xs[j]?=some x->x.one=true)
  (hr:∀(j:Nat)(u:arh)(x:AV),xs[j]?=some x->c[off+j]?=some u->Rep g S m u x) :
  Rep g S m (if ag then .agg (c.extract off (off+n))else c.getD off undef) (oG ag xs):=by
 cases ag with
 |true =>
  simp only[if_true,oG];refine .agg (by simp;omega) ho ?_;intro j u x hu hx;simp only[ao5]at hu;split at hu
  ·exact hr j u x hx hu
  ·cases hu
 |false =>
  rcases h1 with h1 |h1
  ·cases h1
  ·subst h1
   match xs,hn with
   |[x],_ =>
    simp only[aoz,if_false,oG];have:off<c.size:=by omega
    refine hr 0 _ x rfl ?_;simp[this,ap1]
def cq(P:arj)(N:Nat)(c:Code)(Q:Exit->AS->Prop)(s:AS):Prop :=
  ∀C m a w n,C.nt=N->RelM C s m a w->c.wpIn (Fw C.ro) n P (fun e a' w'=>∃s' m',Q e s'/\RelM C s' m' a' w') a w
def oc(P:arj)(N:Nat)(c:Code)(Q:Exit->AS->Prop)(s:AS):Prop :=
  ∀C m a w n,C.ro=none->C.nt=N->RelM C s m a w->c.wpIn (Fw C.ro) n P (fun e a' w'=>∃s' m',Q e s'/\RelM C s' m' a' w') a w
theorem cq.out{P:arj}{N:Nat}{c:Code}{Q:Exit->AS->Prop}{s:AS}(h:cq P N c Q s):oc P N c Q s:=fun C m a w n _=>h C m a w n
def Wk(s s':AS):Prop:=∀C m a w,RelM C s m a w->∃m',RelM C s' m' a w
theorem Wk.refl(s:AS):Wk s s:=fun _ m _ _ h=>⟨m,h⟩
theorem Wk.trans{s s' s'':AS}(h:Wk s s')(h':Wk s' s''):Wk s s'':=fun C m a w hr=>by
 obtain⟨m',hr'⟩:=h C m a w hr;exact h' C m' a w hr'
variable{P:arj}{N:Nat}{Q:Exit->AS->Prop}{s:AS}
theorem yd{c:Code}{s':AS}(hw:Wk s s')(h:cq P N c Q s'):cq P N c Q s:=by
 intro C m a w n hN hr;obtain⟨m',hr'⟩:=hw C m a w hr;exact h C m' a w n hN hr'
theorem mZ{c:Code}{Q':Exit->AS->Prop}(h:cq P N c Q s)(hq:∀e s,Q e s->Q' e s):cq P N c Q' s :=
 fun C m a w n hN hr=>wpIn_mono (h C m a w n hN hr) fun e _ _ ⟨s',m',hQ,hr'⟩=>⟨s',m',hq e s' hQ,hr'⟩
theorem aaz{c:Code}{p:Prop}(hp:∀C m a w,RelM C s m a w->p)(h:p->cq P N c Q s):cq P N c Q s :=
 fun C m a w n hN hr=>h (hp C m a w hr) C m a w n hN hr
def Rm(K:AS->Prop)(Q:Exit->AS->Prop):Exit->AS->Prop
  | .normal,s=>K s
  |e,s=>Q e s
theorem aep{x y:Code}(h:∀K:AS->Prop,(∀s,cq P N y Q s->K s)->cq P N x (Rm K Q) s):cq P N (.seq x y) Q s:=by
 intro C m a w n hN hr;refine wpIn_seq (wpIn_mono (h (cq P N y Q) (fun _ h=>h) C m a w n hN hr) ?_);rintro e a' w' ⟨s',m',hq,hr'⟩;cases e with
 |normal=>exact hq C m' a' w' n hN hr'
 |_=>exact⟨s',m',hq,hr'⟩
theorem TD(h:Q .normal s):cq P N .skip Q s:=fun _ m _ _ _ _ hr=>wpIn_skip ⟨s,m,h,hr⟩
theorem Zm(h:Q .ret s):cq P N .ret Q s:=fun _ m _ _ _ _ hr=>wpIn_ret ⟨s,m,h,hr⟩
theorem ac1{id:Nat}(h:Q (.exit id) s):cq P N (.exit id) Q s:=fun _ m _ _ _ _ hr=>wpIn_exit ⟨s,m,h,hr⟩
def Dn(id:Nat)(K:AS->Prop)(Q:Exit->AS->Prop):Exit->AS->Prop
  | .exit id',s=>match amq id' id with |true=>K s |false=>Q (.exit id') s
  | .normal,s=>K s
  |e,s=>Q e s
theorem akb{id:Nat}{c:Code}(h:cq P N c (Dn id (Q .normal) Q) s):cq P N (.block id c) Q s:=by
 intro C m a w n hN hr;refine wpIn_block (wpIn_mono (h C m a w n hN hr) ?_);rintro e a' w' ⟨s',m',hq,hr'⟩;cases e with
 |exit id' =>
  simp only[Exit.inBlock];simp only[Dn]at hq;split at hq
  ·rename_i hb;rw[aq7 (apy hb)];exact⟨s',m',hq,hr'⟩
  ·rename_i hb;rw[aq6 (al1 hb)];exact⟨s',m',hq,hr'⟩
 |_=>exact⟨s',m',hq,hr'⟩
inductive Ev(s:AS):arg->AV->Prop
  |tmp {t:Nat} {x:AV} (h:s.get t=some x):Ev s (.tmp t) x
  |opt {t:Nat} {b:Bool} {x:AV} (h:s.get t=some (.opt b x)) (hb:b=true):Ev s (.tmp t) x
  |const (c:arh):Ev s (.const c) (.v c)
  |func (f:FuncId):Ev s (.func f) (.v (.func (.func f) #[] #[]))
theorem Ev.rep{C:Ctx}{m:Nat->Option Nat}{a:Act}{w:ark}(hr:RelM C s m a w){o:arg}{x:AV}(h:Ev s o x) :
  Rep (Im C.ext s.hp m w) (Sz w) m (a.eval o) x:=by
 cases h with
 |tmp h=>exact(hr.slots _ _ h).2
 | @opt t _ _ h hb =>
  have h2:=(hr.slots _ _ h).2;show Rep _ _ m (a.tmps.getD t undef) x;generalize a.tmps.getD t undef=u at h2;cases h2 with |opt h' _=>exact h' hb
 |const c=>exact .v _
 |func f=>exact .v _
theorem MN{c:arg}{x y:Code}{b:Bool}(hc:Ev s c (.v (.bool b)))(ht:b=true->cq P N x Q s)(hf:b=false->cq P N y Q s) :
  cq P N (.cond c x y) Q s:=by
 intro C m a w n hN hr;have h:=hc.rep hr
 have:a.eval c=.bool b:=by
  generalize a.eval c=v at h;cases h;rfl
 exact wpIn_cond_split this (fun hb=>ht hb C m a w n hN hr) (fun hb=>hf hb C m a w n hN hr)
theorem WR{F:Fence}{n9:Nat}{c:Code}{Q:Exit->Act->ark->Prop}{a:Act}{w:ark}(I:Nat->Act->ark->Prop){n:Nat}(h₀:I n a w)
  (round:∀n a w,I n a w->c.wpIn F n9 P (Exit.then (fun a' w'=>∃n',n'<n/\I n' a' w') Q) a w):(Code.loop c).wpIn F n9 P Q a w:=by
 intro b k cs ov hb hr
 have key:∀n a w,I n a w->∃e a' w',Q e a' w'/\ArrivesIn (Machine.fenced P F) P (lone (b.atR a (.code c :: .inLoop c::k)) cs w) b k cs e a' w':=by
  intro n
  induction n using Nat.strongRecOn with
  |_ n ih =>
   intro a w hI;obtain⟨e,a₁,w₁,hq,DL⟩:=round n a w hI b (.inLoop c::k) cs ov hb hr;cases e with
   |normal =>
    obtain⟨n',hlt,hI₁⟩:=hq;obtain⟨e₂,a₂,w₂,hq₂,harr₂⟩:=ih n' hlt a₁ w₁ hI₁;exact⟨e₂,a₂,w₂,hq₂,.of_steps (StepsIn.trans DL (.one (fenced_calm hb hr rfl) stepR_inLoop)) harr₂⟩
   |_=>exact⟨_,a₁,w₁,hq,.pass (x:=.inLoop c) rfl (fun _ _=>.inl (by simp)) DL⟩
 obtain⟨e,a',w',hq,DL⟩:=key n a w h₀;exact⟨e,a',w',hq,.of_steps (.one (fenced_calm hb hr rfl) stepR_loop) DL⟩
theorem vV{c:Code}(I:Nat->AS->Prop){n:Nat}{s':AS}(hw:Wk s s')(h₀:I n s')
  (round:∀n s,I n s->∀K:AS->Prop,(∀s1 s2 n',Wk s1 s2->I n' s2->n'<n->K s1)->cq P N c (Rm K Q) s):cq P N (.loop c) Q s:=by
 intro C m a w n9 hN hr;obtain⟨m1,bA⟩:=hw C m a w hr;refine WR (fun n a w=>∃s m,I n s/\RelM C s m a w) ⟨s',m1,h₀,bA⟩ ?_;rintro n a w ⟨s,m,hI,hr⟩;refine wpIn_mono (round n s hI (fun s1=>∃s2 n',Wk s1 s2/\I n' s2/\n'<n) (fun s1 s2 n' h1 h2 h3=>⟨s2,n',h1,h2,h3⟩) C m a w n9 hN hr) ?_;rintro e a' w' ⟨s1,m1,hq,bA⟩;cases e with
 |normal =>
  obtain⟨s2,n',h1,h2,h3⟩:=hq;obtain⟨m2,iG⟩:=h1 C m1 a' w' bA;exact⟨n',h3,s2,m2,h2,iG⟩
 |_=>exact⟨s1,m1,hq,bA⟩
theorem UA{id:Nat}{ops:List Oper}(hd:ops.all nd=true)(h:kc P N ops.toArray ops s [] (fun s' _=>Q .normal s')):cq P N (.region id ops.toArray false) Q s:=by
 intro C m a w n hN hr;refine wpIn_region ?_;have:=VV (C:=C) (n:=n) hN (Q:=fun e a' w'=>∃s' m',Q e s'/\RelM C s' m' a' w') (fun s us m a w hq hr=>⟨s,m,hq,hr⟩) ops 0 s [] m a w (by simp) hd h hr;rw[List.range_eq_range'];simpa using this
theorem UJ{R:Array Oper}{K:AS->List Out->Prop}:∀(ops:List Oper)(s:AS)(us:List Out),kc P N R ops s us K ->
  ∃us',us'.length=ops.length/\K (vw ops.toArray us' s (fun _=>true) ops.length) (us++us') /\
   ∀(i:Nat) o u,ops[i]?=some o->us'[i]?=some u->Step P N R (vw ops.toArray us' s (fun _=>true) i) o u:=by
 intro ops
 induction ops with
 |nil=>intro s us h;exact⟨[],rfl,by simpa[vw,kc]using h,by simp⟩
 |cons o ops ih =>
  intro s us h;obtain⟨u,hs,hn,h⟩:=h;obtain⟨us',h1,h2,h3⟩:=ih _ _ h
  have hv:∀i,vw (o::ops).toArray (u::us') s (fun _=>true) (i+1)=vw ops.toArray us' (s.app o.dst u) (fun _=>true) i:=by
   intro i
   induction i with
   |zero=>simp[vw]
   |succ i ih =>
    rw[vw,ih,vw];simp
  refine⟨u::us',by simp[h1],?_,?_⟩
  ·rw[ap4,hv];simpa using h2
  ·intro i o' u' ho hu;cases i with
   |zero=>simp at ho hu;subst ho;subst hu;simpa[vw]using hs
   |succ i =>
    rw[hv];exact h3 i o' u' (by simpa using ho) (by simpa using hu)
theorem ado{id:Nat}{ops:List Oper}(hd:ops.all nd=true)(hm:P.follows .mixedOrders=true)
  (h:kc P N ops.toArray ops s [] (fun s' us=>chk ops us s=true/\Q .normal s')):cq P N (.region id ops.toArray true) Q s:=by
 intro C m a w n hN hr;obtain⟨us,h1,⟨h2,h3⟩,h4⟩:=UJ ops s [] h;refine wpIn_region_any hm ?_;refine Yp (C:=C) (by simpa using hd) hN (U:=us) (s0:=s) (by simpa using h1) (by simpa using h4) (by simpa using h2) ?_ _ _ (by simp) ?_ ?_ m a _ ?_
 ·intro m a w hr;exact⟨_,m,h3,by simpa using hr⟩
 ·intro i o _ hl;simp only[ap1,ape]at hl;split at hl <;> simp at hl
 ·exact aqe (List.length_filter_le _ _) (by simp)
 ·have hz:∀n,vw ops.toArray us s (fun i=>(apf ops.toArray.size false).getD i false) n=s:=by
   intro n
   induction n with
   |zero=>rfl
   |succ n ih =>
    rw[vw,ih]
    have:(apf ops.toArray.size false).getD n false=false:=by
     simp only[ap1,ape];split <;> rfl
    rw[this]
  rw[hz];exact hr.drawn _
end Go.Lw
namespace Go.Lw
variable{P:arj}{N:Nat}{R:Array Oper}{s:AS}{pos:String}{after:Array Edge}
theorem ar{o:Oper}{ops:List Oper}{us:List Out}{K:AS->List Out->Prop}{u:Out}(hs:Step P N R s o u)(hn:mG s u)
  (h:kc P N R ops (s.app o.dst u) (us++[u]) K):kc P N R (o::ops) s us K:=⟨u,hs,hn,h⟩
def az:arg->List Nat
  | .tmp t=>[t]
  |_=>[]
theorem Ev.agree{s':AS}{u:Out}(h:jF s s' u){o:arg}{x:AV}(he:Ev s o x)(hs:∀t∈az o,t∈u.rt):Ev s' o x:=by
 cases he with
 |tmp ht=>exact .tmp ((h.1 _ (hs _ (by simp[az]))).trans ht)
 |opt ht hb=>exact .opt ((h.1 _ (hs _ (by simp[az]))).trans ht) hb
 |const c=>exact .const c
 |func f=>exact .func f
theorem q5{o:Oper}(hg:o.guard=none)(y:Nat->Option Bool):Region.wanted o y=true:=by simp[Region.wanted,hg]
theorem fj{o:Oper}{d:Nat}{x:AV}{rt rd:List Nat}(hg:o.guard=none)(hd:o.dst=some d)(hN:aly d N=true)
  (h:∀s',jF s s' ⟨some x,[],rt,rd⟩->∀C m a w,RelM C s' m a w ->
   ∃v,(execOp a.eval o).run P w=.ok (.value v) w/\Rep (Im C.ext s'.hp m w) (Sz w) m v x):Step P N R s o ⟨some x,[],rt,rd⟩:=by
 refine⟨fun s' aH _ C m a w Q next hC hr hnext=>?_⟩;rw[aq7 (q5 hg _)];refine z9 ?_;obtain⟨v,h1,h2⟩:=h s' aH C m a w hr;rw[al5]at hN;unfold Oper.wp;rw[h1];simp only[Oper.upon,hd,Act.put];refine hnext m _ _ ?_;have:=hr.put d v (some x) (fun y hy=>by cases hy;exact⟨by have:=hr.nt;omega,h2⟩);simpa[AS.app,hd]using this
theorem ab1{d:Nat}{x:arg}{v:AV}{t:ari}(he:Ev s x v)(hN:aly d N=true) :
  Step P N R s ⟨some d,.move x,t,pos,after,none⟩ ⟨some v,[],az x,[]⟩ :=
 fj rfl rfl hN fun s' aH C m a w hr=>⟨a.eval x,rfl,(he.agree aH (fun _ h=>h)).rep hr⟩
theorem UI{d:Nat}{x:arg}{v:AV}{t:ari}(he:Ev s x v)(hN:aly d N=true) :
  Step P N R s ⟨some d,.assign x,t,pos,after,none⟩ ⟨some v,[],az x,[]⟩ :=
 fj rfl rfl hN fun s' aH C m a w hr=>⟨a.eval x,rfl,(he.agree aH (fun _ h=>h)).rep hr⟩
def Sub(x y:AV):Prop:=∀g S m v,Rep g S m v x->Rep g S m v y
theorem Sub.nil(sz:Nat)(a:Option Addr)(c:Nat):Sub (.v (.slice a 0 c)) (.lst sz []):=fun g S m v h=>by cases h;exact .lst0 a c sz
theorem wA{d:Nat}{op:Op}{x:arg}{vx y:arh}{t:ari}(he:Ev s x (.v vx))(hN:aly d N=true)
  (h:∀(ρ:arg->arh)(w:ark),ρ x=vx->(execOp ρ ⟨some d,op,t,pos,after,none⟩).run P w=.ok (.value y) w) :
  Step P N R s ⟨some d,op,t,pos,after,none⟩ ⟨some (.v y),[],az x,[]⟩ :=
 fj rfl rfl hN fun s' aH C m a w hr=>⟨y,h _ _ (by
  have:=(he.agree aH (fun _ h=>h)).rep hr;generalize a.eval x=u at this;cases this;rfl),.v y⟩
theorem mz{d:Nat}{op:Op}{x x':arg}{vx vx' y:arh}{t:ari}(he:Ev s x (.v vx))(he':Ev s x' (.v vx'))
  (hN:aly d N=true)
  (h:∀(ρ:arg->arh)(w:ark),ρ x=vx->ρ x'=vx'->(execOp ρ ⟨some d,op,t,pos,after,none⟩).run P w=.ok (.value y) w) :
  Step P N R s ⟨some d,op,t,pos,after,none⟩ ⟨some (.v y),[],az x++az x',[]⟩ :=
 fj rfl rfl hN fun s' aH C m a w hr=>⟨y,h _ _ (by
  have:=(he.agree aH (fun _ h=>ap2.2 (.inl h))).rep hr;generalize a.eval x=u at this;cases this;rfl) (by
  have:=(he'.agree aH (fun _ h=>ap2.2 (.inr h))).rep hr;generalize a.eval x'=u at this;cases this;rfl),.v y⟩
theorem Yl{d:Nat}{x:arg}{b:Bool}{T t:ari}(he:Ev s x (.v (.bool b)))(hN:aly d N=true) :
  Step P N R s ⟨some d,.unOp .not T x,t,pos,after,none⟩ ⟨some (.v (.bool !b)),[],az x,[]⟩ :=
 wA he hN fun ρ w h=>by simp[execOp,h,Op.unary]
theorem Bh{d:Nat}{x:arg}{k:IntKind}{n:Int}{T t:ari}(he:Ev s x (.v (.int k n)))(hN:aly d N=true) :
  Step P N R s ⟨some d,.unOp .neg T x,t,pos,after,none⟩ ⟨some (.v (.int k (k.wrap (0-n)))),[],az x,[]⟩ :=
 wA he hN fun ρ w h=>by simp[execOp,h,Op.unary,Op.intArith]
theorem agh{d:Nat}{x:arg}{k k':IntKind}{n:Int}{S T t:ari}{ts ti:TI}(he:Ev s x (.v (.int k n)))
  (hN:aly d N=true) (hS:aJ P S=some ts) (hT:aJ P T=some ti) (hk:ti.k=.int k') :
  Step P N R s ⟨some d,.convert S T x,t,pos,after,none⟩ ⟨some (.v (.int k' (k'.wrap n))),[],az x,[]⟩ :=
 wA he hN fun ρ w h=>by
  obtain⟨d1,h1,-,-,-⟩:=f6 hS w;obtain⟨d2,h2,h3,-,-⟩:=f6 hT w;obtain rfl:=XT (h3.trans hk);simp[execOp,h,convert,h1,h2,Conv.intToInt]
theorem age{d:Nat}{x:arg}{v:arh}{T t:ari}{ti:TI}(he:Ev s x (.v v))(hN:aly d N=true)
  (hT:aJ P T=some ti) (hk:(match ti.k with | .int _=>true | .struct=>true | .pointer _=>true | .string=>true |_=>false)=true) :
  Step P N R s ⟨some d,.makeInterface T x,t,pos,after,none⟩ ⟨some (.v (.iface T v)),[],az x,[]⟩ :=
 wA he hN fun ρ w h=>by
  obtain⟨d2,h2,h3,-,-⟩:=f6 hT w
  have:∀ms,d2≠.interface ms:=by
   rintro ms rfl;rw[<- h3]at hk;simp[kQ]at hk
  simp only[execOp,h,Instr.makeInterface,arm,h2,arl];cases d2 <;> first |rfl |exact ard rfl (this _)
def jv(op:BinOp)(a b:Int):Int:=match op with | .add=>a+b | .sub=>a-b |_=>a*b
theorem acz{d:Nat}{op:BinOp}{x y:arg}{k:IntKind}{a b:Int}{S T t:ari}
  (hx:Ev s x (.v (.int k a))) (hy:Ev s y (.v (.int k b))) (cP:(match op with | .add | .sub | .mul=>true |_=>false)=true) (hN:aly d N=true) :
  Step P N R s ⟨some d,.binOp op S x y T,t,pos,after,none⟩ ⟨some (.v (.int k (k.wrap (jv op a b)))),[],az x++az y,[]⟩ :=
 mz hx hy hN fun ρ w h1 h2=>by
  cases op <;> simp at cP <;> simp[execOp,h1,h2,eqGuard,binOp,Op.intArith,jv]
def aa(op:BinOp)(a b:Int):Bool:=match op with
  | .eql=>a==b | .neq=>a != b | .lss=>a<b | .leq=>a<=b | .gtr=>a>b |_=>a>=b
theorem ZM{d:Nat}{op:BinOp}{x y:arg}{k:IntKind}{a b:Int}{S T t:ari}
  (hx:Ev s x (.v (.int k a))) (hy:Ev s y (.v (.int k b))) (cP:(match op with | .eql | .neq | .lss | .leq | .gtr | .geq=>true |_=>false)=true) (hN:aly d N=true) :
  Step P N R s ⟨some d,.binOp op S x y T,t,pos,after,none⟩ ⟨some (.v (.bool (aa op a b))),[],az x++az y,[]⟩ :=
 mz hx hy hN fun ρ w h1 h2=>by
  cases op <;> simp at cP <;> simp[execOp,h1,h2,eqGuard,binOp,Op.intCmp,aa]
theorem aex{d:Nat}{x y:arg}{k:IntKind}{a b:Int}{S T t:ari}
  (hx:Ev s x (.v (.int k a))) (hy:Ev s y (.v (.int k b))) (hb:b≠0) (hN:aly d N=true) :
  Step P N R s ⟨some d,.binOp .quo S x y T,t,pos,after,none⟩ ⟨some (.v (.int k (k.wrap (a.tdiv b)))),[],az x++az y,[]⟩ :=
 mz hx hy hN fun ρ w h1 h2=>by simp[execOp,h1,h2,eqGuard,binOp,Op.intDiv,hb]
theorem VC{d:Nat}{x y:arg}{k:IntKind}{a b:Int}{S T t:ari}
  (hx:Ev s x (.v (.int k a))) (hy:Ev s y (.v (.int k b))) (hb:b≠0) (hN:aly d N=true) :
  Step P N R s ⟨some d,.binOp .rem S x y T,t,pos,after,none⟩ ⟨some (.v (.int k (a.tmod b))),[],az x++az y,[]⟩ :=
 mz hx hy hN fun ρ w h1 h2=>by simp[execOp,h1,h2,eqGuard,binOp,Op.intDiv,hb]
theorem adt{d:Nat}{x y:arg}{k k':IntKind}{a b:Int}{S T t:ari}
  (hx:Ev s x (.v (.int k a))) (hy:Ev s y (.v (.int k' b))) (hb:0<=b) (hN:aly d N=true) :
  Step P N R s ⟨some d,.binOp .shl S x y T,t,pos,after,none⟩ ⟨some (.v (.int k (k.wrap (a*2^(min b.toNat k.bits))))),[],az x++az y,[]⟩ :=
 mz hx hy hN fun ρ w h1 h2=>by simp[execOp,h1,h2,eqGuard,binOp,Op.shift,Int.not_lt.2 hb]
theorem Z7{d:Nat}{x y:arg}{k k':IntKind}{a b:Int}{S T t:ari}
  (hx:Ev s x (.v (.int k a))) (hy:Ev s y (.v (.int k' b))) (hb:0<=b) (hN:aly d N=true) :
  Step P N R s ⟨some d,.binOp .shr S x y T,t,pos,after,none⟩ ⟨some (.v (.int k (a.fdiv (2^(min b.toNat k.bits))))),[],az x++az y,[]⟩ :=
 mz hx hy hN fun ρ w h1 h2=>by simp[execOp,h1,h2,eqGuard,binOp,Op.shift,Int.not_lt.2 hb]
def tO(op:BinOp)(k:IntKind)(a b:Int):Int :=
  let x:=BitVec.ofInt k.bits a
  let y:=BitVec.ofInt k.bits b
  k.wrap ((match op with | .and=>x &&& y | .or=>x ||| y | .xor=>x ^^^ y |_=>x &&& ~~~y).toNat:Int)
theorem WD{d:Nat}{op:BinOp}{x y:arg}{k:IntKind}{a b:Int}{S T t:ari}
  (hx:Ev s x (.v (.int k a))) (hy:Ev s y (.v (.int k b))) (cP:(match op with | .and | .or | .xor | .andNot=>true |_=>false)=true) (hN:aly d N=true) :
  Step P N R s ⟨some d,.binOp op S x y T,t,pos,after,none⟩ ⟨some (.v (.int k (tO op k a b))),[],az x++az y,[]⟩ :=
 mz hx hy hN fun ρ w h1 h2=>by
  cases op <;> simp at cP <;> simp[execOp,h1,h2,eqGuard,binOp,Op.intBits,tO]
theorem afn{d:Nat}{x y:arg}{a b:ByteArray}{S T t:ari}
  (hx:Ev s x (.v (.string a))) (hy:Ev s y (.v (.string b))) (hN:aly d N=true) :
  Step P N R s ⟨some d,.binOp .eql S x y T,t,pos,after,none⟩ ⟨some (.v (.bool (a.toList==b.toList))),[],az x++az y,[]⟩ :=
 mz hx hy hN fun ρ w h1 h2=>by simp[execOp,h1,h2,eqGuard,binOp,Op.stringOp]
theorem aar{d:Nat}{x y:arg}{a b:ByteArray}{S T t:ari}
  (hx:Ev s x (.v (.string a))) (hy:Ev s y (.v (.string b))) (hN:aly d N=true) :
  Step P N R s ⟨some d,.binOp .neq S x y T,t,pos,after,none⟩ ⟨some (.v (.bool !(a.toList==b.toList))),[],az x++az y,[]⟩ :=
 mz hx hy hN fun ρ w h1 h2=>by simp[execOp,h1,h2,eqGuard,binOp,Op.stringOp]
theorem KM{S:ari}{w:ark}(h3:(underlying S).run P w=.ok .bool w)(a b:Bool):(Op.equal S (.bool a) (.bool b)).run P w=.ok (a==b) w:=by
 show(Op.equalIn (9999+1) S _ _).run P w=_;rw[Op.equalIn];simp[h3]
theorem MH{S:ari}{w:ark}{ms:Array (String×ari)}(h3:(underlying S).run P w=.ok (.interface ms) w){v:arh}
  (hv:v=.nilIface\/∃T u,v=.iface T u):(Op.equal S v .nilIface).run P w=.ok (match v with | .nilIface=>true |_=>false) w:=by
 show(Op.equalIn (9999+1) S _ _).run P w=_;rw[Op.equalIn];rcases hv with rfl |⟨T',u,rfl⟩ <;> simp[h3]
theorem afh{d:Nat}{x y:arg}{a b:Bool}{S T t:ari}{ti:TI}
  (hx:Ev s x (.v (.bool a))) (hy:Ev s y (.v (.bool b))) (hS:aJ P S=some ti) (hk:ti.k=.bool) (hN:aly d N=true) :
  Step P N R s ⟨some d,.binOp .eql S x y T,t,pos,after,none⟩ ⟨some (.v (.bool (a==b))),[],az x++az y,[]⟩ :=
 mz hx hy hN fun ρ w h1 h2=>by
  obtain⟨d2,h3,h4,-,-⟩:=f6 hS w;obtain rfl:=Mz (h4.trans hk);simp[execOp,h1,h2,eqGuard,binOp,KM h3]
theorem Vk{d:Nat}{x y:arg}{a b:Bool}{S T t:ari}{ti:TI}
  (hx:Ev s x (.v (.bool a))) (hy:Ev s y (.v (.bool b))) (hS:aJ P S=some ti) (hk:ti.k=.bool) (hN:aly d N=true) :
  Step P N R s ⟨some d,.binOp .neq S x y T,t,pos,after,none⟩ ⟨some (.v (.bool (a != b))),[],az x++az y,[]⟩ :=
 mz hx hy hN fun ρ w h1 h2=>by
  obtain⟨d2,h3,h4,-,-⟩:=f6 hS w;obtain rfl:=Mz (h4.trans hk);simp[execOp,h1,h2,eqGuard,binOp,KM h3,bne]
def gI:arh->Bool
  | .nilIface=>true
  |_=>false
theorem ah9{d:Nat}{x:arg}{v:arh}{S T t:ari}{ti:TI}{n:Nat}
  (hx:Ev s x (.v v)) (hv:v=.nilIface\/∃T u,v=.iface T u) (hS:aJ P S=some ti) (hk:ti.k=.iface n) (hN:aly d N=true) :
  Step P N R s ⟨some d,.binOp .eql S x (.const .nilIface) T,t,pos,after,none⟩ ⟨some (.v (.bool (gI v))),[],az x++[],[]⟩ :=
 fj rfl rfl hN fun s' aH C m a w hr=>⟨.bool (gI v),by
  have h:=(hx.agree aH (fun _ h=>ap2.2 (.inl h))).rep hr
  have h1:a.eval x=v:=by
   generalize a.eval x=u at h;cases h;rfl
  have h2:a.eval (.const .nilIface)=.nilIface:=rfl;obtain⟨d2,h3,h4,-,-⟩:=f6 hS w;obtain⟨ms,rfl,-⟩:=Mo (h4.trans hk);have h5:=MH h3 hv;rcases hv with rfl |⟨T',u,rfl⟩ <;> simp[execOp,h1,h2,eqGuard,binOp,h5,gI],.v _⟩
theorem WY{d:Nat}{x:arg}{v:arh}{S T t:ari}{ti:TI}{n:Nat}
  (hx:Ev s x (.v v)) (hv:v=.nilIface\/∃T u,v=.iface T u) (hS:aJ P S=some ti) (hk:ti.k=.iface n) (hN:aly d N=true) :
  Step P N R s ⟨some d,.binOp .neq S x (.const .nilIface) T,t,pos,after,none⟩ ⟨some (.v (.bool !(gI v))),[],az x++[],[]⟩ :=
 fj rfl rfl hN fun s' aH C m a w hr=>⟨.bool !(gI v),by
  have h:=(hx.agree aH (fun _ h=>ap2.2 (.inl h))).rep hr
  have h1:a.eval x=v:=by
   generalize a.eval x=u at h;cases h;rfl
  have h2:a.eval (.const .nilIface)=.nilIface:=rfl;obtain⟨d2,h3,h4,-,-⟩:=f6 hS w;obtain⟨ms,rfl,-⟩:=Mo (h4.trans hk);have h5:=MH h3 hv;rcases hv with rfl |⟨T',u,rfl⟩ <;> simp[execOp,h1,h2,eqGuard,binOp,h5,gI],.v _⟩
theorem aay{d:Nat}{x:arg}{sz:Nat}{es:List AV}{T t:ari}{ti:TI}{e:Nat}
  (hx:Ev s x (.lst sz es)) (hT:aJ P T=some ti) (hk:ti.k=.slice e) (hN:aly d N=true) :
  Step P N R s ⟨some d,.call ⟨.builtin .len,#[x],#[T]⟩,t,pos,after,none⟩ ⟨some (.v (.int .i64 es.length)),[],az x,[]⟩ :=
 fj rfl rfl hN fun s' aH C m a w hr=>⟨.int .i64 es.length,by
  have h:=(hx.agree aH (fun _ h=>h)).rep hr;obtain⟨d2,h3,h4,-,-⟩:=f6 hT w;obtain rfl:=mb (h4.trans hk);generalize hu:a.eval x=u at h;cases h <;> simp[execOp,resolve,hu,invoke,builtin,Builtin.len_,h3,goInt],.v _⟩
theorem aas{d:Nat}{x:arg}{k sz off len:Nat}{T t:ari}{ti:TI}{e:Nat}
  (hx:Ev s x (.ms k sz off len)) (hT:aJ P T=some ti) (hk:ti.k=.slice e) (hN:aly d N=true) :
  Step P N R s ⟨some d,.call ⟨.builtin .len,#[x],#[T]⟩,t,pos,after,none⟩ ⟨some (.v (.int .i64 len)),[],az x,[]⟩ :=
 fj rfl rfl hN fun s' aH C m a w hr=>⟨.int .i64 len,by
  have h:=(hx.agree aH (fun _ h=>h)).rep hr;obtain⟨d2,h3,h4,-,-⟩:=f6 hT w;obtain rfl:=mb (h4.trans hk);generalize hu:a.eval x=u at h;cases h <;> simp[execOp,resolve,hu,invoke,builtin,Builtin.len_,h3,goInt],.v _⟩
theorem ajk{d:Nat}{x:arg}{b:ByteArray}{T t:ari}{ti:TI}
  (hx:Ev s x (.v (.string b))) (hT:aJ P T=some ti) (hk:ti.k=.string) (hN:aly d N=true) :
  Step P N R s ⟨some d,.call ⟨.builtin .len,#[x],#[T]⟩,t,pos,after,none⟩ ⟨some (.v (.int .i64 b.size)),[],az x,[]⟩ :=
 wA hx hN fun ρ w h=>by
  obtain⟨d2,h3,h4,-,-⟩:=f6 hT w;obtain rfl:=Qi (h4.trans hk);simp[execOp,resolve,h,invoke,builtin,Builtin.len_,h3,goInt]
theorem aii{d:Nat}{x:arg}{a:Option Addr}{n c:Nat}{T t:ari}{ti:TI}{e:Nat}
  (hx:Ev s x (.v (.slice a n c))) (hT:aJ P T=some ti) (hk:ti.k=.slice e) (hN:aly d N=true) :
  Step P N R s ⟨some d,.call ⟨.builtin .len,#[x],#[T]⟩,t,pos,after,none⟩ ⟨some (.v (.int .i64 n)),[],az x,[]⟩ :=
 wA hx hN fun ρ w h=>by
  obtain⟨d2,h3,h4,-,-⟩:=f6 hT w;obtain rfl:=mb (h4.trans hk);simp[execOp,resolve,h,invoke,builtin,Builtin.len_,h3,goInt]
theorem w6{d:Nat}{x y:arg}{a b:Int}{k:IntKind}{T T' t:ari}
  (hx:Ev s x (.v (.int k a))) (hy:Ev s y (.v (.int k b))) (hN:aly d N=true) :
  Step P N R s ⟨some d,.call ⟨.builtin .max,#[x,y],#[T,T']⟩,t,pos,after,none⟩ ⟨some (.v (.int k (max a b))),[],az x++az y,[]⟩ :=
 mz hx hy hN fun ρ w h1 h2=>by
  have:(if b>a then b else a)=max a b:=by split <;> omega
  simp[execOp,resolve,h1,h2,invoke,builtin,Builtin.max_,Builtin.max2,this]
theorem Vm{d:Nat}{x:arg}{xs:List AV}{i:Nat}{y:AV}{t:ari}
  (hx:Ev s x (.tup xs)) (hy:xs[i]?=some y) (hN:aly d N=true) :
  Step P N R s ⟨some d,.extract x i,t,pos,after,none⟩ ⟨some y,[],az x,[]⟩ :=
 fj rfl rfl hN fun s' aH C m a w hr=>by
  have h:=(hx.agree aH (fun _ h=>h)).rep hr;generalize hu:a.eval x=u at h;cases h with
  | @tup _ vs _ hn bn =>
   have hi:i<vs.size:=by
    rw[hn];rcases apz i xs.length with h |h
    ·exact h
    ·rw[ap6 h]at hy;cases hy
   exact⟨vs[i],by simp[execOp,hu,Instr.extract,hi],bn i _ y (by simp[hi]) hy⟩
theorem acf{d:Nat}{c x y:arg}{b bx bz:Bool}{t:ari}(hc:Ev s c (.v (.bool b)))
  (hx:b=true->Ev s x (.v (.bool bx))) (hy:b=false->Ev s y (.v (.bool bz))) (hN:aly d N=true) :
  Step P N R s ⟨some d,.pick c x y,t,pos,after,none⟩ ⟨some (.v (.bool (cond b bx bz))),[],az c++(az x++az y),[]⟩ :=
 fj rfl rfl hN fun s' aH C m a w hr=>by
  have ic:∀(o:arg)(z:Bool),(∀t∈az o,t∈az c++(az x++az y))->Ev s o (.v (.bool z))->a.eval o=.bool z:=by
   intro o z lF h;have:=(h.agree aH lF).rep hr;generalize a.eval o=u at this;cases this;rfl
  have h1:=ic c b (fun t h=>by simp[h]) hc;cases b with
  |true=>exact⟨.bool bx,by simp[execOp,h1,asBool,ic x bx (fun t h=>by simp[h]) (hx rfl)],.v _⟩
  |false=>exact⟨.bool bz,by simp[execOp,h1,asBool,ic y bz (fun t h=>by simp[h]) (hy rfl)],.v _⟩
theorem gK{d j g:Nat}{op:Op}{t:ari}{want b:Bool}{x:AV}{rt rd:List Nat}
  (hj:(R[j]?).bind (·.dst)=some g) (hb:s.get g=some (.v (.bool b))) (hN:aly d N=true)
  (h:b=want->Step P N R s ⟨some d,op,t,pos,after,none⟩ ⟨some x,[],rt,rd⟩) :
  Step P N R s ⟨some d,op,t,pos,after,some (j,want)⟩ ⟨some (.opt (b==want) x),[],g::rt,rd⟩:=by
 refine⟨fun s' aH eK C m a w Q next hC hr hnext=>?_⟩;have hg:=hr.slots g _ ((aH.1 g (by simp)).trans hb)
 have rD:a.tmps[g]?=some (.bool b):=by
  obtain⟨h1,h2⟩:=hg;generalize hu:a.tmps.getD g undef=u at h2;cases h2;simp only[ap1]at hu;rw[apa h1]at hu ⊢;simpa using hu
 have hy:yielded R a.tmps j=some b:=by simp[yielded,hj,rD]
 have hd:d<a.tmps.size:=by rw[al5]at hN;have:=hr.nt;omega
 by_cases ow:b=want
 ·subst ow;have er:Region.wanted ⟨some d,op,t,pos,after,some (j,b)⟩ (yielded R a.tmps) = true:=by simp [Region.wanted,hy]
  rw[aq7 er];have:=(h rfl).run s' ⟨fun t ht=>aH.1 t (by simp[show t∈rt from ht]),aH.2⟩ (fun k hk=>by cases hk) C m a w Q next hC hr (fun m' a' w' h'=>hnext m' a' w' ?_)
  ·rw[aq7 (q5 rfl _)]at this;exact this
  ·refine⟨fun t y hy=>?_,h'.heap,h'.frame,h'.new,h'.keep,h'.defers,h'.nt⟩;simp only[lr]at hy;split at hy
   ·rename_i ni;cases hy;have:=h'.slots t x (by simp only[lr,aq7 ni]);exact⟨this.1,.opt (fun _=>this.2) (fun h=>by simp at h)⟩
   ·rename_i ni;exact h'.slots t y (by simp only[lr,aq6 ni];exact hy)
 ·have er : ¬ Region.wanted ⟨some d, op, t, pos, after, some (j, want)⟩ (yielded R a.tmps) = true := by simp [Region.wanted, hy, ow]
  rw[aq6 er];have:=hr.put d undef (some (.opt (b==want) x)) (fun y hy=>by cases hy;exact⟨hd,.opt (fun h=>ard (beq_iff_eq.1 h) ow) (fun _=>rfl)⟩);refine hnext m _ _ ?_;simpa[AS.app,Act.put]using this
theorem vX{d j g:Nat}{op:Op}{t:ari}{want b c:Bool}{x:AV}{rt rd:List Nat}
  (hj:(R[j]?).bind (·.dst)=some g) (hb:s.get g=some (.opt c (.v (.bool b)))) (hN:aly d N=true)
  (h:c=true->b=want->Step P N R s ⟨some d,op,t,pos,after,none⟩ ⟨some x,[],rt,rd⟩) :
  Step P N R s ⟨some d,op,t,pos,after,some (j,want)⟩ ⟨some (.opt (c&&b==want) x),[],g::rt,rd⟩:=by
 refine⟨fun s' aH eK C m a w Q next hC hr hnext=>?_⟩;have hg:=hr.slots g _ ((aH.1 g (by simp)).trans hb);have hd:d<a.tmps.size:=by rw[al5]at hN;have:=hr.nt;omega
 have rD:(c=true/\a.tmps[g]?=some (.bool b))\/(c=false/\a.tmps[g]?=some undef):=by
  obtain⟨h1,h2⟩:=hg;generalize hu:a.tmps.getD g undef=u at h2;simp only[ap1]at hu;rw[apa h1]at hu ⊢;simp only[apl]at hu;cases h2 with
  |opt h2 h2' =>
   cases c with
   |true=>have:=h2 rfl;cases this;exact .inl ⟨rfl,by rw[hu]⟩
   |false=>exact .inr ⟨rfl,by rw[hu,h2' rfl]⟩
 have nf:∀er:¬Region.wanted ⟨some d,op,t,pos,after,some (j,want)⟩ (yielded R a.tmps)=true,(c&&b==want)=false ->
   if Region.wanted ⟨some d,op,t,pos,after,some (j,want)⟩ (yielded R a.tmps)then wq P ⟨some d,op,t,pos,after,some (j,want)⟩ a w next Q
    else next (a.put (some d) undef) w:=by
  intro er hc;rw[aq6 er];have:=hr.put d undef (some (.opt (c&&b==want) x)) (fun y hy=>by cases hy;exact⟨hd,.opt (fun h=>by rw[hc]at h;cases h) (fun _=>rfl)⟩);refine hnext m _ _ ?_;simpa[AS.app,Act.put]using this
 rcases rD with⟨rfl,rD⟩ |⟨rfl,rD⟩
 ·have hy : yielded R a.tmps j = some b := by simp [yielded, hj, rD]
  by_cases ow:b=want
  ·subst ow;have er:Region.wanted ⟨some d,op,t,pos,after,some (j,b)⟩ (yielded R a.tmps) = true:=by simp [Region.wanted,hy]
   rw[aq7 er];have:=(h rfl rfl).run s' ⟨fun t ht=>aH.1 t (by simp[show t∈rt from ht]),aH.2⟩ (fun k hk=>by cases hk) C m a w Q next hC hr (fun m' a' w' h'=>hnext m' a' w' ?_)
   ·rw[aq7 (q5 rfl _)]at this;exact this
   ·refine⟨fun t y hy=>?_,h'.heap,h'.frame,h'.new,h'.keep,h'.defers,h'.nt⟩;simp only[lr]at hy;split at hy
    ·rename_i ni;cases hy;have:=h'.slots t x (by simp only[lr,aq7 ni]);exact⟨this.1,.opt (fun _=>this.2) (fun h=>by simp at h)⟩
    ·rename_i ni;exact h'.slots t y (by simp only[lr,aq6 ni];exact hy)
  ·exact nf (by simp[Region.wanted,hy,ow]) (by simp[ow])
 ·have hy : yielded R a.tmps j = none := by simp [yielded, hj, rD, undef]
  exact nf (by simp[Region.wanted,hy]) rfl
end Go.Lw
namespace Go.Lw
variable{P:arj}{N:Nat}{R:Array Oper}{s:AS}{pos:String}{after:Array Edge}
def AV.ok:AV->Bool
  | .agg _=>true
  |x=>x.one
theorem AV.ok_spec{x:AV}(h:x.ok=true):(∃cs,x=.agg cs)\/x.one=true:=by
 cases x <;> simp_all [AV.ok]
theorem x3{C:Ctx}{m:Nat->Option Nat}{a:Act}{w:ark}(hr:RelM C s m a w){x:arg}{k off:Nat}(hx:Ev s x (.ptr k off)) :
  ∃b,m k=some b/\a.eval x=.pointer (some ⟨b,off,none⟩):=by
 have h:=hx.rep hr;generalize a.eval x=u at h;cases h with |ptr hm=>exact⟨_,hm,rfl⟩
theorem C1{C:Ctx}{m:Nat->Option Nat}{a:Act}{w:ark}(hr:RelM C s m a w){x:arg}{k sz i off:Nat}(hx:Ev s x (.eptr k sz i off)) :
  ∃b,m k=some b/\a.eval x=.pointer (some ⟨b,i*sz+off,none⟩):=by
 have h:=hx.rep hr;generalize a.eval x=u at h;cases h with |eptr hm=>exact⟨_,hm,rfl⟩
theorem uF{C:Ctx}{m:Nat->Option Nat}{a:Act}{w:ark}(hr:RelM C s m a w){x:arg}{v:arh}(hx:Ev s x (.v v)):a.eval x=v:=by
 have h:=hx.rep hr;generalize a.eval x=u at h;cases h;rfl
theorem CV{ext:Nat->Prop}{hp:Hp}{m:Nat->Option Nat}{w:ark}(h:HeapRel ext hp m w){k b:Nat}{cs:List AV}(hk:lk hp k=some (.box cs))(hm:m k=some b) :
  ∃c t,w.heap[b]?=some (.cells c t (0,0))/\c.size=cs.length/\(∀(j:Nat)(x:AV),cs[j]?=some x->x.one=true) /\
   ∀(j:Nat)(u:arh)(x:AV),c[j]?=some u->cs[j]?=some x->Rep (Im ext hp m w) (Sz w) m u x:=by
 have:=h.blk k _ hk;rw[hm]at this;cases this with |box hw hn h1 hr=>exact⟨_,_,hw,hn,h1,hr⟩
theorem xF{ext:Nat->Prop}{hp:Hp}{m:Nat->Option Nat}{w:ark}(h:HeapRel ext hp m w){k b sz:Nat}{es:List AV}(hk:lk hp k=some (.row sz es))(hm:m k=some b) :
  ∃c t,w.heap[b]?=some (.cells c t (0,0))/\es.length*sz<=c.size/\es.length<=bf/\(∀(i:Nat)(e:AV),es[i]?=some e->e.cells.length=sz) /\
   (∀(i j:Nat)(e x:AV),es[i]?=some e->e.cells[j]?=some x->x.one=true) /\
   ∀(i j:Nat)(e:AV)(u:arh)(x:AV),es[i]?=some e->e.cells[j]?=some x->c[i*sz+j]?=some u->Rep (Im ext hp m w) (Sz w) eP u x:=by
 have:=h.blk k _ hk;rw[hm]at this;cases this with |row hw hn hl hs h1 hr=>exact⟨_,_,hw,hn,hl,hs,h1,hr⟩
theorem ad0{d:Nat}{x:arg}{k off:Nat}{cs:List AV}{T t:ari}{ti:TI}
  (hx:Ev s x (.ptr k off)) (hk:s.blk k=some (.box cs)) (hT:aJ P T=some ti) (cG:Nat.ble (off+ti.size) cs.length=true)
  (h1:(ti.ag||amq ti.size 1)=true) (hN:aly d N=true) :
  Step P N R s ⟨some d,.load T x,t,pos,after,none⟩ ⟨some (oG ti.ag ((cs.drop off).take ti.size)),[],az x,[k]⟩ :=
 fj rfl rfl hN fun s' aH C m a w hr=>by
  rw[al3]at cG;have h1:ti.ag=true\/ti.size=1:=by simpa using h1
  obtain⟨b,hm,hv⟩:=x3 hr (hx.agree aH (fun _ h=>h));obtain⟨c,t,hw,hn,ho,bn⟩:=CV hr.heap ((aH.2 k (by simp)).trans hk) hm;refine⟨_,?_,BT (c:=c) (off:=off) (n:=ti.size) (by simp;omega) oz h1 ?_ ?_⟩
  ·simp[execOp,Instr.loadAt,hv,Instr.sureAddr,Bq hT hw (by omega:off+ti.size<=c.size) h1]
  ·intro j y hy;rw[aqh]at hy;split at hy
   ·rw[aqv]at hy;exact ho _ y hy
   ·cases hy
  ·intro j u y hy hu;rw[aqh]at hy;split at hy
   ·rw[aqv]at hy;exact bn _ u y hu hy
   ·cases hy
theorem No{g:Nat->Array arh->Prop}{S:Nat->Nat->Prop}{m:Nat->Option Nat}{u:arh}{x:AV}(h:Rep g S eP u x):Rep g S m u x :=
 h.mono (fun _ _ h=>h) (fun _ _ h=>h) (fun k b _ hb=>by cases hb)
theorem TY{g:Nat->Array arh->Prop}{S:Nat->Nat->Prop}{m:Nat->Option Nat}{u:arh}{x:AV}(h:Rep g S m u x)(hx:x.nm=[]):Rep g S eP u x :=
 h.mono (fun _ _ h=>h) (fun _ _ h=>h) (fun k b hk _=>by have:=hk.mem;rw[hx]at this;cases this)
theorem qH{i n sz:Nat}(h:i<n):i*sz+sz<=n*sz:=by
 have:=aqi sz (show i+1<=n from h);rw[am5]at this;exact this
theorem f0{d:Nat}{x:arg}{k sz i off:Nat}{es:List AV}{e:AV}{T t:ari}{ti:TI}
  (hx:Ev s x (.eptr k sz i off)) (hk:s.blk k=some (.row sz es)) (he:es[i]?=some e) (hT:aJ P T=some ti) (cG:Nat.ble (off+ti.size) e.cells.length=true)
  (h1:(ti.ag||amq ti.size 1)=true) (hN:aly d N=true) :
  Step P N R s ⟨some d,.load T x,t,pos,after,none⟩ ⟨some (oG ti.ag ((e.cells.drop off).take ti.size)),[],az x,[k]⟩ :=
 fj rfl rfl hN fun s' aH C m a w hr=>by
  rw[al3]at cG;have h1:ti.ag=true\/ti.size=1:=by simpa using h1
  obtain⟨b,hm,hv⟩:=C1 hr (hx.agree aH (fun _ h=>h));obtain⟨c,t,hw,hn,hl,hs,ho,bn⟩:=xF hr.heap ((aH.2 k (by simp)).trans hk) hm
  have hi:i<es.length:=by
   rcases apz i es.length with h |h
   ·exact h
   ·rw[ap6 h]at he;cases he
  have hb:=qH (sz:=sz) hi;have mg:=hs i e he;refine⟨_,?_,BT (c:=c) (off:=i*sz+off) (n:=ti.size) (by simp;omega) oz h1 ?_ ?_⟩
  ·simp[execOp,Instr.loadAt,hv,Instr.sureAddr,Bq hT hw (by omega:i*sz+off+ti.size<=c.size) h1]
  ·intro j y hy;rw[aqh]at hy;split at hy
   ·rw[aqv]at hy;exact ho i _ e y he hy
   ·cases hy
  ·intro j u y hy hu;rw[aqh]at hy;split at hy
   ·rw[aqv]at hy;exact No (bn i _ e u y he hy (by rw[<- hu];congr 1;omega))
   ·cases hy
theorem Ww{d:Nat}{x:arg}{xs:List AV}{T t:ari}{ti:TI}
  (hx:Ev s x (.iptr xs)) (hT:aJ P T=some ti) (cG:(aly 0 ti.size&&Nat.ble ti.size xs.length)=true)
  (h1:(ti.ag||amq ti.size 1)=true) (hN:aly d N=true) :
  Step P N R s ⟨some d,.load T x,t,pos,after,none⟩ ⟨some (oG ti.ag (xs.take ti.size)),[],az x,[]⟩ :=
 fj rfl rfl hN fun s' aH C m a w hr=>by
  simp only[apw,al3,al5]at cG;have h1:ti.ag=true\/ti.size=1:=by simpa using h1
  have h:=(hx.agree aH (fun _ h=>h)).rep hr;generalize hv:a.eval x=u at h;cases h with
  | @iptr _ b off cs _ u hb ho hu bn =>
   obtain⟨_,_,t,f,hw⟩:=hb
   have bH:off+ti.size<=cs.size:=by
    have hlt:ti.size-1<xs.length:=by omega
    have:=hu (ti.size-1) xs[ti.size-1] (by simp[hlt]);rcases apz (off+(ti.size-1)) cs.size with h |h
    ·omega
    ·rw[apj h]at this;cases this
   refine⟨_,?_,BT (c:=cs) (off:=off) (n:=ti.size) (by simp;omega) oz h1 ?_ ?_⟩
   ·simp[execOp,Instr.loadAt,hv,Instr.sureAddr,Bq hT hw bH h1]
   ·intro j y hy;rw[aqh]at hy;split at hy
    ·exact ho _ y hy
    ·cases hy
   ·intro j u' y hy hu';rw[aqh]at hy;split at hy
    ·have:=hu j y hy;rw[hu']at this;cases this
     exact No (bn j y hy)
    ·cases hy
theorem FJ{T:ari}{ti:TI}{f o n:Nat}(hT:aJ P T=some ti)(hk:ti.k=.struct)(hf:ti.fs[f]?=some (o,n))(hn:aly 0 n=true)
  (w:ark) (b off:Nat):(Instr.fieldAt T (.pointer (some ⟨b,off,none⟩)) f).run P w=.ok (.pointer (some ⟨b,off+o,none⟩)) w:=by
 rw[al5]at hn;obtain⟨d2,h2,h3,h4,-⟩:=f6 hT w;obtain⟨fs,rfl⟩:=QZ (h3.trans hk);rw[<- h4]at hf;simp only[wM,apv,apt,apd]at hf;obtain⟨fl,h5,h6⟩:=hf;cases h6;cases hi:P.info? fl.type with
 |none=>rw[hi]at hn;simp at hn
 |some j =>
  rw[hi]at hn;have hj:¬j.size=0:=by simp only at hn;omega
  simp[Instr.fieldAt,h2,h5,Instr.sureAddr,fieldPlace,sizeOf,typeInfo,hi,hj,mX]
theorem aib{d:Nat}{x:arg}{k off f o n:Nat}{T t:ari}{ti:TI}
  (hx:Ev s x (.ptr k off)) (hT:aJ P T=some ti) (hk:ti.k=.struct) (hf:ti.fs[f]?=some (o,n)) (hn:aly 0 n=true) (hN:aly d N=true) :
  Step P N R s ⟨some d,.fieldAddr T x f,t,pos,after,none⟩ ⟨some (.ptr k (off+o)),[],az x,[]⟩ :=
 fj rfl rfl hN fun s' aH C m a w hr=>by
  obtain⟨b,hm,hv⟩:=x3 hr (hx.agree aH (fun _ h=>h));exact⟨_,by simp[execOp,hv,FJ hT hk hf hn],.ptr hm⟩
theorem acc{d:Nat}{x:arg}{k sz i off f o n:Nat}{T t:ari}{ti:TI}
  (hx:Ev s x (.eptr k sz i off)) (hT:aJ P T=some ti) (hk:ti.k=.struct) (hf:ti.fs[f]?=some (o,n)) (hn:aly 0 n=true) (hN:aly d N=true) :
  Step P N R s ⟨some d,.fieldAddr T x f,t,pos,after,none⟩ ⟨some (.eptr k sz i (off+o)),[],az x,[]⟩ :=
 fj rfl rfl hN fun s' aH C m a w hr=>by
  obtain⟨b,hm,hv⟩:=C1 hr (hx.agree aH (fun _ h=>h));refine⟨.pointer (some ⟨b,i*sz+(off+o),none⟩),?_,.eptr hm⟩;simp[execOp,hv,FJ hT hk hf hn,al4]
theorem XY{d:Nat}{x:arg}{xs:List AV}{f o n:Nat}{T t:ari}{ti:TI}
  (hx:Ev s x (.iptr xs)) (hT:aJ P T=some ti) (hk:ti.k=.struct) (hf:ti.fs[f]?=some (o,n)) (hn:aly 0 n=true) (hN:aly d N=true) :
  Step P N R s ⟨some d,.fieldAddr T x f,t,pos,after,none⟩ ⟨some (.iptr (xs.drop o)),[],az x,[]⟩ :=
 fj rfl rfl hN fun s' aH C m a w hr=>by
  have h:=(hx.agree aH (fun _ h=>h)).rep hr;generalize hv:a.eval x=u at h;cases h with
  | @iptr _ b off cs _ u hb ho hu bn =>
   refine⟨_,by simp[execOp,hv,FJ hT hk hf hn];rfl,?_⟩;refine .iptr (fun j=>u (o+j)) hb ?_ ?_ ?_
   ·intro j c hc;rw[aqv]at hc;exact ho _ c hc
   ·intro j c hc;rw[aqv]at hc;rw[al4];exact hu _ c hc
   ·intro j c hc;rw[aqv]at hc;exact bn _ c hc
theorem af4{d:Nat}{x ix:arg}{kk:IntKind}{i:Int}{sz:Nat}{es:List AV}{e:AV}{T E t:ari}{ti te:TI}
  (hx:Ev s x (.lst sz es)) (hi:Ev s ix (.v (.int kk i))) (hT:aJ P T=some ti) (hk:ti.k=.slice E) (hE:aJ P E=some te) (bH:te.size=sz)
  (h0:0<=i) (he:es[i.toNat]?=some e) (hN:aly d N=true) :
  Step P N R s ⟨some d,.indexAddr T x ix,t,pos,after,none⟩ ⟨some (.iptr e.cells),[],az x++az ix,[]⟩ :=
 fj rfl rfl hN fun s' aH C m a w hr=>by
  have h:=(hx.agree aH (fun _ h=>ap2.2 (.inl h))).rep hr;have Iy:=uF hr (hi.agree aH (fun _ h=>ap2.2 (.inr h)));obtain⟨d2,h2,h3,-,-⟩:=f6 hT w;obtain rfl:=mb (h3.trans hk)
  have hlt:i.toNat<es.length:=by
   rcases apz i.toNat es.length with h |h
   ·exact h
   ·rw[ap6 h]at he;cases he
  generalize hv:a.eval x=u at h;cases h with
  |lst0 a cap=>simp at hlt
  | @lst _ b off cap _ _ cs u hb hc hl hs ho hu bn =>
   have jz:0<=i/\i<(es.length:Int):=by omega
   subst bH;refine⟨.pointer (some ⟨b,off+i.toNat*te.size,none⟩),?_,?_⟩
   ·simp[execOp,hv,Iy,Instr.indexAt,asIntOf,h2,jz,kj hE,mX]
   ·refine .iptr (fun j=>u i.toNat j) hb (fun j c hc=>ho i.toNat j e c he hc) (fun j c hc=>hu i.toNat j e c he hc) (fun j c hc=>bn i.toNat j e c he hc)
theorem qW{d:Nat}{x ix:arg}{kk:IntKind}{i:Int}{k sz off len:Nat}{T E t:ari}{ti te:TI}
  (hx:Ev s x (.ms k sz off len)) (hi:Ev s ix (.v (.int kk i))) (hT:aJ P T=some ti) (hk:ti.k=.slice E) (hE:aJ P E=some te) (bH:te.size=sz)
  (h0:0<=i) (he:i<(len:Int)) (hN:aly d N=true) :
  Step P N R s ⟨some d,.indexAddr T x ix,t,pos,after,none⟩ ⟨some (.eptr k sz (off+i.toNat) 0),[],az x++az ix,[]⟩ :=
 fj rfl rfl hN fun s' aH C m a w hr=>by
  have h:=(hx.agree aH (fun _ h=>ap2.2 (.inl h))).rep hr;have Iy:=uF hr (hi.agree aH (fun _ h=>ap2.2 (.inr h)));obtain⟨d2,h2,h3,-,-⟩:=f6 hT w;obtain rfl:=mb (h3.trans hk);generalize hv:a.eval x=u at h;cases h with
  |ms0=>simp at he;omega
  | @ms _ _ _ _ _ cap b hm hc hS =>
   subst bH;refine⟨.pointer (some ⟨b,(off+i.toNat)*te.size+0,none⟩),?_,.eptr hm⟩;simp[execOp,hv,Iy,Instr.indexAt,asIntOf,h2,h0,he,kj hE,mX,amt]
theorem BF{d:Nat}{x ix:arg}{kk:IntKind}{i:Int}{b:ByteArray}{T t:ari}{ti:TI}
  (hx:Ev s x (.v (.string b))) (hi:Ev s ix (.v (.int kk i))) (hT:aJ P T=some ti) (hk:ti.k=.string)
  (h0:0<=i) (he:i<(b.size:Int)) (hN:aly d N=true) :
  Step P N R s ⟨some d,.index T x ix,t,pos,after,none⟩ ⟨some (.v (.int .u8 (b.data.getD i.toNat 0).toNat)),[],az x++az ix,[]⟩ :=
 mz hx hi hN fun ρ w h1 h2=>by
  obtain⟨d2,h3,h4,-,-⟩:=f6 hT w;obtain rfl:=Qi (h4.trans hk);have hlt:i.toNat<b.size:=by omega
  have:b[i.toNat]?=some (b.data.getD i.toNat 0):=by
   rw[getElem?_pos b i.toNat hlt,ap1,apa (show i.toNat<b.data.size from hlt)];rfl
  simp[execOp,h1,h2,Instr.index,asIntOf,h3,h0,this]
inductive EvI(s:AS):Option arg->Nat->Nat->Prop
  |none (d:Nat):EvI s none d d
  |some {x:arg} {k:IntKind} {i:Int} (d:Nat) (h:Ev s x (.v (.int k i))) (h0:0<=i):EvI s (some x) d i.toNat
def yi:Option arg->List Nat
  |some x=>az x
  |none=>[]
theorem EvI.agree{s':AS}{u:Out}(h:jF s s' u){o:Option arg}{d n:Nat}(he:EvI s o d n)(hs:∀t∈yi o,t∈u.rt):EvI s' o d n:=by
 cases he with
 |none=>exact .none _
 |some d h' h0=>exact .some d (h'.agree h hs) h0
theorem EvI.bound{C:Ctx}{m:Nat->Option Nat}{a:Act}{w:ark}(hr:RelM C s m a w){x:arg}{d n y:Nat}(h:EvI s (Option.some x) d n)(hy:n<=y)(code:BoundsCode) :
  (Instr.sliceBound (a.eval x) y code).run P w=.ok n w:=by
 cases h with
 | @some _ k i _ h h0 =>
  have:=uF hr h;have:0<=i/\i<=(y:Int):=by omega
  simp[Instr.sliceBound,asIntOf,uF hr h,this]
theorem Bj{C:Ctx}{m:Nat->Option Nat}{a:Act}{w:ark}(hr:RelM C s m a w){lo hi:Option arg}{l h len cap:Nat}(isS:Bool)
  (hl:EvI s lo 0 l) (hh:EvI s hi len h) (h1:l<=h) (h2:h<=cap) :
  (Instr.sliceBounds isS len cap (lo.map a.eval) (hi.map a.eval) none).run P w=.ok (l,h,cap) w:=by
 cases hi with
 |none =>
  cases hh;cases lo with
  |none=>cases hl;simp[Instr.sliceBounds]
  |some x=>simp[Instr.sliceBounds,hl.bound hr h1]
 |some y =>
  cases lo with
  |none=>cases hl;simp[Instr.sliceBounds,hh.bound hr h2]
  |some x=>simp[Instr.sliceBounds,hl.bound hr h1,hh.bound hr h2]
theorem dZ{d:Nat}{x:arg}{lo hi:Option arg}{l h sz:Nat}{es:List AV}{T E t:ari}{ti te:TI}
  (hx:Ev s x (.lst sz es)) (hl:EvI s lo 0 l) (hh:EvI s hi es.length h) (hT:aJ P T=some ti) (hk:ti.k=.slice E) (hE:aJ P E=some te) (bH:te.size=sz)
  (h1:l<=h) (h2:h<=es.length) (hN:aly d N=true) :
  Step P N R s ⟨some d,.slice T x lo hi none,t,pos,after,none⟩ ⟨some (.lst sz ((es.drop l).take (h-l))),[],az x++(yi lo++yi hi),[]⟩ :=
 fj rfl rfl hN fun s' aH C m a w hr=>by
  have jc:=(hx.agree aH (fun _ h=>ap2.2 (.inl h))).rep hr;have hl':=hl.agree aH (fun _ h=>ap2.2 (.inr (ap2.2 (.inl h))));have hh':=hh.agree aH (fun _ h=>ap2.2 (.inr (ap2.2 (.inr h))));obtain⟨d2,hu,h3,-,-⟩:=f6 hT w;obtain rfl:=mb (h3.trans hk);subst bH;generalize hv:a.eval x=u at jc;cases jc with
  |lst0 a' cap =>
   have:=Bj (P:=P) hr (cap:=cap) true hl' hh' h1 (by simp at h2;omega);simp at this h2;have RM:l=0:=by omega
   refine⟨.slice (if cap=l then a' else a'.map (·.add (l*te.size))) (h-l) (cap-l),?_,?_⟩
   ·simp[execOp,hv,Instr.sliceAt,hu,Instr.slice,this,kj hE]
   ·simp[h2];exact .lst0 _ _ _
  | @lst _ b off cap _ _ cs u hb hc eL hs ho hu' bn =>
   have:=Bj (P:=P) hr (cap:=cap) true hl' hh' h1 oz;refine⟨.slice (if cap=l then some ⟨b,off,none⟩else some ⟨b,off+l*te.size,none⟩) (h-l) (cap-l),?_,?_⟩
   ·simp[execOp,hv,Instr.sliceAt,hu,Instr.slice,this,kj hE,mX]
   ·by_cases hlh:l=h
    ·subst hlh;simp;exact .lst0 _ _ _
    ·have b9 : ¬ cap = l := by omega
     rw[aq6 b9];have bV:((es.drop l).take (h-l)).length=h-l:=by simp;omega
     have gx:∀(i:Nat)(e:AV),((es.drop l).take (h-l))[i]?=some e->es[l+i]?=some e:=by
      intro i e he;rw[aqh]at he;split at he
      ·rwa [aqv]at he
      ·cases he
     have:=Rep.lst (g:=Im C.ext s'.hp m w) (S:=Sz w) (m:=m) (b:=b) (off:=off+l*te.size) (cap:=cap-l) (sz:=te.size) (es:=(es.drop l).take (h-l)) (cs:=cs)
      (fun i j=>u (l+i) j) hb oz oz (fun i e he=>hs _ e (gx i e he)) (fun i j e c he hc=>ho _ j e c (gx i e he) hc)
      (fun i j e c he hc=>by rw[<- hu' (l+i) j e c (gx i e he) hc];congr 1;rw[amt];omega) (fun i j e c he hc=>bn _ j e c (gx i e he) hc)
     rwa [bV]at this
theorem AJ{d:Nat}{x:arg}{lo hi:Option arg}{l h k sz off len:Nat}{T E t:ari}{ti te:TI}
  (hx:Ev s x (.ms k sz off len)) (hl:EvI s lo 0 l) (hh:EvI s hi len h) (hT:aJ P T=some ti) (hk:ti.k=.slice E) (hE:aJ P E=some te) (bH:te.size=sz)
  (h1:l<=h) (h2:h<=len) (hN:aly d N=true) :
  Step P N R s ⟨some d,.slice T x lo hi none,t,pos,after,none⟩ ⟨some (.ms k sz (off+l) (h-l)),[],az x++(yi lo++yi hi),[]⟩ :=
 fj rfl rfl hN fun s' aH C m a w hr=>by
  have jc:=(hx.agree aH (fun _ h=>ap2.2 (.inl h))).rep hr;have hl':=hl.agree aH (fun _ h=>ap2.2 (.inr (ap2.2 (.inl h))));have hh':=hh.agree aH (fun _ h=>ap2.2 (.inr (ap2.2 (.inr h))));obtain⟨d2,hu,h3,-,-⟩:=f6 hT w;obtain rfl:=mb (h3.trans hk);subst bH;generalize hv:a.eval x=u at jc;cases jc with
  |ms0 a' =>
   have:=Bj (P:=P) hr (cap:=0) true hl' hh' h1 oz;have RM:l=0:=by omega
   have hh0:h=0:=by omega
   subst RM;subst hh0
   exact⟨.slice a' 0 0,by simp[execOp,hv,Instr.sliceAt,hu,Instr.slice,this,kj hE],.ms0 _ _ _ _⟩
  | @ms _ _ _ _ _ cap b hm hc hS =>
   have:=Bj (P:=P) hr (cap:=cap) true hl' hh' h1 oz;refine⟨.slice (if cap=l then some ⟨b,off*te.size,none⟩else some ⟨b,off*te.size+l*te.size,none⟩) (h-l) (cap-l),?_,?_⟩
   ·simp[execOp,hv,Instr.sliceAt,hu,Instr.slice,this,kj hE,mX]
   ·by_cases f7:cap=l
    ·subst f7;have:h - cap = 0:=by omega
     rw[this,Nat.sub_self];exact .ms0 _ _ _ _
    ·rw[aq6 f7,<- amt];exact .ms hm oz (by rw[show off+l+(cap-l)=off+cap by omega];exact hS)
theorem akh{d:Nat}{x:arg}{k off:Nat}{t:ari}(hx:Ev s x (.ptr k off))(hN:aly d N=true) :
  Step P N R s ⟨some d,.nilCheck x,t,pos,after,none⟩ ⟨some (.ptr k off),[],az x,[]⟩ :=
 fj rfl rfl hN fun s' aH C m a w hr=>by
  obtain⟨b,hm,hv⟩:=x3 hr (hx.agree aH (fun _ h=>h));exact⟨_,by simp[execOp,hv],.ptr hm⟩
inductive EvL(s:AS):List arg->List AV->Prop
  |nil:EvL s [] []
  |cons {o:arg} {x:AV} {os:List arg} {xs:List AV} (h:Ev s o x) (hs:EvL s os xs):EvL s (o::os) (x::xs)
theorem du{s:AS}{t:Nat}{x:AV}(h:s.get t=some x):EvL s [.tmp t] [x]:=.cons (.tmp h) .nil
theorem bO{s:AS}{t u:Nat}{x y:AV}(h:s.get t=some x)(h2:s.get u=some y):EvL s [.tmp t,.tmp u] [x,y]:=.cons (.tmp h) (du h2)
theorem aO{s:AS}{t u v:Nat}{x y z:AV}(h:s.get t=some x)(h2:s.get u=some y)(h3:s.get v=some z):EvL s [.tmp t,.tmp u,.tmp v] [x,y,z]:=.cons (.tmp h) (bO h2 h3)
def gE:List arg->List Nat
  |[]=>[]
  |o::os=>az o++gE os
theorem EvL.agree{s':AS}{u:Out}(h:jF s s' u){os:List arg}{xs:List AV}(he:EvL s os xs)(hs:∀t∈gE os,t∈u.rt):EvL s' os xs:=by
 induction he with
 |nil=>exact .nil
 |cons h1 _ ih=>exact .cons (h1.agree h (fun t ht=>hs t (by simp[gE,ht]))) (ih (fun t ht=>hs t (by simp[gE,ht])))
theorem EvL.length{os:List arg}{xs:List AV}(he:EvL s os xs):os.length=xs.length:=by
 induction he with
 |nil=>rfl
 |cons _ _ ih=>simp[ih]
theorem EvL.rep{C:Ctx}{m:Nat->Option Nat}{a:Act}{w:ark}(hr:RelM C s m a w){os:List arg}{xs:List AV}(he:EvL s os xs) :
  ∀(j:Nat)(v:arh)(x:AV),(os.map a.eval)[j]?=some v->xs[j]?=some x->Rep (Im C.ext s.hp m w) (Sz w) m v x:=by
 induction he with
 |nil=>intro j v x h;simp at h
 |cons h1 _ ih =>
  intro j v x hv hx;cases j with
  |zero=>simp at hv hx;subst hv;subst hx;exact h1.rep hr
  |succ j=>exact ih j v x (by simpa using hv) (by simpa using hx)
theorem TN{d:Nat}{x:arg}{xs:List AV}{t:ari}(hx:Ev s x (.iptr xs))(hN:aly d N=true) :
  Step P N R s ⟨some d,.nilCheck x,t,pos,after,none⟩ ⟨some (.iptr xs),[],az x,[]⟩ :=
 fj rfl rfl hN fun s' aH C m a w hr=>by
  have h:=(hx.agree aH (fun _ h=>h)).rep hr;generalize hu:a.eval x=u at h;cases h with
  |iptr u' hb ho hv bn=>exact⟨_,by simp[execOp,hu],.iptr u' hb ho hv bn⟩
theorem Tr{d f:Nat}{pre:Array arg}{xs:List AV}{t:ari}(hx:EvL s pre.toList xs)(hnm:(xs.all fun x=>x.nm.isEmpty)=true)(hN:aly d N=true) :
  Step P N R s ⟨some d,.makeFunc (.func f) pre #[],t,pos,after,none⟩ ⟨some (.cl f xs []),[],gE pre.toList,[]⟩ :=
 fj rfl rfl hN fun s' aH C m a w hr=>by
  have hl:=hx.agree aH (fun _ h=>h);refine⟨.func (.func f) (pre.map a.eval) #[],by simp[execOp,Instr.makeFunc],.cl ?_ ?_ rfl (fun j u c hu hc=>by simp at hc)⟩
  ·have:=hl.length;simpa using this
  ·intro j u c hu hc
   exact (hl.rep hr j u c (by simpa using hu) hc).mono (fun _ _ h => h) (fun _ _ h => h) (fun k b hk => by
    have h1:=ap3.1 hnm c (apo hc);have h2:=hk.mem;simp only[List.isEmpty_iff]at h1;rw[h1]at h2;cases h2)
theorem abj{d f:Nat}{caps:Array arg}{xs:List AV}{t:ari}(hx:EvL s caps.toList xs)(hN:aly d N=true) :
  Step P N R s ⟨some d,.makeFunc (.func f) #[] caps,t,pos,after,none⟩ ⟨some (.fn f xs),[],gE caps.toList,[]⟩ :=
 fj rfl rfl hN fun s' aH C m a w hr=>by
  have hl:=hx.agree aH (fun _ h=>h);refine⟨.func (.func f) #[] (caps.map a.eval),by simp[execOp,Instr.makeFunc],.fn ?_ ?_⟩
  ·have:=hl.length;simpa using this
  ·intro j u c hu hc;exact hl.rep hr j u c (by simpa using hu) hc
end Go.Lw
namespace Go.Lw
variable{P:arj}{N:Nat}{R:Array Oper}{s:AS}{pos:String}{after:Array Edge}
def fa(g:Nat->Array arh->Prop)(S:Nat->Nat->Prop)(m:Nat->Option Nat)(c:List arh)(l:List AV):Prop :=
  c.length=l.length/\(∀(j:Nat)(x:AV),l[j]?=some x->x.one=true)/\∀(j:Nat)(u:arh)(x:AV),c[j]?=some u->l[j]?=some x->Rep g S m u x
theorem fa.of_zero{g:Nat->Array arh->Prop}{S:Nat->Nat->Prop}{m:Nat->Option Nat}(z:List arh)(h:z.all Value.oneCell'=true) :
  fa g S m z (z.map .v):=by
 refine⟨by simp,?_,?_⟩
 ·intro j x hx;simp only[apv,apt]at hx;obtain⟨v,hv,rfl⟩:=hx;exact ap3.1 h v (apo hv)
 ·intro j u x hu hx;simp only[apv,apt]at hx;obtain⟨v,hv,rfl⟩:=hx;rw[hu]at hv;cases hv
  exact .v _
theorem fa.of_value{g:Nat->Array arh->Prop}{S:Nat->Nat->Prop}{m:Nat->Option Nat}{v:arh}{x:AV}(h:Rep g S m v x)(hx:x.ok=true) :
  fa g S m v.cells.toList x.cells:=by
 obtain⟨h1,h2,h3⟩:=h.cells (AV.ok_spec hx);exact⟨by simpa using h1,h2,fun j u y hu hy=>h3 j u y (by simpa using hu) hy⟩
theorem fa.mono{g g':Nat->Array arh->Prop}{S S':Nat->Nat->Prop}{m m':Nat->Option Nat}{c:List arh}{l:List AV}(h:fa g S m c l)
  (hg:∀b cs,g b cs->g' b cs) (hS:∀b n,S b n->S' b n) (hm:∀x∈l,∀k b,x.Names k->m k=some b->m' k=some b):fa g' S' m' c l :=
 ⟨h.1,h.2.1,fun j u x hu hx=>(h.2.2 j u x hu hx).mono hg hS (fun k b hk hb=>hm x (apo hx) k b hk hb)⟩
def over{α:Type}(l:List α)(off:Nat)(xs:List α):List α:=l.take off++xs++l.drop (off+xs.length)
theorem mS{α:Type}(l:List α)(off:Nat)(xs:List α)(h:off+xs.length<=l.length)(p:Nat) :
  (over l off xs)[p]?=if p<off then l[p]? else if p<off+xs.length then xs[p-off]? else l[p]? := by
 have h1:(l.take off).length=off:=by simp;omega
 unfold over
 by_cases h2:p<off
 ·rw[aq7 h2,aqt,aqc oz,aqh,aq7 h2]
 ·rw[aq6 h2]
  by_cases h3:p<off+xs.length
  ·rw[aq7 h3,aqc (by simp;omega),aqb oz,h1]
  ·rw[aq6 h3,aqb (by simp;omega),aqv];congr 1;simp;omega
theorem yG{α:Type}(l:List α)(off:Nat)(xs:List α)(h:off+xs.length<=l.length):(over l off xs).length=l.length:=by
 simp[over];omega
theorem fa.over{g:Nat->Array arh->Prop}{S:Nat->Nat->Prop}{m:Nat->Option Nat}{c:List arh}{l:List AV}{c':List arh}{l':List AV}{off:Nat}
  (h:fa g S m c l) (h':fa g S m c' l') (cG:off+l'.length<=l.length):fa g S m (over c off c') (Lw.over l off l'):=by
 have e1:=h.1;have e2:=h'.1;refine⟨by rw[yG _ _ _ oz,yG _ _ _ cG,e1],?_,?_⟩
 ·intro j x hx;rw[mS _ _ _ cG]at hx;split at hx
  ·exact h.2.1 j x hx
  ·split at hx
   ·exact h'.2.1 _ x hx
   ·exact h.2.1 j x hx
 ·intro j u x hu hx;rw[mS _ _ _ cG]at hx;rw[mS _ _ _ oz,e2]at hu;split at hx
  ·rename_i hj;rw[aq7 hj]at hu;exact h.2.2 j u x hu hx
  ·rename_i hj;rw[aq6 hj]at hu
   split at hx
   ·rename_i hj;rw[aq7 hj]at hu;exact h'.2.2 _ u x hu hx
   ·rename_i hj;rw[aq6 hj]at hu;exact h.2.2 j u x hu hx
theorem zH{o:Oper}{d:Nat}{k:Nat}{x:AV}{y:Blk}{rt rd:List Nat}(hg:o.guard=none)(hd:o.dst=some d)(hN:aly d N=true)
  (Iz:k∉rd)
  (h:∀s',jF s s' ⟨some x,[(k,some y)],rt,rd⟩->s'.Fresh k->∀C m a w,RelM C s' m a w ->
   ∃(v:arh)(c:Array arh)(t:ari)(n:Nat),(execOp a.eval o).run P w=.ok (.value v) { w with heap:=w.heap.push (.cells c t),drawn:=n }/\¬y.Names k /\
    (∀(g:Nat->Array arh->Prop)(S:Nat->Nat->Prop)(m':Nat->Option Nat)(w':ark),
     (∀b cs,Im C.ext s'.hp m w b cs->g b cs)->(∀b n,Sz w b n->S b n)->(∀k' b,k'≠k->m k'=some b->m' k'=some b) ->
     w'.heap[w.heap.size]?=some (.cells c t (0,0))->BlkRep g S m' w' (some w.heap.size) y) /\
    (∀(g:Nat->Array arh->Prop)(S:Nat->Nat->Prop)(m':Nat->Option Nat),m' k=some w.heap.size->S w.heap.size c.size->Rep g S m' v x)) :
  Step P N R s o ⟨some x,[(k,some y)],rt,rd⟩:=by
 refine⟨fun s' aH eK C m a w Q next hC hr hnext=>?_⟩;rw[aq7 (q5 hg _)];refine z9 ?_
 have hfr:s'.Fresh k:=by
  rcases eK k (by simp)with h |h
  ·exact ard h Iz
  ·exact h
 obtain⟨v,c,t,n,h1,h2,h3,h4⟩:=h s' aH hfr C m a w hr;rw[al5]at hN;unfold Oper.wp;rw[h1];simp only[Oper.upon,hd,Act.put];refine hnext (fun k'=>if k'=k then some w.heap.size else m k') _ _ ?_;have bA:=(hr.alloc hfr (.cells c t) y h2 h3).drawn n
 have:=bA.put d v (some x) (fun z hz=>by
  cases hz;refine⟨by have:=hr.nt;omega,h4 _ _ _ (aq7 rfl) ⟨c,t,(0,0),?_,apu _⟩⟩;show(w.heap.push _)[w.heap.size]?=_;simp)
 simpa[AS.app,hd]using this
theorem ND{ext:Nat->Prop}{hp:Hp}{m:Nat->Option Nat}{w:ark}{c:Array arh}{l:List AV}{t:ari}{k:Nat}
  (h:fa (Im ext hp m w) (Sz w) m c.toList l) (hk:∀x∈l,¬x.Names k)
  {g:Nat->Array arh->Prop} {S:Nat->Nat->Prop} {m':Nat->Option Nat} {w':ark}
  (hg:∀b cs,Im ext hp m w b cs->g b cs) (hS:∀b n,Sz w b n->S b n) (hm:∀k' b,k'≠k->m k'=some b->m' k'=some b)
  (hw:w'.heap[w.heap.size]?=some (.cells c t (0,0))):BlkRep g S m' w' (some w.heap.size) (.box l):=by
 have h':=h.mono hg hS (m':=m') (fun x hx k' b hn hb=>hm k' b (fun e=>hk x hx (e▸hn)) hb);exact .box hw (by simpa using h'.1) h'.2.1 (fun j u x hu hx=>h'.2.2 j u x (by simpa using hu) hx)
theorem Xd{d:Nat}{T t:ari}{ti:TI}(hT:aJ P T=some ti)(hz:ti.zero.all Value.oneCell'=true)(hN:aly d N=true) :
  Step P N R s ⟨some d,.alloc T,t,pos,after,none⟩ ⟨some (.ptr d 0),[(d,some (.box (ti.zero.map .v)))],[],[]⟩ :=
 zH rfl rfl hN (by simp) fun s' aH hfr C m a w hr => by
  obtain⟨z,h1,h2⟩:=xy hT w;have hc:fa (Im C.ext s'.hp m w) (Sz w) m z.cells.toList (ti.zero.map .v):=by rw[h2];exact .of_zero _ hz
  refine⟨.pointer (some ⟨w.heap.size,0,none⟩),z.cells,T,w.drawn,?_,?_,?_,fun g S m' hm _=>.ptr hm⟩
  ·simp[execOp,Instr.alloc,h1,newVar,newRow]
  ·rintro⟨c,hc,hn⟩;simp only[anx]at hc;obtain⟨v,_,rfl⟩:=hc;cases hn
  ·intro g S m' w' hg hS hm hw;refine ND hc ?_ hg hS hm hw;rintro x hx hn;simp only[anx]at hx;obtain⟨v,_,rfl⟩:=hx;cases hn
theorem Ev.fresh{x:arg}{v:AV}{k:Nat}(h:Ev s x v)(hf:s.Fresh k):¬v.Names k:=by
 cases h with
 |tmp h=>exact hf.2.2.1 _ _ h
 |opt h _=>intro hn;exact hf.2.2.1 _ _ h (.opt hn)
 |const=>intro hn;cases hn
 |func=>intro hn;cases hn
theorem agt{x c:AV}{k:Nat}(hc:c∈x.cells)(hn:c.Names k):x.Names k:=by
 cases x <;> simp only[AV.cells,am8]at hc <;> first
  |(subst hc;exact hn)
  |exact .agg hc hn
theorem We{d:Nat}{x:arg}{v:AV}{T t:ari}(hx:Ev s x v)(hv:v.ok=true)(hN:aly d N=true) :
  Step P N R s ⟨some d,.box T x,t,pos,after,none⟩ ⟨some (.ptr d 0),[(d,some (.box v.cells))],az x,[]⟩ :=
 zH rfl rfl hN (by simp) fun s' aH hfr C m a w hr => by
  have hx':=hx.agree aH (fun _ h=>h);have hc:=fa.of_value (hx'.rep hr) hv;have nf:∀c∈v.cells,¬c.Names d:=fun c hc hn=>hx'.fresh hfr (agt hc hn)
  refine⟨.pointer (some ⟨w.heap.size,0,none⟩),(a.eval x).cells,T,w.drawn,?_,?_,?_,fun g S m' hm _=>.ptr hm⟩
  ·simp[execOp,Instr.box,newVar,newRow]
  ·rintro⟨c,hc,hn⟩;exact nf c hc hn
  ·intro g S m' w' hg hS hm hw;exact ND hc nf hg hS hm hw
theorem BQ{w:ark}{b:Nat}{o:Obj}(hb:w.heap[b]?=some o):b<w.heap.size:=by
 rcases apz b w.heap.size with h |h
 ·exact h
 ·rw[apj h]at hb;cases hb
theorem UK{w:ark}{b i:Nat}{c:Array arh}{t:ari}{v:arh}(hb:w.heap[b]?=some (.cells c t (0,0))) :
  w.setCell ⟨b,i,none⟩ v={ w with heap:=w.heap.setIfInBounds b (.cells (c.setIfInBounds i v) t (0,0)) }:=by
 have hlt:=BQ hb;unfold World.setCell;congr 1;apply Array.ext_getElem?;intro j;rw[api,Array.getElem?_modify]
 by_cases h:b=j
 ·subst h;rw[aq7 rfl,aq7 rfl,aq7 hlt,hb];rfl
 ·rw[aq6 h,aq6 h]
theorem Pj{α:Type}(l:List α)(n:Nat)(v:α)(vs:List α)(h:n+(vs.length+1)<=l.length) :
  over (l.set n v) (n+1) vs=over l n (v::vs):=by
 apply List.ext_getElem?;intro p;rw[mS _ _ _ (by simp;omega),mS _ _ _ (by simpa using h),List.getElem?_set];simp only[ap4]
 by_cases h1:p<n
 ·rw[aq7 oz,aq6 oz,aq7 h1]
 ·by_cases h2:p=n
  ·subst h2;rw[aq7 oz,aq7 rfl,aq7 oz,aq6 oz,aq7 oz,Nat.sub_self];rfl
  ·by_cases h3:p<n+1+vs.length
   ·rw[aq6 oz,aq7 h3,aq6 oz,aq7 oz,show p-n=p-(n+1)+1 by omega,List.getElem?_cons_succ]
   ·rw[aq6 oz,aq6 h3,aq6 oz,aq6 h1,aq6 oz]
theorem H5{b:Nat}{t:ari}:∀(vs:List arh)(c:Array arh)(w:ark)(off i:Nat),w.heap[b]?=some (.cells c t (0,0)) ->
  off+i+vs.length<=c.size->(∀v∈vs,v.oneCell'=true) ->
  (storeCells ⟨b,off,none⟩ vs i).run P w=.ok () { w with heap:=w.heap.setIfInBounds b (.cells (over c.toList (off+i) vs).toArray t (0,0)) }:=by
 intro vs
 induction vs with
 |nil =>
  intro c w off i hb cG _;have hlt:=BQ hb
  have:w.heap.setIfInBounds b (.cells (over c.toList (off+i) []).toArray t (0,0))=w.heap:=by
   apply Array.ext_getElem?;intro j;rw[api];split
   ·subst_vars;rw[hb];simp[over]
   ·rfl
  simp[storeCells,this]
 |cons v vs ih =>
  intro c w off i hb cG hv;have hlt:=BQ hb;simp only[ap4]at cG
  have h1:(store ((⟨b,off,none⟩:Addr).add i) v).run P w=.ok () (w.setCell ⟨b,off+i,none⟩ v):=by
   rw[mX,run_store P w _ v .plain (hv v (by simp)),vB hb];have:off+i<c.size:=by omega
   simp[apa this,World.frozen?,hb]
  rw[storeCells,arm,h1,arl,UK hb]
  have hb':(w.heap.setIfInBounds b (.cells (c.setIfInBounds (off+i) v) t (0,0)))[b]?=some (.cells (c.setIfInBounds (off+i) v) t (0,0)):=by
   rw[api,aq7 rfl,aq7 hlt]
  rw[ih (c.setIfInBounds (off+i) v) _ off (i+1) hb' (by simp;omega) (fun v hm=>hv v (by simp[hm]))];congr 2;rw[Array.setIfInBounds_setIfInBounds];congr 3;rw[aph,show off+(i+1)=off+i+1 by omega,Pj _ _ _ _ (by simp;omega)]
theorem Hs{T:ari}{ti:TI}{w:ark}{b off:Nat}{t:ari}{c:Array arh}{v:arh}(hT:aJ P T=some ti)(hb:w.heap[b]?=some (.cells c t (0,0)))
  (bH:v.cells.size=ti.size) (cG:off+ti.size<=c.size) (hv:∀x∈v.cells.toList,x.oneCell'=true) :
  (storeVar T ⟨b,off,none⟩ v).run P w=.ok () { w with heap:=w.heap.setIfInBounds b (.cells (over c.toList off v.cells.toList).toArray t (0,0)) }:=by
 have:=H5 (P:=P) v.cells.toList c w off 0 hb (by simp;omega) hv;simp only[amj]at this;simp[storeVar,kj hT,bH,this]
theorem ER{o:Oper}{k:Nat}{y y':Blk}{rt rd:List Nat}(hg:o.guard=none)(hd:o.dst=none)(Iz:k∈rd)(hk:s.blk k=some y)
  (h:∀s',jF s s' ⟨none,[(k,some y')],rt,rd⟩->∀C m a w,RelM C s' m a w ->
   ∃(b:Nat)(c c':Array arh)(t:ari),m k=some b/\w.heap[b]?=some (.cells c t (0,0))/\c'.size=c.size /\
    (execOp a.eval o).run P w=.ok .skip { w with heap:=w.heap.setIfInBounds b (.cells c' t (0,0)) } /\
    ∀(g:Nat->Array arh->Prop)(S:Nat->Nat->Prop)(w':ark),
     (∀b cs,Im C.ext s'.hp m w b cs->g b cs)->(∀b n,Sz w b n->S b n)->w'.heap[b]?=some (.cells c' t (0,0))->BlkRep g S m w' (some b) y') :
  Step P N R s o ⟨none,[(k,some y')],rt,rd⟩:=by
 refine⟨fun s' aH eK C m a w Q next hC hr hnext=>?_⟩;rw[aq7 (q5 hg _)];refine z9 ?_;obtain⟨b,c,c',t,hm,hb,bH,h1,h2⟩:=h s' aH C m a w hr;unfold Oper.wp;rw[h1];simp only[Oper.upon,hd,Act.put];refine hnext m _ _ ?_;have:=hr.write (x':=y') ((aH.2 k Iz).trans hk) hm hb bH rfl (fun g S hg hS hw=>h2 g S _ hg hS hw);simpa[AS.app,hd]using this
theorem Pv{g:Nat->Array arh->Prop}{S:Nat->Nat->Prop}{m:Nat->Option Nat}{v:arh}{x:AV}(h:Rep g S m v x)(hx:x.ok=true) :
  ∀u∈v.cells.toList,u.oneCell'=true:=by
 have hc:=fa.of_value h hx;intro u hu;obtain⟨j,hj,rfl⟩:=an4.1 hu;have hj':j<x.cells.length:=by rw[<- hc.1];exact hj
 exact(hc.2.2 j _ _ (aps hj) (aps hj')).one (hc.2.1 j _ (aps hj'))
theorem Zf{x y:arg}{k off:Nat}{cs:List AV}{v:AV}{T t:ari}{ti:TI}
  (hx:Ev s x (.ptr k off)) (hk:s.blk k=some (.box cs)) (hy:Ev s y v) (hv:v.ok=true) (hT:aJ P T=some ti) (bH:amq v.cells.length ti.size=true)
  (cG:Nat.ble (off+ti.size) cs.length=true) :
  Step P N R s ⟨none,.store T x y,t,pos,after,none⟩ ⟨none,[(k,some (.box (over cs off v.cells)))],az x++az y,[k]⟩ :=
 ER rfl rfl (by simp) hk fun s' aH C m a w hr => by
  rw[al3]at cG;have bH:=apy bH;obtain⟨b,hm,ig⟩:=x3 hr (hx.agree aH (fun _ h=>ap2.2 (.inl h)));have qw:=(hy.agree aH (fun _ h=>ap2.2 (.inr h))).rep hr;obtain⟨c,t,hw,hn,ho,bn⟩:=CV hr.heap ((aH.2 k (by simp)).trans hk) hm;have hc:=fa.of_value qw hv;have f7:(a.eval y).cells.size=ti.size:=by have:=hc.1;simp at this;omega
  have h0:fa (Im C.ext s'.hp m w) (Sz w) m c.toList cs:=⟨by simpa using hn,ho,fun j u x hu hx=>bn j u x (by simpa using hu) hx⟩
  have h1:=h0.over hc (off:=off) oz;refine⟨b,c,(over c.toList off (a.eval y).cells.toList).toArray,t,hm,hw,?_,?_,?_⟩
  ·simp[over];omega
  ·have gO:=Hs (P:=P) (off:=off) hT hw f7 oz (Pv qw hv);simp[execOp,Instr.storeAt,ig,Instr.sureAddr,gO]
  ·intro g S w' hg hS hw';have h2:=h1.mono hg hS (m':=m) (fun _ _ _ _ _ h=>h);exact .box hw' (by simpa using h2.1) h2.2.1 (fun j u x hu hx=>h2.2.2 j u x (by simpa using hu) hx)
theorem Mr{x y:arg}{k sz i off:Nat}{es:List AV}{e e' v:AV}{T t:ari}{ti:TI}
  (hx:Ev s x (.eptr k sz i off)) (hk:s.blk k=some (.row sz es)) (he:es[i]?=some e) (hy:Ev s y v) (hv:v.ok=true) (hnm:v.nm=[]) (hT:aJ P T=some ti)
  (bH:amq v.cells.length ti.size=true) (cG:Nat.ble (off+ti.size) e.cells.length=true) (he':e'.cells=over e.cells off v.cells) :
  Step P N R s ⟨none,.store T x y,t,pos,after,none⟩ ⟨none,[(k,some (.row sz (es.set i e')))],az x++az y,[k]⟩ :=
 ER rfl rfl (by simp) hk fun s' aH C m a w hr => by
  rw[al3]at cG;have bH:=apy bH;obtain⟨b,hm,ig⟩:=C1 hr (hx.agree aH (fun _ h=>ap2.2 (.inl h)));have qw:=(hy.agree aH (fun _ h=>ap2.2 (.inr h))).rep hr;obtain⟨c,t,hw,hn,hl,hs,ho,bn⟩:=xF hr.heap ((aH.2 k (by simp)).trans hk) hm;have hc:=fa.of_value (TY qw hnm) hv;have f7:(a.eval y).cells.size=ti.size:=by have:=hc.1;simp at this;omega
  have hi:i<es.length:=by
   rcases apz i es.length with h |h
   ·exact h
   ·rw[ap6 h]at he;cases he
  have hb:=qH (sz:=sz) hi;have mg:=hs i e he;have RN:e'.cells.length=sz:=by rw[he',yG _ _ _ oz,mg]
  refine⟨b,c,(over c.toList (i*sz+off) (a.eval y).cells.toList).toArray,t,hm,hw,?_,?_,?_⟩
  ·simp[over];omega
  ·have gO:=Hs (P:=P) (off:=i*sz+off) hT hw f7 oz (Pv qw hv);simp[execOp,Instr.storeAt,ig,Instr.sureAddr,gO]
  ·intro g S w' hg hS hw'
   have IA:∀(i':Nat)(e2:AV),(es.set i e')[i']?=some e2->(i'=i/\e2=e')\/(i'≠i/\es[i']?=some e2):=by
    intro i' e2 h;rw[List.getElem?_set]at h;split at h
    ·rename_i IB;subst IB
     cases h;exact .inl ⟨rfl,rfl⟩
    ·rename_i IB;exact .inr ⟨fun e=>IB e.symm,h⟩
   have jd:∀(j:Nat)(z:AV),e'.cells[j]?=some z->z.one=true/\∀u,(over c.toList (i*sz+off) (a.eval y).cells.toList)[i*sz+j]?=some u->Rep (Im C.ext s'.hp m w) (Sz w) eP u z:=by
    intro j z hz
    have hjs:j<sz:=by
     rw[<- RN];rcases apz j e'.cells.length with h |h
     ·exact h
     ·rw[ap6 h]at hz;cases hz
    rw[he',mS _ _ _ oz]at hz;have Ah:i*sz+off+(a.eval y).cells.toList.length<=c.toList.length:=by simp;omega
    split at hz
    ·rename_i h1;refine⟨ho i j e z he hz,fun u hu=>?_⟩;rw[mS _ _ _ Ah,aq7 oz]at hu;exact bn i j e u z he hz (by simpa using hu)
    ·rename_i h1;split at hz
     ·rename_i h2;refine⟨hc.2.1 _ z hz,fun u hu=>?_⟩;rw[mS _ _ _ Ah,aq6 oz,aq7 (by simp;omega)]at hu;refine hc.2.2 _ u z ?_ hz;rw[<- hu];congr 1;omega
     ·rename_i h2;refine⟨ho i j e z he hz,fun u hu=>?_⟩;rw[mS _ _ _ Ah,aq6 oz,aq6 (by simp;omega)]at hu;exact bn i j e u z he hz (by simpa using hu)
   refine .row hw' (by simp[over];omega) (by simpa using hl) ?_ ?_ ?_
   ·intro i' e2 h;rcases IA i' e2 h with⟨rfl,rfl⟩ |⟨_,h⟩
    ·exact RN
    ·exact hs i' e2 h
   ·intro i' j e2 z h hz;rcases IA i' e2 h with⟨rfl,rfl⟩ |⟨_,h⟩
    ·exact(jd j z hz).1
    ·exact ho i' j e2 z h hz
   ·intro i' j e2 u z h hz hu;refine Rep.mono hg hS ?_ (fun _ _ _ h=>h);rcases IA i' e2 h with⟨rfl,rfl⟩ |⟨b9,h⟩
    ·exact(jd j z hz).2 u (by simpa using hu)
    ·have Ah : i * sz + off + (a.eval y).cells.toList.length <= c.toList.length := by simp; omega
     have hj:j<sz:=by
      rw[<- hs i' e2 h];rcases apz j e2.cells.length with h |h
      ·exact h
      ·rw[ap6 h]at hz;cases hz
     have hu':(over c.toList (i*sz+off) (a.eval y).cells.toList)[i'*sz+j]?=some u:=by simpa using hu
     rw[mS _ _ _ Ah]at hu'
     have hcu:c.toList[i'*sz+j]?=some u:=by
      rcases apz i' i with hlt |hge
      ·have:=qH (sz:=sz) hlt
       rwa [aq7 oz]at hu'
      ·have := qH (sz := sz) (show i < i' by omega)
       rwa [aq6 oz,aq6 (by simp;omega)]at hu'
     exact bn i' j e2 u z h hz (by simpa using hcu)
end Go.Lw
namespace Go.Lw
variable{P:arj}{N:Nat}{R:Array Oper}{s:AS}{pos:String}{after:Array Edge}
theorem Rw:∀(l:List arh)(n off:Nat)(arr:Array arh),off+n+l.length<=arr.size ->
  ((l.zipIdx n).foldl (fun cs p=>cs.setIfInBounds (off+p.2) p.1) arr).toList=over arr.toList (off+n) l:=by
 intro l
 induction l with
 |nil=>intro n off arr h;simp[over]
 |cons v l ih =>
  intro n off arr h;simp only[ap4]at h;simp only[List.zipIdx_cons,aq5];rw[ih (n+1) off _ (by simp;omega),aph,show off+(n+1)=off+n+1 by omega,Pj _ _ _ _ (by simp;omega)]
def zZ(place:Nat->Option (Nat×Nat)):List AV->List (Nat×AV)->Option (List AV)
  |l,[]=>some l
  |l,(i,x)::r=>match place i with
    |some (off,n)=>match amq x.cells.length n&&Nat.ble (off+n) l.length&&x.ok with
      |true=>zZ place (over l off x.cells) r
      |false=>none
    |none=>none
inductive EvP(s:AS):List (Nat×arg)->List (Nat×AV)->Prop
  |nil:EvP s [] []
  |cons {i:Nat} {o:arg} {x:AV} {os:List (Nat×arg)} {xs:List (Nat×AV)} (h:Ev s o x) (hs:EvP s os xs):EvP s ((i,o)::os) ((i,x)::xs)
def vK:List (Nat×arg)->List Nat
  |[]=>[]
  |(_,o)::os=>az o++vK os
theorem EvP.agree{s':AS}{u:Out}(h:jF s s' u){os:List (Nat×arg)}{xs:List (Nat×AV)}(he:EvP s os xs)(hs:∀t∈vK os,t∈u.rt):EvP s' os xs:=by
 induction he with
 |nil=>exact .nil
 |cons h1 _ ih=>exact .cons (h1.agree h (fun t ht=>hs t (by simp[vK,ht]))) (ih (fun t ht=>hs t (by simp[vK,ht])))
theorem aiy{g:Nat->Array arh->Prop}{S:Nat->Nat->Prop}{mm:Nat->Option Nat}{ev:arg->arh}{place:Nat->Option (Nat×Nat)}
  {os:List (Nat×arg)} {xs:List (Nat×AV)} (hp:EvP s os xs) (kU:∀o x,Ev s o x->Rep g S mm (ev o) x) :
  ∀(c:Array arh)(l l':List AV),fa g S mm c.toList l->zZ place l xs=some l' ->
   ∃c',Instr.fill place c (os.map fun p=>(p.1,ev p.2))=some c'/\fa g S mm c'.toList l':=by
 induction hp with
 |nil=>intro c l l' h hf;cases hf;exact⟨c,rfl,h⟩
 | @cons i o x os xs h1 _ ih =>
  intro c l l' h hf;unfold zZ at hf;split at hf
  ·rename_i off n qz;split at hf
   ·rename_i hc;simp only [apw,al3] at hc;obtain ⟨⟨jz,sW⟩,Is⟩:=hc;have jz:=apy jz;have hx:=fa.of_value (kU o x h1) Is;have bV:(ev o).cells.size = n:=by have:=hx.1; simp at this; omega
    have f7:c.size=l.length:=by have:=h.1;simpa using this
    have DM:=h.over hx (off:=off) oz;have ox:=Rw (ev o).cells.toList 0 off c (by simp;omega);simp only[amj]at ox;obtain⟨c',h2,h3⟩:=ih ((((ev o).cells.toList.zipIdx 0).foldl (fun cs p=>cs.setIfInBounds (off+p.2) p.1) c)) _ l' (by rw[ox];exact DM) hf;refine⟨c',?_,h3⟩;rw[<- h2];simp only[aq2,Instr.fill,qz];rw[aq6 (by simp;omega)];congr 1;rw[<- Array.foldl_toList,Array.toList_zipIdx]
   ·cases hf
  ·cases hf
theorem abn{α β:Type}{w:ark}(f:α->Sem β)(g:α->β):∀(l:List α),(∀x∈l,(f x).run P w=.ok (g x) w)->(l.mapM f).run P w=.ok (l.map g) w:=by
 intro l
 induction l with
 |nil=>intro _;simp
 |cons x l ih =>
  intro h;simp[List.mapM_cons,h x (by simp),ih (fun y hy=>h y (by simp[hy]))]
theorem Y5{d:Nat}{parts:Array (Nat×arg)}{xs:List (Nat×AV)}{l:List AV}{T t:ari}{ti:TI}
  (hx:EvP s parts.toList xs) (hT:aJ P T=some ti) (hk:ti.k=.struct) (hz:ti.zero.all Value.oneCell'=true) (hp:(ti.fs.all fun p=>aly 0 p.2)=true)
  (hl:zZ (fun i=>ti.fs[i]?) (ti.zero.map .v) xs=some l) (hN:aly d N=true) :
  Step P N R s ⟨some d,.build T parts,t,pos,after,none⟩ ⟨some (.agg l),[],vK parts.toList,[]⟩ :=
 fj rfl rfl hN fun s' aH C m a w hr=>by
  have hx':=hx.agree aH (fun _ h=>h);obtain⟨z,h1,h2⟩:=xy hT w;obtain⟨d2,h3,h4,h5,-⟩:=f6 hT w;obtain⟨fs,rfl⟩:=QZ (h4.trans hk);have dl:fa (Im C.ext s'.hp m w) (Sz w) m z.cells.toList (ti.zero.map .v):=by rw[h2];exact .of_zero _ hz
  obtain⟨c',h6,h7⟩:=aiy (place:=fun i=>ti.fs[i]?) hx' (fun o x h=>h.rep hr) z.cells _ l dl hl
  have hm:(fs.mapM fun f=>(do pure (f.offset,<- sizeOf f.type):Sem (Nat×Nat))).run P w=.ok ti.fs.toArray w:=by
   rw[apb];simp only[Sem.run_map];rw[abn _ (fun f=>(f.offset,match P.info? f.type with |some j=>j.size |none=>0))]
   ·simp only[arl,<- h5,wM] <;> rfl
   ·intro f hf
    have:(f.offset,match P.info? f.type with |some j=>j.size |none=>0)∈ti.fs:=by
     rw[<- h5];simp only[wM,anx];exact⟨f,hf,rfl⟩
    have:=ap3.1 hp _ this;simp only[al5]at this;cases hi:P.info? f.type with
    |none=>rw[hi]at this;simp at this
    |some j=>simp[sizeOf,typeInfo,hi]
  refine⟨.agg c',?_,.agg (by simpa using h7.1) h7.2.1 (fun j u x hu hx=>h7.2.2 j u x (by simpa using hu) hx)⟩;have qz:(fun x:Nat=>ti.fs.toArray[x]?)=fun i:Nat=>ti.fs[i]?:=by funext i;simp
  have lG:(parts.map fun p=>(p.1,a.eval p.2)).toList=parts.toList.map fun p=>(p.1,a.eval p.2):=by simp
  have hb:(Instr.build T (parts.map fun p=>(p.1,a.eval p.2))).run P w=.ok (.agg c') w:=by
   simp only[Instr.build,arm,h1,arl,h3,hm,qz,lG,h6,arn]
  simp only[execOp,arm,hb,arl,arn]
theorem aek{o:Oper}{d:Nat}{x:AV}{rt rd:List Nat}(hg:o.guard=none)(hd:o.dst=some d)(hN:aly d N=true)
  (h:∀s',jF s s' ⟨some x,[],rt,rd⟩->∀C m a w,RelM C s' m a w ->
   ∃(v:arh)(c:Array arh)(t:ari),(execOp a.eval o).run P w=.ok (.value v) { w with heap:=w.heap.push (.cells c t) } /\
    (∀(g:Nat->Array arh->Prop)(S:Nat->Nat->Prop),(∀b cs,Im C.ext s'.hp m w b cs->g b cs)->(∀b n,Sz w b n->S b n)->g w.heap.size c->Rep g S m v x)) :
  Step P N R s o ⟨some x,[],rt,rd⟩:=by
 refine⟨fun s' aH _ C m a w Q next hC hr hnext=>?_⟩;rw[aq7 (q5 hg _)];refine z9 ?_;obtain⟨v,c,t,h1,h2⟩:=h s' aH C m a w hr;rw[al5]at hN;unfold Oper.wp;rw[h1];simp only[Oper.upon,hd,Act.put];refine hnext m _ _ ?_;have hf:=G0 (bh s'.hp m) w (.cells c t);have bU:∀k' y b',lk s'.hp k'=some y->m k'=some b'->bh s'.hp m b'\/w.heap.size<=b':=fun k' y b' h1 h2=>.inl ⟨k',y,h1,h2⟩
 have bA:RelM C s' m a { w with heap:=w.heap.push (.cells c t) }:=by
  refine hr.update hf (fun t y k' b' _ _ hb'=>hb') bU (fun k' y _ hy=>⟨⟨y,hy⟩,rfl⟩) ⟨?_,hr.heap.inj,?_⟩
  ·intro k y hk;refine BlkRep.mono (ia hf bU) hf.sz (fun _ _ _ h=>h) rfl ?_ (hr.heap.blk k y hk);intro b hb;have:=(hr.heap.sep k y b hk hb).2;show(w.heap.push _)[b]?=_;rw[ao9,aq6 oz]
  ·intro k y b hk hb;have:=hr.heap.sep k y b hk hb;refine⟨this.1,?_⟩;have:=this.2;simp;omega
 have:=bA.put d v (some x) (fun z hz=>by
  cases hz;refine⟨by have:=hr.nt;omega,h2 _ _ (ia hf bU) hf.sz ⟨fun hc=>?_,?_,t,(0,0),?_⟩⟩
  ·have:=hr.ext_lt hc;omega
  ·rintro⟨k,y,hk,hb⟩;have:=(hr.heap.sep k y _ hk hb).2;omega
  ·show(w.heap.push _)[w.heap.size]?=_;simp)
 simpa[AS.app,hd]using this
end Go.Lw
namespace Go.Lw
variable{P:arj}{N:Nat}{R:Array Oper}{s:AS}{pos:String}{after:Array Edge}
def jY:List AV->List AV
  |[]=>[]
  |e::es=>e.cells++jY es
theorem JC{sz:Nat}:∀(es:List AV),(∀e∈es,e.cells.length=sz)->(jY es).length=es.length*sz
 |[],_=>by simp[jY]
 |e::es,h=>by
  simp only[jY,aqk,ap4,h e (by simp),JC es (fun e he=>h e (by simp[he])),am5];omega
theorem OX{sz:Nat}:∀(es:List AV),(∀e∈es,e.cells.length=sz)->∀(i j:Nat)(e x:AV),es[i]?=some e->e.cells[j]?=some x->(jY es)[i*sz+j]?=some x
 |[],_,i,j,e,x,h,_=>by simp at h
 |e0::es,h,0,j,e,x,he,hx=>by
  simp at he;subst he
  have hj:j<e0.cells.length:=by
   rcases apz j e0.cells.length with h |h
   ·exact h
   ·rw[ap6 h]at hx;cases hx
  simp only[jY,Nat.zero_mul,ams];rw[aqc hj,hx]
 |e0::es,h,i+1,j,e,x,he,hx=>by
  have h0:=h e0 (by simp);simp only[jY,am5];rw[aqb oz,h0,show i*sz+sz+j-sz=i*sz+j by omega];exact OX es (fun e he=>h e (by simp[he])) i j e x (by simpa using he) hx
def qK(n:Nat):List arg->List (Nat×arg)
  |[]=>[]
  |o::os=>(n,o)::qK (n+1) os
theorem Zt{g:Nat->Array arh->Prop}{S:Nat->Nat->Prop}{mm:Nat->Option Nat}{ev:arg->arh}{sz:Nat}
  (kU:∀o x,Ev s o x->Rep g S mm (ev o) x):∀(os:List arg)(es:List AV),EvL s os es->(es.all fun e=>amq e.cells.length sz&&e.ok)=true ->
   ∀(n:Nat)(c:Array arh)(A Z:List AV),A.length=n*sz->Z.length=es.length*sz->fa g S mm c.toList (A++Z) ->
    ∃c',Instr.fill (fun i=>some (i*sz,sz)) c ((qK n os).map fun p=>(p.1,ev p.2))=some c'/\fa g S mm c'.toList (A++jY es):=by
 intro os es hl
 induction hl with
 |nil =>
  intro _ n c A Z hA hZ hc;have:Z=[]:=by simpa using hZ
  subst this;exact⟨c,rfl,by simpa[jY]using hc⟩
 | @cons o x os xs h1 _ ih =>
  intro lH n c A Z hA hZ hc;simp only[all_cons,apw]at lH;obtain⟨⟨mh,o9⟩,lH⟩:=lH;have mh:=apy mh;have hx:=fa.of_value (kU o x h1) o9;have bV:(ev o).cells.size=sz:=by have:=hx.1;simp at this;omega
  simp only[ap4,am5]at hZ;have f7:c.size=A.length+Z.length:=by have:=hc.1;simpa using this
  have DM:=hc.over hx (off:=n*sz) (by simp;omega)
  have hoe:over (A++Z) (n*sz) x.cells=(A++x.cells)++Z.drop sz:=by
   unfold over;rw[<- hA,List.take_left,mh,List.drop_append,aqm oz,show A.length+sz-A.length=sz by omega,nil_append]
  rw[hoe]at DM;have ox:=Rw (ev o).cells.toList 0 (n*sz) c (by simp;omega);simp only[amj]at ox
  obtain⟨c',h2,h3⟩:=ih lH (n+1) ((((ev o).cells.toList.zipIdx 0).foldl (fun cs p=>cs.setIfInBounds (n*sz+p.2) p.1) c)) (A++x.cells) (Z.drop sz)
   (by simp[am5];omega) (by simp;omega) (by rw[ox];exact DM)
  refine⟨c',?_,by simpa[jY,aqt]using h3⟩;rw[<- h2];simp only[qK,aq2,Instr.fill];rw[aq6 (by simp;omega)];congr 1;rw[<- Array.foldl_toList,Array.toList_zipIdx]
theorem XO{g:Nat->Array arh->Prop}{S:Nat->Nat->Prop}{m:Nat->Option Nat}(zero:Array arh)(n:Nat)(hz:zero.toList.all Value.oneCell'=true)(h0:n=0\/zero ≠ #[]) :
  ∃l:List AV,fa g S m ((Array.range n).map (zero[· % zero.size]!)).toList l/\l.length=n:=by
 refine⟨(List.range n).map (fun i=>AV.v (zero[i%zero.size]!)),⟨by simp,?_,?_⟩,by simp⟩
 ·intro j x hx;simp only [apv,apt] at hx;obtain ⟨i,hi,rfl⟩:=hx;have hn:0 < n:=by have:=apo hi; simp at this; omega
  have jR:0<zero.size:=by
   rcases h0 with h |h
   ·omega
   ·rcases al2 zero.size with h' |h'
    ·exact ard (Array.size_eq_zero_iff.1 h') h
    ·exact h'
  have hlt:i%zero.size<zero.size:=alw _ jR;simp only[AV.one];rw[getElem!_pos zero _ hlt];exact ap3.1 hz _ (by simp)
 ·intro j u x hu hx;simp only[apv,apt]at hx;obtain⟨i,hi,rfl⟩:=hx;simp only[Array.toList_map,Array.toList_range,apv,hi,apm,Option.some.injEq]at hu;subst hu;exact .v _
theorem MS{T E:ari}{ti te:TI}{w:ark}{n:Nat}{g:Nat->Array arh->Prop}{S:Nat->Nat->Prop}{mm:Nat->Option Nat}{ev:arg->arh}
  (hT:aJ P T=some ti) (hk:ti.k=.slice E) (hE:aJ P E=some te) (hz:te.zero.all Value.oneCell'=true) (dl:amq te.zero.length te.size=true)
  (kU:∀o x,Ev s o x->Rep g S mm (ev o) x) {os:List arg} {es:List AV} (hl:EvL s os es) (lH:(es.all fun e=>amq e.cells.length te.size&&e.ok)=true)
  (hn:n=es.length) (hb:n*te.size<=2^24) :
  ∃c:Array arh,(Instr.buildSlice T n ((qK 0 os).map fun p=>(p.1,ev p.2)).toArray).run P w =
    .ok (.slice (some ⟨w.heap.size,0,none⟩) n n) { w with heap:=w.heap.push (.cells c E) }/\fa g S mm c.toList (jY es):=by
 obtain⟨d2,h3,h4,-,-⟩:=f6 hT w;obtain rfl:=mb (h4.trans hk);obtain⟨z,h5,h6⟩:=xy hE w;have dl:=apy dl;have Ai:z.cells.size=te.size:=by rw[<- apc,h6];exact dl
 subst hn
 have key:∀zero:Array arh,zero=(if es.length*te.size=0 then #[]else z.cells)->zero.toList.all Value.oneCell'=true/\(es.length*te.size=0\/zero ≠ #[]):=by
  intro zero h;subst h;split
  ·exact⟨rfl,.inl ‹_›⟩
  ·rename_i h;refine⟨by rw[h6];exact hz,.inr (fun he=>?_)⟩;rw[he]at Ai;simp at Ai;exact h (by rw[<- Ai];omega)
 obtain⟨zero,iH⟩:∃zero:Array arh,zero=(if es.length*te.size=0 then #[]else z.cells):=⟨_,rfl⟩
 obtain⟨k1,k2⟩:=key zero iH;obtain⟨Z,hZ,hZl⟩:=XO (g:=g) (S:=S) (m:=mm) zero (es.length*te.size) k1 k2;obtain⟨c',h7,h8⟩:=Zt kU os es hl lH 0 ((Array.range (es.length*te.size)).map (zero[· % zero.size]!)) [] Z (by simp) hZl (by simpa using hZ);refine⟨c',?_,by simpa using h8⟩;have Aj:¬(es.length*te.size>2^24):=by omega
 simp only[Instr.buildSlice,arm,h3,arl,kj hE];rw[aq6 Aj]
 by_cases h0:es.length*te.size=0
 ·rw[aq7 h0]at iH ⊢;subst iH;simp only[arm,arn,arl,h7,newRow,run_newObj]
 ·rw[aq6 h0]at iH ⊢;subst iH;simp only[arm,arn,arl,h5,h7,newRow,run_newObj]
theorem afj{g:Nat->Array arh->Prop}{S:Nat->Nat->Prop}{m:Nat->Option Nat}{b sz:Nat}{c:Array arh}{es:List AV}(hb:g b c)
  (hc:fa g S eP c.toList (jY es)) (hs:∀e∈es,e.cells.length=sz) (hl:es.length<=bf) :
  Rep g S m (.slice (some ⟨b,0,none⟩) es.length es.length) (.lst sz es):=by
 have bV:=JC es hs;have bH:c.size=es.length*sz:=by have:=hc.1;simp at this;omega
 have jd:∀(i j:Nat)(e x:AV),es[i]?=some e->e.cells[j]?=some x->∃u,c[i*sz+j]?=some u/\x.one=true/\Rep g S eP u x:=by
  intro i j e x he hx;have hf:=OX es hs i j e x he hx
  have hlt:i*sz+j<(jY es).length:=by
   rcases apz (i*sz+j) (jY es).length with h |h
   ·exact h
   ·rw[ap6 h]at hf;cases hf
  have RO:i*sz+j<c.size:=by omega
  refine⟨c[i*sz+j],apa RO,hc.2.1 _ x hf,hc.2.2 _ _ x (by simp[RO]) hf⟩
 refine .lst (fun i j=>c.getD (i*sz+j) undef) hb (apu _) hl (fun i e he=>hs e (apo he)) ?_ ?_ ?_
 ·intro i j e x he hx;obtain⟨u,_,h,_⟩:=jd i j e x he hx;exact h
 ·intro i j e x he hx;obtain⟨u,h,_,_⟩:=jd i j e x he hx;simp[ap1,h]
 ·intro i j e x he hx;obtain⟨u,h,_,h2⟩:=jd i j e x he hx;simpa[ap1,h]using h2
theorem Uv{es:List AV}{sz:Nat}(h:(es.all fun e=>amq e.cells.length sz&&e.ok)=true):∀e∈es,e.cells.length=sz:=by
 intro e he;have:=ap3.1 h e he;simp only[apw]at this;exact apy this.1
theorem QA{es:List AV}(h:AV.nms es=[]):∀e∈es,e.nm=[]:=by
 induction es with
 |nil=>intro e he;cases he
 |cons x es ih =>
  simp only[AV.nms,List.append_eq_nil_iff]at h;intro e he;rcases aqf.1 he with rfl |he
  ·exact h.1
  ·exact ih h.2 e he
theorem aid{d n:Nat}{os:List arg}{es:List AV}{T E t:ari}{ti te:TI}{parts:Array (Nat×arg)}
  (hp:parts=(qK 0 os).toArray) (hx:EvL s os es) (hT:aJ P T=some ti) (hk:ti.k=.slice E) (hE:aJ P E=some te) (hz:te.zero.all Value.oneCell'=true)
  (dl:amq te.zero.length te.size=true) (lH:(es.all fun e=>amq e.cells.length te.size&&e.ok)=true) (hnm:AV.nms es=[])
  (hn:n=es.length) (hb:Nat.ble (n*te.size) 16777216=true) (hb':Nat.ble n 16777216=true) (hN:aly d N=true) :
  Step P N R s ⟨some d,.buildSlice T n parts,t,pos,after,none⟩ ⟨some (.lst te.size es),[],gE os,[]⟩ :=
 aek rfl rfl hN fun s' aH C m a w hr=>by
  subst hp;rw[al3]at hb hb';have hx':=hx.agree aH (fun _ h=>h);obtain⟨c,h1,h2⟩:=MS (w:=w) hT hk hE hz dl (fun o x h=>h.rep hr) hx' lH hn oz;refine⟨.slice (some ⟨w.heap.size,0,none⟩) n n,c,E,?_,?_⟩
  ·have : ((qK 0 os).toArray.map fun p => (p.1, a.eval p.2)) = ((qK 0 os).map fun p => (p.1, a.eval p.2)).toArray := by simp
   simp only[execOp,arm,this,h1,arl,arn]
  ·intro g S hg hS mi;subst hn
   have akr:∀x∈jY es,x.nm=[]:=by
    have hh:=QA hnm;clear h2 h1 hx' hx lH hb hb' hnm aH
    induction es with
    |nil=>intro x hx;cases hx
    |cons e es ih =>
     intro x hx;simp only[jY,ap2]at hx;rcases hx with hx |hx
     ·have := hh e (by simp)
      cases e <;> simp only[AV.cells,am8]at hx <;> first
       |(subst hx;exact this)
       |(exact QA this x hx)
     ·exact ih (fun e he=>hh e (by simp[he])) x hx
   have h3:fa g S eP c.toList (jY es):=h2.mono hg hS (fun x hx k b hk _=>by have:=hk.mem;rw[akr x hx]at this;cases this);exact afj mi h3 (Uv lH) (by unfold bf;omega)
theorem j6{d:Nat}{T E t:ari}{ti te:TI}
  (hT:aJ P T=some ti) (hk:ti.k=.slice E) (hE:aJ P E=some te) (hz:te.zero.all Value.oneCell'=true)
  (dl:amq te.zero.length te.size=true) (hN:aly d N=true) :
  Step P N R s ⟨some d,.buildSlice T 0 #[],t,pos,after,none⟩ ⟨some (.ms d te.size 0 0),[(d,some (.row te.size []))],[],[]⟩ :=
 zH rfl rfl hN (by simp) fun s' aH hfr C m a w hr => by
  obtain⟨c,h1,h2⟩:=MS (w:=w) (n:=0) hT hk hE hz dl (fun o x h=>h.rep hr) (.nil:EvL s' [] []) rfl rfl oz;refine⟨.slice (some ⟨w.heap.size,0,none⟩) 0 0,c,E,w.drawn,?_,fun h=>h,?_,fun g S m' hm _=>.ms0 _ _ _ _⟩
  ·have h1':(Instr.buildSlice T 0 #[]).run P w = .ok (.slice (some ⟨w.heap.size, 0, none⟩) 0 0) { w with heap:=w.heap.push (.cells c E) }:=h1;have:((#[]:Array (Nat × arg)).map fun (i,x)=>(i,a.eval x)) = #[]:=by simp
   simp only[execOp,arm,this,h1',arl,arn]
  ·intro g S m' w' hg hS hm hw;exact .row hw (by simp) (by simp) (by simp) (by simp) (by simp)
theorem kJ{d:Nat}{x:arg}{n:Int}{T E t:ari}{ti te:TI}(hx:Ev s x (.v (.int .i64 n)))
    (hT:aJ P T=some ti) (hk:ti.k=.slice E) (hE:aJ P E=some te) (hz:te.zero.all Value.oneCell'=true)
    (dl:(amq te.zero.length te.size&&aly 0 te.size&&aly 0 te.bytes&&(te.ag||amq te.size 1))=true)
    (h0:0<=n) (hb:n*te.bytes<=281474976710656) (hN:aly d N=true) :
    Step P N R s ⟨some d,.makeSlice T x x,t,pos,after,none⟩
      ⟨some (.ms d te.size 0 n.toNat),[(d,some (.row te.size (ana n.toNat (oG te.ag (te.zero.map .v)))))],az x,[]⟩ :=
  zH rfl rfl hN (by simp) fun s' aH hfr C m a w hr => by
    have ig:=uF hr (hx.agree aH (fun _ h=>h));simp only[apw,aqy,al5]at dl;obtain⟨⟨⟨dl,iT⟩,jy⟩,hz3⟩:=dl;have dl:=apy dl;obtain⟨d2,h3,h4,-,-⟩:=f6 hT w;obtain rfl:=mb (h4.trans hk);obtain⟨z,h5,h6⟩:=xy hE w;obtain⟨ie,h7,h8,-⟩:=JL hE w;have Ai:z.cells.size=te.size:=by rw[<- apc,h6];exact dl
    have Aj:n<=281474976710656:=by
      have:n*1<=n*te.bytes:=Int.mul_le_mul_of_nonneg_left oz h0;omega
    have oy:IntKind.i64.wrap n=n:=IntWalk.i64_in n oz;obtain⟨zero,iH⟩:∃zero:Array arh,zero=(if n.toNat*te.size=0 then #[]else z.cells):=⟨_,rfl⟩
    refine⟨.slice (some ⟨w.heap.size,0,none⟩) n.toNat n.toNat,(Array.range (n.toNat*te.size)).map (zero[· % zero.size]!),E,w.drawn,?_,fun h=>h,?_,?_⟩
    · have ii:(Instr.makeSlice T (.int .i64 n) (.int .i64 n)).run P w =
          .ok (.slice (some ⟨w.heap.size,0,none⟩) n.toNat n.toNat) { w with heap:=w.heap.push (.cells ((Array.range (n.toNat*te.size)).map (zero[· % zero.size]!)) E) }:=by
        have hc:¬((n<0\/281474976710656<(ie.bytes:Int)*n)\/n<0):=by
          rw[h8,Int.mul_comm];omega
        simp only[Instr.makeSlice,arm,h3,arl,asInt,asIntOf,arn,h7,oy];rw[aq6 (by simpa using hc)];simp only[arm,run_askRoom,arl,kj hE]
        by_cases h0:n.toNat*te.size=0
        · rw[aq7 h0]at iH ⊢
          subst iH;simp only[arm,arn,arl,newRow,run_newObj]
        · rw[aq6 h0]at iH ⊢
          subst iH;simp only[arm,arn,arl,h5,newRow,run_newObj]
      simp only[execOp,ig,arm,ii,arl,arn]
    · intro g S m' w' hg hS hm hw
      have f7:(oG te.ag (te.zero.map .v)).cells=te.zero.map .v:=by
        rcases hz3 with h |h
        · rw[h];rfl
        · have h:=apy h
          match hq:te.zero with
          |[]=>rw[hq]at dl;simp at dl;omega
          |[u] =>
            rw[hq]at hz;simp only[all_cons,List.all_nil,Bool.and_true]at hz;cases te.ag <;> simp[oG,AV.cells]
          |u::u'::r=>rw[hq]at dl;simp at dl;omega
      have jd:∀(i j:Nat)(x:AV),i<n.toNat->(te.zero.map AV.v)[j]?=some x->x.one=true/\∀u,((Array.range (n.toNat*te.size)).map (zero[· % zero.size]!))[i*te.size+j]?=some u->x=.v u:=by
        intro i j x hi hx;simp only[apv,apt]at hx;obtain⟨v,hv,rfl⟩:=hx;refine⟨ap3.1 hz v (apo hv),?_⟩;intro u hu
        have hj:j<te.size:=by
          rw[<- dl];rcases apz j te.zero.length with h |h
          · exact h
          · rw[ap6 h]at hv;cases hv
        have jR:¬n.toNat*te.size=0:=by
          have:=aml (show 0<n.toNat by omega) iT;omega
        rw[aq6 jR]at iH;subst iH;have bF:=qH (sz:=te.size) hi;have hlt:i*te.size+j<n.toNat*te.size:=by omega
        simp only[Array.getElem?_map,Array.getElem?_range,hlt,if_true,apm,Option.some.injEq]at hu;have Ak:(i*te.size+j)%z.cells.size=j:=by rw[Ai,ama,Nat.add_mul_mod_self_right,al8 hj]
        rw[Ak,getElem!_pos z.cells j oz]at hu;rw[<- h6,apd,apa oz]at hv;cases hv;rw[hu]
      refine .row hw (by simp) (by unfold bf;simp;omega) ?_ ?_ ?_
      · intro i e he
        rw[aql]at he;split at he
        · cases he;rw[f7];simpa using dl
        · cases he
      · intro i j e x he hx
        rw[aql]at he;split at he
        · rename_i hi;cases he;rw[f7]at hx;exact(jd i j x hi hx).1
        · cases he
      · intro i j e u x he hx hu
        rw[aql]at he;split at he
        · rename_i hi;cases he;rw[f7]at hx
          rw[(jd i j x hi hx).2 u hu];exact .v _
        · cases he
    · intro g S m' hm hS
      have:=Rep.ms (g:=g) (S:=S) (m:=m') (k:=d) (sz:=te.size) (off:=0) (len:=n.toNat) (cap:=n.toNat) hm (apu _) (by simpa using hS);simpa using this
end Go.Lw
namespace Go.Lw
variable{P:arj}{N:Nat}{R:Array Oper}{s:AS}{pos:String}{after:Array Edge}
theorem RelM.rk{C:Ctx}{m:Nat->Option Nat}{a:Act}{w:ark}(h:RelM C s m a w){k d:Nat}{y:Blk}(hk:lk s.hp k=some y)(hd:s.Fresh d) :
  RelM C ⟨s.sl,(d,some y)::(k,none)::s.hp⟩ (fun k'=>if k'=d then m k else m k') a w:=by
 have b9:k≠d:=fun e=>by rw[e,hd.1]at hk;cases hk
 have cS:∀k' z,lk ((d,some y)::(k,none)::s.hp) k'=some z->(k'=d/\z=y)\/(k'≠d/\k'≠k/\lk s.hp k'=some z):=by
  intro k' z hz;rw[a5]at hz;split at hz
  ·cases hz;exact .inl ⟨‹_›,rfl⟩
  ·rw[a5]at hz;split at hz
   ·cases hz
   ·exact .inr ⟨‹_›,‹_›,hz⟩
 have hf:=Frame.refl (bh s.hp m) w
 have bU:∀k' z b,lk ((d,some y)::(k,none)::s.hp) k'=some z->(if k'=d then m k else m k')=some b->bh s.hp m b\/w.heap.size<=b:=by
  intro k' z b hz hb;rcases cS k' z hz with⟨h1,h2⟩ |⟨h1,h2,h3⟩
  ·rw[aq7 h1]at hb;exact .inl ⟨k,y,hk,hb⟩
  ·rw[aq6 h1]at hb;exact .inl ⟨k',z,h3,hb⟩
 have sY:∀z:Blk,¬z.Names d->∀k'' b,z.Names k''->m k''=some b->(if k''=d then m k else m k'')=some b:=by
  intro z hz k'' b hn hb;rw[aq6 (fun(e:k''=d)=>hz (e▸hn))];exact hb
 refine h.update hf ?_ bU ?_ ⟨?_,?_,?_⟩
 ·intro t z k' b hz hn hb;have:k'≠d:=fun e=>hd.2.2.1 t z hz (e▸hn)
  rw[aq6 this];exact hb
 ·intro k' z rC hz;rcases cS k' z hz with⟨h1,h2⟩ |⟨h1,h2,h3⟩
  ·have:=hd.2.1;omega
  ·exact⟨⟨z,h3⟩,by rw[aq6 h1]⟩
 ·intro k' z hz;rcases cS k' z hz with⟨h1,h2⟩ |⟨h1,h2,h3⟩
  ·subst h2;rw[aq7 h1];exact BlkRep.mono (w:=w) (ia hf bU) hf.sz (sY z (hd.2.2.2 k z hk)) rfl (fun _ _=>rfl) (h.heap.blk k z hk)
  ·rw[aq6 h1];exact BlkRep.mono (w:=w) (ia hf bU) hf.sz (sY z (hd.2.2.2 k' z h3)) rfl (fun _ _=>rfl) (h.heap.blk k' z h3)
 ·intro k1 k2 z1 z2 b h1 h2 cE bF;rcases cS k1 z1 h1 with⟨e1,e2⟩ |⟨e1,e2,e3⟩ <;> rcases cS k2 z2 h2 with⟨g1,g2⟩ |⟨g1,g2,g3⟩
  ·rw[e1,g1]
  ·rw[aq7 e1]at cE;rw[aq6 g1]at bF
   exact ard (h.heap.inj k k2 y z2 b hk g3 cE bF).symm g2
  ·rw[aq6 e1]at cE;rw[aq7 g1]at bF
   exact ard (h.heap.inj k1 k z1 y b e3 hk cE bF) e2
  ·rw[aq6 e1]at cE;rw[aq6 g1]at bF
   exact h.heap.inj k1 k2 z1 z2 b e3 g3 cE bF
 ·intro k' z b hz hb;rcases cS k' z hz with⟨h1,h2⟩ |⟨h1,h2,h3⟩
  ·rw[aq7 h1]at hb;exact h.heap.sep k y b hk hb
  ·rw[aq6 h1]at hb;exact h.heap.sep k' z b h3 hb
theorem RelM.fewer{C:Ctx}{m:Nat->Option Nat}{a:Act}{w:ark}(h:RelM C s m a w){hp':Hp}(hs:∀k z,lk hp' k=some z->lk s.hp k=some z) :
  RelM C ⟨s.sl,hp'⟩ m a w:=by
 have hf:=Frame.refl (bh s.hp m) w;have bU:∀k' z b,lk hp' k'=some z->m k'=some b->bh s.hp m b\/w.heap.size<=b:=fun k' z b hz hb=>.inl ⟨k',z,hs k' z hz,hb⟩
 refine h.update hf (fun _ _ _ _ _ _ hb=>hb) bU (fun k' z _ hz=>⟨⟨z,hs k' z hz⟩,rfl⟩) ⟨?_,?_,?_⟩
 ·intro k' z hz;exact BlkRep.mono (w:=w) (ia hf bU) hf.sz (fun _ _ _ h=>h) rfl (fun _ _=>rfl) (h.heap.blk k' z (hs k' z hz))
 ·intro k1 k2 z1 z2 b h1 h2;exact h.heap.inj k1 k2 z1 z2 b (hs _ _ h1) (hs _ _ h2)
 ·intro k' z b hz hb;exact h.heap.sep k' z b (hs k' z hz) hb
theorem RelM.virt{C:Ctx}{m:Nat->Option Nat}{a:Act}{w:ark}(h:RelM C s m a w){d:Nat}(sz:Nat)(hd:s.Fresh d) :
  RelM C ⟨s.sl,(d,some (.row sz []))::s.hp⟩ (fun k'=>if k'=d then none else m k') a w:=by
 have cS:∀k' z,lk ((d,some (.row sz []))::s.hp) k'=some z->(k'=d/\z=.row sz [])\/(k'≠d/\lk s.hp k'=some z):=by
  intro k' z hz;rw[a5]at hz;split at hz
  ·cases hz;exact .inl ⟨‹_›,rfl⟩
  ·exact .inr ⟨‹_›,hz⟩
 have hf:=Frame.refl (bh s.hp m) w
 have bU:∀k' z b,lk ((d,some (.row sz []))::s.hp) k'=some z->(if k'=d then none else m k')=some b->bh s.hp m b\/w.heap.size<=b:=by
  intro k' z b hz hb;rcases cS k' z hz with⟨h1,h2⟩ |⟨h1,h3⟩
  ·rw[aq7 h1]at hb;cases hb
  ·rw[aq6 h1]at hb;exact .inl ⟨k',z,h3,hb⟩
 refine h.update hf ?_ bU ?_ ⟨?_,?_,?_⟩
 ·intro t z k' b hz hn hb;rw[aq6 (fun(e:k'=d)=>hd.2.2.1 t z hz (e▸hn))];exact hb
 ·intro k' z rC hz;rcases cS k' z hz with⟨h1,h2⟩ |⟨h1,h3⟩
  ·have:=hd.2.1;omega
  ·exact⟨⟨z,h3⟩,by rw[aq6 h1]⟩
 ·intro k' z hz;rcases cS k' z hz with⟨h1,h2⟩ |⟨h1,h3⟩
  ·subst h2;rw[aq7 h1];exact .none sz
  ·rw[aq6 h1];exact BlkRep.mono (w:=w) (ia hf bU) hf.sz (fun k'' b hn hb=>by rw[aq6 (fun(e:k''=d)=>hd.2.2.2 k' z h3 (e▸hn))];exact hb) rfl (fun _ _=>rfl) (h.heap.blk k' z h3)
 ·intro k1 k2 z1 z2 b h1 h2 cE bF;rcases cS k1 z1 h1 with⟨e1,_⟩ |⟨e1,e3⟩ <;> rcases cS k2 z2 h2 with⟨g1,_⟩ |⟨g1,g3⟩
  ·rw[e1,g1]
  ·rw[aq7 e1]at cE;cases cE
  ·rw[aq7 g1]at bF;cases bF
  ·rw[aq6 e1]at cE;rw[aq6 g1]at bF
   exact h.heap.inj k1 k2 z1 z2 b e3 g3 cE bF
 ·intro k' z b hz hb;rcases cS k' z hz with⟨h1,_⟩ |⟨h1,h3⟩
  ·rw[aq7 h1]at hb;cases hb
  ·rw[aq6 h1]at hb;exact h.heap.sep k' z b h3 hb
theorem OP{C:Ctx}{m:Nat->Option Nat}{w:ark}{hp:Hp}{v:arh}{sz:Nat}{xs:List AV}(h:Rep (Im C.ext hp m w) (Sz w) m v (.lst sz xs))(bH:0<sz) :
  (xs=[]/\∃a cap,v=.slice a 0 cap)\/∃b off cap cs,v=.slice (some ⟨b,off,none⟩) xs.length cap/\0<xs.length/\Im C.ext hp m w b cs/\off+xs.length*sz<=cs.size /\
   xs.length<=bf/\(∀(i:Nat)(e:AV),xs[i]?=some e->e.cells.length=sz)/\(∀(i j:Nat)(e c:AV),xs[i]?=some e->e.cells[j]?=some c->c.one=true) /\
   ∀(i j:Nat)(e c:AV)(u:arh),xs[i]?=some e->e.cells[j]?=some c->cs[off+i*sz+j]?=some u->Rep (Im C.ext hp m w) (Sz w) eP u c:=by
 cases h with
 |lst0 a cap=>exact .inl ⟨rfl,a,cap,rfl⟩
 | @lst _ b off cap _ _ cs u hb hc hl hs h1 hu hr =>
  rcases al2 xs.length with h0 |h0
  ·have:xs=[]:=anr h0;subst this;exact .inl ⟨rfl,_,_,rfl⟩
  refine .inr ⟨b,off,cap,cs,rfl,h0,hb,?_,hl,hs,h1,?_⟩
  ·have he:xs[xs.length - 1]? = some (xs[xs.length - 1]'oz):=aps oz;have mg:=hs _ _ he;have hc':=hu (xs.length - 1) (sz - 1) _ _ he (aps (show sz - 1 < _ by omega))
   have hlt:off+(xs.length-1)*sz+(sz-1)<cs.size:=by
    rcases apz (off+(xs.length-1)*sz+(sz-1)) cs.size with h |h
    ·exact h
    ·rw[apj h]at hc';cases hc'
   have:xs.length*sz=(xs.length-1)*sz+sz:=by
    rw[<- am5];congr 1;omega
   omega
  ·intro i j e c v he hc hv;have:=hu i j e c he hc;rw[this]at hv;cases hv
   exact hr i j e c he hc
theorem Kp{g:Nat->Array arh->Prop}{S:Nat->Nat->Prop}{m:Nat->Option Nat}{w':ark}{b sz off:Nat}{es xs:List AV}{c cs aI:Array arh}{t:ari}
  (hw:w'.heap[b]?=some (.cells aI t (0,0))) (hn:(es.length+xs.length)*sz<=aI.size) (hl:es.length+xs.length<=bf)
  (hs:∀(i:Nat)(e:AV),es[i]?=some e->e.cells.length=sz) (h1:∀(i j:Nat)(e x:AV),es[i]?=some e->e.cells[j]?=some x->x.one=true)
  (hr:∀(i j:Nat)(e:AV)(u:arh)(x:AV),es[i]?=some e->e.cells[j]?=some x->c[i*sz+j]?=some u->Rep g S eP u x)
  (hs':∀(i:Nat)(e:AV),xs[i]?=some e->e.cells.length=sz) (h1':∀(i j:Nat)(e x:AV),xs[i]?=some e->e.cells[j]?=some x->x.one=true)
  (hr':∀(i j:Nat)(e:AV)(x:AV)(u:arh),xs[i]?=some e->e.cells[j]?=some x->cs[off+i*sz+j]?=some u->Rep g S eP u x)
  (ho:∀p,p<es.length*sz->aI[p]?=c[p]?) (hn':∀p,p<xs.length*sz->aI[es.length*sz+p]?=cs[off+p]?) :
  BlkRep g S m w' (some b) (.row sz (es++xs)):=by
 have split:∀(i:Nat)(e:AV),(es++xs)[i]?=some e->es[i]?=some e\/(es.length<=i/\xs[i-es.length]?=some e):=by
  intro i e he;rcases apz i es.length with h |h
  ·rw[aqc h]at he;exact .inl he
  ·rw[aqb h]at he;exact .inr ⟨h,he⟩
 have lt_of:∀{l:List AV}{i:Nat}{e:AV},l[i]?=some e->i<l.length:=by
  intro l i e h;rcases apz i l.length with h' |h'
  ·exact h'
  ·rw[ap6 h']at h;cases h
 refine .row hw (by simpa using hn) (by simpa using hl) ?_ ?_ ?_
 ·intro i e he;rcases split i e he with h |⟨_,h⟩
  ·exact hs i e h
  ·exact hs' _ e h
 ·intro i j e x he hx;rcases split i e he with h |⟨_,h⟩
  ·exact h1 i j e x h hx
  ·exact h1' _ j e x h hx
 ·intro i j e u x he hx hu;rcases split i e he with h |⟨hge,h⟩
  ·have hi:=lt_of h;have hj:=lt_of hx;rw[hs i e h]at hj;have:=qH (sz:=sz) hi;rw[ho _ oz]at hu;exact hr i j e u x h hx hu
  ·have hi:=lt_of h;have hj:=lt_of hx;rw[hs' _ e h]at hj;have:=qH (sz:=sz) hi
   have e1:i*sz+j=es.length*sz+((i-es.length)*sz+j):=by
    rw[<- al4,<- amt];congr 2;omega
   rw[e1,hn' _ oz,<- al4]at hu;exact hr' _ j e x u h hx hu
theorem HW{o:Oper}{u:Out}(hg:o.guard=none)
  (h:∀s',jF s s' u->mG s' u->∀C m a w (next:Act->ark->Prop),C.nt=N->RelM C s' m a w->(∀m' a' w',RelM C (s'.app o.dst u) m' a' w'->next a' w') ->
   o.upon P a next (fun _ _ _=>False) ((execOp a.eval o).run P w)):Step P N R s o u:=by
 refine⟨fun s' aH eK C m a w Q next hC hr hnext=>?_⟩;rw[aq7 (q5 hg _)];refine z9 ?_;have:=h s' aH eK C m a w next hC hr hnext;unfold Oper.wp;generalize(execOp a.eval o).run P w=r at *;cases r with
 |ok n w' =>
  cases n <;> simp only[Oper.upon]at this ⊢ <;> first
   |exact this
   |exact this.mono (fun e w'' he=>by cases e <;> first |exact he |exact he.elim |(obtain⟨_,_,h⟩:=he;exact h.elim))
 |halt x w'=>cases x <;> simp only[Oper.upon]at this
end Go.Lw
namespace Go.Lw
variable{P:arj}{N:Nat}{R:Array Oper}{s:AS}{pos:String}{after:Array Edge}
theorem vC{ρ:arg->arh}{d:Option Tmp}{x y:arg}{T t:ari}{w w':ark}{v:arh}
  (h:(Builtin.append_ #[T,T] t #[ρ x,ρ y]).run P w=.ok v w') :
  (execOp ρ ⟨d,.call ⟨.builtin .append,#[x,y],#[T,T]⟩,t,pos,after,none⟩).run P w=.ok (.value v) w':=by
 simp[execOp,resolve,invoke,builtin,h]
theorem QD{T t E:ari}{ti te:TI}{w:ark}{base a:Option Addr}{len cap cap':Nat}(hT:aJ P T=some ti)(hk:ti.k=.slice E)(hE:aJ P E=some te)
  (cG:len<=cap):(Builtin.append_ #[T,T] t #[.slice base len cap,.slice a 0 cap']).run P w=.ok (.slice base len cap) w:=by
 obtain⟨d2,h3,h4,-,hu⟩:=f6 hT w;obtain rfl:=mb (h4.trans hk)
 have qB:(Builtin.firstCells te.size 0 (.slice a 0 cap')).run P w=.ok #[] w:=by
  cases a with
  |none=>exact run_firstCells_none w _ _ _ _
  |some a=>exact run_firstCells_some w _ _ a _ _ [] (by simp) (by simp)
 cases base with
 |none=>simp[Builtin.append_,h3,kj hE,Builtin.lenOf,cG,qB]
 |some b=>simp[Builtin.append_,h3,kj hE,Builtin.lenOf,cG,qB,storeCells]
theorem XZ{T t E:ari}{ti te:TI}{w:ark}{b len n cap cap':Nat}{a:Addr}{c:Array arh}{t2:ari}(hT:aJ P T=some ti)(hk:ti.k=.slice E)(hE:aJ P E=some te)
  (hw:w.heap[b]?=some (.cells c t2 (0,0))) (news:List arh) (fI:news.length=n*te.size) (sZ:∀(j:Nat) v,news[j]?=some v->w.cell? (a.add j)=some v)
  (kV:∀u∈news,u.oneCell'=true) (Al:len+n<=cap) (alj:len*te.size+n*te.size<=c.size) :
  (Builtin.append_ #[T,T] t #[.slice (some ⟨b,0,none⟩) len cap,.slice (some a) n cap']).run P w =
   .ok (.slice (some ⟨b,0,none⟩) (len+n) cap) { w with heap:=w.heap.setIfInBounds b (.cells (over c.toList (len*te.size) news).toArray t2 (0,0)) }:=by
 obtain⟨d2,h3,h4,-,hu⟩:=f6 hT w;obtain rfl:=mb (h4.trans hk);have qB:=run_firstCells_some (P:=P) w te.size n a n cap' _ fI sZ;have ep:=H5 (P:=P) news c w (len*te.size) 0 hw (by rw[fI];omega) kV;simp only[amj]at ep;simp[Builtin.append_,h3,kj hE,Builtin.lenOf,Al,qB,mX,ep]
theorem ags{C:Ctx}{m:Nat->Option Nat}{a:Act}{w:ark}(hr:RelM C s m a w){b n:Nat}{c:Array arh}{t:ari}(hw:w.heap[b]?=some (.cells c t (0,0)))
  (h:Sz w b n):n<=c.size:=by
 obtain⟨c',t',f',h1,h2⟩:=h;rw[hw]at h1;cases h1;exact h2
theorem Fresh.row{d k:Nat}{z:Blk}(h:s.Fresh d)(b9:d≠k)(hz:¬z.Names d):AS.Fresh ⟨s.sl,(k,some z)::s.hp⟩ d:=by
 refine⟨?_,h.2.1,h.2.2.1,?_⟩
 ·simp only[a5,aq6 b9];exact h.1
 ·intro k' x hx;simp only[a5]at hx;split at hx
  ·cases hx;exact hz
  ·exact h.2.2.2 k' x hx
theorem Bo{C:Ctx}{m:Nat->Option Nat}{a:Act}{w:ark}{d k sz n:Nat}{y:Blk}{v:arh}{rt rd:List Nat}{next:Act->ark->Prop}
  (hr:RelM C ⟨s.sl,(d,some y)::(k,none)::s.hp⟩ m a w) (hd:d<C.nt)
  (hv:Rep (Im C.ext ((d,some y)::(k,none)::s.hp) m w) (Sz w) m v (.ms d sz 0 n))
  (hnext:∀m' a' w',RelM C (s.app (some d) ⟨some (.ms d sz 0 n),[(d,some y),(k,none)],rt,rd⟩) m' a' w'->next a' w'):next (a.put (some d) v) w:=by
 refine hnext m _ _ ?_;have:=hr.put d v (some (.ms d sz 0 n)) (fun z hz=>by cases hz;exact⟨aqd hd hr.nt,hv⟩);simpa[AS.app,Act.put]using this
theorem ae8{C:Ctx}{m:Nat->Option Nat}{a:Act}{w:ark}{d k sz:Nat}{es xs:List AV}{E:ari}{aI:Array arh}{cap:Nat}{rt rd:List Nat}{next:Act->ark->Prop}
  (hr:RelM C s m a w) (hfr:s.Fresh d) (hd:d<C.nt)
  (qv:∀(g:Nat->Array arh->Prop)(S:Nat->Nat->Prop)(m':Nat->Option Nat)(w':ark),
   (∀b cs,Im C.ext s.hp m w b cs->g b cs)->(∀b n,Sz w b n->S b n)->w'.heap[w.heap.size]?=some (.cells aI E (0,0))->BlkRep g S m' w' (some w.heap.size) (.row sz (es++xs)))
  (Am:es.length+xs.length<=cap) (bH:cap*sz<=aI.size)
  (hnext:∀m' a' w',RelM C (s.app (some d) ⟨some (.ms d sz 0 (es.length+xs.length)),[(d,some (.row sz (es++xs))),(k,none)],rt,rd⟩) m' a' w'->next a' w') :
  next (a.put (some d) (.slice (some ⟨w.heap.size,0,none⟩) (es.length+xs.length) cap)) (w.drew.alloc (.cells aI E)):=by
 have h1:=hr.drawn (w.drawn+1);have h2:=h1.alloc hfr (.cells aI E) (.row sz (es++xs)) (fun h=>h) (fun g S m' w' hg hS _ hw=>qv g S m' w' hg hS hw)
 have h3:=h2.fewer (hp':=(d,some (.row sz (es++xs)))::(k,none)::s.hp) (by
  intro k' z hz;simp only[a5]at hz ⊢;split at hz
  ·rename_i h;rw[aq7 h];exact hz
  ·rename_i h;rw[aq6 h]
   split at hz
   ·cases hz
   ·exact hz)
 refine Bo h3 hd ?_ hnext
 have:=Rep.ms (g:=Im C.ext ((d,some (.row sz (es++xs)))::(k,none)::s.hp) (fun k'=>if k'=d then some w.heap.size else m k') (w.drew.alloc (.cells aI E)))
  (S:=Sz (w.drew.alloc (.cells aI E))) (m:=fun k'=>if k'=d then some w.heap.size else m k') (k:=d) (sz:=sz) (off:=0) (len:=es.length+xs.length) (cap:=cap)
  (aq7 rfl) Am ⟨aI,E,(0,0),by show(w.heap.push _)[w.heap.size]?=_;simp,by simpa using bH⟩
 simpa using this
set_option maxHeartbeats 1000000 in
theorem TE{d k sz len:Nat}{xv:AV}{es xs:List AV}{x y:arg}{T E t:ari}{ti te:TI}
  (hx:Ev s x xv) (lF:∀g S m v,Rep g S m v xv->Rep g S m v (.ms k sz 0 len)) (hk:s.blk k=some (.row sz es)) (bV:len=es.length) (hy:Ev s y (.lst sz xs)) (hT:aJ P T=some ti) (nk:ti.k=.slice E) (hE:aJ P E=some te)
  (bH:te.size=sz) (dl:(amq te.zero.length te.size&&aly 0 te.size&&aly 0 te.bytes)=true) (hb:(len+xs.length)*te.bytes<=140737488355328) (pa:amq d k=false)
  (hN:aly d N=true) :
  Step P N R s ⟨some d,.call ⟨.builtin .append,#[x,y],#[T,T]⟩,t,pos,after,none⟩
   ⟨some (.ms d sz 0 (len+xs.length)),[(d,some (.row sz (es++xs))),(k,none)],az x++az y,[k]⟩:=by
 refine HW rfl ?_;intro s' aH eK C m a w next hC hr hnext;subst bH;subst bV
 simp only[apw,al5]at dl;obtain⟨⟨dl,iT⟩,jy⟩:=dl;have dl:=apy dl;have pa:=al1 pa;rw[al5]at hN;have fc:lk s'.hp k=some (.row te.size es):=(aH.2 k (by simp)).trans hk
 have hfr:s'.Fresh d:=by
  rcases eK d (by simp)with h |h
  ·exact ard (by simpa using h) pa
  ·exact h
 have hd:d<C.nt:=by omega
 have jc:=lF _ _ _ _ ((hx.agree aH (fun _ h=>ap2.2 (.inl h))).rep hr);have qw:=(hy.agree aH (fun _ h=>ap2.2 (.inr h))).rep hr;obtain⟨i,dd,z,hi,hu,hz,rfl⟩:=z6 hE;obtain⟨d2,h3,h4,-,s6⟩:=f6 hT w;obtain rfl:=mb (h4.trans nk);simp only at dl iT jy hb fc jc qw hnext ⊢
 have bF:es.length+xs.length<=140737488355328:=by
  have:=ap0 (es.length+xs.length) (show 1<=i.bytes by omega);omega
 obtain⟨ll,kW⟩:∃ll,ll=es.length:=⟨_,rfl⟩
 rw[<- kW]at jc;rcases OP qw iT with⟨rfl,a1,cap1,mj⟩ |⟨b1,off1,cap1,cs,mj,fJ,eM,aks,s7,gP,iU,bA⟩
 ·-- nothing
  generalize ig:a.eval x=u at jc;cases jc with
  |ms0 a0 =>
   have lH:es=[]:=anr oz;have gO:=QD (t:=t) (w:=w) (base:=a0) (a:=a1) (len:=0) (cap:=0) (cap':=cap1) hT nk hE (apu _);have kt:=vC (d:=some d) (x:=x) (y:=y) (pos:=pos) (after:=after) (ρ:=a.eval) (by rw[ig,mj];exact gO);rw[kt];simp only[append_nil,ap9,amj]at hnext ⊢;exact Bo (hr.rk fc hfr) hd (by rw[show es.length=0 by omega];exact .ms0 _ _ _ _) hnext
  | @ms _ _ _ _ _ cap b hm hc hS =>
   have gO:=QD (t:=t) (w:=w) (base:=some ⟨b,0*i.size,none⟩) (a:=a1) (len:=ll) (cap:=cap) (cap':=cap1) hT nk hE hc;have kt:=vC (d:=some d) (x:=x) (y:=y) (pos:=pos) (after:=after) (ρ:=a.eval) (by rw[ig,mj];exact gO);rw[kt];simp only[append_nil,ap9,amj]at hnext ⊢;subst kW;exact Bo (hr.rk fc hfr) hd (.ms (by rw[aq7 rfl];exact hm) hc hS) hnext
 ·-- something
  obtain⟨akt,aku,t1,f1,oy⟩:=eM;have fI:(cs.extract off1 (off1+xs.length*i.size)).toList.length=xs.length*i.size:=by simp;omega
  have sZ:∀(j:Nat) v,(cs.extract off1 (off1+xs.length*i.size)).toList[j]?=some v->w.cell? ((⟨b1,off1,none⟩:Addr).add j)=some v:=by
   intro j v hj;rw[mX,vB oy];rw[apd,ao5]at hj;split at hj
   ·exact hj
   ·cases hj
  have kV:∀u∈(cs.extract off1 (off1+xs.length*i.size)).toList,u.oneCell'=true:=by
   intro u hu;obtain⟨p,hp,rfl⟩:=an4.1 hu;rw[fI]at hp;have hi':p/i.size<xs.length:=by rw[al9 iT];exact hp
   have he:=aps hi';have mg:=gP _ _ he;have lG:p%i.size<i.size:=alw _ iT;have o9:=aps (show p%i.size<(xs[p/i.size]).cells.length by omega);have w9:p/i.size*i.size+p%i.size=p:=by rw[alx];exact amy _ _
   have qD:cs[off1+p/i.size*i.size+p%i.size]?=some ((cs.extract off1 (off1+xs.length*i.size)).toList[p]'oz):=by
    rw[al4,w9];simp only[Array.getElem_toList,Array.getElem_extract];exact apa oz
   exact(bA _ _ _ _ _ he o9 qD).one (iU _ _ _ _ he o9)
  have RP:∀(aI:Array arh)(base:Nat),(∀p,p<xs.length*i.size->aI[base+p]?=(cs.extract off1 (off1+xs.length*i.size)).toList[p]?) ->
    ∀p,p<xs.length*i.size->aI[base+p]?=cs[off1+p]? := by
   intro aI base h p hp;rw[h p hp,apd,ao5,aq7 oz]
  generalize ig:a.eval x=u at jc
  have RQ:∀(c:Array arh)(olds:List arh)(sCap:Nat),olds.length=es.length*i.size->(∀p,p<es.length*i.size->olds[p]?=c[p]?) ->
    (∀(i':Nat)(e:AV),es[i']?=some e->e.cells.length=i.size)->(∀(i' j:Nat)(e x:AV),es[i']?=some e->e.cells[j]?=some x->x.one=true) ->
    (∀(i' j:Nat)(e:AV)(u:arh)(x:AV),es[i']?=some e->e.cells[j]?=some x->c[i'*i.size+j]?=some u->Rep (Im C.ext s'.hp m w) (Sz w) eP u x) ->
    next (a.put (some d) (.slice (some ⟨w.heap.size,0,none⟩) (es.length+xs.length) (grownCap w (es.length+xs.length) sCap E)))
     (w.drew.alloc (.cells (olds.toArray++(cs.extract off1 (off1+xs.length*i.size)).toList.toArray++Builtin.zeroCells z.cells (grownCap w (es.length+xs.length) sCap E-(es.length+xs.length))) E)):=by
   intro c olds sCap oA hoc iI xc no;have IC:z.cells.size=i.size:=by rw[<- apc];exact dl
   have akv:es.length+xs.length<=grownCap w (es.length+xs.length) sCap E:=by simp only[grownCap,Question.cut];omega
   refine ae8 (es:=es) (xs:=xs) hr hfr hd ?_ akv ?_ hnext
   ·intro g S m' w' hg hS hw'
    refine Kp (c := c) (cs := cs) (off := off1) hw' ?_ (by unfold bf; omega) iI xc (fun i' j e u x he hx hu => (no i' j e u x he hx hu).mono hg hS (fun _ _ _ h => h)) gP iU
     (fun i' j e x u he hx hu=>(bA i' j e x u he hx hu).mono hg hS (fun _ _ _ h=>h)) ?_ ?_
    ·simp only[ao6,am6,oA,fI,amt];omega
    ·intro p hp;rw[apg (by simp[oA];omega),apg (by simp[oA];omega)];simpa using hoc p hp
    ·refine RP _ _ (fun p hp=>?_);rw[apg (by simp only[ao6,am6,oA,fI];omega),ao8 (by simp only[am6,oA];omega)];simp only[am6,oA,ant];congr 1;omega
   ·simp only[ao6,am6,oA,fI,size_zeroCells,IC];rw[<- amt,<- amt];exact aqi _ oz
  have RR:∀sCap,sCap<es.length+xs.length->Builtin.nextslicecap (es.length+xs.length) sCap*i.bytes<=281474976710656:=fun sCap h=>growslice_fits h hb
  cases jc with
  |ms0 a0 =>
   have lH:es=[]:=anr oz;subst lH;have hg:=RQ #[] [] 0 (by simp) (by simp) (by simp) (by simp) (by simp);simp only[ap9,ams]at hg;cases a0 with
   |none =>
    have gO:=run_append_nil w T t E i z s6 hi hz ⟨b1,off1,none⟩ xs.length cap1 _ fI sZ fJ oz (by simp only[ap9,ams]at hb;omega);have kt:=vC (P:=P) (d:=some d) (x:=x) (y:=y) (pos:=pos) (after:=after) (ρ:=a.eval) (by rw[ig,mj];exact gO);rw[kt];show next _ _;simpa using hg
   |some a0 =>
    have gO := run_append_grow w T t E i z s6 hi hz a0 0 0 [] (by simp) (by simp) ⟨b1, off1, none⟩ xs.length cap1 _ fI sZ oz oz
     (by have:=RR 0 (by simp;omega);simpa using this)
    have kt:=vC (P:=P) (d:=some d) (x:=x) (y:=y) (pos:=pos) (after:=after) (ρ:=a.eval) (by rw[ig,mj];exact gO);rw[kt];show next _ _;simpa using hg
  | @ms _ _ _ _ _ cap b hm hc hS =>
   subst kW;obtain⟨c,t2,hw,hn,hl,iI,xc,no⟩:=xF hr.heap fc hm;have Am:=ags hr hw hS;simp only[ams,Nat.zero_mul]at Am ig
   by_cases Al:es.length+xs.length<=cap
   ·have ID:(es.length + xs.length) * i.size <= c.size:=aqe (aqi _ Al) Am;rw [amt] at ID;have gO:=XZ (P:=P) (t:=t) hT nk hE hw _ fI sZ kV Al ID (cap':=cap1) (len:=es.length);have kt:=vC (P:=P) (d:=some d) (x:=x) (y:=y) (pos:=pos) (after:=after) (ρ:=a.eval) (by rw [ig,mj]; exact gO);rw [kt]
    have cB:(over c.toList (es.length*i.size) (cs.extract off1 (off1+xs.length*i.size)).toList).toArray.size=c.size:=by
     simp only[am6];rw[yG _ _ _ (by rw[fI];simp;omega)];simp
    have iG:=hr.write (x':=.row i.size (es++xs)) fc hm hw cB rfl (by
     intro g S hg hS hw'
     refine Kp (c := c) (cs := cs) (off := off1) hw' (by rw [cB, amt]; omega) (by unfold bf; omega) iI xc (fun i' j e u x he hx hu => (no i' j e u x he hx hu).mono hg hS (fun _ _ _ h => h)) gP iU
      (fun i' j e x u he hx hu=>(bA i' j e x u he hx hu).mono hg hS (fun _ _ _ h=>h)) ?_ ?_
     ·intro p hp;rw[ant,mS _ _ _ (by rw[fI];simp;omega),aq7 hp,apd]
     ·refine RP _ _ (fun p hp=>?_);rw[ant,mS _ _ _ (by rw[fI];simp;omega),aq6 oz,aq7 (by rw[fI];omega)];congr 1;omega)
    have s8:=iG.rk (k:=k) (d:=d) (y:=.row i.size (es++xs)) (by simp[a5]) (Fresh.row hfr pa (fun h=>h))
    have qF:RelM C ⟨s'.sl,(d,some (.row i.size (es++xs)))::(k,none)::s'.hp⟩ (fun k'=>if k'=d then m k else m k') a
      { w with heap:=w.heap.setIfInBounds b (.cells (over c.toList (es.length*i.size) (cs.extract off1 (off1+xs.length*i.size)).toList).toArray t2 (0,0)) }:=by
     refine RelM.congr ?_ ?_ s8
     ·intro t;rfl
     intro k';simp only[AS.blk,a5];split
     ·rfl
     ·split <;> rfl
    refine Bo qF hd ?_ hnext
    have:=Rep.ms (g:=Im C.ext ((d,some (.row i.size (es++xs)))::(k,none)::s'.hp) (fun k'=>if k'=d then m k else m k')
      { w with heap:=w.heap.setIfInBounds b (.cells (over c.toList (es.length*i.size) (cs.extract off1 (off1+xs.length*i.size)).toList).toArray t2 (0,0)) })
     (S:=Sz { w with heap:=w.heap.setIfInBounds b (.cells (over c.toList (es.length*i.size) (cs.extract off1 (off1+xs.length*i.size)).toList).toArray t2 (0,0)) })
     (m:=fun k'=>if k'=d then m k else m k') (k:=d) (sz:=i.size) (off:=0) (len:=es.length+xs.length) (cap:=cap) (b:=b)
     (by rw [aq7 rfl]; exact hm) Al ⟨_, t2, (0, 0), by
      show(w.heap.setIfInBounds b _)[b]?=_;rw[api,aq7 rfl,aq7 (BQ hw)],by rw[cB,ams];exact Am⟩
    simpa using this
   ·have RS : (c.extract 0 (es.length * i.size)).toList.length = es.length * i.size := by simp; omega
    have hg:=RQ c (c.extract 0 (es.length*i.size)).toList cap RS (by
     intro p hp;rw[apd,ao5,aq7 oz,ams]) iI xc no
    have gO:=run_append_grow w T t E i z s6 hi hz ⟨b,0,none⟩ es.length cap (c.extract 0 (es.length*i.size)).toList RS (by
     intro j v hj;rw[mX,vB hw];rw[apd,ao5]at hj;split at hj
     ·simpa using hj
     ·cases hj) ⟨b1,off1,none⟩ xs.length cap1 _ fI sZ oz oz (RR cap oz)
    have kt:=vC (P:=P) (d:=some d) (x:=x) (y:=y) (pos:=pos) (after:=after) (ρ:=a.eval) (by rw[ig,mj];exact gO);rw[kt];exact hg
theorem cF{d k sz len:Nat}{es xs:List AV}{x y:arg}{T E t:ari}{ti te:TI}
  (hx:Ev s x (.ms k sz 0 len)) (hk:s.blk k=some (.row sz es)) (bV:len=es.length) (hy:Ev s y (.lst sz xs)) (hT:aJ P T=some ti) (nk:ti.k=.slice E) (hE:aJ P E=some te)
  (bH:te.size=sz) (dl:(amq te.zero.length te.size&&aly 0 te.size&&aly 0 te.bytes)=true) (hb:(len+xs.length)*te.bytes<=140737488355328) (pa:amq d k=false)
  (hN:aly d N=true) :
  Step P N R s ⟨some d,.call ⟨.builtin .append,#[x,y],#[T,T]⟩,t,pos,after,none⟩
   ⟨some (.ms d sz 0 (len+xs.length)),[(d,some (.row sz (es++xs))),(k,none)],az x++az y,[k]⟩ :=
 TE hx (fun _ _ _ _ h=>h) hk bV hy hT nk hE bH dl hb pa hN
end Go.Lw
namespace Go.Lw
variable{P:arj}{N:Nat}{R:Array Oper}{s:AS}{pos:String}{after:Array Edge}
def zM(P:arj)(f:FuncId):Prop:=∀args w,(callFunc f args).run P w=.ok (.enter f args) w
theorem UC {f : FuncId} {fn : Func} {c : Code} (hf : P.funcs[f]? = some fn) (hb : fn.body = some c) (hn : (fn.name == "runtime.NumGoroutine") = false) : zM P f := by
 intro args w;have hn' : ¬ fn.name = "runtime.NumGoroutine" := by simpa using hn
 simp[callFunc,hf,hb,hn']
structure Con(P:arj)(f:FuncId)(args:List AV)(H:Hp)(r:AV)(H':Hp):Prop where
  ok:zM P f
  ret:aai P f args H r H'
abbrev kK(P:arj)(f:FuncId)(args:List AV)(r:AV):Prop:=Con P f args [] r []
theorem adu{ρ:arg->arh}{o:Oper}{f:FuncId}{args:Array arg}{ts:Array ari}{w:ark}{vs:Array arh}(ho:o.op=.call ⟨.value (.func f),args,ts⟩)
  (hρ:ρ (.func f)=.func (.func f) #[] #[]) (cT:zM P f) (dW:args.map ρ=vs):(execOp ρ o).run P w=.ok (.enter f vs) w:=by
 subst dW;have:=cT (args.map ρ) w;obtain⟨dst,op,type,pos,after,guard⟩:=o;subst ho;simp[execOp,resolve,hρ,Deferred.ofValue,invoke,this]
theorem YD{ρ:arg->arh}{o:Oper}{g:arg}{f:FuncId}{caps:Array arh}{args:Array arg}{ts:Array ari}{w:ark}{vs:Array arh}(ho:o.op=.call ⟨.value g,args,ts⟩)
  (hρ:ρ g=.func (.func f) #[] caps) (cT:zM P f) (dW:args.map ρ++caps=vs):(execOp ρ o).run P w=.ok (.enter f vs) w:=by
 subst dW;have:=cT (args.map ρ++caps) w;obtain⟨dst,op,type,pos,after,guard⟩:=o;subst ho;simp[execOp,resolve,hρ,Deferred.ofValue,invoke,this]
def kP(H:Hp)(k:Nat):Bool:=match lk H k with |some _=>true |none=>false
theorem kA{H:Hp}{k:Nat}:kP H k=true↔∃z,lk H k=some z:=by
 unfold kP;cases lk H k <;> simp
def xC(r:AV)(H':Hp):Bool :=
  (r.nm.all fun k=>kP H' k)&&H'.all fun p=>match p.2 with |some x=>x.nm.all fun k=>kP H' k |none=>true
def eO(H:Hp):Hp:=H.map fun p=>(p.1,none)
theorem UR(H:Hp)(k:Nat):lk (eO H) k=none:=by
 induction H with
 |nil=>rfl
 |cons p H ih =>
  obtain⟨k',x⟩:=p;simp only[eO,aq2,a5];split
  ·rfl
  ·exact ih
theorem r7{H:Hp}{k:Nat}{z:Blk}(h:lk H k=some z):k∈H.map (·.1):=anx.2 ⟨_,so h,rfl⟩
theorem RelM.called{C:Ctx}{m:Nat->Option Nat}{a:Act}{w:ark}(hr:RelM C s m a w){run:Array arh->ark->(Ending->ark->Prop)->Prop}(akw:∀vs w R R',run vs w R->(∀e w',R e w'->R' e w')->run vs w R'){xs:List AV}{H H':Hp}{r:AV}(fe:Eg run xs H r H'){vs:Array arh}
  (dW:vs.size=xs.length) (dC:∀(j:Nat) v x,vs[j]?=some v->xs[j]?=some x->Rep (Im C.ext s.hp m w) (Sz w) m v x)
  (hH:∀k z,lk H k=some z->lk s.hp k=some z) (eK:∀k z,lk H' k=some z->(∃y,lk H k=some y)\/s.Fresh k)
  (hHk:∀k∈H.map (·.1),kP H k=true) (hnm:xC r H'=true) :
  run vs w fun e w'=>∃v m'',e=.returned v/\RelM C ⟨s.sl,H'++eO H++s.hp⟩ m'' a w'/\Rep (Im C.ext (H'++eO H++s.hp) m'' w') (Sz w') m'' v r /\
   ∀k y z,lk H k=some y->lk H' k=some z->m'' k=m k:=by
 simp only[xC,apw,ap3]at hnm;obtain⟨akx,aky⟩:=hnm
 let ext':Nat->Prop:=fun b=>C.ext b\/∃k z,lk s.hp k=some z/\lk H k=none/\m k=some b
 have eW:∀b,bh H m b->bh s.hp m b:=fun b ⟨k,z,h1,h2⟩=>⟨k,z,hH k z h1,h2⟩
 have eM:∀b cs,Im C.ext s.hp m w b cs->Im ext' H m w b cs:=by
  rintro b cs ⟨h1,h2,h3⟩;refine⟨?_,fun h=>h2 (eW b h),h3⟩;rintro(h |⟨k,z,hk,_,hb⟩)
  ·exact h1 h
  ·exact h2 ⟨k,z,hk,hb⟩
 have cQ:HeapRel ext' H m w:=by
  refine⟨?_,?_,?_⟩
  ·intro k z hk;exact BlkRep.mono (w:=w) eM (fun _ _ h=>h) (fun _ _ _ h=>h) rfl (fun _ _=>rfl) (hr.heap.blk k z (hH k z hk))
  ·intro k k' z z' b h1 h2;exact hr.heap.inj k k' z z' b (hH _ _ h1) (hH _ _ h2)
  ·intro k z b hk hb;have:=hr.heap.sep k z b (hH k z hk) hb;refine⟨?_,this.2⟩;rintro(h |⟨k2,z2,dj,s9,bF⟩)
   ·exact this.1 h
   ·have:=hr.heap.inj k k2 z z2 b (hH k z hk) dj hb bF;subst this;rw[hk]at s9;cases s9
 have IE:∀b,ext' b->b<w.heap.size:=by
  rintro b (h |⟨k,z,hk,_,hb⟩)
  ·exact hr.ext_lt h
  ·exact(hr.heap.sep k z b hk hb).2
 refine akw _ _ _ _ (fe ext' m w vs IE cQ dW (fun j v x h1 h2=>(dC j v x h1 h2).mono eM (fun _ _ h=>h) (fun _ _ _ h=>h))) ?_;rintro e w' ⟨v,m',rfl,hf,hh',uM,uN,bn⟩
 have alk:∀k,k∈(eO H).map (·.1)->kP H k=true:=by
  intro k hk;apply hHk;simpa[eO]using hk
 have cS:∀k z,lk (H'++eO H++s.hp) k=some z->lk H' k=some z\/(kP H' k=false/\lk H k=none/\lk s.hp k=some z):=by
  intro k z hz;rw[aqt,sf]at hz;split at hz
  ·exact .inl hz
  ·rename_i h1
   have ha:kP H' k=false:=by
    cases h:kP H' k with
    |false=>rfl
    |true=>obtain⟨z',hz'⟩:=kA.1 h;exact ard (r7 hz') h1
   rw[sf]at hz;split at hz
   ·rw[UR]at hz;cases hz
   ·rename_i h2;refine .inr ⟨ha,?_,hz⟩;cases h:lk H k with
    |none=>rfl
    |some y=>exact ard (by simpa[eO]using r7 h) h2
 let m'':Nat->Option Nat:=fun k=>if kP H' k=true then m' k else m k
 have je:∀k,kP H' k=true->m'' k=m' k:=fun k h=>aq7 h
 have mn:∀k,kP H' k=false->m'' k=m k:=fun k h=>aq6 (by simp[h])
 have RT:∀(k:Nat) b,¬s.Fresh k->m k=some b->m'' k=some b:=by
  intro k b hnf hb;cases h:kP H' k with
  |false=>rw[mn k h];exact hb
  |true =>
   rw[je k h];obtain⟨z,hz⟩:=kA.1 h;rcases eK k z hz with⟨y,hy⟩ |hfr
   ·rw[uN k y z hy hz];exact hb
   ·exact ard hfr hnf
 have hf':Frame (bh s.hp m) w w':=⟨hf.os,hf.tape,hf.output,hf.size,hf.sz,fun b hb hn=>hf.keep b hb (fun h=>hn (eW b h))⟩
 have bU:∀k z b,lk (H'++eO H++s.hp) k=some z->m'' k=some b->bh s.hp m b\/w.heap.size<=b:=by
  intro k z b hz hb;rcases cS k z hz with h |⟨h1,h2,h3⟩
  ·rw[je k (kA.2 ⟨z,h⟩)]at hb;rcases uM k z b h hb with h' |h'
   ·exact .inl (eW b h')
   ·exact .inr h'
  ·rw[mn k h1]at hb;exact .inl ⟨k,z,h3,hb⟩
 have RU:∀b cs,Im ext' H' m' w' b cs->Im C.ext (H'++eO H++s.hp) m'' w' b cs:=by
  rintro b cs ⟨h1,h2,h3⟩;refine⟨fun h=>h1 (.inl h),?_,h3⟩;rintro⟨k,z,hz,hb⟩;rcases cS k z hz with h |⟨g1,g2,g3⟩
  ·rw[je k (kA.2 ⟨z,h⟩)]at hb;exact h2 ⟨k,z,h,hb⟩
  ·rw[mn k g1]at hb;exact h1 (.inr ⟨k,z,g3,g2,hb⟩)
 refine⟨v,m'',rfl,hr.update hf' ?_ bU ?_ ⟨?_,?_,?_⟩,bn.mono RU (fun _ _ h=>h) ?_,fun k y z hy hz=>by rw[je k (kA.2 ⟨z,hz⟩)];exact uN k y z hy hz⟩
 ·intro t x k b hx hn hb;exact RT k b (fun hfr=>hfr.2.2.1 t x hx hn) hb
 ·intro k z rC hz;rcases cS k z hz with h |⟨h1,h2,h3⟩
  ·rcases eK k z h with⟨y,hy⟩ |hfr
   ·exact⟨⟨y,hH k y hy⟩,by rw[je k (kA.2 ⟨z,h⟩)];exact uN k y z hy h⟩
   ·have:=hfr.2.1;omega
  ·exact⟨⟨z,h3⟩,mn k h1⟩
 ·intro k z hz;rcases cS k z hz with h |⟨h1,h2,h3⟩
  ·rw[je k (kA.2 ⟨z,h⟩)];refine BlkRep.mono (w:=w') RU (fun _ _ h=>h) ?_ rfl (fun _ _=>rfl) (hh'.blk k z h);intro k2 b hn hb;have:=aky _ (so h);simp only[ap3]at this;rw[je k2 (this k2 hn.mem)];exact hb
  ·rw[mn k h1];refine BlkRep.mono (w:=w) (ia hf' bU) hf.sz ?_ rfl ?_ (hr.heap.blk k z h3)
   ·intro k2 b hn hb;exact RT k2 b (fun hfr=>hfr.2.2.2 k z h3 hn) hb
   ·intro b hb;refine hf.keep b (hr.heap.sep k z b h3 hb).2 ?_;rintro⟨k2,z2,dj,bF⟩;have:=hr.heap.inj k k2 z z2 b h3 (hH k2 z2 dj) hb bF;subst this;rw[h2]at dj;cases dj
 ·intro k1 k2 z1 z2 b h1 h2 cE bF;rcases cS k1 z1 h1 with e |⟨e1,e2,e3⟩ <;> rcases cS k2 z2 h2 with g |⟨g1,g2,g3⟩
  ·rw[je k1 (kA.2 ⟨z1,e⟩)]at cE;rw[je k2 (kA.2 ⟨z2,g⟩)]at bF
   exact hh'.inj k1 k2 z1 z2 b e g cE bF
  ·rw[je k1 (kA.2 ⟨z1,e⟩)]at cE;rw[mn k2 g1]at bF
   exact ard (.inr ⟨k2,z2,g3,g2,bF⟩) (hh'.sep k1 z1 b e cE).1
  ·rw[mn k1 e1]at cE;rw[je k2 (kA.2 ⟨z2,g⟩)]at bF
   exact ard (.inr ⟨k1,z1,e3,e2,cE⟩) (hh'.sep k2 z2 b g bF).1
  ·rw[mn k1 e1]at cE;rw[mn k2 g1]at bF
   exact hr.heap.inj k1 k2 z1 z2 b e3 g3 cE bF
 ·intro k z b hz hb;rcases cS k z hz with h |⟨h1,h2,h3⟩
  ·rw[je k (kA.2 ⟨z,h⟩)]at hb;have:=hh'.sep k z b h hb;exact⟨fun hc=>this.1 (.inl hc),this.2⟩
  ·rw[mn k h1]at hb;have:=hr.heap.sep k z b h3 hb;exact⟨this.1,aqd this.2 hf.size⟩
 ·intro k b hn hb;rw[je k (akx k hn.mem)];exact hb
end Go.Lw
namespace Go.Lw
variable{P:arj}{N:Nat}{R:Array Oper}{s:AS}{pos:String}{after:Array Edge}
def lY(s:AS)(H H':Hp)(r:AV):Bool:=(H.all fun p=>kP H p.1)&&xC r H'
theorem Fn{o:Oper}{f:FuncId}{xs:List AV}{H H':Hp}{r:AV}{rt:List Nat}{x:Option AV}(hg:o.guard=none)(hd:∀d,o.dst=some d->aly d N=true/\x=some r)
  (fe:Con P f xs H r H') (hH:∀k z,lk H k=some z->s.blk k=some z) (cT:lY s H H' r=true)
  (h:∀s',(∀t∈rt,s'.get t=s.get t)->∀C m a w,RelM C s' m a w->∃vs:Array arh,(execOp a.eval o).run P w=.ok (.enter f vs) w/\vs.size=xs.length /\
   ∀(j:Nat) v x,vs[j]?=some v->xs[j]?=some x->Rep (Im C.ext s'.hp m w) (Sz w) m v x) :
  Step P N R s o ⟨x,H'++eO H,rt,H.map (·.1)⟩:=by
 refine HW hg ?_;intro s' aH eK C m a w next hC hr hnext;simp only[lY,apw,ap3]at cT;obtain⟨uO,An⟩:=cT;obtain⟨vs,h1,h2,h3⟩:=h s' aH.1 C m a w hr;rw[h1]
 have hc := hr.called (run := Calls P f) (fun _ _ _ _ h h' => Calls.mono h h') fe.ret h2 h3 (fun k z hz => by rw [<- hH k z hz]; exact aH.2 k (r7 hz)) (by
  intro k z hz;rcases eK k (by simp only[ap8,ap2];exact .inl (r7 hz))with h |h
  ·obtain⟨p,hp,rfl⟩:=anx.1 h;exact .inl (kA.1 (uO p hp))
  ·exact .inr h) (by
  intro k hk;obtain⟨p,hp,rfl⟩:=anx.1 hk;exact uO p hp) An
 refine Calls.mono hc ?_;rintro e w' ⟨v,m'',rfl,hr',bn,_⟩;cases IF:o.dst with
 |none =>
  refine hnext m'' _ _ ?_;simpa[AS.app,IF,Act.put]using hr'
 |some d =>
  obtain⟨hN,rfl⟩:=hd d IF;rw[al5]at hN;refine hnext m'' _ _ ?_;have:=hr'.put d v (some r) (fun z hz=>by cases hz;exact⟨by have:=hr'.nt;omega,bn⟩);simpa[AS.app,IF,Act.put]using this
theorem aK{d f:Nat}{args:Array arg}{ts:Array ari}{xs:List AV}{H H':Hp}{r:AV}{t:ari}
  (fe:Con P f xs H r H') (ha:EvL s args.toList xs) (hH:∀k z,lk H k=some z->s.blk k=some z) (cT:lY s H H' r=true) (hN:aly d N=true) :
  Step P N R s ⟨some d,.call ⟨.value (.func f),args,ts⟩,t,pos,after,none⟩ ⟨some r,H'++eO H,gE args.toList,H.map (·.1)⟩ :=
 Fn rfl (fun d' h => by cases h; exact ⟨hN, rfl⟩) fe hH cT fun s' aH C m a w hr => by
  have ha':=ha.agree (u:=⟨none,[],gE args.toList,[]⟩) ⟨aH,fun k hk=>by cases hk⟩ (fun _ h=>h);refine⟨args.map a.eval,adu rfl rfl fe.ok rfl,?_,?_⟩
  ·have:=ha'.length;simpa using this
  ·intro j v x hv hx;exact ha'.rep hr j v x (by simpa using hv) hx
theorem abo{d f:Nat}{args:Array arg}{ts:Array ari}{xs:List AV}{r:AV}{t:ari}
  (fe:kK P f xs r) (ha:EvL s args.toList xs) (hnm:r.nm=[]) (hN:aly d N=true) :
  Step P N R s ⟨some d,.call ⟨.value (.func f),args,ts⟩,t,pos,after,none⟩ ⟨some r,[],gE args.toList,[]⟩ :=
 aK fe ha (fun k z h=>by cases h) (by simp[lY,xC,hnm]) hN
theorem CS{d f:Nat}{g:arg}{args:Array arg}{ts:Array ari}{xs caps:List AV}{H H':Hp}{r:AV}{t:ari}
  (hg:Ev s g (.fn f caps)) (fe:Con P f (xs++caps) H r H') (ha:EvL s args.toList xs) (hH:∀k z,lk H k=some z->s.blk k=some z) (cT:lY s H H' r=true) (hN:aly d N=true) :
  Step P N R s ⟨some d,.call ⟨.value g,args,ts⟩,t,pos,after,none⟩ ⟨some r,H'++eO H,az g++gE args.toList,H.map (·.1)⟩ :=
 Fn rfl (fun d' h => by cases h; exact ⟨hN, rfl⟩) fe hH cT fun s' aH C m a w hr => by
  have oB:jF s s' ⟨none,[],az g++gE args.toList,[]⟩:=⟨aH,fun k hk=>by cases hk⟩
  have ha':=ha.agree oB (fun _ h=>ap2.2 (.inr h));have lI:=(hg.agree oB (fun _ h=>ap2.2 (.inl h))).rep hr;generalize hv:a.eval g=u at lI;cases lI with
  | @fn _ _ cvs _ hn bn =>
   have hl:=ha'.length;refine⟨args.map a.eval++cvs,YD rfl hv fe.ok rfl,by simp[hn];simpa using hl,?_⟩;intro j v x hv hx;rcases apz j xs.length with h |h
   ·rw[aqc h]at hx;rw[apg (by simp;simp at hl;omega)]at hv;exact ha'.rep hr j v x (by simpa using hv) hx
   ·rw[aqb h]at hx;rw[ao8 (by simp;simp at hl;omega)]at hv;refine bn (j-xs.length) v x ?_ hx;rw[<- hv];congr 1;simp at hl ⊢;omega
inductive ResV(P:arj)(s:AS):ResultVar->AV->Prop
  |tmp {t:Nat} {x:AV} (h:s.get t=some x):ResV P s (.tmp t) x
  |cell {t k:Nat} {cs:List AV} {T:ari} {ti:TI} (h:s.get t=some (.ptr k 0)) (hk:s.blk k=some (.box cs)) (hT:aJ P T=some ti)
      (cG:Nat.ble ti.size cs.length=true) (h1:(ti.ag||amq ti.size 1)=true):ResV P s (.cell t T) (oG ti.ag (cs.take ti.size))
inductive ResL(P:arj)(s:AS):List ResultVar->List AV->Prop
  |nil:ResL P s [] []
  |cons {r:ResultVar} {x:AV} {rs:List ResultVar} {xs:List AV} (h:ResV P s r x) (hs:ResL P s rs xs):ResL P s (r::rs) (x::xs)
def fD:List AV->AV
  |[x]=>x
  |xs=>.tup xs
def CN(tmps:Array arh):ResultVar->Sem arh
  | .tmp t=>pure (tmps.getD t undef)
  | .cell a t=>do loadVar t (<- asAddr (tmps.getD a undef))
theorem ajj(fn:Func)(tmps:Array arh) :
  results fn tmps=(fn.results.mapM (CN tmps) >>= fun vs=>pure (if h:vs.size=1 then vs[0]else .tuple vs)):=by
 unfold results;congr 2
theorem ResV.run{x:AV}{r:ResultVar}(h:ResV P s r x){C:Ctx}{m:Nat->Option Nat}{a:Act}{w:ark}(hr:RelM C s m a w) :
  ∃v,(CN a.tmps r).run P w=.ok v w/\Rep (Im C.ext s.hp m w) (Sz w) m v x:=by
 cases h with
 |tmp h=>exact⟨_,rfl,(hr.slots _ _ h).2⟩
 | @cell t k cs T ti h hk hT cG h1 =>
  rw[al3]at cG;have h1:ti.ag=true\/ti.size=1:=by simpa using h1
  obtain⟨b,hm,hv⟩:=x3 hr (Ev.tmp h);obtain⟨c,t2,hw,hn,ho,bn⟩:=CV hr.heap hk hm;have hv':a.tmps.getD t undef=.pointer (some ⟨b,0,none⟩):=hv;refine⟨_,by simp only[CN,hv',arm,asAddr,arn,arl];exact Bq hT hw (by omega:0+ti.size<=c.size) h1,?_⟩;refine BT (c:=c) (off:=0) (n:=ti.size) (by simp;omega) oz h1 ?_ ?_
  ·intro j y hy;rw[aqh]at hy;split at hy
   ·exact ho _ y hy
   ·cases hy
  ·intro j u y hy hu;rw[aqh]at hy;split at hy
   ·exact bn _ u y (by simpa using hu) hy
   ·cases hy
theorem Uf{g:Nat->Array arh->Prop}{S:Nat->Nat->Prop}{m:Nat->Option Nat}:∀(vs:List arh)(xs:List AV),vs.length=xs.length ->
  (∀(j:Nat) v x,vs[j]?=some v->xs[j]?=some x->Rep g S m v x) ->
  Rep g S m (if h:vs.toArray.size=1 then vs.toArray[0]else .tuple vs.toArray) (fD xs)
 |[],[],_,_=>by simp[fD];exact .tup rfl (by simp)
 |[v],[x],_,h=>by simp[fD];exact h 0 v x rfl rfl
 |v::v'::vs,x::x'::xs,h2,h=>by
  simp[fD];exact .tup (by simpa using h2) (fun j u c hu hc=>h j u c (by simpa using hu) hc)
theorem ack{fn:Func}{rs:List ResultVar}{xs:List AV}(RV:fn.results=rs.toArray)(h:ResL P s rs xs){C:Ctx}{m:Nat->Option Nat}{a:Act}{w:ark}(hr:RelM C s m a w) :
  ∃v,(results fn a.tmps).run P w=.ok v w/\Rep (Im C.ext s.hp m w) (Sz w) m v (fD xs):=by
 have key:∃vs:List arh,(rs.mapM (CN a.tmps)).run P w=.ok vs w /\
   vs.length=xs.length/\∀(j:Nat) v x,vs[j]?=some v->xs[j]?=some x->Rep (Im C.ext s.hp m w) (Sz w) m v x:=by
  clear RV
  induction h with
  |nil=>exact⟨[],by simp,rfl,by simp⟩
  |cons h1 _ ih =>
   obtain⟨v,h2,h3⟩:=h1.run hr;obtain⟨vs,h4,h5,h6⟩:=ih;refine⟨v::vs,by simp only[List.mapM_cons,arm,h2,arl,h4,arn],by simp[h5],?_⟩;intro j v' x hv hx;cases j with
   |zero=>simp at hv hx;subst hv;subst hx;exact h3
   |succ j=>exact h6 j v' x (by simpa using hv) (by simpa using hx)
 obtain⟨vs,h1,h2,h3⟩:=key;refine⟨_,?_,Uf vs xs h2 h3⟩;rw[ajj,RV,apb];simp only[arm,Sem.run_map,h1,arl,arn]
def aD(s:AS)(x:AV)(r:AV)(H':Hp):Prop :=
  ∀ext m w v,HeapRel ext s.hp m w->(∀b,ext b->b<w.heap.size)->Rep (Im ext s.hp m w) (Sz w) m v x ->
    ∃m',HeapRel ext H' m' w/\(∀k z b,lk H' k=some z->m' k=some b->bh s.hp m b)/\(∀k z,1000<=k->lk H' k=some z->(∃y,lk s.hp k=some y)/\m' k=m k) /\
      Rep (Im ext H' m' w) (Sz w) m' v r
def q7(P:arj)(rs:List ResultVar)(r:AV)(H':Hp):Exit->AS->Prop
  | .normal,s | .ret,s=>∃xs,ResL P s rs xs/\aD s (fD xs) r H'
  |_,_=>False
def q9:Nat->List AV->di
  |_,[]=>[]
  |n,x::xs=>(n,some x)::q9 (n+1) xs
theorem Ox:∀(xs:List AV)(n t:Nat)(x:AV),lk (q9 n xs) t=some x->n<=t/\xs[t-n]?=some x
 |[],n,t,x,h=>by simp[q9,lk]at h
 |y::ys,n,t,x,h=>by
  simp only[q9,a5]at h;split at h
  ·cases h;subst_vars;simp
  ·obtain⟨h1,h2⟩:=Ox ys (n+1) t x h;refine⟨by omega,?_⟩;rw[show t-n=(t-(n+1))+1 by omega,List.getElem?_cons_succ];exact h2
theorem RelM.unmark{C:Ctx}{m:Nat->Option Nat}{a:Act}{w:ark}(h:RelM C s m a w){D:Nat}{l:List Deferred}(h1:C.w0.heap.size<=D)(h2:w.heap[D]?=some (.deferred (some [])))
  (hl:wL C.w0.heap.size l (w.putObj D (.deferred none))):RelM C s m { a with defers:=l } (w.putObj D (.deferred none)):=by
 have hlt:=h.heap.lt h2;have IG:∀b,b≠D->(w.putObj D (.deferred none)).heap[b]?=w.heap[b]? := fun b hb=>World.putObj_heap_other hb
 have hc:∀(b:Nat)(cs:Array arh)(t:ari)(f:Nat×Nat),w.heap[b]?=some (Obj.cells cs t f)->(w.putObj D (.deferred none)).heap[b]?=some (Obj.cells cs t f):=fun b cs t f hb=>by
  rw[IG b (fun e=>by rw[e,h2]at hb;cases hb)];exact hb
 have eM:∀b cs,Im C.ext s.hp m w b cs->Im C.ext s.hp m (w.putObj D (.deferred none)) b cs:=fun b cs ⟨e1,e2,t,f,e3⟩=>⟨e1,e2,t,f,hc _ _ _ _ e3⟩
 have bH:∀b n,Sz w b n->Sz (w.putObj D (.deferred none)) b n:=fun b n ⟨c,t,f,e1,e2⟩=>⟨c,t,f,hc _ _ _ _ e1,e2⟩
 refine⟨fun t x hx=>⟨(h.slots t x hx).1,(h.slots t x hx).2.mono eM bH (fun _ _ _ h=>h)⟩,⟨?_,h.heap.inj,fun k x b hk hb=>⟨(h.heap.sep k x b hk hb).1,by simpa[World.putObj]using(h.heap.sep k x b hk hb).2⟩⟩,?_,h.new,h.keep,hl,h.nt⟩
 ·intro k x hk;refine BlkRep.mono eM bH (fun _ _ _ h=>h) rfl (fun b hb=>IG b (fun e=>?_)) (h.heap.blk k x hk);subst e;exact h.heap.cells hk hb h2
 ·refine⟨h.frame.os,h.frame.tape,h.frame.output,by simpa[World.putObj]using h.frame.size,fun b n hs => bH b n (h.frame.sz b n hs),fun b hb hn => ?_⟩;rw[IG b oz];exact h.frame.keep b hb hn
theorem QM{C:Ctx}{fn:Func}{n:Nat}{R:Ending->ark->Prop}(hR:∀m a w,a.defers=[]->RelM C s m a w->∃v,(results fn a.tmps).run P w=.ok v w/\R (.returned v) w) :
  ∀(Ds:List Nat)(m:Nat->Option Nat)(a:Act)(w:ark),a.defers=Ds.map wj->Ds.Nodup->(∀D∈Ds,C.w0.heap.size<=D/\w.heap[D]?=some (.deferred (some [])))->RelM C s m a w ->
   LeavesInM Fence.wide n P fn a.tmps R a.defers .returning w
 |[],m,a,w,ha,hn,hD,h=>by
  have hn:a.defers=[]:=ha;rw[hn];exact hR m a w hn h
 |D::Ds,m,a,w,ha,hn,hD,h=>by
  obtain⟨h1,h2⟩:=hD D (aqr ..);rw[ha];refine⟨by simp,.inl ⟨D,_,rfl,run_takeDeferred h2,?_⟩⟩;obtain⟨dN,hn'⟩:=List.nodup_cons.1 hn
  have hD':∀D'∈Ds,C.w0.heap.size<=D'/\(w.putObj D (.deferred none)).heap[D']?=some (.deferred (some [])):=fun D' hm=>by
   obtain⟨g1,g2⟩:=hD D' (aqq _ hm);have b9:D'≠D:=fun e=>dN (by rw[<- e];exact hm)
   exact⟨g1,by rw[World.putObj_heap_other b9];exact g2⟩
  exact QM hR Ds m { a with defers:=Ds.map wj } _ rfl hn' hD' (h.unmark h1 h2 ⟨Ds,rfl,hn',hD'⟩)
theorem Pu{f:FuncId}{fn:Func}{c:Code}{rs:List ResultVar}{args:List AV}{H:Hp}{r:AV}{H':Hp}(hf:P.funcs[f]?=some fn)(hb:fn.body=some c)
    (hn : (fn.name == "runtime.NumGoroutine") = false) (Ao : fn.results = rs.toArray) (hN : fn.ntmps = N) (hH : ∀ k z, lk H k = some z -> 1000 <= k)
    (h:oc P N c (q7 P rs r H') ⟨q9 0 args,H⟩):Con P f args H r H':=by
  refine⟨UC hf hb hn,?_⟩;intro ext m w vs hext cQ dW dC;refine(callsIn_wide (n:=0)).1 (callsIn_of_wp_marks hf hb trivial ?_ rfl)
  let C:Ctx:=⟨w,ext,bh H m,m,N,hext,none⟩
  have no:RelM C ⟨q9 0 args,H⟩ m { tmps:=vs++apf (fn.ntmps-vs.size) undef,defers:=[] } w:=by
    refine⟨?_,cQ,Frame.refl _ _,fun k x b h1 h2=>.inl ⟨k,x,h1,h2⟩,fun _ _ _ _=>rfl,wL.nil _ _,?_⟩
    · intro t x hx
      obtain⟨_,h2⟩:=Ox args 0 t x hx;simp only[Nat.sub_zero]at h2
      have ht:t<args.length:=by
        rcases apz t args.length with h |h
        · exact h
        · rw[ap6 h]at h2;cases h2
      have ht':t<vs.size:=by omega
      refine⟨by simp;omega,?_⟩
      have:(vs++apf (fn.ntmps-vs.size) undef).getD t undef=vs[t]:=by
        rw[ap1,apg ht',apa ht'];rfl
      simp only[this];exact dC t vs[t] x (apa ht') h2
    · show N<=_
      simp;omega
  refine wpIn_mono (h C m _ w 0 rfl rfl no) ?_;rintro e a' w' ⟨s',m',hq,hr⟩
  have xd:∀(xs:List AV),ResL P s' rs xs->aD s' (fD xs) r H'->LeavesInM Fence.wide 0 P fn a'.tmps (fun e w'=>∃v' m'',e=Ending.returned v'/\Frame (bh H m) w w'/\HeapRel ext H' m'' w' /\
        (∀k x b,lk H' k=some x->m'' k=some b->bh H m b\/w.heap.size<=b)/\(∀k x y,lk H k=some x->lk H' k=some y->m'' k=m k) /\
        Rep (Im ext H' m'' w') (Sz w') m'' v' r) a'.defers .returning w':=by
    intro xs hx mf;obtain⟨Ds,e1,e2,e3⟩:=hr.defers;refine QM (C:=C) (s:=s') (fun m1 a1 w1 _ bA=>?_) Ds m' a' w' e1 e2 e3 hr;obtain⟨v,h1,h2⟩:=ack Ao hx bA;obtain⟨m'',h3,h4,h5,h6⟩:=mf ext m1 w1 v bA.heap (fun b hb=>bA.ext_lt hb) h2;refine⟨v,h1,v,m'',rfl,bA.frame,h3,?_,?_,h6⟩
    · intro k z b hk hb
      obtain⟨k2,z2,dj,bF⟩:=h4 k z b hk hb;exact bA.new k2 z2 b dj bF
    · intro k z y hk hy
      obtain⟨⟨y',hy'⟩,h8⟩:=h5 k y (hH k z hk) hy;rw[h8];exact bA.keep k y' (hH k z hk) hy'
  cases e with
  |normal =>
    obtain⟨xs,h1,h2⟩:=hq;exact xd xs h1 h2
  |ret =>
    obtain⟨xs,h1,h2⟩:=hq;exact xd xs h1 h2
  |_=>exact hq.elim
theorem P8{f:FuncId}{fn:Func}{c:Code}{rs:List ResultVar}{args:List AV}{H:Hp}{r:AV}{H':Hp}(hf:P.funcs[f]?=some fn)(hb:fn.body=some c)
  (hn : (fn.name == "runtime.NumGoroutine") = false) (Ao : fn.results = rs.toArray) (hN : fn.ntmps = N) (hH : ∀ k z, lk H k = some z -> 1000 <= k)
  (h:cq P N c (q7 P rs r H') ⟨q9 0 args,H⟩):Con P f args H r H':=Pu hf hb hn Ao hN hH h.out
end Go.Lw
