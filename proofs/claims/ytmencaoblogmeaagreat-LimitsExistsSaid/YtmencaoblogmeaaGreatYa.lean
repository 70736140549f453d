/- LimitsExists: for any linkage and any turn the law returns true and leaves its arguments as they were. No other condition. Part 1 of 8: what the later parts need -/
import Derived.Calls
import Derived.Below
import Derived.Laws.Sem
import Derived.Laws.Cells
import Derived.Laws.Append
import Derived.Laws.Rows
import Derived.OrdersIn
import Derived.RangeFuncLeaves
import Derived.RangeFuncRecord
import Derived.Orders
import Derived.IntWalk
import Derived.Laws.AppendOwn
set_option linter.unusedVariables false
open List (all_cons nil_append)
open List renaming mem_of_getElem? → ah3, mem_cons_of_mem → ait, mem_append → aia, map_cons → ajd, mem_cons → aiq, length_cons → aij, mem_cons_self → ai2, length_append → ai0, length_nil → aiv, getD_eq_getElem?_getD → ah4, getElem?_append_left → ais, getElem?_eq_none → aig, all_eq_true → aif, getElem?_take → ai1, getElem?_drop → ai5, getElem?_map → aib, append_assoc → ajc, getElem?_append_right → ain, getElem?_eq_getElem → ah9, drop_eq_nil_of_le → aiy, getElem?_replicate → aix, map_append → ai4, getElem?_toArray → afg, mem_iff_getElem → afh, append_nil → afj, mem_singleton → afr, replicate → afv, mem_range → afy, mem_map → af0, foldl_cons → af1, eq_nil_of_length_eq_zero → af2, getElem?_set → af4, mem_filter → agf, cons_append → agj, size_toArray → agl
open Nat renaming eq_of_beq_eq_true → ah5, le_refl → aie, lt_of_lt_of_le → aip, lt_or_ge → aid, le_trans → aiw, mul_le_mul_right → aik, mul_le_mul_left → aih, blt_eq → ad5, mod_lt → aeg, div_add_mod → aeh, succ_mul → aei, blt → aek, mul_pos → aem, add_assoc → aeo, add_comm → aeq, ne_of_beq_eq_false → aes, div_lt_iff_lt_mul → aex, mul_comm → aey, add_mul → aez, ble_eq → ae0, eq_zero_or_pos → ae1, add_zero → ae4, mod_eq_of_lt → ae7, zero_add → ae9, beq → afe
open Option renaming map_eq_some_iff → ah8, getD_some → ah0, map_some → ah1
open Bool renaming and_eq_true → ah7, or_eq_true → ajb, true_and → ahg, not_eq_true' → ahh, false_eq_true → ahi
open Array renaming getD_eq_getD_getElem? → aic, getElem?_append_left → ahj, getElem?_push → ahk, getElem?_eq_getElem → ahm, getElem?_setIfInBounds → ahn, getElem?_eq_none → ahp, getElem?_append_right → ahq, toList_setIfInBounds → ahr, size_append → ahs, replicate → aht, all_eq_true_iff_forall_mem → ahu, length_toList → ahv, getElem?_replicate → ahw, mapM_eq_mapM_toList → ahx, getElem?_extract → ahy, getElem?_toList → ahz
open Go renaming Operand → ajp, Value → ajq, TypeId → ajr, Program → ajs, World → ajt
open Go.Result renaming andThen_ok → aju
open Go.Sem renaming run_bind → ajv, run_pure → ajw
namespace Go.Lw
abbrev pP{a:Type}(k:Nat)(v:a):Nat×Option a:=(k,some v)
theorem ajf{c:Prop}{h:Decidable c}(n:¬c){α:Sort _}{t e:α}:ite c t e=e:=if_neg n
theorem ajg{c:Prop}{h:Decidable c}(n:c){α:Sort _}{t e:α}:ite c t e=t:=if_pos n
theorem ajh{p:Prop}[Decidable p]:(decide p=true)=p:=decide_eq_true_eq
theorem aji{p:Prop}[Decidable p](n:decide p=true):p:=of_decide_eq_true n
theorem ajj{p:Prop}[Decidable p](n:decide p=false):¬p:=of_decide_eq_false n
theorem ajk{p:Prop}[Decidable p](n:p):decide p=true:=decide_eq_true n
theorem ajl{p:Prop}[Decidable p](n:¬p):decide p=false:=decide_eq_false n
theorem ajm{a b:Prop}(h:a)(n:¬a):b:=absurd h n
theorem ajn{α β:Sort _}{x y:α}(f:α→β)(h:x=y):f x=f y:=congrArg f h
abbrev ajo{α:Sort _}(i:α:=by infer_instance):α:=i
theorem oz{p:Prop}(h:p:=by omega):p:=h
abbrev LL:=List (List Rat)
inductive AV where
  |v (x:ajq)
  |lst (sz:Nat) (es:List AV)
  |agg (cs:List AV)
  |tup (xs:List AV)
  |iptr (cs:List AV)
  |ms (k sz off len:Nat)
  |ptr (k off:Nat)
  |eptr (k sz i off:Nat)
  |fn (f:FuncId) (caps:List AV)
  |opt (b:Bool) (x:AV)
  |yl (k:Nat)
  |cl (f:FuncId) (pre caps:List AV)
  deriving Inhabited
abbrev nS:AV:=.v (.slice none 0 0)
def AV.cells:AV->List AV
  | .agg cs=>cs
  |x=>[x]
def AV.one:AV->Bool
  | .v x=>x.oneCell'
  | .agg _ | .tup _ | .opt _ _=>false
  |_=>true
abbrev az:Nat:=281474976710656
abbrev cO:Nat->Option Nat:=fun _=>none
inductive Rep(g:Nat->Array ajq->Prop)(S:Nat->Nat->Prop):(Nat->Option Nat)->ajq->AV->Prop
  |v {m:Nat->Option Nat} (x:ajq):Rep g S m x (.v x)
  |lst0 {m:Nat->Option Nat} (a:Option Addr) (cap sz:Nat):Rep g S m (.slice a 0 cap) (.lst sz [])
  |lst {m:Nat->Option Nat} {b off cap sz:Nat} {es:List AV} {cs:Array ajq} (u:Nat->Nat->ajq)
      (hb:g b cs) (hc:es.length<=cap) (hl:es.length<=az) (hs:∀(i:Nat)(e:AV),es[i]?=some e->e.cells.length=sz)
      (h1:∀(i j:Nat)(e c:AV),es[i]?=some e->e.cells[j]?=some c->c.one=true)
      (hu:∀(i j:Nat)(e c:AV),es[i]?=some e->e.cells[j]?=some c->cs[off+i*sz+j]?=some (u i j))
      (hr:∀(i j:Nat)(e c:AV),es[i]?=some e->e.cells[j]?=some c->Rep g S cO (u i j) c) :
      Rep g S m (.slice (some ⟨b,off,none⟩) es.length cap) (.lst sz es)
  |agg {m:Nat->Option Nat} {vs:Array ajq} {cs:List AV} (hn:vs.size=cs.length)
      (h1:∀(j:Nat)(c:AV),cs[j]?=some c->c.one=true)
      (hr:∀(j:Nat)(u:ajq)(c:AV),vs[j]?=some u->cs[j]?=some c->Rep g S m u c):Rep g S m (.agg vs) (.agg cs)
  |tup {m:Nat->Option Nat} {vs:Array ajq} {xs:List AV} (hn:vs.size=xs.length)
      (hr:∀(j:Nat)(u:ajq)(c:AV),vs[j]?=some u->xs[j]?=some c->Rep g S m u c):Rep g S m (.tuple vs) (.tup xs)
  |iptr {m:Nat->Option Nat} {b off:Nat} {cs:Array ajq} {xs:List AV} (u:Nat->ajq)
      (hb:g b cs) (h1:∀(j:Nat)(c:AV),xs[j]?=some c->c.one=true)
      (hu:∀(j:Nat)(c:AV),xs[j]?=some c->cs[off+j]?=some (u j))
      (hr:∀(j:Nat)(c:AV),xs[j]?=some c->Rep g S cO (u j) c):Rep g S m (.pointer (some ⟨b,off,none⟩)) (.iptr xs)
  |ms0 {m:Nat->Option Nat} (a:Option Addr) (k sz off:Nat):Rep g S m (.slice a 0 0) (.ms k sz off 0)
  |ms {m:Nat->Option Nat} {k sz off len cap b:Nat} (hm:m k=some b) (hc:len<=cap) (hS:S b ((off+cap)*sz)) :
      Rep g S m (.slice (some ⟨b,off*sz,none⟩) len cap) (.ms k sz off len)
  |ptr {m:Nat->Option Nat} {k off b:Nat} (hm:m k=some b):Rep g S m (.pointer (some ⟨b,off,none⟩)) (.ptr k off)
  |eptr {m:Nat->Option Nat} {k sz i off b:Nat} (hm:m k=some b):Rep g S m (.pointer (some ⟨b,i*sz+off,none⟩)) (.eptr k sz i off)
  |fn {m:Nat->Option Nat} {f:FuncId} {vs:Array ajq} {xs:List AV} (hn:vs.size=xs.length)
      (hr:∀(j:Nat)(u:ajq)(c:AV),vs[j]?=some u->xs[j]?=some c->Rep g S m u c):Rep g S m (.func (.func f) #[] vs) (.fn f xs)
  |opt {m:Nat->Option Nat} {x:ajq} {b:Bool} {y:AV} (h:b=true->Rep g S m x y) (h':b=false->x=undef):Rep g S m x (.opt b y)
  |yl {m:Nat->Option Nat} {k b:Nat} (hm:m k=some b):Rep g S m (.func (.yield b) #[] #[]) (.yl k)
  |cl {m:Nat->Option Nat} {f:FuncId} {vs us:Array ajq} {xs ys:List AV} (hn:vs.size=xs.length)
      (hr:∀(j:Nat)(u:ajq)(c:AV),vs[j]?=some u->xs[j]?=some c->Rep g S cO u c) (hn':us.size=ys.length)
      (hr':∀(j:Nat)(u:ajq)(c:AV),us[j]?=some u->ys[j]?=some c->Rep g S cO u c):Rep g S m (.func (.func f) vs us) (.cl f xs ys)
inductive AV.Names:AV->Nat->Prop
  |ms (k sz off len:Nat):AV.Names (.ms k sz off len) k
  |ptr (k off:Nat):AV.Names (.ptr k off) k
  |eptr (k sz i off:Nat):AV.Names (.eptr k sz i off) k
  |agg {cs:List AV} {c:AV} {k:Nat} (h:c∈cs) (hc:AV.Names c k):AV.Names (.agg cs) k
  |tup {cs:List AV} {c:AV} {k:Nat} (h:c∈cs) (hc:AV.Names c k):AV.Names (.tup cs) k
  |fn {f:FuncId} {cs:List AV} {c:AV} {k:Nat} (h:c∈cs) (hc:AV.Names c k):AV.Names (.fn f cs) k
  |opt {b:Bool} {c:AV} {k:Nat} (hc:AV.Names c k):AV.Names (.opt b c) k
  |yl (k:Nat):AV.Names (.yl k) k
theorem Rep.mono{g g':Nat->Array ajq->Prop}{S S':Nat->Nat->Prop}(hg:∀b cs,g b cs->g' b cs)
  (hS:∀b n,S b n->S' b n) {m:Nat->Option Nat} {v:ajq} {x:AV} (h:Rep g S m v x) :
  ∀{m':Nat->Option Nat},(∀k b,x.Names k->m k=some b->m' k=some b)->Rep g' S' m' v x:=by
 induction h with
 |v x=>intro m' _;exact .v x
 |lst0 a cap sz=>intro m' _;exact .lst0 a cap sz
 |lst u hb hc hl hs h1 hu hr ih =>
  intro m' _;exact .lst u (hg _ _ hb) hc hl hs h1 hu (fun i j e c he hc=>ih i j e c he hc (fun k b _ h=>h))
 |agg hn h1 hr ih =>
  intro m' hm;exact .agg hn h1 (fun j u c hu hc=>ih j u c hu hc (fun k b hk=>hm k b (.agg (ah3 hc) hk)))
 |tup hn hr ih =>
  intro m' hm;exact .tup hn (fun j u c hu hc=>ih j u c hu hc (fun k b hk=>hm k b (.tup (ah3 hc) hk)))
 |iptr u hb h1 hu hr ih =>
  intro m' _;exact .iptr u (hg _ _ hb) h1 hu (fun j c hc=>ih j c hc (fun k b _ h=>h))
 |ms0 a k sz off=>intro m' _;exact .ms0 a k sz off
 |ms h hc hs=>intro m' hm;exact .ms (hm _ _ (.ms _ _ _ _) h) hc (hS _ _ hs)
 |ptr h=>intro m' hm;exact .ptr (hm _ _ (.ptr _ _) h)
 |eptr h=>intro m' hm;exact .eptr (hm _ _ (.eptr _ _ _ _) h)
 |fn hn hr ih =>
  intro m' hm;exact .fn hn (fun j u c hu hc=>ih j u c hu hc (fun k b hk=>hm k b (.fn (ah3 hc) hk)))
 |opt h h' ih=>intro m' hm;exact .opt (fun hb=>ih hb (fun k b hk=>hm k b (.opt hk))) h'
 |yl h=>intro m' hm;exact .yl (hm _ _ (.yl _) h)
 |cl hn hr hn' hr' ih ih' =>
  intro m' hm
  exact .cl hn (fun j u c hu hc=>ih j u c hu hc (fun k b _ h=>h))
   hn' (fun j u c hu hc=>ih' j u c hu hc (fun k b _ h=>h))
theorem Rep.one{g:Nat->Array ajq->Prop}{S:Nat->Nat->Prop}{m:Nat->Option Nat}{v:ajq}{x:AV}
  (h:Rep g S m v x) (h1:x.one=true):v.oneCell'=true:=by
 cases h <;> simp_all [AV.one,Value.oneCell']
theorem Rep.cells{g:Nat->Array ajq->Prop}{S:Nat->Nat->Prop}{m:Nat->Option Nat}{v:ajq}{x:AV}
  (h:Rep g S m v x) (hx:(∃cs,x=.agg cs)\/x.one=true) :
  v.cells.size=x.cells.length/\(∀(j:Nat)(c:AV),x.cells[j]?=some c->c.one=true) /\
   ∀(j:Nat)(u:ajq)(c:AV),v.cells[j]?=some u->x.cells[j]?=some c->Rep g S m u c:=by
 rcases hx with⟨cs,rfl⟩ |hx
 ·cases h with
  |agg hn h1 hr=>exact⟨hn,h1,hr⟩
 ·have hv:=h.one hx;have e1:v.cells = #[v]:=by cases v <;> simp_all [Value.cells,Value.oneCell']
  have e2:x.cells=[x]:=by cases x <;> simp_all [AV.cells,AV.one]
  rw[e1,e2];refine⟨rfl,?_,?_⟩
  ·intro j c hc;rcases j with _ |j <;> simp at hc
   exact hc▸hx
  ·intro j u c hu hc;rcases j with _ |j <;> simp at hc hu
   exact hc▸hu▸h
def lk{α:Type}:List (Nat×Option α)->Nat->Option α
  |[],_=>none
  |(t',x)::l,t=>match afe t t' with
    |true=>x
    |false=>lk l t
theorem aA{α:Type}(t t':Nat)(x:Option α)(l:List (Nat×Option α)):lk ((t',x)::l) t=if t=t' then x else lk l t:=by
 show(match afe t t' with |true=>x |false=>lk l t)=_;split
 ·rename_i h;rw[ajg (ah5 h)]
 ·rename_i h;rw[ajf (aes h)]
theorem oQ{α:Type}{l:List (Nat×Option α)}{t:Nat}{x:α}(h:lk l t=some x):(t,some x)∈l:=by
 induction l with
 |nil=>simp[lk]at h
 |cons y l ih =>
  obtain⟨t',y⟩:=y;rw[aA]at h;split at h
  ·subst_vars;simp
  ·exact ait _ (ih h)
structure LpD where
  params:Array Tmp
  assign:Code
  body:Code
  nt:Nat
inductive Blk where
  |box (cs:List AV)
  |row (sz:Nat) (es:List AV)
  |loop (d:LpD) (st:LoopState) (pend:Option Code) (sl:List (Nat×Option AV))
  |vec (vs:List ajq)
  deriving Inhabited
inductive BlkRep(g:Nat->Array ajq->Prop)(S:Nat->Nat->Prop)(m:Nat->Option Nat)(w:ajt):Option Nat->Blk->Prop
  |none (sz:Nat):BlkRep g S m w none (.row sz [])
  |box {b:Nat} {cs:List AV} {c:Array ajq} {t:ajr} (hw:w.heap[b]?=some (.cells c t (0,0))) (hn:c.size=cs.length)
      (h1:∀(j:Nat)(x:AV),cs[j]?=some x->x.one=true)
      (hr:∀(j:Nat)(u:ajq)(x:AV),c[j]?=some u->cs[j]?=some x->Rep g S m u x):BlkRep g S m w (some b) (.box cs)
  |row {b sz:Nat} {es:List AV} {c:Array ajq} {t:ajr} (hw:w.heap[b]?=some (.cells c t (0,0))) (hn:es.length*sz<=c.size)
      (hl:es.length<=az)
      (hs:∀(i:Nat)(e:AV),es[i]?=some e->e.cells.length=sz)
      (h1:∀(i j:Nat)(e x:AV),es[i]?=some e->e.cells[j]?=some x->x.one=true)
      (hr:∀(i j:Nat)(e:AV)(u:ajq)(x:AV),es[i]?=some e->e.cells[j]?=some x->c[i*sz+j]?=some u->Rep g S cO u x) :
      BlkRep g S m w (some b) (.row sz es)
  |loop {b:Nat} {r:Loop} {d:LpD} {st:LoopState} {pend:Option Code} {sl:List (Nat×Option AV)} (hw:w.heap[b]?=some (.loop r)) (cg:r.state=st) (kQ:r.pending=pend)
      (oa:r.params=d.params) (has:r.assign=d.assign) (lU:r.body=d.body) (hnt:d.nt<=r.tmps.size)
      (hr:∀(t:Nat)(x:AV),lk sl t=some x->t<r.tmps.size/\Rep g S m (r.tmps.getD t undef) x):BlkRep g S m w (some b) (.loop d st pend sl)
  |vec {b:Nat} {vs:List ajq} {c:Array ajq} {t:ajr} (hw:w.heap[b]?=some (.cells c t (0,0))) (hc:c.toList=vs) (h1:∀v∈vs,v.oneCell'=true):BlkRep g S m w (some b) (.vec vs)
def Blk.Names(k:Nat):Blk->Prop
  | .box cs=>∃c∈cs,c.Names k
  | .row _ _=>False
  | .loop _ _ _ sl=>∃t x,(t,some x)∈sl/\x.Names k
  | .vec _=>False
theorem BlkRep.mono{g g':Nat->Array ajq->Prop}{S S':Nat->Nat->Prop}{m m':Nat->Option Nat}{w w':ajt}{o o':Option Nat}{x:Blk}
  (hg:∀b cs,g b cs->g' b cs) (hS:∀b n,S b n->S' b n) (hm:∀k b,x.Names k->m k=some b->m' k=some b)
  (ho:o'=o) (hw:∀b,o=some b->w'.heap[b]?=w.heap[b]?)
  (h:BlkRep g S m w o x):BlkRep g' S' m' w' o' x:=by
 subst ho;cases h with
 |none sz=>exact .none sz
 |box h hn h1 hr =>
  refine .box ((hw _ rfl).trans h) hn h1 (fun j u x hu hx=>(hr j u x hu hx).mono hg hS (fun k b hk=>hm k b ⟨x,ah3 hx,hk⟩))
 |row h hn hl hs h1 hr =>
  refine .row ((hw _ rfl).trans h) hn hl hs h1 (fun i j e u x he hx hu=>(hr i j e u x he hx hu).mono hg hS (fun k b _ h=>h))
 |loop h h1 h2 h3 h4 h5 hn hr =>
  refine .loop ((hw _ rfl).trans h) h1 h2 h3 h4 h5 hn (fun t x hx=>⟨(hr t x hx).1,(hr t x hx).2.mono hg hS (fun k b hk=>hm k b ⟨t,x,oQ hx,hk⟩)⟩)
 |vec h hc h1=>exact .vec ((hw _ rfl).trans h) hc h1
mutual
def AV.nm:AV->List Nat
  | .ms k _ _ _=>[k]
  | .ptr k _=>[k]
  | .eptr k _ _ _=>[k]
  | .agg cs=>AV.nms cs
  | .tup xs=>AV.nms xs
  | .fn _ xs=>AV.nms xs
  | .opt _ x=>x.nm
  | .yl k=>[k]
  |_=>[]
def AV.nms:List AV->List Nat
  |[]=>[]
  |x::l=>x.nm++AV.nms l
end
theorem AV.mem_nms{l:List AV}{c:AV}{k:Nat}(hc:c∈l)(hk:k∈c.nm):k∈AV.nms l:=by
 induction l with
 |nil=>cases hc
 |cons x l ih =>
  simp only[AV.nms,aia];rcases aiq.1 hc with rfl |hc
  ·exact .inl hk
  ·exact .inr (ih hc)
theorem AV.Names.mem{x:AV}{k:Nat}(h:x.Names k):k∈x.nm:=by
 induction h with
 |ms=>simp[AV.nm]
 |ptr=>simp[AV.nm]
 |eptr=>simp[AV.nm]
 |agg h _ ih=>exact AV.mem_nms h ih
 |tup h _ ih=>exact AV.mem_nms h ih
 |fn h _ ih=>exact AV.mem_nms h ih
 |opt _ ih=>exact ih
 |yl=>simp[AV.nm]
def Eh(sl:List (Nat×Option AV)):List Nat:=sl.flatMap fun p=>match p.2 with |some x=>x.nm |none=>[]
def Blk.nm:Blk->List Nat
  | .box cs=>AV.nms cs
  | .row _ _=>[]
  | .loop _ _ _ sl=>Eh sl
  | .vec _=>[]
theorem Blk.Names.mem{x:Blk}{k:Nat}(h:x.Names k):k∈x.nm:=by
 cases x with
 |box cs=>obtain⟨c,hc,hk⟩:=h;exact AV.mem_nms hc hk.mem
 |row sz es=>exact h.elim
 |vec vs=>exact h.elim
 |loop d st pe sl =>
  obtain⟨t,c,hc,hk⟩:=h;exact List.mem_flatMap.2 ⟨_,hc,hk.mem⟩
end Go.Lw
namespace Go.Lw
abbrev bn:=List (Nat×Option AV)
abbrev Hp:=List (Nat×Option Blk)
theorem ky{α:Type}(u l:List (Nat×Option α))(t:Nat):lk (u++l) t=if t∈u.map (·.1)then lk u t else lk l t:=by
 induction u with
 |nil=>simp
 |cons x u ih =>
  obtain⟨t',x⟩:=x;simp only[agj,aA,ih,ajd,aiq]
  by_cases h:t=t'
  ·simp[h]
  ·rw[ajf h]
   by_cases h2:t∈u.map (·.1)
   ·rw[ajg h2,ajg (.inr h2),ajf h]
   ·rw[ajf h2,ajf (by simp only[h,h2,or_self,not_false_eq_true])]
structure AS where
  sl:bn
  hp:Hp
def AS.get(s:AS)(t:Nat):Option AV:=lk s.sl t
def AS.blk(s:AS)(k:Nat):Option Blk:=lk s.hp k
def aO(hp:Hp)(m:Nat->Option Nat)(b:Nat):Prop:=∃k x,lk hp k=some x/\m k=some b
def Im(ext:Nat->Prop)(hp:Hp)(m:Nat->Option Nat)(w:ajt)(b:Nat)(cs:Array ajq):Prop :=
  ¬ext b/\¬aO hp m b/\∃t f,w.heap[b]?=some (.cells cs t f)
def Sz(w:ajt)(b n:Nat):Prop:=∃c t f,w.heap[b]?=some (.cells c t f)/\n<=c.size
structure HeapRel(ext:Nat->Prop)(hp:Hp)(m:Nat->Option Nat)(w:ajt):Prop where
  blk:∀k x,lk hp k=some x->BlkRep (Im ext hp m w) (Sz w) m w (m k) x
  inj:∀k k' x x' b,lk hp k=some x->lk hp k'=some x'->m k=some b->m k'=some b->k=k'
  sep:∀k x b,lk hp k=some x->m k=some b->¬ext b/\b<w.heap.size
structure Frame(own:Nat->Prop)(w w':ajt):Prop where
  os:w'.os=w.os
  tape:w'.tape=w.tape
  output:w'.output=w.output
  size:w.heap.size<=w'.heap.size
  sz:∀b n,Sz w b n->Sz w' b n
  keep:∀b,b<w.heap.size->¬own b->w'.heap[b]?=w.heap[b]?
theorem Frame.refl(own:Nat->Prop)(w:ajt):Frame own w w:=⟨rfl,rfl,rfl,aie _,fun _ _ h=>h,fun _ _ _=>rfl⟩
def D7(run:Array ajq->ajt->(Ending->ajt->Prop)->Prop)(args:List AV)(H:Hp)(r:AV)(H':Hp):Prop :=
  ∀(ext:Nat->Prop)(m:Nat->Option Nat)(w:ajt)(vs:Array ajq),(∀b,ext b->b<w.heap.size)->HeapRel ext H m w ->
    vs.size=args.length->(∀(j:Nat) v x,vs[j]?=some v->args[j]?=some x->Rep (Im ext H m w) (Sz w) m v x) ->
    run vs w fun e w'=>∃v m',e=.returned v/\Frame (aO H m) w w'/\HeapRel ext H' m' w' /\
      (∀k x b,lk H' k=some x->m' k=some b->aO H m b\/w.heap.size<=b) /\
      (∀k x y,lk H k=some x->lk H' k=some y->m' k=m k) /\
      Rep (Im ext H' m' w') (Sz w') m' v r
def XZ(P:ajs)(f:FuncId)(args:List AV)(H:Hp)(r:AV)(H':Hp):Prop:=D7 (Calls P f) args H r H'
structure Ctx where
  w0:ajt
  ext:Nat->Prop
  own0:Nat->Prop
  m0:Nat->Option Nat
  nt:Nat
  hext:∀b,ext b->b<w0.heap.size
  ro:Option Nat:=none
def Fw(ro:Option Nat):Fence:={ Fence.wide with round:=ro }
def tk(D:Nat):Deferred:={ target:=.collected D,args:=#[] }
def un(b0:Nat)(l:List Deferred)(w:ajt):Prop:=∃Ds:List Nat,l=Ds.map tk/\Ds.Nodup/\∀D∈Ds,b0<=D/\w.heap[D]?=some (.deferred (some []))
theorem un.nil(b0:Nat)(w:ajt):un b0 [] w:=⟨[],rfl,List.nodup_nil,fun D h=>by cases h⟩
structure RelM(C:Ctx)(s:AS)(m:Nat->Option Nat)(a:Act)(w:ajt):Prop where
  slots:∀t x,s.get t=some x->t<a.tmps.size/\Rep (Im C.ext s.hp m w) (Sz w) m (a.tmps.getD t undef) x
  heap:HeapRel C.ext s.hp m w
  frame:Frame C.own0 C.w0 w
  new:∀k x b,lk s.hp k=some x->m k=some b->C.own0 b\/C.w0.heap.size<=b
  keep:∀k x,1000<=k->lk s.hp k=some x->m k=C.m0 k
  defers:un C.w0.heap.size a.defers w
  nt:C.nt<=a.tmps.size
def AS.Fresh(s:AS)(k:Nat):Prop :=
  lk s.hp k=none/\k<1000/\(∀t x,s.get t=some x->¬x.Names k)/\(∀k' x,lk s.hp k'=some x->¬x.Names k)
theorem HeapRel.lt{ext:Nat->Prop}{hp:Hp}{m:Nat->Option Nat}{w:ajt}(_:HeapRel ext hp m w){b:Nat}{o:Obj}(h:w.heap[b]?=some o):b<w.heap.size:=(Array.getElem?_eq_some_iff.1 h).1
theorem HeapRel.cells{ext:Nat->Prop}{hp:Hp}{m:Nat->Option Nat}{w:ajt}(h:HeapRel ext hp m w){k b:Nat}{x:Blk}(hk:lk hp k=some x)(hb:m k=some b){o:Option (List Deferred)}(ho:w.heap[b]?=some (.deferred o)):False:=by
 have:=h.blk k x hk;rw[hb]at this;cases this with
 |box hw=>rw[ho]at hw;cases hw
 |row hw=>rw[ho]at hw;cases hw
 |loop hw=>rw[ho]at hw;cases hw
 |vec hw=>rw[ho]at hw;cases hw
theorem RelM.ext_lt{C:Ctx}{s:AS}{m:Nat->Option Nat}{a:Act}{w:ajt}(h:RelM C s m a w){b:Nat}(hb:C.ext b):b<w.heap.size :=
 aip (C.hext b hb) h.frame.size
theorem RelM.update{C:Ctx}{s:AS}{m:Nat->Option Nat}{a:Act}{w:ajt}(h:RelM C s m a w){w':ajt}{m':Nat->Option Nat}{hp':Hp}
  (hf:Frame (aO s.hp m) w w')
  (hm:∀t x k b,s.get t=some x->x.Names k->m k=some b->m' k=some b)
  (bg:∀k x b,lk hp' k=some x->m' k=some b->aO s.hp m b\/w.heap.size<=b)
  (hkp:∀k x,1000<=k->lk hp' k=some x->(∃y,lk s.hp k=some y)/\m' k=m k)
  (hh:HeapRel C.ext hp' m' w'):RelM C ⟨s.sl,hp'⟩ m' a w':=by
 refine⟨?_,hh,?_,?_,fun k x h1 h2=>by obtain⟨⟨y,hy⟩,h4⟩:=hkp k x h1 h2;exact h4.trans (h.keep k y h1 hy),?_,h.nt⟩
 ·intro t x hx;obtain⟨h1,h2⟩:=h.slots t x hx;refine⟨h1,h2.mono ?_ hf.sz (fun k b hk=>hm t x k b hx hk)⟩;rintro b cs ⟨he,ho,t',f',hb⟩
  have hlt:b<w.heap.size:=by
   rcases aid b w.heap.size with h |h
   ·exact h
   ·simp[ahp h]at hb
  refine⟨he,?_,t',f',(hf.keep b hlt ho).trans hb⟩;rintro⟨k,y,hk,oc⟩;rcases bg k y b hk oc with h' |h'
  ·exact ho h'
  ·omega
 ·refine⟨hf.os.trans h.frame.os,hf.tape.trans h.frame.tape,hf.output.trans h.frame.output,aiw h.frame.size hf.size,fun b n hs=>hf.sz b n (h.frame.sz b n hs),?_⟩;intro b hb ho;rw[hf.keep b (aip hb h.frame.size) ?_,h.frame.keep b hb ho];rintro⟨k,x,hk,oc⟩;rcases h.new k x b hk oc with h' |h'
  ·exact ho h'
  ·omega
 ·intro k x b hk oc;rcases bg k x b hk oc with⟨k2,y,cD,acz⟩ |h'
  ·exact h.new k2 y b cD acz
  ·exact .inr (aiw h.frame.size h')
 ·obtain⟨Ds,e,hn,hD⟩:=h.defers;refine⟨Ds,e,hn,fun D hm=>?_⟩;obtain⟨h1,h2⟩:=hD D hm;refine⟨h1,(hf.keep D (h.heap.lt h2) ?_).trans h2⟩;rintro⟨k,x,hk,oc⟩;exact h.heap.cells hk oc h2
theorem eO{ext:Nat->Prop}{hp hp':Hp}{m m':Nat->Option Nat}{w w':ajt}(hf:Frame (aO hp m) w w')
  (bg:∀k x b,lk hp' k=some x->m' k=some b->aO hp m b\/w.heap.size<=b) :
  ∀b cs,Im ext hp m w b cs->Im ext hp' m' w' b cs:=by
 rintro b cs ⟨he,ho,t',f',hb⟩
 have hlt:b<w.heap.size:=by
  rcases aid b w.heap.size with h |h
  ·exact h
  ·simp[ahp h]at hb
 refine⟨he,?_,t',f',(hf.keep b hlt ho).trans hb⟩;rintro⟨k,y,hk,oc⟩;rcases bg k y b hk oc with h' |h'
 ·exact ho h'
 ·omega
theorem RelM.put{C:Ctx}{s:AS}{m:Nat->Option Nat}{a:Act}{w:ajt}(h:RelM C s m a w)(d:Nat)(v:ajq)(x:Option AV)
  (hx:∀y,x=some y->d<a.tmps.size/\Rep (Im C.ext s.hp m w) (Sz w) m v y) :
  RelM C ⟨(d,x)::s.sl,s.hp⟩ m { a with tmps:=a.tmps.setIfInBounds d v } w:=by
 refine⟨?_,h.heap,h.frame,h.new,h.keep,h.defers,by simpa using h.nt⟩;intro t y hy;simp only[AS.get,aA]at hy
 by_cases ht:t=d
 ·subst ht;rw[ajg rfl]at hy;obtain⟨h1,h2⟩:=hx y hy;refine⟨by simpa using h1,?_⟩;simpa[aic,ahn,h1]using h2
 ·rw [ajf ht] at hy;obtain ⟨h1,h2⟩:=h.slots t y hy;refine ⟨by simpa using h1,?_⟩
  have:(a.tmps.setIfInBounds d v).getD t undef=a.tmps.getD t undef:=by
   simp only[aic,ahn];rw[ajf oz]
  simpa[this]using h2
theorem Sz.alloc{w:ajt}{o:Obj}{b n:Nat}(h:Sz w b n):Sz { w with heap:=w.heap.push o } b n:=by
 obtain⟨c,t,f,hb,hn⟩:=h;refine⟨c,t,f,?_,hn⟩
 have hlt:b<w.heap.size:=by
  rcases aid b w.heap.size with h |h
  ·exact h
  ·simp[ahp h]at hb
 show(w.heap.push o)[b]?=_;rw[ahk,ajf oz,hb]
theorem CN(own:Nat->Prop)(w:ajt)(o:Obj):Frame own w { w with heap:=w.heap.push o }:=by
 refine⟨rfl,rfl,rfl,by simp,fun b n h=>h.alloc,?_⟩;intro b hb _;show(w.heap.push o)[b]?=_;rw[ahk,ajf oz]
theorem acb(own:Nat->Prop)(w:ajt)(n:Nat):Frame own w { w with drawn:=n } :=
 ⟨rfl,rfl,rfl,aie _,fun _ _ h=>h,fun _ _ _=>rfl⟩
theorem Frame.trans{own own':Nat->Prop}{w w' w'':ajt}(h:Frame own w w')(h':Frame own' w' w'')
  (ho:∀b,b<w.heap.size->own' b->own b):Frame own w w'' :=
 ⟨h'.os.trans h.os,h'.tape.trans h.tape,h'.output.trans h.output,aiw h.size h'.size,fun b n hs=>h'.sz b n (h.sz b n hs),
  fun b hb hn=>(h'.keep b (aip hb h.size) (fun hc=>hn (ho b hb hc))).trans (h.keep b hb hn)⟩
theorem RelM.alloc{C:Ctx}{s:AS}{m:Nat->Option Nat}{a:Act}{w:ajt}(h:RelM C s m a w){k:Nat}(hk:s.Fresh k)(o:Obj)(x:Blk)
  (hx:¬x.Names k) (dk:∀(g:Nat->Array ajq->Prop)(S:Nat->Nat->Prop)(m':Nat->Option Nat)(w':ajt),
   (∀b cs,Im C.ext s.hp m w b cs->g b cs)->(∀b n,Sz w b n->S b n)->(∀k' b,k'≠k->m k'=some b->m' k'=some b) ->
   w'.heap[w.heap.size]?=some o->BlkRep g S m' w' (some w.heap.size) x) :
  RelM C ⟨s.sl,(k,some x)::s.hp⟩ (fun k'=>if k'=k then some w.heap.size else m k') a { w with heap:=w.heap.push o }:=by
 have bF:∀k' y,lk ((k,some x)::s.hp) k'=some y->k'≠k->lk s.hp k'=some y:=by
  intro k' y hy aF;rw[aA,ajf aF]at hy;exact hy
 have cZ:∀k' y b,lk s.hp k'=some y->m k'=some b->b<w.heap.size:=fun k' y b h1 h2=>(h.heap.sep k' y b h1 h2).2
 have hf:=CN (aO s.hp m) w o
 have bg:∀k' y b,lk ((k,some x)::s.hp) k'=some y->(if k'=k then some w.heap.size else m k')=some b->aO s.hp m b\/w.heap.size<=b:=by
  intro k' y b hy hb
  by_cases aF:k'=k
  ·rw[ajg aF]at hb;cases hb;exact .inr (aie _)
  ·rw[ajf aF]at hb;exact .inl ⟨k',y,bF k' y hy aF,hb⟩
 refine h.update hf ?_ bg ?_ ⟨?_,?_,?_⟩
 ·intro t y k' b hy hn hb;have:k'≠k:=fun e=>hk.2.2.1 t y hy (e▸hn)
  rw[ajf this];exact hb
 ·intro k' y od hy;have aF:k' ≠ k:=fun e=>by have:=hk.2.1; omega
  exact⟨⟨y,bF k' y hy aF⟩,by rw[ajf aF]⟩
 ·intro k' y hy
  by_cases aF:k'=k
  ·subst aF;rw[aA,ajg rfl]at hy;cases hy;rw[ajg rfl];refine dk _ _ _ _ (eO hf bg) hf.sz (fun k'' b aF hb=>by rw[ajf aF];exact hb) ?_;show(w.heap.push o)[w.heap.size]?=_;simp
  ·have hy':=bF k' y hy aF;rw[ajf aF];refine BlkRep.mono (eO hf bg) hf.sz ?_ rfl ?_ (h.heap.blk k' y hy')
   ·intro k'' b hn hb;have:k''≠k:=fun e=>hk.2.2.2 k' y hy' (e▸hn)
    rw[ajf this];exact hb
   ·intro b hb;have:=cZ k' y b hy' hb;show(w.heap.push o)[b]?=_;rw[ahk,ajf oz]
 ·intro k1 k2 y1 y2 b h1 h2 bh a8
  by_cases e1:k1=k <;> by_cases e2:k2=k
  ·rw[e1,e2]
  ·rw[ajg e1]at bh;rw[ajf e2]at a8;cases bh
   exact ajm (cZ k2 y2 _ (bF k2 y2 h2 e2) a8) oz
  ·rw[ajf e1]at bh;rw[ajg e2]at a8;cases a8
   exact ajm (cZ k1 y1 _ (bF k1 y1 h1 e1) bh) oz
  ·rw[ajf e1]at bh;rw[ajf e2]at a8
   exact h.heap.inj k1 k2 y1 y2 b (bF k1 y1 h1 e1) (bF k2 y2 h2 e2) bh a8
 ·intro k' y b hy hb
  by_cases aF:k'=k
  ·rw[ajg aF]at hb;cases hb
   refine⟨fun hc=>?_,by simp⟩;have:=h.ext_lt hc;omega
  ·rw[ajf aF]at hb;have:=h.heap.sep k' y b (bF k' y hy aF) hb;refine⟨this.1,?_⟩;have:=this.2;simp;omega
theorem RelM.write{C:Ctx}{s:AS}{m:Nat->Option Nat}{a:Act}{w:ajt}(h:RelM C s m a w){k b:Nat}{x x':Blk}{w':ajt}
  {c c':Array ajq} {t:ajr}
  (hk:lk s.hp k=some x) (hm:m k=some b) (hb:w.heap[b]?=some (.cells c t (0,0))) (aN:c'.size=c.size)
  (hw:w'={ w with heap:=w.heap.setIfInBounds b (.cells c' t (0,0)) })
  (hx:∀(g:Nat->Array ajq->Prop)(S:Nat->Nat->Prop),
   (∀b cs,Im C.ext s.hp m w b cs->g b cs)->(∀b n,Sz w b n->S b n) ->
   w'.heap[b]?=some (.cells c' t (0,0))->BlkRep g S m w' (some b) x') :
  RelM C ⟨s.sl,(k,some x')::s.hp⟩ m a w':=by
 have hlt:=(h.heap.sep k x b hk hm).2
 have cE:∀b',w'.heap[b']?=if b=b' then some (.cells c' t (0,0))else w.heap[b']? := by
  intro b';subst hw;show(w.heap.setIfInBounds b _)[b']?=_;rw[ahn]
  by_cases e:b=b'
  ·simp[e];omega
  ·simp[e]
 have bF:∀k' y,lk ((k,some x')::s.hp) k'=some y->∃z,lk s.hp k'=some z:=by
  intro k' y hy;rw[aA]at hy;split at hy
  ·subst_vars;exact⟨x,hk⟩
  ·exact⟨y,hy⟩
 have hf:Frame (aO s.hp m) w w':=by
  refine⟨by rw[hw],by rw[hw],by rw[hw],by rw[hw];simp,?_,?_⟩
  ·rintro b' n ⟨c1,t1,f1,h1,h2⟩
   by_cases e:b=b'
   ·subst e;rw[hb]at h1;cases h1;exact⟨c',t,(0,0),by rw[cE,ajg rfl],by omega⟩
   ·exact⟨c1,t1,f1,by rw[cE,ajf e,h1],h2⟩
  ·intro b' hb' hn;rw[cE,ajf];rintro rfl;exact hn ⟨k,x,hk,hm⟩
 have bg:∀k' y b',lk ((k,some x')::s.hp) k'=some y->m k'=some b'->aO s.hp m b'\/w.heap.size<=b':=by
  intro k' y b' hy hb';obtain⟨z,hz⟩:=bF k' y hy;exact .inl ⟨k',z,hz,hb'⟩
 refine h.update hf (fun t y k' b' _ _ hb'=>hb') bg (fun k' y _ hy=>⟨bF k' y hy,rfl⟩) ⟨?_,?_,?_⟩
 ·intro k' y hy
  by_cases e:k'=k
  ·subst e;rw[aA,ajg rfl]at hy;cases hy;rw[hm];exact hx _ _ (eO hf bg) hf.sz (by rw[cE,ajg rfl])
  ·rw[aA,ajf e]at hy;refine BlkRep.mono (eO hf bg) hf.sz (fun k'' b' _ hb'=>hb') rfl ?_ (h.heap.blk k' y hy);intro b' hb';rw[cE,ajf];rintro rfl;exact e (h.heap.inj k' k y x b hy hk hb' hm)
 ·intro k1 k2 y1 y2 b' h1 h2 bh a8;obtain⟨z1,co⟩:=bF k1 y1 h1;obtain⟨z2,km⟩:=bF k2 y2 h2;exact h.heap.inj k1 k2 z1 z2 b' co km bh a8
 ·intro k' y b' hy hb';obtain⟨z,hz⟩:=bF k' y hy;have:=h.heap.sep k' z b' hz hb';exact⟨this.1,aip this.2 hf.size⟩
theorem RelM.drawn{C:Ctx}{s:AS}{m:Nat->Option Nat}{a:Act}{w:ajt}(h:RelM C s m a w)(n:Nat):RelM C s m a { w with drawn:=n }:=by
 have hf:=acb (aO s.hp m) w n;have bg:∀k' y b',lk s.hp k'=some y->m k'=some b'->aO s.hp m b'\/w.heap.size<=b':=fun k' y b' h1 h2=>.inl ⟨k',y,h1,h2⟩
 refine h.update hf (fun t y k' b' _ _ hb'=>hb') bg (fun k' y _ hy=>⟨⟨y,hy⟩,rfl⟩) ⟨?_,h.heap.inj,h.heap.sep⟩;intro k x hk;exact BlkRep.mono (w:=w) (eO hf bg) hf.sz (fun _ _ _ h=>h) rfl (fun _ _=>rfl) (h.heap.blk k x hk)
structure Out where
  val:Option AV
  upd:Hp
  rt:List Nat
  rd:List Nat
  deriving Inhabited
def AS.app(s:AS)(dst:Option Tmp)(o:Out):AS :=
  ⟨match dst with |some d=>(d,o.val)::s.sl |none=>s.sl,o.upd++s.hp⟩
def gj(s s':AS)(o:Out):Prop:=(∀t∈o.rt,s'.get t=s.get t)/\∀k∈o.rd,s'.blk k=s.blk k
def jz(s:AS)(o:Out):Prop:=∀k∈o.upd.map (·.1),k∈o.rd\/s.Fresh k
def wq(P:ajs)(o:Oper)(a:Act)(w:ajt)(next:Act->ajt->Prop)(Q:Exit->Act->ajt->Prop):Prop:=∀ro n,o.uponIn (Fw ro) n P a next Q ((execOp a.eval o).run P w)
theorem TD{P:ajs}{f:FuncId}{args:Array ajq}{w:ajt}{R:Ending->ajt->Prop}(h:Calls P f args w R)(ro:Option Nat)(n:Nat):(((Fw ro).depth.isSome=true->1<=n)/\CallsIn (Fw ro) (n-1) P f args w R) :=
 ⟨(fun h=>by cases h),(callsIn_wide (n:=n-1)).2 h⟩
theorem X0{P:ajs}{f:String}{args:Array ajq}{w:ajt}{R:ajq->ajt->Prop}(h:Rows P f args w R)(ro:Option Nat)(n:Nat):(((Fw ro).depth.isSome=true->1<=n)/\RowsIn (Fw ro) (n-1) P f args w R) :=
 ⟨(fun h=>by cases h),fun c cs _=>let⟨v,w',r,s⟩:=h c cs;⟨v,w',r,(stepsIn_wide (P:=P)).2 s⟩⟩
theorem vE{P:ajs}{o:Oper}{a:Act}{w:ajt}{next:Act->ajt->Prop}{Q:Exit->Act->ajt->Prop}(h:o.wp P a w next Q):wq P o a w next Q:=by
 intro ro n;unfold Oper.wp at h;generalize(execOp a.eval o).run P w=r at h;cases r with
 |ok x w' =>
  cases x with
  |enter f args=>exact TD h ro n
  |row f args=>exact X0 h ro n
  |round l f ts x y=>exact(show False from h).elim
  |_=>exact h
 |halt x w'=>cases x <;> exact h
structure Step(P:ajs)(N:Nat)(R:Array Oper)(s:AS)(o:Oper)(u:Out):Prop where
  run:∀s',gj s s' u->jz s' u->∀C m a w Q (next:Act->ajt->Prop),C.nt=N->RelM C s' m a w ->
    (∀m' a' w',RelM C (s'.app o.dst u) m' a' w'->next a' w') ->
    if Region.wanted o (yielded R a.tmps)then wq P o a w next Q else next (a.put o.dst undef) w
def gw(P:ajs)(N:Nat)(R:Array Oper):List Oper->AS->List Out->(AS->List Out->Prop)->Prop
  |[],s,us,K=>K s us
  |o::ops,s,us,K=>∃u,Step P N R s o u/\jz s u/\gw P N R ops (s.app o.dst u) (us++[u]) K
def nd(o:Oper):Bool:=match o.op with
  | .defer _=>false
  |_=>true
theorem IJ{P:ajs}{o:Oper}{a:Act}{w:ajt}{next:Act->ajt->Prop}{Q:Exit->Act->ajt->Prop}{ro:Option Nat}{n:Nat}(hd:nd o=true)(h:wq P o a w next Q):o.wpIn (Fw ro) n P a w next Q:=by
 refine⟨fun _ _=>trivial,?_⟩;rw[Oper.semAt_eq _ _ _ (by intro c hc;simp[nd,hc]at hd)];exact h ro n
theorem VR{P:ajs}{N n:Nat}{R:Array Oper}{C:Ctx}(hN:C.nt=N){Q:Exit->Act->ajt->Prop}{K:AS->List Out->Prop}
  (hK:∀s us m a w,K s us->RelM C s m a w->Q .normal a w) :
  ∀(ops:List Oper)(i:Nat)(s:AS)(us:List Out)(m:Nat->Option Nat)(a:Act)(w:ajt),
   (∀j,R[i+j]?=ops[j]?)->ops.all nd=true->gw P N R ops s us K->RelM C s m a w->wpOpsIn (Fw C.ro) n P R Q (List.range' i ops.length) a w:=by
 intro ops
 induction ops with
 |nil=>intro i s us m a w _ _ h hr;exact hK s us m a w h hr
 |cons o ops ih =>
  intro i s us m a w hR b7 h hr;simp only[all_cons,ah7]at b7;obtain⟨u,hs,hn,h⟩:=h;have ho:R[i]?=some o:=by simpa using hR 0
  simp only[aij,List.range'_succ];rw[wpOpsIn_cons];unfold wpOpIn;simp only[ho]
  have:=hs.run s ⟨fun _ _=>rfl,fun _ _=>rfl⟩ hn C m a w Q (wpOpsIn (Fw C.ro) n P R Q (List.range' (i+1) ops.length)) hN hr
   (fun m' a' w' hr'=>ih (i+1) _ _ m' a' w' (fun j=>by have:=hR (j+1);simpa[aeo,aeq 1 j]using this) b7.2 h hr')
  split
  ·rename_i hw;rw[ajg hw]at this;exact IJ b7.1 this
  ·rename_i hw;rw[ajf hw]at this;exact⟨fun _ _=>trivial,this⟩
theorem HeapRel.congr{ext:Nat->Prop}{hp hp':Hp}{m:Nat->Option Nat}{w:ajt}(h:∀k,lk hp k=lk hp' k)
  (hr:HeapRel ext hp m w):HeapRel ext hp' m w:=by
 have e1:aO hp m=aO hp' m:=by funext b;simp only[aO,h]
 have e2:Im ext hp m w=Im ext hp' m w:=by funext b cs;simp only[Im,e1]
 refine⟨?_,?_,?_⟩
 ·intro k x hk;rw[<- e2];exact hr.blk k x ((h k).trans hk)
 ·intro k k' x x' b h1 h2;exact hr.inj k k' x x' b ((h k).trans h1) ((h k').trans h2)
 ·intro k x b h1;exact hr.sep k x b ((h k).trans h1)
theorem RelM.congr{C:Ctx}{s s':AS}{m:Nat->Option Nat}{a:Act}{w:ajt}(h1:∀t,s.get t=s'.get t)(h2:∀k,s.blk k=s'.blk k)
  (hr:RelM C s m a w):RelM C s' m a w:=by
 have e1:aO s.hp m=aO s'.hp m:=by funext b;simp only[aO];simp only[AS.blk]at h2;simp only[h2]
 have e2:Im C.ext s.hp m w=Im C.ext s'.hp m w:=by funext b cs;simp only[Im,e1]
 refine⟨?_,hr.heap.congr h2,hr.frame,?_,fun k x h3 h4=>hr.keep k x h3 ((h2 k).trans h4),hr.defers,hr.nt⟩
 ·intro t x hx;rw[<- e2];exact hr.slots t x ((h1 t).trans hx)
 ·intro k x b hk;exact hr.new k x b ((h2 k).trans hk)
def Cw(prev:List Nat)(o:Oper):Nat :=
  o.after.toList.foldl (fun s e=>match Region.binds .any e with
    |true=>s ||| (2^e.on ||| prev.getD e.on 0)
    |false=>s) 0
def ju:List Oper->List Nat->List Nat
  |[],prev=>prev
  |o::ops,prev=>ju ops (prev++[Cw prev o])
theorem Ww(prev:List Nat)(j:Nat):∀(l:List Edge)(s:Nat),
  (l.foldl (fun s e=>match Region.binds .any e with
   |true=>s ||| (2^e.on ||| prev.getD e.on 0)
   |false=>s) s).testBit j=true ->
  s.testBit j=true\/∃e∈l,Region.binds .any e=true/\(j=e.on\/(prev.getD e.on 0).testBit j=true):=by
 intro l
 induction l with
 |nil=>intro s h;exact .inl h
 |cons e l ih =>
  intro s h;simp only[af1]at h;rcases ih _ h with h |⟨e',he',hb,hj⟩
  ·cases hb:Region.binds .any e with
   |false=>rw[hb]at h;exact .inl h
   |true =>
    rw[hb]at h;simp only[Nat.testBit_or,ajb,Nat.testBit_two_pow,ajh]at h;rcases h with h |h |h
    ·exact .inl h
    ·exact .inr ⟨e,ai2,hb,.inl h.symm⟩
    ·exact .inr ⟨e,ai2,hb,.inr h⟩
  ·exact .inr ⟨e',ait _ he',hb,hj⟩
theorem Jj:∀(ops:List Oper)(prev:List Nat),(ju ops prev).length=prev.length+ops.length
 |[],prev=>rfl
 |o::ops,prev=>by simp only[ju,Jj ops,ai0,aij,aiv];omega
theorem C1:∀(ops:List Oper)(prev:List Nat)(i:Nat),i<prev.length->(ju ops prev).getD i 0=prev.getD i 0
 |[],prev,i,_=>rfl
 |o::ops,prev,i,h=>by
  simp only[ju];rw[C1 ops _ i (by simp;omega)];simp[ah4,ais h]
theorem Jn:∀(ops:List Oper)(prev:List Nat)(i:Nat)(o:Oper),ops[i]?=some o ->
  ∃q,(ju ops prev).getD (prev.length+i) 0=Cw q o/\∀j,q.getD j 0≠0->j<prev.length+i/\q.getD j 0=(ju ops prev).getD j 0
 |[],prev,i,o,h=>by simp at h
 |o'::ops,prev,0,o,h=>by
  simp at h;subst h
  refine⟨prev,?_,?_⟩
  ·simp only[ju,ae4];rw[C1 ops _ _ (by simp)];simp[ah4]
  ·intro j hj
   have hlt:j<prev.length:=by
    rcases aid j prev.length with h |h
    ·exact h
    ·exact ajm (by simp[ah4,aig h]) hj
   refine⟨by omega,?_⟩;simp only[ju];rw[C1 ops _ _ (by simp;omega)];simp[ah4,ais hlt]
 |o'::ops,prev,i+1,o,h=>by
  simp at h;obtain⟨q,h1,h2⟩:=Jn ops (prev++[Cw prev o']) i o h;refine⟨q,?_,?_⟩
  ·simp only[ju];rw[<- h1];simp only[ai0,aij,aiv];congr 1;omega
  ·intro j hj;obtain⟨h3,h4⟩:=h2 j hj;simp at h3;exact⟨by omega,h4⟩
def Lm(R:Array Oper)(L:Nat->Bool):Prop:=∀i o,R[i]?=some o->L i=true->∀e∈o.after.toList,Region.binds .any e=true->L e.on=true
theorem Kr{R:Array Oper}{L:Nat->Bool}(hc:Lm R L):∀(i:Nat)(o:Oper),R[i]?=some o ->
  (∀e∈o.after.toList,Region.binds .any e=true->L e.on=true)->∀j,((ju R.toList []).getD i 0).testBit j=true->L j=true:=by
 intro i
 induction i using Nat.strongRecOn with
 |_ i ih =>
  intro o ho hp j hj;obtain⟨q,h1,h2⟩:=Jn R.toList [] i o (by simpa using ho);simp only[aiv,ae9]at h1 h2;rw[h1]at hj;rcases Ww q j _ _ hj with h |⟨e,he,hb,h |h⟩
  ·simp at h
  ·exact h▸hp e he hb
  ·have aF : q.getD e.on 0 ≠ 0 := fun h0 => by rw [h0] at h; simp at h
   obtain⟨h3,h4⟩:=h2 e.on aF;rw[h4]at h;have hl:=hp e he hb
   have hlt:e.on<R.size:=by
    rcases aid e.on R.size with hh |hh
    ·exact hh
    ·exfalso;have:(ju R.toList []).length = R.size:=by rw [Jj]; simp
     rw[ah4,aig oz]at h;simp at h
   exact ih e.on h3 R[e.on] (by simp[hlt]) (hc e.on _ (by simp[hlt]) hl) j h
def Out.wr(u:Out):List Nat:=u.upd.map (·.1)
def Out.nm(u:Out):List Nat:=(match u.val with |some x=>x.nm |none=>[])++u.upd.flatMap fun p=>match p.2 with |some x=>x.nm |none=>[]
def lM(a b:List Nat):Bool:=a.any fun x=>b.contains x
def yR(d:Option Nat)(l:List Nat):Bool:=match d with |some d=>l.contains d |none=>false
def jY(o1:Oper)(u1:Out)(o2:Oper)(u2:Out):Bool :=
  yR o1.dst u2.rt||yR o2.dst u1.rt||(match o1.dst with |some d=>o2.dst==some d |none=>false) ||
    lM u1.wr u2.rd||lM u1.wr u2.wr||lM u2.wr u1.rd||lM (u1.wr.filter fun k=>!u1.rd.contains k) u2.nm
def vc(M:List Nat)(o2:Oper)(u2:Out)(j:Nat):Nat->List Oper->List Out->Bool
  |i,o1::ops,u1::us=>(match aek i j with
      |true=>(!jY o1 u1 o2 u2||(M.getD j 0).testBit i)&&!lM (u2.wr.filter fun k=>!u2.rd.contains k) (u1.nm++u1.wr)
      |false=>true)&&vc M o2 u2 j (i+1) ops us
  |_,_,_=>true
def Aj(M:List Nat)(R:List Oper)(U:List Out):Nat->List Oper->List Out->Bool
  |j,o::ops,u::us=>vc M o u j 0 R U&&(o.after.toList.all fun e=>!Region.binds .any e||aek e.on j)&&Aj M R U (j+1) ops us
  |_,_,_=>true
def AS.freshB(s:AS)(k:Nat):Bool :=
  (s.sl.all fun p=>match p.2 with |some x=>!x.nm.contains k |none=>true) &&
    (s.hp.all fun p=>match p.2 with |some x=>!x.nm.contains k |none=>true) &&
    (match lk s.hp k with |some _=>false |none=>true)&&aek k 1000
theorem AS.fresh_of{s:AS}{k:Nat}(h:s.freshB k=true):s.Fresh k:=by
 simp only[AS.freshB,ah7,aif]at h;obtain⟨⟨⟨h1,h2⟩,h3⟩,h4⟩:=h;refine⟨?_,by simpa[ad5]using h4,?_,?_⟩
 ·cases hk:lk s.hp k with
  |none=>rfl
  |some x=>rw[hk]at h3;simp at h3
 ·intro t x hx hn;have:=h1 _ (oQ hx);simp at this;exact this hn.mem
 ·intro t x hx hn;have:=h2 _ (oQ hx);simp at this;exact this hn.mem
def chk(R:List Oper)(U:List Out)(s:AS):Bool :=
  Aj (ju R []) R U 0 R U&&(U.all fun u=>u.wr.all fun k=>u.rd.contains k||s.freshB k)
theorem HY{M:List Nat}{o2:Oper}{u2:Out}{j:Nat}:∀(ops:List Oper)(us:List Out)(i0:Nat),vc M o2 u2 j i0 ops us=true ->
  ∀i o1 u1,ops[i]?=some o1->us[i]?=some u1->i0+i<j ->
   (jY o1 u1 o2 u2=true->(M.getD j 0).testBit (i0+i)=true)/\lM (u2.wr.filter fun k=>!u2.rd.contains k) (u1.nm++u1.wr)=false
 |[],_,_,_,i,o1,u1,h,_,_=>by simp at h
 |_::_,[],_,_,i,o1,u1,_,h,_=>by simp at h
 |o::ops,u::us,i0,hc,i,o1,u1,h1,h2,hlt=>by
  simp only[vc,ah7]at hc;obtain⟨eL,pX⟩:=hc;cases i with
  |zero =>
   simp at h1 h2;subst h1;subst h2
   have hb:aek i0 j=true:=by simpa[ad5]using hlt
   rw[hb]at eL;simp only[ah7,ajb,ahh]at eL;refine⟨fun hw=>?_,eL.2⟩;rcases eL.1 with h |h
   ·rw[hw]at h;cases h
   ·simpa using h
  |succ i =>
   simp at h1 h2;have:=HY ops us (i0+1) pX i o1 u1 h1 h2 oz;rw[show i0+(i+1)=i0+1+i by omega];exact this
theorem Cm{M:List Nat}{R:List Oper}{U:List Out}:∀(ops:List Oper)(us:List Out)(j0:Nat),Aj M R U j0 ops us=true ->
  ∀j o u,ops[j]?=some o->us[j]?=some u->vc M o u (j0+j) 0 R U=true/\∀e∈o.after.toList,Region.binds .any e=true->e.on<j0+j
 |[],_,_,_,i,o1,u1,h,_=>by simp at h
 |_::_,[],_,_,i,o1,u1,_,h=>by simp at h
 |o::ops,u::us,j0,hc,j,o1,u1,h1,h2=>by
  simp only[Aj,ah7,aif]at hc;obtain⟨⟨eL,pX⟩,FS⟩:=hc;cases j with
  |zero =>
   simp at h1 h2;subst h1;subst h2
   refine⟨eL,fun e he hb=>?_⟩;have:=pX e he;simpa[hb,ad5]using this
  |succ j =>
   simp at h1 h2;have:=Cm ops us (j0+1) FS j o1 u1 h1 h2;rw[show j0+(j+1)=j0+1+j by omega];exact this
def vw(R:Array Oper)(U:List Out)(s:AS)(L:Nat->Bool):Nat->AS
  |0=>s
  |i+1=>match L i,R[i]?,U[i]? with
    |true,some o,some u=>(vw R U s L i).app o.dst u
    |_,_,_=>vw R U s L i
theorem gy(s:AS)(d:Option Tmp)(u:Out)(t:Nat):(s.app d u).get t=if d=some t then u.val else s.get t:=by
 cases d with
 |none=>simp[AS.app,AS.get]
 |some d =>
  simp only[AS.app,AS.get,aA]
  by_cases h:t=d
  ·simp[h]
  ·rw[ajf h,ajf (by simpa using fun e=>h e.symm)]
theorem tf(s:AS)(d:Option Tmp)(u:Out)(k:Nat):(s.app d u).blk k=if k∈u.wr then lk u.upd k else s.blk k:=by
 simp only[AS.app,AS.blk,ky,Out.wr];rfl
section
variable{R:Array Oper}{U:List Out}{s:AS}
theorem Lo{L:Nat->Bool}{t i:Nat}(n:Nat)(bB:i<=n)(h:∀j o,i<=j->R[j]?=some o->o.dst=some t->L j=false) :
  (vw R U s L n).get t=(vw R U s L i).get t:=by
 induction n with
 |zero=>rw[show i=0 by omega]
 |succ n ih =>
  by_cases hn:i<=n
  ·rw[<- ih hn];simp only[vw];split
   ·rename_i o u h1 h2 h3;rw[gy,ajf];intro hd;rw[h n o hn h2 hd]at h1;cases h1
   ·rfl
  ·rw[show i=n+1 by omega]
theorem HB{L:Nat->Bool}{k i:Nat}(n:Nat)(bB:i<=n)(h:∀j u,i<=j->U[j]?=some u->k∈u.wr->L j=false) :
  (vw R U s L n).blk k=(vw R U s L i).blk k:=by
 induction n with
 |zero=>rw[show i=0 by omega]
 |succ n ih =>
  by_cases hn:i<=n
  ·rw[<- ih hn];simp only[vw];split
   ·rename_i o u h1 h2 h3;rw[tf,ajf];intro hd;rw[h n u hn h3 hd]at h1;cases h1
   ·rfl
  ·rw[show i=n+1 by omega]
theorem FM{L L':Nat->Bool}{t:Nat}(n:Nat)(h:∀j o,j<n->R[j]?=some o->o.dst=some t->L j=L' j) :
  (vw R U s L n).get t=(vw R U s L' n).get t:=by
 induction n with
 |zero=>rfl
 |succ n ih =>
  have ih:=ih (fun j o hj=>h j o oz);simp only[vw];cases ho:R[n]? with
  |none=>cases L n <;> cases L' n <;> simp only[ih]
  |some o =>
   cases hu:U[n]? with
   |none=>cases L n <;> cases L' n <;> simp only[ih]
   |some u =>
    by_cases hd:o.dst=some t
    ·rw[h n o oz ho hd];cases L' n <;> simp only[gy,hd,if_true,ih]
    ·cases L n <;> cases L' n <;> simp only[gy,ajf hd,ih]
theorem EV{L L':Nat->Bool}{k:Nat}(n:Nat)(h:∀j u,j<n->U[j]?=some u->k∈u.wr->L j=L' j) :
  (vw R U s L n).blk k=(vw R U s L' n).blk k:=by
 induction n with
 |zero=>rfl
 |succ n ih =>
  have ih:=ih (fun j o hj=>h j o oz);simp only[vw];cases ho:R[n]? with
  |none=>cases L n <;> cases L' n <;> simp only[ih]
  |some o =>
   cases hu:U[n]? with
   |none=>cases L n <;> cases L' n <;> simp only[ih]
   |some u =>
    by_cases hd:k∈u.wr
    ·rw[h n u oz hu hd];cases L' n <;> simp only[tf,hd,if_true,ih]
    ·cases L n <;> cases L' n <;> simp only[tf,ajf hd,ih]
theorem S4{L:Nat->Bool}{t:Nat}{x:AV}:∀n,(vw R U s L n).get t=some x ->
  s.get t=some x\/∃j u,L j=true/\U[j]?=some u/\u.val=some x:=by
 intro n
 induction n with
 |zero=>exact .inl
 |succ n ih =>
  intro h;simp only[vw]at h;split at h
  ·rename_i o u h1 h2 h3;rw[gy]at h;split at h
   ·exact .inr ⟨n,u,h1,h3,h⟩
   ·exact ih h
  ·exact ih h
theorem NF{L:Nat->Bool}{k:Nat}{x:Blk}:∀n,(vw R U s L n).blk k=some x ->
  s.blk k=some x\/∃j u,L j=true/\U[j]?=some u/\k∈u.wr/\lk u.upd k=some x:=by
 intro n
 induction n with
 |zero=>exact .inl
 |succ n ih =>
  intro h;simp only[vw]at h;split at h
  ·rename_i o u h1 h2 h3;rw[tf]at h;split at h
   ·rename_i hk;exact .inr ⟨n,u,h1,h3,hk,h⟩
   ·exact ih h
  ·exact ih h
end
theorem ZT{a b:List Nat}(h:lM a b=false){x:Nat}(ha:x∈a):x∉b:=by
 intro hb;simp only[lM,List.any_eq_false]at h;exact h x ha (by simpa using hb)
theorem vZ{a b:List Nat}{x:Nat}(ha:x∈a)(hb:x∈b):lM a b=true:=by
 simp only[lM,List.any_eq_true];exact⟨x,ha,by simpa using hb⟩
section
variable{P:ajs}{N:Nat}{R:Array Oper}{U:List Out}{s0:AS}{C:Ctx}{Q:Exit->Act->ajt->Prop}
theorem acj{u:Out}{x:AV}{k:Nat}(h:u.val=some x)(hk:x.Names k):k∈u.nm:=by
 simp only[Out.nm,h,aia];exact .inl hk.mem
theorem WE{u:Out}{x:Blk}{k k':Nat}(h:lk u.upd k'=some x)(hk:x.Names k):k∈u.nm:=by
 simp only[Out.nm,aia,List.mem_flatMap];exact .inr ⟨_,oQ h,hk.mem⟩
theorem XB{n:Nat}(b7:R.toList.all nd=true)(hN:C.nt=N)(ch:U.length=R.size)(cg:∀(i:Nat) o u,R[i]?=some o->U[i]?=some u->Step P N R (vw R U s0 (fun _=>true) i) o u)
    (hc:chk R.toList U s0=true) (hQ:∀m a w,RelM C (vw R U s0 (fun _=>true) R.size) m a w->Q .normal a w) :
    ∀(fuel:Nat)(listed:Array Bool),listed.size=R.size->Lm R (fun i=>listed.getD i false) ->
      ((List.range R.size).filter fun i=>!listed.getD i false).length<=fuel ->
      ∀m a w,RelM C (vw R U s0 (fun i=>listed.getD i false) R.size) m a w->wpAnyIn (Fw C.ro) n P .any R Q fuel listed a w:=by
  simp only[chk,ah7,aif,ajb]at hc;obtain⟨eL,pX⟩:=hc;have hU:∀i,i<R.size->∃o u,R[i]?=some o/\U[i]?=some u:=fun i hi=>⟨R[i],U[i],by simp[hi],by simp⟩
  have FT:∀i j o1 u1 o2 u2,R[i]?=some o1->U[i]?=some u1->R[j]?=some o2->U[j]?=some u2->i<j ->
      (jY o1 u1 o2 u2=true->((ju R.toList []).getD j 0).testBit i=true)/\lM (u2.wr.filter fun k=>!u2.rd.contains k) (u1.nm++u1.wr)=false:=by
    intro i j o1 u1 o2 u2 h1 h2 h3 h4 hlt;have:=Cm R.toList U 0 eL j o2 u2 (by simpa using h3) h4;simp only[ae9]at this;have:=HY R.toList U 0 this.1 i o1 u1 (by simpa using h1) h2 oz;simpa using this
  have ac0:∀j o,R[j]?=some o->∀e∈o.after.toList,Region.binds .any e=true->e.on<j:=by
    intro j o h
    have hj:j<R.size:=by
      rcases aid j R.size with hh |hh
      · exact hh
      · simp[ahp hh]at h
    obtain⟨o',u,h1,h2⟩:=hU j hj;rw[h]at h1;cases h1
    have:=(Cm R.toList U 0 eL j o u (by simpa using h) h2).2;simpa using this
  have OQ:∀(listed:Array Bool),listed.size=R.size->Region.ready .any R listed=[]->∀i,i<R.size->listed.getD i false=true:=by
    intro listed aN hr i
    induction i using Nat.strongRecOn with
    |_ i ih =>
      intro hi;cases hl:listed.getD i false with
      |true=>rfl
      |false =>
        exfalso
        have:i∈Region.ready .any R listed:=by
          simp only[Region.ready,agf,afy];refine⟨hi,?_⟩
          have e1:listed.getD i true=false:=by
            simp only[aic]at hl ⊢;rw[ahm oz]at hl ⊢;exact hl
          simp only[e1,Bool.not_false,ahg];rw[ahm hi];simp only[ah1,ah0,ahu,ajb,ahh];intro e he;cases hb:Region.binds .any e with
          |false=>exact .inl rfl
          |true =>
            have:=ac0 i R[i] (by simp[hi]) e (by simpa using he) hb;exact .inr (ih e.on this oz)
        rw[hr]at this;cases this
  have jK:∀(listed:Array Bool),listed.size=R.size->Region.ready .any R listed=[]->∀m a w,
      RelM C (vw R U s0 (fun i=>listed.getD i false) R.size) m a w->Q .normal a w:=by
    intro listed aN hr m a w h;refine hQ m a w (h.congr (fun t=>FM _ (fun j o hj _ _=>OQ listed aN hr j hj)) (fun k=>EV _ (fun j u hj _ _=>OQ listed aN hr j hj)))
  intro fuel
  induction fuel with
  |zero =>
    intro listed aN fI hf m a w h
    have OS:Region.ready .any R listed=[]:=by
      cases hr:Region.ready .any R listed with
      |nil=>rfl
      |cons i l =>
        exfalso;have hi:i∈Region.ready .any R listed:=by rw[hr];exact ai2
        simp only[Region.ready,agf,afy,ah7,ahh]at hi
        have:listed.getD i false=false:=by
          have h1:=hi.2.1;simp only[aic]at h1 ⊢;rw[ahm oz]at h1 ⊢;exact h1
        have ac1:i∈(List.range R.size).filter fun i=>!listed.getD i false:=by simp[agf,hi.1];simpa using this
        have:=List.length_pos_of_mem ac1;omega
    exact⟨OS,jK listed aN OS m a w h⟩
  |succ fuel ih =>
    intro listed aN fI hf m a w h;refine⟨fun hr=>jK listed aN hr m a w h,?_⟩;intro i hi;simp only[Region.ready,agf,afy,ah7,ahh]at hi;obtain⟨OT,oe,FU⟩:=hi
    have oe:listed.getD i false=false:=by
      simp only[aic]at oe ⊢;rw[ahm oz]at oe ⊢;exact oe
    obtain⟨o,u,ho,hu⟩:=hU i OT;rw[ho]at FU;simp only[ah1,ah0,ahu,ajb,ahh]at FU
    have OU:∀e∈o.after.toList,Region.binds .any e=true->listed.getD e.on false=true:=by
      intro e he hb;rcases FU e (by simpa using he)with h |h
      · rw[hb]at h;cases h
      · exact h
    have OV:∀j oj uj,R[j]?=some oj->U[j]?=some uj->j<i->jY oj uj o u=true->listed.getD j false=true:=by
      intro j oj uj h1 h2 hlt hw;exact Kr fI i o ho OU j ((FT j i oj uj o u h1 h2 ho hu hlt).1 hw)
    have uA:∀j oj uj,R[j]?=some oj->U[j]?=some uj->i<j->jY o u oj uj=true->listed.getD j false=false:=by
      intro j oj uj h1 h2 hlt hw;cases hl:listed.getD j false with
      |false=>rfl
      |true =>
        have:=Kr fI j oj h1 (fI j oj h1 hl) i ((FT i j o u oj uj ho hu h1 h2 hlt).1 hw);rw[oe]at this;cases this
    have FV:∀(j:Nat) oj,R[j]?=some oj->∃uj,U[j]?=some uj:=by
      intro j oj h
      have hj:j<R.size:=by
        rcases aid j R.size with hh |hh
        · exact hh
        · simp[ahp hh]at h
      obtain⟨_,uj,_,h2⟩:=hU j hj;exact⟨uj,h2⟩
    have A8:∀(j:Nat) uj,U[j]?=some uj->∃oj,R[j]?=some oj:=by
      intro j uj h
      have hj:j<R.size:=by
        rcases aid j R.size with hh |hh
        · exact hh
        · rw[aig oz]at h;cases h
      obtain⟨oj,_,h1,_⟩:=hU j hj;exact⟨oj,h1⟩
    have cE:∀t,t∈u.rt->(vw R U s0 (fun i=>listed.getD i false) R.size).get t=(vw R U s0 (fun _=>true) i).get t:=by
      intro t ht;rw[Lo (i:=i) R.size oz]
      · refine FM i (fun j oj hj eA hd=>?_)
        obtain⟨uj,dJ⟩:=FV j oj eA;exact OV j oj uj eA dJ hj (by simp[jY,yR,hd,ht])
      · intro j oj hj eA hd
        obtain⟨uj,dJ⟩:=FV j oj eA;rcases aid i j with hlt |hge
        · exact uA j oj uj eA dJ hlt (by simp[jY,yR,hd,ht])
        · rw[show j=i by omega];exact oe
    have mU:∀k,k∈u.rd->(vw R U s0 (fun i=>listed.getD i false) R.size).blk k=(vw R U s0 (fun _=>true) i).blk k:=by
      intro k hk;rw[HB (i:=i) R.size oz]
      · refine EV i (fun j uj hj dJ hd=>?_)
        obtain⟨oj,eA⟩:=A8 j uj dJ;exact OV j oj uj eA dJ hj (by simp[jY,vZ hd hk])
      · intro j uj hj dJ hd
        obtain⟨oj,eA⟩:=A8 j uj dJ;rcases aid i j with hlt |hge
        · exact uA j oj uj eA dJ hlt (by simp[jY,vZ hd hk])
        · rw[show j=i by omega];exact oe
    have bm:jz (vw R U s0 (fun i=>listed.getD i false) R.size) u:=by
      intro k hk
      by_cases xm:k∈u.rd
      · exact .inl xm
      refine .inr ?_
      have hfr:s0.Fresh k:=by
        rcases pX u (ah3 hu) k hk with h |h
        · exact ajm (by simpa using h) xm
        · exact AS.fresh_of h
      have aW:k∈u.wr.filter fun k=>!u.rd.contains k:=by simp[agf,xm];simpa[Out.wr]using hk
      have iw:∀j uj,listed.getD j false=true->U[j]?=some uj->k∉uj.nm/\k∉uj.wr:=by
        intro j uj hl dJ;obtain⟨oj,eA⟩:=A8 j uj dJ;rcases Nat.lt_trichotomy j i with hlt |heq |hgt
        · have hm:=ZT (FT j i oj uj o u eA dJ ho hu hlt).2 aW
          exact⟨fun h=>hm (aia.2 (.inl h)),fun h=>hm (aia.2 (.inr h))⟩
        · subst heq;rw[oe]at hl;cases hl
        · refine⟨fun hn=>?_,fun uB=>?_⟩
          · have := uA j oj uj eA dJ hgt (by simp only [jY, vZ aW hn, Bool.or_true])
            rw[hl]at this;cases this
          · have := uA j oj uj eA dJ hgt (by simp [jY, vZ (by simpa [Out.wr] using hk : k ∈ u.wr) uB])
            rw[hl]at this;cases this
      refine⟨?_,hfr.2.1,?_,?_⟩
      · cases hb:(vw R U s0 (fun i=>listed.getD i false) R.size).blk k with
        |none=>exact hb
        |some x =>
          rcases NF _ hb with h |⟨j,uj,hl,dJ,uB,_⟩
          · rw[AS.blk,hfr.1]at h;cases h
          · exact ajm uB (iw j uj hl dJ).2
      · intro t x hx hn
        rcases S4 _ hx with h |⟨j,uj,hl,dJ,hv⟩
        · exact hfr.2.2.1 t x h hn
        · exact(iw j uj hl dJ).1 (acj hv hn)
      · intro k' x hx hn
        rcases NF _ hx with h |⟨j,uj,hl,dJ,_,hv⟩
        · exact hfr.2.2.2 k' x h hn
        · exact(iw j uj hl dJ).1 (WE hv hn)
    unfold wpOpIn;simp only[ho];have ac2:nd o=true:=aif.1 b7 o (by simpa using Array.mem_of_getElem? ho)
    suffices hs:(if Region.wanted o (yielded R a.tmps)then wq P o a w (wpAnyIn (Fw C.ro) n P .any R Q _ (listed.setIfInBounds i true)) Q else wpAnyIn (Fw C.ro) n P .any R Q _ (listed.setIfInBounds i true) (a.put o.dst undef) w) by
      split
      · rename_i hw;rw[ajg hw]at hs;exact IJ ac2 hs
      · rename_i hw;rw[ajf hw]at hs;exact⟨fun _ _=>trivial,hs⟩
    refine(cg i o u ho hu).run _ ⟨cE,mU⟩ bm C m a w Q _ hN h ?_;intro m' a' w' h'
    have hL:∀j,(listed.setIfInBounds i true).getD j false=if j=i then true else listed.getD j false:=by
      intro j;simp only[aic,ahn]
      by_cases hj:j=i
      · subst hj
        rw[ajg rfl,ajg rfl,ajg oz];rfl
      · rw[ajf oz,ajf hj]
    refine ih (listed.setIfInBounds i true) (by simpa using aN) ?_ ?_ m' a' w' ?_
    · intro j oj eA hl e he hb
      simp only[hL]at hl ⊢
      by_cases OW:e.on=i
      · simp[OW]
      · rw[ajf OW]
        by_cases hj:j=i
        · subst hj;rw[ho]at eA;cases eA;exact OU e he hb
        · rw[ajf hj]at hl;exact fI j oj eA hl e he hb
    · have e1:((List.range R.size).filter fun j=>!(listed.setIfInBounds i true).getD j false) =
          ((List.range R.size).filter fun j=>!listed.getD j false).filter fun j=>!decide (j=i):=by
        rw[List.filter_filter];refine List.filter_congr (fun j _=>?_);rw[hL]
        by_cases hj:j=i <;> simp[hj]
      have e2:(((List.range R.size).filter fun j=>!listed.getD j false).filter fun j=>!decide (j=i)).length<((List.range R.size).filter fun j=>!listed.getD j false).length:=by
        rw[List.length_filter_lt_length_iff_exists];exact⟨i,by simp[agf,OT];simpa using oe,by simp⟩
      rw[e1];omega
    · refine h'.congr (fun t=>?_) (fun k=>?_)
      · rw[gy]
        by_cases hd:o.dst=some t
        · rw[ajg hd]
          rw[Lo (i:=i+1) R.size oz]
          · simp only[vw,hL,if_true,ho,hu,gy,hd]
          · intro j oj hj eA rL
            rw[hL,ajf oz];obtain⟨uj,dJ⟩:=FV j oj eA;exact uA j oj uj eA dJ oz (by simp[jY,hd,rL])
        · rw[ajf hd]
          refine FM _ (fun j oj hj eA rL=>?_);rw[hL,ajf];rintro rfl;rw[ho]at eA;cases eA;exact hd rL
      · rw[tf]
        by_cases hd:k∈u.wr
        · rw[ajg hd]
          rw[HB (i:=i+1) R.size oz]
          · simp only[vw,hL,if_true,ho,hu,tf,hd]
          · intro j uj hj dJ rL
            rw[hL,ajf oz];obtain⟨oj,eA⟩:=A8 j uj dJ;exact uA j oj uj eA dJ oz (by simp[jY,vZ hd rL])
        · rw[ajf hd]
          refine EV _ (fun j uj hj dJ rL=>?_);rw[hL,ajf];rintro rfl;rw[hu]at dJ;cases dJ;exact hd rL
end
inductive TK where
  |bool |int (k:IntKind) |string |slice (e:Nat) |array (n e:Nat) |struct |iface (n:Nat) |pointer (e:Nat) |other
  deriving Inhabited
structure TI where
  size:Nat
  bytes:Nat
  zero:List ajq
  k:TK
  fs:List (Nat×Nat)
  deriving Inhabited
def TI.ag(t:TI):Bool:=match t.k with | .struct | .array _ _=>true |_=>false
def gI:TypeDesc->TK
  | .bool=>.bool
  | .int k=>.int k
  | .string=>.string
  | .slice e=>.slice e
  | .array n e=>.array n e
  | .struct _=>.struct
  | .interface ms=>.iface ms.size
  | .pointer e=>.pointer e
  |_=>.other
def sU(P:ajs):TypeDesc->List (Nat×Nat)
  | .struct fs=>fs.toList.map fun f=>(f.offset,match P.info? f.type with |some j=>j.size |none=>0)
  |_=>[]
def aq(P:ajs)(t:ajr):Option TI :=
  match P.info? t,P.underlying t with
  |some i,some d=>match i.zero with
    |some z=>some ⟨i.size,i.bytes,z.cells.toList,gI d,sU P d⟩
    |none=>none
  |_,_=>none
theorem v9{P:ajs}{t:ajr}{ti:TI}(h:aq P t=some ti) :
  ∃i d z,P.info? t=some i/\P.underlying t=some d/\i.zero=some z/\ti=⟨i.size,i.bytes,z.cells.toList,gI d,sU P d⟩:=by
 unfold aq at h;split at h
 ·rename_i i d h1 h2;split at h
  ·rename_i z h3;cases h;exact⟨i,d,z,h1,h2,h3,rfl⟩
  ·cases h
 ·cases h
theorem eR{P:ajs}{t:ajr}{ti:TI}(h:aq P t=some ti)(w:ajt):(sizeOf t).run P w=.ok ti.size w:=by
 obtain⟨i,d,z,h1,h2,h3,rfl⟩:=v9 h;simp[sizeOf,typeInfo,h1]
theorem Iv{P:ajs}{t:ajr}{ti:TI}(h:aq P t=some ti)(w:ajt):∃i,(typeInfo t).run P w=.ok i w/\i.bytes=ti.bytes/\i.size=ti.size:=by
 obtain⟨i,d,z,h1,h2,h3,rfl⟩:=v9 h;exact⟨i,by simp[typeInfo,h1],rfl,rfl⟩
theorem vK{P:ajs}{t:ajr}{ti:TI}(h:aq P t=some ti)(w:ajt):∃z,(zeroValue t).run P w=.ok z w/\z.cells.toList=ti.zero:=by
 obtain⟨i,d,z,h1,h2,h3,rfl⟩:=v9 h;exact⟨z,by simp[zeroValue,typeInfo,h1,h3],rfl⟩
theorem cR{P:ajs}{t:ajr}{ti:TI}(h:aq P t=some ti)(w:ajt):∃d,(underlying t).run P w=.ok d w/\gI d=ti.k/\sU P d=ti.fs/\P.underlying t=some d:=by
 obtain⟨i,d,z,h1,h2,h3,rfl⟩:=v9 h;exact⟨d,by simp[underlying,h2],rfl,rfl,h2⟩
theorem gz{d:TypeDesc}{e:Nat}(h:gI d=.slice e):d=.slice e:=by cases d <;> simp_all [gI]
theorem Nr{d:TypeDesc}(h:gI d=.string):d=.string:=by cases d <;> simp_all [gI]
theorem MR{d:TypeDesc}(h:gI d=.bool):d=.bool:=by cases d <;> simp_all [gI]
theorem Kh{d:TypeDesc}{k:IntKind}(h:gI d=.int k):d=.int k:=by cases d <;> simp_all [gI]
theorem Sw{d:TypeDesc}{n e:Nat}(h:gI d=.array n e):d=.array n e:=by cases d <;> simp_all [gI]
theorem Hv{d:TypeDesc}(h:gI d=.struct):∃fs,d=.struct fs:=by cases d <;> simp_all [gI]
theorem H6{d:TypeDesc}{n:Nat}(h:gI d=.iface n):∃ms,d=.interface ms/\ms.size=n:=by cases d <;> simp_all [gI]
theorem Vy{P:ajs}{t:ajr}{ti:TI}(h:aq P t=some ti)(w:ajt):(isAgg t).run P w=.ok ti.ag w:=by
 obtain⟨d,h1,h2,-,-⟩:=cR h w;simp only[isAgg,ajv,h1,aju,TI.ag,<- h2];cases d <;> rfl
theorem iX(b off n:Nat):(⟨b,off,none⟩:Addr).add n=⟨b,off+n,none⟩:=by
 unfold Addr.add;split
 ·subst_vars;rfl
 ·rfl
theorem qo{w:ajt}{b off:Nat}{c:Array ajq}{t:ajr}{f:Nat×Nat}(hb:w.heap[b]?=some (.cells c t f)) :
  w.cell? ⟨b,off,none⟩=c[off]? := by
 simp[World.cell?,hb]
theorem zn{P:ajs}{w:ajt}{T:ajr}{ti:TI}{b off:Nat}{c:Array ajq}{t:ajr}{f:Nat×Nat}
  (hT:aq P T=some ti) (hb:w.heap[b]?=some (.cells c t f)) (bB:off+ti.size<=c.size) (h1:ti.ag=true\/ti.size=1) :
  (loadVar T ⟨b,off,none⟩).run P w=.ok (if ti.ag then .agg (c.extract off (off+ti.size))else c.getD off undef) w:=by
 simp only[loadVar,ajv,Vy hT,aju];cases ha:ti.ag with
 |true =>
  simp only[if_true];have hl:(c.extract off (off+ti.size)).toList.length=ti.size:=by simp;omega
  have:=run_loadCells_list (P:=P) w ⟨b,off,none⟩ (c.extract off (off+ti.size)).toList (by
   intro j v hj;rw[iX,qo hb];simp only[ahz,ahy]at hj;split at hj
   ·exact hj
   ·cases hj)
  rw[hl]at this;simp only[ajv,eR hT,aju,this,ajw,Array.toArray_toList]
 |false =>
  rcases h1 with h1 |h1
  ·rw[ha]at h1;cases h1
  ·simp only [ahi, if_false, run_load, qo hb];have:off < c.size:=by omega
   simp[this,aic]
def kc(ag:Bool)(l:List AV):AV:=match ag with
  |true=>.agg l
  |false=>match l with |x::_=>x |[]=>default
theorem ze{g:Nat->Array ajq->Prop}{S:Nat->Nat->Prop}{m:Nat->Option Nat}{c:Array ajq}{off n:Nat}{ag:Bool}{xs:List AV}
  (hn:xs.length=n) (bB:off+n<=c.size) (h1:ag=true\/n=1) (ho:∀(j:Nat)(x:AV),xs[j]?=some x->x.one=true)
  (hr:∀(j:Nat)(u:ajq)(x:AV),xs[j]?=some x->c[off+j]?=some u->Rep g S m u x) :
  Rep g S m (if ag then .agg (c.extract off (off+n))else c.getD off undef) (kc ag xs):=by
 cases ag with
 |true =>
  simp only[if_true,kc];refine .agg (by simp;omega) ho ?_;intro j u x hu hx;simp only[ahy]at hu;split at hu
  ·exact hr j u x hx hu
  ·cases hu
 |false =>
  rcases h1 with h1 |h1
  ·cases h1
  ·subst h1
   match xs,hn with
   |[x],_ =>
    simp only[ahi,if_false,kc];have:off<c.size:=by omega
    refine hr 0 _ x rfl ?_;simp[this,aic]
def bb(P:ajs)(N:Nat)(c:Code)(Q:Exit->AS->Prop)(s:AS):Prop :=
  ∀C m a w n,C.nt=N->RelM C s m a w->c.wpIn (Fw C.ro) n P (fun e a' w'=>∃s' m',Q e s'/\RelM C s' m' a' w') a w
def kF(P:ajs)(N:Nat)(c:Code)(Q:Exit->AS->Prop)(s:AS):Prop :=
  ∀C m a w n,C.ro=none->C.nt=N->RelM C s m a w->c.wpIn (Fw C.ro) n P (fun e a' w'=>∃s' m',Q e s'/\RelM C s' m' a' w') a w
theorem bb.out{P:ajs}{N:Nat}{c:Code}{Q:Exit->AS->Prop}{s:AS}(h:bb P N c Q s):kF P N c Q s:=fun C m a w n _=>h C m a w n
def Wk(s s':AS):Prop:=∀C m a w,RelM C s m a w->∃m',RelM C s' m' a w
theorem Wk.refl(s:AS):Wk s s:=fun _ m _ _ h=>⟨m,h⟩
theorem Wk.trans{s s' s'':AS}(h:Wk s s')(h':Wk s' s''):Wk s s'':=fun C m a w hr=>by
 obtain⟨m',hr'⟩:=h C m a w hr;exact h' C m' a w hr'
variable{P:ajs}{N:Nat}{Q:Exit->AS->Prop}{s:AS}
theorem rj{c:Code}{s':AS}(hw:Wk s s')(h:bb P N c Q s'):bb P N c Q s:=by
 intro C m a w n hN hr;obtain⟨m',hr'⟩:=hw C m a w hr;exact h C m' a w n hN hr'
theorem jg{c:Code}{Q':Exit->AS->Prop}(h:bb P N c Q s)(hq:∀e s,Q e s->Q' e s):bb P N c Q' s :=
 fun C m a w n hN hr=>wpIn_mono (h C m a w n hN hr) fun e _ _ ⟨s',m',hQ,hr'⟩=>⟨s',m',hq e s' hQ,hr'⟩
theorem Vo{c:Code}{p:Prop}(hp:∀C m a w,RelM C s m a w->p)(h:p->bb P N c Q s):bb P N c Q s :=
 fun C m a w n hN hr=>h (hp C m a w hr) C m a w n hN hr
def KA(K:AS->Prop)(Q:Exit->AS->Prop):Exit->AS->Prop
  | .normal,s=>K s
  |e,s=>Q e s
theorem KZ{x y:Code}(h:∀K:AS->Prop,(∀s,bb P N y Q s->K s)->bb P N x (KA K Q) s):bb P N (.seq x y) Q s:=by
 intro C m a w n hN hr;refine wpIn_seq (wpIn_mono (h (bb P N y Q) (fun _ h=>h) C m a w n hN hr) ?_);rintro e a' w' ⟨s',m',hq,hr'⟩;cases e with
 |normal=>exact hq C m' a' w' n hN hr'
 |_=>exact⟨s',m',hq,hr'⟩
theorem Hq(h:Q .normal s):bb P N .skip Q s:=fun _ m _ _ _ _ hr=>wpIn_skip ⟨s,m,h,hr⟩
theorem J9(h:Q .ret s):bb P N .ret Q s:=fun _ m _ _ _ _ hr=>wpIn_ret ⟨s,m,h,hr⟩
theorem IA{id:Nat}(h:Q (.exit id) s):bb P N (.exit id) Q s:=fun _ m _ _ _ _ hr=>wpIn_exit ⟨s,m,h,hr⟩
def yF(id:Nat)(K:AS->Prop)(Q:Exit->AS->Prop):Exit->AS->Prop
  | .exit id',s=>match afe id' id with |true=>K s |false=>Q (.exit id') s
  | .normal,s=>K s
  |e,s=>Q e s
theorem Hi{id:Nat}{c:Code}(h:bb P N c (yF id (Q .normal) Q) s):bb P N (.block id c) Q s:=by
 intro C m a w n hN hr;refine wpIn_block (wpIn_mono (h C m a w n hN hr) ?_);rintro e a' w' ⟨s',m',hq,hr'⟩;cases e with
 |exit id' =>
  simp only[Exit.inBlock];simp only[yF]at hq;split at hq
  ·rename_i hb;rw[ajg (ah5 hb)];exact⟨s',m',hq,hr'⟩
  ·rename_i hb;rw[ajf (aes hb)];exact⟨s',m',hq,hr'⟩
 |_=>exact⟨s',m',hq,hr'⟩
inductive Ev(s:AS):ajp->AV->Prop
  |tmp {t:Nat} {x:AV} (h:s.get t=some x):Ev s (.tmp t) x
  |opt {t:Nat} {b:Bool} {x:AV} (h:s.get t=some (.opt b x)) (hb:b=true):Ev s (.tmp t) x
  |const (c:ajq):Ev s (.const c) (.v c)
  |func (f:FuncId):Ev s (.func f) (.v (.func (.func f) #[] #[]))
theorem Ev.rep{C:Ctx}{m:Nat->Option Nat}{a:Act}{w:ajt}(hr:RelM C s m a w){o:ajp}{x:AV}(h:Ev s o x) :
  Rep (Im C.ext s.hp m w) (Sz w) m (a.eval o) x:=by
 cases h with
 |tmp h=>exact(hr.slots _ _ h).2
 | @opt t _ _ h hb =>
  have h2:=(hr.slots _ _ h).2;show Rep _ _ m (a.tmps.getD t undef) x;generalize a.tmps.getD t undef=u at h2;cases h2 with |opt h' _=>exact h' hb
 |const c=>exact .v _
 |func f=>exact .v _
theorem yw{c:ajp}{x y:Code}{b:Bool}(hc:Ev s c (.v (.bool b)))(ht:b=true->bb P N x Q s)(hf:b=false->bb P N y Q s) :
  bb P N (.cond c x y) Q s:=by
 intro C m a w n hN hr;have h:=hc.rep hr
 have:a.eval c=.bool b:=by
  generalize a.eval c=v at h;cases h;rfl
 exact wpIn_cond_split this (fun hb=>ht hb C m a w n hN hr) (fun hb=>hf hb C m a w n hN hr)
theorem ZA{F:Fence}{n9:Nat}{c:Code}{Q:Exit->Act->ajt->Prop}{a:Act}{w:ajt}(I:Nat->Act->ajt->Prop){n:Nat}(h₀:I n a w)
  (round:∀n a w,I n a w->c.wpIn F n9 P (Exit.then (fun a' w'=>∃n',n'<n/\I n' a' w') Q) a w):(Code.loop c).wpIn F n9 P Q a w:=by
 intro b k cs kR hb hr
 have key:∀n a w,I n a w->∃e a' w',Q e a' w'/\ArrivesIn (Machine.fenced P F) P (lone (b.atR a (.code c :: .inLoop c::k)) cs w) b k cs e a' w':=by
  intro n
  induction n using Nat.strongRecOn with
  |_ n ih =>
   intro a w hI;obtain⟨e,a₁,w₁,hq,A9⟩:=round n a w hI b (.inLoop c::k) cs kR hb hr;cases e with
   |normal =>
    obtain⟨n',hlt,hI₁⟩:=hq;obtain⟨e₂,a₂,w₂,hq₂,harr₂⟩:=ih n' hlt a₁ w₁ hI₁;exact⟨e₂,a₂,w₂,hq₂,.of_steps (StepsIn.trans A9 (.one (fenced_calm hb hr rfl) stepR_inLoop)) harr₂⟩
   |_=>exact⟨_,a₁,w₁,hq,.pass (x:=.inLoop c) rfl (fun _ _=>.inl (by simp)) A9⟩
 obtain⟨e,a',w',hq,A9⟩:=key n a w h₀;exact⟨e,a',w',hq,.of_steps (.one (fenced_calm hb hr rfl) stepR_loop) A9⟩
theorem ud{c:Code}(I:Nat->AS->Prop){n:Nat}{s':AS}(hw:Wk s s')(h₀:I n s')
  (round:∀n s,I n s->∀K:AS->Prop,(∀s1 s2 n',Wk s1 s2->I n' s2->n'<n->K s1)->bb P N c (KA K Q) s):bb P N (.loop c) Q s:=by
 intro C m a w n9 hN hr;obtain⟨m1,aQ⟩:=hw C m a w hr;refine ZA (fun n a w=>∃s m,I n s/\RelM C s m a w) ⟨s',m1,h₀,aQ⟩ ?_;rintro n a w ⟨s,m,hI,hr⟩;refine wpIn_mono (round n s hI (fun s1=>∃s2 n',Wk s1 s2/\I n' s2/\n'<n) (fun s1 s2 n' h1 h2 h3=>⟨s2,n',h1,h2,h3⟩) C m a w n9 hN hr) ?_;rintro e a' w' ⟨s1,m1,hq,aQ⟩;cases e with
 |normal =>
  obtain⟨s2,n',h1,h2,h3⟩:=hq;obtain⟨m2,ek⟩:=h1 C m1 a' w' aQ;exact⟨n',h3,s2,m2,h2,ek⟩
 |_=>exact⟨s1,m1,hq,aQ⟩
theorem YX{id:Nat}{ops:List Oper}(hd:ops.all nd=true)(h:gw P N ops.toArray ops s [] (fun s' _=>Q .normal s')):bb P N (.region id ops.toArray false) Q s:=by
 intro C m a w n hN hr;refine wpIn_region ?_;have:=VR (C:=C) (n:=n) hN (Q:=fun e a' w'=>∃s' m',Q e s'/\RelM C s' m' a' w') (fun s us m a w hq hr=>⟨s,m,hq,hr⟩) ops 0 s [] m a w (by simp) hd h hr;rw[List.range_eq_range'];simpa using this
theorem W3{R:Array Oper}{K:AS->List Out->Prop}:∀(ops:List Oper)(s:AS)(us:List Out),gw P N R ops s us K ->
  ∃us',us'.length=ops.length/\K (vw ops.toArray us' s (fun _=>true) ops.length) (us++us') /\
   ∀(i:Nat) o u,ops[i]?=some o->us'[i]?=some u->Step P N R (vw ops.toArray us' s (fun _=>true) i) o u:=by
 intro ops
 induction ops with
 |nil=>intro s us h;exact⟨[],rfl,by simpa[vw,gw]using h,by simp⟩
 |cons o ops ih =>
  intro s us h;obtain⟨u,hs,hn,h⟩:=h;obtain⟨us',h1,h2,h3⟩:=ih _ _ h
  have hv:∀i,vw (o::ops).toArray (u::us') s (fun _=>true) (i+1)=vw ops.toArray us' (s.app o.dst u) (fun _=>true) i:=by
   intro i
   induction i with
   |zero=>simp[vw]
   |succ i ih =>
    rw[vw,ih,vw];simp
  refine⟨u::us',by simp[h1],?_,?_⟩
  ·rw[aij,hv];simpa using h2
  ·intro i o' u' ho hu;cases i with
   |zero=>simp at ho hu;subst ho;subst hu;simpa[vw]using hs
   |succ i =>
    rw[hv];exact h3 i o' u' (by simpa using ho) (by simpa using hu)
theorem S8{id:Nat}{ops:List Oper}(hd:ops.all nd=true)(hm:P.follows .mixedOrders=true)
  (h:gw P N ops.toArray ops s [] (fun s' us=>chk ops us s=true/\Q .normal s')):bb P N (.region id ops.toArray true) Q s:=by
 intro C m a w n hN hr;obtain⟨us,h1,⟨h2,h3⟩,h4⟩:=W3 ops s [] h;refine wpIn_region_any hm ?_;refine XB (C:=C) (by simpa using hd) hN (U:=us) (s0:=s) (by simpa using h1) (by simpa using h4) (by simpa using h2) ?_ _ _ (by simp) ?_ ?_ m a _ ?_
 ·intro m a w hr;exact⟨_,m,h3,by simpa using hr⟩
 ·intro i o _ hl;simp only[aic,ahw]at hl;split at hl <;> simp at hl
 ·exact aiw (List.length_filter_le _ _) (by simp)
 ·have hz:∀n,vw ops.toArray us s (fun i=>(aht ops.toArray.size false).getD i false) n=s:=by
   intro n
   induction n with
   |zero=>rfl
   |succ n ih =>
    rw[vw,ih]
    have:(aht ops.toArray.size false).getD n false=false:=by
     simp only[aic,ahw];split <;> rfl
    rw[this]
  rw[hz];exact hr.drawn _
end Go.Lw
namespace Go.Lw
variable{P:ajs}{N:Nat}{R:Array Oper}{s:AS}{pos:String}{after:Array Edge}
theorem ar{o:Oper}{ops:List Oper}{us:List Out}{K:AS->List Out->Prop}{u:Out}(hs:Step P N R s o u)(hn:jz s u)
  (h:gw P N R ops (s.app o.dst u) (us++[u]) K):gw P N R (o::ops) s us K:=⟨u,hs,hn,h⟩
def ai:ajp->List Nat
  | .tmp t=>[t]
  |_=>[]
theorem Ev.agree{s':AS}{u:Out}(h:gj s s' u){o:ajp}{x:AV}(he:Ev s o x)(hs:∀t∈ai o,t∈u.rt):Ev s' o x:=by
 cases he with
 |tmp ht=>exact .tmp ((h.1 _ (hs _ (by simp[ai]))).trans ht)
 |opt ht hb=>exact .opt ((h.1 _ (hs _ (by simp[ai]))).trans ht) hb
 |const c=>exact .const c
 |func f=>exact .func f
theorem nk{o:Oper}(hg:o.guard=none)(y:Nat->Option Bool):Region.wanted o y=true:=by simp[Region.wanted,hg]
theorem cC{o:Oper}{d:Nat}{x:AV}{rt rd:List Nat}(hg:o.guard=none)(hd:o.dst=some d)(hN:aek d N=true)
  (h:∀s',gj s s' ⟨some x,[],rt,rd⟩->∀C m a w,RelM C s' m a w ->
   ∃v,(execOp a.eval o).run P w=.ok (.value v) w/\Rep (Im C.ext s'.hp m w) (Sz w) m v x):Step P N R s o ⟨some x,[],rt,rd⟩:=by
 refine⟨fun s' am _ C m a w Q next hC hr hnext=>?_⟩;rw[ajg (nk hg _)];refine vE ?_;obtain⟨v,h1,h2⟩:=h s' am C m a w hr;rw[ad5]at hN;unfold Oper.wp;rw[h1];simp only[Oper.upon,hd,Act.put];refine hnext m _ _ ?_;have:=hr.put d v (some x) (fun y hy=>by cases hy;exact⟨by have:=hr.nt;omega,h2⟩);simpa[AS.app,hd]using this
theorem Uc{d:Nat}{x:ajp}{v:AV}{t:ajr}(he:Ev s x v)(hN:aek d N=true) :
  Step P N R s ⟨some d,.move x,t,pos,after,none⟩ ⟨some v,[],ai x,[]⟩ :=
 cC rfl rfl hN fun s' am C m a w hr=>⟨a.eval x,rfl,(he.agree am (fun _ h=>h)).rep hr⟩
theorem Ss{d:Nat}{x:ajp}{v:AV}{t:ajr}(he:Ev s x v)(hN:aek d N=true) :
  Step P N R s ⟨some d,.assign x,t,pos,after,none⟩ ⟨some v,[],ai x,[]⟩ :=
 cC rfl rfl hN fun s' am C m a w hr=>⟨a.eval x,rfl,(he.agree am (fun _ h=>h)).rep hr⟩
def Sub(x y:AV):Prop:=∀g S m v,Rep g S m v x->Rep g S m v y
theorem Sub.nil(sz:Nat)(a:Option Addr)(c:Nat):Sub (.v (.slice a 0 c)) (.lst sz []):=fun g S m v h=>by cases h;exact .lst0 a c sz
theorem so{d:Nat}{op:Op}{x:ajp}{vx y:ajq}{t:ajr}(he:Ev s x (.v vx))(hN:aek d N=true)
  (h:∀(ρ:ajp->ajq)(w:ajt),ρ x=vx->(execOp ρ ⟨some d,op,t,pos,after,none⟩).run P w=.ok (.value y) w) :
  Step P N R s ⟨some d,op,t,pos,after,none⟩ ⟨some (.v y),[],ai x,[]⟩ :=
 cC rfl rfl hN fun s' am C m a w hr=>⟨y,h _ _ (by
  have:=(he.agree am (fun _ h=>h)).rep hr;generalize a.eval x=u at this;cases this;rfl),.v y⟩
theorem jw{d:Nat}{op:Op}{x x':ajp}{vx vx' y:ajq}{t:ajr}(he:Ev s x (.v vx))(he':Ev s x' (.v vx'))
  (hN:aek d N=true)
  (h:∀(ρ:ajp->ajq)(w:ajt),ρ x=vx->ρ x'=vx'->(execOp ρ ⟨some d,op,t,pos,after,none⟩).run P w=.ok (.value y) w) :
  Step P N R s ⟨some d,op,t,pos,after,none⟩ ⟨some (.v y),[],ai x++ai x',[]⟩ :=
 cC rfl rfl hN fun s' am C m a w hr=>⟨y,h _ _ (by
  have:=(he.agree am (fun _ h=>aia.2 (.inl h))).rep hr;generalize a.eval x=u at this;cases this;rfl) (by
  have:=(he'.agree am (fun _ h=>aia.2 (.inr h))).rep hr;generalize a.eval x'=u at this;cases this;rfl),.v y⟩
theorem ZG{d:Nat}{x:ajp}{b:Bool}{T t:ajr}(he:Ev s x (.v (.bool b)))(hN:aek d N=true) :
  Step P N R s ⟨some d,.unOp .not T x,t,pos,after,none⟩ ⟨some (.v (.bool !b)),[],ai x,[]⟩ :=
 so he hN fun ρ w h=>by simp[execOp,h,Op.unary]
theorem zB{d:Nat}{x:ajp}{k:IntKind}{n:Int}{T t:ajr}(he:Ev s x (.v (.int k n)))(hN:aek d N=true) :
  Step P N R s ⟨some d,.unOp .neg T x,t,pos,after,none⟩ ⟨some (.v (.int k (k.wrap (0-n)))),[],ai x,[]⟩ :=
 so he hN fun ρ w h=>by simp[execOp,h,Op.unary,Op.intArith]
theorem Hz{d:Nat}{x:ajp}{k k':IntKind}{n:Int}{S T t:ajr}{ts ti:TI}(he:Ev s x (.v (.int k n)))
  (hN:aek d N=true) (hS:aq P S=some ts) (hT:aq P T=some ti) (hk:ti.k=.int k') :
  Step P N R s ⟨some d,.convert S T x,t,pos,after,none⟩ ⟨some (.v (.int k' (k'.wrap n))),[],ai x,[]⟩ :=
 so he hN fun ρ w h=>by
  obtain⟨d1,h1,-,-,-⟩:=cR hS w;obtain⟨d2,h2,h3,-,-⟩:=cR hT w;obtain rfl:=Kh (h3.trans hk);simp[execOp,h,convert,h1,h2,Conv.intToInt]
theorem V7{d:Nat}{x:ajp}{v:ajq}{T t:ajr}{ti:TI}(he:Ev s x (.v v))(hN:aek d N=true)
  (hT:aq P T=some ti) (hk:(match ti.k with | .int _=>true | .struct=>true | .pointer _=>true | .string=>true |_=>false)=true) :
  Step P N R s ⟨some d,.makeInterface T x,t,pos,after,none⟩ ⟨some (.v (.iface T v)),[],ai x,[]⟩ :=
 so he hN fun ρ w h=>by
  obtain⟨d2,h2,h3,-,-⟩:=cR hT w
  have:∀ms,d2≠.interface ms:=by
   rintro ms rfl;rw[<- h3]at hk;simp[gI]at hk
  simp only[execOp,h,Instr.makeInterface,ajv,h2,aju];cases d2 <;> first |rfl |exact ajm rfl (this _)
def fq(op:BinOp)(a b:Int):Int:=match op with | .add=>a+b | .sub=>a-b |_=>a*b
theorem IX{d:Nat}{op:BinOp}{x y:ajp}{k:IntKind}{a b:Int}{S T t:ajr}
  (hx:Ev s x (.v (.int k a))) (hy:Ev s y (.v (.int k b))) (el:(match op with | .add | .sub | .mul=>true |_=>false)=true) (hN:aek d N=true) :
  Step P N R s ⟨some d,.binOp op S x y T,t,pos,after,none⟩ ⟨some (.v (.int k (k.wrap (fq op a b)))),[],ai x++ai y,[]⟩ :=
 jw hx hy hN fun ρ w h1 h2=>by
  cases op <;> simp at el <;> simp[execOp,h1,h2,eqGuard,binOp,Op.intArith,fq]
def aa(op:BinOp)(a b:Int):Bool:=match op with
  | .eql=>a==b | .neq=>a != b | .lss=>a<b | .leq=>a<=b | .gtr=>a>b |_=>a>=b
theorem IM{d:Nat}{op:BinOp}{x y:ajp}{k:IntKind}{a b:Int}{S T t:ajr}
  (hx:Ev s x (.v (.int k a))) (hy:Ev s y (.v (.int k b))) (el:(match op with | .eql | .neq | .lss | .leq | .gtr | .geq=>true |_=>false)=true) (hN:aek d N=true) :
  Step P N R s ⟨some d,.binOp op S x y T,t,pos,after,none⟩ ⟨some (.v (.bool (aa op a b))),[],ai x++ai y,[]⟩ :=
 jw hx hy hN fun ρ w h1 h2=>by
  cases op <;> simp at el <;> simp[execOp,h1,h2,eqGuard,binOp,Op.intCmp,aa]
theorem JN{d:Nat}{x y:ajp}{k:IntKind}{a b:Int}{S T t:ajr}
  (hx:Ev s x (.v (.int k a))) (hy:Ev s y (.v (.int k b))) (hb:b≠0) (hN:aek d N=true) :
  Step P N R s ⟨some d,.binOp .quo S x y T,t,pos,after,none⟩ ⟨some (.v (.int k (k.wrap (a.tdiv b)))),[],ai x++ai y,[]⟩ :=
 jw hx hy hN fun ρ w h1 h2=>by simp[execOp,h1,h2,eqGuard,binOp,Op.intDiv,hb]
theorem Kd{d:Nat}{x y:ajp}{k:IntKind}{a b:Int}{S T t:ajr}
  (hx:Ev s x (.v (.int k a))) (hy:Ev s y (.v (.int k b))) (hb:b≠0) (hN:aek d N=true) :
  Step P N R s ⟨some d,.binOp .rem S x y T,t,pos,after,none⟩ ⟨some (.v (.int k (a.tmod b))),[],ai x++ai y,[]⟩ :=
 jw hx hy hN fun ρ w h1 h2=>by simp[execOp,h1,h2,eqGuard,binOp,Op.intDiv,hb]
theorem Ow{d:Nat}{x y:ajp}{k k':IntKind}{a b:Int}{S T t:ajr}
  (hx:Ev s x (.v (.int k a))) (hy:Ev s y (.v (.int k' b))) (hb:0<=b) (hN:aek d N=true) :
  Step P N R s ⟨some d,.binOp .shl S x y T,t,pos,after,none⟩ ⟨some (.v (.int k (k.wrap (a*2^(min b.toNat k.bits))))),[],ai x++ai y,[]⟩ :=
 jw hx hy hN fun ρ w h1 h2=>by simp[execOp,h1,h2,eqGuard,binOp,Op.shift,Int.not_lt.2 hb]
theorem Nc{d:Nat}{x y:ajp}{k k':IntKind}{a b:Int}{S T t:ajr}
  (hx:Ev s x (.v (.int k a))) (hy:Ev s y (.v (.int k' b))) (hb:0<=b) (hN:aek d N=true) :
  Step P N R s ⟨some d,.binOp .shr S x y T,t,pos,after,none⟩ ⟨some (.v (.int k (a.fdiv (2^(min b.toNat k.bits))))),[],ai x++ai y,[]⟩ :=
 jw hx hy hN fun ρ w h1 h2=>by simp[execOp,h1,h2,eqGuard,binOp,Op.shift,Int.not_lt.2 hb]
def n8(op:BinOp)(k:IntKind)(a b:Int):Int :=
  let x:=BitVec.ofInt k.bits a
  let y:=BitVec.ofInt k.bits b
  k.wrap ((match op with | .and=>x &&& y | .or=>x ||| y | .xor=>x ^^^ y |_=>x &&& ~~~y).toNat:Int)
theorem Of{d:Nat}{op:BinOp}{x y:ajp}{k:IntKind}{a b:Int}{S T t:ajr}
  (hx:Ev s x (.v (.int k a))) (hy:Ev s y (.v (.int k b))) (el:(match op with | .and | .or | .xor | .andNot=>true |_=>false)=true) (hN:aek d N=true) :
  Step P N R s ⟨some d,.binOp op S x y T,t,pos,after,none⟩ ⟨some (.v (.int k (n8 op k a b))),[],ai x++ai y,[]⟩ :=
 jw hx hy hN fun ρ w h1 h2=>by
  cases op <;> simp at el <;> simp[execOp,h1,h2,eqGuard,binOp,Op.intBits,n8]
theorem Mz{d:Nat}{x y:ajp}{a b:ByteArray}{S T t:ajr}
  (hx:Ev s x (.v (.string a))) (hy:Ev s y (.v (.string b))) (hN:aek d N=true) :
  Step P N R s ⟨some d,.binOp .eql S x y T,t,pos,after,none⟩ ⟨some (.v (.bool (a.toList==b.toList))),[],ai x++ai y,[]⟩ :=
 jw hx hy hN fun ρ w h1 h2=>by simp[execOp,h1,h2,eqGuard,binOp,Op.stringOp]
theorem NN{d:Nat}{x y:ajp}{a b:ByteArray}{S T t:ajr}
  (hx:Ev s x (.v (.string a))) (hy:Ev s y (.v (.string b))) (hN:aek d N=true) :
  Step P N R s ⟨some d,.binOp .neq S x y T,t,pos,after,none⟩ ⟨some (.v (.bool !(a.toList==b.toList))),[],ai x++ai y,[]⟩ :=
 jw hx hy hN fun ρ w h1 h2=>by simp[execOp,h1,h2,eqGuard,binOp,Op.stringOp]
theorem HL{S:ajr}{w:ajt}(h3:(underlying S).run P w=.ok .bool w)(a b:Bool):(Op.equal S (.bool a) (.bool b)).run P w=.ok (a==b) w:=by
 show(Op.equalIn (9999+1) S _ _).run P w=_;rw[Op.equalIn];simp[h3]
theorem JO{S:ajr}{w:ajt}{ms:Array (String×ajr)}(h3:(underlying S).run P w=.ok (.interface ms) w){v:ajq}
  (hv:v=.nilIface\/∃T u,v=.iface T u):(Op.equal S v .nilIface).run P w=.ok (match v with | .nilIface=>true |_=>false) w:=by
 show(Op.equalIn (9999+1) S _ _).run P w=_;rw[Op.equalIn];rcases hv with rfl |⟨T',u,rfl⟩ <;> simp[h3]
theorem UT{d:Nat}{x y:ajp}{a b:Bool}{S T t:ajr}{ti:TI}
  (hx:Ev s x (.v (.bool a))) (hy:Ev s y (.v (.bool b))) (hS:aq P S=some ti) (hk:ti.k=.bool) (hN:aek d N=true) :
  Step P N R s ⟨some d,.binOp .eql S x y T,t,pos,after,none⟩ ⟨some (.v (.bool (a==b))),[],ai x++ai y,[]⟩ :=
 jw hx hy hN fun ρ w h1 h2=>by
  obtain⟨d2,h3,h4,-,-⟩:=cR hS w;obtain rfl:=MR (h4.trans hk);simp[execOp,h1,h2,eqGuard,binOp,HL h3]
theorem Xy{d:Nat}{x y:ajp}{a b:Bool}{S T t:ajr}{ti:TI}
  (hx:Ev s x (.v (.bool a))) (hy:Ev s y (.v (.bool b))) (hS:aq P S=some ti) (hk:ti.k=.bool) (hN:aek d N=true) :
  Step P N R s ⟨some d,.binOp .neq S x y T,t,pos,after,none⟩ ⟨some (.v (.bool (a != b))),[],ai x++ai y,[]⟩ :=
 jw hx hy hN fun ρ w h1 h2=>by
  obtain⟨d2,h3,h4,-,-⟩:=cR hS w;obtain rfl:=MR (h4.trans hk);simp[execOp,h1,h2,eqGuard,binOp,HL h3,bne]
def eI:ajq->Bool
  | .nilIface=>true
  |_=>false
theorem HG{d:Nat}{x:ajp}{v:ajq}{S T t:ajr}{ti:TI}{n:Nat}
  (hx:Ev s x (.v v)) (hv:v=.nilIface\/∃T u,v=.iface T u) (hS:aq P S=some ti) (hk:ti.k=.iface n) (hN:aek d N=true) :
  Step P N R s ⟨some d,.binOp .eql S x (.const .nilIface) T,t,pos,after,none⟩ ⟨some (.v (.bool (eI v))),[],ai x++[],[]⟩ :=
 cC rfl rfl hN fun s' am C m a w hr=>⟨.bool (eI v),by
  have h:=(hx.agree am (fun _ h=>aia.2 (.inl h))).rep hr
  have h1:a.eval x=v:=by
   generalize a.eval x=u at h;cases h;rfl
  have h2:a.eval (.const .nilIface)=.nilIface:=rfl;obtain⟨d2,h3,h4,-,-⟩:=cR hS w;obtain⟨ms,rfl,-⟩:=H6 (h4.trans hk);have h5:=JO h3 hv;rcases hv with rfl |⟨T',u,rfl⟩ <;> simp[execOp,h1,h2,eqGuard,binOp,h5,eI],.v _⟩
theorem G2{d:Nat}{x:ajp}{v:ajq}{S T t:ajr}{ti:TI}{n:Nat}
  (hx:Ev s x (.v v)) (hv:v=.nilIface\/∃T u,v=.iface T u) (hS:aq P S=some ti) (hk:ti.k=.iface n) (hN:aek d N=true) :
  Step P N R s ⟨some d,.binOp .neq S x (.const .nilIface) T,t,pos,after,none⟩ ⟨some (.v (.bool !(eI v))),[],ai x++[],[]⟩ :=
 cC rfl rfl hN fun s' am C m a w hr=>⟨.bool !(eI v),by
  have h:=(hx.agree am (fun _ h=>aia.2 (.inl h))).rep hr
  have h1:a.eval x=v:=by
   generalize a.eval x=u at h;cases h;rfl
  have h2:a.eval (.const .nilIface)=.nilIface:=rfl;obtain⟨d2,h3,h4,-,-⟩:=cR hS w;obtain⟨ms,rfl,-⟩:=H6 (h4.trans hk);have h5:=JO h3 hv;rcases hv with rfl |⟨T',u,rfl⟩ <;> simp[execOp,h1,h2,eqGuard,binOp,h5,eI],.v _⟩
theorem Lh{d:Nat}{x:ajp}{sz:Nat}{es:List AV}{T t:ajr}{ti:TI}{e:Nat}
  (hx:Ev s x (.lst sz es)) (hT:aq P T=some ti) (hk:ti.k=.slice e) (hN:aek d N=true) :
  Step P N R s ⟨some d,.call ⟨.builtin .len,#[x],#[T]⟩,t,pos,after,none⟩ ⟨some (.v (.int .i64 es.length)),[],ai x,[]⟩ :=
 cC rfl rfl hN fun s' am C m a w hr=>⟨.int .i64 es.length,by
  have h:=(hx.agree am (fun _ h=>h)).rep hr;obtain⟨d2,h3,h4,-,-⟩:=cR hT w;obtain rfl:=gz (h4.trans hk);generalize hu:a.eval x=u at h;cases h <;> simp[execOp,resolve,hu,invoke,builtin,Builtin.len_,h3,goInt],.v _⟩
theorem TJ{d:Nat}{x:ajp}{k sz off len:Nat}{T t:ajr}{ti:TI}{e:Nat}
  (hx:Ev s x (.ms k sz off len)) (hT:aq P T=some ti) (hk:ti.k=.slice e) (hN:aek d N=true) :
  Step P N R s ⟨some d,.call ⟨.builtin .len,#[x],#[T]⟩,t,pos,after,none⟩ ⟨some (.v (.int .i64 len)),[],ai x,[]⟩ :=
 cC rfl rfl hN fun s' am C m a w hr=>⟨.int .i64 len,by
  have h:=(hx.agree am (fun _ h=>h)).rep hr;obtain⟨d2,h3,h4,-,-⟩:=cR hT w;obtain rfl:=gz (h4.trans hk);generalize hu:a.eval x=u at h;cases h <;> simp[execOp,resolve,hu,invoke,builtin,Builtin.len_,h3,goInt],.v _⟩
theorem Ru{d:Nat}{x:ajp}{b:ByteArray}{T t:ajr}{ti:TI}
  (hx:Ev s x (.v (.string b))) (hT:aq P T=some ti) (hk:ti.k=.string) (hN:aek d N=true) :
  Step P N R s ⟨some d,.call ⟨.builtin .len,#[x],#[T]⟩,t,pos,after,none⟩ ⟨some (.v (.int .i64 b.size)),[],ai x,[]⟩ :=
 so hx hN fun ρ w h=>by
  obtain⟨d2,h3,h4,-,-⟩:=cR hT w;obtain rfl:=Nr (h4.trans hk);simp[execOp,resolve,h,invoke,builtin,Builtin.len_,h3,goInt]
theorem U2{d:Nat}{x:ajp}{a:Option Addr}{n c:Nat}{T t:ajr}{ti:TI}{e:Nat}
  (hx:Ev s x (.v (.slice a n c))) (hT:aq P T=some ti) (hk:ti.k=.slice e) (hN:aek d N=true) :
  Step P N R s ⟨some d,.call ⟨.builtin .len,#[x],#[T]⟩,t,pos,after,none⟩ ⟨some (.v (.int .i64 n)),[],ai x,[]⟩ :=
 so hx hN fun ρ w h=>by
  obtain⟨d2,h3,h4,-,-⟩:=cR hT w;obtain rfl:=gz (h4.trans hk);simp[execOp,resolve,h,invoke,builtin,Builtin.len_,h3,goInt]
theorem ra{d:Nat}{x y:ajp}{a b:Int}{k:IntKind}{T T' t:ajr}
  (hx:Ev s x (.v (.int k a))) (hy:Ev s y (.v (.int k b))) (hN:aek d N=true) :
  Step P N R s ⟨some d,.call ⟨.builtin .max,#[x,y],#[T,T']⟩,t,pos,after,none⟩ ⟨some (.v (.int k (max a b))),[],ai x++ai y,[]⟩ :=
 jw hx hy hN fun ρ w h1 h2=>by
  have:(if b>a then b else a)=max a b:=by split <;> omega
  simp[execOp,resolve,h1,h2,invoke,builtin,Builtin.max_,Builtin.max2,this]
theorem Ql{d:Nat}{x y:ajp}{a b:Int}{k:IntKind}{T T' t:ajr}
  (hx:Ev s x (.v (.int k a))) (hy:Ev s y (.v (.int k b))) (hN:aek d N=true) :
  Step P N R s ⟨some d,.call ⟨.builtin .min,#[x,y],#[T,T']⟩,t,pos,after,none⟩ ⟨some (.v (.int k (min a b))),[],ai x++ai y,[]⟩ :=
 jw hx hy hN fun ρ w h1 h2=>by
  have:(if b<a then b else a)=min a b:=by split <;> omega
  simp[execOp,resolve,h1,h2,invoke,builtin,Builtin.min_,Builtin.min2,this]
theorem VW{d:Nat}{x:ajp}{xs:List AV}{i:Nat}{y:AV}{t:ajr}
  (hx:Ev s x (.tup xs)) (hy:xs[i]?=some y) (hN:aek d N=true) :
  Step P N R s ⟨some d,.extract x i,t,pos,after,none⟩ ⟨some y,[],ai x,[]⟩ :=
 cC rfl rfl hN fun s' am C m a w hr=>by
  have h:=(hx.agree am (fun _ h=>h)).rep hr;generalize hu:a.eval x=u at h;cases h with
  | @tup _ vs _ hn aS =>
   have hi:i<vs.size:=by
    rw[hn];rcases aid i xs.length with h |h
    ·exact h
    ·rw[aig h]at hy;cases hy
   exact⟨vs[i],by simp[execOp,hu,Instr.extract,hi],aS i _ y (by simp[hi]) hy⟩
theorem B9{d:Nat}{c x y:ajp}{b bx bz:Bool}{t:ajr}(hc:Ev s c (.v (.bool b)))
  (hx:b=true->Ev s x (.v (.bool bx))) (hy:b=false->Ev s y (.v (.bool bz))) (hN:aek d N=true) :
  Step P N R s ⟨some d,.pick c x y,t,pos,after,none⟩ ⟨some (.v (.bool (cond b bx bz))),[],ai c++(ai x++ai y),[]⟩ :=
 cC rfl rfl hN fun s' am C m a w hr=>by
  have ji:∀(o:ajp)(z:Bool),(∀t∈ai o,t∈ai c++(ai x++ai y))->Ev s o (.v (.bool z))->a.eval o=.bool z:=by
   intro o z mV h;have:=(h.agree am mV).rep hr;generalize a.eval o=u at this;cases this;rfl
  have h1:=ji c b (fun t h=>by simp[h]) hc;cases b with
  |true=>exact⟨.bool bx,by simp[execOp,h1,asBool,ji x bx (fun t h=>by simp[h]) (hx rfl)],.v _⟩
  |false=>exact⟨.bool bz,by simp[execOp,h1,asBool,ji y bz (fun t h=>by simp[h]) (hy rfl)],.v _⟩
theorem fX{d j g:Nat}{op:Op}{t:ajr}{want b:Bool}{x:AV}{rt rd:List Nat}
  (hj:(R[j]?).bind (·.dst)=some g) (hb:s.get g=some (.v (.bool b))) (hN:aek d N=true)
  (h:b=want->Step P N R s ⟨some d,op,t,pos,after,none⟩ ⟨some x,[],rt,rd⟩) :
  Step P N R s ⟨some d,op,t,pos,after,some (j,want)⟩ ⟨some (.opt (b==want) x),[],g::rt,rd⟩:=by
 refine⟨fun s' am bm C m a w Q next hC hr hnext=>?_⟩;have hg:=hr.slots g _ ((am.1 g (by simp)).trans hb)
 have oh:a.tmps[g]?=some (.bool b):=by
  obtain⟨h1,h2⟩:=hg;generalize hu:a.tmps.getD g undef=u at h2;cases h2;simp only[aic]at hu;rw[ahm h1]at hu ⊢;simpa using hu
 have hy:yielded R a.tmps j=some b:=by simp[yielded,hj,oh]
 have hd:d<a.tmps.size:=by rw[ad5]at hN;have:=hr.nt;omega
 by_cases kS:b=want
 ·subst kS;have c9:Region.wanted ⟨some d,op,t,pos,after,some (j,b)⟩ (yielded R a.tmps) = true:=by simp [Region.wanted,hy]
  rw[ajg c9];have:=(h rfl).run s' ⟨fun t ht=>am.1 t (by simp[show t∈rt from ht]),am.2⟩ (fun k hk=>by cases hk) C m a w Q next hC hr (fun m' a' w' h'=>hnext m' a' w' ?_)
  ·rw[ajg (nk rfl _)]at this;exact this
  ·refine⟨fun t y hy=>?_,h'.heap,h'.frame,h'.new,h'.keep,h'.defers,h'.nt⟩;simp only[gy]at hy;split at hy
   ·rename_i lV;cases hy;have:=h'.slots t x (by simp only[gy,ajg lV]);exact⟨this.1,.opt (fun _=>this.2) (fun h=>by simp at h)⟩
   ·rename_i lV;exact h'.slots t y (by simp only[gy,ajf lV];exact hy)
 ·have c9 : ¬ Region.wanted ⟨some d, op, t, pos, after, some (j, want)⟩ (yielded R a.tmps) = true := by simp [Region.wanted, hy, kS]
  rw[ajf c9];have:=hr.put d undef (some (.opt (b==want) x)) (fun y hy=>by cases hy;exact⟨hd,.opt (fun h=>ajm (beq_iff_eq.1 h) kS) (fun _=>rfl)⟩);refine hnext m _ _ ?_;simpa[AS.app,Act.put]using this
theorem rq{d j g:Nat}{op:Op}{t:ajr}{want b c:Bool}{x:AV}{rt rd:List Nat}
  (hj:(R[j]?).bind (·.dst)=some g) (hb:s.get g=some (.opt c (.v (.bool b)))) (hN:aek d N=true)
  (h:c=true->b=want->Step P N R s ⟨some d,op,t,pos,after,none⟩ ⟨some x,[],rt,rd⟩) :
  Step P N R s ⟨some d,op,t,pos,after,some (j,want)⟩ ⟨some (.opt (c&&b==want) x),[],g::rt,rd⟩:=by
 refine⟨fun s' am bm C m a w Q next hC hr hnext=>?_⟩;have hg:=hr.slots g _ ((am.1 g (by simp)).trans hb);have hd:d<a.tmps.size:=by rw[ad5]at hN;have:=hr.nt;omega
 have oh:(c=true/\a.tmps[g]?=some (.bool b))\/(c=false/\a.tmps[g]?=some undef):=by
  obtain⟨h1,h2⟩:=hg;generalize hu:a.tmps.getD g undef=u at h2;simp only[aic]at hu;rw[ahm h1]at hu ⊢;simp only[ah0]at hu;cases h2 with
  |opt h2 h2' =>
   cases c with
   |true=>have:=h2 rfl;cases this;exact .inl ⟨rfl,by rw[hu]⟩
   |false=>exact .inr ⟨rfl,by rw[hu,h2' rfl]⟩
 have iw:∀c9:¬Region.wanted ⟨some d,op,t,pos,after,some (j,want)⟩ (yielded R a.tmps)=true,(c&&b==want)=false ->
   if Region.wanted ⟨some d,op,t,pos,after,some (j,want)⟩ (yielded R a.tmps)then wq P ⟨some d,op,t,pos,after,some (j,want)⟩ a w next Q
    else next (a.put (some d) undef) w:=by
  intro c9 hc;rw[ajf c9];have:=hr.put d undef (some (.opt (c&&b==want) x)) (fun y hy=>by cases hy;exact⟨hd,.opt (fun h=>by rw[hc]at h;cases h) (fun _=>rfl)⟩);refine hnext m _ _ ?_;simpa[AS.app,Act.put]using this
 rcases oh with⟨rfl,oh⟩ |⟨rfl,oh⟩
 ·have hy : yielded R a.tmps j = some b := by simp [yielded, hj, oh]
  by_cases kS:b=want
  ·subst kS;have c9:Region.wanted ⟨some d,op,t,pos,after,some (j,b)⟩ (yielded R a.tmps) = true:=by simp [Region.wanted,hy]
   rw[ajg c9];have:=(h rfl rfl).run s' ⟨fun t ht=>am.1 t (by simp[show t∈rt from ht]),am.2⟩ (fun k hk=>by cases hk) C m a w Q next hC hr (fun m' a' w' h'=>hnext m' a' w' ?_)
   ·rw[ajg (nk rfl _)]at this;exact this
   ·refine⟨fun t y hy=>?_,h'.heap,h'.frame,h'.new,h'.keep,h'.defers,h'.nt⟩;simp only[gy]at hy;split at hy
    ·rename_i lV;cases hy;have:=h'.slots t x (by simp only[gy,ajg lV]);exact⟨this.1,.opt (fun _=>this.2) (fun h=>by simp at h)⟩
    ·rename_i lV;exact h'.slots t y (by simp only[gy,ajf lV];exact hy)
  ·exact iw (by simp[Region.wanted,hy,kS]) (by simp[kS])
 ·have hy : yielded R a.tmps j = none := by simp [yielded, hj, oh, undef]
  exact iw (by simp[Region.wanted,hy]) rfl
end Go.Lw
namespace Go.Lw
variable{P:ajs}{N:Nat}{R:Array Oper}{s:AS}{pos:String}{after:Array Edge}
def AV.ok:AV->Bool
  | .agg _=>true
  |x=>x.one
theorem AV.ok_spec{x:AV}(h:x.ok=true):(∃cs,x=.agg cs)\/x.one=true:=by
 cases x <;> simp_all [AV.ok]
theorem tC{C:Ctx}{m:Nat->Option Nat}{a:Act}{w:ajt}(hr:RelM C s m a w){x:ajp}{k off:Nat}(hx:Ev s x (.ptr k off)) :
  ∃b,m k=some b/\a.eval x=.pointer (some ⟨b,off,none⟩):=by
 have h:=hx.rep hr;generalize a.eval x=u at h;cases h with |ptr hm=>exact⟨_,hm,rfl⟩
theorem zi{C:Ctx}{m:Nat->Option Nat}{a:Act}{w:ajt}(hr:RelM C s m a w){x:ajp}{k sz i off:Nat}(hx:Ev s x (.eptr k sz i off)) :
  ∃b,m k=some b/\a.eval x=.pointer (some ⟨b,i*sz+off,none⟩):=by
 have h:=hx.rep hr;generalize a.eval x=u at h;cases h with |eptr hm=>exact⟨_,hm,rfl⟩
theorem nN{C:Ctx}{m:Nat->Option Nat}{a:Act}{w:ajt}(hr:RelM C s m a w){x:ajp}{v:ajq}(hx:Ev s x (.v v)):a.eval x=v:=by
 have h:=hx.rep hr;generalize a.eval x=u at h;cases h;rfl
theorem AU{ext:Nat->Prop}{hp:Hp}{m:Nat->Option Nat}{w:ajt}(h:HeapRel ext hp m w){k b:Nat}{cs:List AV}(hk:lk hp k=some (.box cs))(hm:m k=some b) :
  ∃c t,w.heap[b]?=some (.cells c t (0,0))/\c.size=cs.length/\(∀(j:Nat)(x:AV),cs[j]?=some x->x.one=true) /\
   ∀(j:Nat)(u:ajq)(x:AV),c[j]?=some u->cs[j]?=some x->Rep (Im ext hp m w) (Sz w) m u x:=by
 have:=h.blk k _ hk;rw[hm]at this;cases this with |box hw hn h1 hr=>exact⟨_,_,hw,hn,h1,hr⟩
theorem tc{ext:Nat->Prop}{hp:Hp}{m:Nat->Option Nat}{w:ajt}(h:HeapRel ext hp m w){k b sz:Nat}{es:List AV}(hk:lk hp k=some (.row sz es))(hm:m k=some b) :
  ∃c t,w.heap[b]?=some (.cells c t (0,0))/\es.length*sz<=c.size/\es.length<=az/\(∀(i:Nat)(e:AV),es[i]?=some e->e.cells.length=sz) /\
   (∀(i j:Nat)(e x:AV),es[i]?=some e->e.cells[j]?=some x->x.one=true) /\
   ∀(i j:Nat)(e:AV)(u:ajq)(x:AV),es[i]?=some e->e.cells[j]?=some x->c[i*sz+j]?=some u->Rep (Im ext hp m w) (Sz w) cO u x:=by
 have:=h.blk k _ hk;rw[hm]at this;cases this with |row hw hn hl hs h1 hr=>exact⟨_,_,hw,hn,hl,hs,h1,hr⟩
theorem WV{d:Nat}{x:ajp}{k off:Nat}{cs:List AV}{T t:ajr}{ti:TI}
  (hx:Ev s x (.ptr k off)) (hk:s.blk k=some (.box cs)) (hT:aq P T=some ti) (bB:Nat.ble (off+ti.size) cs.length=true)
  (h1:(ti.ag||afe ti.size 1)=true) (hN:aek d N=true) :
  Step P N R s ⟨some d,.load T x,t,pos,after,none⟩ ⟨some (kc ti.ag ((cs.drop off).take ti.size)),[],ai x,[k]⟩ :=
 cC rfl rfl hN fun s' am C m a w hr=>by
  rw[ae0]at bB;have h1:ti.ag=true\/ti.size=1:=by simpa using h1
  obtain⟨b,hm,hv⟩:=tC hr (hx.agree am (fun _ h=>h));obtain⟨c,t,hw,hn,ho,aS⟩:=AU hr.heap ((am.2 k (by simp)).trans hk) hm;refine⟨_,?_,ze (c:=c) (off:=off) (n:=ti.size) (by simp;omega) oz h1 ?_ ?_⟩
  ·simp[execOp,Instr.loadAt,hv,Instr.sureAddr,zn hT hw (by omega:off+ti.size<=c.size) h1]
  ·intro j y hy;rw[ai1]at hy;split at hy
   ·rw[ai5]at hy;exact ho _ y hy
   ·cases hy
  ·intro j u y hy hu;rw[ai1]at hy;split at hy
   ·rw[ai5]at hy;exact aS _ u y hu hy
   ·cases hy
theorem IC{g:Nat->Array ajq->Prop}{S:Nat->Nat->Prop}{m:Nat->Option Nat}{u:ajq}{x:AV}(h:Rep g S cO u x):Rep g S m u x :=
 h.mono (fun _ _ h=>h) (fun _ _ h=>h) (fun k b _ hb=>by cases hb)
theorem TZ{g:Nat->Array ajq->Prop}{S:Nat->Nat->Prop}{m:Nat->Option Nat}{u:ajq}{x:AV}(h:Rep g S m u x)(hx:x.nm=[]):Rep g S cO u x :=
 h.mono (fun _ _ h=>h) (fun _ _ h=>h) (fun k b hk _=>by have:=hk.mem;rw[hx]at this;cases this)
theorem my{i n sz:Nat}(h:i<n):i*sz+sz<=n*sz:=by
 have:=aik sz (show i+1<=n from h);rw[aei]at this;exact this
theorem dq{d:Nat}{x:ajp}{k sz i off:Nat}{es:List AV}{e:AV}{T t:ajr}{ti:TI}
  (hx:Ev s x (.eptr k sz i off)) (hk:s.blk k=some (.row sz es)) (he:es[i]?=some e) (hT:aq P T=some ti) (bB:Nat.ble (off+ti.size) e.cells.length=true)
  (h1:(ti.ag||afe ti.size 1)=true) (hN:aek d N=true) :
  Step P N R s ⟨some d,.load T x,t,pos,after,none⟩ ⟨some (kc ti.ag ((e.cells.drop off).take ti.size)),[],ai x,[k]⟩ :=
 cC rfl rfl hN fun s' am C m a w hr=>by
  rw[ae0]at bB;have h1:ti.ag=true\/ti.size=1:=by simpa using h1
  obtain⟨b,hm,hv⟩:=zi hr (hx.agree am (fun _ h=>h));obtain⟨c,t,hw,hn,hl,hs,ho,aS⟩:=tc hr.heap ((am.2 k (by simp)).trans hk) hm
  have hi:i<es.length:=by
   rcases aid i es.length with h |h
   ·exact h
   ·rw[aig h]at he;cases he
  have hb:=my (sz:=sz) hi;have lW:=hs i e he;refine⟨_,?_,ze (c:=c) (off:=i*sz+off) (n:=ti.size) (by simp;omega) oz h1 ?_ ?_⟩
  ·simp[execOp,Instr.loadAt,hv,Instr.sureAddr,zn hT hw (by omega:i*sz+off+ti.size<=c.size) h1]
  ·intro j y hy;rw[ai1]at hy;split at hy
   ·rw[ai5]at hy;exact ho i _ e y he hy
   ·cases hy
  ·intro j u y hy hu;rw[ai1]at hy;split at hy
   ·rw[ai5]at hy;exact IC (aS i _ e u y he hy (by rw[<- hu];congr 1;omega))
   ·cases hy
theorem Zy{d:Nat}{x:ajp}{xs:List AV}{T t:ajr}{ti:TI}
  (hx:Ev s x (.iptr xs)) (hT:aq P T=some ti) (bB:(aek 0 ti.size&&Nat.ble ti.size xs.length)=true)
  (h1:(ti.ag||afe ti.size 1)=true) (hN:aek d N=true) :
  Step P N R s ⟨some d,.load T x,t,pos,after,none⟩ ⟨some (kc ti.ag (xs.take ti.size)),[],ai x,[]⟩ :=
 cC rfl rfl hN fun s' am C m a w hr=>by
  simp only[ah7,ae0,ad5]at bB;have h1:ti.ag=true\/ti.size=1:=by simpa using h1
  have h:=(hx.agree am (fun _ h=>h)).rep hr;generalize hv:a.eval x=u at h;cases h with
  | @iptr _ b off cs _ u hb ho hu aS =>
   obtain⟨_,_,t,f,hw⟩:=hb
   have aN:off+ti.size<=cs.size:=by
    have hlt:ti.size-1<xs.length:=by omega
    have:=hu (ti.size-1) xs[ti.size-1] (by simp[hlt]);rcases aid (off+(ti.size-1)) cs.size with h |h
    ·omega
    ·rw[ahp h]at this;cases this
   refine⟨_,?_,ze (c:=cs) (off:=off) (n:=ti.size) (by simp;omega) oz h1 ?_ ?_⟩
   ·simp[execOp,Instr.loadAt,hv,Instr.sureAddr,zn hT hw aN h1]
   ·intro j y hy;rw[ai1]at hy;split at hy
    ·exact ho _ y hy
    ·cases hy
   ·intro j u' y hy hu';rw[ai1]at hy;split at hy
    ·have:=hu j y hy;rw[hu']at this;cases this
     exact IC (aS j y hy)
    ·cases hy
theorem Fx{T:ajr}{ti:TI}{f o n:Nat}(hT:aq P T=some ti)(hk:ti.k=.struct)(hf:ti.fs[f]?=some (o,n))(hn:aek 0 n=true)
  (w:ajt) (b off:Nat):(Instr.fieldAt T (.pointer (some ⟨b,off,none⟩)) f).run P w=.ok (.pointer (some ⟨b,off+o,none⟩)) w:=by
 rw[ad5]at hn;obtain⟨d2,h2,h3,h4,-⟩:=cR hT w;obtain⟨fs,rfl⟩:=Hv (h3.trans hk);rw[<- h4]at hf;simp only[sU,aib,ah8,ahz]at hf;obtain⟨fl,h5,h6⟩:=hf;cases h6;cases hi:P.info? fl.type with
 |none=>rw[hi]at hn;simp at hn
 |some j =>
  rw[hi]at hn;have hj:¬j.size=0:=by simp only at hn;omega
  simp[Instr.fieldAt,h2,h5,Instr.sureAddr,fieldPlace,sizeOf,typeInfo,hi,hj,iX]
theorem YG{d:Nat}{x:ajp}{k off f o n:Nat}{T t:ajr}{ti:TI}
  (hx:Ev s x (.ptr k off)) (hT:aq P T=some ti) (hk:ti.k=.struct) (hf:ti.fs[f]?=some (o,n)) (hn:aek 0 n=true) (hN:aek d N=true) :
  Step P N R s ⟨some d,.fieldAddr T x f,t,pos,after,none⟩ ⟨some (.ptr k (off+o)),[],ai x,[]⟩ :=
 cC rfl rfl hN fun s' am C m a w hr=>by
  obtain⟨b,hm,hv⟩:=tC hr (hx.agree am (fun _ h=>h));exact⟨_,by simp[execOp,hv,Fx hT hk hf hn],.ptr hm⟩
theorem UI{d:Nat}{x:ajp}{k sz i off f o n:Nat}{T t:ajr}{ti:TI}
  (hx:Ev s x (.eptr k sz i off)) (hT:aq P T=some ti) (hk:ti.k=.struct) (hf:ti.fs[f]?=some (o,n)) (hn:aek 0 n=true) (hN:aek d N=true) :
  Step P N R s ⟨some d,.fieldAddr T x f,t,pos,after,none⟩ ⟨some (.eptr k sz i (off+o)),[],ai x,[]⟩ :=
 cC rfl rfl hN fun s' am C m a w hr=>by
  obtain⟨b,hm,hv⟩:=zi hr (hx.agree am (fun _ h=>h));refine⟨.pointer (some ⟨b,i*sz+(off+o),none⟩),?_,.eptr hm⟩;simp[execOp,hv,Fx hT hk hf hn,aeo]
theorem aaq{d:Nat}{x:ajp}{xs:List AV}{f o n:Nat}{T t:ajr}{ti:TI}
  (hx:Ev s x (.iptr xs)) (hT:aq P T=some ti) (hk:ti.k=.struct) (hf:ti.fs[f]?=some (o,n)) (hn:aek 0 n=true) (hN:aek d N=true) :
  Step P N R s ⟨some d,.fieldAddr T x f,t,pos,after,none⟩ ⟨some (.iptr (xs.drop o)),[],ai x,[]⟩ :=
 cC rfl rfl hN fun s' am C m a w hr=>by
  have h:=(hx.agree am (fun _ h=>h)).rep hr;generalize hv:a.eval x=u at h;cases h with
  | @iptr _ b off cs _ u hb ho hu aS =>
   refine⟨_,by simp[execOp,hv,Fx hT hk hf hn];rfl,?_⟩;refine .iptr (fun j=>u (o+j)) hb ?_ ?_ ?_
   ·intro j c hc;rw[ai5]at hc;exact ho _ c hc
   ·intro j c hc;rw[ai5]at hc;rw[aeo];exact hu _ c hc
   ·intro j c hc;rw[ai5]at hc;exact aS _ c hc
theorem Ke{d:Nat}{x ix:ajp}{kk:IntKind}{i:Int}{sz:Nat}{es:List AV}{e:AV}{T E t:ajr}{ti te:TI}
  (hx:Ev s x (.lst sz es)) (hi:Ev s ix (.v (.int kk i))) (hT:aq P T=some ti) (hk:ti.k=.slice E) (hE:aq P E=some te) (aN:te.size=sz)
  (h0:0<=i) (he:es[i.toNat]?=some e) (hN:aek d N=true) :
  Step P N R s ⟨some d,.indexAddr T x ix,t,pos,after,none⟩ ⟨some (.iptr e.cells),[],ai x++ai ix,[]⟩ :=
 cC rfl rfl hN fun s' am C m a w hr=>by
  have h:=(hx.agree am (fun _ h=>aia.2 (.inl h))).rep hr;have xn:=nN hr (hi.agree am (fun _ h=>aia.2 (.inr h)));obtain⟨d2,h2,h3,-,-⟩:=cR hT w;obtain rfl:=gz (h3.trans hk)
  have hlt:i.toNat<es.length:=by
   rcases aid i.toNat es.length with h |h
   ·exact h
   ·rw[aig h]at he;cases he
  generalize hv:a.eval x=u at h;cases h with
  |lst0 a cap=>simp at hlt
  | @lst _ b off cap _ _ cs u hb hc hl hs ho hu aS =>
   have eL:0<=i/\i<(es.length:Int):=by omega
   subst aN;refine⟨.pointer (some ⟨b,off+i.toNat*te.size,none⟩),?_,?_⟩
   ·simp[execOp,hv,xn,Instr.indexAt,asIntOf,h2,eL,eR hE,iX]
   ·refine .iptr (fun j=>u i.toNat j) hb (fun j c hc=>ho i.toNat j e c he hc) (fun j c hc=>hu i.toNat j e c he hc) (fun j c hc=>aS i.toNat j e c he hc)
theorem nH{d:Nat}{x ix:ajp}{kk:IntKind}{i:Int}{k sz off len:Nat}{T E t:ajr}{ti te:TI}
  (hx:Ev s x (.ms k sz off len)) (hi:Ev s ix (.v (.int kk i))) (hT:aq P T=some ti) (hk:ti.k=.slice E) (hE:aq P E=some te) (aN:te.size=sz)
  (h0:0<=i) (he:i<(len:Int)) (hN:aek d N=true) :
  Step P N R s ⟨some d,.indexAddr T x ix,t,pos,after,none⟩ ⟨some (.eptr k sz (off+i.toNat) 0),[],ai x++ai ix,[]⟩ :=
 cC rfl rfl hN fun s' am C m a w hr=>by
  have h:=(hx.agree am (fun _ h=>aia.2 (.inl h))).rep hr;have xn:=nN hr (hi.agree am (fun _ h=>aia.2 (.inr h)));obtain⟨d2,h2,h3,-,-⟩:=cR hT w;obtain rfl:=gz (h3.trans hk);generalize hv:a.eval x=u at h;cases h with
  |ms0=>simp at he;omega
  | @ms _ _ _ _ _ cap b hm hc hS =>
   subst aN;refine⟨.pointer (some ⟨b,(off+i.toNat)*te.size+0,none⟩),?_,.eptr hm⟩;simp[execOp,hv,xn,Instr.indexAt,asIntOf,h2,h0,he,eR hE,iX,aez]
theorem wP{d:Nat}{x ix:ajp}{kk:IntKind}{i:Int}{b:ByteArray}{T t:ajr}{ti:TI}
  (hx:Ev s x (.v (.string b))) (hi:Ev s ix (.v (.int kk i))) (hT:aq P T=some ti) (hk:ti.k=.string)
  (h0:0<=i) (he:i<(b.size:Int)) (hN:aek d N=true) :
  Step P N R s ⟨some d,.index T x ix,t,pos,after,none⟩ ⟨some (.v (.int .u8 (b.data.getD i.toNat 0).toNat)),[],ai x++ai ix,[]⟩ :=
 jw hx hi hN fun ρ w h1 h2=>by
  obtain⟨d2,h3,h4,-,-⟩:=cR hT w;obtain rfl:=Nr (h4.trans hk);have hlt:i.toNat<b.size:=by omega
  have:b[i.toNat]?=some (b.data.getD i.toNat 0):=by
   rw[getElem?_pos b i.toNat hlt,aic,ahm (show i.toNat<b.data.size from hlt)];rfl
  simp[execOp,h1,h2,Instr.index,asIntOf,h3,h0,this]
inductive EvI(s:AS):Option ajp->Nat->Nat->Prop
  |none (d:Nat):EvI s none d d
  |some {x:ajp} {k:IntKind} {i:Int} (d:Nat) (h:Ev s x (.v (.int k i))) (h0:0<=i):EvI s (some x) d i.toNat
def j4:Option ajp->List Nat
  |some x=>ai x
  |none=>[]
theorem EvI.agree{s':AS}{u:Out}(h:gj s s' u){o:Option ajp}{d n:Nat}(he:EvI s o d n)(hs:∀t∈j4 o,t∈u.rt):EvI s' o d n:=by
 cases he with
 |none=>exact .none _
 |some d h' h0=>exact .some d (h'.agree h hs) h0
theorem EvI.bound{C:Ctx}{m:Nat->Option Nat}{a:Act}{w:ajt}(hr:RelM C s m a w){x:ajp}{d n y:Nat}(h:EvI s (Option.some x) d n)(hy:n<=y)(code:BoundsCode) :
  (Instr.sliceBound (a.eval x) y code).run P w=.ok n w:=by
 cases h with
 | @some _ k i _ h h0 =>
  have:=nN hr h;have:0<=i/\i<=(y:Int):=by omega
  simp[Instr.sliceBound,asIntOf,nN hr h,this]
theorem vl{C:Ctx}{m:Nat->Option Nat}{a:Act}{w:ajt}(hr:RelM C s m a w){lo hi:Option ajp}{l h len cap:Nat}(isS:Bool)
  (hl:EvI s lo 0 l) (hh:EvI s hi len h) (h1:l<=h) (h2:h<=cap) :
  (Instr.sliceBounds isS len cap (lo.map a.eval) (hi.map a.eval) none).run P w=.ok (l,h,cap) w:=by
 cases hi with
 |none =>
  cases hh;cases lo with
  |none=>cases hl;simp[Instr.sliceBounds]
  |some x=>simp[Instr.sliceBounds,hl.bound hr h1]
 |some y =>
  cases lo with
  |none=>cases hl;simp[Instr.sliceBounds,hh.bound hr h2]
  |some x=>simp[Instr.sliceBounds,hl.bound hr h1,hh.bound hr h2]
theorem eF{d:Nat}{x:ajp}{lo hi:Option ajp}{l h sz:Nat}{es:List AV}{T E t:ajr}{ti te:TI}
  (hx:Ev s x (.lst sz es)) (hl:EvI s lo 0 l) (hh:EvI s hi es.length h) (hT:aq P T=some ti) (hk:ti.k=.slice E) (hE:aq P E=some te) (aN:te.size=sz)
  (h1:l<=h) (h2:h<=es.length) (hN:aek d N=true) :
  Step P N R s ⟨some d,.slice T x lo hi none,t,pos,after,none⟩ ⟨some (.lst sz ((es.drop l).take (h-l))),[],ai x++(j4 lo++j4 hi),[]⟩ :=
 cC rfl rfl hN fun s' am C m a w hr=>by
  have dk:=(hx.agree am (fun _ h=>aia.2 (.inl h))).rep hr;have hl':=hl.agree am (fun _ h=>aia.2 (.inr (aia.2 (.inl h))));have hh':=hh.agree am (fun _ h=>aia.2 (.inr (aia.2 (.inr h))));obtain⟨d2,hu,h3,-,-⟩:=cR hT w;obtain rfl:=gz (h3.trans hk);subst aN;generalize hv:a.eval x=u at dk;cases dk with
  |lst0 a' cap =>
   have:=vl (P:=P) hr (cap:=cap) true hl' hh' h1 (by simp at h2;omega);simp at this h2;have OX:l=0:=by omega
   refine⟨.slice (if cap=l then a' else a'.map (·.add (l*te.size))) (h-l) (cap-l),?_,?_⟩
   ·simp[execOp,hv,Instr.sliceAt,hu,Instr.slice,this,eR hE]
   ·simp[h2];exact .lst0 _ _ _
  | @lst _ b off cap _ _ cs u hb hc gP hs ho hu' aS =>
   have:=vl (P:=P) hr (cap:=cap) true hl' hh' h1 oz;refine⟨.slice (if cap=l then some ⟨b,off,none⟩else some ⟨b,off+l*te.size,none⟩) (h-l) (cap-l),?_,?_⟩
   ·simp[execOp,hv,Instr.sliceAt,hu,Instr.slice,this,eR hE,iX]
   ·by_cases hlh:l=h
    ·subst hlh;simp;exact .lst0 _ _ _
    ·have aF : ¬ cap = l := by omega
     rw[ajf aF];have ch:((es.drop l).take (h-l)).length=h-l:=by simp;omega
     have cE:∀(i:Nat)(e:AV),((es.drop l).take (h-l))[i]?=some e->es[l+i]?=some e:=by
      intro i e he;rw[ai1]at he;split at he
      ·rwa [ai5]at he
      ·cases he
     have:=Rep.lst (g:=Im C.ext s'.hp m w) (S:=Sz w) (m:=m) (b:=b) (off:=off+l*te.size) (cap:=cap-l) (sz:=te.size) (es:=(es.drop l).take (h-l)) (cs:=cs)
      (fun i j=>u (l+i) j) hb oz oz (fun i e he=>hs _ e (cE i e he)) (fun i j e c he hc=>ho _ j e c (cE i e he) hc)
      (fun i j e c he hc=>by rw[<- hu' (l+i) j e c (cE i e he) hc];congr 1;rw[aez];omega) (fun i j e c he hc=>aS _ j e c (cE i e he) hc)
     rwa [ch]at this
theorem qJ{d:Nat}{x:ajp}{lo hi:Option ajp}{l h k sz off len:Nat}{T E t:ajr}{ti te:TI}
  (hx:Ev s x (.ms k sz off len)) (hl:EvI s lo 0 l) (hh:EvI s hi len h) (hT:aq P T=some ti) (hk:ti.k=.slice E) (hE:aq P E=some te) (aN:te.size=sz)
  (h1:l<=h) (h2:h<=len) (hN:aek d N=true) :
  Step P N R s ⟨some d,.slice T x lo hi none,t,pos,after,none⟩ ⟨some (.ms k sz (off+l) (h-l)),[],ai x++(j4 lo++j4 hi),[]⟩ :=
 cC rfl rfl hN fun s' am C m a w hr=>by
  have dk:=(hx.agree am (fun _ h=>aia.2 (.inl h))).rep hr;have hl':=hl.agree am (fun _ h=>aia.2 (.inr (aia.2 (.inl h))));have hh':=hh.agree am (fun _ h=>aia.2 (.inr (aia.2 (.inr h))));obtain⟨d2,hu,h3,-,-⟩:=cR hT w;obtain rfl:=gz (h3.trans hk);subst aN;generalize hv:a.eval x=u at dk;cases dk with
  |ms0 a' =>
   have:=vl (P:=P) hr (cap:=0) true hl' hh' h1 oz;have OX:l=0:=by omega
   have hh0:h=0:=by omega
   subst OX;subst hh0
   exact⟨.slice a' 0 0,by simp[execOp,hv,Instr.sliceAt,hu,Instr.slice,this,eR hE],.ms0 _ _ _ _⟩
  | @ms _ _ _ _ _ cap b hm hc hS =>
   have:=vl (P:=P) hr (cap:=cap) true hl' hh' h1 oz;refine⟨.slice (if cap=l then some ⟨b,off*te.size,none⟩else some ⟨b,off*te.size+l*te.size,none⟩) (h-l) (cap-l),?_,?_⟩
   ·simp[execOp,hv,Instr.sliceAt,hu,Instr.slice,this,eR hE,iX]
   ·by_cases fI:cap=l
    ·subst fI;have:h - cap = 0:=by omega
     rw[this,Nat.sub_self];exact .ms0 _ _ _ _
    ·rw[ajf fI,<- aez];exact .ms hm oz (by rw[show off+l+(cap-l)=off+cap by omega];exact hS)
theorem U8{d:Nat}{x:ajp}{k off:Nat}{t:ajr}(hx:Ev s x (.ptr k off))(hN:aek d N=true) :
  Step P N R s ⟨some d,.nilCheck x,t,pos,after,none⟩ ⟨some (.ptr k off),[],ai x,[]⟩ :=
 cC rfl rfl hN fun s' am C m a w hr=>by
  obtain⟨b,hm,hv⟩:=tC hr (hx.agree am (fun _ h=>h));exact⟨_,by simp[execOp,hv],.ptr hm⟩
inductive EvL(s:AS):List ajp->List AV->Prop
  |nil:EvL s [] []
  |cons {o:ajp} {x:AV} {os:List ajp} {xs:List AV} (h:Ev s o x) (hs:EvL s os xs):EvL s (o::os) (x::xs)
theorem iL{s:AS}{t:Nat}{x:AV}(h:s.get t=some x):EvL s [.tmp t] [x]:=.cons (.tmp h) .nil
theorem cS{s:AS}{t u:Nat}{x y:AV}(h:s.get t=some x)(h2:s.get u=some y):EvL s [.tmp t,.tmp u] [x,y]:=.cons (.tmp h) (iL h2)
theorem a7{s:AS}{t u v:Nat}{x y z:AV}(h:s.get t=some x)(h2:s.get u=some y)(h3:s.get v=some z):EvL s [.tmp t,.tmp u,.tmp v] [x,y,z]:=.cons (.tmp h) (cS h2 h3)
def cA:List ajp->List Nat
  |[]=>[]
  |o::os=>ai o++cA os
theorem EvL.agree{s':AS}{u:Out}(h:gj s s' u){os:List ajp}{xs:List AV}(he:EvL s os xs)(hs:∀t∈cA os,t∈u.rt):EvL s' os xs:=by
 induction he with
 |nil=>exact .nil
 |cons h1 _ ih=>exact .cons (h1.agree h (fun t ht=>hs t (by simp[cA,ht]))) (ih (fun t ht=>hs t (by simp[cA,ht])))
theorem EvL.length{os:List ajp}{xs:List AV}(he:EvL s os xs):os.length=xs.length:=by
 induction he with
 |nil=>rfl
 |cons _ _ ih=>simp[ih]
theorem EvL.rep{C:Ctx}{m:Nat->Option Nat}{a:Act}{w:ajt}(hr:RelM C s m a w){os:List ajp}{xs:List AV}(he:EvL s os xs) :
  ∀(j:Nat)(v:ajq)(x:AV),(os.map a.eval)[j]?=some v->xs[j]?=some x->Rep (Im C.ext s.hp m w) (Sz w) m v x:=by
 induction he with
 |nil=>intro j v x h;simp at h
 |cons h1 _ ih =>
  intro j v x hv hx;cases j with
  |zero=>simp at hv hx;subst hv;subst hx;exact h1.rep hr
  |succ j=>exact ih j v x (by simpa using hv) (by simpa using hx)
theorem Xq{d:Nat}{x:ajp}{xs:List AV}{t:ajr}(hx:Ev s x (.iptr xs))(hN:aek d N=true) :
  Step P N R s ⟨some d,.nilCheck x,t,pos,after,none⟩ ⟨some (.iptr xs),[],ai x,[]⟩ :=
 cC rfl rfl hN fun s' am C m a w hr=>by
  have h:=(hx.agree am (fun _ h=>h)).rep hr;generalize hu:a.eval x=u at h;cases h with
  |iptr u' hb ho hv aS=>exact⟨_,by simp[execOp,hu],.iptr u' hb ho hv aS⟩
theorem QZ{d f:Nat}{pre:Array ajp}{xs:List AV}{t:ajr}(hx:EvL s pre.toList xs)(hnm:(xs.all fun x=>x.nm.isEmpty)=true)(hN:aek d N=true) :
  Step P N R s ⟨some d,.makeFunc (.func f) pre #[],t,pos,after,none⟩ ⟨some (.cl f xs []),[],cA pre.toList,[]⟩ :=
 cC rfl rfl hN fun s' am C m a w hr=>by
  have hl:=hx.agree am (fun _ h=>h);refine⟨.func (.func f) (pre.map a.eval) #[],by simp[execOp,Instr.makeFunc],.cl ?_ ?_ rfl (fun j u c hu hc=>by simp at hc)⟩
  ·have:=hl.length;simpa using this
  ·intro j u c hu hc
   exact (hl.rep hr j u c (by simpa using hu) hc).mono (fun _ _ h => h) (fun _ _ h => h) (fun k b hk => by
    have h1:=aif.1 hnm c (ah3 hc);have h2:=hk.mem;simp only[List.isEmpty_iff]at h1;rw[h1]at h2;cases h2)
theorem W6{d f:Nat}{caps:Array ajp}{xs:List AV}{t:ajr}(hx:EvL s caps.toList xs)(hN:aek d N=true) :
  Step P N R s ⟨some d,.makeFunc (.func f) #[] caps,t,pos,after,none⟩ ⟨some (.fn f xs),[],cA caps.toList,[]⟩ :=
 cC rfl rfl hN fun s' am C m a w hr=>by
  have hl:=hx.agree am (fun _ h=>h);refine⟨.func (.func f) #[] (caps.map a.eval),by simp[execOp,Instr.makeFunc],.fn ?_ ?_⟩
  ·have:=hl.length;simpa using this
  ·intro j u c hu hc;exact hl.rep hr j u c (by simpa using hu) hc
end Go.Lw
namespace Go.Lw
variable{P:ajs}{N:Nat}{R:Array Oper}{s:AS}{pos:String}{after:Array Edge}
def cW(g:Nat->Array ajq->Prop)(S:Nat->Nat->Prop)(m:Nat->Option Nat)(c:List ajq)(l:List AV):Prop :=
  c.length=l.length/\(∀(j:Nat)(x:AV),l[j]?=some x->x.one=true)/\∀(j:Nat)(u:ajq)(x:AV),c[j]?=some u->l[j]?=some x->Rep g S m u x
theorem cW.of_zero{g:Nat->Array ajq->Prop}{S:Nat->Nat->Prop}{m:Nat->Option Nat}(z:List ajq)(h:z.all Value.oneCell'=true) :
  cW g S m z (z.map .v):=by
 refine⟨by simp,?_,?_⟩
 ·intro j x hx;simp only[aib,ah8]at hx;obtain⟨v,hv,rfl⟩:=hx;exact aif.1 h v (ah3 hv)
 ·intro j u x hu hx;simp only[aib,ah8]at hx;obtain⟨v,hv,rfl⟩:=hx;rw[hu]at hv;cases hv
  exact .v _
theorem cW.of_value{g:Nat->Array ajq->Prop}{S:Nat->Nat->Prop}{m:Nat->Option Nat}{v:ajq}{x:AV}(h:Rep g S m v x)(hx:x.ok=true) :
  cW g S m v.cells.toList x.cells:=by
 obtain⟨h1,h2,h3⟩:=h.cells (AV.ok_spec hx);exact⟨by simpa using h1,h2,fun j u y hu hy=>h3 j u y (by simpa using hu) hy⟩
theorem cW.mono{g g':Nat->Array ajq->Prop}{S S':Nat->Nat->Prop}{m m':Nat->Option Nat}{c:List ajq}{l:List AV}(h:cW g S m c l)
  (hg:∀b cs,g b cs->g' b cs) (hS:∀b n,S b n->S' b n) (hm:∀x∈l,∀k b,x.Names k->m k=some b->m' k=some b):cW g' S' m' c l :=
 ⟨h.1,h.2.1,fun j u x hu hx=>(h.2.2 j u x hu hx).mono hg hS (fun k b hk hb=>hm x (ah3 hx) k b hk hb)⟩
def over{α:Type}(l:List α)(off:Nat)(xs:List α):List α:=l.take off++xs++l.drop (off+xs.length)
theorem jC{α:Type}(l:List α)(off:Nat)(xs:List α)(h:off+xs.length<=l.length)(p:Nat) :
  (over l off xs)[p]?=if p<off then l[p]? else if p<off+xs.length then xs[p-off]? else l[p]? := by
 have h1:(l.take off).length=off:=by simp;omega
 unfold over
 by_cases h2:p<off
 ·rw[ajg h2,ajc,ais oz,ai1,ajg h2]
 ·rw[ajf h2]
  by_cases h3:p<off+xs.length
  ·rw[ajg h3,ais (by simp;omega),ain oz,h1]
  ·rw[ajf h3,ain (by simp;omega),ai5];congr 1;simp;omega
theorem sE{α:Type}(l:List α)(off:Nat)(xs:List α)(h:off+xs.length<=l.length):(over l off xs).length=l.length:=by
 simp[over];omega
theorem cW.over{g:Nat->Array ajq->Prop}{S:Nat->Nat->Prop}{m:Nat->Option Nat}{c:List ajq}{l:List AV}{c':List ajq}{l':List AV}{off:Nat}
  (h:cW g S m c l) (h':cW g S m c' l') (bB:off+l'.length<=l.length):cW g S m (over c off c') (Lw.over l off l'):=by
 have e1:=h.1;have e2:=h'.1;refine⟨by rw[sE _ _ _ oz,sE _ _ _ bB,e1],?_,?_⟩
 ·intro j x hx;rw[jC _ _ _ bB]at hx;split at hx
  ·exact h.2.1 j x hx
  ·split at hx
   ·exact h'.2.1 _ x hx
   ·exact h.2.1 j x hx
 ·intro j u x hu hx;rw[jC _ _ _ bB]at hx;rw[jC _ _ _ oz,e2]at hu;split at hx
  ·rename_i hj;rw[ajg hj]at hu;exact h.2.2 j u x hu hx
  ·rename_i hj;rw[ajf hj]at hu
   split at hx
   ·rename_i hj;rw[ajg hj]at hu;exact h'.2.2 _ u x hu hx
   ·rename_i hj;rw[ajf hj]at hu;exact h.2.2 j u x hu hx
theorem sP{o:Oper}{d:Nat}{k:Nat}{x:AV}{y:Blk}{rt rd:List Nat}(hg:o.guard=none)(hd:o.dst=some d)(hN:aek d N=true)
  (FW:k∉rd)
  (h:∀s',gj s s' ⟨some x,[(k,some y)],rt,rd⟩->s'.Fresh k->∀C m a w,RelM C s' m a w ->
   ∃(v:ajq)(c:Array ajq)(t:ajr)(n:Nat),(execOp a.eval o).run P w=.ok (.value v) { w with heap:=w.heap.push (.cells c t),drawn:=n }/\¬y.Names k /\
    (∀(g:Nat->Array ajq->Prop)(S:Nat->Nat->Prop)(m':Nat->Option Nat)(w':ajt),
     (∀b cs,Im C.ext s'.hp m w b cs->g b cs)->(∀b n,Sz w b n->S b n)->(∀k' b,k'≠k->m k'=some b->m' k'=some b) ->
     w'.heap[w.heap.size]?=some (.cells c t (0,0))->BlkRep g S m' w' (some w.heap.size) y) /\
    (∀(g:Nat->Array ajq->Prop)(S:Nat->Nat->Prop)(m':Nat->Option Nat),m' k=some w.heap.size->S w.heap.size c.size->Rep g S m' v x)) :
  Step P N R s o ⟨some x,[(k,some y)],rt,rd⟩:=by
 refine⟨fun s' am bm C m a w Q next hC hr hnext=>?_⟩;rw[ajg (nk hg _)];refine vE ?_
 have hfr:s'.Fresh k:=by
  rcases bm k (by simp)with h |h
  ·exact ajm h FW
  ·exact h
 obtain⟨v,c,t,n,h1,h2,h3,h4⟩:=h s' am hfr C m a w hr;rw[ad5]at hN;unfold Oper.wp;rw[h1];simp only[Oper.upon,hd,Act.put];refine hnext (fun k'=>if k'=k then some w.heap.size else m k') _ _ ?_;have aQ:=(hr.alloc hfr (.cells c t) y h2 h3).drawn n
 have:=aQ.put d v (some x) (fun z hz=>by
  cases hz;refine⟨by have:=hr.nt;omega,h4 _ _ _ (ajg rfl) ⟨c,t,(0,0),?_,aie _⟩⟩;show(w.heap.push _)[w.heap.size]?=_;simp)
 simpa[AS.app,hd]using this
theorem Jf{ext:Nat->Prop}{hp:Hp}{m:Nat->Option Nat}{w:ajt}{c:Array ajq}{l:List AV}{t:ajr}{k:Nat}
  (h:cW (Im ext hp m w) (Sz w) m c.toList l) (hk:∀x∈l,¬x.Names k)
  {g:Nat->Array ajq->Prop} {S:Nat->Nat->Prop} {m':Nat->Option Nat} {w':ajt}
  (hg:∀b cs,Im ext hp m w b cs->g b cs) (hS:∀b n,Sz w b n->S b n) (hm:∀k' b,k'≠k->m k'=some b->m' k'=some b)
  (hw:w'.heap[w.heap.size]?=some (.cells c t (0,0))):BlkRep g S m' w' (some w.heap.size) (.box l):=by
 have h':=h.mono hg hS (m':=m') (fun x hx k' b hn hb=>hm k' b (fun e=>hk x hx (e▸hn)) hb);exact .box hw (by simpa using h'.1) h'.2.1 (fun j u x hu hx=>h'.2.2 j u x (by simpa using hu) hx)
theorem RW{d:Nat}{T t:ajr}{ti:TI}(hT:aq P T=some ti)(hz:ti.zero.all Value.oneCell'=true)(hN:aek d N=true) :
  Step P N R s ⟨some d,.alloc T,t,pos,after,none⟩ ⟨some (.ptr d 0),[(d,some (.box (ti.zero.map .v)))],[],[]⟩ :=
 sP rfl rfl hN (by simp) fun s' am hfr C m a w hr => by
  obtain⟨z,h1,h2⟩:=vK hT w;have hc:cW (Im C.ext s'.hp m w) (Sz w) m z.cells.toList (ti.zero.map .v):=by rw[h2];exact .of_zero _ hz
  refine⟨.pointer (some ⟨w.heap.size,0,none⟩),z.cells,T,w.drawn,?_,?_,?_,fun g S m' hm _=>.ptr hm⟩
  ·simp[execOp,Instr.alloc,h1,newVar,newRow]
  ·rintro⟨c,hc,hn⟩;simp only[af0]at hc;obtain⟨v,_,rfl⟩:=hc;cases hn
  ·intro g S m' w' hg hS hm hw;refine Jf hc ?_ hg hS hm hw;rintro x hx hn;simp only[af0]at hx;obtain⟨v,_,rfl⟩:=hx;cases hn
theorem Ev.fresh{x:ajp}{v:AV}{k:Nat}(h:Ev s x v)(hf:s.Fresh k):¬v.Names k:=by
 cases h with
 |tmp h=>exact hf.2.2.1 _ _ h
 |opt h _=>intro hn;exact hf.2.2.1 _ _ h (.opt hn)
 |const=>intro hn;cases hn
 |func=>intro hn;cases hn
theorem Sl{x c:AV}{k:Nat}(hc:c∈x.cells)(hn:c.Names k):x.Names k:=by
 cases x <;> simp only[AV.cells,afr]at hc <;> first
  |(subst hc;exact hn)
  |exact .agg hc hn
theorem UR{d:Nat}{x:ajp}{v:AV}{T t:ajr}(hx:Ev s x v)(hv:v.ok=true)(hN:aek d N=true) :
  Step P N R s ⟨some d,.box T x,t,pos,after,none⟩ ⟨some (.ptr d 0),[(d,some (.box v.cells))],ai x,[]⟩ :=
 sP rfl rfl hN (by simp) fun s' am hfr C m a w hr => by
  have hx':=hx.agree am (fun _ h=>h);have hc:=cW.of_value (hx'.rep hr) hv;have iw:∀c∈v.cells,¬c.Names d:=fun c hc hn=>hx'.fresh hfr (Sl hc hn)
  refine⟨.pointer (some ⟨w.heap.size,0,none⟩),(a.eval x).cells,T,w.drawn,?_,?_,?_,fun g S m' hm _=>.ptr hm⟩
  ·simp[execOp,Instr.box,newVar,newRow]
  ·rintro⟨c,hc,hn⟩;exact iw c hc hn
  ·intro g S m' w' hg hS hm hw;exact Jf hc iw hg hS hm hw
theorem zH{w:ajt}{b:Nat}{o:Obj}(hb:w.heap[b]?=some o):b<w.heap.size:=by
 rcases aid b w.heap.size with h |h
 ·exact h
 ·rw[ahp h]at hb;cases hb
theorem Xk{w:ajt}{b i:Nat}{c:Array ajq}{t:ajr}{v:ajq}(hb:w.heap[b]?=some (.cells c t (0,0))) :
  w.setCell ⟨b,i,none⟩ v={ w with heap:=w.heap.setIfInBounds b (.cells (c.setIfInBounds i v) t (0,0)) }:=by
 have hlt:=zH hb;unfold World.setCell;congr 1;apply Array.ext_getElem?;intro j;rw[ahn,Array.getElem?_modify]
 by_cases h:b=j
 ·subst h;rw[ajg rfl,ajg rfl,ajg hlt,hb];rfl
 ·rw[ajf h,ajf h]
theorem Lv{α:Type}(l:List α)(n:Nat)(v:α)(vs:List α)(h:n+(vs.length+1)<=l.length) :
  over (l.set n v) (n+1) vs=over l n (v::vs):=by
 apply List.ext_getElem?;intro p;rw[jC _ _ _ (by simp;omega),jC _ _ _ (by simpa using h),af4];simp only[aij]
 by_cases h1:p<n
 ·rw[ajg oz,ajf oz,ajg h1]
 ·by_cases h2:p=n
  ·subst h2;rw[ajg oz,ajg rfl,ajg oz,ajf oz,ajg oz,Nat.sub_self];rfl
  ·by_cases h3:p<n+1+vs.length
   ·rw[ajf oz,ajg h3,ajf oz,ajg oz,show p-n=p-(n+1)+1 by omega,List.getElem?_cons_succ]
   ·rw[ajf oz,ajf h3,ajf oz,ajf h1,ajf oz]
theorem zC{b:Nat}{t:ajr}:∀(vs:List ajq)(c:Array ajq)(w:ajt)(off i:Nat),w.heap[b]?=some (.cells c t (0,0)) ->
  off+i+vs.length<=c.size->(∀v∈vs,v.oneCell'=true) ->
  (storeCells ⟨b,off,none⟩ vs i).run P w=.ok () { w with heap:=w.heap.setIfInBounds b (.cells (over c.toList (off+i) vs).toArray t (0,0)) }:=by
 intro vs
 induction vs with
 |nil =>
  intro c w off i hb bB _;have hlt:=zH hb
  have:w.heap.setIfInBounds b (.cells (over c.toList (off+i) []).toArray t (0,0))=w.heap:=by
   apply Array.ext_getElem?;intro j;rw[ahn];split
   ·subst_vars;rw[hb];simp[over]
   ·rfl
  simp[storeCells,this]
 |cons v vs ih =>
  intro c w off i hb bB hv;have hlt:=zH hb;simp only[aij]at bB
  have h1:(store ((⟨b,off,none⟩:Addr).add i) v).run P w=.ok () (w.setCell ⟨b,off+i,none⟩ v):=by
   rw[iX,run_store P w _ v .plain (hv v (by simp)),qo hb];have:off+i<c.size:=by omega
   simp[ahm this,World.frozen?,hb]
  rw[storeCells,ajv,h1,aju,Xk hb]
  have hb':(w.heap.setIfInBounds b (.cells (c.setIfInBounds (off+i) v) t (0,0)))[b]?=some (.cells (c.setIfInBounds (off+i) v) t (0,0)):=by
   rw[ahn,ajg rfl,ajg hlt]
  rw[ih (c.setIfInBounds (off+i) v) _ off (i+1) hb' (by simp;omega) (fun v hm=>hv v (by simp[hm]))];congr 2;rw[Array.setIfInBounds_setIfInBounds];congr 3;rw[ahr,show off+(i+1)=off+i+1 by omega,Lv _ _ _ _ (by simp;omega)]
theorem Ex{T:ajr}{ti:TI}{w:ajt}{b off:Nat}{t:ajr}{c:Array ajq}{v:ajq}(hT:aq P T=some ti)(hb:w.heap[b]?=some (.cells c t (0,0)))
  (aN:v.cells.size=ti.size) (bB:off+ti.size<=c.size) (hv:∀x∈v.cells.toList,x.oneCell'=true) :
  (storeVar T ⟨b,off,none⟩ v).run P w=.ok () { w with heap:=w.heap.setIfInBounds b (.cells (over c.toList off v.cells.toList).toArray t (0,0)) }:=by
 have:=zC (P:=P) v.cells.toList c w off 0 hb (by simp;omega) hv;simp only[ae4]at this;simp[storeVar,eR hT,aN,this]
theorem Ep{o:Oper}{k:Nat}{y y':Blk}{rt rd:List Nat}(hg:o.guard=none)(hd:o.dst=none)(FW:k∈rd)(hk:s.blk k=some y)
  (h:∀s',gj s s' ⟨none,[(k,some y')],rt,rd⟩->∀C m a w,RelM C s' m a w ->
   ∃(b:Nat)(c c':Array ajq)(t:ajr),m k=some b/\w.heap[b]?=some (.cells c t (0,0))/\c'.size=c.size /\
    (execOp a.eval o).run P w=.ok .skip { w with heap:=w.heap.setIfInBounds b (.cells c' t (0,0)) } /\
    ∀(g:Nat->Array ajq->Prop)(S:Nat->Nat->Prop)(w':ajt),
     (∀b cs,Im C.ext s'.hp m w b cs->g b cs)->(∀b n,Sz w b n->S b n)->w'.heap[b]?=some (.cells c' t (0,0))->BlkRep g S m w' (some b) y') :
  Step P N R s o ⟨none,[(k,some y')],rt,rd⟩:=by
 refine⟨fun s' am bm C m a w Q next hC hr hnext=>?_⟩;rw[ajg (nk hg _)];refine vE ?_;obtain⟨b,c,c',t,hm,hb,aN,h1,h2⟩:=h s' am C m a w hr;unfold Oper.wp;rw[h1];simp only[Oper.upon,hd,Act.put];refine hnext m _ _ ?_;have:=hr.write (x':=y') ((am.2 k FW).trans hk) hm hb aN rfl (fun g S hg hS hw=>h2 g S _ hg hS hw);simpa[AS.app,hd]using this
theorem IE{g:Nat->Array ajq->Prop}{S:Nat->Nat->Prop}{m:Nat->Option Nat}{v:ajq}{x:AV}(h:Rep g S m v x)(hx:x.ok=true) :
  ∀u∈v.cells.toList,u.oneCell'=true:=by
 have hc:=cW.of_value h hx;intro u hu;obtain⟨j,hj,rfl⟩:=afh.1 hu;have hj':j<x.cells.length:=by rw[<- hc.1];exact hj
 exact(hc.2.2 j _ _ (ah9 hj) (ah9 hj')).one (hc.2.1 j _ (ah9 hj'))
theorem Hh{x y:ajp}{k off:Nat}{cs:List AV}{v:AV}{T t:ajr}{ti:TI}
  (hx:Ev s x (.ptr k off)) (hk:s.blk k=some (.box cs)) (hy:Ev s y v) (hv:v.ok=true) (hT:aq P T=some ti) (aN:afe v.cells.length ti.size=true)
  (bB:Nat.ble (off+ti.size) cs.length=true) :
  Step P N R s ⟨none,.store T x y,t,pos,after,none⟩ ⟨none,[(k,some (.box (over cs off v.cells)))],ai x++ai y,[k]⟩ :=
 Ep rfl rfl (by simp) hk fun s' am C m a w hr => by
  rw[ae0]at bB;have aN:=ah5 aN;obtain⟨b,hm,dc⟩:=tC hr (hx.agree am (fun _ h=>aia.2 (.inl h)));have kT:=(hy.agree am (fun _ h=>aia.2 (.inr h))).rep hr;obtain⟨c,t,hw,hn,ho,aS⟩:=AU hr.heap ((am.2 k (by simp)).trans hk) hm;have hc:=cW.of_value kT hv;have fI:(a.eval y).cells.size=ti.size:=by have:=hc.1;simp at this;omega
  have h0:cW (Im C.ext s'.hp m w) (Sz w) m c.toList cs:=⟨by simpa using hn,ho,fun j u x hu hx=>aS j u x (by simpa using hu) hx⟩
  have h1:=h0.over hc (off:=off) oz;refine⟨b,c,(over c.toList off (a.eval y).cells.toList).toArray,t,hm,hw,?_,?_,?_⟩
  ·simp[over];omega
  ·have dK:=Ex (P:=P) (off:=off) hT hw fI oz (IE kT hv);simp[execOp,Instr.storeAt,dc,Instr.sureAddr,dK]
  ·intro g S w' hg hS hw';have h2:=h1.mono hg hS (m':=m) (fun _ _ _ _ _ h=>h);exact .box hw' (by simpa using h2.1) h2.2.1 (fun j u x hu hx=>h2.2.2 j u x (by simpa using hu) hx)
theorem FL{x y:ajp}{k sz i off:Nat}{es:List AV}{e e' v:AV}{T t:ajr}{ti:TI}
  (hx:Ev s x (.eptr k sz i off)) (hk:s.blk k=some (.row sz es)) (he:es[i]?=some e) (hy:Ev s y v) (hv:v.ok=true) (hnm:v.nm=[]) (hT:aq P T=some ti)
  (aN:afe v.cells.length ti.size=true) (bB:Nat.ble (off+ti.size) e.cells.length=true) (he':e'.cells=over e.cells off v.cells) :
  Step P N R s ⟨none,.store T x y,t,pos,after,none⟩ ⟨none,[(k,some (.row sz (es.set i e')))],ai x++ai y,[k]⟩ :=
 Ep rfl rfl (by simp) hk fun s' am C m a w hr => by
  rw[ae0]at bB;have aN:=ah5 aN;obtain⟨b,hm,dc⟩:=zi hr (hx.agree am (fun _ h=>aia.2 (.inl h)));have kT:=(hy.agree am (fun _ h=>aia.2 (.inr h))).rep hr;obtain⟨c,t,hw,hn,hl,hs,ho,aS⟩:=tc hr.heap ((am.2 k (by simp)).trans hk) hm;have hc:=cW.of_value (TZ kT hnm) hv;have fI:(a.eval y).cells.size=ti.size:=by have:=hc.1;simp at this;omega
  have hi:i<es.length:=by
   rcases aid i es.length with h |h
   ·exact h
   ·rw[aig h]at he;cases he
  have hb:=my (sz:=sz) hi;have lW:=hs i e he;have OY:e'.cells.length=sz:=by rw[he',sE _ _ _ oz,lW]
  refine⟨b,c,(over c.toList (i*sz+off) (a.eval y).cells.toList).toArray,t,hm,hw,?_,?_,?_⟩
  ·simp[over];omega
  ·have dK:=Ex (P:=P) (off:=i*sz+off) hT hw fI oz (IE kT hv);simp[execOp,Instr.storeAt,dc,Instr.sureAddr,dK]
  ·intro g S w' hg hS hw'
   have FX:∀(i':Nat)(e2:AV),(es.set i e')[i']?=some e2->(i'=i/\e2=e')\/(i'≠i/\es[i']?=some e2):=by
    intro i' e2 h;rw[af4]at h;split at h
    ·rename_i jL;subst jL
     cases h;exact .inl ⟨rfl,rfl⟩
    ·rename_i jL;exact .inr ⟨fun e=>jL e.symm,h⟩
   have ff:∀(j:Nat)(z:AV),e'.cells[j]?=some z->z.one=true/\∀u,(over c.toList (i*sz+off) (a.eval y).cells.toList)[i*sz+j]?=some u->Rep (Im C.ext s'.hp m w) (Sz w) cO u z:=by
    intro j z hz
    have hjs:j<sz:=by
     rw[<- OY];rcases aid j e'.cells.length with h |h
     ·exact h
     ·rw[aig h]at hz;cases hz
    rw[he',jC _ _ _ oz]at hz;have xo:i*sz+off+(a.eval y).cells.toList.length<=c.toList.length:=by simp;omega
    split at hz
    ·rename_i h1;refine⟨ho i j e z he hz,fun u hu=>?_⟩;rw[jC _ _ _ xo,ajg oz]at hu;exact aS i j e u z he hz (by simpa using hu)
    ·rename_i h1;split at hz
     ·rename_i h2;refine⟨hc.2.1 _ z hz,fun u hu=>?_⟩;rw[jC _ _ _ xo,ajf oz,ajg (by simp;omega)]at hu;refine hc.2.2 _ u z ?_ hz;rw[<- hu];congr 1;omega
     ·rename_i h2;refine⟨ho i j e z he hz,fun u hu=>?_⟩;rw[jC _ _ _ xo,ajf oz,ajf (by simp;omega)]at hu;exact aS i j e u z he hz (by simpa using hu)
   refine .row hw' (by simp[over];omega) (by simpa using hl) ?_ ?_ ?_
   ·intro i' e2 h;rcases FX i' e2 h with⟨rfl,rfl⟩ |⟨_,h⟩
    ·exact OY
    ·exact hs i' e2 h
   ·intro i' j e2 z h hz;rcases FX i' e2 h with⟨rfl,rfl⟩ |⟨_,h⟩
    ·exact(ff j z hz).1
    ·exact ho i' j e2 z h hz
   ·intro i' j e2 u z h hz hu;refine Rep.mono hg hS ?_ (fun _ _ _ h=>h);rcases FX i' e2 h with⟨rfl,rfl⟩ |⟨aF,h⟩
    ·exact(ff j z hz).2 u (by simpa using hu)
    ·have xo : i * sz + off + (a.eval y).cells.toList.length <= c.toList.length := by simp; omega
     have hj:j<sz:=by
      rw[<- hs i' e2 h];rcases aid j e2.cells.length with h |h
      ·exact h
      ·rw[aig h]at hz;cases hz
     have hu':(over c.toList (i*sz+off) (a.eval y).cells.toList)[i'*sz+j]?=some u:=by simpa using hu
     rw[jC _ _ _ xo]at hu'
     have hcu:c.toList[i'*sz+j]?=some u:=by
      rcases aid i' i with hlt |hge
      ·have:=my (sz:=sz) hlt
       rwa [ajg oz]at hu'
      ·have := my (sz := sz) (show i < i' by omega)
       rwa [ajf oz,ajf (by simp;omega)]at hu'
     exact aS i' j e2 u z h hz (by simpa using hcu)
end Go.Lw
namespace Go.Lw
variable{P:ajs}{N:Nat}{R:Array Oper}{s:AS}{pos:String}{after:Array Edge}
theorem Ji:∀(l:List ajq)(n off:Nat)(arr:Array ajq),off+n+l.length<=arr.size ->
  ((l.zipIdx n).foldl (fun cs p=>cs.setIfInBounds (off+p.2) p.1) arr).toList=over arr.toList (off+n) l:=by
 intro l
 induction l with
 |nil=>intro n off arr h;simp[over]
 |cons v l ih =>
  intro n off arr h;simp only[aij]at h;simp only[List.zipIdx_cons,af1];rw[ih (n+1) off _ (by simp;omega),ahr,show off+(n+1)=off+n+1 by omega,Lv _ _ _ _ (by simp;omega)]
def wW(place:Nat->Option (Nat×Nat)):List AV->List (Nat×AV)->Option (List AV)
  |l,[]=>some l
  |l,(i,x)::r=>match place i with
    |some (off,n)=>match afe x.cells.length n&&Nat.ble (off+n) l.length&&x.ok with
      |true=>wW place (over l off x.cells) r
      |false=>none
    |none=>none
inductive EvP(s:AS):List (Nat×ajp)->List (Nat×AV)->Prop
  |nil:EvP s [] []
  |cons {i:Nat} {o:ajp} {x:AV} {os:List (Nat×ajp)} {xs:List (Nat×AV)} (h:Ev s o x) (hs:EvP s os xs):EvP s ((i,o)::os) ((i,x)::xs)
def sO:List (Nat×ajp)->List Nat
  |[]=>[]
  |(_,o)::os=>ai o++sO os
theorem EvP.agree{s':AS}{u:Out}(h:gj s s' u){os:List (Nat×ajp)}{xs:List (Nat×AV)}(he:EvP s os xs)(hs:∀t∈sO os,t∈u.rt):EvP s' os xs:=by
 induction he with
 |nil=>exact .nil
 |cons h1 _ ih=>exact .cons (h1.agree h (fun t ht=>hs t (by simp[sO,ht]))) (ih (fun t ht=>hs t (by simp[sO,ht])))
theorem aas{g:Nat->Array ajq->Prop}{S:Nat->Nat->Prop}{mm:Nat->Option Nat}{ev:ajp->ajq}{place:Nat->Option (Nat×Nat)}
  {os:List (Nat×ajp)} {xs:List (Nat×AV)} (hp:EvP s os xs) (da:∀o x,Ev s o x->Rep g S mm (ev o) x) :
  ∀(c:Array ajq)(l l':List AV),cW g S mm c.toList l->wW place l xs=some l' ->
   ∃c',Instr.fill place c (os.map fun p=>(p.1,ev p.2))=some c'/\cW g S mm c'.toList l':=by
 induction hp with
 |nil=>intro c l l' h hf;cases hf;exact⟨c,rfl,h⟩
 | @cons i o x os xs h1 _ ih =>
  intro c l l' h hf;unfold wW at hf;split at hf
  ·rename_i off n kU;split at hf
   ·rename_i hc;simp only [ah7,ae0] at hc;obtain ⟨⟨eL,pX⟩,FS⟩:=hc;have eL:=ah5 eL;have hx:=cW.of_value (da o x h1) FS;have ch:(ev o).cells.size = n:=by have:=hx.1; simp at this; omega
    have fI:c.size=l.length:=by have:=h.1;simpa using this
    have Ba:=h.over hx (off:=off) oz;have xp:=Ji (ev o).cells.toList 0 off c (by simp;omega);simp only[ae4]at xp;obtain⟨c',h2,h3⟩:=ih ((((ev o).cells.toList.zipIdx 0).foldl (fun cs p=>cs.setIfInBounds (off+p.2) p.1) c)) _ l' (by rw[xp];exact Ba) hf;refine⟨c',?_,h3⟩;rw[<- h2];simp only[ajd,Instr.fill,kU];rw[ajf (by simp;omega)];congr 1;rw[<- Array.foldl_toList,Array.toList_zipIdx]
   ·cases hf
  ·cases hf
theorem Ri{α β:Type}{w:ajt}(f:α->Sem β)(g:α->β):∀(l:List α),(∀x∈l,(f x).run P w=.ok (g x) w)->(l.mapM f).run P w=.ok (l.map g) w:=by
 intro l
 induction l with
 |nil=>intro _;simp
 |cons x l ih =>
  intro h;simp[List.mapM_cons,h x (by simp),ih (fun y hy=>h y (by simp[hy]))]
theorem SK{d:Nat}{parts:Array (Nat×ajp)}{xs:List (Nat×AV)}{l:List AV}{T t:ajr}{ti:TI}
  (hx:EvP s parts.toList xs) (hT:aq P T=some ti) (hk:ti.k=.struct) (hz:ti.zero.all Value.oneCell'=true) (hp:(ti.fs.all fun p=>aek 0 p.2)=true)
  (hl:wW (fun i=>ti.fs[i]?) (ti.zero.map .v) xs=some l) (hN:aek d N=true) :
  Step P N R s ⟨some d,.build T parts,t,pos,after,none⟩ ⟨some (.agg l),[],sO parts.toList,[]⟩ :=
 cC rfl rfl hN fun s' am C m a w hr=>by
  have hx':=hx.agree am (fun _ h=>h);obtain⟨z,h1,h2⟩:=vK hT w;obtain⟨d2,h3,h4,h5,-⟩:=cR hT w;obtain⟨fs,rfl⟩:=Hv (h4.trans hk);have aZ:cW (Im C.ext s'.hp m w) (Sz w) m z.cells.toList (ti.zero.map .v):=by rw[h2];exact .of_zero _ hz
  obtain⟨c',h6,h7⟩:=aas (place:=fun i=>ti.fs[i]?) hx' (fun o x h=>h.rep hr) z.cells _ l aZ hl
  have hm:(fs.mapM fun f=>(do pure (f.offset,<- sizeOf f.type):Sem (Nat×Nat))).run P w=.ok ti.fs.toArray w:=by
   rw[ahx];simp only[Sem.run_map];rw[Ri _ (fun f=>(f.offset,match P.info? f.type with |some j=>j.size |none=>0))]
   ·simp only[aju,<- h5,sU] <;> rfl
   ·intro f hf
    have:(f.offset,match P.info? f.type with |some j=>j.size |none=>0)∈ti.fs:=by
     rw[<- h5];simp only[sU,af0];exact⟨f,hf,rfl⟩
    have:=aif.1 hp _ this;simp only[ad5]at this;cases hi:P.info? f.type with
    |none=>rw[hi]at this;simp at this
    |some j=>simp[sizeOf,typeInfo,hi]
  refine⟨.agg c',?_,.agg (by simpa using h7.1) h7.2.1 (fun j u x hu hx=>h7.2.2 j u x (by simpa using hu) hx)⟩;have kU:(fun x:Nat=>ti.fs.toArray[x]?)=fun i:Nat=>ti.fs[i]?:=by funext i;simp
  have kV:(parts.map fun p=>(p.1,a.eval p.2)).toList=parts.toList.map fun p=>(p.1,a.eval p.2):=by simp
  have hb:(Instr.build T (parts.map fun p=>(p.1,a.eval p.2))).run P w=.ok (.agg c') w:=by
   simp only[Instr.build,ajv,h1,aju,h3,hm,kU,kV,h6,ajw]
  simp only[execOp,ajv,hb,aju,ajw]
theorem Yx{o:Oper}{d:Nat}{x:AV}{rt rd:List Nat}(hg:o.guard=none)(hd:o.dst=some d)(hN:aek d N=true)
  (h:∀s',gj s s' ⟨some x,[],rt,rd⟩->∀C m a w,RelM C s' m a w ->
   ∃(v:ajq)(c:Array ajq)(t:ajr),(execOp a.eval o).run P w=.ok (.value v) { w with heap:=w.heap.push (.cells c t) } /\
    (∀(g:Nat->Array ajq->Prop)(S:Nat->Nat->Prop),(∀b cs,Im C.ext s'.hp m w b cs->g b cs)->(∀b n,Sz w b n->S b n)->g w.heap.size c->Rep g S m v x)) :
  Step P N R s o ⟨some x,[],rt,rd⟩:=by
 refine⟨fun s' am _ C m a w Q next hC hr hnext=>?_⟩;rw[ajg (nk hg _)];refine vE ?_;obtain⟨v,c,t,h1,h2⟩:=h s' am C m a w hr;rw[ad5]at hN;unfold Oper.wp;rw[h1];simp only[Oper.upon,hd,Act.put];refine hnext m _ _ ?_;have hf:=CN (aO s'.hp m) w (.cells c t);have bg:∀k' y b',lk s'.hp k'=some y->m k'=some b'->aO s'.hp m b'\/w.heap.size<=b':=fun k' y b' h1 h2=>.inl ⟨k',y,h1,h2⟩
 have aQ:RelM C s' m a { w with heap:=w.heap.push (.cells c t) }:=by
  refine hr.update hf (fun t y k' b' _ _ hb'=>hb') bg (fun k' y _ hy=>⟨⟨y,hy⟩,rfl⟩) ⟨?_,hr.heap.inj,?_⟩
  ·intro k y hk;refine BlkRep.mono (eO hf bg) hf.sz (fun _ _ _ h=>h) rfl ?_ (hr.heap.blk k y hk);intro b hb;have:=(hr.heap.sep k y b hk hb).2;show(w.heap.push _)[b]?=_;rw[ahk,ajf oz]
  ·intro k y b hk hb;have:=hr.heap.sep k y b hk hb;refine⟨this.1,?_⟩;have:=this.2;simp;omega
 have:=aQ.put d v (some x) (fun z hz=>by
  cases hz;refine⟨by have:=hr.nt;omega,h2 _ _ (eO hf bg) hf.sz ⟨fun hc=>?_,?_,t,(0,0),?_⟩⟩
  ·have:=hr.ext_lt hc;omega
  ·rintro⟨k,y,hk,hb⟩;have:=(hr.heap.sep k y _ hk hb).2;omega
  ·show(w.heap.push _)[w.heap.size]?=_;simp)
 simpa[AS.app,hd]using this
end Go.Lw
namespace Go.Lw
variable{P:ajs}{N:Nat}{R:Array Oper}{s:AS}{pos:String}{after:Array Edge}
def fx:List AV->List AV
  |[]=>[]
  |e::es=>e.cells++fx es
theorem zj{sz:Nat}:∀(es:List AV),(∀e∈es,e.cells.length=sz)->(fx es).length=es.length*sz
 |[],_=>by simp[fx]
 |e::es,h=>by
  simp only[fx,ai0,aij,h e (by simp),zj es (fun e he=>h e (by simp[he])),aei];omega
theorem D5{sz:Nat}:∀(es:List AV),(∀e∈es,e.cells.length=sz)->∀(i j:Nat)(e x:AV),es[i]?=some e->e.cells[j]?=some x->(fx es)[i*sz+j]?=some x
 |[],_,i,j,e,x,h,_=>by simp at h
 |e0::es,h,0,j,e,x,he,hx=>by
  simp at he;subst he
  have hj:j<e0.cells.length:=by
   rcases aid j e0.cells.length with h |h
   ·exact h
   ·rw[aig h]at hx;cases hx
  simp only[fx,Nat.zero_mul,ae9];rw[ais hj,hx]
 |e0::es,h,i+1,j,e,x,he,hx=>by
  have h0:=h e0 (by simp);simp only[fx,aei];rw[ain oz,h0,show i*sz+sz+j-sz=i*sz+j by omega];exact D5 es (fun e he=>h e (by simp[he])) i j e x (by simpa using he) hx
def kP(n:Nat):List ajp->List (Nat×ajp)
  |[]=>[]
  |o::os=>(n,o)::kP (n+1) os
theorem aao{g:Nat->Array ajq->Prop}{S:Nat->Nat->Prop}{mm:Nat->Option Nat}{ev:ajp->ajq}{sz:Nat}
  (da:∀o x,Ev s o x->Rep g S mm (ev o) x):∀(os:List ajp)(es:List AV),EvL s os es->(es.all fun e=>afe e.cells.length sz&&e.ok)=true ->
   ∀(n:Nat)(c:Array ajq)(A Z:List AV),A.length=n*sz->Z.length=es.length*sz->cW g S mm c.toList (A++Z) ->
    ∃c',Instr.fill (fun i=>some (i*sz,sz)) c ((kP n os).map fun p=>(p.1,ev p.2))=some c'/\cW g S mm c'.toList (A++fx es):=by
 intro os es hl
 induction hl with
 |nil =>
  intro _ n c A Z hA hZ hc;have:Z=[]:=by simpa using hZ
  subst this;exact⟨c,rfl,by simpa[fx]using hc⟩
 | @cons o x os xs h1 _ ih =>
  intro fg n c A Z hA hZ hc;simp only[all_cons,ah7]at fg;obtain⟨⟨rN,jM⟩,fg⟩:=fg;have rN:=ah5 rN;have hx:=cW.of_value (da o x h1) jM;have ch:(ev o).cells.size=sz:=by have:=hx.1;simp at this;omega
  simp only[aij,aei]at hZ;have fI:c.size=A.length+Z.length:=by have:=hc.1;simpa using this
  have Ba:=hc.over hx (off:=n*sz) (by simp;omega)
  have hoe:over (A++Z) (n*sz) x.cells=(A++x.cells)++Z.drop sz:=by
   unfold over;rw[<- hA,List.take_left,rN,List.drop_append,aiy oz,show A.length+sz-A.length=sz by omega,nil_append]
  rw[hoe]at Ba;have xp:=Ji (ev o).cells.toList 0 (n*sz) c (by simp;omega);simp only[ae4]at xp
  obtain⟨c',h2,h3⟩:=ih fg (n+1) ((((ev o).cells.toList.zipIdx 0).foldl (fun cs p=>cs.setIfInBounds (n*sz+p.2) p.1) c)) (A++x.cells) (Z.drop sz)
   (by simp[aei];omega) (by simp;omega) (by rw[xp];exact Ba)
  refine⟨c',?_,by simpa[fx,ajc]using h3⟩;rw[<- h2];simp only[kP,ajd,Instr.fill];rw[ajf (by simp;omega)];congr 1;rw[<- Array.foldl_toList,Array.toList_zipIdx]
theorem Tj{g:Nat->Array ajq->Prop}{S:Nat->Nat->Prop}{m:Nat->Option Nat}(zero:Array ajq)(n:Nat)(hz:zero.toList.all Value.oneCell'=true)(h0:n=0\/zero ≠ #[]) :
  ∃l:List AV,cW g S m ((Array.range n).map (zero[· % zero.size]!)).toList l/\l.length=n:=by
 refine⟨(List.range n).map (fun i=>AV.v (zero[i%zero.size]!)),⟨by simp,?_,?_⟩,by simp⟩
 ·intro j x hx;simp only [aib,ah8] at hx;obtain ⟨i,hi,rfl⟩:=hx;have hn:0 < n:=by have:=ah3 hi; simp at this; omega
  have fY:0<zero.size:=by
   rcases h0 with h |h
   ·omega
   ·rcases ae1 zero.size with h' |h'
    ·exact ajm (Array.size_eq_zero_iff.1 h') h
    ·exact h'
  have hlt:i%zero.size<zero.size:=aeg _ fY;simp only[AV.one];rw[getElem!_pos zero _ hlt];exact aif.1 hz _ (by simp)
 ·intro j u x hu hx;simp only[aib,ah8]at hx;obtain⟨i,hi,rfl⟩:=hx;simp only[Array.toList_map,Array.toList_range,aib,hi,ah1,Option.some.injEq]at hu;subst hu;exact .v _
theorem El{T E:ajr}{ti te:TI}{w:ajt}{n:Nat}{g:Nat->Array ajq->Prop}{S:Nat->Nat->Prop}{mm:Nat->Option Nat}{ev:ajp->ajq}
  (hT:aq P T=some ti) (hk:ti.k=.slice E) (hE:aq P E=some te) (hz:te.zero.all Value.oneCell'=true) (aZ:afe te.zero.length te.size=true)
  (da:∀o x,Ev s o x->Rep g S mm (ev o) x) {os:List ajp} {es:List AV} (hl:EvL s os es) (fg:(es.all fun e=>afe e.cells.length te.size&&e.ok)=true)
  (hn:n=es.length) (hb:n*te.size<=2^24) :
  ∃c:Array ajq,(Instr.buildSlice T n ((kP 0 os).map fun p=>(p.1,ev p.2)).toArray).run P w =
    .ok (.slice (some ⟨w.heap.size,0,none⟩) n n) { w with heap:=w.heap.push (.cells c E) }/\cW g S mm c.toList (fx es):=by
 obtain⟨d2,h3,h4,-,-⟩:=cR hT w;obtain rfl:=gz (h4.trans hk);obtain⟨z,h5,h6⟩:=vK hE w;have aZ:=ah5 aZ;have xq:z.cells.size=te.size:=by rw[<- ahv,h6];exact aZ
 subst hn
 have key:∀zero:Array ajq,zero=(if es.length*te.size=0 then #[]else z.cells)->zero.toList.all Value.oneCell'=true/\(es.length*te.size=0\/zero ≠ #[]):=by
  intro zero h;subst h;split
  ·exact⟨rfl,.inl ‹_›⟩
  ·rename_i h;refine⟨by rw[h6];exact hz,.inr (fun he=>?_)⟩;rw[he]at xq;simp at xq;exact h (by rw[<- xq];omega)
 obtain⟨zero,fB⟩:∃zero:Array ajq,zero=(if es.length*te.size=0 then #[]else z.cells):=⟨_,rfl⟩
 obtain⟨k1,k2⟩:=key zero fB;obtain⟨Z,hZ,hZl⟩:=Tj (g:=g) (S:=S) (m:=mm) zero (es.length*te.size) k1 k2;obtain⟨c',h7,h8⟩:=aao da os es hl fg 0 ((Array.range (es.length*te.size)).map (zero[· % zero.size]!)) [] Z (by simp) hZl (by simpa using hZ);refine⟨c',?_,by simpa using h8⟩;have rO:¬(es.length*te.size>2^24):=by omega
 simp only[Instr.buildSlice,ajv,h3,aju,eR hE];rw[ajf rO]
 by_cases h0:es.length*te.size=0
 ·rw[ajg h0]at fB ⊢;subst fB;simp only[ajv,ajw,aju,h7,newRow,run_newObj]
 ·rw[ajf h0]at fB ⊢;subst fB;simp only[ajv,ajw,aju,h5,h7,newRow,run_newObj]
theorem Z9{g:Nat->Array ajq->Prop}{S:Nat->Nat->Prop}{m:Nat->Option Nat}{b sz:Nat}{c:Array ajq}{es:List AV}(hb:g b c)
  (hc:cW g S cO c.toList (fx es)) (hs:∀e∈es,e.cells.length=sz) (hl:es.length<=az) :
  Rep g S m (.slice (some ⟨b,0,none⟩) es.length es.length) (.lst sz es):=by
 have ch:=zj es hs;have aN:c.size=es.length*sz:=by have:=hc.1;simp at this;omega
 have ff:∀(i j:Nat)(e x:AV),es[i]?=some e->e.cells[j]?=some x->∃u,c[i*sz+j]?=some u/\x.one=true/\Rep g S cO u x:=by
  intro i j e x he hx;have hf:=D5 es hs i j e x he hx
  have hlt:i*sz+j<(fx es).length:=by
   rcases aid (i*sz+j) (fx es).length with h |h
   ·exact h
   ·rw[aig h]at hf;cases hf
  have xr:i*sz+j<c.size:=by omega
  refine⟨c[i*sz+j],ahm xr,hc.2.1 _ x hf,hc.2.2 _ _ x (by simp[xr]) hf⟩
 refine .lst (fun i j=>c.getD (i*sz+j) undef) hb (aie _) hl (fun i e he=>hs e (ah3 he)) ?_ ?_ ?_
 ·intro i j e x he hx;obtain⟨u,_,h,_⟩:=ff i j e x he hx;exact h
 ·intro i j e x he hx;obtain⟨u,h,_,_⟩:=ff i j e x he hx;simp[aic,h]
 ·intro i j e x he hx;obtain⟨u,h,_,h2⟩:=ff i j e x he hx;simpa[aic,h]using h2
theorem CY{es:List AV}{sz:Nat}(h:(es.all fun e=>afe e.cells.length sz&&e.ok)=true):∀e∈es,e.cells.length=sz:=by
 intro e he;have:=aif.1 h e he;simp only[ah7]at this;exact ah5 this.1
theorem yn{es:List AV}(h:AV.nms es=[]):∀e∈es,e.nm=[]:=by
 induction es with
 |nil=>intro e he;cases he
 |cons x es ih =>
  simp only[AV.nms,List.append_eq_nil_iff]at h;intro e he;rcases aiq.1 he with rfl |he
  ·exact h.1
  ·exact ih h.2 e he
theorem US{d n:Nat}{os:List ajp}{es:List AV}{T E t:ajr}{ti te:TI}{parts:Array (Nat×ajp)}
  (hp:parts=(kP 0 os).toArray) (hx:EvL s os es) (hT:aq P T=some ti) (hk:ti.k=.slice E) (hE:aq P E=some te) (hz:te.zero.all Value.oneCell'=true)
  (aZ:afe te.zero.length te.size=true) (fg:(es.all fun e=>afe e.cells.length te.size&&e.ok)=true) (hnm:AV.nms es=[])
  (hn:n=es.length) (hb:Nat.ble (n*te.size) 16777216=true) (hb':Nat.ble n 16777216=true) (hN:aek d N=true) :
  Step P N R s ⟨some d,.buildSlice T n parts,t,pos,after,none⟩ ⟨some (.lst te.size es),[],cA os,[]⟩ :=
 Yx rfl rfl hN fun s' am C m a w hr=>by
  subst hp;rw[ae0]at hb hb';have hx':=hx.agree am (fun _ h=>h);obtain⟨c,h1,h2⟩:=El (w:=w) hT hk hE hz aZ (fun o x h=>h.rep hr) hx' fg hn oz;refine⟨.slice (some ⟨w.heap.size,0,none⟩) n n,c,E,?_,?_⟩
  ·have : ((kP 0 os).toArray.map fun p => (p.1, a.eval p.2)) = ((kP 0 os).map fun p => (p.1, a.eval p.2)).toArray := by simp
   simp only[execOp,ajv,this,h1,aju,ajw]
  ·intro g S hg hS hgb;subst hn
   have FY:∀x∈fx es,x.nm=[]:=by
    have hh:=yn hnm;clear h2 h1 hx' hx fg hb hb' hnm am
    induction es with
    |nil=>intro x hx;cases hx
    |cons e es ih =>
     intro x hx;simp only[fx,aia]at hx;rcases hx with hx |hx
     ·have := hh e (by simp)
      cases e <;> simp only[AV.cells,afr]at hx <;> first
       |(subst hx;exact this)
       |(exact yn this x hx)
     ·exact ih (fun e he=>hh e (by simp[he])) x hx
   have h3:cW g S cO c.toList (fx es):=h2.mono hg hS (fun x hx k b hk _=>by have:=hk.mem;rw[FY x hx]at this;cases this);exact Z9 hgb h3 (CY fg) (by unfold az;omega)
theorem qT{d:Nat}{T E t:ajr}{ti te:TI}
  (hT:aq P T=some ti) (hk:ti.k=.slice E) (hE:aq P E=some te) (hz:te.zero.all Value.oneCell'=true)
  (aZ:afe te.zero.length te.size=true) (hN:aek d N=true) :
  Step P N R s ⟨some d,.buildSlice T 0 #[],t,pos,after,none⟩ ⟨some (.ms d te.size 0 0),[(d,some (.row te.size []))],[],[]⟩ :=
 sP rfl rfl hN (by simp) fun s' am hfr C m a w hr => by
  obtain⟨c,h1,h2⟩:=El (w:=w) (n:=0) hT hk hE hz aZ (fun o x h=>h.rep hr) (.nil:EvL s' [] []) rfl rfl oz;refine⟨.slice (some ⟨w.heap.size,0,none⟩) 0 0,c,E,w.drawn,?_,fun h=>h,?_,fun g S m' hm _=>.ms0 _ _ _ _⟩
  ·have h1':(Instr.buildSlice T 0 #[]).run P w = .ok (.slice (some ⟨w.heap.size, 0, none⟩) 0 0) { w with heap:=w.heap.push (.cells c E) }:=h1;have:((#[]:Array (Nat × ajp)).map fun (i,x)=>(i,a.eval x)) = #[]:=by simp
   simp only[execOp,ajv,this,h1',aju,ajw]
  ·intro g S m' w' hg hS hm hw;exact .row hw (by simp) (by simp) (by simp) (by simp) (by simp)
theorem f6{d:Nat}{x:ajp}{n:Int}{T E t:ajr}{ti te:TI}(hx:Ev s x (.v (.int .i64 n)))
    (hT:aq P T=some ti) (hk:ti.k=.slice E) (hE:aq P E=some te) (hz:te.zero.all Value.oneCell'=true)
    (aZ:(afe te.zero.length te.size&&aek 0 te.size&&aek 0 te.bytes&&(te.ag||afe te.size 1))=true)
    (h0:0<=n) (hb:n*te.bytes<=281474976710656) (hN:aek d N=true) :
    Step P N R s ⟨some d,.makeSlice T x x,t,pos,after,none⟩
      ⟨some (.ms d te.size 0 n.toNat),[(d,some (.row te.size (afv n.toNat (kc te.ag (te.zero.map .v)))))],ai x,[]⟩ :=
  sP rfl rfl hN (by simp) fun s' am hfr C m a w hr => by
    have dc:=nN hr (hx.agree am (fun _ h=>h));simp only[ah7,ajb,ad5]at aZ;obtain⟨⟨⟨aZ,co⟩,km⟩,hz3⟩:=aZ;have aZ:=ah5 aZ;obtain⟨d2,h3,h4,-,-⟩:=cR hT w;obtain rfl:=gz (h4.trans hk);obtain⟨z,h5,h6⟩:=vK hE w;obtain⟨ie,h7,h8,-⟩:=Iv hE w;have xq:z.cells.size=te.size:=by rw[<- ahv,h6];exact aZ
    have rO:n<=281474976710656:=by
      have:n*1<=n*te.bytes:=Int.mul_le_mul_of_nonneg_left oz h0;omega
    have jN:IntKind.i64.wrap n=n:=IntWalk.i64_in n oz;obtain⟨zero,fB⟩:∃zero:Array ajq,zero=(if n.toNat*te.size=0 then #[]else z.cells):=⟨_,rfl⟩
    refine⟨.slice (some ⟨w.heap.size,0,none⟩) n.toNat n.toNat,(Array.range (n.toNat*te.size)).map (zero[· % zero.size]!),E,w.drawn,?_,fun h=>h,?_,?_⟩
    · have fZ:(Instr.makeSlice T (.int .i64 n) (.int .i64 n)).run P w =
          .ok (.slice (some ⟨w.heap.size,0,none⟩) n.toNat n.toNat) { w with heap:=w.heap.push (.cells ((Array.range (n.toNat*te.size)).map (zero[· % zero.size]!)) E) }:=by
        have hc:¬((n<0\/281474976710656<(ie.bytes:Int)*n)\/n<0):=by
          rw[h8,Int.mul_comm];omega
        simp only[Instr.makeSlice,ajv,h3,aju,asInt,asIntOf,ajw,h7,jN];rw[ajf (by simpa using hc)];simp only[ajv,run_askRoom,aju,eR hE]
        by_cases h0:n.toNat*te.size=0
        · rw[ajg h0]at fB ⊢
          subst fB;simp only[ajv,ajw,aju,newRow,run_newObj]
        · rw[ajf h0]at fB ⊢
          subst fB;simp only[ajv,ajw,aju,h5,newRow,run_newObj]
      simp only[execOp,dc,ajv,fZ,aju,ajw]
    · intro g S m' w' hg hS hm hw
      have fI:(kc te.ag (te.zero.map .v)).cells=te.zero.map .v:=by
        rcases hz3 with h |h
        · rw[h];rfl
        · have h:=ah5 h
          match hq:te.zero with
          |[]=>rw[hq]at aZ;simp at aZ;omega
          |[u] =>
            rw[hq]at hz;simp only[all_cons,List.all_nil,Bool.and_true]at hz;cases te.ag <;> simp[kc,AV.cells]
          |u::u'::r=>rw[hq]at aZ;simp at aZ;omega
      have ff:∀(i j:Nat)(x:AV),i<n.toNat->(te.zero.map AV.v)[j]?=some x->x.one=true/\∀u,((Array.range (n.toNat*te.size)).map (zero[· % zero.size]!))[i*te.size+j]?=some u->x=.v u:=by
        intro i j x hi hx;simp only[aib,ah8]at hx;obtain⟨v,hv,rfl⟩:=hx;refine⟨aif.1 hz v (ah3 hv),?_⟩;intro u hu
        have hj:j<te.size:=by
          rw[<- aZ];rcases aid j te.zero.length with h |h
          · exact h
          · rw[aig h]at hv;cases hv
        have fY:¬n.toNat*te.size=0:=by
          have:=aem (show 0<n.toNat by omega) co;omega
        rw[ajf fY]at fB;subst fB;have a8:=my (sz:=te.size) hi;have hlt:i*te.size+j<n.toNat*te.size:=by omega
        simp only[Array.getElem?_map,Array.getElem?_range,hlt,if_true,ah1,Option.some.injEq]at hu;have xt:(i*te.size+j)%z.cells.size=j:=by rw[xq,aeq,Nat.add_mul_mod_self_right,ae7 hj]
        rw[xt,getElem!_pos z.cells j oz]at hu;rw[<- h6,ahz,ahm oz]at hv;cases hv;rw[hu]
      refine .row hw (by simp) (by unfold az;simp;omega) ?_ ?_ ?_
      · intro i e he
        rw[aix]at he;split at he
        · cases he;rw[fI];simpa using aZ
        · cases he
      · intro i j e x he hx
        rw[aix]at he;split at he
        · rename_i hi;cases he;rw[fI]at hx;exact(ff i j x hi hx).1
        · cases he
      · intro i j e u x he hx hu
        rw[aix]at he;split at he
        · rename_i hi;cases he;rw[fI]at hx
          rw[(ff i j x hi hx).2 u hu];exact .v _
        · cases he
    · intro g S m' hm hS
      have:=Rep.ms (g:=g) (S:=S) (m:=m') (k:=d) (sz:=te.size) (off:=0) (len:=n.toNat) (cap:=n.toNat) hm (aie _) (by simpa using hS);simpa using this
end Go.Lw
namespace Go.Lw
variable{P:ajs}{N:Nat}{R:Array Oper}{s:AS}{pos:String}{after:Array Edge}
theorem RelM.rk{C:Ctx}{m:Nat->Option Nat}{a:Act}{w:ajt}(h:RelM C s m a w){k d:Nat}{y:Blk}(hk:lk s.hp k=some y)(hd:s.Fresh d) :
  RelM C ⟨s.sl,(d,some y)::(k,none)::s.hp⟩ (fun k'=>if k'=d then m k else m k') a w:=by
 have aF:k≠d:=fun e=>by rw[e,hd.1]at hk;cases hk
 have bF:∀k' z,lk ((d,some y)::(k,none)::s.hp) k'=some z->(k'=d/\z=y)\/(k'≠d/\k'≠k/\lk s.hp k'=some z):=by
  intro k' z hz;rw[aA]at hz;split at hz
  ·cases hz;exact .inl ⟨‹_›,rfl⟩
  ·rw[aA]at hz;split at hz
   ·cases hz
   ·exact .inr ⟨‹_›,‹_›,hz⟩
 have hf:=Frame.refl (aO s.hp m) w
 have bg:∀k' z b,lk ((d,some y)::(k,none)::s.hp) k'=some z->(if k'=d then m k else m k')=some b->aO s.hp m b\/w.heap.size<=b:=by
  intro k' z b hz hb;rcases bF k' z hz with⟨h1,h2⟩ |⟨h1,h2,h3⟩
  ·rw[ajg h1]at hb;exact .inl ⟨k,y,hk,hb⟩
  ·rw[ajf h1]at hb;exact .inl ⟨k',z,h3,hb⟩
 have pY:∀z:Blk,¬z.Names d->∀k'' b,z.Names k''->m k''=some b->(if k''=d then m k else m k'')=some b:=by
  intro z hz k'' b hn hb;rw[ajf (fun(e:k''=d)=>hz (e▸hn))];exact hb
 refine h.update hf ?_ bg ?_ ⟨?_,?_,?_⟩
 ·intro t z k' b hz hn hb;have:k'≠d:=fun e=>hd.2.2.1 t z hz (e▸hn)
  rw[ajf this];exact hb
 ·intro k' z od hz;rcases bF k' z hz with⟨h1,h2⟩ |⟨h1,h2,h3⟩
  ·have:=hd.2.1;omega
  ·exact⟨⟨z,h3⟩,by rw[ajf h1]⟩
 ·intro k' z hz;rcases bF k' z hz with⟨h1,h2⟩ |⟨h1,h2,h3⟩
  ·subst h2;rw[ajg h1];exact BlkRep.mono (w:=w) (eO hf bg) hf.sz (pY z (hd.2.2.2 k z hk)) rfl (fun _ _=>rfl) (h.heap.blk k z hk)
  ·rw[ajf h1];exact BlkRep.mono (w:=w) (eO hf bg) hf.sz (pY z (hd.2.2.2 k' z h3)) rfl (fun _ _=>rfl) (h.heap.blk k' z h3)
 ·intro k1 k2 z1 z2 b h1 h2 bh a8;rcases bF k1 z1 h1 with⟨e1,e2⟩ |⟨e1,e2,e3⟩ <;> rcases bF k2 z2 h2 with⟨g1,g2⟩ |⟨g1,g2,g3⟩
  ·rw[e1,g1]
  ·rw[ajg e1]at bh;rw[ajf g1]at a8
   exact ajm (h.heap.inj k k2 y z2 b hk g3 bh a8).symm g2
  ·rw[ajf e1]at bh;rw[ajg g1]at a8
   exact ajm (h.heap.inj k1 k z1 y b e3 hk bh a8) e2
  ·rw[ajf e1]at bh;rw[ajf g1]at a8
   exact h.heap.inj k1 k2 z1 z2 b e3 g3 bh a8
 ·intro k' z b hz hb;rcases bF k' z hz with⟨h1,h2⟩ |⟨h1,h2,h3⟩
  ·rw[ajg h1]at hb;exact h.heap.sep k y b hk hb
  ·rw[ajf h1]at hb;exact h.heap.sep k' z b h3 hb
theorem RelM.fewer{C:Ctx}{m:Nat->Option Nat}{a:Act}{w:ajt}(h:RelM C s m a w){hp':Hp}(hs:∀k z,lk hp' k=some z->lk s.hp k=some z) :
  RelM C ⟨s.sl,hp'⟩ m a w:=by
 have hf:=Frame.refl (aO s.hp m) w;have bg:∀k' z b,lk hp' k'=some z->m k'=some b->aO s.hp m b\/w.heap.size<=b:=fun k' z b hz hb=>.inl ⟨k',z,hs k' z hz,hb⟩
 refine h.update hf (fun _ _ _ _ _ _ hb=>hb) bg (fun k' z _ hz=>⟨⟨z,hs k' z hz⟩,rfl⟩) ⟨?_,?_,?_⟩
 ·intro k' z hz;exact BlkRep.mono (w:=w) (eO hf bg) hf.sz (fun _ _ _ h=>h) rfl (fun _ _=>rfl) (h.heap.blk k' z (hs k' z hz))
 ·intro k1 k2 z1 z2 b h1 h2;exact h.heap.inj k1 k2 z1 z2 b (hs _ _ h1) (hs _ _ h2)
 ·intro k' z b hz hb;exact h.heap.sep k' z b (hs k' z hz) hb
theorem RelM.virt{C:Ctx}{m:Nat->Option Nat}{a:Act}{w:ajt}(h:RelM C s m a w){d:Nat}(sz:Nat)(hd:s.Fresh d) :
  RelM C ⟨s.sl,(d,some (.row sz []))::s.hp⟩ (fun k'=>if k'=d then none else m k') a w:=by
 have bF:∀k' z,lk ((d,some (.row sz []))::s.hp) k'=some z->(k'=d/\z=.row sz [])\/(k'≠d/\lk s.hp k'=some z):=by
  intro k' z hz;rw[aA]at hz;split at hz
  ·cases hz;exact .inl ⟨‹_›,rfl⟩
  ·exact .inr ⟨‹_›,hz⟩
 have hf:=Frame.refl (aO s.hp m) w
 have bg:∀k' z b,lk ((d,some (.row sz []))::s.hp) k'=some z->(if k'=d then none else m k')=some b->aO s.hp m b\/w.heap.size<=b:=by
  intro k' z b hz hb;rcases bF k' z hz with⟨h1,h2⟩ |⟨h1,h3⟩
  ·rw[ajg h1]at hb;cases hb
  ·rw[ajf h1]at hb;exact .inl ⟨k',z,h3,hb⟩
 refine h.update hf ?_ bg ?_ ⟨?_,?_,?_⟩
 ·intro t z k' b hz hn hb;rw[ajf (fun(e:k'=d)=>hd.2.2.1 t z hz (e▸hn))];exact hb
 ·intro k' z od hz;rcases bF k' z hz with⟨h1,h2⟩ |⟨h1,h3⟩
  ·have:=hd.2.1;omega
  ·exact⟨⟨z,h3⟩,by rw[ajf h1]⟩
 ·intro k' z hz;rcases bF k' z hz with⟨h1,h2⟩ |⟨h1,h3⟩
  ·subst h2;rw[ajg h1];exact .none sz
  ·rw[ajf h1];exact BlkRep.mono (w:=w) (eO hf bg) hf.sz (fun k'' b hn hb=>by rw[ajf (fun(e:k''=d)=>hd.2.2.2 k' z h3 (e▸hn))];exact hb) rfl (fun _ _=>rfl) (h.heap.blk k' z h3)
 ·intro k1 k2 z1 z2 b h1 h2 bh a8;rcases bF k1 z1 h1 with⟨e1,_⟩ |⟨e1,e3⟩ <;> rcases bF k2 z2 h2 with⟨g1,_⟩ |⟨g1,g3⟩
  ·rw[e1,g1]
  ·rw[ajg e1]at bh;cases bh
  ·rw[ajg g1]at a8;cases a8
  ·rw[ajf e1]at bh;rw[ajf g1]at a8
   exact h.heap.inj k1 k2 z1 z2 b e3 g3 bh a8
 ·intro k' z b hz hb;rcases bF k' z hz with⟨h1,_⟩ |⟨h1,h3⟩
  ·rw[ajg h1]at hb;cases hb
  ·rw[ajf h1]at hb;exact h.heap.sep k' z b h3 hb
theorem DW{C:Ctx}{m:Nat->Option Nat}{w:ajt}{hp:Hp}{v:ajq}{sz:Nat}{xs:List AV}(h:Rep (Im C.ext hp m w) (Sz w) m v (.lst sz xs))(aN:0<sz) :
  (xs=[]/\∃a cap,v=.slice a 0 cap)\/∃b off cap cs,v=.slice (some ⟨b,off,none⟩) xs.length cap/\0<xs.length/\Im C.ext hp m w b cs/\off+xs.length*sz<=cs.size /\
   xs.length<=az/\(∀(i:Nat)(e:AV),xs[i]?=some e->e.cells.length=sz)/\(∀(i j:Nat)(e c:AV),xs[i]?=some e->e.cells[j]?=some c->c.one=true) /\
   ∀(i j:Nat)(e c:AV)(u:ajq),xs[i]?=some e->e.cells[j]?=some c->cs[off+i*sz+j]?=some u->Rep (Im C.ext hp m w) (Sz w) cO u c:=by
 cases h with
 |lst0 a cap=>exact .inl ⟨rfl,a,cap,rfl⟩
 | @lst _ b off cap _ _ cs u hb hc hl hs h1 hu hr =>
  rcases ae1 xs.length with h0 |h0
  ·have:xs=[]:=af2 h0;subst this;exact .inl ⟨rfl,_,_,rfl⟩
  refine .inr ⟨b,off,cap,cs,rfl,h0,hb,?_,hl,hs,h1,?_⟩
  ·have he:xs[xs.length - 1]? = some (xs[xs.length - 1]'oz):=ah9 oz;have lW:=hs _ _ he;have hc':=hu (xs.length - 1) (sz - 1) _ _ he (ah9 (show sz - 1 < _ by omega))
   have hlt:off+(xs.length-1)*sz+(sz-1)<cs.size:=by
    rcases aid (off+(xs.length-1)*sz+(sz-1)) cs.size with h |h
    ·exact h
    ·rw[ahp h]at hc';cases hc'
   have:xs.length*sz=(xs.length-1)*sz+sz:=by
    rw[<- aei];congr 1;omega
   omega
  ·intro i j e c v he hc hv;have:=hu i j e c he hc;rw[this]at hv;cases hv
   exact hr i j e c he hc
theorem NX{g:Nat->Array ajq->Prop}{S:Nat->Nat->Prop}{m:Nat->Option Nat}{w':ajt}{b sz off:Nat}{es xs:List AV}{c cs aw:Array ajq}{t:ajr}
  (hw:w'.heap[b]?=some (.cells aw t (0,0))) (hn:(es.length+xs.length)*sz<=aw.size) (hl:es.length+xs.length<=az)
  (hs:∀(i:Nat)(e:AV),es[i]?=some e->e.cells.length=sz) (h1:∀(i j:Nat)(e x:AV),es[i]?=some e->e.cells[j]?=some x->x.one=true)
  (hr:∀(i j:Nat)(e:AV)(u:ajq)(x:AV),es[i]?=some e->e.cells[j]?=some x->c[i*sz+j]?=some u->Rep g S cO u x)
  (hs':∀(i:Nat)(e:AV),xs[i]?=some e->e.cells.length=sz) (h1':∀(i j:Nat)(e x:AV),xs[i]?=some e->e.cells[j]?=some x->x.one=true)
  (hr':∀(i j:Nat)(e:AV)(x:AV)(u:ajq),xs[i]?=some e->e.cells[j]?=some x->cs[off+i*sz+j]?=some u->Rep g S cO u x)
  (ho:∀p,p<es.length*sz->aw[p]?=c[p]?) (hn':∀p,p<xs.length*sz->aw[es.length*sz+p]?=cs[off+p]?) :
  BlkRep g S m w' (some b) (.row sz (es++xs)):=by
 have split:∀(i:Nat)(e:AV),(es++xs)[i]?=some e->es[i]?=some e\/(es.length<=i/\xs[i-es.length]?=some e):=by
  intro i e he;rcases aid i es.length with h |h
  ·rw[ais h]at he;exact .inl he
  ·rw[ain h]at he;exact .inr ⟨h,he⟩
 have lt_of:∀{l:List AV}{i:Nat}{e:AV},l[i]?=some e->i<l.length:=by
  intro l i e h;rcases aid i l.length with h' |h'
  ·exact h'
  ·rw[aig h']at h;cases h
 refine .row hw (by simpa using hn) (by simpa using hl) ?_ ?_ ?_
 ·intro i e he;rcases split i e he with h |⟨_,h⟩
  ·exact hs i e h
  ·exact hs' _ e h
 ·intro i j e x he hx;rcases split i e he with h |⟨_,h⟩
  ·exact h1 i j e x h hx
  ·exact h1' _ j e x h hx
 ·intro i j e u x he hx hu;rcases split i e he with h |⟨hge,h⟩
  ·have hi:=lt_of h;have hj:=lt_of hx;rw[hs i e h]at hj;have:=my (sz:=sz) hi;rw[ho _ oz]at hu;exact hr i j e u x h hx hu
  ·have hi:=lt_of h;have hj:=lt_of hx;rw[hs' _ e h]at hj;have:=my (sz:=sz) hi
   have e1:i*sz+j=es.length*sz+((i-es.length)*sz+j):=by
    rw[<- aeo,<- aez];congr 2;omega
   rw[e1,hn' _ oz,<- aeo]at hu;exact hr' _ j e x u h hx hu
theorem vS{o:Oper}{u:Out}(hg:o.guard=none)
  (h:∀s',gj s s' u->jz s' u->∀C m a w (next:Act->ajt->Prop),C.nt=N->RelM C s' m a w->(∀m' a' w',RelM C (s'.app o.dst u) m' a' w'->next a' w') ->
   o.upon P a next (fun _ _ _=>False) ((execOp a.eval o).run P w)):Step P N R s o u:=by
 refine⟨fun s' am bm C m a w Q next hC hr hnext=>?_⟩;rw[ajg (nk hg _)];refine vE ?_;have:=h s' am bm C m a w next hC hr hnext;unfold Oper.wp;generalize(execOp a.eval o).run P w=r at *;cases r with
 |ok n w' =>
  cases n <;> simp only[Oper.upon]at this ⊢ <;> first
   |exact this
   |exact this.mono (fun e w'' he=>by cases e <;> first |exact he |exact he.elim |(obtain⟨_,_,h⟩:=he;exact h.elim))
 |halt x w'=>cases x <;> simp only[Oper.upon]at this
end Go.Lw
namespace Go.Lw
variable{P:ajs}{N:Nat}{R:Array Oper}{s:AS}{pos:String}{after:Array Edge}
theorem sa{ρ:ajp->ajq}{d:Option Tmp}{x y:ajp}{T t:ajr}{w w':ajt}{v:ajq}
  (h:(Builtin.append_ #[T,T] t #[ρ x,ρ y]).run P w=.ok v w') :
  (execOp ρ ⟨d,.call ⟨.builtin .append,#[x,y],#[T,T]⟩,t,pos,after,none⟩).run P w=.ok (.value v) w':=by
 simp[execOp,resolve,invoke,builtin,h]
theorem HS{T t E:ajr}{ti te:TI}{w:ajt}{base a:Option Addr}{len cap cap':Nat}(hT:aq P T=some ti)(hk:ti.k=.slice E)(hE:aq P E=some te)
  (bB:len<=cap):(Builtin.append_ #[T,T] t #[.slice base len cap,.slice a 0 cap']).run P w=.ok (.slice base len cap) w:=by
 obtain⟨d2,h3,h4,-,hu⟩:=cR hT w;obtain rfl:=gz (h4.trans hk)
 have iR:(Builtin.firstCells te.size 0 (.slice a 0 cap')).run P w=.ok #[] w:=by
  cases a with
  |none=>exact run_firstCells_none w _ _ _ _
  |some a=>exact run_firstCells_some w _ _ a _ _ [] (by simp) (by simp)
 cases base with
 |none=>simp[Builtin.append_,h3,eR hE,Builtin.lenOf,bB,iR]
 |some b=>simp[Builtin.append_,h3,eR hE,Builtin.lenOf,bB,iR,storeCells]
theorem WS{T t E:ajr}{ti te:TI}{w:ajt}{b len n cap cap':Nat}{a:Addr}{c:Array ajq}{t2:ajr}(hT:aq P T=some ti)(hk:ti.k=.slice E)(hE:aq P E=some te)
  (hw:w.heap[b]?=some (.cells c t2 (0,0))) (news:List ajq) (cK:news.length=n*te.size) (mW:∀(j:Nat) v,news[j]?=some v->w.cell? (a.add j)=some v)
  (iS:∀u∈news,u.oneCell'=true) (xu:len+n<=cap) (adw:len*te.size+n*te.size<=c.size) :
  (Builtin.append_ #[T,T] t #[.slice (some ⟨b,0,none⟩) len cap,.slice (some a) n cap']).run P w =
   .ok (.slice (some ⟨b,0,none⟩) (len+n) cap) { w with heap:=w.heap.setIfInBounds b (.cells (over c.toList (len*te.size) news).toArray t2 (0,0)) }:=by
 obtain⟨d2,h3,h4,-,hu⟩:=cR hT w;obtain rfl:=gz (h4.trans hk);have iR:=run_firstCells_some (P:=P) w te.size n a n cap' _ cK mW;have cg:=zC (P:=P) news c w (len*te.size) 0 hw (by rw[cK];omega) iS;simp only[ae4]at cg;simp[Builtin.append_,h3,eR hE,Builtin.lenOf,xu,iR,iX,cg]
theorem UX{C:Ctx}{m:Nat->Option Nat}{a:Act}{w:ajt}(hr:RelM C s m a w){b n:Nat}{c:Array ajq}{t:ajr}(hw:w.heap[b]?=some (.cells c t (0,0)))
  (h:Sz w b n):n<=c.size:=by
 obtain⟨c',t',f',h1,h2⟩:=h;rw[hw]at h1;cases h1;exact h2
theorem Fresh.row{d k:Nat}{z:Blk}(h:s.Fresh d)(aF:d≠k)(hz:¬z.Names d):AS.Fresh ⟨s.sl,(k,some z)::s.hp⟩ d:=by
 refine⟨?_,h.2.1,h.2.2.1,?_⟩
 ·simp only[aA,ajf aF];exact h.1
 ·intro k' x hx;simp only[aA]at hx;split at hx
  ·cases hx;exact hz
  ·exact h.2.2.2 k' x hx
theorem yd{C:Ctx}{m:Nat->Option Nat}{a:Act}{w:ajt}{d k sz n:Nat}{y:Blk}{v:ajq}{rt rd:List Nat}{next:Act->ajt->Prop}
  (hr:RelM C ⟨s.sl,(d,some y)::(k,none)::s.hp⟩ m a w) (hd:d<C.nt)
  (hv:Rep (Im C.ext ((d,some y)::(k,none)::s.hp) m w) (Sz w) m v (.ms d sz 0 n))
  (hnext:∀m' a' w',RelM C (s.app (some d) ⟨some (.ms d sz 0 n),[(d,some y),(k,none)],rt,rd⟩) m' a' w'->next a' w'):next (a.put (some d) v) w:=by
 refine hnext m _ _ ?_;have:=hr.put d v (some (.ms d sz 0 n)) (fun z hz=>by cases hz;exact⟨aip hd hr.nt,hv⟩);simpa[AS.app,Act.put]using this
theorem Xf{C:Ctx}{m:Nat->Option Nat}{a:Act}{w:ajt}{d k sz:Nat}{es xs:List AV}{E:ajr}{aw:Array ajq}{cap:Nat}{rt rd:List Nat}{next:Act->ajt->Prop}
  (hr:RelM C s m a w) (hfr:s.Fresh d) (hd:d<C.nt)
  (mU:∀(g:Nat->Array ajq->Prop)(S:Nat->Nat->Prop)(m':Nat->Option Nat)(w':ajt),
   (∀b cs,Im C.ext s.hp m w b cs->g b cs)->(∀b n,Sz w b n->S b n)->w'.heap[w.heap.size]?=some (.cells aw E (0,0))->BlkRep g S m' w' (some w.heap.size) (.row sz (es++xs)))
  (xw:es.length+xs.length<=cap) (aN:cap*sz<=aw.size)
  (hnext:∀m' a' w',RelM C (s.app (some d) ⟨some (.ms d sz 0 (es.length+xs.length)),[(d,some (.row sz (es++xs))),(k,none)],rt,rd⟩) m' a' w'->next a' w') :
  next (a.put (some d) (.slice (some ⟨w.heap.size,0,none⟩) (es.length+xs.length) cap)) (w.drew.alloc (.cells aw E)):=by
 have h1:=hr.drawn (w.drawn+1);have h2:=h1.alloc hfr (.cells aw E) (.row sz (es++xs)) (fun h=>h) (fun g S m' w' hg hS _ hw=>mU g S m' w' hg hS hw)
 have h3:=h2.fewer (hp':=(d,some (.row sz (es++xs)))::(k,none)::s.hp) (by
  intro k' z hz;simp only[aA]at hz ⊢;split at hz
  ·rename_i h;rw[ajg h];exact hz
  ·rename_i h;rw[ajf h]
   split at hz
   ·cases hz
   ·exact hz)
 refine yd h3 hd ?_ hnext
 have:=Rep.ms (g:=Im C.ext ((d,some (.row sz (es++xs)))::(k,none)::s.hp) (fun k'=>if k'=d then some w.heap.size else m k') (w.drew.alloc (.cells aw E)))
  (S:=Sz (w.drew.alloc (.cells aw E))) (m:=fun k'=>if k'=d then some w.heap.size else m k') (k:=d) (sz:=sz) (off:=0) (len:=es.length+xs.length) (cap:=cap)
  (ajg rfl) xw ⟨aw,E,(0,0),by show(w.heap.push _)[w.heap.size]?=_;simp,by simpa using aN⟩
 simpa using this
set_option maxHeartbeats 1000000 in
theorem J0{d k sz len:Nat}{xv:AV}{es xs:List AV}{x y:ajp}{T E t:ajr}{ti te:TI}
  (hx:Ev s x xv) (mV:∀g S m v,Rep g S m v xv->Rep g S m v (.ms k sz 0 len)) (hk:s.blk k=some (.row sz es)) (ch:len=es.length) (hy:Ev s y (.lst sz xs)) (hT:aq P T=some ti) (iy:ti.k=.slice E) (hE:aq P E=some te)
  (aN:te.size=sz) (aZ:(afe te.zero.length te.size&&aek 0 te.size&&aek 0 te.bytes)=true) (hb:(len+xs.length)*te.bytes<=140737488355328) (gQ:afe d k=false)
  (hN:aek d N=true) :
  Step P N R s ⟨some d,.call ⟨.builtin .append,#[x,y],#[T,T]⟩,t,pos,after,none⟩
   ⟨some (.ms d sz 0 (len+xs.length)),[(d,some (.row sz (es++xs))),(k,none)],ai x++ai y,[k]⟩:=by
 refine vS rfl ?_;intro s' am bm C m a w next hC hr hnext;subst aN;subst ch
 simp only[ah7,ad5]at aZ;obtain⟨⟨aZ,co⟩,km⟩:=aZ;have aZ:=ah5 aZ;have gQ:=aes gQ;rw[ad5]at hN;have cp:lk s'.hp k=some (.row te.size es):=(am.2 k (by simp)).trans hk
 have hfr:s'.Fresh d:=by
  rcases bm d (by simp)with h |h
  ·exact ajm (by simpa using h) gQ
  ·exact h
 have hd:d<C.nt:=by omega
 have dk:=mV _ _ _ _ ((hx.agree am (fun _ h=>aia.2 (.inl h))).rep hr);have kT:=(hy.agree am (fun _ h=>aia.2 (.inr h))).rep hr;obtain⟨i,dd,z,hi,hu,hz,rfl⟩:=v9 hE;obtain⟨d2,h3,h4,-,FZ⟩:=cR hT w;obtain rfl:=gz (h4.trans iy);simp only at aZ co km hb cp dk kT hnext ⊢
 have a8:es.length+xs.length<=140737488355328:=by
  have:=aih (es.length+xs.length) (show 1<=i.bytes by omega);omega
 obtain⟨ll,jk⟩:∃ll,ll=es.length:=⟨_,rfl⟩
 rw[<- jk]at dk;rcases DW kT co with⟨rfl,a1,cap1,gk⟩ |⟨b1,off1,cap1,cs,gk,kW,cF,OZ,pZ,iT,gn,aQ⟩
 ·-- nothing
  generalize dc:a.eval x=u at dk;cases dk with
  |ms0 a0 =>
   have fg:es=[]:=af2 oz;have dK:=HS (t:=t) (w:=w) (base:=a0) (a:=a1) (len:=0) (cap:=0) (cap':=cap1) hT iy hE (aie _);have ko:=sa (d:=some d) (x:=x) (y:=y) (pos:=pos) (after:=after) (ρ:=a.eval) (by rw[dc,gk];exact dK);rw[ko];simp only[afj,aiv,ae4]at hnext ⊢;exact yd (hr.rk cp hfr) hd (by rw[show es.length=0 by omega];exact .ms0 _ _ _ _) hnext
  | @ms _ _ _ _ _ cap b hm hc hS =>
   have dK:=HS (t:=t) (w:=w) (base:=some ⟨b,0*i.size,none⟩) (a:=a1) (len:=ll) (cap:=cap) (cap':=cap1) hT iy hE hc;have ko:=sa (d:=some d) (x:=x) (y:=y) (pos:=pos) (after:=after) (ρ:=a.eval) (by rw[dc,gk];exact dK);rw[ko];simp only[afj,aiv,ae4]at hnext ⊢;subst jk;exact yd (hr.rk cp hfr) hd (.ms (by rw[ajg rfl];exact hm) hc hS) hnext
 ·-- something
  obtain⟨O0,O1,t1,f1,jN⟩:=cF;have cK:(cs.extract off1 (off1+xs.length*i.size)).toList.length=xs.length*i.size:=by simp;omega
  have mW:∀(j:Nat) v,(cs.extract off1 (off1+xs.length*i.size)).toList[j]?=some v->w.cell? ((⟨b1,off1,none⟩:Addr).add j)=some v:=by
   intro j v hj;rw[iX,qo jN];rw[ahz,ahy]at hj;split at hj
   ·exact hj
   ·cases hj
  have iS:∀u∈(cs.extract off1 (off1+xs.length*i.size)).toList,u.oneCell'=true:=by
   intro u hu;obtain⟨p,hp,rfl⟩:=afh.1 hu;rw[cK]at hp;have hi':p/i.size<xs.length:=by rw[aex co];exact hp
   have he:=ah9 hi';have lW:=iT _ _ he;have kV:p%i.size<i.size:=aeg _ co;have jM:=ah9 (show p%i.size<(xs[p/i.size]).cells.length by omega);have kQ:p/i.size*i.size+p%i.size=p:=by rw[aey];exact aeh _ _
   have kX:cs[off1+p/i.size*i.size+p%i.size]?=some ((cs.extract off1 (off1+xs.length*i.size)).toList[p]'oz):=by
    rw[aeo,kQ];simp only[Array.getElem_toList,Array.getElem_extract];exact ahm oz
   exact(aQ _ _ _ _ _ he jM kX).one (gn _ _ _ _ he jM)
  have xx:∀(aw:Array ajq)(base:Nat),(∀p,p<xs.length*i.size->aw[base+p]?=(cs.extract off1 (off1+xs.length*i.size)).toList[p]?) ->
    ∀p,p<xs.length*i.size->aw[base+p]?=cs[off1+p]? := by
   intro aw base h p hp;rw[h p hp,ahz,ahy,ajg oz]
  generalize dc:a.eval x=u at dk
  have F3:∀(c:Array ajq)(olds:List ajq)(sCap:Nat),olds.length=es.length*i.size->(∀p,p<es.length*i.size->olds[p]?=c[p]?) ->
    (∀(i':Nat)(e:AV),es[i']?=some e->e.cells.length=i.size)->(∀(i' j:Nat)(e x:AV),es[i']?=some e->e.cells[j]?=some x->x.one=true) ->
    (∀(i' j:Nat)(e:AV)(u:ajq)(x:AV),es[i']?=some e->e.cells[j]?=some x->c[i'*i.size+j]?=some u->Rep (Im C.ext s'.hp m w) (Sz w) cO u x) ->
    next (a.put (some d) (.slice (some ⟨w.heap.size,0,none⟩) (es.length+xs.length) (grownCap w (es.length+xs.length) sCap E)))
     (w.drew.alloc (.cells (olds.toArray++(cs.extract off1 (off1+xs.length*i.size)).toList.toArray++Builtin.zeroCells z.cells (grownCap w (es.length+xs.length) sCap E-(es.length+xs.length))) E)):=by
   intro c olds sCap kZ hoc k8 p4 jl;have F4:z.cells.size=i.size:=by rw[<- ahv];exact aZ
   have ac3:es.length+xs.length<=grownCap w (es.length+xs.length) sCap E:=by simp only[grownCap,Question.cut];omega
   refine Xf (es:=es) (xs:=xs) hr hfr hd ?_ ac3 ?_ hnext
   ·intro g S m' w' hg hS hw'
    refine NX (c := c) (cs := cs) (off := off1) hw' ?_ (by unfold az; omega) k8 p4 (fun i' j e u x he hx hu => (jl i' j e u x he hx hu).mono hg hS (fun _ _ _ h => h)) iT gn
     (fun i' j e x u he hx hu=>(aQ i' j e x u he hx hu).mono hg hS (fun _ _ _ h=>h)) ?_ ?_
    ·simp only[ahs,agl,kZ,cK,aez];omega
    ·intro p hp;rw[ahj (by simp[kZ];omega),ahj (by simp[kZ];omega)];simpa using hoc p hp
    ·refine xx _ _ (fun p hp=>?_);rw[ahj (by simp only[ahs,agl,kZ,cK];omega),ahq (by simp only[agl,kZ];omega)];simp only[agl,kZ,afg];congr 1;omega
   ·simp only[ahs,agl,kZ,cK,size_zeroCells,F4];rw[<- aez,<- aez];exact aik _ oz
  have O2:∀sCap,sCap<es.length+xs.length->Builtin.nextslicecap (es.length+xs.length) sCap*i.bytes<=281474976710656:=fun sCap h=>growslice_fits h hb
  cases dk with
  |ms0 a0 =>
   have fg:es=[]:=af2 oz;subst fg;have hg:=F3 #[] [] 0 (by simp) (by simp) (by simp) (by simp) (by simp);simp only[aiv,ae9]at hg;cases a0 with
   |none =>
    have dK:=run_append_nil w T t E i z FZ hi hz ⟨b1,off1,none⟩ xs.length cap1 _ cK mW kW oz (by simp only[aiv,ae9]at hb;omega);have ko:=sa (P:=P) (d:=some d) (x:=x) (y:=y) (pos:=pos) (after:=after) (ρ:=a.eval) (by rw[dc,gk];exact dK);rw[ko];show next _ _;simpa using hg
   |some a0 =>
    have dK := run_append_grow w T t E i z FZ hi hz a0 0 0 [] (by simp) (by simp) ⟨b1, off1, none⟩ xs.length cap1 _ cK mW oz oz
     (by have:=O2 0 (by simp;omega);simpa using this)
    have ko:=sa (P:=P) (d:=some d) (x:=x) (y:=y) (pos:=pos) (after:=after) (ρ:=a.eval) (by rw[dc,gk];exact dK);rw[ko];show next _ _;simpa using hg
  | @ms _ _ _ _ _ cap b hm hc hS =>
   subst jk;obtain⟨c,t2,hw,hn,hl,k8,p4,jl⟩:=tc hr.heap cp hm;have xw:=UX hr hw hS;simp only[ae9,Nat.zero_mul]at xw dc
   by_cases xu:es.length+xs.length<=cap
   ·have Bb:(es.length + xs.length) * i.size <= c.size:=aiw (aik _ xu) xw;rw [aez] at Bb;have dK:=WS (P:=P) (t:=t) hT iy hE hw _ cK mW iS xu Bb (cap':=cap1) (len:=es.length);have ko:=sa (P:=P) (d:=some d) (x:=x) (y:=y) (pos:=pos) (after:=after) (ρ:=a.eval) (by rw [dc,gk]; exact dK);rw [ko]
    have bp:(over c.toList (es.length*i.size) (cs.extract off1 (off1+xs.length*i.size)).toList).toArray.size=c.size:=by
     simp only[agl];rw[sE _ _ _ (by rw[cK];simp;omega)];simp
    have ek:=hr.write (x':=.row i.size (es++xs)) cp hm hw bp rfl (by
     intro g S hg hS hw'
     refine NX (c := c) (cs := cs) (off := off1) hw' (by rw [bp, aez]; omega) (by unfold az; omega) k8 p4 (fun i' j e u x he hx hu => (jl i' j e u x he hx hu).mono hg hS (fun _ _ _ h => h)) iT gn
      (fun i' j e x u he hx hu=>(aQ i' j e x u he hx hu).mono hg hS (fun _ _ _ h=>h)) ?_ ?_
     ·intro p hp;rw[afg,jC _ _ _ (by rw[cK];simp;omega),ajg hp,ahz]
     ·refine xx _ _ (fun p hp=>?_);rw[afg,jC _ _ _ (by rw[cK];simp;omega),ajf oz,ajg (by rw[cK];omega)];congr 1;omega)
    have p5:=ek.rk (k:=k) (d:=d) (y:=.row i.size (es++xs)) (by simp[aA]) (Fresh.row hfr gQ (fun h=>h))
    have mX:RelM C ⟨s'.sl,(d,some (.row i.size (es++xs)))::(k,none)::s'.hp⟩ (fun k'=>if k'=d then m k else m k') a
      { w with heap:=w.heap.setIfInBounds b (.cells (over c.toList (es.length*i.size) (cs.extract off1 (off1+xs.length*i.size)).toList).toArray t2 (0,0)) }:=by
     refine RelM.congr ?_ ?_ p5
     ·intro t;rfl
     intro k';simp only[AS.blk,aA];split
     ·rfl
     ·split <;> rfl
    refine yd mX hd ?_ hnext
    have:=Rep.ms (g:=Im C.ext ((d,some (.row i.size (es++xs)))::(k,none)::s'.hp) (fun k'=>if k'=d then m k else m k')
      { w with heap:=w.heap.setIfInBounds b (.cells (over c.toList (es.length*i.size) (cs.extract off1 (off1+xs.length*i.size)).toList).toArray t2 (0,0)) })
     (S:=Sz { w with heap:=w.heap.setIfInBounds b (.cells (over c.toList (es.length*i.size) (cs.extract off1 (off1+xs.length*i.size)).toList).toArray t2 (0,0)) })
     (m:=fun k'=>if k'=d then m k else m k') (k:=d) (sz:=i.size) (off:=0) (len:=es.length+xs.length) (cap:=cap) (b:=b)
     (by rw [ajg rfl]; exact hm) xu ⟨_, t2, (0, 0), by
      show(w.heap.setIfInBounds b _)[b]?=_;rw[ahn,ajg rfl,ajg (zH hw)],by rw[bp,ae9];exact xw⟩
    simpa using this
   ·have O3 : (c.extract 0 (es.length * i.size)).toList.length = es.length * i.size := by simp; omega
    have hg:=F3 c (c.extract 0 (es.length*i.size)).toList cap O3 (by
     intro p hp;rw[ahz,ahy,ajg oz,ae9]) k8 p4 jl
    have dK:=run_append_grow w T t E i z FZ hi hz ⟨b,0,none⟩ es.length cap (c.extract 0 (es.length*i.size)).toList O3 (by
     intro j v hj;rw[iX,qo hw];rw[ahz,ahy]at hj;split at hj
     ·simpa using hj
     ·cases hj) ⟨b1,off1,none⟩ xs.length cap1 _ cK mW oz oz (O2 cap oz)
    have ko:=sa (P:=P) (d:=some d) (x:=x) (y:=y) (pos:=pos) (after:=after) (ρ:=a.eval) (by rw[dc,gk];exact dK);rw[ko];exact hg
theorem dX{d k sz len:Nat}{es xs:List AV}{x y:ajp}{T E t:ajr}{ti te:TI}
  (hx:Ev s x (.ms k sz 0 len)) (hk:s.blk k=some (.row sz es)) (ch:len=es.length) (hy:Ev s y (.lst sz xs)) (hT:aq P T=some ti) (iy:ti.k=.slice E) (hE:aq P E=some te)
  (aN:te.size=sz) (aZ:(afe te.zero.length te.size&&aek 0 te.size&&aek 0 te.bytes)=true) (hb:(len+xs.length)*te.bytes<=140737488355328) (gQ:afe d k=false)
  (hN:aek d N=true) :
  Step P N R s ⟨some d,.call ⟨.builtin .append,#[x,y],#[T,T]⟩,t,pos,after,none⟩
   ⟨some (.ms d sz 0 (len+xs.length)),[(d,some (.row sz (es++xs))),(k,none)],ai x++ai y,[k]⟩ :=
 J0 hx (fun _ _ _ _ h=>h) hk ch hy hT iy hE aN aZ hb gQ hN
end Go.Lw
namespace Go.Lw
variable{P:ajs}{N:Nat}{R:Array Oper}{s:AS}{pos:String}{after:Array Edge}
def vX(P:ajs)(f:FuncId):Prop:=∀args w,(callFunc f args).run P w=.ok (.enter f args) w
theorem Wn {f : FuncId} {fn : Func} {c : Code} (hf : P.funcs[f]? = some fn) (hb : fn.body = some c) (hn : (fn.name == "runtime.NumGoroutine") = false) : vX P f := by
 intro args w;have hn' : ¬ fn.name = "runtime.NumGoroutine" := by simpa using hn
 simp[callFunc,hf,hb,hn']
structure Con(P:ajs)(f:FuncId)(args:List AV)(H:Hp)(r:AV)(H':Hp):Prop where
  ok:vX P f
  ret:XZ P f args H r H'
abbrev jF(P:ajs)(f:FuncId)(args:List AV)(r:AV):Prop:=Con P f args [] r []
theorem IB{ρ:ajp->ajq}{o:Oper}{f:FuncId}{args:Array ajp}{ts:Array ajr}{w:ajt}{vs:Array ajq}(ho:o.op=.call ⟨.value (.func f),args,ts⟩)
  (hρ:ρ (.func f)=.func (.func f) #[] #[]) (bc:vX P f) (cM:args.map ρ=vs):(execOp ρ o).run P w=.ok (.enter f vs) w:=by
 subst cM;have:=bc (args.map ρ) w;obtain⟨dst,op,type,pos,after,guard⟩:=o;subst ho;simp[execOp,resolve,hρ,Deferred.ofValue,invoke,this]
theorem LH{ρ:ajp->ajq}{o:Oper}{g:ajp}{f:FuncId}{caps:Array ajq}{args:Array ajp}{ts:Array ajr}{w:ajt}{vs:Array ajq}(ho:o.op=.call ⟨.value g,args,ts⟩)
  (hρ:ρ g=.func (.func f) #[] caps) (bc:vX P f) (cM:args.map ρ++caps=vs):(execOp ρ o).run P w=.ok (.enter f vs) w:=by
 subst cM;have:=bc (args.map ρ++caps) w;obtain⟨dst,op,type,pos,after,guard⟩:=o;subst ho;simp[execOp,resolve,hρ,Deferred.ofValue,invoke,this]
def iF(H:Hp)(k:Nat):Bool:=match lk H k with |some _=>true |none=>false
theorem iQ{H:Hp}{k:Nat}:iF H k=true↔∃z,lk H k=some z:=by
 unfold iF;cases lk H k <;> simp
def vA(r:AV)(H':Hp):Bool :=
  (r.nm.all fun k=>iF H' k)&&H'.all fun p=>match p.2 with |some x=>x.nm.all fun k=>iF H' k |none=>true
def cz(H:Hp):Hp:=H.map fun p=>(p.1,none)
theorem ab0(H:Hp)(k:Nat):lk (cz H) k=none:=by
 induction H with
 |nil=>rfl
 |cons p H ih =>
  obtain⟨k',x⟩:=p;simp only[cz,ajd,aA];split
  ·rfl
  ·exact ih
theorem jW{H:Hp}{k:Nat}{z:Blk}(h:lk H k=some z):k∈H.map (·.1):=af0.2 ⟨_,oQ h,rfl⟩
theorem RelM.called{C:Ctx}{m:Nat->Option Nat}{a:Act}{w:ajt}(hr:RelM C s m a w){run:Array ajq->ajt->(Ending->ajt->Prop)->Prop}(ac4:∀vs w R R',run vs w R->(∀e w',R e w'->R' e w')->run vs w R'){xs:List AV}{H H':Hp}{r:AV}(cG:D7 run xs H r H'){vs:Array ajq}
  (cM:vs.size=xs.length) (dl:∀(j:Nat) v x,vs[j]?=some v->xs[j]?=some x->Rep (Im C.ext s.hp m w) (Sz w) m v x)
  (hH:∀k z,lk H k=some z->lk s.hp k=some z) (bm:∀k z,lk H' k=some z->(∃y,lk H k=some y)\/s.Fresh k)
  (hHk:∀k∈H.map (·.1),iF H k=true) (hnm:vA r H'=true) :
  run vs w fun e w'=>∃v m'',e=.returned v/\RelM C ⟨s.sl,H'++cz H++s.hp⟩ m'' a w'/\Rep (Im C.ext (H'++cz H++s.hp) m'' w') (Sz w') m'' v r /\
   ∀k y z,lk H k=some y->lk H' k=some z->m'' k=m k:=by
 simp only[vA,ah7,aif]at hnm;obtain⟨ac5,ac6⟩:=hnm
 let ext':Nat->Prop:=fun b=>C.ext b\/∃k z,lk s.hp k=some z/\lk H k=none/\m k=some b
 have cZ:∀b,aO H m b->aO s.hp m b:=fun b ⟨k,z,h1,h2⟩=>⟨k,z,hH k z h1,h2⟩
 have cF:∀b cs,Im C.ext s.hp m w b cs->Im ext' H m w b cs:=by
  rintro b cs ⟨h1,h2,h3⟩;refine⟨?_,fun h=>h2 (cZ b h),h3⟩;rintro(h |⟨k,z,hk,_,hb⟩)
  ·exact h1 h
  ·exact h2 ⟨k,z,hk,hb⟩
 have bX:HeapRel ext' H m w:=by
  refine⟨?_,?_,?_⟩
  ·intro k z hk;exact BlkRep.mono (w:=w) cF (fun _ _ h=>h) (fun _ _ _ h=>h) rfl (fun _ _=>rfl) (hr.heap.blk k z (hH k z hk))
  ·intro k k' z z' b h1 h2;exact hr.heap.inj k k' z z' b (hH _ _ h1) (hH _ _ h2)
  ·intro k z b hk hb;have:=hr.heap.sep k z b (hH k z hk) hb;refine⟨?_,this.2⟩;rintro(h |⟨k2,z2,cD,k9,a8⟩)
   ·exact this.1 h
   ·have:=hr.heap.inj k k2 z z2 b (hH k z hk) cD hb a8;subst this;rw[hk]at k9;cases k9
 have F5:∀b,ext' b->b<w.heap.size:=by
  rintro b (h |⟨k,z,hk,_,hb⟩)
  ·exact hr.ext_lt h
  ·exact(hr.heap.sep k z b hk hb).2
 refine ac4 _ _ _ _ (cG ext' m w vs F5 bX cM (fun j v x h1 h2=>(dl j v x h1 h2).mono cF (fun _ _ h=>h) (fun _ _ _ h=>h))) ?_;rintro e w' ⟨v,m',rfl,hf,hh',rP,rQ,aS⟩
 have adx:∀k,k∈(cz H).map (·.1)->iF H k=true:=by
  intro k hk;apply hHk;simpa[cz]using hk
 have bF:∀k z,lk (H'++cz H++s.hp) k=some z->lk H' k=some z\/(iF H' k=false/\lk H k=none/\lk s.hp k=some z):=by
  intro k z hz;rw[ajc,ky]at hz;split at hz
  ·exact .inl hz
  ·rename_i h1
   have ha:iF H' k=false:=by
    cases h:iF H' k with
    |false=>rfl
    |true=>obtain⟨z',hz'⟩:=iQ.1 h;exact ajm (jW hz') h1
   rw[ky]at hz;split at hz
   ·rw[ab0]at hz;cases hz
   ·rename_i h2;refine .inr ⟨ha,?_,hz⟩;cases h:lk H k with
    |none=>rfl
    |some y=>exact ajm (by simpa[cz]using jW h) h2
 let m'':Nat->Option Nat:=fun k=>if iF H' k=true then m' k else m k
 have f0:∀k,iF H' k=true->m'' k=m' k:=fun k h=>ajg h
 have jO:∀k,iF H' k=false->m'' k=m k:=fun k h=>ajf (by simp[h])
 have O4:∀(k:Nat) b,¬s.Fresh k->m k=some b->m'' k=some b:=by
  intro k b hnf hb;cases h:iF H' k with
  |false=>rw[jO k h];exact hb
  |true =>
   rw[f0 k h];obtain⟨z,hz⟩:=iQ.1 h;rcases bm k z hz with⟨y,hy⟩ |hfr
   ·rw[rQ k y z hy hz];exact hb
   ·exact ajm hfr hnf
 have hf':Frame (aO s.hp m) w w':=⟨hf.os,hf.tape,hf.output,hf.size,hf.sz,fun b hb hn=>hf.keep b hb (fun h=>hn (cZ b h))⟩
 have bg:∀k z b,lk (H'++cz H++s.hp) k=some z->m'' k=some b->aO s.hp m b\/w.heap.size<=b:=by
  intro k z b hz hb;rcases bF k z hz with h |⟨h1,h2,h3⟩
  ·rw[f0 k (iQ.2 ⟨z,h⟩)]at hb;rcases rP k z b h hb with h' |h'
   ·exact .inl (cZ b h')
   ·exact .inr h'
  ·rw[jO k h1]at hb;exact .inl ⟨k,z,h3,hb⟩
 have O5:∀b cs,Im ext' H' m' w' b cs->Im C.ext (H'++cz H++s.hp) m'' w' b cs:=by
  rintro b cs ⟨h1,h2,h3⟩;refine⟨fun h=>h1 (.inl h),?_,h3⟩;rintro⟨k,z,hz,hb⟩;rcases bF k z hz with h |⟨g1,g2,g3⟩
  ·rw[f0 k (iQ.2 ⟨z,h⟩)]at hb;exact h2 ⟨k,z,h,hb⟩
  ·rw[jO k g1]at hb;exact h1 (.inr ⟨k,z,g3,g2,hb⟩)
 refine⟨v,m'',rfl,hr.update hf' ?_ bg ?_ ⟨?_,?_,?_⟩,aS.mono O5 (fun _ _ h=>h) ?_,fun k y z hy hz=>by rw[f0 k (iQ.2 ⟨z,hz⟩)];exact rQ k y z hy hz⟩
 ·intro t x k b hx hn hb;exact O4 k b (fun hfr=>hfr.2.2.1 t x hx hn) hb
 ·intro k z od hz;rcases bF k z hz with h |⟨h1,h2,h3⟩
  ·rcases bm k z h with⟨y,hy⟩ |hfr
   ·exact⟨⟨y,hH k y hy⟩,by rw[f0 k (iQ.2 ⟨z,h⟩)];exact rQ k y z hy h⟩
   ·have:=hfr.2.1;omega
  ·exact⟨⟨z,h3⟩,jO k h1⟩
 ·intro k z hz;rcases bF k z hz with h |⟨h1,h2,h3⟩
  ·rw[f0 k (iQ.2 ⟨z,h⟩)];refine BlkRep.mono (w:=w') O5 (fun _ _ h=>h) ?_ rfl (fun _ _=>rfl) (hh'.blk k z h);intro k2 b hn hb;have:=ac6 _ (oQ h);simp only[aif]at this;rw[f0 k2 (this k2 hn.mem)];exact hb
  ·rw[jO k h1];refine BlkRep.mono (w:=w) (eO hf' bg) hf.sz ?_ rfl ?_ (hr.heap.blk k z h3)
   ·intro k2 b hn hb;exact O4 k2 b (fun hfr=>hfr.2.2.2 k z h3 hn) hb
   ·intro b hb;refine hf.keep b (hr.heap.sep k z b h3 hb).2 ?_;rintro⟨k2,z2,cD,a8⟩;have:=hr.heap.inj k k2 z z2 b h3 (hH k2 z2 cD) hb a8;subst this;rw[h2]at cD;cases cD
 ·intro k1 k2 z1 z2 b h1 h2 bh a8;rcases bF k1 z1 h1 with e |⟨e1,e2,e3⟩ <;> rcases bF k2 z2 h2 with g |⟨g1,g2,g3⟩
  ·rw[f0 k1 (iQ.2 ⟨z1,e⟩)]at bh;rw[f0 k2 (iQ.2 ⟨z2,g⟩)]at a8
   exact hh'.inj k1 k2 z1 z2 b e g bh a8
  ·rw[f0 k1 (iQ.2 ⟨z1,e⟩)]at bh;rw[jO k2 g1]at a8
   exact ajm (.inr ⟨k2,z2,g3,g2,a8⟩) (hh'.sep k1 z1 b e bh).1
  ·rw[jO k1 e1]at bh;rw[f0 k2 (iQ.2 ⟨z2,g⟩)]at a8
   exact ajm (.inr ⟨k1,z1,e3,e2,bh⟩) (hh'.sep k2 z2 b g a8).1
  ·rw[jO k1 e1]at bh;rw[jO k2 g1]at a8
   exact hr.heap.inj k1 k2 z1 z2 b e3 g3 bh a8
 ·intro k z b hz hb;rcases bF k z hz with h |⟨h1,h2,h3⟩
  ·rw[f0 k (iQ.2 ⟨z,h⟩)]at hb;have:=hh'.sep k z b h hb;exact⟨fun hc=>this.1 (.inl hc),this.2⟩
  ·rw[jO k h1]at hb;have:=hr.heap.sep k z b h3 hb;exact⟨this.1,aip this.2 hf.size⟩
 ·intro k b hn hb;rw[f0 k (ac5 k hn.mem)];exact hb
end Go.Lw
namespace Go.Lw
variable{P:ajs}{N:Nat}{R:Array Oper}{s:AS}{pos:String}{after:Array Edge}
def fU(s:AS)(H H':Hp)(r:AV):Bool:=(H.all fun p=>iF H p.1)&&vA r H'
theorem wF{o:Oper}{f:FuncId}{xs:List AV}{H H':Hp}{r:AV}{rt:List Nat}{x:Option AV}(hg:o.guard=none)(hd:∀d,o.dst=some d->aek d N=true/\x=some r)
  (cG:Con P f xs H r H') (hH:∀k z,lk H k=some z->s.blk k=some z) (bc:fU s H H' r=true)
  (h:∀s',(∀t∈rt,s'.get t=s.get t)->∀C m a w,RelM C s' m a w->∃vs:Array ajq,(execOp a.eval o).run P w=.ok (.enter f vs) w/\vs.size=xs.length /\
   ∀(j:Nat) v x,vs[j]?=some v->xs[j]?=some x->Rep (Im C.ext s'.hp m w) (Sz w) m v x) :
  Step P N R s o ⟨x,H'++cz H,rt,H.map (·.1)⟩:=by
 refine vS hg ?_;intro s' am bm C m a w next hC hr hnext;simp only[fU,ah7,aif]at bc;obtain⟨rS,xy⟩:=bc;obtain⟨vs,h1,h2,h3⟩:=h s' am.1 C m a w hr;rw[h1]
 have hc := hr.called (run := Calls P f) (fun _ _ _ _ h h' => Calls.mono h h') cG.ret h2 h3 (fun k z hz => by rw [<- hH k z hz]; exact am.2 k (jW hz)) (by
  intro k z hz;rcases bm k (by simp only[ai4,aia];exact .inl (jW hz))with h |h
  ·obtain⟨p,hp,rfl⟩:=af0.1 h;exact .inl (iQ.1 (rS p hp))
  ·exact .inr h) (by
  intro k hk;obtain⟨p,hp,rfl⟩:=af0.1 hk;exact rS p hp) xy
 refine Calls.mono hc ?_;rintro e w' ⟨v,m'',rfl,hr',aS,_⟩;cases F6:o.dst with
 |none =>
  refine hnext m'' _ _ ?_;simpa[AS.app,F6,Act.put]using hr'
 |some d =>
  obtain⟨hN,rfl⟩:=hd d F6;rw[ad5]at hN;refine hnext m'' _ _ ?_;have:=hr'.put d v (some r) (fun z hz=>by cases hz;exact⟨by have:=hr'.nt;omega,aS⟩);simpa[AS.app,F6,Act.put]using this
theorem br{d f:Nat}{args:Array ajp}{ts:Array ajr}{xs:List AV}{H H':Hp}{r:AV}{t:ajr}
  (cG:Con P f xs H r H') (ha:EvL s args.toList xs) (hH:∀k z,lk H k=some z->s.blk k=some z) (bc:fU s H H' r=true) (hN:aek d N=true) :
  Step P N R s ⟨some d,.call ⟨.value (.func f),args,ts⟩,t,pos,after,none⟩ ⟨some r,H'++cz H,cA args.toList,H.map (·.1)⟩ :=
 wF rfl (fun d' h => by cases h; exact ⟨hN, rfl⟩) cG hH bc fun s' am C m a w hr => by
  have ha':=ha.agree (u:=⟨none,[],cA args.toList,[]⟩) ⟨am,fun k hk=>by cases hk⟩ (fun _ h=>h);refine⟨args.map a.eval,IB rfl rfl cG.ok rfl,?_,?_⟩
  ·have:=ha'.length;simpa using this
  ·intro j v x hv hx;exact ha'.rep hr j v x (by simpa using hv) hx
theorem Qx{f:Nat}{args:Array ajp}{ts:Array ajr}{xs:List AV}{H H':Hp}{r:AV}{t:ajr}
  (cG:Con P f xs H r H') (ha:EvL s args.toList xs) (hH:∀k z,lk H k=some z->s.blk k=some z) (bc:fU s H H' r=true) :
  Step P N R s ⟨none,.call ⟨.value (.func f),args,ts⟩,t,pos,after,none⟩ ⟨none,H'++cz H,cA args.toList,H.map (·.1)⟩ :=
 wF rfl (fun d' h => by cases h) cG hH bc fun s' am C m a w hr => by
  have ha':=ha.agree (u:=⟨none,[],cA args.toList,[]⟩) ⟨am,fun k hk=>by cases hk⟩ (fun _ h=>h);refine⟨args.map a.eval,IB rfl rfl cG.ok rfl,?_,?_⟩
  ·have:=ha'.length;simpa using this
  ·intro j v x hv hx;exact ha'.rep hr j v x (by simpa using hv) hx
theorem Se{d f:Nat}{args:Array ajp}{ts:Array ajr}{xs:List AV}{r:AV}{t:ajr}
  (cG:jF P f xs r) (ha:EvL s args.toList xs) (hnm:r.nm=[]) (hN:aek d N=true) :
  Step P N R s ⟨some d,.call ⟨.value (.func f),args,ts⟩,t,pos,after,none⟩ ⟨some r,[],cA args.toList,[]⟩ :=
 br cG ha (fun k z h=>by cases h) (by simp[fU,vA,hnm]) hN
theorem Uk{d f:Nat}{g:ajp}{args:Array ajp}{ts:Array ajr}{xs caps:List AV}{H H':Hp}{r:AV}{t:ajr}
  (hg:Ev s g (.fn f caps)) (cG:Con P f (xs++caps) H r H') (ha:EvL s args.toList xs) (hH:∀k z,lk H k=some z->s.blk k=some z) (bc:fU s H H' r=true) (hN:aek d N=true) :
  Step P N R s ⟨some d,.call ⟨.value g,args,ts⟩,t,pos,after,none⟩ ⟨some r,H'++cz H,ai g++cA args.toList,H.map (·.1)⟩ :=
 wF rfl (fun d' h => by cases h; exact ⟨hN, rfl⟩) cG hH bc fun s' am C m a w hr => by
  have jm:gj s s' ⟨none,[],ai g++cA args.toList,[]⟩:=⟨am,fun k hk=>by cases hk⟩
  have ha':=ha.agree jm (fun _ h=>aia.2 (.inr h));have gS:=(hg.agree jm (fun _ h=>aia.2 (.inl h))).rep hr;generalize hv:a.eval g=u at gS;cases gS with
  | @fn _ _ cvs _ hn aS =>
   have hl:=ha'.length;refine⟨args.map a.eval++cvs,LH rfl hv cG.ok rfl,by simp[hn];simpa using hl,?_⟩;intro j v x hv hx;rcases aid j xs.length with h |h
   ·rw[ais h]at hx;rw[ahj (by simp;simp at hl;omega)]at hv;exact ha'.rep hr j v x (by simpa using hv) hx
   ·rw[ain h]at hx;rw[ahq (by simp;simp at hl;omega)]at hv;refine aS (j-xs.length) v x ?_ hx;rw[<- hv];congr 1;simp at hl ⊢;omega
inductive ResV(P:ajs)(s:AS):ResultVar->AV->Prop
  |tmp {t:Nat} {x:AV} (h:s.get t=some x):ResV P s (.tmp t) x
  |cell {t k:Nat} {cs:List AV} {T:ajr} {ti:TI} (h:s.get t=some (.ptr k 0)) (hk:s.blk k=some (.box cs)) (hT:aq P T=some ti)
      (bB:Nat.ble ti.size cs.length=true) (h1:(ti.ag||afe ti.size 1)=true):ResV P s (.cell t T) (kc ti.ag (cs.take ti.size))
inductive ResL(P:ajs)(s:AS):List ResultVar->List AV->Prop
  |nil:ResL P s [] []
  |cons {r:ResultVar} {x:AV} {rs:List ResultVar} {xs:List AV} (h:ResV P s r x) (hs:ResL P s rs xs):ResL P s (r::rs) (x::xs)
def dD:List AV->AV
  |[x]=>x
  |xs=>.tup xs
def z3(tmps:Array ajq):ResultVar->Sem ajq
  | .tmp t=>pure (tmps.getD t undef)
  | .cell a t=>do loadVar t (<- asAddr (tmps.getD a undef))
theorem ZL(fn:Func)(tmps:Array ajq) :
  results fn tmps=(fn.results.mapM (z3 tmps) >>= fun vs=>pure (if h:vs.size=1 then vs[0]else .tuple vs)):=by
 unfold results;congr 2
theorem ResV.run{x:AV}{r:ResultVar}(h:ResV P s r x){C:Ctx}{m:Nat->Option Nat}{a:Act}{w:ajt}(hr:RelM C s m a w) :
  ∃v,(z3 a.tmps r).run P w=.ok v w/\Rep (Im C.ext s.hp m w) (Sz w) m v x:=by
 cases h with
 |tmp h=>exact⟨_,rfl,(hr.slots _ _ h).2⟩
 | @cell t k cs T ti h hk hT bB h1 =>
  rw[ae0]at bB;have h1:ti.ag=true\/ti.size=1:=by simpa using h1
  obtain⟨b,hm,hv⟩:=tC hr (Ev.tmp h);obtain⟨c,t2,hw,hn,ho,aS⟩:=AU hr.heap hk hm;have hv':a.tmps.getD t undef=.pointer (some ⟨b,0,none⟩):=hv;refine⟨_,by simp only[z3,hv',ajv,asAddr,ajw,aju];exact zn hT hw (by omega:0+ti.size<=c.size) h1,?_⟩;refine ze (c:=c) (off:=0) (n:=ti.size) (by simp;omega) oz h1 ?_ ?_
  ·intro j y hy;rw[ai1]at hy;split at hy
   ·exact ho _ y hy
   ·cases hy
  ·intro j u y hy hu;rw[ai1]at hy;split at hy
   ·exact aS _ u y (by simpa using hu) hy
   ·cases hy
theorem aau{g:Nat->Array ajq->Prop}{S:Nat->Nat->Prop}{m:Nat->Option Nat}:∀(vs:List ajq)(xs:List AV),vs.length=xs.length ->
  (∀(j:Nat) v x,vs[j]?=some v->xs[j]?=some x->Rep g S m v x) ->
  Rep g S m (if h:vs.toArray.size=1 then vs.toArray[0]else .tuple vs.toArray) (dD xs)
 |[],[],_,_=>by simp[dD];exact .tup rfl (by simp)
 |[v],[x],_,h=>by simp[dD];exact h 0 v x rfl rfl
 |v::v'::vs,x::x'::xs,h2,h=>by
  simp[dD];exact .tup (by simpa using h2) (fun j u c hu hc=>h j u c (by simpa using hu) hc)
theorem Wm{fn:Func}{rs:List ResultVar}{xs:List AV}(O6:fn.results=rs.toArray)(h:ResL P s rs xs){C:Ctx}{m:Nat->Option Nat}{a:Act}{w:ajt}(hr:RelM C s m a w) :
  ∃v,(results fn a.tmps).run P w=.ok v w/\Rep (Im C.ext s.hp m w) (Sz w) m v (dD xs):=by
 have key:∃vs:List ajq,(rs.mapM (z3 a.tmps)).run P w=.ok vs w /\
   vs.length=xs.length/\∀(j:Nat) v x,vs[j]?=some v->xs[j]?=some x->Rep (Im C.ext s.hp m w) (Sz w) m v x:=by
  clear O6
  induction h with
  |nil=>exact⟨[],by simp,rfl,by simp⟩
  |cons h1 _ ih =>
   obtain⟨v,h2,h3⟩:=h1.run hr;obtain⟨vs,h4,h5,h6⟩:=ih;refine⟨v::vs,by simp only[List.mapM_cons,ajv,h2,aju,h4,ajw],by simp[h5],?_⟩;intro j v' x hv hx;cases j with
   |zero=>simp at hv hx;subst hv;subst hx;exact h3
   |succ j=>exact h6 j v' x (by simpa using hv) (by simpa using hx)
 obtain⟨vs,h1,h2,h3⟩:=key;refine⟨_,?_,aau vs xs h2 h3⟩;rw[ZL,O6,ahx];simp only[ajv,Sem.run_map,h1,aju,ajw]
def aJ(s:AS)(x:AV)(r:AV)(H':Hp):Prop :=
  ∀ext m w v,HeapRel ext s.hp m w->(∀b,ext b->b<w.heap.size)->Rep (Im ext s.hp m w) (Sz w) m v x ->
    ∃m',HeapRel ext H' m' w/\(∀k z b,lk H' k=some z->m' k=some b->aO s.hp m b)/\(∀k z,1000<=k->lk H' k=some z->(∃y,lk s.hp k=some y)/\m' k=m k) /\
      Rep (Im ext H' m' w) (Sz w) m' v r
def nY(P:ajs)(rs:List ResultVar)(r:AV)(H':Hp):Exit->AS->Prop
  | .normal,s | .ret,s=>∃xs,ResL P s rs xs/\aJ s (dD xs) r H'
  |_,_=>False
def nT:Nat->List AV->bn
  |_,[]=>[]
  |n,x::xs=>(n,some x)::nT (n+1) xs
theorem NM:∀(xs:List AV)(n t:Nat)(x:AV),lk (nT n xs) t=some x->n<=t/\xs[t-n]?=some x
 |[],n,t,x,h=>by simp[nT,lk]at h
 |y::ys,n,t,x,h=>by
  simp only[nT,aA]at h;split at h
  ·cases h;subst_vars;simp
  ·obtain⟨h1,h2⟩:=NM ys (n+1) t x h;refine⟨by omega,?_⟩;rw[show t-n=(t-(n+1))+1 by omega,List.getElem?_cons_succ];exact h2
theorem RelM.unmark{C:Ctx}{m:Nat->Option Nat}{a:Act}{w:ajt}(h:RelM C s m a w){D:Nat}{l:List Deferred}(h1:C.w0.heap.size<=D)(h2:w.heap[D]?=some (.deferred (some [])))
  (hl:un C.w0.heap.size l (w.putObj D (.deferred none))):RelM C s m { a with defers:=l } (w.putObj D (.deferred none)):=by
 have hlt:=h.heap.lt h2;have F7:∀b,b≠D->(w.putObj D (.deferred none)).heap[b]?=w.heap[b]? := fun b hb=>World.putObj_heap_other hb
 have hc:∀(b:Nat)(cs:Array ajq)(t:ajr)(f:Nat×Nat),w.heap[b]?=some (Obj.cells cs t f)->(w.putObj D (.deferred none)).heap[b]?=some (Obj.cells cs t f):=fun b cs t f hb=>by
  rw[F7 b (fun e=>by rw[e,h2]at hb;cases hb)];exact hb
 have cF:∀b cs,Im C.ext s.hp m w b cs->Im C.ext s.hp m (w.putObj D (.deferred none)) b cs:=fun b cs ⟨e1,e2,t,f,e3⟩=>⟨e1,e2,t,f,hc _ _ _ _ e3⟩
 have aN:∀b n,Sz w b n->Sz (w.putObj D (.deferred none)) b n:=fun b n ⟨c,t,f,e1,e2⟩=>⟨c,t,f,hc _ _ _ _ e1,e2⟩
 refine⟨fun t x hx=>⟨(h.slots t x hx).1,(h.slots t x hx).2.mono cF aN (fun _ _ _ h=>h)⟩,⟨?_,h.heap.inj,fun k x b hk hb=>⟨(h.heap.sep k x b hk hb).1,by simpa[World.putObj]using(h.heap.sep k x b hk hb).2⟩⟩,?_,h.new,h.keep,hl,h.nt⟩
 ·intro k x hk;refine BlkRep.mono cF aN (fun _ _ _ h=>h) rfl (fun b hb=>F7 b (fun e=>?_)) (h.heap.blk k x hk);subst e;exact h.heap.cells hk hb h2
 ·refine⟨h.frame.os,h.frame.tape,h.frame.output,by simpa[World.putObj]using h.frame.size,fun b n hs => aN b n (h.frame.sz b n hs),fun b hb hn => ?_⟩;rw[F7 b oz];exact h.frame.keep b hb hn
theorem LE{C:Ctx}{fn:Func}{n:Nat}{R:Ending->ajt->Prop}(hR:∀m a w,a.defers=[]->RelM C s m a w->∃v,(results fn a.tmps).run P w=.ok v w/\R (.returned v) w) :
  ∀(Ds:List Nat)(m:Nat->Option Nat)(a:Act)(w:ajt),a.defers=Ds.map tk->Ds.Nodup->(∀D∈Ds,C.w0.heap.size<=D/\w.heap[D]?=some (.deferred (some [])))->RelM C s m a w ->
   LeavesInM Fence.wide n P fn a.tmps R a.defers .returning w
 |[],m,a,w,ha,hn,hD,h=>by
  have hn:a.defers=[]:=ha;rw[hn];exact hR m a w hn h
 |D::Ds,m,a,w,ha,hn,hD,h=>by
  obtain⟨h1,h2⟩:=hD D (ai2 ..);rw[ha];refine⟨by simp,.inl ⟨D,_,rfl,run_takeDeferred h2,?_⟩⟩;obtain⟨b7,hn'⟩:=List.nodup_cons.1 hn
  have hD':∀D'∈Ds,C.w0.heap.size<=D'/\(w.putObj D (.deferred none)).heap[D']?=some (.deferred (some [])):=fun D' hm=>by
   obtain⟨g1,g2⟩:=hD D' (ait _ hm);have aF:D'≠D:=fun e=>b7 (by rw[<- e];exact hm)
   exact⟨g1,by rw[World.putObj_heap_other aF];exact g2⟩
  exact LE hR Ds m { a with defers:=Ds.map tk } _ rfl hn' hD' (h.unmark h1 h2 ⟨Ds,rfl,hn',hD'⟩)
theorem Iw{f:FuncId}{fn:Func}{c:Code}{rs:List ResultVar}{args:List AV}{H:Hp}{r:AV}{H':Hp}(hf:P.funcs[f]?=some fn)(hb:fn.body=some c)
    (hn : (fn.name == "runtime.NumGoroutine") = false) (hrs : fn.results = rs.toArray) (hN : fn.ntmps = N) (hH : ∀ k z, lk H k = some z -> 1000 <= k)
    (h:kF P N c (nY P rs r H') ⟨nT 0 args,H⟩):Con P f args H r H':=by
  refine⟨Wn hf hb hn,?_⟩;intro ext m w vs hext bX cM dl;refine(callsIn_wide (n:=0)).1 (callsIn_of_wp_marks hf hb trivial ?_ rfl)
  let C:Ctx:=⟨w,ext,aO H m,m,N,hext,none⟩
  have jl:RelM C ⟨nT 0 args,H⟩ m { tmps:=vs++aht (fn.ntmps-vs.size) undef,defers:=[] } w:=by
    refine⟨?_,bX,Frame.refl _ _,fun k x b h1 h2=>.inl ⟨k,x,h1,h2⟩,fun _ _ _ _=>rfl,un.nil _ _,?_⟩
    · intro t x hx
      obtain⟨_,h2⟩:=NM args 0 t x hx;simp only[Nat.sub_zero]at h2
      have ht:t<args.length:=by
        rcases aid t args.length with h |h
        · exact h
        · rw[aig h]at h2;cases h2
      have ht':t<vs.size:=by omega
      refine⟨by simp;omega,?_⟩
      have:(vs++aht (fn.ntmps-vs.size) undef).getD t undef=vs[t]:=by
        rw[aic,ahj ht',ahm ht'];rfl
      simp only[this];exact dl t vs[t] x (ahm ht') h2
    · show N<=_
      simp;omega
  refine wpIn_mono (h C m _ w 0 rfl rfl jl) ?_;rintro e a' w' ⟨s',m',hq,hr⟩
  have uC:∀(xs:List AV),ResL P s' rs xs->aJ s' (dD xs) r H'->LeavesInM Fence.wide 0 P fn a'.tmps (fun e w'=>∃v' m'',e=Ending.returned v'/\Frame (aO H m) w w'/\HeapRel ext H' m'' w' /\
        (∀k x b,lk H' k=some x->m'' k=some b->aO H m b\/w.heap.size<=b)/\(∀k x y,lk H k=some x->lk H' k=some y->m'' k=m k) /\
        Rep (Im ext H' m'' w') (Sz w') m'' v' r) a'.defers .returning w':=by
    intro xs hx jK;obtain⟨Ds,e1,e2,e3⟩:=hr.defers;refine LE (C:=C) (s:=s') (fun m1 a1 w1 _ aQ=>?_) Ds m' a' w' e1 e2 e3 hr;obtain⟨v,h1,h2⟩:=Wm hrs hx aQ;obtain⟨m'',h3,h4,h5,h6⟩:=jK ext m1 w1 v aQ.heap (fun b hb=>aQ.ext_lt hb) h2;refine⟨v,h1,v,m'',rfl,aQ.frame,h3,?_,?_,h6⟩
    · intro k z b hk hb
      obtain⟨k2,z2,cD,a8⟩:=h4 k z b hk hb;exact aQ.new k2 z2 b cD a8
    · intro k z y hk hy
      obtain⟨⟨y',hy'⟩,h8⟩:=h5 k y (hH k z hk) hy;rw[h8];exact aQ.keep k y' (hH k z hk) hy'
  cases e with
  |normal =>
    obtain⟨xs,h1,h2⟩:=hq;exact uC xs h1 h2
  |ret =>
    obtain⟨xs,h1,h2⟩:=hq;exact uC xs h1 h2
  |_=>exact hq.elim
theorem CS{f:FuncId}{fn:Func}{c:Code}{rs:List ResultVar}{args:List AV}{H:Hp}{r:AV}{H':Hp}(hf:P.funcs[f]?=some fn)(hb:fn.body=some c)
  (hn : (fn.name == "runtime.NumGoroutine") = false) (hrs : fn.results = rs.toArray) (hN : fn.ntmps = N) (hH : ∀ k z, lk H k = some z -> 1000 <= k)
  (h:bb P N c (nY P rs r H') ⟨nT 0 args,H⟩):Con P f args H r H':=Iw hf hb hn hrs hN hH h.out
end Go.Lw
