/- VelocityOf: for any linkage,any turns,any assembly and driver the law returns true and leaves its arguments as they were. No other condition. Part 1 of 8: what the later parts need -/
import Derived.Calls
import Derived.Below
import Derived.Laws.Sem
import Derived.Laws.Cells
import Derived.Laws.Append
import Derived.Laws.Rows
import Derived.OrdersIn
import Derived.RangeFuncLeaves
import Derived.RangeFuncRecord
import Derived.Orders
import Derived.IntWalk
import Derived.Laws.AppendOwn
set_option linter.unusedVariables false
open List (cons_append nil_append)
open List renaming mem_of_getElem? → afl, mem_cons_of_mem → agi, mem_append → aft, map_cons → agv, mem_cons → agd, length_cons → af9, mem_cons_self → agt, length_append → agf, length_nil → agj, getD_eq_getElem?_getD → afn, getElem?_append_left → af6, getElem?_eq_none → af0, all_eq_true → afy, getElem?_take → af7, getElem?_drop → agn, getElem?_map → afu, append_assoc → agx, getElem?_append_right → af5, getElem?_eq_getElem → afr, drop_eq_nil_of_le → agb, map_append → agc, mem_range → ac5, mem_map → ac6, foldl_cons → ac8, eq_nil_of_length_eq_zero → ac9, mem_singleton → adc, getElem?_toArray → adg, mem_filter → adh, getElem?_replicate → adq, append_nil → adt, getElem?_cons_succ → ady, size_toArray → ad1, mem_iff_getElem → ad3, replicate → ad7
open Nat renaming eq_of_beq_eq_true → afo, le_refl → afq, lt_of_lt_of_le → af3, lt_or_ge → afv, le_trans → af2, mul_le_mul_right → age, mul_le_mul_left → afw, mul_pos → abt, eq_zero_or_pos → abu, add_assoc → aby, div_lt_iff_lt_mul → ab0, beq → ab3, mod_eq_of_lt → ab4, zero_add → ab5, blt_eq → ab7, mul_comm → acb, add_zero → ach, add_mul → aci, succ_mul → ack, ble_eq → acl, blt → acm, mod_lt → acn, add_comm → acu, ne_of_beq_eq_false → acw, div_add_mod → ac0
open Option renaming map_eq_some_iff → afs, map_some → afi, getD_some → afj
open Bool renaming and_eq_true → afp, or_eq_true → agp, true_and → aet, false_eq_true → aew, not_eq_true' → ae0
open Array renaming getD_eq_getD_getElem? → afx, all_eq_true_iff_forall_mem → ae1, getElem?_toList → ae2, length_toList → ae3, getElem?_eq_getElem → ae4, getElem?_append_right → ae5, getElem?_replicate → ae6, getElem?_append_left → ae7, getElem?_extract → afa, getElem?_push → afb, toList_setIfInBounds → afc, getElem?_setIfInBounds → afd, getElem?_eq_none → afe, size_append → aff, replicate → afg, mapM_eq_mapM_toList → afh
open Go renaming Operand → ag8, Value → ag9, TypeId → aha, Program → ahb, World → ahc
namespace Go.Lw
abbrev pP{a:Type}(k:Nat)(v:a):Nat×Option a:=(k,some v)
theorem agy{c:Prop}{h:Decidable c}(n:¬c){α:Sort _}{t e:α}:ite c t e=e:=if_neg n
theorem agz{c:Prop}{h:Decidable c}(n:c){α:Sort _}{t e:α}:ite c t e=t:=if_pos n
theorem ag0{p:Prop}[Decidable p]:(decide p=true)=p:=decide_eq_true_eq
theorem ag1{p:Prop}[Decidable p](n:decide p=true):p:=of_decide_eq_true n
theorem ag2{p:Prop}[Decidable p](n:decide p=false):¬p:=of_decide_eq_false n
theorem ag3{p:Prop}[Decidable p](n:p):decide p=true:=decide_eq_true n
theorem ag4{p:Prop}[Decidable p](n:¬p):decide p=false:=decide_eq_false n
theorem ag5{a b:Prop}(h:a)(n:¬a):b:=absurd h n
theorem ag6{α β:Sort _}{x y:α}(f:α→β)(h:x=y):f x=f y:=congrArg f h
abbrev ag7{α:Sort _}(i:α:=by infer_instance):α:=i
theorem oz{p:Prop}(h:p:=by omega):p:=h
abbrev LL:=List (List Rat)
inductive AV where
  |v (x:ag9)
  |lst (sz:Nat) (es:List AV)
  |agg (cs:List AV)
  |tup (xs:List AV)
  |iptr (cs:List AV)
  |ms (k sz off len:Nat)
  |ptr (k off:Nat)
  |eptr (k sz i off:Nat)
  |fn (f:FuncId) (caps:List AV)
  |opt (b:Bool) (x:AV)
  |yl (k:Nat)
  |cl (f:FuncId) (pre caps:List AV)
  deriving Inhabited
abbrev nS:AV:=.v (.slice none 0 0)
def AV.cells:AV->List AV
  | .agg cs=>cs
  |x=>[x]
def AV.one:AV->Bool
  | .v x=>x.oneCell'
  | .agg _ | .tup _ | .opt _ _=>false
  |_=>true
abbrev aS:Nat:=281474976710656
abbrev dc:Nat->Option Nat:=fun _=>none
inductive Rep(g:Nat->Array ag9->Prop)(S:Nat->Nat->Prop):(Nat->Option Nat)->ag9->AV->Prop
  |v {m:Nat->Option Nat} (x:ag9):Rep g S m x (.v x)
  |lst0 {m:Nat->Option Nat} (a:Option Addr) (cap sz:Nat):Rep g S m (.slice a 0 cap) (.lst sz [])
  |lst {m:Nat->Option Nat} {b off cap sz:Nat} {es:List AV} {cs:Array ag9} (u:Nat->Nat->ag9)
      (hb:g b cs) (hc:es.length<=cap) (hl:es.length<=aS) (hs:∀(i:Nat)(e:AV),es[i]?=some e->e.cells.length=sz)
      (h1:∀(i j:Nat)(e c:AV),es[i]?=some e->e.cells[j]?=some c->c.one=true)
      (hu:∀(i j:Nat)(e c:AV),es[i]?=some e->e.cells[j]?=some c->cs[off+i*sz+j]?=some (u i j))
      (hr:∀(i j:Nat)(e c:AV),es[i]?=some e->e.cells[j]?=some c->Rep g S dc (u i j) c) :
      Rep g S m (.slice (some ⟨b,off,none⟩) es.length cap) (.lst sz es)
  |agg {m:Nat->Option Nat} {vs:Array ag9} {cs:List AV} (hn:vs.size=cs.length)
      (h1:∀(j:Nat)(c:AV),cs[j]?=some c->c.one=true)
      (hr:∀(j:Nat)(u:ag9)(c:AV),vs[j]?=some u->cs[j]?=some c->Rep g S m u c):Rep g S m (.agg vs) (.agg cs)
  |tup {m:Nat->Option Nat} {vs:Array ag9} {xs:List AV} (hn:vs.size=xs.length)
      (hr:∀(j:Nat)(u:ag9)(c:AV),vs[j]?=some u->xs[j]?=some c->Rep g S m u c):Rep g S m (.tuple vs) (.tup xs)
  |iptr {m:Nat->Option Nat} {b off:Nat} {cs:Array ag9} {xs:List AV} (u:Nat->ag9)
      (hb:g b cs) (h1:∀(j:Nat)(c:AV),xs[j]?=some c->c.one=true)
      (hu:∀(j:Nat)(c:AV),xs[j]?=some c->cs[off+j]?=some (u j))
      (hr:∀(j:Nat)(c:AV),xs[j]?=some c->Rep g S dc (u j) c):Rep g S m (.pointer (some ⟨b,off,none⟩)) (.iptr xs)
  |ms0 {m:Nat->Option Nat} (a:Option Addr) (k sz off:Nat):Rep g S m (.slice a 0 0) (.ms k sz off 0)
  |ms {m:Nat->Option Nat} {k sz off len cap b:Nat} (hm:m k=some b) (hc:len<=cap) (hS:S b ((off+cap)*sz)) :
      Rep g S m (.slice (some ⟨b,off*sz,none⟩) len cap) (.ms k sz off len)
  |ptr {m:Nat->Option Nat} {k off b:Nat} (hm:m k=some b):Rep g S m (.pointer (some ⟨b,off,none⟩)) (.ptr k off)
  |eptr {m:Nat->Option Nat} {k sz i off b:Nat} (hm:m k=some b):Rep g S m (.pointer (some ⟨b,i*sz+off,none⟩)) (.eptr k sz i off)
  |fn {m:Nat->Option Nat} {f:FuncId} {vs:Array ag9} {xs:List AV} (hn:vs.size=xs.length)
      (hr:∀(j:Nat)(u:ag9)(c:AV),vs[j]?=some u->xs[j]?=some c->Rep g S m u c):Rep g S m (.func (.func f) #[] vs) (.fn f xs)
  |opt {m:Nat->Option Nat} {x:ag9} {b:Bool} {y:AV} (h:b=true->Rep g S m x y) (h':b=false->x=undef):Rep g S m x (.opt b y)
  |yl {m:Nat->Option Nat} {k b:Nat} (hm:m k=some b):Rep g S m (.func (.yield b) #[] #[]) (.yl k)
  |cl {m:Nat->Option Nat} {f:FuncId} {vs us:Array ag9} {xs ys:List AV} (hn:vs.size=xs.length)
      (hr:∀(j:Nat)(u:ag9)(c:AV),vs[j]?=some u->xs[j]?=some c->Rep g S dc u c) (hn':us.size=ys.length)
      (hr':∀(j:Nat)(u:ag9)(c:AV),us[j]?=some u->ys[j]?=some c->Rep g S dc u c):Rep g S m (.func (.func f) vs us) (.cl f xs ys)
inductive AV.Names:AV->Nat->Prop
  |ms (k sz off len:Nat):AV.Names (.ms k sz off len) k
  |ptr (k off:Nat):AV.Names (.ptr k off) k
  |eptr (k sz i off:Nat):AV.Names (.eptr k sz i off) k
  |agg {cs:List AV} {c:AV} {k:Nat} (h:c∈cs) (hc:AV.Names c k):AV.Names (.agg cs) k
  |tup {cs:List AV} {c:AV} {k:Nat} (h:c∈cs) (hc:AV.Names c k):AV.Names (.tup cs) k
  |fn {f:FuncId} {cs:List AV} {c:AV} {k:Nat} (h:c∈cs) (hc:AV.Names c k):AV.Names (.fn f cs) k
  |opt {b:Bool} {c:AV} {k:Nat} (hc:AV.Names c k):AV.Names (.opt b c) k
  |yl (k:Nat):AV.Names (.yl k) k
theorem Rep.mono{g g':Nat->Array ag9->Prop}{S S':Nat->Nat->Prop}(hg:∀b cs,g b cs->g' b cs)
  (hS:∀b n,S b n->S' b n) {m:Nat->Option Nat} {v:ag9} {x:AV} (h:Rep g S m v x) :
  ∀{m':Nat->Option Nat},(∀k b,x.Names k->m k=some b->m' k=some b)->Rep g' S' m' v x:=by
 induction h with
 |v x=>intro m' _;exact .v x
 |lst0 a cap sz=>intro m' _;exact .lst0 a cap sz
 |lst u hb hc hl hs h1 hu hr ih =>
  intro m' _;exact .lst u (hg _ _ hb) hc hl hs h1 hu (fun i j e c he hc=>ih i j e c he hc (fun k b _ h=>h))
 |agg hn h1 hr ih =>
  intro m' hm;exact .agg hn h1 (fun j u c hu hc=>ih j u c hu hc (fun k b hk=>hm k b (.agg (afl hc) hk)))
 |tup hn hr ih =>
  intro m' hm;exact .tup hn (fun j u c hu hc=>ih j u c hu hc (fun k b hk=>hm k b (.tup (afl hc) hk)))
 |iptr u hb h1 hu hr ih =>
  intro m' _;exact .iptr u (hg _ _ hb) h1 hu (fun j c hc=>ih j c hc (fun k b _ h=>h))
 |ms0 a k sz off=>intro m' _;exact .ms0 a k sz off
 |ms h hc hs=>intro m' hm;exact .ms (hm _ _ (.ms _ _ _ _) h) hc (hS _ _ hs)
 |ptr h=>intro m' hm;exact .ptr (hm _ _ (.ptr _ _) h)
 |eptr h=>intro m' hm;exact .eptr (hm _ _ (.eptr _ _ _ _) h)
 |fn hn hr ih =>
  intro m' hm;exact .fn hn (fun j u c hu hc=>ih j u c hu hc (fun k b hk=>hm k b (.fn (afl hc) hk)))
 |opt h h' ih=>intro m' hm;exact .opt (fun hb=>ih hb (fun k b hk=>hm k b (.opt hk))) h'
 |yl h=>intro m' hm;exact .yl (hm _ _ (.yl _) h)
 |cl hn hr hn' hr' ih ih' =>
  intro m' hm
  exact .cl hn (fun j u c hu hc=>ih j u c hu hc (fun k b _ h=>h))
   hn' (fun j u c hu hc=>ih' j u c hu hc (fun k b _ h=>h))
theorem Rep.one{g:Nat->Array ag9->Prop}{S:Nat->Nat->Prop}{m:Nat->Option Nat}{v:ag9}{x:AV}
  (h:Rep g S m v x) (h1:x.one=true):v.oneCell'=true:=by
 cases h <;> simp_all[AV.one,Value.oneCell']
theorem Rep.cells{g:Nat->Array ag9->Prop}{S:Nat->Nat->Prop}{m:Nat->Option Nat}{v:ag9}{x:AV}
  (h:Rep g S m v x) (hx:(∃cs,x=.agg cs)\/x.one=true) :
  v.cells.size=x.cells.length/\(∀(j:Nat)(c:AV),x.cells[j]?=some c->c.one=true) /\
   ∀(j:Nat)(u:ag9)(c:AV),v.cells[j]?=some u->x.cells[j]?=some c->Rep g S m u c:=by
 rcases hx with⟨cs,rfl⟩ |hx
 ·cases h with
  |agg hn h1 hr=>exact⟨hn,h1,hr⟩
 ·have hv:=h.one hx;have e1:v.cells=#[v]:=by cases v <;> simp_all[Value.cells,Value.oneCell']
  have e2:x.cells=[x]:=by cases x <;> simp_all[AV.cells,AV.one]
  rw[e1,e2];refine⟨rfl,?_,?_⟩
  ·intro j c hc;rcases j with _ |j <;> simp at hc
   exact hc▸hx
  ·intro j u c hu hc;rcases j with _ |j <;> simp at hc hu
   exact hc▸hu▸h
def lk{α:Type}:List (Nat×Option α)->Nat->Option α
  |[],_=>none
  |(t',x)::l,t=>match ab3 t t' with
    |true=>x
    |false=>lk l t
theorem aD{α:Type}(t t':Nat)(x:Option α)(l:List (Nat×Option α)):lk ((t',x)::l) t=if t=t' then x else lk l t:=by
 show(match ab3 t t' with |true=>x |false=>lk l t)=_;split
 ·rename_i h;rw[agz (afo h)]
 ·rename_i h;rw[agy (acw h)]
theorem nI{α:Type}{l:List (Nat×Option α)}{t:Nat}{x:α}(h:lk l t=some x):(t,some x)∈l:=by
 induction l with
 |nil=>simp[lk]at h
 |cons y l ih =>
  obtain⟨t',y⟩:=y;rw[aD]at h;split at h
  ·subst_vars;simp
  ·exact agi _ (ih h)
structure LpD where
  params:Array Tmp
  assign:Code
  body:Code
  nt:Nat
inductive Blk where
  |box (cs:List AV)
  |row (sz:Nat) (es:List AV)
  |loop (d:LpD) (st:LoopState) (pend:Option Code) (sl:List (Nat×Option AV))
  |vec (vs:List ag9)
  deriving Inhabited
inductive BlkRep(g:Nat->Array ag9->Prop)(S:Nat->Nat->Prop)(m:Nat->Option Nat)(w:ahc):Option Nat->Blk->Prop
  |none (sz:Nat):BlkRep g S m w none (.row sz [])
  |box {b:Nat} {cs:List AV} {c:Array ag9} {t:aha} (hw:w.heap[b]?=some (.cells c t (0,0))) (hn:c.size=cs.length)
      (h1:∀(j:Nat)(x:AV),cs[j]?=some x->x.one=true)
      (hr:∀(j:Nat)(u:ag9)(x:AV),c[j]?=some u->cs[j]?=some x->Rep g S m u x):BlkRep g S m w (some b) (.box cs)
  |row {b sz:Nat} {es:List AV} {c:Array ag9} {t:aha} (hw:w.heap[b]?=some (.cells c t (0,0))) (hn:es.length*sz<=c.size)
      (hl:es.length<=aS)
      (hs:∀(i:Nat)(e:AV),es[i]?=some e->e.cells.length=sz)
      (h1:∀(i j:Nat)(e x:AV),es[i]?=some e->e.cells[j]?=some x->x.one=true)
      (hr:∀(i j:Nat)(e:AV)(u:ag9)(x:AV),es[i]?=some e->e.cells[j]?=some x->c[i*sz+j]?=some u->Rep g S dc u x) :
      BlkRep g S m w (some b) (.row sz es)
  |loop {b:Nat} {r:Loop} {d:LpD} {st:LoopState} {pend:Option Code} {sl:List (Nat×Option AV)} (hw:w.heap[b]?=some (.loop r)) (hst:r.state=st) (hpe:r.pending=pend)
      (hps:r.params=d.params) (has:r.assign=d.assign) (hbo:r.body=d.body) (hnt:d.nt<=r.tmps.size)
      (hr:∀(t:Nat)(x:AV),lk sl t=some x->t<r.tmps.size/\Rep g S m (r.tmps.getD t undef) x):BlkRep g S m w (some b) (.loop d st pend sl)
  |vec {b:Nat} {vs:List ag9} {c:Array ag9} {t:aha} (hw:w.heap[b]?=some (.cells c t (0,0))) (hc:c.toList=vs) (h1:∀v∈vs,v.oneCell'=true):BlkRep g S m w (some b) (.vec vs)
def Blk.Names(k:Nat):Blk->Prop
  | .box cs=>∃c∈cs,c.Names k
  | .row _ _=>False
  | .loop _ _ _ sl=>∃t x,(t,some x)∈sl/\x.Names k
  | .vec _=>False
theorem BlkRep.mono{g g':Nat->Array ag9->Prop}{S S':Nat->Nat->Prop}{m m':Nat->Option Nat}{w w':ahc}{o o':Option Nat}{x:Blk}
  (hg:∀b cs,g b cs->g' b cs) (hS:∀b n,S b n->S' b n) (hm:∀k b,x.Names k->m k=some b->m' k=some b)
  (ho:o'=o) (hw:∀b,o=some b->w'.heap[b]?=w.heap[b]?)
  (h:BlkRep g S m w o x):BlkRep g' S' m' w' o' x:=by
 subst ho;cases h with
 |none sz=>exact .none sz
 |box h hn h1 hr =>
  refine .box ((hw _ rfl).trans h) hn h1 (fun j u x hu hx=>(hr j u x hu hx).mono hg hS (fun k b hk=>hm k b ⟨x,afl hx,hk⟩))
 |row h hn hl hs h1 hr =>
  refine .row ((hw _ rfl).trans h) hn hl hs h1 (fun i j e u x he hx hu=>(hr i j e u x he hx hu).mono hg hS (fun k b _ h=>h))
 |loop h h1 h2 h3 h4 h5 hn hr =>
  refine .loop ((hw _ rfl).trans h) h1 h2 h3 h4 h5 hn (fun t x hx=>⟨(hr t x hx).1,(hr t x hx).2.mono hg hS (fun k b hk=>hm k b ⟨t,x,nI hx,hk⟩)⟩)
 |vec h hc h1=>exact .vec ((hw _ rfl).trans h) hc h1
mutual
def AV.nm:AV->List Nat
  | .ms k _ _ _=>[k]
  | .ptr k _=>[k]
  | .eptr k _ _ _=>[k]
  | .agg cs=>AV.nms cs
  | .tup xs=>AV.nms xs
  | .fn _ xs=>AV.nms xs
  | .opt _ x=>x.nm
  | .yl k=>[k]
  |_=>[]
def AV.nms:List AV->List Nat
  |[]=>[]
  |x::l=>x.nm++AV.nms l
end
theorem AV.mem_nms{l:List AV}{c:AV}{k:Nat}(hc:c∈l)(hk:k∈c.nm):k∈AV.nms l:=by
 induction l with
 |nil=>cases hc
 |cons x l ih =>
  simp only[AV.nms,aft];rcases agd.1 hc with rfl |hc
  ·exact .inl hk
  ·exact .inr (ih hc)
theorem AV.Names.mem{x:AV}{k:Nat}(h:x.Names k):k∈x.nm:=by
 induction h with
 |ms=>simp[AV.nm]
 |ptr=>simp[AV.nm]
 |eptr=>simp[AV.nm]
 |agg h _ ih=>exact AV.mem_nms h ih
 |tup h _ ih=>exact AV.mem_nms h ih
 |fn h _ ih=>exact AV.mem_nms h ih
 |opt _ ih=>exact ih
 |yl=>simp[AV.nm]
def ED(sl:List (Nat×Option AV)):List Nat:=sl.flatMap fun p=>match p.2 with |some x=>x.nm |none=>[]
def Blk.nm:Blk->List Nat
  | .box cs=>AV.nms cs
  | .row _ _=>[]
  | .loop _ _ _ sl=>ED sl
  | .vec _=>[]
theorem Blk.Names.mem{x:Blk}{k:Nat}(h:x.Names k):k∈x.nm:=by
 cases x with
 |box cs=>obtain⟨c,hc,hk⟩:=h;exact AV.mem_nms hc hk.mem
 |row sz es=>exact h.elim
 |vec vs=>exact h.elim
 |loop d st pe sl =>
  obtain⟨t,c,hc,hk⟩:=h;exact List.mem_flatMap.2 ⟨_,hc,hk.mem⟩
abbrev bE:=List (Nat×Option AV)
abbrev Hp:=List (Nat×Option Blk)
theorem ke{α:Type}(u l:List (Nat×Option α))(t:Nat):lk (u++l) t=if t∈u.map (·.1)then lk u t else lk l t:=by
 induction u with
 |nil=>simp
 |cons x u ih =>
  obtain⟨t',x⟩:=x;simp only[cons_append,aD,ih,agv,agd]
  by_cases h:t=t'
  ·simp[h]
  ·rw[agy h]
   by_cases h2:t∈u.map (·.1)
   ·rw[agz h2,agz (.inr h2),agy h]
   ·rw[agy h2,agy (by simp only[h,h2,or_self,not_false_eq_true])]
structure AS where
  sl:bE
  hp:Hp
def AS.get(s:AS)(t:Nat):Option AV:=lk s.sl t
def AS.blk(s:AS)(k:Nat):Option Blk:=lk s.hp k
def aW(hp:Hp)(m:Nat->Option Nat)(b:Nat):Prop:=∃k x,lk hp k=some x/\m k=some b
def Im(ext:Nat->Prop)(hp:Hp)(m:Nat->Option Nat)(w:ahc)(b:Nat)(cs:Array ag9):Prop :=
  ¬ext b/\¬aW hp m b/\∃t f,w.heap[b]?=some (.cells cs t f)
def Sz(w:ahc)(b n:Nat):Prop:=∃c t f,w.heap[b]?=some (.cells c t f)/\n<=c.size
structure HeapRel(ext:Nat->Prop)(hp:Hp)(m:Nat->Option Nat)(w:ahc):Prop where
  blk:∀k x,lk hp k=some x->BlkRep (Im ext hp m w) (Sz w) m w (m k) x
  inj:∀k k' x x' b,lk hp k=some x->lk hp k'=some x'->m k=some b->m k'=some b->k=k'
  sep:∀k x b,lk hp k=some x->m k=some b->¬ext b/\b<w.heap.size
structure Frame(own:Nat->Prop)(w w':ahc):Prop where
  os:w'.os=w.os
  tape:w'.tape=w.tape
  output:w'.output=w.output
  size:w.heap.size<=w'.heap.size
  sz:∀b n,Sz w b n->Sz w' b n
  keep:∀b,b<w.heap.size->¬own b->w'.heap[b]?=w.heap[b]?
theorem Frame.refl(own:Nat->Prop)(w:ahc):Frame own w w:=⟨rfl,rfl,rfl,afq _,fun _ _ h=>h,fun _ _ _=>rfl⟩
def EN(run:Array ag9->ahc->(Ending->ahc->Prop)->Prop)(args:List AV)(H:Hp)(r:AV)(H':Hp):Prop :=
  ∀(ext:Nat->Prop)(m:Nat->Option Nat)(w:ahc)(vs:Array ag9),(∀b,ext b->b<w.heap.size)->HeapRel ext H m w ->
    vs.size=args.length->(∀(j:Nat) v x,vs[j]?=some v->args[j]?=some x->Rep (Im ext H m w) (Sz w) m v x) ->
    run vs w fun e w'=>∃v m',e=.returned v/\Frame (aW H m) w w'/\HeapRel ext H' m' w' /\
      (∀k x b,lk H' k=some x->m' k=some b->aW H m b\/w.heap.size<=b) /\
      (∀k x y,lk H k=some x->lk H' k=some y->m' k=m k) /\
      Rep (Im ext H' m' w') (Sz w') m' v r
def abg(P:ahb)(f:FuncId)(args:List AV)(H:Hp)(r:AV)(H':Hp):Prop:=EN (Calls P f) args H r H'
structure Ctx where
  w0:ahc
  ext:Nat->Prop
  own0:Nat->Prop
  m0:Nat->Option Nat
  nt:Nat
  hext:∀b,ext b->b<w0.heap.size
  ro:Option Nat:=none
def Fw(ro:Option Nat):Fence:={ Fence.wide with round:=ro }
def tc(D:Nat):Deferred:={ target:=.collected D,args:=#[] }
def sL(b0:Nat)(l:List Deferred)(w:ahc):Prop:=∃Ds:List Nat,l=Ds.map tc/\Ds.Nodup/\∀D∈Ds,b0<=D/\w.heap[D]?=some (.deferred (some []))
theorem sL.nil(b0:Nat)(w:ahc):sL b0 [] w:=⟨[],rfl,List.nodup_nil,fun D h=>by cases h⟩
structure RelM(C:Ctx)(s:AS)(m:Nat->Option Nat)(a:Act)(w:ahc):Prop where
  slots:∀t x,s.get t=some x->t<a.tmps.size/\Rep (Im C.ext s.hp m w) (Sz w) m (a.tmps.getD t undef) x
  heap:HeapRel C.ext s.hp m w
  frame:Frame C.own0 C.w0 w
  new:∀k x b,lk s.hp k=some x->m k=some b->C.own0 b\/C.w0.heap.size<=b
  keep:∀k x,1000<=k->lk s.hp k=some x->m k=C.m0 k
  defers:sL C.w0.heap.size a.defers w
  nt:C.nt<=a.tmps.size
def AS.Fresh(s:AS)(k:Nat):Prop :=
  lk s.hp k=none/\k<1000/\(∀t x,s.get t=some x->¬x.Names k)/\(∀k' x,lk s.hp k'=some x->¬x.Names k)
theorem HeapRel.lt{ext:Nat->Prop}{hp:Hp}{m:Nat->Option Nat}{w:ahc}(_:HeapRel ext hp m w){b:Nat}{o:Obj}(h:w.heap[b]?=some o):b<w.heap.size:=(Array.getElem?_eq_some_iff.1 h).1
theorem HeapRel.cells{ext:Nat->Prop}{hp:Hp}{m:Nat->Option Nat}{w:ahc}(h:HeapRel ext hp m w){k b:Nat}{x:Blk}(hk:lk hp k=some x)(hb:m k=some b){o:Option (List Deferred)}(ho:w.heap[b]?=some (.deferred o)):False:=by
 have:=h.blk k x hk;rw[hb]at this;cases this with
 |box hw=>rw[ho]at hw;cases hw
 |row hw=>rw[ho]at hw;cases hw
 |loop hw=>rw[ho]at hw;cases hw
 |vec hw=>rw[ho]at hw;cases hw
theorem RelM.ext_lt{C:Ctx}{s:AS}{m:Nat->Option Nat}{a:Act}{w:ahc}(h:RelM C s m a w){b:Nat}(hb:C.ext b):b<w.heap.size :=
 af3 (C.hext b hb) h.frame.size
theorem RelM.update{C:Ctx}{s:AS}{m:Nat->Option Nat}{a:Act}{w:ahc}(h:RelM C s m a w){w':ahc}{m':Nat->Option Nat}{hp':Hp}
  (hf:Frame (aW s.hp m) w w')
  (hm:∀t x k b,s.get t=some x->x.Names k->m k=some b->m' k=some b)
  (hal:∀k x b,lk hp' k=some x->m' k=some b->aW s.hp m b\/w.heap.size<=b)
  (hkp:∀k x,1000<=k->lk hp' k=some x->(∃y,lk s.hp k=some y)/\m' k=m k)
  (hh:HeapRel C.ext hp' m' w'):RelM C ⟨s.sl,hp'⟩ m' a w':=by
 refine⟨?_,hh,?_,?_,fun k x h1 h2=>by obtain⟨⟨y,hy⟩,h4⟩:=hkp k x h1 h2;exact h4.trans (h.keep k y h1 hy),?_,h.nt⟩
 ·intro t x hx;obtain⟨h1,h2⟩:=h.slots t x hx;refine⟨h1,h2.mono ?_ hf.sz (fun k b hk=>hm t x k b hx hk)⟩;rintro b cs ⟨he,ho,t',f',hb⟩
  have hlt:b<w.heap.size:=by
   rcases afv b w.heap.size with h |h
   ·exact h
   ·simp[afe h]at hb
  refine⟨he,?_,t',f',(hf.keep b hlt ho).trans hb⟩;rintro⟨k,y,hk,hkb⟩;rcases hal k y b hk hkb with h' |h'
  ·exact ho h'
  ·omega
 ·refine⟨hf.os.trans h.frame.os,hf.tape.trans h.frame.tape,hf.output.trans h.frame.output,af2 h.frame.size hf.size,fun b n hs=>hf.sz b n (h.frame.sz b n hs),?_⟩;intro b hb ho;rw[hf.keep b (af3 hb h.frame.size) ?_,h.frame.keep b hb ho];rintro⟨k,x,hk,hkb⟩;rcases h.new k x b hk hkb with h' |h'
  ·exact ho h'
  ·omega
 ·intro k x b hk hkb;rcases hal k x b hk hkb with⟨k2,y,hk2,hkb2⟩ |h'
  ·exact h.new k2 y b hk2 hkb2
  ·exact .inr (af2 h.frame.size h')
 ·obtain⟨Ds,e,hn,hD⟩:=h.defers;refine⟨Ds,e,hn,fun D hm=>?_⟩;obtain⟨h1,h2⟩:=hD D hm;refine⟨h1,(hf.keep D (h.heap.lt h2) ?_).trans h2⟩;rintro⟨k,x,hk,hkb⟩;exact h.heap.cells hk hkb h2
theorem fg{ext:Nat->Prop}{hp hp':Hp}{m m':Nat->Option Nat}{w w':ahc}(hf:Frame (aW hp m) w w')
  (hal:∀k x b,lk hp' k=some x->m' k=some b->aW hp m b\/w.heap.size<=b) :
  ∀b cs,Im ext hp m w b cs->Im ext hp' m' w' b cs:=by
 rintro b cs ⟨he,ho,t',f',hb⟩
 have hlt:b<w.heap.size:=by
  rcases afv b w.heap.size with h |h
  ·exact h
  ·simp[afe h]at hb
 refine⟨he,?_,t',f',(hf.keep b hlt ho).trans hb⟩;rintro⟨k,y,hk,hkb⟩;rcases hal k y b hk hkb with h' |h'
 ·exact ho h'
 ·omega
theorem RelM.put{C:Ctx}{s:AS}{m:Nat->Option Nat}{a:Act}{w:ahc}(h:RelM C s m a w)(d:Nat)(v:ag9)(x:Option AV)
  (hx:∀y,x=some y->d<a.tmps.size/\Rep (Im C.ext s.hp m w) (Sz w) m v y) :
  RelM C ⟨(d,x)::s.sl,s.hp⟩ m { a with tmps:=a.tmps.setIfInBounds d v } w:=by
 refine⟨?_,h.heap,h.frame,h.new,h.keep,h.defers,by simpa using h.nt⟩;intro t y hy;simp only[AS.get,aD]at hy
 by_cases ht:t=d
 ·subst ht;rw[agz rfl]at hy;obtain⟨h1,h2⟩:=hx y hy;refine⟨by simpa using h1,?_⟩;simpa[afx,afd,h1]using h2
 ·rw[agy ht] at hy;obtain⟨h1,h2⟩:=h.slots t y hy;refine ⟨by simpa using h1,?_⟩
  have:(a.tmps.setIfInBounds d v).getD t undef=a.tmps.getD t undef:=by
   simp only[afx,afd];rw[agy oz]
  simpa[this]using h2
theorem Sz.alloc{w:ahc}{o:Obj}{b n:Nat}(h:Sz w b n):Sz { w with heap:=w.heap.push o } b n:=by
 obtain⟨c,t,f,hb,hn⟩:=h;refine⟨c,t,f,?_,hn⟩
 have hlt:b<w.heap.size:=by
  rcases afv b w.heap.size with h |h
  ·exact h
  ·simp[afe h]at hb
 show(w.heap.push o)[b]?=_;rw[afb,agy oz,hb]
theorem Ca(own:Nat->Prop)(w:ahc)(o:Obj):Frame own w { w with heap:=w.heap.push o }:=by
 refine⟨rfl,rfl,rfl,by simp,fun b n h=>h.alloc,?_⟩;intro b hb _;show(w.heap.push o)[b]?=_;rw[afb,agy oz]
theorem UV(own:Nat->Prop)(w:ahc)(n:Nat):Frame own w { w with drawn:=n } :=
 ⟨rfl,rfl,rfl,afq _,fun _ _ h=>h,fun _ _ _=>rfl⟩
theorem Frame.trans{own own':Nat->Prop}{w w' w'':ahc}(h:Frame own w w')(h':Frame own' w' w'')
  (ho:∀b,b<w.heap.size->own' b->own b):Frame own w w'' :=
 ⟨h'.os.trans h.os,h'.tape.trans h.tape,h'.output.trans h.output,af2 h.size h'.size,fun b n hs=>h'.sz b n (h.sz b n hs),
  fun b hb hn=>(h'.keep b (af3 hb h.size) (fun hc=>hn (ho b hb hc))).trans (h.keep b hb hn)⟩
theorem RelM.alloc{C:Ctx}{s:AS}{m:Nat->Option Nat}{a:Act}{w:ahc}(h:RelM C s m a w){k:Nat}(hk:s.Fresh k)(o:Obj)(x:Blk)
  (hx:¬x.Names k) (hxr:∀(g:Nat->Array ag9->Prop)(S:Nat->Nat->Prop)(m':Nat->Option Nat)(w':ahc),
   (∀b cs,Im C.ext s.hp m w b cs->g b cs)->(∀b n,Sz w b n->S b n)->(∀k' b,k'≠k->m k'=some b->m' k'=some b) ->
   w'.heap[w.heap.size]?=some o->BlkRep g S m' w' (some w.heap.size) x) :
  RelM C ⟨s.sl,(k,some x)::s.hp⟩ (fun k'=>if k'=k then some w.heap.size else m k') a { w with heap:=w.heap.push o }:=by
 have hlk:∀k' y,lk ((k,some x)::s.hp) k'=some y->k'≠k->lk s.hp k'=some y:=by
  intro k' y hy hne;rw[aD,agy hne]at hy;exact hy
 have hown:∀k' y b,lk s.hp k'=some y->m k'=some b->b<w.heap.size:=fun k' y b h1 h2=>(h.heap.sep k' y b h1 h2).2
 have hf:=Ca (aW s.hp m) w o
 have hal:∀k' y b,lk ((k,some x)::s.hp) k'=some y->(if k'=k then some w.heap.size else m k')=some b->aW s.hp m b\/w.heap.size<=b:=by
  intro k' y b hy hb
  by_cases hne:k'=k
  ·rw[agz hne]at hb;cases hb;exact .inr (afq _)
  ·rw[agy hne]at hb;exact .inl ⟨k',y,hlk k' y hy hne,hb⟩
 refine h.update hf ?_ hal ?_ ⟨?_,?_,?_⟩
 ·intro t y k' b hy hn hb;have:k'≠k:=fun e=>hk.2.2.1 t y hy (e▸hn)
  rw[agy this];exact hb
 ·intro k' y h1000 hy;have hne:k'≠k:=fun e=>by have:=hk.2.1; omega
  exact⟨⟨y,hlk k' y hy hne⟩,by rw[agy hne]⟩
 ·intro k' y hy
  by_cases hne:k'=k
  ·subst hne;rw[aD,agz rfl]at hy;cases hy;rw[agz rfl];refine hxr _ _ _ _ (fg hf hal) hf.sz (fun k'' b hne hb=>by rw[agy hne];exact hb) ?_;show(w.heap.push o)[w.heap.size]?=_;simp
  ·have hy':=hlk k' y hy hne;rw[agy hne];refine BlkRep.mono (fg hf hal) hf.sz ?_ rfl ?_ (h.heap.blk k' y hy')
   ·intro k'' b hn hb;have:k''≠k:=fun e=>hk.2.2.2 k' y hy' (e▸hn)
    rw[agy this];exact hb
   ·intro b hb;have:=hown k' y b hy' hb;show(w.heap.push o)[b]?=_;rw[afb,agy oz]
 ·intro k1 k2 y1 y2 b h1 h2 hb1 hb2
  by_cases e1:k1=k <;> by_cases e2:k2=k
  ·rw[e1,e2]
  ·rw[agz e1]at hb1;rw[agy e2]at hb2;cases hb1
   exact ag5 (hown k2 y2 _ (hlk k2 y2 h2 e2) hb2) oz
  ·rw[agy e1]at hb1;rw[agz e2]at hb2;cases hb2
   exact ag5 (hown k1 y1 _ (hlk k1 y1 h1 e1) hb1) oz
  ·rw[agy e1]at hb1;rw[agy e2]at hb2
   exact h.heap.inj k1 k2 y1 y2 b (hlk k1 y1 h1 e1) (hlk k2 y2 h2 e2) hb1 hb2
 ·intro k' y b hy hb
  by_cases hne:k'=k
  ·rw[agz hne]at hb;cases hb
   refine⟨fun hc=>?_,by simp⟩;have:=h.ext_lt hc;omega
  ·rw[agy hne]at hb;have:=h.heap.sep k' y b (hlk k' y hy hne) hb;refine⟨this.1,?_⟩;have:=this.2;simp;omega
theorem RelM.write{C:Ctx}{s:AS}{m:Nat->Option Nat}{a:Act}{w:ahc}(h:RelM C s m a w){k b:Nat}{x x':Blk}{w':ahc}
  {c c':Array ag9} {t:aha}
  (hk:lk s.hp k=some x) (hm:m k=some b) (hb:w.heap[b]?=some (.cells c t (0,0))) (hsz:c'.size=c.size)
  (hw:w'={ w with heap:=w.heap.setIfInBounds b (.cells c' t (0,0)) })
  (hx:∀(g:Nat->Array ag9->Prop)(S:Nat->Nat->Prop),
   (∀b cs,Im C.ext s.hp m w b cs->g b cs)->(∀b n,Sz w b n->S b n) ->
   w'.heap[b]?=some (.cells c' t (0,0))->BlkRep g S m w' (some b) x') :
  RelM C ⟨s.sl,(k,some x')::s.hp⟩ m a w':=by
 have hlt:=(h.heap.sep k x b hk hm).2
 have hget:∀b',w'.heap[b']?=if b=b' then some (.cells c' t (0,0))else w.heap[b']?:=by
  intro b';subst hw;show(w.heap.setIfInBounds b _)[b']?=_;rw[afd]
  by_cases e:b=b'
  ·simp[e];omega
  ·simp[e]
 have hlk:∀k' y,lk ((k,some x')::s.hp) k'=some y->∃z,lk s.hp k'=some z:=by
  intro k' y hy;rw[aD]at hy;split at hy
  ·subst_vars;exact⟨x,hk⟩
  ·exact⟨y,hy⟩
 have hf:Frame (aW s.hp m) w w':=by
  refine⟨by rw[hw],by rw[hw],by rw[hw],by rw[hw];simp,?_,?_⟩
  ·rintro b' n ⟨c1,t1,f1,h1,h2⟩
   by_cases e:b=b'
   ·subst e;rw[hb]at h1;cases h1;exact⟨c',t,(0,0),by rw[hget,agz rfl],by omega⟩
   ·exact⟨c1,t1,f1,by rw[hget,agy e,h1],h2⟩
  ·intro b' hb' hn;rw[hget,agy];rintro rfl;exact hn ⟨k,x,hk,hm⟩
 have hal:∀k' y b',lk ((k,some x')::s.hp) k'=some y->m k'=some b'->aW s.hp m b'\/w.heap.size<=b':=by
  intro k' y b' hy hb';obtain⟨z,hz⟩:=hlk k' y hy;exact .inl ⟨k',z,hz,hb'⟩
 refine h.update hf (fun t y k' b' _ _ hb'=>hb') hal (fun k' y _ hy=>⟨hlk k' y hy,rfl⟩) ⟨?_,?_,?_⟩
 ·intro k' y hy
  by_cases e:k'=k
  ·subst e;rw[aD,agz rfl]at hy;cases hy;rw[hm];exact hx _ _ (fg hf hal) hf.sz (by rw[hget,agz rfl])
  ·rw[aD,agy e]at hy;refine BlkRep.mono (fg hf hal) hf.sz (fun k'' b' _ hb'=>hb') rfl ?_ (h.heap.blk k' y hy);intro b' hb';rw[hget,agy];rintro rfl;exact e (h.heap.inj k' k y x b hy hk hb' hm)
 ·intro k1 k2 y1 y2 b' h1 h2 hb1 hb2;obtain⟨z1,hz1⟩:=hlk k1 y1 h1;obtain⟨z2,hz2⟩:=hlk k2 y2 h2;exact h.heap.inj k1 k2 z1 z2 b' hz1 hz2 hb1 hb2
 ·intro k' y b' hy hb';obtain⟨z,hz⟩:=hlk k' y hy;have:=h.heap.sep k' z b' hz hb';exact⟨this.1,af3 this.2 hf.size⟩
theorem RelM.drawn{C:Ctx}{s:AS}{m:Nat->Option Nat}{a:Act}{w:ahc}(h:RelM C s m a w)(n:Nat):RelM C s m a { w with drawn:=n }:=by
 have hf:=UV (aW s.hp m) w n;have hal:∀k' y b',lk s.hp k'=some y->m k'=some b'->aW s.hp m b'\/w.heap.size<=b':=fun k' y b' h1 h2=>.inl ⟨k',y,h1,h2⟩
 refine h.update hf (fun t y k' b' _ _ hb'=>hb') hal (fun k' y _ hy=>⟨⟨y,hy⟩,rfl⟩) ⟨?_,h.heap.inj,h.heap.sep⟩;intro k x hk;exact BlkRep.mono (w:=w) (fg hf hal) hf.sz (fun _ _ _ h=>h) rfl (fun _ _=>rfl) (h.heap.blk k x hk)
structure Out where
  val:Option AV
  upd:Hp
  rt:List Nat
  rd:List Nat
  deriving Inhabited
def AS.app(s:AS)(dst:Option Tmp)(o:Out):AS :=
  ⟨match dst with |some d=>(d,o.val)::s.sl |none=>s.sl,o.upd++s.hp⟩
def fT(s s':AS)(o:Out):Prop:=(∀t∈o.rt,s'.get t=s.get t)/\∀k∈o.rd,s'.blk k=s.blk k
def jt(s:AS)(o:Out):Prop:=∀k∈o.upd.map (·.1),k∈o.rd\/s.Fresh k
def wq(P:ahb)(o:Oper)(a:Act)(w:ahc)(next:Act->ahc->Prop)(Q:Exit->Act->ahc->Prop):Prop:=∀ro n,o.uponIn (Fw ro) n P a next Q ((execOp a.eval o).run P w)
theorem QF{P:ahb}{f:FuncId}{args:Array ag9}{w:ahc}{R:Ending->ahc->Prop}(h:Calls P f args w R)(ro:Option Nat)(n:Nat):(((Fw ro).depth.isSome=true->1<=n)/\CallsIn (Fw ro) (n-1) P f args w R) :=
 ⟨(fun h=>by cases h),(callsIn_wide (n:=n-1)).2 h⟩
theorem RF{P:ahb}{f:String}{args:Array ag9}{w:ahc}{R:ag9->ahc->Prop}(h:Rows P f args w R)(ro:Option Nat)(n:Nat):(((Fw ro).depth.isSome=true->1<=n)/\RowsIn (Fw ro) (n-1) P f args w R) :=
 ⟨(fun h=>by cases h),fun c cs _=>let⟨v,w',r,s⟩:=h c cs;⟨v,w',r,(stepsIn_wide (P:=P)).2 s⟩⟩
theorem vg{P:ahb}{o:Oper}{a:Act}{w:ahc}{next:Act->ahc->Prop}{Q:Exit->Act->ahc->Prop}(h:o.wp P a w next Q):wq P o a w next Q:=by
 intro ro n;unfold Oper.wp at h;generalize(execOp a.eval o).run P w=r at h;cases r with
 |ok x w' =>
  cases x with
  |enter f args=>exact QF h ro n
  |row f args=>exact RF h ro n
  |round l f ts x y=>exact(show False from h).elim
  |_=>exact h
 |halt x w'=>cases x <;> exact h
structure Step(P:ahb)(N:Nat)(R:Array Oper)(s:AS)(o:Oper)(u:Out):Prop where
  run:∀s',fT s s' u->jt s' u->∀C m a w Q (next:Act->ahc->Prop),C.nt=N->RelM C s' m a w ->
    (∀m' a' w',RelM C (s'.app o.dst u) m' a' w'->next a' w') ->
    if Region.wanted o (yielded R a.tmps)then wq P o a w next Q else next (a.put o.dst undef) w
def gB(P:ahb)(N:Nat)(R:Array Oper):List Oper->AS->List Out->(AS->List Out->Prop)->Prop
  |[],s,us,K=>K s us
  |o::ops,s,us,K=>∃u,Step P N R s o u/\jt s u/\gB P N R ops (s.app o.dst u) (us++[u]) K
def nd(o:Oper):Bool:=match o.op with
  | .defer _=>false
  |_=>true
theorem Jy{P:ahb}{o:Oper}{a:Act}{w:ahc}{next:Act->ahc->Prop}{Q:Exit->Act->ahc->Prop}{ro:Option Nat}{n:Nat}(hd:nd o=true)(h:wq P o a w next Q):o.wpIn (Fw ro) n P a w next Q:=by
 refine⟨fun _ _=>trivial,?_⟩;rw[Oper.semAt_eq _ _ _ (by intro c hc;simp[nd,hc]at hd)];exact h ro n
theorem QH{P:ahb}{N n:Nat}{R:Array Oper}{C:Ctx}(hN:C.nt=N){Q:Exit->Act->ahc->Prop}{K:AS->List Out->Prop}
  (hK:∀s us m a w,K s us->RelM C s m a w->Q .normal a w) :
  ∀(ops:List Oper)(i:Nat)(s:AS)(us:List Out)(m:Nat->Option Nat)(a:Act)(w:ahc),
   (∀j,R[i+j]?=ops[j]?)->ops.all nd=true->gB P N R ops s us K->RelM C s m a w->wpOpsIn (Fw C.ro) n P R Q (List.range' i ops.length) a w:=by
 intro ops
 induction ops with
 |nil=>intro i s us m a w _ _ h hr;exact hK s us m a w h hr
 |cons o ops ih =>
  intro i s us m a w hR hnd h hr;simp only[List.all_cons,afp]at hnd;obtain⟨u,hs,hn,h⟩:=h;have ho:R[i]?=some o:=by simpa using hR 0
  simp only[af9,List.range'_succ];rw[wpOpsIn_cons];unfold wpOpIn;simp only[ho]
  have:=hs.run s ⟨fun _ _=>rfl,fun _ _=>rfl⟩ hn C m a w Q (wpOpsIn (Fw C.ro) n P R Q (List.range' (i+1) ops.length)) hN hr
   (fun m' a' w' hr'=>ih (i+1) _ _ m' a' w' (fun j=>by have:=hR (j+1);simpa[aby,acu 1 j]using this) hnd.2 h hr')
  split
  ·rename_i hw;rw[agz hw]at this;exact Jy hnd.1 this
  ·rename_i hw;rw[agy hw]at this;exact⟨fun _ _=>trivial,this⟩
theorem HeapRel.congr{ext:Nat->Prop}{hp hp':Hp}{m:Nat->Option Nat}{w:ahc}(h:∀k,lk hp k=lk hp' k)
  (hr:HeapRel ext hp m w):HeapRel ext hp' m w:=by
 have e1:aW hp m=aW hp' m:=by funext b;simp only[aW,h]
 have e2:Im ext hp m w=Im ext hp' m w:=by funext b cs;simp only[Im,e1]
 refine⟨?_,?_,?_⟩
 ·intro k x hk;rw[<- e2];exact hr.blk k x ((h k).trans hk)
 ·intro k k' x x' b h1 h2;exact hr.inj k k' x x' b ((h k).trans h1) ((h k').trans h2)
 ·intro k x b h1;exact hr.sep k x b ((h k).trans h1)
theorem RelM.congr{C:Ctx}{s s':AS}{m:Nat->Option Nat}{a:Act}{w:ahc}(h1:∀t,s.get t=s'.get t)(h2:∀k,s.blk k=s'.blk k)
  (hr:RelM C s m a w):RelM C s' m a w:=by
 have e1:aW s.hp m=aW s'.hp m:=by funext b;simp only[aW];simp only[AS.blk]at h2;simp only[h2]
 have e2:Im C.ext s.hp m w=Im C.ext s'.hp m w:=by funext b cs;simp only[Im,e1]
 refine⟨?_,hr.heap.congr h2,hr.frame,?_,fun k x h3 h4=>hr.keep k x h3 ((h2 k).trans h4),hr.defers,hr.nt⟩
 ·intro t x hx;rw[<- e2];exact hr.slots t x ((h1 t).trans hx)
 ·intro k x b hk;exact hr.new k x b ((h2 k).trans hk)
def Ch(prev:List Nat)(o:Oper):Nat :=
  o.after.toList.foldl (fun s e=>match Region.binds .any e with
    |true=>s ||| (2^e.on ||| prev.getD e.on 0)
    |false=>s) 0
def iY:List Oper->List Nat->List Nat
  |[],prev=>prev
  |o::ops,prev=>iY ops (prev++[Ch prev o])
theorem Vs(prev:List Nat)(j:Nat):∀(l:List Edge)(s:Nat),
  (l.foldl (fun s e=>match Region.binds .any e with
   |true=>s ||| (2^e.on ||| prev.getD e.on 0)
   |false=>s) s).testBit j=true ->
  s.testBit j=true\/∃e∈l,Region.binds .any e=true/\(j=e.on\/(prev.getD e.on 0).testBit j=true):=by
 intro l
 induction l with
 |nil=>intro s h;exact .inl h
 |cons e l ih =>
  intro s h;simp only[ac8]at h;rcases ih _ h with h |⟨e',he',hb,hj⟩
  ·cases hb:Region.binds .any e with
   |false=>rw[hb]at h;exact .inl h
   |true =>
    rw[hb]at h;simp only[Nat.testBit_or,agp,Nat.testBit_two_pow,ag0]at h;rcases h with h |h |h
    ·exact .inl h
    ·exact .inr ⟨e,agt,hb,.inl h.symm⟩
    ·exact .inr ⟨e,agt,hb,.inr h⟩
  ·exact .inr ⟨e',agi _ he',hb,hj⟩
theorem Je:∀(ops:List Oper)(prev:List Nat),(iY ops prev).length=prev.length+ops.length
 |[],prev=>rfl
 |o::ops,prev=>by simp only[iY,Je ops,agf,af9,agj];omega
theorem Es:∀(ops:List Oper)(prev:List Nat)(i:Nat),i<prev.length->(iY ops prev).getD i 0=prev.getD i 0
 |[],prev,i,_=>rfl
 |o::ops,prev,i,h=>by
  simp only[iY];rw[Es ops _ i (by simp;omega)];simp[afn,af6 h]
theorem Mo:∀(ops:List Oper)(prev:List Nat)(i:Nat)(o:Oper),ops[i]?=some o ->
  ∃q,(iY ops prev).getD (prev.length+i) 0=Ch q o/\∀j,q.getD j 0≠0->j<prev.length+i/\q.getD j 0=(iY ops prev).getD j 0
 |[],prev,i,o,h=>by simp at h
 |o'::ops,prev,0,o,h=>by
  simp at h;subst h
  refine⟨prev,?_,?_⟩
  ·simp only[iY,ach];rw[Es ops _ _ (by simp)];simp[afn]
  ·intro j hj
   have hlt:j<prev.length:=by
    rcases afv j prev.length with h |h
    ·exact h
    ·exact ag5 (by simp[afn,af0 h]) hj
   refine⟨by omega,?_⟩;simp only[iY];rw[Es ops _ _ (by simp;omega)];simp[afn,af6 hlt]
 |o'::ops,prev,i+1,o,h=>by
  simp at h;obtain⟨q,h1,h2⟩:=Mo ops (prev++[Ch prev o']) i o h;refine⟨q,?_,?_⟩
  ·simp only[iY];rw[<- h1];simp only[agf,af9,agj];congr 1;omega
  ·intro j hj;obtain⟨h3,h4⟩:=h2 j hj;simp at h3;exact⟨by omega,h4⟩
def My(R:Array Oper)(L:Nat->Bool):Prop:=∀i o,R[i]?=some o->L i=true->∀e∈o.after.toList,Region.binds .any e=true->L e.on=true
theorem JE{R:Array Oper}{L:Nat->Bool}(hc:My R L):∀(i:Nat)(o:Oper),R[i]?=some o ->
  (∀e∈o.after.toList,Region.binds .any e=true->L e.on=true)->∀j,((iY R.toList []).getD i 0).testBit j=true->L j=true:=by
 intro i
 induction i using Nat.strongRecOn with
 |_ i ih =>
  intro o ho hp j hj;obtain⟨q,h1,h2⟩:=Mo R.toList [] i o (by simpa using ho);simp only[agj,ab5]at h1 h2;rw[h1]at hj;rcases Vs q j _ _ hj with h |⟨e,he,hb,h |h⟩
  ·simp at h
  ·exact h▸hp e he hb
  ·have hne:q.getD e.on 0≠0:=fun h0=>by rw[h0] at h; simp at h
   obtain⟨h3,h4⟩:=h2 e.on hne;rw[h4]at h;have hl:=hp e he hb
   have hlt:e.on<R.size:=by
    rcases afv e.on R.size with hh |hh
    ·exact hh
    ·exfalso;have:(iY R.toList []).length=R.size:=by rw[Je]; simp
     rw[afn,af0 oz]at h;simp at h
   exact ih e.on h3 R[e.on] (by simp[hlt]) (hc e.on _ (by simp[hlt]) hl) j h
def Out.wr(u:Out):List Nat:=u.upd.map (·.1)
def Out.nm(u:Out):List Nat:=(match u.val with |some x=>x.nm |none=>[])++u.upd.flatMap fun p=>match p.2 with |some x=>x.nm |none=>[]
def kN(a b:List Nat):Bool:=a.any fun x=>b.contains x
def wi(d:Option Nat)(l:List Nat):Bool:=match d with |some d=>l.contains d |none=>false
def ju(o1:Oper)(u1:Out)(o2:Oper)(u2:Out):Bool :=
  wi o1.dst u2.rt||wi o2.dst u1.rt||(match o1.dst with |some d=>o2.dst==some d |none=>false) ||
    kN u1.wr u2.rd||kN u1.wr u2.wr||kN u2.wr u1.rd||kN (u1.wr.filter fun k=>!u1.rd.contains k) u2.nm
def vU(M:List Nat)(o2:Oper)(u2:Out)(j:Nat):Nat->List Oper->List Out->Bool
  |i,o1::ops,u1::us=>(match acm i j with
      |true=>(!ju o1 u1 o2 u2||(M.getD j 0).testBit i)&&!kN (u2.wr.filter fun k=>!u2.rd.contains k) (u1.nm++u1.wr)
      |false=>true)&&vU M o2 u2 j (i+1) ops us
  |_,_,_=>true
def zj(M:List Nat)(R:List Oper)(U:List Out):Nat->List Oper->List Out->Bool
  |j,o::ops,u::us=>vU M o u j 0 R U&&(o.after.toList.all fun e=>!Region.binds .any e||acm e.on j)&&zj M R U (j+1) ops us
  |_,_,_=>true
def AS.freshB(s:AS)(k:Nat):Bool :=
  (s.sl.all fun p=>match p.2 with |some x=>!x.nm.contains k |none=>true) &&
    (s.hp.all fun p=>match p.2 with |some x=>!x.nm.contains k |none=>true) &&
    (match lk s.hp k with |some _=>false |none=>true)&&acm k 1000
theorem AS.fresh_of{s:AS}{k:Nat}(h:s.freshB k=true):s.Fresh k:=by
 simp only[AS.freshB,afp,afy]at h;obtain⟨⟨⟨h1,h2⟩,h3⟩,h4⟩:=h;refine⟨?_,by simpa[ab7]using h4,?_,?_⟩
 ·cases hk:lk s.hp k with
  |none=>rfl
  |some x=>rw[hk]at h3;simp at h3
 ·intro t x hx hn;have:=h1 _ (nI hx);simp at this;exact this hn.mem
 ·intro t x hx hn;have:=h2 _ (nI hx);simp at this;exact this hn.mem
def chk(R:List Oper)(U:List Out)(s:AS):Bool :=
  zj (iY R []) R U 0 R U&&(U.all fun u=>u.wr.all fun k=>u.rd.contains k||s.freshB k)
theorem Gt{M:List Nat}{o2:Oper}{u2:Out}{j:Nat}:∀(ops:List Oper)(us:List Out)(i0:Nat),vU M o2 u2 j i0 ops us=true ->
  ∀i o1 u1,ops[i]?=some o1->us[i]?=some u1->i0+i<j ->
   (ju o1 u1 o2 u2=true->(M.getD j 0).testBit (i0+i)=true)/\kN (u2.wr.filter fun k=>!u2.rd.contains k) (u1.nm++u1.wr)=false
 |[],_,_,_,i,o1,u1,h,_,_=>by simp at h
 |_::_,[],_,_,i,o1,u1,_,h,_=>by simp at h
 |o::ops,u::us,i0,hc,i,o1,u1,h1,h2,hlt=>by
  simp only[vU,afp]at hc;obtain⟨hc1,hc2⟩:=hc;cases i with
  |zero =>
   simp at h1 h2;subst h1;subst h2
   have hb:acm i0 j=true:=by simpa[ab7]using hlt
   rw[hb]at hc1;simp only[afp,agp,ae0]at hc1;refine⟨fun hw=>?_,hc1.2⟩;rcases hc1.1 with h |h
   ·rw[hw]at h;cases h
   ·simpa using h
  |succ i =>
   simp at h1 h2;have:=Gt ops us (i0+1) hc2 i o1 u1 h1 h2 oz;rw[show i0+(i+1)=i0+1+i by omega];exact this
theorem CC{M:List Nat}{R:List Oper}{U:List Out}:∀(ops:List Oper)(us:List Out)(j0:Nat),zj M R U j0 ops us=true ->
  ∀j o u,ops[j]?=some o->us[j]?=some u->vU M o u (j0+j) 0 R U=true/\∀e∈o.after.toList,Region.binds .any e=true->e.on<j0+j
 |[],_,_,_,i,o1,u1,h,_=>by simp at h
 |_::_,[],_,_,i,o1,u1,_,h=>by simp at h
 |o::ops,u::us,j0,hc,j,o1,u1,h1,h2=>by
  simp only[zj,afp,afy]at hc;obtain⟨⟨hc1,hc2⟩,hc3⟩:=hc;cases j with
  |zero =>
   simp at h1 h2;subst h1;subst h2
   refine⟨hc1,fun e he hb=>?_⟩;have:=hc2 e he;simpa[hb,ab7]using this
  |succ j =>
   simp at h1 h2;have:=CC ops us (j0+1) hc3 j o1 u1 h1 h2;rw[show j0+(j+1)=j0+1+j by omega];exact this
def vw(R:Array Oper)(U:List Out)(s:AS)(L:Nat->Bool):Nat->AS
  |0=>s
  |i+1=>match L i,R[i]?,U[i]? with
    |true,some o,some u=>(vw R U s L i).app o.dst u
    |_,_,_=>vw R U s L i
theorem gq(s:AS)(d:Option Tmp)(u:Out)(t:Nat):(s.app d u).get t=if d=some t then u.val else s.get t:=by
 cases d with
 |none=>simp[AS.app,AS.get]
 |some d =>
  simp only[AS.app,AS.get,aD]
  by_cases h:t=d
  ·simp[h]
  ·rw[agy h,agy (by simpa using fun e=>h e.symm)]
theorem sU(s:AS)(d:Option Tmp)(u:Out)(k:Nat):(s.app d u).blk k=if k∈u.wr then lk u.upd k else s.blk k:=by
 simp only[AS.app,AS.blk,ke,Out.wr];rfl
section
variable{R:Array Oper}{U:List Out}{s:AS}
theorem Mb{L:Nat->Bool}{t i:Nat}(n:Nat)(hle:i<=n)(h:∀j o,i<=j->R[j]?=some o->o.dst=some t->L j=false) :
  (vw R U s L n).get t=(vw R U s L i).get t:=by
 induction n with
 |zero=>rw[show i=0 by omega]
 |succ n ih =>
  by_cases hn:i<=n
  ·rw[<- ih hn];simp only[vw];split
   ·rename_i o u h1 h2 h3;rw[gq,agy];intro hd;rw[h n o hn h2 hd]at h1;cases h1
   ·rfl
  ·rw[show i=n+1 by omega]
theorem I9{L:Nat->Bool}{k i:Nat}(n:Nat)(hle:i<=n)(h:∀j u,i<=j->U[j]?=some u->k∈u.wr->L j=false) :
  (vw R U s L n).blk k=(vw R U s L i).blk k:=by
 induction n with
 |zero=>rw[show i=0 by omega]
 |succ n ih =>
  by_cases hn:i<=n
  ·rw[<- ih hn];simp only[vw];split
   ·rename_i o u h1 h2 h3;rw[sU,agy];intro hd;rw[h n u hn h3 hd]at h1;cases h1
   ·rfl
  ·rw[show i=n+1 by omega]
theorem BC{L L':Nat->Bool}{t:Nat}(n:Nat)(h:∀j o,j<n->R[j]?=some o->o.dst=some t->L j=L' j) :
  (vw R U s L n).get t=(vw R U s L' n).get t:=by
 induction n with
 |zero=>rfl
 |succ n ih =>
  have ih:=ih (fun j o hj=>h j o oz);simp only[vw];cases ho:R[n]? with
  |none=>cases L n <;> cases L' n <;> simp only[ih]
  |some o =>
   cases hu:U[n]? with
   |none=>cases L n <;> cases L' n <;> simp only[ih]
   |some u =>
    by_cases hd:o.dst=some t
    ·rw[h n o oz ho hd];cases L' n <;> simp only[gq,hd,if_true,ih]
    ·cases L n <;> cases L' n <;> simp only[gq,agy hd,ih]
theorem Cz{L L':Nat->Bool}{k:Nat}(n:Nat)(h:∀j u,j<n->U[j]?=some u->k∈u.wr->L j=L' j) :
  (vw R U s L n).blk k=(vw R U s L' n).blk k:=by
 induction n with
 |zero=>rfl
 |succ n ih =>
  have ih:=ih (fun j o hj=>h j o oz);simp only[vw];cases ho:R[n]? with
  |none=>cases L n <;> cases L' n <;> simp only[ih]
  |some o =>
   cases hu:U[n]? with
   |none=>cases L n <;> cases L' n <;> simp only[ih]
   |some u =>
    by_cases hd:k∈u.wr
    ·rw[h n u oz hu hd];cases L' n <;> simp only[sU,hd,if_true,ih]
    ·cases L n <;> cases L' n <;> simp only[sU,agy hd,ih]
theorem VY{L:Nat->Bool}{t:Nat}{x:AV}:∀n,(vw R U s L n).get t=some x ->
  s.get t=some x\/∃j u,L j=true/\U[j]?=some u/\u.val=some x:=by
 intro n
 induction n with
 |zero=>exact .inl
 |succ n ih =>
  intro h;simp only[vw]at h;split at h
  ·rename_i o u h1 h2 h3;rw[gq]at h;split at h
   ·exact .inr ⟨n,u,h1,h3,h⟩
   ·exact ih h
  ·exact ih h
theorem F7{L:Nat->Bool}{k:Nat}{x:Blk}:∀n,(vw R U s L n).blk k=some x ->
  s.blk k=some x\/∃j u,L j=true/\U[j]?=some u/\k∈u.wr/\lk u.upd k=some x:=by
 intro n
 induction n with
 |zero=>exact .inl
 |succ n ih =>
  intro h;simp only[vw]at h;split at h
  ·rename_i o u h1 h2 h3;rw[sU]at h;split at h
   ·rename_i hk;exact .inr ⟨n,u,h1,h3,hk,h⟩
   ·exact ih h
  ·exact ih h
end
theorem P7{a b:List Nat}(h:kN a b=false){x:Nat}(ha:x∈a):x∉b:=by
 intro hb;simp only[kN,List.any_eq_false]at h;exact h x ha (by simpa using hb)
theorem vr{a b:List Nat}{x:Nat}(ha:x∈a)(hb:x∈b):kN a b=true:=by
 simp only[kN,List.any_eq_true];exact⟨x,ha,by simpa using hb⟩
section
variable{P:ahb}{N:Nat}{R:Array Oper}{U:List Out}{s0:AS}{C:Ctx}{Q:Exit->Act->ahc->Prop}
theorem WN{u:Out}{x:AV}{k:Nat}(h:u.val=some x)(hk:x.Names k):k∈u.nm:=by
 simp only[Out.nm,h,aft];exact .inl hk.mem
theorem S2{u:Out}{x:Blk}{k k':Nat}(h:lk u.upd k'=some x)(hk:x.Names k):k∈u.nm:=by
 simp only[Out.nm,aft,List.mem_flatMap];exact .inr ⟨_,nI h,hk.mem⟩
theorem SX{n:Nat}(hnd:R.toList.all nd=true)(hN:C.nt=N)(hlen:U.length=R.size)(hst:∀(i:Nat) o u,R[i]?=some o->U[i]?=some u->Step P N R (vw R U s0 (fun _=>true) i) o u)
    (hc:chk R.toList U s0=true) (hQ:∀m a w,RelM C (vw R U s0 (fun _=>true) R.size) m a w->Q .normal a w) :
    ∀(fuel:Nat)(listed:Array Bool),listed.size=R.size->My R (fun i=>listed.getD i false) ->
      ((List.range R.size).filter fun i=>!listed.getD i false).length<=fuel ->
      ∀m a w,RelM C (vw R U s0 (fun i=>listed.getD i false) R.size) m a w->wpAnyIn (Fw C.ro) n P .any R Q fuel listed a w:=by
  simp only[chk,afp,afy,agp]at hc;obtain⟨hc1,hc2⟩:=hc;have hU:∀i,i<R.size->∃o u,R[i]?=some o/\U[i]?=some u:=fun i hi=>⟨R[i],U[i],by simp[hi],by simp⟩
  have hpair:∀i j o1 u1 o2 u2,R[i]?=some o1->U[i]?=some u1->R[j]?=some o2->U[j]?=some u2->i<j ->
      (ju o1 u1 o2 u2=true->((iY R.toList []).getD j 0).testBit i=true)/\kN (u2.wr.filter fun k=>!u2.rd.contains k) (u1.nm++u1.wr)=false:=by
    intro i j o1 u1 o2 u2 h1 h2 h3 h4 hlt;have:=CC R.toList U 0 hc1 j o2 u2 (by simpa using h3) h4;simp only[ab5]at this;have:=Gt R.toList U 0 this.1 i o1 u1 (by simpa using h1) h2 oz;simpa using this
  have hback:∀j o,R[j]?=some o->∀e∈o.after.toList,Region.binds .any e=true->e.on<j:=by
    intro j o h
    have hj:j<R.size:=by
      rcases afv j R.size with hh |hh
      · exact hh
      · simp[afe hh]at h
    obtain⟨o',u,h1,h2⟩:=hU j hj;rw[h]at h1;cases h1
    have:=(CC R.toList U 0 hc1 j o u (by simpa using h) h2).2;simpa using this
  have hdone:∀(listed:Array Bool),listed.size=R.size->Region.ready .any R listed=[]->∀i,i<R.size->listed.getD i false=true:=by
    intro listed hsz hr i
    induction i using Nat.strongRecOn with
    |_ i ih =>
      intro hi;cases hl:listed.getD i false with
      |true=>rfl
      |false =>
        exfalso
        have:i∈Region.ready .any R listed:=by
          simp only[Region.ready,adh,ac5];refine⟨hi,?_⟩
          have e1:listed.getD i true=false:=by
            simp only[afx]at hl ⊢;rw[ae4 oz]at hl ⊢;exact hl
          simp only[e1,Bool.not_false,aet];rw[ae4 hi];simp only[afi,afj,ae1,agp,ae0];intro e he;cases hb:Region.binds .any e with
          |false=>exact .inl rfl
          |true =>
            have:=hback i R[i] (by simp[hi]) e (by simpa using he) hb;exact .inr (ih e.on this oz)
        rw[hr]at this;cases this
  have hfin:∀(listed:Array Bool),listed.size=R.size->Region.ready .any R listed=[]->∀m a w,
      RelM C (vw R U s0 (fun i=>listed.getD i false) R.size) m a w->Q .normal a w:=by
    intro listed hsz hr m a w h;refine hQ m a w (h.congr (fun t=>BC _ (fun j o hj _ _=>hdone listed hsz hr j hj)) (fun k=>Cz _ (fun j u hj _ _=>hdone listed hsz hr j hj)))
  intro fuel
  induction fuel with
  |zero =>
    intro listed hsz hcl hf m a w h
    have hnil:Region.ready .any R listed=[]:=by
      cases hr:Region.ready .any R listed with
      |nil=>rfl
      |cons i l =>
        exfalso;have hi:i∈Region.ready .any R listed:=by rw[hr];exact agt
        simp only[Region.ready,adh,ac5,afp,ae0]at hi
        have:listed.getD i false=false:=by
          have h1:=hi.2.1;simp only[afx]at h1 ⊢;rw[ae4 oz]at h1 ⊢;exact h1
        have hmem:i∈(List.range R.size).filter fun i=>!listed.getD i false:=by simp[adh,hi.1];simpa using this
        have:=List.length_pos_of_mem hmem;omega
    exact⟨hnil,hfin listed hsz hnil m a w h⟩
  |succ fuel ih =>
    intro listed hsz hcl hf m a w h;refine⟨fun hr=>hfin listed hsz hr m a w h,?_⟩;intro i hi;simp only[Region.ready,adh,ac5,afp,ae0]at hi;obtain⟨hilt,hil,hie⟩:=hi
    have hil:listed.getD i false=false:=by
      simp only[afx]at hil ⊢;rw[ae4 oz]at hil ⊢;exact hil
    obtain⟨o,u,ho,hu⟩:=hU i hilt;rw[ho]at hie;simp only[afi,afj,ae1,agp,ae0]at hie
    have hpre:∀e∈o.after.toList,Region.binds .any e=true->listed.getD e.on false=true:=by
      intro e he hb;rcases hie e (by simpa using he)with h |h
      · rw[hb]at h;cases h
      · exact h
    have hbefore:∀j oj uj,R[j]?=some oj->U[j]?=some uj->j<i->ju oj uj o u=true->listed.getD j false=true:=by
      intro j oj uj h1 h2 hlt hw;exact JE hcl i o ho hpre j ((hpair j i oj uj o u h1 h2 ho hu hlt).1 hw)
    have hafter:∀j oj uj,R[j]?=some oj->U[j]?=some uj->i<j->ju o u oj uj=true->listed.getD j false=false:=by
      intro j oj uj h1 h2 hlt hw;cases hl:listed.getD j false with
      |false=>rfl
      |true =>
        have:=JE hcl j oj h1 (hcl j oj h1 hl) i ((hpair i j o u oj uj ho hu h1 h2 hlt).1 hw);rw[hil]at this;cases this
    have hUj:∀(j:Nat) oj,R[j]?=some oj->∃uj,U[j]?=some uj:=by
      intro j oj h
      have hj:j<R.size:=by
        rcases afv j R.size with hh |hh
        · exact hh
        · simp[afe hh]at h
      obtain⟨_,uj,_,h2⟩:=hU j hj;exact⟨uj,h2⟩
    have hRj:∀(j:Nat) uj,U[j]?=some uj->∃oj,R[j]?=some oj:=by
      intro j uj h
      have hj:j<R.size:=by
        rcases afv j R.size with hh |hh
        · exact hh
        · rw[af0 oz]at h;cases h
      obtain⟨oj,_,h1,_⟩:=hU j hj;exact⟨oj,h1⟩
    have hget:∀t,t∈u.rt->(vw R U s0 (fun i=>listed.getD i false) R.size).get t=(vw R U s0 (fun _=>true) i).get t:=by
      intro t ht;rw[Mb (i:=i) R.size oz]
      · refine BC i (fun j oj hj hoj hd=>?_)
        obtain⟨uj,huj⟩:=hUj j oj hoj;exact hbefore j oj uj hoj huj hj (by simp[ju,wi,hd,ht])
      · intro j oj hj hoj hd
        obtain⟨uj,huj⟩:=hUj j oj hoj;rcases afv i j with hlt |hge
        · exact hafter j oj uj hoj huj hlt (by simp[ju,wi,hd,ht])
        · rw[show j=i by omega];exact hil
    have hblk:∀k,k∈u.rd->(vw R U s0 (fun i=>listed.getD i false) R.size).blk k=(vw R U s0 (fun _=>true) i).blk k:=by
      intro k hk;rw[I9 (i:=i) R.size oz]
      · refine Cz i (fun j uj hj huj hd=>?_)
        obtain⟨oj,hoj⟩:=hRj j uj huj;exact hbefore j oj uj hoj huj hj (by simp[ju,vr hd hk])
      · intro j uj hj huj hd
        obtain⟨oj,hoj⟩:=hRj j uj huj;rcases afv i j with hlt |hge
        · exact hafter j oj uj hoj huj hlt (by simp[ju,vr hd hk])
        · rw[show j=i by omega];exact hil
    have hnew:jt (vw R U s0 (fun i=>listed.getD i false) R.size) u:=by
      intro k hk
      by_cases hrd:k∈u.rd
      · exact .inl hrd
      refine .inr ?_
      have hfr:s0.Fresh k:=by
        rcases hc2 u (afl hu) k hk with h |h
        · exact ag5 (by simpa using h) hrd
        · exact AS.fresh_of h
      have hkn:k∈u.wr.filter fun k=>!u.rd.contains k:=by simp[adh,hrd];simpa[Out.wr]using hk
      have hno:∀j uj,listed.getD j false=true->U[j]?=some uj->k∉uj.nm/\k∉uj.wr:=by
        intro j uj hl huj;obtain⟨oj,hoj⟩:=hRj j uj huj;rcases Nat.lt_trichotomy j i with hlt |heq |hgt
        · have hm:=P7 (hpair j i oj uj o u hoj huj ho hu hlt).2 hkn
          exact⟨fun h=>hm (aft.2 (.inl h)),fun h=>hm (aft.2 (.inr h))⟩
        · subst heq;rw[hil]at hl;cases hl
        · refine⟨fun hn=>?_,fun hwr=>?_⟩
          · have:=hafter j oj uj hoj huj hgt (by simp only [ju,vr hkn hn,Bool.or_true])
            rw[hl]at this;cases this
          · have:=hafter j oj uj hoj huj hgt (by simp[ju,vr (by simpa[Out.wr] using hk:k∈u.wr) hwr])
            rw[hl]at this;cases this
      refine⟨?_,hfr.2.1,?_,?_⟩
      · cases hb:(vw R U s0 (fun i=>listed.getD i false) R.size).blk k with
        |none=>exact hb
        |some x =>
          rcases F7 _ hb with h |⟨j,uj,hl,huj,hwr,_⟩
          · rw[AS.blk,hfr.1]at h;cases h
          · exact ag5 hwr (hno j uj hl huj).2
      · intro t x hx hn
        rcases VY _ hx with h |⟨j,uj,hl,huj,hv⟩
        · exact hfr.2.2.1 t x h hn
        · exact(hno j uj hl huj).1 (WN hv hn)
      · intro k' x hx hn
        rcases F7 _ hx with h |⟨j,uj,hl,huj,_,hv⟩
        · exact hfr.2.2.2 k' x h hn
        · exact(hno j uj hl huj).1 (S2 hv hn)
    unfold wpOpIn;simp only[ho];have hndo:nd o=true:=afy.1 hnd o (by simpa using Array.mem_of_getElem? ho)
    suffices hs:(if Region.wanted o (yielded R a.tmps)then wq P o a w (wpAnyIn (Fw C.ro) n P .any R Q _ (listed.setIfInBounds i true)) Q else wpAnyIn (Fw C.ro) n P .any R Q _ (listed.setIfInBounds i true) (a.put o.dst undef) w) by
      split
      · rename_i hw;rw[agz hw]at hs;exact Jy hndo hs
      · rename_i hw;rw[agy hw]at hs;exact⟨fun _ _=>trivial,hs⟩
    refine(hst i o u ho hu).run _ ⟨hget,hblk⟩ hnew C m a w Q _ hN h ?_;intro m' a' w' h'
    have hL:∀j,(listed.setIfInBounds i true).getD j false=if j=i then true else listed.getD j false:=by
      intro j;simp only[afx,afd]
      by_cases hj:j=i
      · subst hj
        rw[agz rfl,agz rfl,agz oz];rfl
      · rw[agy oz,agy hj]
    refine ih (listed.setIfInBounds i true) (by simpa using hsz) ?_ ?_ m' a' w' ?_
    · intro j oj hoj hl e he hb
      simp only[hL]at hl ⊢
      by_cases hje:e.on=i
      · simp[hje]
      · rw[agy hje]
        by_cases hj:j=i
        · subst hj;rw[ho]at hoj;cases hoj;exact hpre e he hb
        · rw[agy hj]at hl;exact hcl j oj hoj hl e he hb
    · have e1:((List.range R.size).filter fun j=>!(listed.setIfInBounds i true).getD j false) =
          ((List.range R.size).filter fun j=>!listed.getD j false).filter fun j=>!decide (j=i):=by
        rw[List.filter_filter];refine List.filter_congr (fun j _=>?_);rw[hL]
        by_cases hj:j=i <;> simp[hj]
      have e2:(((List.range R.size).filter fun j=>!listed.getD j false).filter fun j=>!decide (j=i)).length<((List.range R.size).filter fun j=>!listed.getD j false).length:=by
        rw[List.length_filter_lt_length_iff_exists];exact⟨i,by simp[adh,hilt];simpa using hil,by simp⟩
      rw[e1];omega
    · refine h'.congr (fun t=>?_) (fun k=>?_)
      · rw[gq]
        by_cases hd:o.dst=some t
        · rw[agz hd]
          rw[Mb (i:=i+1) R.size oz]
          · simp only[vw,hL,if_true,ho,hu,gq,hd]
          · intro j oj hj hoj hdj
            rw[hL,agy oz];obtain⟨uj,huj⟩:=hUj j oj hoj;exact hafter j oj uj hoj huj oz (by simp[ju,hd,hdj])
        · rw[agy hd]
          refine BC _ (fun j oj hj hoj hdj=>?_);rw[hL,agy];rintro rfl;rw[ho]at hoj;cases hoj;exact hd hdj
      · rw[sU]
        by_cases hd:k∈u.wr
        · rw[agz hd]
          rw[I9 (i:=i+1) R.size oz]
          · simp only[vw,hL,if_true,ho,hu,sU,hd]
          · intro j uj hj huj hdj
            rw[hL,agy oz];obtain⟨oj,hoj⟩:=hRj j uj huj;exact hafter j oj uj hoj huj oz (by simp[ju,vr hd hdj])
        · rw[agy hd]
          refine Cz _ (fun j uj hj huj hdj=>?_);rw[hL,agy];rintro rfl;rw[hu]at huj;cases huj;exact hd hdj
end
inductive TK where
  |bool |int (k:IntKind) |string |slice (e:Nat) |array (n e:Nat) |struct |iface (n:Nat) |pointer (e:Nat) |other
  deriving Inhabited
structure TI where
  size:Nat
  bytes:Nat
  zero:List ag9
  k:TK
  fs:List (Nat×Nat)
  deriving Inhabited
def TI.ag(t:TI):Bool:=match t.k with | .struct | .array _ _=>true |_=>false
def gk:TypeDesc->TK
  | .bool=>.bool
  | .int k=>.int k
  | .string=>.string
  | .slice e=>.slice e
  | .array n e=>.array n e
  | .struct _=>.struct
  | .interface ms=>.iface ms.size
  | .pointer e=>.pointer e
  |_=>.other
def qY(P:ahb):TypeDesc->List (Nat×Nat)
  | .struct fs=>fs.toList.map fun f=>(f.offset,match P.info? f.type with |some j=>j.size |none=>0)
  |_=>[]
def au(P:ahb)(t:aha):Option TI :=
  match P.info? t,P.underlying t with
  |some i,some d=>match i.zero with
    |some z=>some ⟨i.size,i.bytes,z.cells.toList,gk d,qY P d⟩
    |none=>none
  |_,_=>none
theorem vF{P:ahb}{t:aha}{ti:TI}(h:au P t=some ti) :
  ∃i d z,P.info? t=some i/\P.underlying t=some d/\i.zero=some z/\ti=⟨i.size,i.bytes,z.cells.toList,gk d,qY P d⟩:=by
 unfold au at h;split at h
 ·rename_i i d h1 h2;split at h
  ·rename_i z h3;cases h;exact⟨i,d,z,h1,h2,h3,rfl⟩
  ·cases h
 ·cases h
theorem fL{P:ahb}{t:aha}{ti:TI}(h:au P t=some ti)(w:ahc):(sizeOf t).run P w=.ok ti.size w:=by
 obtain⟨i,d,z,h1,h2,h3,rfl⟩:=vF h;simp[sizeOf,typeInfo,h1]
theorem Kz{P:ahb}{t:aha}{ti:TI}(h:au P t=some ti)(w:ahc):∃i,(typeInfo t).run P w=.ok i w/\i.bytes=ti.bytes/\i.size=ti.size:=by
 obtain⟨i,d,z,h1,h2,h3,rfl⟩:=vF h;exact⟨i,by simp[typeInfo,h1],rfl,rfl⟩
theorem uY{P:ahb}{t:aha}{ti:TI}(h:au P t=some ti)(w:ahc):∃z,(zeroValue t).run P w=.ok z w/\z.cells.toList=ti.zero:=by
 obtain⟨i,d,z,h1,h2,h3,rfl⟩:=vF h;exact⟨z,by simp[zeroValue,typeInfo,h1,h3],rfl⟩
theorem dg{P:ahb}{t:aha}{ti:TI}(h:au P t=some ti)(w:ahc):∃d,(underlying t).run P w=.ok d w/\gk d=ti.k/\qY P d=ti.fs/\P.underlying t=some d:=by
 obtain⟨i,d,z,h1,h2,h3,rfl⟩:=vF h;exact⟨d,by simp[underlying,h2],rfl,rfl,h2⟩
theorem gT{d:TypeDesc}{e:Nat}(h:gk d=.slice e):d=.slice e:=by cases d <;> simp_all[gk]
theorem KY{d:TypeDesc}(h:gk d=.string):d=.string:=by cases d <;> simp_all[gk]
theorem G0{d:TypeDesc}(h:gk d=.bool):d=.bool:=by cases d <;> simp_all[gk]
theorem HF{d:TypeDesc}{k:IntKind}(h:gk d=.int k):d=.int k:=by cases d <;> simp_all[gk]
theorem Qr{d:TypeDesc}{n e:Nat}(h:gk d=.array n e):d=.array n e:=by cases d <;> simp_all[gk]
theorem Ji{d:TypeDesc}(h:gk d=.struct):∃fs,d=.struct fs:=by cases d <;> simp_all[gk]
theorem Kv{d:TypeDesc}{n:Nat}(h:gk d=.iface n):∃ms,d=.interface ms/\ms.size=n:=by cases d <;> simp_all[gk]
theorem VT{P:ahb}{t:aha}{ti:TI}(h:au P t=some ti)(w:ahc):(isAgg t).run P w=.ok ti.ag w:=by
 obtain⟨d,h1,h2,-,-⟩:=dg h w;simp only[isAgg,Sem.run_bind,h1,Result.andThen_ok,TI.ag,<- h2];cases d <;> rfl
theorem jb(b off n:Nat):(⟨b,off,none⟩:Addr).add n=⟨b,off+n,none⟩:=by
 unfold Addr.add;split
 ·subst_vars;rfl
 ·rfl
theorem q5{w:ahc}{b off:Nat}{c:Array ag9}{t:aha}{f:Nat×Nat}(hb:w.heap[b]?=some (.cells c t f)) :
  w.cell? ⟨b,off,none⟩=c[off]?:=by
 simp[World.cell?,hb]
theorem xX{P:ahb}{w:ahc}{T:aha}{ti:TI}{b off:Nat}{c:Array ag9}{t:aha}{f:Nat×Nat}
  (hT:au P T=some ti) (hb:w.heap[b]?=some (.cells c t f)) (hle:off+ti.size<=c.size) (h1:ti.ag=true\/ti.size=1) :
  (loadVar T ⟨b,off,none⟩).run P w=.ok (if ti.ag then .agg (c.extract off (off+ti.size))else c.getD off undef) w:=by
 simp only[loadVar,Sem.run_bind,VT hT,Result.andThen_ok];cases ha:ti.ag with
 |true =>
  simp only[if_true];have hl:(c.extract off (off+ti.size)).toList.length=ti.size:=by simp;omega
  have:=run_loadCells_list (P:=P) w ⟨b,off,none⟩ (c.extract off (off+ti.size)).toList (by
   intro j v hj;rw[jb,q5 hb];simp only[ae2,afa]at hj;split at hj
   ·exact hj
   ·cases hj)
  rw[hl]at this;simp only[Sem.run_bind,fL hT,Result.andThen_ok,this,Sem.run_pure,Array.toArray_toList]
 |false =>
  rcases h1 with h1 |h1
  ·rw[ha]at h1;cases h1
  ·simp only [aew,if_false,run_load,q5 hb];have:off<c.size:=by omega
   simp[this,afx]
def jH(ag:Bool)(l:List AV):AV:=match ag with
  |true=>.agg l
  |false=>match l with |x::_=>x |[]=>default
theorem xH{g:Nat->Array ag9->Prop}{S:Nat->Nat->Prop}{m:Nat->Option Nat}{c:Array ag9}{off n:Nat}{ag:Bool}{xs:List AV}
  (hn:xs.length=n) (hle:off+n<=c.size) (h1:ag=true\/n=1) (ho:∀(j:Nat)(x:AV),xs[j]?=some x->x.one=true)
  (hr:∀(j:Nat)(u:ag9)(x:AV),xs[j]?=some x->c[off+j]?=some u->Rep g S m u x) :
  Rep g S m (if ag then .agg (c.extract off (off+n))else c.getD off undef) (jH ag xs):=by
 cases ag with
 |true =>
  simp only[if_true,jH];refine .agg (by simp;omega) ho ?_;intro j u x hu hx;simp only[afa]at hu;split at hu
  ·exact hr j u x hx hu
  ·cases hu
 |false =>
  rcases h1 with h1 |h1
  ·cases h1
  ·subst h1
   match xs,hn with
   |[x],_ =>
    simp only[aew,if_false,jH];have:off<c.size:=by omega
    refine hr 0 _ x rfl ?_;simp[this,afx]
def br(P:ahb)(N:Nat)(c:Code)(Q:Exit->AS->Prop)(s:AS):Prop :=
  ∀C m a w n,C.nt=N->RelM C s m a w->c.wpIn (Fw C.ro) n P (fun e a' w'=>∃s' m',Q e s'/\RelM C s' m' a' w') a w
def kf(P:ahb)(N:Nat)(c:Code)(Q:Exit->AS->Prop)(s:AS):Prop :=
  ∀C m a w n,C.ro=none->C.nt=N->RelM C s m a w->c.wpIn (Fw C.ro) n P (fun e a' w'=>∃s' m',Q e s'/\RelM C s' m' a' w') a w
theorem br.out{P:ahb}{N:Nat}{c:Code}{Q:Exit->AS->Prop}{s:AS}(h:br P N c Q s):kf P N c Q s:=fun C m a w n _=>h C m a w n
def Wk(s s':AS):Prop:=∀C m a w,RelM C s m a w->∃m',RelM C s' m' a w
theorem Wk.refl(s:AS):Wk s s:=fun _ m _ _ h=>⟨m,h⟩
theorem Wk.trans{s s' s'':AS}(h:Wk s s')(h':Wk s' s''):Wk s s'':=fun C m a w hr=>by
 obtain⟨m',hr'⟩:=h C m a w hr;exact h' C m' a w hr'
variable{P:ahb}{N:Nat}{Q:Exit->AS->Prop}{s:AS}
theorem pY{c:Code}{s':AS}(hw:Wk s s')(h:br P N c Q s'):br P N c Q s:=by
 intro C m a w n hN hr;obtain⟨m',hr'⟩:=hw C m a w hr;exact h C m' a w n hN hr'
theorem ig{c:Code}{Q':Exit->AS->Prop}(h:br P N c Q s)(hq:∀e s,Q e s->Q' e s):br P N c Q' s :=
 fun C m a w n hN hr=>wpIn_mono (h C m a w n hN hr) fun e _ _ ⟨s',m',hQ,hr'⟩=>⟨s',m',hq e s' hQ,hr'⟩
theorem WM{c:Code}{p:Prop}(hp:∀C m a w,RelM C s m a w->p)(h:p->br P N c Q s):br P N c Q s :=
 fun C m a w n hN hr=>h (hp C m a w hr) C m a w n hN hr
def Ho(K:AS->Prop)(Q:Exit->AS->Prop):Exit->AS->Prop
  | .normal,s=>K s
  |e,s=>Q e s
theorem Fq{x y:Code}(h:∀K:AS->Prop,(∀s,br P N y Q s->K s)->br P N x (Ho K Q) s):br P N (.seq x y) Q s:=by
 intro C m a w n hN hr;refine wpIn_seq (wpIn_mono (h (br P N y Q) (fun _ h=>h) C m a w n hN hr) ?_);rintro e a' w' ⟨s',m',hq,hr'⟩;cases e with
 |normal=>exact hq C m' a' w' n hN hr'
 |_=>exact⟨s',m',hq,hr'⟩
theorem Jv(h:Q .normal s):br P N .skip Q s:=fun _ m _ _ _ _ hr=>wpIn_skip ⟨s,m,h,hr⟩
theorem Kh(h:Q .ret s):br P N .ret Q s:=fun _ m _ _ _ _ hr=>wpIn_ret ⟨s,m,h,hr⟩
theorem HE{id:Nat}(h:Q (.exit id) s):br P N (.exit id) Q s:=fun _ m _ _ _ _ hr=>wpIn_exit ⟨s,m,h,hr⟩
def zJ(id:Nat)(K:AS->Prop)(Q:Exit->AS->Prop):Exit->AS->Prop
  | .exit id',s=>match ab3 id' id with |true=>K s |false=>Q (.exit id') s
  | .normal,s=>K s
  |e,s=>Q e s
theorem Mu{id:Nat}{c:Code}(h:br P N c (zJ id (Q .normal) Q) s):br P N (.block id c) Q s:=by
 intro C m a w n hN hr;refine wpIn_block (wpIn_mono (h C m a w n hN hr) ?_);rintro e a' w' ⟨s',m',hq,hr'⟩;cases e with
 |exit id' =>
  simp only[Exit.inBlock];simp only[zJ]at hq;split at hq
  ·rename_i hb;rw[agz (afo hb)];exact⟨s',m',hq,hr'⟩
  ·rename_i hb;rw[agy (acw hb)];exact⟨s',m',hq,hr'⟩
 |_=>exact⟨s',m',hq,hr'⟩
inductive Ev(s:AS):ag8->AV->Prop
  |tmp {t:Nat} {x:AV} (h:s.get t=some x):Ev s (.tmp t) x
  |opt {t:Nat} {b:Bool} {x:AV} (h:s.get t=some (.opt b x)) (hb:b=true):Ev s (.tmp t) x
  |const (c:ag9):Ev s (.const c) (.v c)
  |func (f:FuncId):Ev s (.func f) (.v (.func (.func f) #[] #[]))
theorem Ev.rep{C:Ctx}{m:Nat->Option Nat}{a:Act}{w:ahc}(hr:RelM C s m a w){o:ag8}{x:AV}(h:Ev s o x) :
  Rep (Im C.ext s.hp m w) (Sz w) m (a.eval o) x:=by
 cases h with
 |tmp h=>exact(hr.slots _ _ h).2
 | @opt t _ _ h hb =>
  have h2:=(hr.slots _ _ h).2;show Rep _ _ m (a.tmps.getD t undef) x;generalize a.tmps.getD t undef=u at h2;cases h2 with |opt h' _=>exact h' hb
 |const c=>exact .v _
 |func f=>exact .v _
theorem yr{c:ag8}{x y:Code}{b:Bool}(hc:Ev s c (.v (.bool b)))(ht:b=true->br P N x Q s)(hf:b=false->br P N y Q s) :
  br P N (.cond c x y) Q s:=by
 intro C m a w n hN hr;have h:=hc.rep hr
 have:a.eval c=.bool b:=by
  generalize a.eval c=v at h;cases h;rfl
 exact wpIn_cond_split this (fun hb=>ht hb C m a w n hN hr) (fun hb=>hf hb C m a w n hN hr)
theorem X7{F:Fence}{n9:Nat}{c:Code}{Q:Exit->Act->ahc->Prop}{a:Act}{w:ahc}(I:Nat->Act->ahc->Prop){n:Nat}(h₀:I n a w)
  (round:∀n a w,I n a w->c.wpIn F n9 P (Exit.then (fun a' w'=>∃n',n'<n/\I n' a' w') Q) a w):(Code.loop c).wpIn F n9 P Q a w:=by
 intro b k cs hro hb hr
 have key:∀n a w,I n a w->∃e a' w',Q e a' w'/\ArrivesIn (Machine.fenced P F) P (lone (b.atR a (.code c :: .inLoop c::k)) cs w) b k cs e a' w':=by
  intro n
  induction n using Nat.strongRecOn with
  |_ n ih =>
   intro a w hI;obtain⟨e,a₁,w₁,hq,harr⟩:=round n a w hI b (.inLoop c::k) cs hro hb hr;cases e with
   |normal =>
    obtain⟨n',hlt,hI₁⟩:=hq;obtain⟨e₂,a₂,w₂,hq₂,harr₂⟩:=ih n' hlt a₁ w₁ hI₁;exact⟨e₂,a₂,w₂,hq₂,.of_steps (StepsIn.trans harr (.one (fenced_calm hb hr rfl) stepR_inLoop)) harr₂⟩
   |_=>exact⟨_,a₁,w₁,hq,.pass (x:=.inLoop c) rfl (fun _ _=>.inl (by simp)) harr⟩
 obtain⟨e,a',w',hq,harr⟩:=key n a w h₀;exact⟨e,a',w',hq,.of_steps (.one (fenced_calm hb hr rfl) stepR_loop) harr⟩
theorem pE{c:Code}(I:Nat->AS->Prop){n:Nat}{s':AS}(hw:Wk s s')(h₀:I n s')
  (round:∀n s,I n s->∀K:AS->Prop,(∀s1 s2 n',Wk s1 s2->I n' s2->n'<n->K s1)->br P N c (Ho K Q) s):br P N (.loop c) Q s:=by
 intro C m a w n9 hN hr;obtain⟨m1,hr1⟩:=hw C m a w hr;refine X7 (fun n a w=>∃s m,I n s/\RelM C s m a w) ⟨s',m1,h₀,hr1⟩ ?_;rintro n a w ⟨s,m,hI,hr⟩;refine wpIn_mono (round n s hI (fun s1=>∃s2 n',Wk s1 s2/\I n' s2/\n'<n) (fun s1 s2 n' h1 h2 h3=>⟨s2,n',h1,h2,h3⟩) C m a w n9 hN hr) ?_;rintro e a' w' ⟨s1,m1,hq,hr1⟩;cases e with
 |normal =>
  obtain⟨s2,n',h1,h2,h3⟩:=hq;obtain⟨m2,hr2⟩:=h1 C m1 a' w' hr1;exact⟨n',h3,s2,m2,h2,hr2⟩
 |_=>exact⟨s1,m1,hq,hr1⟩
theorem Yk{id:Nat}{ops:List Oper}(hd:ops.all nd=true)(h:gB P N ops.toArray ops s [] (fun s' _=>Q .normal s')):br P N (.region id ops.toArray false) Q s:=by
 intro C m a w n hN hr;refine wpIn_region ?_;have:=QH (C:=C) (n:=n) hN (Q:=fun e a' w'=>∃s' m',Q e s'/\RelM C s' m' a' w') (fun s us m a w hq hr=>⟨s,m,hq,hr⟩) ops 0 s [] m a w (by simp) hd h hr;rw[List.range_eq_range'];simpa using this
theorem QP{R:Array Oper}{K:AS->List Out->Prop}:∀(ops:List Oper)(s:AS)(us:List Out),gB P N R ops s us K ->
  ∃us',us'.length=ops.length/\K (vw ops.toArray us' s (fun _=>true) ops.length) (us++us') /\
   ∀(i:Nat) o u,ops[i]?=some o->us'[i]?=some u->Step P N R (vw ops.toArray us' s (fun _=>true) i) o u:=by
 intro ops
 induction ops with
 |nil=>intro s us h;exact⟨[],rfl,by simpa[vw,gB]using h,by simp⟩
 |cons o ops ih =>
  intro s us h;obtain⟨u,hs,hn,h⟩:=h;obtain⟨us',h1,h2,h3⟩:=ih _ _ h
  have hv:∀i,vw (o::ops).toArray (u::us') s (fun _=>true) (i+1)=vw ops.toArray us' (s.app o.dst u) (fun _=>true) i:=by
   intro i
   induction i with
   |zero=>simp[vw]
   |succ i ih =>
    rw[vw,ih,vw];simp
  refine⟨u::us',by simp[h1],?_,?_⟩
  ·rw[af9,hv];simpa using h2
  ·intro i o' u' ho hu;cases i with
   |zero=>simp at ho hu;subst ho;subst hu;simpa[vw]using hs
   |succ i =>
    rw[hv];exact h3 i o' u' (by simpa using ho) (by simpa using hu)
theorem OI{id:Nat}{ops:List Oper}(hd:ops.all nd=true)(hm:P.follows .mixedOrders=true)
  (h:gB P N ops.toArray ops s [] (fun s' us=>chk ops us s=true/\Q .normal s')):br P N (.region id ops.toArray true) Q s:=by
 intro C m a w n hN hr;obtain⟨us,h1,⟨h2,h3⟩,h4⟩:=QP ops s [] h;refine wpIn_region_any hm ?_;refine SX (C:=C) (by simpa using hd) hN (U:=us) (s0:=s) (by simpa using h1) (by simpa using h4) (by simpa using h2) ?_ _ _ (by simp) ?_ ?_ m a _ ?_
 ·intro m a w hr;exact⟨_,m,h3,by simpa using hr⟩
 ·intro i o _ hl;simp only[afx,ae6]at hl;split at hl <;> simp at hl
 ·exact af2 (List.length_filter_le _ _) (by simp)
 ·have hz:∀n,vw ops.toArray us s (fun i=>(afg ops.toArray.size false).getD i false) n=s:=by
   intro n
   induction n with
   |zero=>rfl
   |succ n ih =>
    rw[vw,ih]
    have:(afg ops.toArray.size false).getD n false=false:=by
     simp only[afx,ae6];split <;> rfl
    rw[this]
  rw[hz];exact hr.drawn _
end Go.Lw
namespace Go.Lw
variable{P:ahb}{N:Nat}{R:Array Oper}{s:AS}{pos:String}{after:Array Edge}
theorem ar{o:Oper}{ops:List Oper}{us:List Out}{K:AS->List Out->Prop}{u:Out}(hs:Step P N R s o u)(hn:jt s u)
  (h:gB P N R ops (s.app o.dst u) (us++[u]) K):gB P N R (o::ops) s us K:=⟨u,hs,hn,h⟩
def aj:ag8->List Nat
  | .tmp t=>[t]
  |_=>[]
theorem Ev.agree{s':AS}{u:Out}(h:fT s s' u){o:ag8}{x:AV}(he:Ev s o x)(hs:∀t∈aj o,t∈u.rt):Ev s' o x:=by
 cases he with
 |tmp ht=>exact .tmp ((h.1 _ (hs _ (by simp[aj]))).trans ht)
 |opt ht hb=>exact .opt ((h.1 _ (hs _ (by simp[aj]))).trans ht) hb
 |const c=>exact .const c
 |func f=>exact .func f
theorem mN{o:Oper}(hg:o.guard=none)(y:Nat->Option Bool):Region.wanted o y=true:=by simp[Region.wanted,hg]
theorem cK{o:Oper}{d:Nat}{x:AV}{rt rd:List Nat}(hg:o.guard=none)(hd:o.dst=some d)(hN:acm d N=true)
  (h:∀s',fT s s' ⟨some x,[],rt,rd⟩->∀C m a w,RelM C s' m a w ->
   ∃v,(execOp a.eval o).run P w=.ok (.value v) w/\Rep (Im C.ext s'.hp m w) (Sz w) m v x):Step P N R s o ⟨some x,[],rt,rd⟩:=by
 refine⟨fun s' hag _ C m a w Q next hC hr hnext=>?_⟩;rw[agz (mN hg _)];refine vg ?_;obtain⟨v,h1,h2⟩:=h s' hag C m a w hr;rw[ab7]at hN;unfold Oper.wp;rw[h1];simp only[Oper.upon,hd,Act.put];refine hnext m _ _ ?_;have:=hr.put d v (some x) (fun y hy=>by cases hy;exact⟨by have:=hr.nt;omega,h2⟩);simpa[AS.app,hd]using this
theorem VG{d:Nat}{x:ag8}{v:AV}{t:aha}(he:Ev s x v)(hN:acm d N=true) :
  Step P N R s ⟨some d,.move x,t,pos,after,none⟩ ⟨some v,[],aj x,[]⟩ :=
 cK rfl rfl hN fun s' hag C m a w hr=>⟨a.eval x,rfl,(he.agree hag (fun _ h=>h)).rep hr⟩
theorem Q4{d:Nat}{x:ag8}{v:AV}{t:aha}(he:Ev s x v)(hN:acm d N=true) :
  Step P N R s ⟨some d,.assign x,t,pos,after,none⟩ ⟨some v,[],aj x,[]⟩ :=
 cK rfl rfl hN fun s' hag C m a w hr=>⟨a.eval x,rfl,(he.agree hag (fun _ h=>h)).rep hr⟩
def Sub(x y:AV):Prop:=∀g S m v,Rep g S m v x->Rep g S m v y
theorem Sub.nil(sz:Nat)(a:Option Addr)(c:Nat):Sub (.v (.slice a 0 c)) (.lst sz []):=fun g S m v h=>by cases h;exact .lst0 a c sz
theorem qL{d:Nat}{op:Op}{x:ag8}{vx y:ag9}{t:aha}(he:Ev s x (.v vx))(hN:acm d N=true)
  (h:∀(ρ:ag8->ag9)(w:ahc),ρ x=vx->(execOp ρ ⟨some d,op,t,pos,after,none⟩).run P w=.ok (.value y) w) :
  Step P N R s ⟨some d,op,t,pos,after,none⟩ ⟨some (.v y),[],aj x,[]⟩ :=
 cK rfl rfl hN fun s' hag C m a w hr=>⟨y,h _ _ (by
  have:=(he.agree hag (fun _ h=>h)).rep hr;generalize a.eval x=u at this;cases this;rfl),.v y⟩
theorem jv{d:Nat}{op:Op}{x x':ag8}{vx vx' y:ag9}{t:aha}(he:Ev s x (.v vx))(he':Ev s x' (.v vx'))
  (hN:acm d N=true)
  (h:∀(ρ:ag8->ag9)(w:ahc),ρ x=vx->ρ x'=vx'->(execOp ρ ⟨some d,op,t,pos,after,none⟩).run P w=.ok (.value y) w) :
  Step P N R s ⟨some d,op,t,pos,after,none⟩ ⟨some (.v y),[],aj x++aj x',[]⟩ :=
 cK rfl rfl hN fun s' hag C m a w hr=>⟨y,h _ _ (by
  have:=(he.agree hag (fun _ h=>aft.2 (.inl h))).rep hr;generalize a.eval x=u at this;cases this;rfl) (by
  have:=(he'.agree hag (fun _ h=>aft.2 (.inr h))).rep hr;generalize a.eval x'=u at this;cases this;rfl),.v y⟩
theorem Pb{d:Nat}{x:ag8}{b:Bool}{T t:aha}(he:Ev s x (.v (.bool b)))(hN:acm d N=true) :
  Step P N R s ⟨some d,.unOp .not T x,t,pos,after,none⟩ ⟨some (.v (.bool !b)),[],aj x,[]⟩ :=
 qL he hN fun ρ w h=>by simp[execOp,h,Op.unary]
theorem yE{d:Nat}{x:ag8}{k:IntKind}{n:Int}{T t:aha}(he:Ev s x (.v (.int k n)))(hN:acm d N=true) :
  Step P N R s ⟨some d,.unOp .neg T x,t,pos,after,none⟩ ⟨some (.v (.int k (k.wrap (0-n)))),[],aj x,[]⟩ :=
 qL he hN fun ρ w h=>by simp[execOp,h,Op.unary,Op.intArith]
theorem M5{d:Nat}{x:ag8}{k k':IntKind}{n:Int}{S T t:aha}{ts ti:TI}(he:Ev s x (.v (.int k n)))
  (hN:acm d N=true) (hS:au P S=some ts) (hT:au P T=some ti) (hk:ti.k=.int k') :
  Step P N R s ⟨some d,.convert S T x,t,pos,after,none⟩ ⟨some (.v (.int k' (k'.wrap n))),[],aj x,[]⟩ :=
 qL he hN fun ρ w h=>by
  obtain⟨d1,h1,-,-,-⟩:=dg hS w;obtain⟨d2,h2,h3,-,-⟩:=dg hT w;obtain rfl:=HF (h3.trans hk);simp[execOp,h,convert,h1,h2,Conv.intToInt]
theorem YT{d:Nat}{x:ag8}{v:ag9}{T t:aha}{ti:TI}(he:Ev s x (.v v))(hN:acm d N=true)
  (hT:au P T=some ti) (hk:(match ti.k with | .int _=>true | .struct=>true | .pointer _=>true | .string=>true |_=>false)=true) :
  Step P N R s ⟨some d,.makeInterface T x,t,pos,after,none⟩ ⟨some (.v (.iface T v)),[],aj x,[]⟩ :=
 qL he hN fun ρ w h=>by
  obtain⟨d2,h2,h3,-,-⟩:=dg hT w
  have:∀ms,d2≠.interface ms:=by
   rintro ms rfl;rw[<- h3]at hk;simp[gk]at hk
  simp only[execOp,h,Instr.makeInterface,Sem.run_bind,h2,Result.andThen_ok];cases d2 <;> first |rfl |exact ag5 rfl (this _)
def fy(op:BinOp)(a b:Int):Int:=match op with | .add=>a+b | .sub=>a-b |_=>a*b
theorem Iq{d:Nat}{op:BinOp}{x y:ag8}{k:IntKind}{a b:Int}{S T t:aha}
  (hx:Ev s x (.v (.int k a))) (hy:Ev s y (.v (.int k b))) (hop:(match op with | .add | .sub | .mul=>true |_=>false)=true) (hN:acm d N=true) :
  Step P N R s ⟨some d,.binOp op S x y T,t,pos,after,none⟩ ⟨some (.v (.int k (k.wrap (fy op a b)))),[],aj x++aj y,[]⟩ :=
 jv hx hy hN fun ρ w h1 h2=>by
  cases op <;> simp at hop <;> simp[execOp,h1,h2,eqGuard,binOp,Op.intArith,fy]
def aa(op:BinOp)(a b:Int):Bool:=match op with
  | .eql=>a==b | .neq=>a != b | .lss=>a<b | .leq=>a<=b | .gtr=>a>b |_=>a>=b
theorem L7{d:Nat}{op:BinOp}{x y:ag8}{k:IntKind}{a b:Int}{S T t:aha}
  (hx:Ev s x (.v (.int k a))) (hy:Ev s y (.v (.int k b))) (hop:(match op with | .eql | .neq | .lss | .leq | .gtr | .geq=>true |_=>false)=true) (hN:acm d N=true) :
  Step P N R s ⟨some d,.binOp op S x y T,t,pos,after,none⟩ ⟨some (.v (.bool (aa op a b))),[],aj x++aj y,[]⟩ :=
 jv hx hy hN fun ρ w h1 h2=>by
  cases op <;> simp at hop <;> simp[execOp,h1,h2,eqGuard,binOp,Op.intCmp,aa]
theorem IZ{d:Nat}{x y:ag8}{k:IntKind}{a b:Int}{S T t:aha}
  (hx:Ev s x (.v (.int k a))) (hy:Ev s y (.v (.int k b))) (hb:b≠0) (hN:acm d N=true) :
  Step P N R s ⟨some d,.binOp .quo S x y T,t,pos,after,none⟩ ⟨some (.v (.int k (k.wrap (a.tdiv b)))),[],aj x++aj y,[]⟩ :=
 jv hx hy hN fun ρ w h1 h2=>by simp[execOp,h1,h2,eqGuard,binOp,Op.intDiv,hb]
theorem Gp{d:Nat}{x y:ag8}{k:IntKind}{a b:Int}{S T t:aha}
  (hx:Ev s x (.v (.int k a))) (hy:Ev s y (.v (.int k b))) (hb:b≠0) (hN:acm d N=true) :
  Step P N R s ⟨some d,.binOp .rem S x y T,t,pos,after,none⟩ ⟨some (.v (.int k (a.tmod b))),[],aj x++aj y,[]⟩ :=
 jv hx hy hN fun ρ w h1 h2=>by simp[execOp,h1,h2,eqGuard,binOp,Op.intDiv,hb]
theorem Gy{d:Nat}{x y:ag8}{k k':IntKind}{a b:Int}{S T t:aha}
  (hx:Ev s x (.v (.int k a))) (hy:Ev s y (.v (.int k' b))) (hb:0<=b) (hN:acm d N=true) :
  Step P N R s ⟨some d,.binOp .shl S x y T,t,pos,after,none⟩ ⟨some (.v (.int k (k.wrap (a*2^(min b.toNat k.bits))))),[],aj x++aj y,[]⟩ :=
 jv hx hy hN fun ρ w h1 h2=>by simp[execOp,h1,h2,eqGuard,binOp,Op.shift,Int.not_lt.2 hb]
theorem Mg{d:Nat}{x y:ag8}{k k':IntKind}{a b:Int}{S T t:aha}
  (hx:Ev s x (.v (.int k a))) (hy:Ev s y (.v (.int k' b))) (hb:0<=b) (hN:acm d N=true) :
  Step P N R s ⟨some d,.binOp .shr S x y T,t,pos,after,none⟩ ⟨some (.v (.int k (a.fdiv (2^(min b.toNat k.bits))))),[],aj x++aj y,[]⟩ :=
 jv hx hy hN fun ρ w h1 h2=>by simp[execOp,h1,h2,eqGuard,binOp,Op.shift,Int.not_lt.2 hb]
def mR(op:BinOp)(k:IntKind)(a b:Int):Int :=
  let x:=BitVec.ofInt k.bits a
  let y:=BitVec.ofInt k.bits b
  k.wrap ((match op with | .and=>x &&& y | .or=>x ||| y | .xor=>x ^^^ y |_=>x &&& ~~~y).toNat:Int)
theorem JA{d:Nat}{op:BinOp}{x y:ag8}{k:IntKind}{a b:Int}{S T t:aha}
  (hx:Ev s x (.v (.int k a))) (hy:Ev s y (.v (.int k b))) (hop:(match op with | .and | .or | .xor | .andNot=>true |_=>false)=true) (hN:acm d N=true) :
  Step P N R s ⟨some d,.binOp op S x y T,t,pos,after,none⟩ ⟨some (.v (.int k (mR op k a b))),[],aj x++aj y,[]⟩ :=
 jv hx hy hN fun ρ w h1 h2=>by
  cases op <;> simp at hop <;> simp[execOp,h1,h2,eqGuard,binOp,Op.intBits,mR]
theorem GQ{d:Nat}{x y:ag8}{a b:ByteArray}{S T t:aha}
  (hx:Ev s x (.v (.string a))) (hy:Ev s y (.v (.string b))) (hN:acm d N=true) :
  Step P N R s ⟨some d,.binOp .eql S x y T,t,pos,after,none⟩ ⟨some (.v (.bool (a.toList==b.toList))),[],aj x++aj y,[]⟩ :=
 jv hx hy hN fun ρ w h1 h2=>by simp[execOp,h1,h2,eqGuard,binOp,Op.stringOp]
theorem Lh{d:Nat}{x y:ag8}{a b:ByteArray}{S T t:aha}
  (hx:Ev s x (.v (.string a))) (hy:Ev s y (.v (.string b))) (hN:acm d N=true) :
  Step P N R s ⟨some d,.binOp .neq S x y T,t,pos,after,none⟩ ⟨some (.v (.bool !(a.toList==b.toList))),[],aj x++aj y,[]⟩ :=
 jv hx hy hN fun ρ w h1 h2=>by simp[execOp,h1,h2,eqGuard,binOp,Op.stringOp]
theorem EX{S:aha}{w:ahc}(h3:(underlying S).run P w=.ok .bool w)(a b:Bool):(Op.equal S (.bool a) (.bool b)).run P w=.ok (a==b) w:=by
 show(Op.equalIn (9999+1) S _ _).run P w=_;rw[Op.equalIn];simp[h3]
theorem FB{S:aha}{w:ahc}{ms:Array (String×aha)}(h3:(underlying S).run P w=.ok (.interface ms) w){v:ag9}
  (hv:v=.nilIface\/∃T u,v=.iface T u):(Op.equal S v .nilIface).run P w=.ok (match v with | .nilIface=>true |_=>false) w:=by
 show(Op.equalIn (9999+1) S _ _).run P w=_;rw[Op.equalIn];rcases hv with rfl |⟨T',u,rfl⟩ <;> simp[h3]
theorem X4{d:Nat}{x y:ag8}{a b:Bool}{S T t:aha}{ti:TI}
  (hx:Ev s x (.v (.bool a))) (hy:Ev s y (.v (.bool b))) (hS:au P S=some ti) (hk:ti.k=.bool) (hN:acm d N=true) :
  Step P N R s ⟨some d,.binOp .eql S x y T,t,pos,after,none⟩ ⟨some (.v (.bool (a==b))),[],aj x++aj y,[]⟩ :=
 jv hx hy hN fun ρ w h1 h2=>by
  obtain⟨d2,h3,h4,-,-⟩:=dg hS w;obtain rfl:=G0 (h4.trans hk);simp[execOp,h1,h2,eqGuard,binOp,EX h3]
theorem Tv{d:Nat}{x y:ag8}{a b:Bool}{S T t:aha}{ti:TI}
  (hx:Ev s x (.v (.bool a))) (hy:Ev s y (.v (.bool b))) (hS:au P S=some ti) (hk:ti.k=.bool) (hN:acm d N=true) :
  Step P N R s ⟨some d,.binOp .neq S x y T,t,pos,after,none⟩ ⟨some (.v (.bool (a != b))),[],aj x++aj y,[]⟩ :=
 jv hx hy hN fun ρ w h1 h2=>by
  obtain⟨d2,h3,h4,-,-⟩:=dg hS w;obtain rfl:=G0 (h4.trans hk);simp[execOp,h1,h2,eqGuard,binOp,EX h3,bne]
def e8:ag9->Bool
  | .nilIface=>true
  |_=>false
theorem Jw{d:Nat}{x:ag8}{v:ag9}{S T t:aha}{ti:TI}{n:Nat}
  (hx:Ev s x (.v v)) (hv:v=.nilIface\/∃T u,v=.iface T u) (hS:au P S=some ti) (hk:ti.k=.iface n) (hN:acm d N=true) :
  Step P N R s ⟨some d,.binOp .eql S x (.const .nilIface) T,t,pos,after,none⟩ ⟨some (.v (.bool (e8 v))),[],aj x++[],[]⟩ :=
 cK rfl rfl hN fun s' hag C m a w hr=>⟨.bool (e8 v),by
  have h:=(hx.agree hag (fun _ h=>aft.2 (.inl h))).rep hr
  have h1:a.eval x=v:=by
   generalize a.eval x=u at h;cases h;rfl
  have h2:a.eval (.const .nilIface)=.nilIface:=rfl;obtain⟨d2,h3,h4,-,-⟩:=dg hS w;obtain⟨ms,rfl,-⟩:=Kv (h4.trans hk);have h5:=FB h3 hv;rcases hv with rfl |⟨T',u,rfl⟩ <;> simp[execOp,h1,h2,eqGuard,binOp,h5,e8],.v _⟩
theorem Mi{d:Nat}{x:ag8}{v:ag9}{S T t:aha}{ti:TI}{n:Nat}
  (hx:Ev s x (.v v)) (hv:v=.nilIface\/∃T u,v=.iface T u) (hS:au P S=some ti) (hk:ti.k=.iface n) (hN:acm d N=true) :
  Step P N R s ⟨some d,.binOp .neq S x (.const .nilIface) T,t,pos,after,none⟩ ⟨some (.v (.bool !(e8 v))),[],aj x++[],[]⟩ :=
 cK rfl rfl hN fun s' hag C m a w hr=>⟨.bool !(e8 v),by
  have h:=(hx.agree hag (fun _ h=>aft.2 (.inl h))).rep hr
  have h1:a.eval x=v:=by
   generalize a.eval x=u at h;cases h;rfl
  have h2:a.eval (.const .nilIface)=.nilIface:=rfl;obtain⟨d2,h3,h4,-,-⟩:=dg hS w;obtain⟨ms,rfl,-⟩:=Kv (h4.trans hk);have h5:=FB h3 hv;rcases hv with rfl |⟨T',u,rfl⟩ <;> simp[execOp,h1,h2,eqGuard,binOp,h5,e8],.v _⟩
theorem G8{d:Nat}{x:ag8}{sz:Nat}{es:List AV}{T t:aha}{ti:TI}{e:Nat}
  (hx:Ev s x (.lst sz es)) (hT:au P T=some ti) (hk:ti.k=.slice e) (hN:acm d N=true) :
  Step P N R s ⟨some d,.call ⟨.builtin .len,#[x],#[T]⟩,t,pos,after,none⟩ ⟨some (.v (.int .i64 es.length)),[],aj x,[]⟩ :=
 cK rfl rfl hN fun s' hag C m a w hr=>⟨.int .i64 es.length,by
  have h:=(hx.agree hag (fun _ h=>h)).rep hr;obtain⟨d2,h3,h4,-,-⟩:=dg hT w;obtain rfl:=gT (h4.trans hk);generalize hu:a.eval x=u at h;cases h <;> simp[execOp,resolve,hu,invoke,builtin,Builtin.len_,h3,goInt],.v _⟩
theorem V8{d:Nat}{x:ag8}{k sz off len:Nat}{T t:aha}{ti:TI}{e:Nat}
  (hx:Ev s x (.ms k sz off len)) (hT:au P T=some ti) (hk:ti.k=.slice e) (hN:acm d N=true) :
  Step P N R s ⟨some d,.call ⟨.builtin .len,#[x],#[T]⟩,t,pos,after,none⟩ ⟨some (.v (.int .i64 len)),[],aj x,[]⟩ :=
 cK rfl rfl hN fun s' hag C m a w hr=>⟨.int .i64 len,by
  have h:=(hx.agree hag (fun _ h=>h)).rep hr;obtain⟨d2,h3,h4,-,-⟩:=dg hT w;obtain rfl:=gT (h4.trans hk);generalize hu:a.eval x=u at h;cases h <;> simp[execOp,resolve,hu,invoke,builtin,Builtin.len_,h3,goInt],.v _⟩
theorem aa0{d:Nat}{x:ag8}{b:ByteArray}{T t:aha}{ti:TI}
  (hx:Ev s x (.v (.string b))) (hT:au P T=some ti) (hk:ti.k=.string) (hN:acm d N=true) :
  Step P N R s ⟨some d,.call ⟨.builtin .len,#[x],#[T]⟩,t,pos,after,none⟩ ⟨some (.v (.int .i64 b.size)),[],aj x,[]⟩ :=
 qL hx hN fun ρ w h=>by
  obtain⟨d2,h3,h4,-,-⟩:=dg hT w;obtain rfl:=KY (h4.trans hk);simp[execOp,resolve,h,invoke,builtin,Builtin.len_,h3,goInt]
theorem XP{d:Nat}{x:ag8}{a:Option Addr}{n c:Nat}{T t:aha}{ti:TI}{e:Nat}
  (hx:Ev s x (.v (.slice a n c))) (hT:au P T=some ti) (hk:ti.k=.slice e) (hN:acm d N=true) :
  Step P N R s ⟨some d,.call ⟨.builtin .len,#[x],#[T]⟩,t,pos,after,none⟩ ⟨some (.v (.int .i64 n)),[],aj x,[]⟩ :=
 qL hx hN fun ρ w h=>by
  obtain⟨d2,h3,h4,-,-⟩:=dg hT w;obtain rfl:=gT (h4.trans hk);simp[execOp,resolve,h,invoke,builtin,Builtin.len_,h3,goInt]
theorem sV{d:Nat}{x y:ag8}{a b:Int}{k:IntKind}{T T' t:aha}
  (hx:Ev s x (.v (.int k a))) (hy:Ev s y (.v (.int k b))) (hN:acm d N=true) :
  Step P N R s ⟨some d,.call ⟨.builtin .max,#[x,y],#[T,T']⟩,t,pos,after,none⟩ ⟨some (.v (.int k (max a b))),[],aj x++aj y,[]⟩ :=
 jv hx hy hN fun ρ w h1 h2=>by
  have:(if b>a then b else a)=max a b:=by split <;> omega
  simp[execOp,resolve,h1,h2,invoke,builtin,Builtin.max_,Builtin.max2,this]
theorem TU{d:Nat}{x:ag8}{xs:List AV}{i:Nat}{y:AV}{t:aha}
  (hx:Ev s x (.tup xs)) (hy:xs[i]?=some y) (hN:acm d N=true) :
  Step P N R s ⟨some d,.extract x i,t,pos,after,none⟩ ⟨some y,[],aj x,[]⟩ :=
 cK rfl rfl hN fun s' hag C m a w hr=>by
  have h:=(hx.agree hag (fun _ h=>h)).rep hr;generalize hu:a.eval x=u at h;cases h with
  | @tup _ vs _ hn hrr =>
   have hi:i<vs.size:=by
    rw[hn];rcases afv i xs.length with h |h
    ·exact h
    ·rw[af0 h]at hy;cases hy
   exact⟨vs[i],by simp[execOp,hu,Instr.extract,hi],hrr i _ y (by simp[hi]) hy⟩
theorem DN{d:Nat}{c x y:ag8}{b bx bz:Bool}{t:aha}(hc:Ev s c (.v (.bool b)))
  (hx:b=true->Ev s x (.v (.bool bx))) (hy:b=false->Ev s y (.v (.bool bz))) (hN:acm d N=true) :
  Step P N R s ⟨some d,.pick c x y,t,pos,after,none⟩ ⟨some (.v (.bool (cond b bx bz))),[],aj c++(aj x++aj y),[]⟩ :=
 cK rfl rfl hN fun s' hag C m a w hr=>by
  have hval:∀(o:ag8)(z:Bool),(∀t∈aj o,t∈aj c++(aj x++aj y))->Ev s o (.v (.bool z))->a.eval o=.bool z:=by
   intro o z hsub h;have:=(h.agree hag hsub).rep hr;generalize a.eval o=u at this;cases this;rfl
  have h1:=hval c b (fun t h=>by simp[h]) hc;cases b with
  |true=>exact⟨.bool bx,by simp[execOp,h1,asBool,hval x bx (fun t h=>by simp[h]) (hx rfl)],.v _⟩
  |false=>exact⟨.bool bz,by simp[execOp,h1,asBool,hval y bz (fun t h=>by simp[h]) (hy rfl)],.v _⟩
theorem fc{d j g:Nat}{op:Op}{t:aha}{want b:Bool}{x:AV}{rt rd:List Nat}
  (hj:(R[j]?).bind (·.dst)=some g) (hb:s.get g=some (.v (.bool b))) (hN:acm d N=true)
  (h:b=want->Step P N R s ⟨some d,op,t,pos,after,none⟩ ⟨some x,[],rt,rd⟩) :
  Step P N R s ⟨some d,op,t,pos,after,some (j,want)⟩ ⟨some (.opt (b==want) x),[],g::rt,rd⟩:=by
 refine⟨fun s' hag hnew C m a w Q next hC hr hnext=>?_⟩;have hg:=hr.slots g _ ((hag.1 g (by simp)).trans hb)
 have hgv:a.tmps[g]?=some (.bool b):=by
  obtain⟨h1,h2⟩:=hg;generalize hu:a.tmps.getD g undef=u at h2;cases h2;simp only[afx]at hu;rw[ae4 h1]at hu ⊢;simpa using hu
 have hy:yielded R a.tmps j=some b:=by simp[yielded,hj,hgv]
 have hd:d<a.tmps.size:=by rw[ab7]at hN;have:=hr.nt;omega
 by_cases hbw:b=want
 ·subst hbw;have hwt:Region.wanted ⟨some d,op,t,pos,after,some (j,b)⟩ (yielded R a.tmps)=true:=by simp[Region.wanted,hy]
  rw[agz hwt];have:=(h rfl).run s' ⟨fun t ht=>hag.1 t (by simp[show t∈rt from ht]),hag.2⟩ (fun k hk=>by cases hk) C m a w Q next hC hr (fun m' a' w' h'=>hnext m' a' w' ?_)
  ·rw[agz (mN rfl _)]at this;exact this
  ·refine⟨fun t y hy=>?_,h'.heap,h'.frame,h'.new,h'.keep,h'.defers,h'.nt⟩;simp only[gq]at hy;split at hy
   ·rename_i hdt;cases hy;have:=h'.slots t x (by simp only[gq,agz hdt]);exact⟨this.1,.opt (fun _=>this.2) (fun h=>by simp at h)⟩
   ·rename_i hdt;exact h'.slots t y (by simp only[gq,agy hdt];exact hy)
 ·have hwt:¬ Region.wanted ⟨some d,op,t,pos,after,some (j,want)⟩ (yielded R a.tmps)=true:=by simp[Region.wanted,hy,hbw]
  rw[agy hwt];have:=hr.put d undef (some (.opt (b==want) x)) (fun y hy=>by cases hy;exact⟨hd,.opt (fun h=>ag5 (beq_iff_eq.1 h) hbw) (fun _=>rfl)⟩);refine hnext m _ _ ?_;simpa[AS.app,Act.put]using this
theorem ph{d j g:Nat}{op:Op}{t:aha}{want b c:Bool}{x:AV}{rt rd:List Nat}
  (hj:(R[j]?).bind (·.dst)=some g) (hb:s.get g=some (.opt c (.v (.bool b)))) (hN:acm d N=true)
  (h:c=true->b=want->Step P N R s ⟨some d,op,t,pos,after,none⟩ ⟨some x,[],rt,rd⟩) :
  Step P N R s ⟨some d,op,t,pos,after,some (j,want)⟩ ⟨some (.opt (c&&b==want) x),[],g::rt,rd⟩:=by
 refine⟨fun s' hag hnew C m a w Q next hC hr hnext=>?_⟩;have hg:=hr.slots g _ ((hag.1 g (by simp)).trans hb);have hd:d<a.tmps.size:=by rw[ab7]at hN;have:=hr.nt;omega
 have hgv:(c=true/\a.tmps[g]?=some (.bool b))\/(c=false/\a.tmps[g]?=some undef):=by
  obtain⟨h1,h2⟩:=hg;generalize hu:a.tmps.getD g undef=u at h2;simp only[afx]at hu;rw[ae4 h1]at hu ⊢;simp only[afj]at hu;cases h2 with
  |opt h2 h2' =>
   cases c with
   |true=>have:=h2 rfl;cases this;exact .inl ⟨rfl,by rw[hu]⟩
   |false=>exact .inr ⟨rfl,by rw[hu,h2' rfl]⟩
 have hno:∀hwt:¬Region.wanted ⟨some d,op,t,pos,after,some (j,want)⟩ (yielded R a.tmps)=true,(c&&b==want)=false ->
   if Region.wanted ⟨some d,op,t,pos,after,some (j,want)⟩ (yielded R a.tmps)then wq P ⟨some d,op,t,pos,after,some (j,want)⟩ a w next Q
    else next (a.put (some d) undef) w:=by
  intro hwt hc;rw[agy hwt];have:=hr.put d undef (some (.opt (c&&b==want) x)) (fun y hy=>by cases hy;exact⟨hd,.opt (fun h=>by rw[hc]at h;cases h) (fun _=>rfl)⟩);refine hnext m _ _ ?_;simpa[AS.app,Act.put]using this
 rcases hgv with⟨rfl,hgv⟩ |⟨rfl,hgv⟩
 ·have hy:yielded R a.tmps j=some b:=by simp[yielded,hj,hgv]
  by_cases hbw:b=want
  ·subst hbw;have hwt:Region.wanted ⟨some d,op,t,pos,after,some (j,b)⟩ (yielded R a.tmps)=true:=by simp[Region.wanted,hy]
   rw[agz hwt];have:=(h rfl rfl).run s' ⟨fun t ht=>hag.1 t (by simp[show t∈rt from ht]),hag.2⟩ (fun k hk=>by cases hk) C m a w Q next hC hr (fun m' a' w' h'=>hnext m' a' w' ?_)
   ·rw[agz (mN rfl _)]at this;exact this
   ·refine⟨fun t y hy=>?_,h'.heap,h'.frame,h'.new,h'.keep,h'.defers,h'.nt⟩;simp only[gq]at hy;split at hy
    ·rename_i hdt;cases hy;have:=h'.slots t x (by simp only[gq,agz hdt]);exact⟨this.1,.opt (fun _=>this.2) (fun h=>by simp at h)⟩
    ·rename_i hdt;exact h'.slots t y (by simp only[gq,agy hdt];exact hy)
  ·exact hno (by simp[Region.wanted,hy,hbw]) (by simp[hbw])
 ·have hy:yielded R a.tmps j=none:=by simp[yielded,hj,hgv,undef]
  exact hno (by simp[Region.wanted,hy]) rfl
def AV.ok:AV->Bool
  | .agg _=>true
  |x=>x.one
theorem AV.ok_spec{x:AV}(h:x.ok=true):(∃cs,x=.agg cs)\/x.one=true:=by
 cases x <;> simp_all[AV.ok]
theorem qS{C:Ctx}{m:Nat->Option Nat}{a:Act}{w:ahc}(hr:RelM C s m a w){x:ag8}{k off:Nat}(hx:Ev s x (.ptr k off)) :
  ∃b,m k=some b/\a.eval x=.pointer (some ⟨b,off,none⟩):=by
 have h:=hx.rep hr;generalize a.eval x=u at h;cases h with |ptr hm=>exact⟨_,hm,rfl⟩
theorem ym{C:Ctx}{m:Nat->Option Nat}{a:Act}{w:ahc}(hr:RelM C s m a w){x:ag8}{k sz i off:Nat}(hx:Ev s x (.eptr k sz i off)) :
  ∃b,m k=some b/\a.eval x=.pointer (some ⟨b,i*sz+off,none⟩):=by
 have h:=hx.rep hr;generalize a.eval x=u at h;cases h with |eptr hm=>exact⟨_,hm,rfl⟩
theorem mi{C:Ctx}{m:Nat->Option Nat}{a:Act}{w:ahc}(hr:RelM C s m a w){x:ag8}{v:ag9}(hx:Ev s x (.v v)):a.eval x=v:=by
 have h:=hx.rep hr;generalize a.eval x=u at h;cases h;rfl
theorem zz{ext:Nat->Prop}{hp:Hp}{m:Nat->Option Nat}{w:ahc}(h:HeapRel ext hp m w){k b:Nat}{cs:List AV}(hk:lk hp k=some (.box cs))(hm:m k=some b) :
  ∃c t,w.heap[b]?=some (.cells c t (0,0))/\c.size=cs.length/\(∀(j:Nat)(x:AV),cs[j]?=some x->x.one=true) /\
   ∀(j:Nat)(u:ag9)(x:AV),c[j]?=some u->cs[j]?=some x->Rep (Im ext hp m w) (Sz w) m u x:=by
 have:=h.blk k _ hk;rw[hm]at this;cases this with |box hw hn h1 hr=>exact⟨_,_,hw,hn,h1,hr⟩
theorem vG{ext:Nat->Prop}{hp:Hp}{m:Nat->Option Nat}{w:ahc}(h:HeapRel ext hp m w){k b sz:Nat}{es:List AV}(hk:lk hp k=some (.row sz es))(hm:m k=some b) :
  ∃c t,w.heap[b]?=some (.cells c t (0,0))/\es.length*sz<=c.size/\es.length<=aS/\(∀(i:Nat)(e:AV),es[i]?=some e->e.cells.length=sz) /\
   (∀(i j:Nat)(e x:AV),es[i]?=some e->e.cells[j]?=some x->x.one=true) /\
   ∀(i j:Nat)(e:AV)(u:ag9)(x:AV),es[i]?=some e->e.cells[j]?=some x->c[i*sz+j]?=some u->Rep (Im ext hp m w) (Sz w) dc u x:=by
 have:=h.blk k _ hk;rw[hm]at this;cases this with |row hw hn hl hs h1 hr=>exact⟨_,_,hw,hn,hl,hs,h1,hr⟩
theorem PH{d:Nat}{x:ag8}{k off:Nat}{cs:List AV}{T t:aha}{ti:TI}
  (hx:Ev s x (.ptr k off)) (hk:s.blk k=some (.box cs)) (hT:au P T=some ti) (hle:Nat.ble (off+ti.size) cs.length=true)
  (h1:(ti.ag||ab3 ti.size 1)=true) (hN:acm d N=true) :
  Step P N R s ⟨some d,.load T x,t,pos,after,none⟩ ⟨some (jH ti.ag ((cs.drop off).take ti.size)),[],aj x,[k]⟩ :=
 cK rfl rfl hN fun s' hag C m a w hr=>by
  rw[acl]at hle;have h1:ti.ag=true\/ti.size=1:=by simpa using h1
  obtain⟨b,hm,hv⟩:=qS hr (hx.agree hag (fun _ h=>h));obtain⟨c,t,hw,hn,ho,hrr⟩:=zz hr.heap ((hag.2 k (by simp)).trans hk) hm;refine⟨_,?_,xH (c:=c) (off:=off) (n:=ti.size) (by simp;omega) oz h1 ?_ ?_⟩
  ·simp[execOp,Instr.loadAt,hv,Instr.sureAddr,xX hT hw (by omega:off+ti.size<=c.size) h1]
  ·intro j y hy;rw[af7]at hy;split at hy
   ·rw[agn]at hy;exact ho _ y hy
   ·cases hy
  ·intro j u y hy hu;rw[af7]at hy;split at hy
   ·rw[agn]at hy;exact hrr _ u y hu hy
   ·cases hy
theorem G5{g:Nat->Array ag9->Prop}{S:Nat->Nat->Prop}{m:Nat->Option Nat}{u:ag9}{x:AV}(h:Rep g S dc u x):Rep g S m u x :=
 h.mono (fun _ _ h=>h) (fun _ _ h=>h) (fun k b _ hb=>by cases hb)
theorem UB{g:Nat->Array ag9->Prop}{S:Nat->Nat->Prop}{m:Nat->Option Nat}{u:ag9}{x:AV}(h:Rep g S m u x)(hx:x.nm=[]):Rep g S dc u x :=
 h.mono (fun _ _ h=>h) (fun _ _ h=>h) (fun k b hk _=>by have:=hk.mem;rw[hx]at this;cases this)
theorem mF{i n sz:Nat}(h:i<n):i*sz+sz<=n*sz:=by
 have:=age sz (show i+1<=n from h);rw[ack]at this;exact this
theorem cF{d:Nat}{x:ag8}{k sz i off:Nat}{es:List AV}{e:AV}{T t:aha}{ti:TI}
  (hx:Ev s x (.eptr k sz i off)) (hk:s.blk k=some (.row sz es)) (he:es[i]?=some e) (hT:au P T=some ti) (hle:Nat.ble (off+ti.size) e.cells.length=true)
  (h1:(ti.ag||ab3 ti.size 1)=true) (hN:acm d N=true) :
  Step P N R s ⟨some d,.load T x,t,pos,after,none⟩ ⟨some (jH ti.ag ((e.cells.drop off).take ti.size)),[],aj x,[k]⟩ :=
 cK rfl rfl hN fun s' hag C m a w hr=>by
  rw[acl]at hle;have h1:ti.ag=true\/ti.size=1:=by simpa using h1
  obtain⟨b,hm,hv⟩:=ym hr (hx.agree hag (fun _ h=>h));obtain⟨c,t,hw,hn,hl,hs,ho,hrr⟩:=vG hr.heap ((hag.2 k (by simp)).trans hk) hm
  have hi:i<es.length:=by
   rcases afv i es.length with h |h
   ·exact h
   ·rw[af0 h]at he;cases he
  have hb:=mF (sz:=sz) hi;have hel:=hs i e he;refine⟨_,?_,xH (c:=c) (off:=i*sz+off) (n:=ti.size) (by simp;omega) oz h1 ?_ ?_⟩
  ·simp[execOp,Instr.loadAt,hv,Instr.sureAddr,xX hT hw (by omega:i*sz+off+ti.size<=c.size) h1]
  ·intro j y hy;rw[af7]at hy;split at hy
   ·rw[agn]at hy;exact ho i _ e y he hy
   ·cases hy
  ·intro j u y hy hu;rw[af7]at hy;split at hy
   ·rw[agn]at hy;exact G5 (hrr i _ e u y he hy (by rw[<- hu];congr 1;omega))
   ·cases hy
theorem Wr{d:Nat}{x:ag8}{xs:List AV}{T t:aha}{ti:TI}
  (hx:Ev s x (.iptr xs)) (hT:au P T=some ti) (hle:(acm 0 ti.size&&Nat.ble ti.size xs.length)=true)
  (h1:(ti.ag||ab3 ti.size 1)=true) (hN:acm d N=true) :
  Step P N R s ⟨some d,.load T x,t,pos,after,none⟩ ⟨some (jH ti.ag (xs.take ti.size)),[],aj x,[]⟩ :=
 cK rfl rfl hN fun s' hag C m a w hr=>by
  simp only[afp,acl,ab7]at hle;have h1:ti.ag=true\/ti.size=1:=by simpa using h1
  have h:=(hx.agree hag (fun _ h=>h)).rep hr;generalize hv:a.eval x=u at h;cases h with
  | @iptr _ b off cs _ u hb ho hu hrr =>
   obtain⟨_,_,t,f,hw⟩:=hb
   have hsz:off+ti.size<=cs.size:=by
    have hlt:ti.size-1<xs.length:=by omega
    have:=hu (ti.size-1) xs[ti.size-1] (by simp[hlt]);rcases afv (off+(ti.size-1)) cs.size with h |h
    ·omega
    ·rw[afe h]at this;cases this
   refine⟨_,?_,xH (c:=cs) (off:=off) (n:=ti.size) (by simp;omega) oz h1 ?_ ?_⟩
   ·simp[execOp,Instr.loadAt,hv,Instr.sureAddr,xX hT hw hsz h1]
   ·intro j y hy;rw[af7]at hy;split at hy
    ·exact ho _ y hy
    ·cases hy
   ·intro j u' y hy hu';rw[af7]at hy;split at hy
    ·have:=hu j y hy;rw[hu']at this;cases this
     exact G5 (hrr j y hy)
    ·cases hy
theorem Ae{T:aha}{ti:TI}{f o n:Nat}(hT:au P T=some ti)(hk:ti.k=.struct)(hf:ti.fs[f]?=some (o,n))(hn:acm 0 n=true)
  (w:ahc) (b off:Nat):(Instr.fieldAt T (.pointer (some ⟨b,off,none⟩)) f).run P w=.ok (.pointer (some ⟨b,off+o,none⟩)) w:=by
 rw[ab7]at hn;obtain⟨d2,h2,h3,h4,-⟩:=dg hT w;obtain⟨fs,rfl⟩:=Ji (h3.trans hk);rw[<- h4]at hf;simp only[qY,afu,afs,ae2]at hf;obtain⟨fl,h5,h6⟩:=hf;cases h6;cases hi:P.info? fl.type with
 |none=>rw[hi]at hn;simp at hn
 |some j =>
  rw[hi]at hn;have hj:¬j.size=0:=by simp only at hn;omega
  simp[Instr.fieldAt,h2,h5,Instr.sureAddr,fieldPlace,sizeOf,typeInfo,hi,hj,jb]
theorem PP{d:Nat}{x:ag8}{k off f o n:Nat}{T t:aha}{ti:TI}
  (hx:Ev s x (.ptr k off)) (hT:au P T=some ti) (hk:ti.k=.struct) (hf:ti.fs[f]?=some (o,n)) (hn:acm 0 n=true) (hN:acm d N=true) :
  Step P N R s ⟨some d,.fieldAddr T x f,t,pos,after,none⟩ ⟨some (.ptr k (off+o)),[],aj x,[]⟩ :=
 cK rfl rfl hN fun s' hag C m a w hr=>by
  obtain⟨b,hm,hv⟩:=qS hr (hx.agree hag (fun _ h=>h));exact⟨_,by simp[execOp,hv,Ae hT hk hf hn],.ptr hm⟩
theorem OM{d:Nat}{x:ag8}{k sz i off f o n:Nat}{T t:aha}{ti:TI}
  (hx:Ev s x (.eptr k sz i off)) (hT:au P T=some ti) (hk:ti.k=.struct) (hf:ti.fs[f]?=some (o,n)) (hn:acm 0 n=true) (hN:acm d N=true) :
  Step P N R s ⟨some d,.fieldAddr T x f,t,pos,after,none⟩ ⟨some (.eptr k sz i (off+o)),[],aj x,[]⟩ :=
 cK rfl rfl hN fun s' hag C m a w hr=>by
  obtain⟨b,hm,hv⟩:=ym hr (hx.agree hag (fun _ h=>h));refine⟨.pointer (some ⟨b,i*sz+(off+o),none⟩),?_,.eptr hm⟩;simp[execOp,hv,Ae hT hk hf hn,aby]
theorem OQ{d:Nat}{x:ag8}{xs:List AV}{f o n:Nat}{T t:aha}{ti:TI}
  (hx:Ev s x (.iptr xs)) (hT:au P T=some ti) (hk:ti.k=.struct) (hf:ti.fs[f]?=some (o,n)) (hn:acm 0 n=true) (hN:acm d N=true) :
  Step P N R s ⟨some d,.fieldAddr T x f,t,pos,after,none⟩ ⟨some (.iptr (xs.drop o)),[],aj x,[]⟩ :=
 cK rfl rfl hN fun s' hag C m a w hr=>by
  have h:=(hx.agree hag (fun _ h=>h)).rep hr;generalize hv:a.eval x=u at h;cases h with
  | @iptr _ b off cs _ u hb ho hu hrr =>
   refine⟨_,by simp[execOp,hv,Ae hT hk hf hn];rfl,?_⟩;refine .iptr (fun j=>u (o+j)) hb ?_ ?_ ?_
   ·intro j c hc;rw[agn]at hc;exact ho _ c hc
   ·intro j c hc;rw[agn]at hc;rw[aby];exact hu _ c hc
   ·intro j c hc;rw[agn]at hc;exact hrr _ c hc
theorem Lc{d:Nat}{x ix:ag8}{kk:IntKind}{i:Int}{sz:Nat}{es:List AV}{e:AV}{T E t:aha}{ti te:TI}
  (hx:Ev s x (.lst sz es)) (hi:Ev s ix (.v (.int kk i))) (hT:au P T=some ti) (hk:ti.k=.slice E) (hE:au P E=some te) (hsz:te.size=sz)
  (h0:0<=i) (he:es[i.toNat]?=some e) (hN:acm d N=true) :
  Step P N R s ⟨some d,.indexAddr T x ix,t,pos,after,none⟩ ⟨some (.iptr e.cells),[],aj x++aj ix,[]⟩ :=
 cK rfl rfl hN fun s' hag C m a w hr=>by
  have h:=(hx.agree hag (fun _ h=>aft.2 (.inl h))).rep hr;have hiv:=mi hr (hi.agree hag (fun _ h=>aft.2 (.inr h)));obtain⟨d2,h2,h3,-,-⟩:=dg hT w;obtain rfl:=gT (h3.trans hk)
  have hlt:i.toNat<es.length:=by
   rcases afv i.toNat es.length with h |h
   ·exact h
   ·rw[af0 h]at he;cases he
  generalize hv:a.eval x=u at h;cases h with
  |lst0 a cap=>simp at hlt
  | @lst _ b off cap _ _ cs u hb hc hl hs ho hu hrr =>
   have hc1:0<=i/\i<(es.length:Int):=by omega
   subst hsz;refine⟨.pointer (some ⟨b,off+i.toNat*te.size,none⟩),?_,?_⟩
   ·simp[execOp,hv,hiv,Instr.indexAt,asIntOf,h2,hc1,fL hE,jb]
   ·refine .iptr (fun j=>u i.toNat j) hb (fun j c hc=>ho i.toNat j e c he hc) (fun j c hc=>hu i.toNat j e c he hc) (fun j c hc=>hrr i.toNat j e c he hc)
theorem m5{d:Nat}{x ix:ag8}{kk:IntKind}{i:Int}{k sz off len:Nat}{T E t:aha}{ti te:TI}
  (hx:Ev s x (.ms k sz off len)) (hi:Ev s ix (.v (.int kk i))) (hT:au P T=some ti) (hk:ti.k=.slice E) (hE:au P E=some te) (hsz:te.size=sz)
  (h0:0<=i) (he:i<(len:Int)) (hN:acm d N=true) :
  Step P N R s ⟨some d,.indexAddr T x ix,t,pos,after,none⟩ ⟨some (.eptr k sz (off+i.toNat) 0),[],aj x++aj ix,[]⟩ :=
 cK rfl rfl hN fun s' hag C m a w hr=>by
  have h:=(hx.agree hag (fun _ h=>aft.2 (.inl h))).rep hr;have hiv:=mi hr (hi.agree hag (fun _ h=>aft.2 (.inr h)));obtain⟨d2,h2,h3,-,-⟩:=dg hT w;obtain rfl:=gT (h3.trans hk);generalize hv:a.eval x=u at h;cases h with
  |ms0=>simp at he;omega
  | @ms _ _ _ _ _ cap b hm hc hS =>
   subst hsz;refine⟨.pointer (some ⟨b,(off+i.toNat)*te.size+0,none⟩),?_,.eptr hm⟩;simp[execOp,hv,hiv,Instr.indexAt,asIntOf,h2,h0,he,fL hE,jb,aci]
theorem vo{d:Nat}{x ix:ag8}{kk:IntKind}{i:Int}{b:ByteArray}{T t:aha}{ti:TI}
  (hx:Ev s x (.v (.string b))) (hi:Ev s ix (.v (.int kk i))) (hT:au P T=some ti) (hk:ti.k=.string)
  (h0:0<=i) (he:i<(b.size:Int)) (hN:acm d N=true) :
  Step P N R s ⟨some d,.index T x ix,t,pos,after,none⟩ ⟨some (.v (.int .u8 (b.data.getD i.toNat 0).toNat)),[],aj x++aj ix,[]⟩ :=
 jv hx hi hN fun ρ w h1 h2=>by
  obtain⟨d2,h3,h4,-,-⟩:=dg hT w;obtain rfl:=KY (h4.trans hk);have hlt:i.toNat<b.size:=by omega
  have:b[i.toNat]?=some (b.data.getD i.toNat 0):=by
   rw[getElem?_pos b i.toNat hlt,afx,ae4 (show i.toNat<b.data.size from hlt)];rfl
  simp[execOp,h1,h2,Instr.index,asIntOf,h3,h0,this]
inductive EvI(s:AS):Option ag8->Nat->Nat->Prop
  |none (d:Nat):EvI s none d d
  |some {x:ag8} {k:IntKind} {i:Int} (d:Nat) (h:Ev s x (.v (.int k i))) (h0:0<=i):EvI s (some x) d i.toNat
def jF:Option ag8->List Nat
  |some x=>aj x
  |none=>[]
theorem EvI.agree{s':AS}{u:Out}(h:fT s s' u){o:Option ag8}{d n:Nat}(he:EvI s o d n)(hs:∀t∈jF o,t∈u.rt):EvI s' o d n:=by
 cases he with
 |none=>exact .none _
 |some d h' h0=>exact .some d (h'.agree h hs) h0
theorem EvI.bound{C:Ctx}{m:Nat->Option Nat}{a:Act}{w:ahc}(hr:RelM C s m a w){x:ag8}{d n y:Nat}(h:EvI s (Option.some x) d n)(hy:n<=y)(code:BoundsCode) :
  (Instr.sliceBound (a.eval x) y code).run P w=.ok n w:=by
 cases h with
 | @some _ k i _ h h0 =>
  have:=mi hr h;have:0<=i/\i<=(y:Int):=by omega
  simp[Instr.sliceBound,asIntOf,mi hr h,this]
theorem tq{C:Ctx}{m:Nat->Option Nat}{a:Act}{w:ahc}(hr:RelM C s m a w){lo hi:Option ag8}{l h len cap:Nat}(isS:Bool)
  (hl:EvI s lo 0 l) (hh:EvI s hi len h) (h1:l<=h) (h2:h<=cap) :
  (Instr.sliceBounds isS len cap (lo.map a.eval) (hi.map a.eval) none).run P w=.ok (l,h,cap) w:=by
 cases hi with
 |none =>
  cases hh;cases lo with
  |none=>cases hl;simp[Instr.sliceBounds]
  |some x=>simp[Instr.sliceBounds,hl.bound hr h1]
 |some y =>
  cases lo with
  |none=>cases hl;simp[Instr.sliceBounds,hh.bound hr h2]
  |some x=>simp[Instr.sliceBounds,hl.bound hr h1,hh.bound hr h2]
theorem co{d:Nat}{x:ag8}{lo hi:Option ag8}{l h sz:Nat}{es:List AV}{T E t:aha}{ti te:TI}
  (hx:Ev s x (.lst sz es)) (hl:EvI s lo 0 l) (hh:EvI s hi es.length h) (hT:au P T=some ti) (hk:ti.k=.slice E) (hE:au P E=some te) (hsz:te.size=sz)
  (h1:l<=h) (h2:h<=es.length) (hN:acm d N=true) :
  Step P N R s ⟨some d,.slice T x lo hi none,t,pos,after,none⟩ ⟨some (.lst sz ((es.drop l).take (h-l))),[],aj x++(jF lo++jF hi),[]⟩ :=
 cK rfl rfl hN fun s' hag C m a w hr=>by
  have hxr:=(hx.agree hag (fun _ h=>aft.2 (.inl h))).rep hr;have hl':=hl.agree hag (fun _ h=>aft.2 (.inr (aft.2 (.inl h))));have hh':=hh.agree hag (fun _ h=>aft.2 (.inr (aft.2 (.inr h))));obtain⟨d2,hu,h3,-,-⟩:=dg hT w;obtain rfl:=gT (h3.trans hk);subst hsz;generalize hv:a.eval x=u at hxr;cases hxr with
  |lst0 a' cap =>
   have:=tq (P:=P) hr (cap:=cap) true hl' hh' h1 (by simp at h2;omega);simp at this h2;have hl0:l=0:=by omega
   refine⟨.slice (if cap=l then a' else a'.map (·.add (l*te.size))) (h-l) (cap-l),?_,?_⟩
   ·simp[execOp,hv,Instr.sliceAt,hu,Instr.slice,this,fL hE]
   ·simp[h2];exact .lst0 _ _ _
  | @lst _ b off cap _ _ cs u hb hc hml hs ho hu' hrr =>
   have:=tq (P:=P) hr (cap:=cap) true hl' hh' h1 oz;refine⟨.slice (if cap=l then some ⟨b,off,none⟩else some ⟨b,off+l*te.size,none⟩) (h-l) (cap-l),?_,?_⟩
   ·simp[execOp,hv,Instr.sliceAt,hu,Instr.slice,this,fL hE,jb]
   ·by_cases hlh:l=h
    ·subst hlh;simp;exact .lst0 _ _ _
    ·have hne:¬ cap=l:=by omega
     rw[agy hne];have hlen:((es.drop l).take (h-l)).length=h-l:=by simp;omega
     have hget:∀(i:Nat)(e:AV),((es.drop l).take (h-l))[i]?=some e->es[l+i]?=some e:=by
      intro i e he;rw[af7]at he;split at he
      ·rwa [agn]at he
      ·cases he
     have:=Rep.lst (g:=Im C.ext s'.hp m w) (S:=Sz w) (m:=m) (b:=b) (off:=off+l*te.size) (cap:=cap-l) (sz:=te.size) (es:=(es.drop l).take (h-l)) (cs:=cs)
      (fun i j=>u (l+i) j) hb oz oz (fun i e he=>hs _ e (hget i e he)) (fun i j e c he hc=>ho _ j e c (hget i e he) hc)
      (fun i j e c he hc=>by rw[<- hu' (l+i) j e c (hget i e he) hc];congr 1;rw[aci];omega) (fun i j e c he hc=>hrr _ j e c (hget i e he) hc)
     rwa [hlen]at this
theorem vu{d:Nat}{x:ag8}{lo hi:Option ag8}{l h k sz off len:Nat}{T E t:aha}{ti te:TI}
  (hx:Ev s x (.ms k sz off len)) (hl:EvI s lo 0 l) (hh:EvI s hi len h) (hT:au P T=some ti) (hk:ti.k=.slice E) (hE:au P E=some te) (hsz:te.size=sz)
  (h1:l<=h) (h2:h<=len) (hN:acm d N=true) :
  Step P N R s ⟨some d,.slice T x lo hi none,t,pos,after,none⟩ ⟨some (.ms k sz (off+l) (h-l)),[],aj x++(jF lo++jF hi),[]⟩ :=
 cK rfl rfl hN fun s' hag C m a w hr=>by
  have hxr:=(hx.agree hag (fun _ h=>aft.2 (.inl h))).rep hr;have hl':=hl.agree hag (fun _ h=>aft.2 (.inr (aft.2 (.inl h))));have hh':=hh.agree hag (fun _ h=>aft.2 (.inr (aft.2 (.inr h))));obtain⟨d2,hu,h3,-,-⟩:=dg hT w;obtain rfl:=gT (h3.trans hk);subst hsz;generalize hv:a.eval x=u at hxr;cases hxr with
  |ms0 a' =>
   have:=tq (P:=P) hr (cap:=0) true hl' hh' h1 oz;have hl0:l=0:=by omega
   have hh0:h=0:=by omega
   subst hl0;subst hh0
   exact⟨.slice a' 0 0,by simp[execOp,hv,Instr.sliceAt,hu,Instr.slice,this,fL hE],.ms0 _ _ _ _⟩
  | @ms _ _ _ _ _ cap b hm hc hS =>
   have:=tq (P:=P) hr (cap:=cap) true hl' hh' h1 oz;refine⟨.slice (if cap=l then some ⟨b,off*te.size,none⟩else some ⟨b,off*te.size+l*te.size,none⟩) (h-l) (cap-l),?_,?_⟩
   ·simp[execOp,hv,Instr.sliceAt,hu,Instr.slice,this,fL hE,jb]
   ·by_cases hcl:cap=l
    ·subst hcl;have:h - cap=0:=by omega
     rw[this,Nat.sub_self];exact .ms0 _ _ _ _
    ·rw[agy hcl,<- aci];exact .ms hm oz (by rw[show off+l+(cap-l)=off+cap by omega];exact hS)
theorem Zi{d:Nat}{x:ag8}{k off:Nat}{t:aha}(hx:Ev s x (.ptr k off))(hN:acm d N=true) :
  Step P N R s ⟨some d,.nilCheck x,t,pos,after,none⟩ ⟨some (.ptr k off),[],aj x,[]⟩ :=
 cK rfl rfl hN fun s' hag C m a w hr=>by
  obtain⟨b,hm,hv⟩:=qS hr (hx.agree hag (fun _ h=>h));exact⟨_,by simp[execOp,hv],.ptr hm⟩
inductive EvL(s:AS):List ag8->List AV->Prop
  |nil:EvL s [] []
  |cons {o:ag8} {x:AV} {os:List ag8} {xs:List AV} (h:Ev s o x) (hs:EvL s os xs):EvL s (o::os) (x::xs)
theorem fo{s:AS}{t:Nat}{x:AV}(h:s.get t=some x):EvL s [.tmp t] [x]:=.cons (.tmp h) .nil
theorem ce{s:AS}{t u:Nat}{x y:AV}(h:s.get t=some x)(h2:s.get u=some y):EvL s [.tmp t,.tmp u] [x,y]:=.cons (.tmp h) (fo h2)
theorem aI{s:AS}{t u v:Nat}{x y z:AV}(h:s.get t=some x)(h2:s.get u=some y)(h3:s.get v=some z):EvL s [.tmp t,.tmp u,.tmp v] [x,y,z]:=.cons (.tmp h) (ce h2 h3)
def cQ:List ag8->List Nat
  |[]=>[]
  |o::os=>aj o++cQ os
theorem EvL.agree{s':AS}{u:Out}(h:fT s s' u){os:List ag8}{xs:List AV}(he:EvL s os xs)(hs:∀t∈cQ os,t∈u.rt):EvL s' os xs:=by
 induction he with
 |nil=>exact .nil
 |cons h1 _ ih=>exact .cons (h1.agree h (fun t ht=>hs t (by simp[cQ,ht]))) (ih (fun t ht=>hs t (by simp[cQ,ht])))
theorem EvL.length{os:List ag8}{xs:List AV}(he:EvL s os xs):os.length=xs.length:=by
 induction he with
 |nil=>rfl
 |cons _ _ ih=>simp[ih]
theorem EvL.rep{C:Ctx}{m:Nat->Option Nat}{a:Act}{w:ahc}(hr:RelM C s m a w){os:List ag8}{xs:List AV}(he:EvL s os xs) :
  ∀(j:Nat)(v:ag9)(x:AV),(os.map a.eval)[j]?=some v->xs[j]?=some x->Rep (Im C.ext s.hp m w) (Sz w) m v x:=by
 induction he with
 |nil=>intro j v x h;simp at h
 |cons h1 _ ih =>
  intro j v x hv hx;cases j with
  |zero=>simp at hv hx;subst hv;subst hx;exact h1.rep hr
  |succ j=>exact ih j v x (by simpa using hv) (by simpa using hx)
theorem Za{d:Nat}{x:ag8}{xs:List AV}{t:aha}(hx:Ev s x (.iptr xs))(hN:acm d N=true) :
  Step P N R s ⟨some d,.nilCheck x,t,pos,after,none⟩ ⟨some (.iptr xs),[],aj x,[]⟩ :=
 cK rfl rfl hN fun s' hag C m a w hr=>by
  have h:=(hx.agree hag (fun _ h=>h)).rep hr;generalize hu:a.eval x=u at h;cases h with
  |iptr u' hb ho hv hrr=>exact⟨_,by simp[execOp,hu],.iptr u' hb ho hv hrr⟩
theorem Tc{d f:Nat}{pre:Array ag8}{xs:List AV}{t:aha}(hx:EvL s pre.toList xs)(hnm:(xs.all fun x=>x.nm.isEmpty)=true)(hN:acm d N=true) :
  Step P N R s ⟨some d,.makeFunc (.func f) pre #[],t,pos,after,none⟩ ⟨some (.cl f xs []),[],cQ pre.toList,[]⟩ :=
 cK rfl rfl hN fun s' hag C m a w hr=>by
  have hl:=hx.agree hag (fun _ h=>h);refine⟨.func (.func f) (pre.map a.eval) #[],by simp[execOp,Instr.makeFunc],.cl ?_ ?_ rfl (fun j u c hu hc=>by simp at hc)⟩
  ·have:=hl.length;simpa using this
  ·intro j u c hu hc
   exact (hl.rep hr j u c (by simpa using hu) hc).mono (fun _ _ h=>h) (fun _ _ h=>h) (fun k b hk=>by
    have h1:=afy.1 hnm c (afl hc);have h2:=hk.mem;simp only[List.isEmpty_iff]at h1;rw[h1]at h2;cases h2)
theorem WZ{d f:Nat}{caps:Array ag8}{xs:List AV}{t:aha}(hx:EvL s caps.toList xs)(hN:acm d N=true) :
  Step P N R s ⟨some d,.makeFunc (.func f) #[] caps,t,pos,after,none⟩ ⟨some (.fn f xs),[],cQ caps.toList,[]⟩ :=
 cK rfl rfl hN fun s' hag C m a w hr=>by
  have hl:=hx.agree hag (fun _ h=>h);refine⟨.func (.func f) #[] (caps.map a.eval),by simp[execOp,Instr.makeFunc],.fn ?_ ?_⟩
  ·have:=hl.length;simpa using this
  ·intro j u c hu hc;exact hl.rep hr j u c (by simpa using hu) hc
def dk(g:Nat->Array ag9->Prop)(S:Nat->Nat->Prop)(m:Nat->Option Nat)(c:List ag9)(l:List AV):Prop :=
  c.length=l.length/\(∀(j:Nat)(x:AV),l[j]?=some x->x.one=true)/\∀(j:Nat)(u:ag9)(x:AV),c[j]?=some u->l[j]?=some x->Rep g S m u x
theorem dk.of_zero{g:Nat->Array ag9->Prop}{S:Nat->Nat->Prop}{m:Nat->Option Nat}(z:List ag9)(h:z.all Value.oneCell'=true) :
  dk g S m z (z.map .v):=by
 refine⟨by simp,?_,?_⟩
 ·intro j x hx;simp only[afu,afs]at hx;obtain⟨v,hv,rfl⟩:=hx;exact afy.1 h v (afl hv)
 ·intro j u x hu hx;simp only[afu,afs]at hx;obtain⟨v,hv,rfl⟩:=hx;rw[hu]at hv;cases hv
  exact .v _
theorem dk.of_value{g:Nat->Array ag9->Prop}{S:Nat->Nat->Prop}{m:Nat->Option Nat}{v:ag9}{x:AV}(h:Rep g S m v x)(hx:x.ok=true) :
  dk g S m v.cells.toList x.cells:=by
 obtain⟨h1,h2,h3⟩:=h.cells (AV.ok_spec hx);exact⟨by simpa using h1,h2,fun j u y hu hy=>h3 j u y (by simpa using hu) hy⟩
theorem dk.mono{g g':Nat->Array ag9->Prop}{S S':Nat->Nat->Prop}{m m':Nat->Option Nat}{c:List ag9}{l:List AV}(h:dk g S m c l)
  (hg:∀b cs,g b cs->g' b cs) (hS:∀b n,S b n->S' b n) (hm:∀x∈l,∀k b,x.Names k->m k=some b->m' k=some b):dk g' S' m' c l :=
 ⟨h.1,h.2.1,fun j u x hu hx=>(h.2.2 j u x hu hx).mono hg hS (fun k b hk hb=>hm x (afl hx) k b hk hb)⟩
def over{α:Type}(l:List α)(off:Nat)(xs:List α):List α:=l.take off++xs++l.drop (off+xs.length)
theorem jC{α:Type}(l:List α)(off:Nat)(xs:List α)(h:off+xs.length<=l.length)(p:Nat) :
  (over l off xs)[p]?=if p<off then l[p]? else if p<off+xs.length then xs[p-off]? else l[p]?:=by
 have h1:(l.take off).length=off:=by simp;omega
 unfold over
 by_cases h2:p<off
 ·rw[agz h2,agx,af6 oz,af7,agz h2]
 ·rw[agy h2]
  by_cases h3:p<off+xs.length
  ·rw[agz h3,af6 (by simp;omega),af5 oz,h1]
  ·rw[agy h3,af5 (by simp;omega),agn];congr 1;simp;omega
theorem vM{α:Type}(l:List α)(off:Nat)(xs:List α)(h:off+xs.length<=l.length):(over l off xs).length=l.length:=by
 simp[over];omega
theorem dk.over{g:Nat->Array ag9->Prop}{S:Nat->Nat->Prop}{m:Nat->Option Nat}{c:List ag9}{l:List AV}{c':List ag9}{l':List AV}{off:Nat}
  (h:dk g S m c l) (h':dk g S m c' l') (hle:off+l'.length<=l.length):dk g S m (over c off c') (Lw.over l off l'):=by
 have e1:=h.1;have e2:=h'.1;refine⟨by rw[vM _ _ _ oz,vM _ _ _ hle,e1],?_,?_⟩
 ·intro j x hx;rw[jC _ _ _ hle]at hx;split at hx
  ·exact h.2.1 j x hx
  ·split at hx
   ·exact h'.2.1 _ x hx
   ·exact h.2.1 j x hx
 ·intro j u x hu hx;rw[jC _ _ _ hle]at hx;rw[jC _ _ _ oz,e2]at hu;split at hx
  ·rename_i hj;rw[agz hj]at hu;exact h.2.2 j u x hu hx
  ·rename_i hj;rw[agy hj]at hu
   split at hx
   ·rename_i hj;rw[agz hj]at hu;exact h'.2.2 _ u x hu hx
   ·rename_i hj;rw[agy hj]at hu;exact h.2.2 j u x hu hx
theorem uS{o:Oper}{d:Nat}{k:Nat}{x:AV}{y:Blk}{rt rd:List Nat}(hg:o.guard=none)(hd:o.dst=some d)(hN:acm d N=true)
  (hkrd:k∉rd)
  (h:∀s',fT s s' ⟨some x,[(k,some y)],rt,rd⟩->s'.Fresh k->∀C m a w,RelM C s' m a w ->
   ∃(v:ag9)(c:Array ag9)(t:aha)(n:Nat),(execOp a.eval o).run P w=.ok (.value v) { w with heap:=w.heap.push (.cells c t),drawn:=n }/\¬y.Names k /\
    (∀(g:Nat->Array ag9->Prop)(S:Nat->Nat->Prop)(m':Nat->Option Nat)(w':ahc),
     (∀b cs,Im C.ext s'.hp m w b cs->g b cs)->(∀b n,Sz w b n->S b n)->(∀k' b,k'≠k->m k'=some b->m' k'=some b) ->
     w'.heap[w.heap.size]?=some (.cells c t (0,0))->BlkRep g S m' w' (some w.heap.size) y) /\
    (∀(g:Nat->Array ag9->Prop)(S:Nat->Nat->Prop)(m':Nat->Option Nat),m' k=some w.heap.size->S w.heap.size c.size->Rep g S m' v x)) :
  Step P N R s o ⟨some x,[(k,some y)],rt,rd⟩:=by
 refine⟨fun s' hag hnew C m a w Q next hC hr hnext=>?_⟩;rw[agz (mN hg _)];refine vg ?_
 have hfr:s'.Fresh k:=by
  rcases hnew k (by simp)with h |h
  ·exact ag5 h hkrd
  ·exact h
 obtain⟨v,c,t,n,h1,h2,h3,h4⟩:=h s' hag hfr C m a w hr;rw[ab7]at hN;unfold Oper.wp;rw[h1];simp only[Oper.upon,hd,Act.put];refine hnext (fun k'=>if k'=k then some w.heap.size else m k') _ _ ?_;have hr1:=(hr.alloc hfr (.cells c t) y h2 h3).drawn n
 have:=hr1.put d v (some x) (fun z hz=>by
  cases hz;refine⟨by have:=hr.nt;omega,h4 _ _ _ (agz rfl) ⟨c,t,(0,0),?_,afq _⟩⟩;show(w.heap.push _)[w.heap.size]?=_;simp)
 simpa[AS.app,hd]using this
theorem Ng{ext:Nat->Prop}{hp:Hp}{m:Nat->Option Nat}{w:ahc}{c:Array ag9}{l:List AV}{t:aha}{k:Nat}
  (h:dk (Im ext hp m w) (Sz w) m c.toList l) (hk:∀x∈l,¬x.Names k)
  {g:Nat->Array ag9->Prop} {S:Nat->Nat->Prop} {m':Nat->Option Nat} {w':ahc}
  (hg:∀b cs,Im ext hp m w b cs->g b cs) (hS:∀b n,Sz w b n->S b n) (hm:∀k' b,k'≠k->m k'=some b->m' k'=some b)
  (hw:w'.heap[w.heap.size]?=some (.cells c t (0,0))):BlkRep g S m' w' (some w.heap.size) (.box l):=by
 have h':=h.mono hg hS (m':=m') (fun x hx k' b hn hb=>hm k' b (fun e=>hk x hx (e▸hn)) hb);exact .box hw (by simpa using h'.1) h'.2.1 (fun j u x hu hx=>h'.2.2 j u x (by simpa using hu) hx)
theorem ZK{d:Nat}{T t:aha}{ti:TI}(hT:au P T=some ti)(hz:ti.zero.all Value.oneCell'=true)(hN:acm d N=true) :
  Step P N R s ⟨some d,.alloc T,t,pos,after,none⟩ ⟨some (.ptr d 0),[(d,some (.box (ti.zero.map .v)))],[],[]⟩ :=
 uS rfl rfl hN (by simp) fun s' hag hfr C m a w hr=>by
  obtain⟨z,h1,h2⟩:=uY hT w;have hc:dk (Im C.ext s'.hp m w) (Sz w) m z.cells.toList (ti.zero.map .v):=by rw[h2];exact .of_zero _ hz
  refine⟨.pointer (some ⟨w.heap.size,0,none⟩),z.cells,T,w.drawn,?_,?_,?_,fun g S m' hm _=>.ptr hm⟩
  ·simp[execOp,Instr.alloc,h1,newVar,newRow]
  ·rintro⟨c,hc,hn⟩;simp only[ac6]at hc;obtain⟨v,_,rfl⟩:=hc;cases hn
  ·intro g S m' w' hg hS hm hw;refine Ng hc ?_ hg hS hm hw;rintro x hx hn;simp only[ac6]at hx;obtain⟨v,_,rfl⟩:=hx;cases hn
theorem Ev.fresh{x:ag8}{v:AV}{k:Nat}(h:Ev s x v)(hf:s.Fresh k):¬v.Names k:=by
 cases h with
 |tmp h=>exact hf.2.2.1 _ _ h
 |opt h _=>intro hn;exact hf.2.2.1 _ _ h (.opt hn)
 |const=>intro hn;cases hn
 |func=>intro hn;cases hn
theorem NZ{x c:AV}{k:Nat}(hc:c∈x.cells)(hn:c.Names k):x.Names k:=by
 cases x <;> simp only[AV.cells,adc]at hc <;> first
  |(subst hc;exact hn)
  |exact .agg hc hn
theorem Rw{d:Nat}{x:ag8}{v:AV}{T t:aha}(hx:Ev s x v)(hv:v.ok=true)(hN:acm d N=true) :
  Step P N R s ⟨some d,.box T x,t,pos,after,none⟩ ⟨some (.ptr d 0),[(d,some (.box v.cells))],aj x,[]⟩ :=
 uS rfl rfl hN (by simp) fun s' hag hfr C m a w hr=>by
  have hx':=hx.agree hag (fun _ h=>h);have hc:=dk.of_value (hx'.rep hr) hv;have hno:∀c∈v.cells,¬c.Names d:=fun c hc hn=>hx'.fresh hfr (NZ hc hn)
  refine⟨.pointer (some ⟨w.heap.size,0,none⟩),(a.eval x).cells,T,w.drawn,?_,?_,?_,fun g S m' hm _=>.ptr hm⟩
  ·simp[execOp,Instr.box,newVar,newRow]
  ·rintro⟨c,hc,hn⟩;exact hno c hc hn
  ·intro g S m' w' hg hS hm hw;exact Ng hc hno hg hS hm hw
theorem xP{w:ahc}{b:Nat}{o:Obj}(hb:w.heap[b]?=some o):b<w.heap.size:=by
 rcases afv b w.heap.size with h |h
 ·exact h
 ·rw[afe h]at hb;cases hb
theorem NP{w:ahc}{b i:Nat}{c:Array ag9}{t:aha}{v:ag9}(hb:w.heap[b]?=some (.cells c t (0,0))) :
  w.setCell ⟨b,i,none⟩ v={ w with heap:=w.heap.setIfInBounds b (.cells (c.setIfInBounds i v) t (0,0)) }:=by
 have hlt:=xP hb;unfold World.setCell;congr 1;apply Array.ext_getElem?;intro j;rw[afd,Array.getElem?_modify]
 by_cases h:b=j
 ·subst h;rw[agz rfl,agz rfl,agz hlt,hb];rfl
 ·rw[agy h,agy h]
theorem KF{α:Type}(l:List α)(n:Nat)(v:α)(vs:List α)(h:n+(vs.length+1)<=l.length) :
  over (l.set n v) (n+1) vs=over l n (v::vs):=by
 apply List.ext_getElem?;intro p;rw[jC _ _ _ (by simp;omega),jC _ _ _ (by simpa using h),List.getElem?_set];simp only[af9]
 by_cases h1:p<n
 ·rw[agz oz,agy oz,agz h1]
 ·by_cases h2:p=n
  ·subst h2;rw[agz oz,agz rfl,agz oz,agy oz,agz oz,Nat.sub_self];rfl
  ·by_cases h3:p<n+1+vs.length
   ·rw[agy oz,agz h3,agy oz,agz oz,show p-n=p-(n+1)+1 by omega,ady]
   ·rw[agy oz,agy h3,agy oz,agy h1,agy oz]
theorem Eb{b:Nat}{t:aha}:∀(vs:List ag9)(c:Array ag9)(w:ahc)(off i:Nat),w.heap[b]?=some (.cells c t (0,0)) ->
  off+i+vs.length<=c.size->(∀v∈vs,v.oneCell'=true) ->
  (storeCells ⟨b,off,none⟩ vs i).run P w=.ok () { w with heap:=w.heap.setIfInBounds b (.cells (over c.toList (off+i) vs).toArray t (0,0)) }:=by
 intro vs
 induction vs with
 |nil =>
  intro c w off i hb hle _;have hlt:=xP hb
  have:w.heap.setIfInBounds b (.cells (over c.toList (off+i) []).toArray t (0,0))=w.heap:=by
   apply Array.ext_getElem?;intro j;rw[afd];split
   ·subst_vars;rw[hb];simp[over]
   ·rfl
  simp[storeCells,this]
 |cons v vs ih =>
  intro c w off i hb hle hv;have hlt:=xP hb;simp only[af9]at hle
  have h1:(store ((⟨b,off,none⟩:Addr).add i) v).run P w=.ok () (w.setCell ⟨b,off+i,none⟩ v):=by
   rw[jb,run_store P w _ v .plain (hv v (by simp)),q5 hb];have:off+i<c.size:=by omega
   simp[ae4 this,World.frozen?,hb]
  rw[storeCells,Sem.run_bind,h1,Result.andThen_ok,NP hb]
  have hb':(w.heap.setIfInBounds b (.cells (c.setIfInBounds (off+i) v) t (0,0)))[b]?=some (.cells (c.setIfInBounds (off+i) v) t (0,0)):=by
   rw[afd,agz rfl,agz hlt]
  rw[ih (c.setIfInBounds (off+i) v) _ off (i+1) hb' (by simp;omega) (fun v hm=>hv v (by simp[hm]))];congr 2;rw[Array.setIfInBounds_setIfInBounds];congr 3;rw[afc,show off+(i+1)=off+i+1 by omega,KF _ _ _ _ (by simp;omega)]
theorem Eg{T:aha}{ti:TI}{w:ahc}{b off:Nat}{t:aha}{c:Array ag9}{v:ag9}(hT:au P T=some ti)(hb:w.heap[b]?=some (.cells c t (0,0)))
  (hsz:v.cells.size=ti.size) (hle:off+ti.size<=c.size) (hv:∀x∈v.cells.toList,x.oneCell'=true) :
  (storeVar T ⟨b,off,none⟩ v).run P w=.ok () { w with heap:=w.heap.setIfInBounds b (.cells (over c.toList off v.cells.toList).toArray t (0,0)) }:=by
 have:=Eb (P:=P) v.cells.toList c w off 0 hb (by simp;omega) hv;simp only[ach]at this;simp[storeVar,fL hT,hsz,this]
theorem Ex{o:Oper}{k:Nat}{y y':Blk}{rt rd:List Nat}(hg:o.guard=none)(hd:o.dst=none)(hkrd:k∈rd)(hk:s.blk k=some y)
  (h:∀s',fT s s' ⟨none,[(k,some y')],rt,rd⟩->∀C m a w,RelM C s' m a w ->
   ∃(b:Nat)(c c':Array ag9)(t:aha),m k=some b/\w.heap[b]?=some (.cells c t (0,0))/\c'.size=c.size /\
    (execOp a.eval o).run P w=.ok .skip { w with heap:=w.heap.setIfInBounds b (.cells c' t (0,0)) } /\
    ∀(g:Nat->Array ag9->Prop)(S:Nat->Nat->Prop)(w':ahc),
     (∀b cs,Im C.ext s'.hp m w b cs->g b cs)->(∀b n,Sz w b n->S b n)->w'.heap[b]?=some (.cells c' t (0,0))->BlkRep g S m w' (some b) y') :
  Step P N R s o ⟨none,[(k,some y')],rt,rd⟩:=by
 refine⟨fun s' hag hnew C m a w Q next hC hr hnext=>?_⟩;rw[agz (mN hg _)];refine vg ?_;obtain⟨b,c,c',t,hm,hb,hsz,h1,h2⟩:=h s' hag C m a w hr;unfold Oper.wp;rw[h1];simp only[Oper.upon,hd,Act.put];refine hnext m _ _ ?_;have:=hr.write (x':=y') ((hag.2 k hkrd).trans hk) hm hb hsz rfl (fun g S hg hS hw=>h2 g S _ hg hS hw);simpa[AS.app,hd]using this
theorem F3{g:Nat->Array ag9->Prop}{S:Nat->Nat->Prop}{m:Nat->Option Nat}{v:ag9}{x:AV}(h:Rep g S m v x)(hx:x.ok=true) :
  ∀u∈v.cells.toList,u.oneCell'=true:=by
 have hc:=dk.of_value h hx;intro u hu;obtain⟨j,hj,rfl⟩:=ad3.1 hu;have hj':j<x.cells.length:=by rw[<- hc.1];exact hj
 exact(hc.2.2 j _ _ (afr hj) (afr hj')).one (hc.2.1 j _ (afr hj'))
theorem Us{x y:ag8}{k off:Nat}{cs:List AV}{v:AV}{T t:aha}{ti:TI}
  (hx:Ev s x (.ptr k off)) (hk:s.blk k=some (.box cs)) (hy:Ev s y v) (hv:v.ok=true) (hT:au P T=some ti) (hsz:ab3 v.cells.length ti.size=true)
  (hle:Nat.ble (off+ti.size) cs.length=true) :
  Step P N R s ⟨none,.store T x y,t,pos,after,none⟩ ⟨none,[(k,some (.box (over cs off v.cells)))],aj x++aj y,[k]⟩ :=
 Ex rfl rfl (by simp) hk fun s' hag C m a w hr=>by
  rw[acl]at hle;have hsz:=afo hsz;obtain⟨b,hm,hxv⟩:=qS hr (hx.agree hag (fun _ h=>aft.2 (.inl h)));have hyr:=(hy.agree hag (fun _ h=>aft.2 (.inr h))).rep hr;obtain⟨c,t,hw,hn,ho,hrr⟩:=zz hr.heap ((hag.2 k (by simp)).trans hk) hm;have hc:=dk.of_value hyr hv;have hcl:(a.eval y).cells.size=ti.size:=by have:=hc.1;simp at this;omega
  have h0:dk (Im C.ext s'.hp m w) (Sz w) m c.toList cs:=⟨by simpa using hn,ho,fun j u x hu hx=>hrr j u x (by simpa using hu) hx⟩
  have h1:=h0.over hc (off:=off) oz;refine⟨b,c,(over c.toList off (a.eval y).cells.toList).toArray,t,hm,hw,?_,?_,?_⟩
  ·simp[over];omega
  ·have hrun:=Eg (P:=P) (off:=off) hT hw hcl oz (F3 hyr hv);simp[execOp,Instr.storeAt,hxv,Instr.sureAddr,hrun]
  ·intro g S w' hg hS hw';have h2:=h1.mono hg hS (m':=m) (fun _ _ _ _ _ h=>h);exact .box hw' (by simpa using h2.1) h2.2.1 (fun j u x hu hx=>h2.2.2 j u x (by simpa using hu) hx)
theorem DC{x y:ag8}{k sz i off:Nat}{es:List AV}{e e' v:AV}{T t:aha}{ti:TI}
  (hx:Ev s x (.eptr k sz i off)) (hk:s.blk k=some (.row sz es)) (he:es[i]?=some e) (hy:Ev s y v) (hv:v.ok=true) (hnm:v.nm=[]) (hT:au P T=some ti)
  (hsz:ab3 v.cells.length ti.size=true) (hle:Nat.ble (off+ti.size) e.cells.length=true) (he':e'.cells=over e.cells off v.cells) :
  Step P N R s ⟨none,.store T x y,t,pos,after,none⟩ ⟨none,[(k,some (.row sz (es.set i e')))],aj x++aj y,[k]⟩ :=
 Ex rfl rfl (by simp) hk fun s' hag C m a w hr=>by
  rw[acl]at hle;have hsz:=afo hsz;obtain⟨b,hm,hxv⟩:=ym hr (hx.agree hag (fun _ h=>aft.2 (.inl h)));have hyr:=(hy.agree hag (fun _ h=>aft.2 (.inr h))).rep hr;obtain⟨c,t,hw,hn,hl,hs,ho,hrr⟩:=vG hr.heap ((hag.2 k (by simp)).trans hk) hm;have hc:=dk.of_value (UB hyr hnm) hv;have hcl:(a.eval y).cells.size=ti.size:=by have:=hc.1;simp at this;omega
  have hi:i<es.length:=by
   rcases afv i es.length with h |h
   ·exact h
   ·rw[af0 h]at he;cases he
  have hb:=mF (sz:=sz) hi;have hel:=hs i e he;have hel':e'.cells.length=sz:=by rw[he',vM _ _ _ oz,hel]
  refine⟨b,c,(over c.toList (i*sz+off) (a.eval y).cells.toList).toArray,t,hm,hw,?_,?_,?_⟩
  ·simp[over];omega
  ·have hrun:=Eg (P:=P) (off:=i*sz+off) hT hw hcl oz (F3 hyr hv);simp[execOp,Instr.storeAt,hxv,Instr.sureAddr,hrun]
  ·intro g S w' hg hS hw'
   have hset:∀(i':Nat)(e2:AV),(es.set i e')[i']?=some e2->(i'=i/\e2=e')\/(i'≠i/\es[i']?=some e2):=by
    intro i' e2 h;rw[List.getElem?_set]at h;split at h
    ·rename_i hii;subst hii
     cases h;exact .inl ⟨rfl,rfl⟩
    ·rename_i hii;exact .inr ⟨fun e=>hii e.symm,h⟩
   have hcell:∀(j:Nat)(z:AV),e'.cells[j]?=some z->z.one=true/\∀u,(over c.toList (i*sz+off) (a.eval y).cells.toList)[i*sz+j]?=some u->Rep (Im C.ext s'.hp m w) (Sz w) dc u z:=by
    intro j z hz
    have hjs:j<sz:=by
     rw[<- hel'];rcases afv j e'.cells.length with h |h
     ·exact h
     ·rw[af0 h]at hz;cases hz
    rw[he',jC _ _ _ oz]at hz;have hlc:i*sz+off+(a.eval y).cells.toList.length<=c.toList.length:=by simp;omega
    split at hz
    ·rename_i h1;refine⟨ho i j e z he hz,fun u hu=>?_⟩;rw[jC _ _ _ hlc,agz oz]at hu;exact hrr i j e u z he hz (by simpa using hu)
    ·rename_i h1;split at hz
     ·rename_i h2;refine⟨hc.2.1 _ z hz,fun u hu=>?_⟩;rw[jC _ _ _ hlc,agy oz,agz (by simp;omega)]at hu;refine hc.2.2 _ u z ?_ hz;rw[<- hu];congr 1;omega
     ·rename_i h2;refine⟨ho i j e z he hz,fun u hu=>?_⟩;rw[jC _ _ _ hlc,agy oz,agy (by simp;omega)]at hu;exact hrr i j e u z he hz (by simpa using hu)
   refine .row hw' (by simp[over];omega) (by simpa using hl) ?_ ?_ ?_
   ·intro i' e2 h;rcases hset i' e2 h with⟨rfl,rfl⟩ |⟨_,h⟩
    ·exact hel'
    ·exact hs i' e2 h
   ·intro i' j e2 z h hz;rcases hset i' e2 h with⟨rfl,rfl⟩ |⟨_,h⟩
    ·exact(hcell j z hz).1
    ·exact ho i' j e2 z h hz
   ·intro i' j e2 u z h hz hu;refine Rep.mono hg hS ?_ (fun _ _ _ h=>h);rcases hset i' e2 h with⟨rfl,rfl⟩ |⟨hne,h⟩
    ·exact(hcell j z hz).2 u (by simpa using hu)
    ·have hlc:i*sz+off+(a.eval y).cells.toList.length<=c.toList.length:=by simp; omega
     have hj:j<sz:=by
      rw[<- hs i' e2 h];rcases afv j e2.cells.length with h |h
      ·exact h
      ·rw[af0 h]at hz;cases hz
     have hu':(over c.toList (i*sz+off) (a.eval y).cells.toList)[i'*sz+j]?=some u:=by simpa using hu
     rw[jC _ _ _ hlc]at hu'
     have hcu:c.toList[i'*sz+j]?=some u:=by
      rcases afv i' i with hlt |hge
      ·have:=mF (sz:=sz) hlt
       rwa [agz oz]at hu'
      ·have:=mF (sz:=sz) (show i<i' by omega)
       rwa [agy oz,agy (by simp;omega)]at hu'
     exact hrr i' j e2 u z h hz (by simpa using hcu)
theorem KU:∀(l:List ag9)(n off:Nat)(arr:Array ag9),off+n+l.length<=arr.size ->
  ((l.zipIdx n).foldl (fun cs p=>cs.setIfInBounds (off+p.2) p.1) arr).toList=over arr.toList (off+n) l:=by
 intro l
 induction l with
 |nil=>intro n off arr h;simp[over]
 |cons v l ih =>
  intro n off arr h;simp only[af9]at h;simp only[List.zipIdx_cons,ac8];rw[ih (n+1) off _ (by simp;omega),afc,show off+(n+1)=off+n+1 by omega,KF _ _ _ _ (by simp;omega)]
def tx(place:Nat->Option (Nat×Nat)):List AV->List (Nat×AV)->Option (List AV)
  |l,[]=>some l
  |l,(i,x)::r=>match place i with
    |some (off,n)=>match ab3 x.cells.length n&&Nat.ble (off+n) l.length&&x.ok with
      |true=>tx place (over l off x.cells) r
      |false=>none
    |none=>none
inductive EvP(s:AS):List (Nat×ag8)->List (Nat×AV)->Prop
  |nil:EvP s [] []
  |cons {i:Nat} {o:ag8} {x:AV} {os:List (Nat×ag8)} {xs:List (Nat×AV)} (h:Ev s o x) (hs:EvP s os xs):EvP s ((i,o)::os) ((i,x)::xs)
def rg:List (Nat×ag8)->List Nat
  |[]=>[]
  |(_,o)::os=>aj o++rg os
theorem EvP.agree{s':AS}{u:Out}(h:fT s s' u){os:List (Nat×ag8)}{xs:List (Nat×AV)}(he:EvP s os xs)(hs:∀t∈rg os,t∈u.rt):EvP s' os xs:=by
 induction he with
 |nil=>exact .nil
 |cons h1 _ ih=>exact .cons (h1.agree h (fun t ht=>hs t (by simp[rg,ht]))) (ih (fun t ht=>hs t (by simp[rg,ht])))
theorem Yn{g:Nat->Array ag9->Prop}{S:Nat->Nat->Prop}{mm:Nat->Option Nat}{ev:ag8->ag9}{place:Nat->Option (Nat×Nat)}
  {os:List (Nat×ag8)} {xs:List (Nat×AV)} (hp:EvP s os xs) (hev:∀o x,Ev s o x->Rep g S mm (ev o) x) :
  ∀(c:Array ag9)(l l':List AV),dk g S mm c.toList l->tx place l xs=some l' ->
   ∃c',Instr.fill place c (os.map fun p=>(p.1,ev p.2))=some c'/\dk g S mm c'.toList l':=by
 induction hp with
 |nil=>intro c l l' h hf;cases hf;exact⟨c,rfl,h⟩
 | @cons i o x os xs h1 _ ih =>
  intro c l l' h hf;unfold tx at hf;split at hf
  ·rename_i off n hpl;split at hf
   ·rename_i hc;simp only [afp,acl] at hc;obtain⟨⟨hc1,hc2⟩,hc3⟩:=hc;have hc1:=afo hc1;have hx:=dk.of_value (hev o x h1) hc3;have hlen:(ev o).cells.size=n:=by have:=hx.1; simp at this; omega
    have hcl:c.size=l.length:=by have:=h.1;simpa using this
    have hov:=h.over hx (off:=off) oz;have hfo:=KU (ev o).cells.toList 0 off c (by simp;omega);simp only[ach]at hfo;obtain⟨c',h2,h3⟩:=ih ((((ev o).cells.toList.zipIdx 0).foldl (fun cs p=>cs.setIfInBounds (off+p.2) p.1) c)) _ l' (by rw[hfo];exact hov) hf;refine⟨c',?_,h3⟩;rw[<- h2];simp only[agv,Instr.fill,hpl];rw[agy (by simp;omega)];congr 1;rw[<- Array.foldl_toList,Array.toList_zipIdx]
   ·cases hf
  ·cases hf
theorem Sq{α β:Type}{w:ahc}(f:α->Sem β)(g:α->β):∀(l:List α),(∀x∈l,(f x).run P w=.ok (g x) w)->(l.mapM f).run P w=.ok (l.map g) w:=by
 intro l
 induction l with
 |nil=>intro _;simp
 |cons x l ih =>
  intro h;simp[List.mapM_cons,h x (by simp),ih (fun y hy=>h y (by simp[hy]))]
theorem Ym{d:Nat}{parts:Array (Nat×ag8)}{xs:List (Nat×AV)}{l:List AV}{T t:aha}{ti:TI}
  (hx:EvP s parts.toList xs) (hT:au P T=some ti) (hk:ti.k=.struct) (hz:ti.zero.all Value.oneCell'=true) (hp:(ti.fs.all fun p=>acm 0 p.2)=true)
  (hl:tx (fun i=>ti.fs[i]?) (ti.zero.map .v) xs=some l) (hN:acm d N=true) :
  Step P N R s ⟨some d,.build T parts,t,pos,after,none⟩ ⟨some (.agg l),[],rg parts.toList,[]⟩ :=
 cK rfl rfl hN fun s' hag C m a w hr=>by
  have hx':=hx.agree hag (fun _ h=>h);obtain⟨z,h1,h2⟩:=uY hT w;obtain⟨d2,h3,h4,h5,-⟩:=dg hT w;obtain⟨fs,rfl⟩:=Ji (h4.trans hk);have hz0:dk (Im C.ext s'.hp m w) (Sz w) m z.cells.toList (ti.zero.map .v):=by rw[h2];exact .of_zero _ hz
  obtain⟨c',h6,h7⟩:=Yn (place:=fun i=>ti.fs[i]?) hx' (fun o x h=>h.rep hr) z.cells _ l hz0 hl
  have hm:(fs.mapM fun f=>(do pure (f.offset,<- sizeOf f.type):Sem (Nat×Nat))).run P w=.ok ti.fs.toArray w:=by
   rw[afh];simp only[Sem.run_map];rw[Sq _ (fun f=>(f.offset,match P.info? f.type with |some j=>j.size |none=>0))]
   ·simp only[Result.andThen_ok,<- h5,qY] <;> rfl
   ·intro f hf
    have:(f.offset,match P.info? f.type with |some j=>j.size |none=>0)∈ti.fs:=by
     rw[<- h5];simp only[qY,ac6];exact⟨f,hf,rfl⟩
    have:=afy.1 hp _ this;simp only[ab7]at this;cases hi:P.info? f.type with
    |none=>rw[hi]at this;simp at this
    |some j=>simp[sizeOf,typeInfo,hi]
  refine⟨.agg c',?_,.agg (by simpa using h7.1) h7.2.1 (fun j u x hu hx=>h7.2.2 j u x (by simpa using hu) hx)⟩;have hpl:(fun x:Nat=>ti.fs.toArray[x]?)=fun i:Nat=>ti.fs[i]?:=by funext i;simp
  have hpm:(parts.map fun p=>(p.1,a.eval p.2)).toList=parts.toList.map fun p=>(p.1,a.eval p.2):=by simp
  have hb:(Instr.build T (parts.map fun p=>(p.1,a.eval p.2))).run P w=.ok (.agg c') w:=by
   simp only[Instr.build,Sem.run_bind,h1,Result.andThen_ok,h3,hm,hpl,hpm,h6,Sem.run_pure]
  simp only[execOp,Sem.run_bind,hb,Result.andThen_ok,Sem.run_pure]
theorem TO{o:Oper}{d:Nat}{x:AV}{rt rd:List Nat}(hg:o.guard=none)(hd:o.dst=some d)(hN:acm d N=true)
  (h:∀s',fT s s' ⟨some x,[],rt,rd⟩->∀C m a w,RelM C s' m a w ->
   ∃(v:ag9)(c:Array ag9)(t:aha),(execOp a.eval o).run P w=.ok (.value v) { w with heap:=w.heap.push (.cells c t) } /\
    (∀(g:Nat->Array ag9->Prop)(S:Nat->Nat->Prop),(∀b cs,Im C.ext s'.hp m w b cs->g b cs)->(∀b n,Sz w b n->S b n)->g w.heap.size c->Rep g S m v x)) :
  Step P N R s o ⟨some x,[],rt,rd⟩:=by
 refine⟨fun s' hag _ C m a w Q next hC hr hnext=>?_⟩;rw[agz (mN hg _)];refine vg ?_;obtain⟨v,c,t,h1,h2⟩:=h s' hag C m a w hr;rw[ab7]at hN;unfold Oper.wp;rw[h1];simp only[Oper.upon,hd,Act.put];refine hnext m _ _ ?_;have hf:=Ca (aW s'.hp m) w (.cells c t);have hal:∀k' y b',lk s'.hp k'=some y->m k'=some b'->aW s'.hp m b'\/w.heap.size<=b':=fun k' y b' h1 h2=>.inl ⟨k',y,h1,h2⟩
 have hr1:RelM C s' m a { w with heap:=w.heap.push (.cells c t) }:=by
  refine hr.update hf (fun t y k' b' _ _ hb'=>hb') hal (fun k' y _ hy=>⟨⟨y,hy⟩,rfl⟩) ⟨?_,hr.heap.inj,?_⟩
  ·intro k y hk;refine BlkRep.mono (fg hf hal) hf.sz (fun _ _ _ h=>h) rfl ?_ (hr.heap.blk k y hk);intro b hb;have:=(hr.heap.sep k y b hk hb).2;show(w.heap.push _)[b]?=_;rw[afb,agy oz]
  ·intro k y b hk hb;have:=hr.heap.sep k y b hk hb;refine⟨this.1,?_⟩;have:=this.2;simp;omega
 have:=hr1.put d v (some x) (fun z hz=>by
  cases hz;refine⟨by have:=hr.nt;omega,h2 _ _ (fg hf hal) hf.sz ⟨fun hc=>?_,?_,t,(0,0),?_⟩⟩
  ·have:=hr.ext_lt hc;omega
  ·rintro⟨k,y,hk,hb⟩;have:=(hr.heap.sep k y _ hk hb).2;omega
  ·show(w.heap.push _)[w.heap.size]?=_;simp)
 simpa[AS.app,hd]using this
def gY:List AV->List AV
  |[]=>[]
  |e::es=>e.cells++gY es
theorem Hg{sz:Nat}:∀(es:List AV),(∀e∈es,e.cells.length=sz)->(gY es).length=es.length*sz
 |[],_=>by simp[gY]
 |e::es,h=>by
  simp only[gY,agf,af9,h e (by simp),Hg es (fun e he=>h e (by simp[he])),ack];omega
theorem IJ{sz:Nat}:∀(es:List AV),(∀e∈es,e.cells.length=sz)->∀(i j:Nat)(e x:AV),es[i]?=some e->e.cells[j]?=some x->(gY es)[i*sz+j]?=some x
 |[],_,i,j,e,x,h,_=>by simp at h
 |e0::es,h,0,j,e,x,he,hx=>by
  simp at he;subst he
  have hj:j<e0.cells.length:=by
   rcases afv j e0.cells.length with h |h
   ·exact h
   ·rw[af0 h]at hx;cases hx
  simp only[gY,Nat.zero_mul,ab5];rw[af6 hj,hx]
 |e0::es,h,i+1,j,e,x,he,hx=>by
  have h0:=h e0 (by simp);simp only[gY,ack];rw[af5 oz,h0,show i*sz+sz+j-sz=i*sz+j by omega];exact IJ es (fun e he=>h e (by simp[he])) i j e x (by simpa using he) hx
def mj(n:Nat):List ag8->List (Nat×ag8)
  |[]=>[]
  |o::os=>(n,o)::mj (n+1) os
theorem Oh{g:Nat->Array ag9->Prop}{S:Nat->Nat->Prop}{mm:Nat->Option Nat}{ev:ag8->ag9}{sz:Nat}
  (hev:∀o x,Ev s o x->Rep g S mm (ev o) x):∀(os:List ag8)(es:List AV),EvL s os es->(es.all fun e=>ab3 e.cells.length sz&&e.ok)=true ->
   ∀(n:Nat)(c:Array ag9)(A Z:List AV),A.length=n*sz->Z.length=es.length*sz->dk g S mm c.toList (A++Z) ->
    ∃c',Instr.fill (fun i=>some (i*sz,sz)) c ((mj n os).map fun p=>(p.1,ev p.2))=some c'/\dk g S mm c'.toList (A++gY es):=by
 intro os es hl
 induction hl with
 |nil =>
  intro _ n c A Z hA hZ hc;have:Z=[]:=by simpa using hZ
  subst this;exact⟨c,rfl,by simpa[gY]using hc⟩
 | @cons o x os xs h1 _ ih =>
  intro hes n c A Z hA hZ hc;simp only[List.all_cons,afp]at hes;obtain⟨⟨hx1,hx2⟩,hes⟩:=hes;have hx1:=afo hx1;have hx:=dk.of_value (hev o x h1) hx2;have hlen:(ev o).cells.size=sz:=by have:=hx.1;simp at this;omega
  simp only[af9,ack]at hZ;have hcl:c.size=A.length+Z.length:=by have:=hc.1;simpa using this
  have hov:=hc.over hx (off:=n*sz) (by simp;omega)
  have hoe:over (A++Z) (n*sz) x.cells=(A++x.cells)++Z.drop sz:=by
   unfold over;rw[<- hA,List.take_left,hx1,List.drop_append,agb oz,show A.length+sz-A.length=sz by omega,nil_append]
  rw[hoe]at hov;have hfo:=KU (ev o).cells.toList 0 (n*sz) c (by simp;omega);simp only[ach]at hfo
  obtain⟨c',h2,h3⟩:=ih hes (n+1) ((((ev o).cells.toList.zipIdx 0).foldl (fun cs p=>cs.setIfInBounds (n*sz+p.2) p.1) c)) (A++x.cells) (Z.drop sz)
   (by simp[ack];omega) (by simp;omega) (by rw[hfo];exact hov)
  refine⟨c',?_,by simpa[gY,agx]using h3⟩;rw[<- h2];simp only[mj,agv,Instr.fill];rw[agy (by simp;omega)];congr 1;rw[<- Array.foldl_toList,Array.toList_zipIdx]
theorem N1{g:Nat->Array ag9->Prop}{S:Nat->Nat->Prop}{m:Nat->Option Nat}(zero:Array ag9)(n:Nat)(hz:zero.toList.all Value.oneCell'=true)(h0:n=0\/zero≠#[]) :
  ∃l:List AV,dk g S m ((Array.range n).map (zero[· % zero.size]!)).toList l/\l.length=n:=by
 refine⟨(List.range n).map (fun i=>AV.v (zero[i%zero.size]!)),⟨by simp,?_,?_⟩,by simp⟩
 ·intro j x hx;simp only [afu,afs] at hx;obtain⟨i,hi,rfl⟩:=hx;have hn:0<n:=by have:=afl hi; simp at this; omega
  have hpos:0<zero.size:=by
   rcases h0 with h |h
   ·omega
   ·rcases abu zero.size with h' |h'
    ·exact ag5 (Array.size_eq_zero_iff.1 h') h
    ·exact h'
  have hlt:i%zero.size<zero.size:=acn _ hpos;simp only[AV.one];rw[getElem!_pos zero _ hlt];exact afy.1 hz _ (by simp)
 ·intro j u x hu hx;simp only[afu,afs]at hx;obtain⟨i,hi,rfl⟩:=hx;simp only[Array.toList_map,Array.toList_range,afu,hi,afi,Option.some.injEq]at hu;subst hu;exact .v _
theorem MF{T E:aha}{ti te:TI}{w:ahc}{n:Nat}{g:Nat->Array ag9->Prop}{S:Nat->Nat->Prop}{mm:Nat->Option Nat}{ev:ag8->ag9}
  (hT:au P T=some ti) (hk:ti.k=.slice E) (hE:au P E=some te) (hz:te.zero.all Value.oneCell'=true) (hz0:ab3 te.zero.length te.size=true)
  (hev:∀o x,Ev s o x->Rep g S mm (ev o) x) {os:List ag8} {es:List AV} (hl:EvL s os es) (hes:(es.all fun e=>ab3 e.cells.length te.size&&e.ok)=true)
  (hn:n=es.length) (hb:n*te.size<=2^24) :
  ∃c:Array ag9,(Instr.buildSlice T n ((mj 0 os).map fun p=>(p.1,ev p.2)).toArray).run P w =
    .ok (.slice (some ⟨w.heap.size,0,none⟩) n n) { w with heap:=w.heap.push (.cells c E) }/\dk g S mm c.toList (gY es):=by
 obtain⟨d2,h3,h4,-,-⟩:=dg hT w;obtain rfl:=gT (h4.trans hk);obtain⟨z,h5,h6⟩:=uY hE w;have hz0:=afo hz0;have hzs:z.cells.size=te.size:=by rw[<- ae3,h6];exact hz0
 subst hn
 have key:∀zero:Array ag9,zero=(if es.length*te.size=0 then #[]else z.cells)->zero.toList.all Value.oneCell'=true/\(es.length*te.size=0\/zero≠#[]):=by
  intro zero h;subst h;split
  ·exact⟨rfl,.inl ‹_›⟩
  ·rename_i h;refine⟨by rw[h6];exact hz,.inr (fun he=>?_)⟩;rw[he]at hzs;simp at hzs;exact h (by rw[<- hzs];omega)
 obtain⟨zero,hzero⟩:∃zero:Array ag9,zero=(if es.length*te.size=0 then #[]else z.cells):=⟨_,rfl⟩
 obtain⟨k1,k2⟩:=key zero hzero;obtain⟨Z,hZ,hZl⟩:=N1 (g:=g) (S:=S) (m:=mm) zero (es.length*te.size) k1 k2;obtain⟨c',h7,h8⟩:=Oh hev os es hl hes 0 ((Array.range (es.length*te.size)).map (zero[· % zero.size]!)) [] Z (by simp) hZl (by simpa using hZ);refine⟨c',?_,by simpa using h8⟩;have hnb:¬(es.length*te.size>2^24):=by omega
 simp only[Instr.buildSlice,Sem.run_bind,h3,Result.andThen_ok,fL hE];rw[agy hnb]
 by_cases h0:es.length*te.size=0
 ·rw[agz h0]at hzero ⊢;subst hzero;simp only[Sem.run_bind,Sem.run_pure,Result.andThen_ok,h7,newRow,run_newObj]
 ·rw[agy h0]at hzero ⊢;subst hzero;simp only[Sem.run_bind,Sem.run_pure,Result.andThen_ok,h5,h7,newRow,run_newObj]
theorem Y0{g:Nat->Array ag9->Prop}{S:Nat->Nat->Prop}{m:Nat->Option Nat}{b sz:Nat}{c:Array ag9}{es:List AV}(hb:g b c)
  (hc:dk g S dc c.toList (gY es)) (hs:∀e∈es,e.cells.length=sz) (hl:es.length<=aS) :
  Rep g S m (.slice (some ⟨b,0,none⟩) es.length es.length) (.lst sz es):=by
 have hlen:=Hg es hs;have hsz:c.size=es.length*sz:=by have:=hc.1;simp at this;omega
 have hcell:∀(i j:Nat)(e x:AV),es[i]?=some e->e.cells[j]?=some x->∃u,c[i*sz+j]?=some u/\x.one=true/\Rep g S dc u x:=by
  intro i j e x he hx;have hf:=IJ es hs i j e x he hx
  have hlt:i*sz+j<(gY es).length:=by
   rcases afv (i*sz+j) (gY es).length with h |h
   ·exact h
   ·rw[af0 h]at hf;cases hf
  have hlt':i*sz+j<c.size:=by omega
  refine⟨c[i*sz+j],ae4 hlt',hc.2.1 _ x hf,hc.2.2 _ _ x (by simp[hlt']) hf⟩
 refine .lst (fun i j=>c.getD (i*sz+j) undef) hb (afq _) hl (fun i e he=>hs e (afl he)) ?_ ?_ ?_
 ·intro i j e x he hx;obtain⟨u,_,h,_⟩:=hcell i j e x he hx;exact h
 ·intro i j e x he hx;obtain⟨u,h,_,_⟩:=hcell i j e x he hx;simp[afx,h]
 ·intro i j e x he hx;obtain⟨u,h,_,h2⟩:=hcell i j e x he hx;simpa[afx,h]using h2
theorem Nr{es:List AV}{sz:Nat}(h:(es.all fun e=>ab3 e.cells.length sz&&e.ok)=true):∀e∈es,e.cells.length=sz:=by
 intro e he;have:=afy.1 h e he;simp only[afp]at this;exact afo this.1
theorem M9{es:List AV}(h:AV.nms es=[]):∀e∈es,e.nm=[]:=by
 induction es with
 |nil=>intro e he;cases he
 |cons x es ih =>
  simp only[AV.nms,List.append_eq_nil_iff]at h;intro e he;rcases agd.1 he with rfl |he
  ·exact h.1
  ·exact ih h.2 e he
theorem Og{d n:Nat}{os:List ag8}{es:List AV}{T E t:aha}{ti te:TI}{parts:Array (Nat×ag8)}
  (hp:parts=(mj 0 os).toArray) (hx:EvL s os es) (hT:au P T=some ti) (hk:ti.k=.slice E) (hE:au P E=some te) (hz:te.zero.all Value.oneCell'=true)
  (hz0:ab3 te.zero.length te.size=true) (hes:(es.all fun e=>ab3 e.cells.length te.size&&e.ok)=true) (hnm:AV.nms es=[])
  (hn:n=es.length) (hb:Nat.ble (n*te.size) 16777216=true) (hb':Nat.ble n 16777216=true) (hN:acm d N=true) :
  Step P N R s ⟨some d,.buildSlice T n parts,t,pos,after,none⟩ ⟨some (.lst te.size es),[],cQ os,[]⟩ :=
 TO rfl rfl hN fun s' hag C m a w hr=>by
  subst hp;rw[acl]at hb hb';have hx':=hx.agree hag (fun _ h=>h);obtain⟨c,h1,h2⟩:=MF (w:=w) hT hk hE hz hz0 (fun o x h=>h.rep hr) hx' hes hn oz;refine⟨.slice (some ⟨w.heap.size,0,none⟩) n n,c,E,?_,?_⟩
  ·have:((mj 0 os).toArray.map fun p=>(p.1,a.eval p.2))=((mj 0 os).map fun p=>(p.1,a.eval p.2)).toArray:=by simp
   simp only[execOp,Sem.run_bind,this,h1,Result.andThen_ok,Sem.run_pure]
  ·intro g S hg hS hgb;subst hn
   have hnm':∀x∈gY es,x.nm=[]:=by
    have hh:=M9 hnm;clear h2 h1 hx' hx hes hb hb' hnm hag
    induction es with
    |nil=>intro x hx;cases hx
    |cons e es ih =>
     intro x hx;simp only[gY,aft]at hx;rcases hx with hx |hx
     ·have:=hh e (by simp)
      cases e <;> simp only[AV.cells,adc]at hx <;> first
       |(subst hx;exact this)
       |(exact M9 this x hx)
     ·exact ih (fun e he=>hh e (by simp[he])) x hx
   have h3:dk g S dc c.toList (gY es):=h2.mono hg hS (fun x hx k b hk _=>by have:=hk.mem;rw[hnm' x hx]at this;cases this);exact Y0 hgb h3 (Nr hes) (by unfold aS;omega)
theorem j4{d:Nat}{T E t:aha}{ti te:TI}
  (hT:au P T=some ti) (hk:ti.k=.slice E) (hE:au P E=some te) (hz:te.zero.all Value.oneCell'=true)
  (hz0:ab3 te.zero.length te.size=true) (hN:acm d N=true) :
  Step P N R s ⟨some d,.buildSlice T 0 #[],t,pos,after,none⟩ ⟨some (.ms d te.size 0 0),[(d,some (.row te.size []))],[],[]⟩ :=
 uS rfl rfl hN (by simp) fun s' hag hfr C m a w hr=>by
  obtain⟨c,h1,h2⟩:=MF (w:=w) (n:=0) hT hk hE hz hz0 (fun o x h=>h.rep hr) (.nil:EvL s' [] []) rfl rfl oz;refine⟨.slice (some ⟨w.heap.size,0,none⟩) 0 0,c,E,w.drawn,?_,fun h=>h,?_,fun g S m' hm _=>.ms0 _ _ _ _⟩
  ·have h1':(Instr.buildSlice T 0 #[]).run P w=.ok (.slice (some ⟨w.heap.size,0,none⟩) 0 0) { w with heap:=w.heap.push (.cells c E) }:=h1;have:((#[]:Array (Nat×ag8)).map fun (i,x)=>(i,a.eval x))=#[]:=by simp
   simp only[execOp,Sem.run_bind,this,h1',Result.andThen_ok,Sem.run_pure]
  ·intro g S m' w' hg hS hm hw;exact .row hw (by simp) (by simp) (by simp) (by simp) (by simp)
theorem gX{d:Nat}{x:ag8}{n:Int}{T E t:aha}{ti te:TI}(hx:Ev s x (.v (.int .i64 n)))
    (hT:au P T=some ti) (hk:ti.k=.slice E) (hE:au P E=some te) (hz:te.zero.all Value.oneCell'=true)
    (hz0:(ab3 te.zero.length te.size&&acm 0 te.size&&acm 0 te.bytes&&(te.ag||ab3 te.size 1))=true)
    (h0:0<=n) (hb:n*te.bytes<=281474976710656) (hN:acm d N=true) :
    Step P N R s ⟨some d,.makeSlice T x x,t,pos,after,none⟩
      ⟨some (.ms d te.size 0 n.toNat),[(d,some (.row te.size (ad7 n.toNat (jH te.ag (te.zero.map .v)))))],aj x,[]⟩ :=
  uS rfl rfl hN (by simp) fun s' hag hfr C m a w hr=>by
    have hxv:=mi hr (hx.agree hag (fun _ h=>h));simp only[afp,agp,ab7]at hz0;obtain⟨⟨⟨hz0,hz1⟩,hz2⟩,hz3⟩:=hz0;have hz0:=afo hz0;obtain⟨d2,h3,h4,-,-⟩:=dg hT w;obtain rfl:=gT (h4.trans hk);obtain⟨z,h5,h6⟩:=uY hE w;obtain⟨ie,h7,h8,-⟩:=Kz hE w;have hzs:z.cells.size=te.size:=by rw[<- ae3,h6];exact hz0
    have hnb:n<=281474976710656:=by
      have:n*1<=n*te.bytes:=Int.mul_le_mul_of_nonneg_left oz h0;omega
    have hw1:IntKind.i64.wrap n=n:=IntWalk.i64_in n oz;obtain⟨zero,hzero⟩:∃zero:Array ag9,zero=(if n.toNat*te.size=0 then #[]else z.cells):=⟨_,rfl⟩
    refine⟨.slice (some ⟨w.heap.size,0,none⟩) n.toNat n.toNat,(Array.range (n.toNat*te.size)).map (zero[· % zero.size]!),E,w.drawn,?_,fun h=>h,?_,?_⟩
    · have hmk:(Instr.makeSlice T (.int .i64 n) (.int .i64 n)).run P w =
          .ok (.slice (some ⟨w.heap.size,0,none⟩) n.toNat n.toNat) { w with heap:=w.heap.push (.cells ((Array.range (n.toNat*te.size)).map (zero[· % zero.size]!)) E) }:=by
        have hc:¬((n<0\/281474976710656<(ie.bytes:Int)*n)\/n<0):=by
          rw[h8,Int.mul_comm];omega
        simp only[Instr.makeSlice,Sem.run_bind,h3,Result.andThen_ok,asInt,asIntOf,Sem.run_pure,h7,hw1];rw[agy (by simpa using hc)];simp only[Sem.run_bind,run_askRoom,Result.andThen_ok,fL hE]
        by_cases h0:n.toNat*te.size=0
        · rw[agz h0]at hzero ⊢
          subst hzero;simp only[Sem.run_bind,Sem.run_pure,Result.andThen_ok,newRow,run_newObj]
        · rw[agy h0]at hzero ⊢
          subst hzero;simp only[Sem.run_bind,Sem.run_pure,Result.andThen_ok,h5,newRow,run_newObj]
      simp only[execOp,hxv,Sem.run_bind,hmk,Result.andThen_ok,Sem.run_pure]
    · intro g S m' w' hg hS hm hw
      have hcl:(jH te.ag (te.zero.map .v)).cells=te.zero.map .v:=by
        rcases hz3 with h |h
        · rw[h];rfl
        · have h:=afo h
          match hq:te.zero with
          |[]=>rw[hq]at hz0;simp at hz0;omega
          |[u] =>
            rw[hq]at hz;simp only[List.all_cons,List.all_nil,Bool.and_true]at hz;cases te.ag <;> simp[jH,AV.cells]
          |u::u'::r=>rw[hq]at hz0;simp at hz0;omega
      have hcell:∀(i j:Nat)(x:AV),i<n.toNat->(te.zero.map AV.v)[j]?=some x->x.one=true/\∀u,((Array.range (n.toNat*te.size)).map (zero[· % zero.size]!))[i*te.size+j]?=some u->x=.v u:=by
        intro i j x hi hx;simp only[afu,afs]at hx;obtain⟨v,hv,rfl⟩:=hx;refine⟨afy.1 hz v (afl hv),?_⟩;intro u hu
        have hj:j<te.size:=by
          rw[<- hz0];rcases afv j te.zero.length with h |h
          · exact h
          · rw[af0 h]at hv;cases hv
        have hpos:¬n.toNat*te.size=0:=by
          have:=abt (show 0<n.toNat by omega) hz1;omega
        rw[agy hpos]at hzero;subst hzero;have hb2:=mF (sz:=te.size) hi;have hlt:i*te.size+j<n.toNat*te.size:=by omega
        simp only[Array.getElem?_map,Array.getElem?_range,hlt,if_true,afi,Option.some.injEq]at hu;have hmod:(i*te.size+j)%z.cells.size=j:=by rw[hzs,acu,Nat.add_mul_mod_self_right,ab4 hj]
        rw[hmod,getElem!_pos z.cells j oz]at hu;rw[<- h6,ae2,ae4 oz]at hv;cases hv;rw[hu]
      refine .row hw (by simp) (by unfold aS;simp;omega) ?_ ?_ ?_
      · intro i e he
        rw[adq]at he;split at he
        · cases he;rw[hcl];simpa using hz0
        · cases he
      · intro i j e x he hx
        rw[adq]at he;split at he
        · rename_i hi;cases he;rw[hcl]at hx;exact(hcell i j x hi hx).1
        · cases he
      · intro i j e u x he hx hu
        rw[adq]at he;split at he
        · rename_i hi;cases he;rw[hcl]at hx
          rw[(hcell i j x hi hx).2 u hu];exact .v _
        · cases he
    · intro g S m' hm hS
      have:=Rep.ms (g:=g) (S:=S) (m:=m') (k:=d) (sz:=te.size) (off:=0) (len:=n.toNat) (cap:=n.toNat) hm (afq _) (by simpa using hS);simpa using this
theorem RelM.rk{C:Ctx}{m:Nat->Option Nat}{a:Act}{w:ahc}(h:RelM C s m a w){k d:Nat}{y:Blk}(hk:lk s.hp k=some y)(hd:s.Fresh d) :
  RelM C ⟨s.sl,(d,some y)::(k,none)::s.hp⟩ (fun k'=>if k'=d then m k else m k') a w:=by
 have hne:k≠d:=fun e=>by rw[e,hd.1]at hk;cases hk
 have hlk:∀k' z,lk ((d,some y)::(k,none)::s.hp) k'=some z->(k'=d/\z=y)\/(k'≠d/\k'≠k/\lk s.hp k'=some z):=by
  intro k' z hz;rw[aD]at hz;split at hz
  ·cases hz;exact .inl ⟨‹_›,rfl⟩
  ·rw[aD]at hz;split at hz
   ·cases hz
   ·exact .inr ⟨‹_›,‹_›,hz⟩
 have hf:=Frame.refl (aW s.hp m) w
 have hal:∀k' z b,lk ((d,some y)::(k,none)::s.hp) k'=some z->(if k'=d then m k else m k')=some b->aW s.hp m b\/w.heap.size<=b:=by
  intro k' z b hz hb;rcases hlk k' z hz with⟨h1,h2⟩ |⟨h1,h2,h3⟩
  ·rw[agz h1]at hb;exact .inl ⟨k,y,hk,hb⟩
  ·rw[agy h1]at hb;exact .inl ⟨k',z,h3,hb⟩
 have hmm:∀z:Blk,¬z.Names d->∀k'' b,z.Names k''->m k''=some b->(if k''=d then m k else m k'')=some b:=by
  intro z hz k'' b hn hb;rw[agy (fun(e:k''=d)=>hz (e▸hn))];exact hb
 refine h.update hf ?_ hal ?_ ⟨?_,?_,?_⟩
 ·intro t z k' b hz hn hb;have:k'≠d:=fun e=>hd.2.2.1 t z hz (e▸hn)
  rw[agy this];exact hb
 ·intro k' z h1000 hz;rcases hlk k' z hz with⟨h1,h2⟩ |⟨h1,h2,h3⟩
  ·have:=hd.2.1;omega
  ·exact⟨⟨z,h3⟩,by rw[agy h1]⟩
 ·intro k' z hz;rcases hlk k' z hz with⟨h1,h2⟩ |⟨h1,h2,h3⟩
  ·subst h2;rw[agz h1];exact BlkRep.mono (w:=w) (fg hf hal) hf.sz (hmm z (hd.2.2.2 k z hk)) rfl (fun _ _=>rfl) (h.heap.blk k z hk)
  ·rw[agy h1];exact BlkRep.mono (w:=w) (fg hf hal) hf.sz (hmm z (hd.2.2.2 k' z h3)) rfl (fun _ _=>rfl) (h.heap.blk k' z h3)
 ·intro k1 k2 z1 z2 b h1 h2 hb1 hb2;rcases hlk k1 z1 h1 with⟨e1,e2⟩ |⟨e1,e2,e3⟩ <;> rcases hlk k2 z2 h2 with⟨g1,g2⟩ |⟨g1,g2,g3⟩
  ·rw[e1,g1]
  ·rw[agz e1]at hb1;rw[agy g1]at hb2
   exact ag5 (h.heap.inj k k2 y z2 b hk g3 hb1 hb2).symm g2
  ·rw[agy e1]at hb1;rw[agz g1]at hb2
   exact ag5 (h.heap.inj k1 k z1 y b e3 hk hb1 hb2) e2
  ·rw[agy e1]at hb1;rw[agy g1]at hb2
   exact h.heap.inj k1 k2 z1 z2 b e3 g3 hb1 hb2
 ·intro k' z b hz hb;rcases hlk k' z hz with⟨h1,h2⟩ |⟨h1,h2,h3⟩
  ·rw[agz h1]at hb;exact h.heap.sep k y b hk hb
  ·rw[agy h1]at hb;exact h.heap.sep k' z b h3 hb
theorem RelM.fewer{C:Ctx}{m:Nat->Option Nat}{a:Act}{w:ahc}(h:RelM C s m a w){hp':Hp}(hs:∀k z,lk hp' k=some z->lk s.hp k=some z) :
  RelM C ⟨s.sl,hp'⟩ m a w:=by
 have hf:=Frame.refl (aW s.hp m) w;have hal:∀k' z b,lk hp' k'=some z->m k'=some b->aW s.hp m b\/w.heap.size<=b:=fun k' z b hz hb=>.inl ⟨k',z,hs k' z hz,hb⟩
 refine h.update hf (fun _ _ _ _ _ _ hb=>hb) hal (fun k' z _ hz=>⟨⟨z,hs k' z hz⟩,rfl⟩) ⟨?_,?_,?_⟩
 ·intro k' z hz;exact BlkRep.mono (w:=w) (fg hf hal) hf.sz (fun _ _ _ h=>h) rfl (fun _ _=>rfl) (h.heap.blk k' z (hs k' z hz))
 ·intro k1 k2 z1 z2 b h1 h2;exact h.heap.inj k1 k2 z1 z2 b (hs _ _ h1) (hs _ _ h2)
 ·intro k' z b hz hb;exact h.heap.sep k' z b (hs k' z hz) hb
theorem RelM.virt{C:Ctx}{m:Nat->Option Nat}{a:Act}{w:ahc}(h:RelM C s m a w){d:Nat}(sz:Nat)(hd:s.Fresh d) :
  RelM C ⟨s.sl,(d,some (.row sz []))::s.hp⟩ (fun k'=>if k'=d then none else m k') a w:=by
 have hlk:∀k' z,lk ((d,some (.row sz []))::s.hp) k'=some z->(k'=d/\z=.row sz [])\/(k'≠d/\lk s.hp k'=some z):=by
  intro k' z hz;rw[aD]at hz;split at hz
  ·cases hz;exact .inl ⟨‹_›,rfl⟩
  ·exact .inr ⟨‹_›,hz⟩
 have hf:=Frame.refl (aW s.hp m) w
 have hal:∀k' z b,lk ((d,some (.row sz []))::s.hp) k'=some z->(if k'=d then none else m k')=some b->aW s.hp m b\/w.heap.size<=b:=by
  intro k' z b hz hb;rcases hlk k' z hz with⟨h1,h2⟩ |⟨h1,h3⟩
  ·rw[agz h1]at hb;cases hb
  ·rw[agy h1]at hb;exact .inl ⟨k',z,h3,hb⟩
 refine h.update hf ?_ hal ?_ ⟨?_,?_,?_⟩
 ·intro t z k' b hz hn hb;rw[agy (fun(e:k'=d)=>hd.2.2.1 t z hz (e▸hn))];exact hb
 ·intro k' z h1000 hz;rcases hlk k' z hz with⟨h1,h2⟩ |⟨h1,h3⟩
  ·have:=hd.2.1;omega
  ·exact⟨⟨z,h3⟩,by rw[agy h1]⟩
 ·intro k' z hz;rcases hlk k' z hz with⟨h1,h2⟩ |⟨h1,h3⟩
  ·subst h2;rw[agz h1];exact .none sz
  ·rw[agy h1];exact BlkRep.mono (w:=w) (fg hf hal) hf.sz (fun k'' b hn hb=>by rw[agy (fun(e:k''=d)=>hd.2.2.2 k' z h3 (e▸hn))];exact hb) rfl (fun _ _=>rfl) (h.heap.blk k' z h3)
 ·intro k1 k2 z1 z2 b h1 h2 hb1 hb2;rcases hlk k1 z1 h1 with⟨e1,_⟩ |⟨e1,e3⟩ <;> rcases hlk k2 z2 h2 with⟨g1,_⟩ |⟨g1,g3⟩
  ·rw[e1,g1]
  ·rw[agz e1]at hb1;cases hb1
  ·rw[agz g1]at hb2;cases hb2
  ·rw[agy e1]at hb1;rw[agy g1]at hb2
   exact h.heap.inj k1 k2 z1 z2 b e3 g3 hb1 hb2
 ·intro k' z b hz hb;rcases hlk k' z hz with⟨h1,_⟩ |⟨h1,h3⟩
  ·rw[agz h1]at hb;cases hb
  ·rw[agy h1]at hb;exact h.heap.sep k' z b h3 hb
theorem HS{C:Ctx}{m:Nat->Option Nat}{w:ahc}{hp:Hp}{v:ag9}{sz:Nat}{xs:List AV}(h:Rep (Im C.ext hp m w) (Sz w) m v (.lst sz xs))(hsz:0<sz) :
  (xs=[]/\∃a cap,v=.slice a 0 cap)\/∃b off cap cs,v=.slice (some ⟨b,off,none⟩) xs.length cap/\0<xs.length/\Im C.ext hp m w b cs/\off+xs.length*sz<=cs.size /\
   xs.length<=aS/\(∀(i:Nat)(e:AV),xs[i]?=some e->e.cells.length=sz)/\(∀(i j:Nat)(e c:AV),xs[i]?=some e->e.cells[j]?=some c->c.one=true) /\
   ∀(i j:Nat)(e c:AV)(u:ag9),xs[i]?=some e->e.cells[j]?=some c->cs[off+i*sz+j]?=some u->Rep (Im C.ext hp m w) (Sz w) dc u c:=by
 cases h with
 |lst0 a cap=>exact .inl ⟨rfl,a,cap,rfl⟩
 | @lst _ b off cap _ _ cs u hb hc hl hs h1 hu hr =>
  rcases abu xs.length with h0 |h0
  ·have:xs=[]:=ac9 h0;subst this;exact .inl ⟨rfl,_,_,rfl⟩
  refine .inr ⟨b,off,cap,cs,rfl,h0,hb,?_,hl,hs,h1,?_⟩
  ·have he:xs[xs.length - 1]?=some (xs[xs.length - 1]'oz):=afr oz;have hel:=hs _ _ he;have hc':=hu (xs.length - 1) (sz - 1) _ _ he (afr (show sz - 1<_ by omega))
   have hlt:off+(xs.length-1)*sz+(sz-1)<cs.size:=by
    rcases afv (off+(xs.length-1)*sz+(sz-1)) cs.size with h |h
    ·exact h
    ·rw[afe h]at hc';cases hc'
   have:xs.length*sz=(xs.length-1)*sz+sz:=by
    rw[<- ack];congr 1;omega
   omega
  ·intro i j e c v he hc hv;have:=hu i j e c he hc;rw[this]at hv;cases hv
   exact hr i j e c he hc
theorem Io{g:Nat->Array ag9->Prop}{S:Nat->Nat->Prop}{m:Nat->Option Nat}{w':ahc}{b sz off:Nat}{es xs:List AV}{c cs az:Array ag9}{t:aha}
  (hw:w'.heap[b]?=some (.cells az t (0,0))) (hn:(es.length+xs.length)*sz<=az.size) (hl:es.length+xs.length<=aS)
  (hs:∀(i:Nat)(e:AV),es[i]?=some e->e.cells.length=sz) (h1:∀(i j:Nat)(e x:AV),es[i]?=some e->e.cells[j]?=some x->x.one=true)
  (hr:∀(i j:Nat)(e:AV)(u:ag9)(x:AV),es[i]?=some e->e.cells[j]?=some x->c[i*sz+j]?=some u->Rep g S dc u x)
  (hs':∀(i:Nat)(e:AV),xs[i]?=some e->e.cells.length=sz) (h1':∀(i j:Nat)(e x:AV),xs[i]?=some e->e.cells[j]?=some x->x.one=true)
  (hr':∀(i j:Nat)(e:AV)(x:AV)(u:ag9),xs[i]?=some e->e.cells[j]?=some x->cs[off+i*sz+j]?=some u->Rep g S dc u x)
  (ho:∀p,p<es.length*sz->az[p]?=c[p]?) (hn':∀p,p<xs.length*sz->az[es.length*sz+p]?=cs[off+p]?) :
  BlkRep g S m w' (some b) (.row sz (es++xs)):=by
 have split:∀(i:Nat)(e:AV),(es++xs)[i]?=some e->es[i]?=some e\/(es.length<=i/\xs[i-es.length]?=some e):=by
  intro i e he;rcases afv i es.length with h |h
  ·rw[af6 h]at he;exact .inl he
  ·rw[af5 h]at he;exact .inr ⟨h,he⟩
 have lt_of:∀{l:List AV}{i:Nat}{e:AV},l[i]?=some e->i<l.length:=by
  intro l i e h;rcases afv i l.length with h' |h'
  ·exact h'
  ·rw[af0 h']at h;cases h
 refine .row hw (by simpa using hn) (by simpa using hl) ?_ ?_ ?_
 ·intro i e he;rcases split i e he with h |⟨_,h⟩
  ·exact hs i e h
  ·exact hs' _ e h
 ·intro i j e x he hx;rcases split i e he with h |⟨_,h⟩
  ·exact h1 i j e x h hx
  ·exact h1' _ j e x h hx
 ·intro i j e u x he hx hu;rcases split i e he with h |⟨hge,h⟩
  ·have hi:=lt_of h;have hj:=lt_of hx;rw[hs i e h]at hj;have:=mF (sz:=sz) hi;rw[ho _ oz]at hu;exact hr i j e u x h hx hu
  ·have hi:=lt_of h;have hj:=lt_of hx;rw[hs' _ e h]at hj;have:=mF (sz:=sz) hi
   have e1:i*sz+j=es.length*sz+((i-es.length)*sz+j):=by
    rw[<- aby,<- aci];congr 2;omega
   rw[e1,hn' _ oz,<- aby]at hu;exact hr' _ j e x u h hx hu
theorem yI{o:Oper}{u:Out}(hg:o.guard=none)
  (h:∀s',fT s s' u->jt s' u->∀C m a w (next:Act->ahc->Prop),C.nt=N->RelM C s' m a w->(∀m' a' w',RelM C (s'.app o.dst u) m' a' w'->next a' w') ->
   o.upon P a next (fun _ _ _=>False) ((execOp a.eval o).run P w)):Step P N R s o u:=by
 refine⟨fun s' hag hnew C m a w Q next hC hr hnext=>?_⟩;rw[agz (mN hg _)];refine vg ?_;have:=h s' hag hnew C m a w next hC hr hnext;unfold Oper.wp;generalize(execOp a.eval o).run P w=r at *;cases r with
 |ok n w' =>
  cases n <;> simp only[Oper.upon]at this ⊢ <;> first
   |exact this
   |exact this.mono (fun e w'' he=>by cases e <;> first |exact he |exact he.elim |(obtain⟨_,_,h⟩:=he;exact h.elim))
 |halt x w'=>cases x <;> simp only[Oper.upon]at this
theorem sO{ρ:ag8->ag9}{d:Option Tmp}{x y:ag8}{T t:aha}{w w':ahc}{v:ag9}
  (h:(Builtin.append_ #[T,T] t #[ρ x,ρ y]).run P w=.ok v w') :
  (execOp ρ ⟨d,.call ⟨.builtin .append,#[x,y],#[T,T]⟩,t,pos,after,none⟩).run P w=.ok (.value v) w':=by
 simp[execOp,resolve,invoke,builtin,h]
theorem GD{T t E:aha}{ti te:TI}{w:ahc}{base a:Option Addr}{len cap cap':Nat}(hT:au P T=some ti)(hk:ti.k=.slice E)(hE:au P E=some te)
  (hle:len<=cap):(Builtin.append_ #[T,T] t #[.slice base len cap,.slice a 0 cap']).run P w=.ok (.slice base len cap) w:=by
 obtain⟨d2,h3,h4,-,hu⟩:=dg hT w;obtain rfl:=gT (h4.trans hk)
 have hfc:(Builtin.firstCells te.size 0 (.slice a 0 cap')).run P w=.ok #[] w:=by
  cases a with
  |none=>exact run_firstCells_none w _ _ _ _
  |some a=>exact run_firstCells_some w _ _ a _ _ [] (by simp) (by simp)
 cases base with
 |none=>simp[Builtin.append_,h3,fL hE,Builtin.lenOf,hle,hfc]
 |some b=>simp[Builtin.append_,h3,fL hE,Builtin.lenOf,hle,hfc,storeCells]
theorem OP{T t E:aha}{ti te:TI}{w:ahc}{b len n cap cap':Nat}{a:Addr}{c:Array ag9}{t2:aha}(hT:au P T=some ti)(hk:ti.k=.slice E)(hE:au P E=some te)
  (hw:w.heap[b]?=some (.cells c t2 (0,0))) (news:List ag9) (hnl:news.length=n*te.size) (hnc:∀(j:Nat) v,news[j]?=some v->w.cell? (a.add j)=some v)
  (hn1:∀u∈news,u.oneCell'=true) (hroom:len+n<=cap) (hfit:len*te.size+n*te.size<=c.size) :
  (Builtin.append_ #[T,T] t #[.slice (some ⟨b,0,none⟩) len cap,.slice (some a) n cap']).run P w =
   .ok (.slice (some ⟨b,0,none⟩) (len+n) cap) { w with heap:=w.heap.setIfInBounds b (.cells (over c.toList (len*te.size) news).toArray t2 (0,0)) }:=by
 obtain⟨d2,h3,h4,-,hu⟩:=dg hT w;obtain rfl:=gT (h4.trans hk);have hfc:=run_firstCells_some (P:=P) w te.size n a n cap' _ hnl hnc;have hst:=Eb (P:=P) news c w (len*te.size) 0 hw (by rw[hnl];omega) hn1;simp only[ach]at hst;simp[Builtin.append_,h3,fL hE,Builtin.lenOf,hroom,hfc,jb,hst]
theorem Sc{C:Ctx}{m:Nat->Option Nat}{a:Act}{w:ahc}(hr:RelM C s m a w){b n:Nat}{c:Array ag9}{t:aha}(hw:w.heap[b]?=some (.cells c t (0,0)))
  (h:Sz w b n):n<=c.size:=by
 obtain⟨c',t',f',h1,h2⟩:=h;rw[hw]at h1;cases h1;exact h2
theorem Fresh.row{d k:Nat}{z:Blk}(h:s.Fresh d)(hne:d≠k)(hz:¬z.Names d):AS.Fresh ⟨s.sl,(k,some z)::s.hp⟩ d:=by
 refine⟨?_,h.2.1,h.2.2.1,?_⟩
 ·simp only[aD,agy hne];exact h.1
 ·intro k' x hx;simp only[aD]at hx;split at hx
  ·cases hx;exact hz
  ·exact h.2.2.2 k' x hx
theorem yW{C:Ctx}{m:Nat->Option Nat}{a:Act}{w:ahc}{d k sz n:Nat}{y:Blk}{v:ag9}{rt rd:List Nat}{next:Act->ahc->Prop}
  (hr:RelM C ⟨s.sl,(d,some y)::(k,none)::s.hp⟩ m a w) (hd:d<C.nt)
  (hv:Rep (Im C.ext ((d,some y)::(k,none)::s.hp) m w) (Sz w) m v (.ms d sz 0 n))
  (hnext:∀m' a' w',RelM C (s.app (some d) ⟨some (.ms d sz 0 n),[(d,some y),(k,none)],rt,rd⟩) m' a' w'->next a' w'):next (a.put (some d) v) w:=by
 refine hnext m _ _ ?_;have:=hr.put d v (some (.ms d sz 0 n)) (fun z hz=>by cases hz;exact⟨af3 hd hr.nt,hv⟩);simpa[AS.app,Act.put]using this
theorem N4{C:Ctx}{m:Nat->Option Nat}{a:Act}{w:ahc}{d k sz:Nat}{es xs:List AV}{E:aha}{az:Array ag9}{cap:Nat}{rt rd:List Nat}{next:Act->ahc->Prop}
  (hr:RelM C s m a w) (hfr:s.Fresh d) (hd:d<C.nt)
  (hblk:∀(g:Nat->Array ag9->Prop)(S:Nat->Nat->Prop)(m':Nat->Option Nat)(w':ahc),
   (∀b cs,Im C.ext s.hp m w b cs->g b cs)->(∀b n,Sz w b n->S b n)->w'.heap[w.heap.size]?=some (.cells az E (0,0))->BlkRep g S m' w' (some w.heap.size) (.row sz (es++xs)))
  (hcap:es.length+xs.length<=cap) (hsz:cap*sz<=az.size)
  (hnext:∀m' a' w',RelM C (s.app (some d) ⟨some (.ms d sz 0 (es.length+xs.length)),[(d,some (.row sz (es++xs))),(k,none)],rt,rd⟩) m' a' w'->next a' w') :
  next (a.put (some d) (.slice (some ⟨w.heap.size,0,none⟩) (es.length+xs.length) cap)) (w.drew.alloc (.cells az E)):=by
 have h1:=hr.drawn (w.drawn+1);have h2:=h1.alloc hfr (.cells az E) (.row sz (es++xs)) (fun h=>h) (fun g S m' w' hg hS _ hw=>hblk g S m' w' hg hS hw)
 have h3:=h2.fewer (hp':=(d,some (.row sz (es++xs)))::(k,none)::s.hp) (by
  intro k' z hz;simp only[aD]at hz ⊢;split at hz
  ·rename_i h;rw[agz h];exact hz
  ·rename_i h;rw[agy h]
   split at hz
   ·cases hz
   ·exact hz)
 refine yW h3 hd ?_ hnext
 have:=Rep.ms (g:=Im C.ext ((d,some (.row sz (es++xs)))::(k,none)::s.hp) (fun k'=>if k'=d then some w.heap.size else m k') (w.drew.alloc (.cells az E)))
  (S:=Sz (w.drew.alloc (.cells az E))) (m:=fun k'=>if k'=d then some w.heap.size else m k') (k:=d) (sz:=sz) (off:=0) (len:=es.length+xs.length) (cap:=cap)
  (agz rfl) hcap ⟨az,E,(0,0),by show(w.heap.push _)[w.heap.size]?=_;simp,by simpa using hsz⟩
 simpa using this
set_option maxHeartbeats 1000000 in
theorem Hn{d k sz len:Nat}{xv:AV}{es xs:List AV}{x y:ag8}{T E t:aha}{ti te:TI}
  (hx:Ev s x xv) (hsub:∀g S m v,Rep g S m v xv->Rep g S m v (.ms k sz 0 len)) (hk:s.blk k=some (.row sz es)) (hlen:len=es.length) (hy:Ev s y (.lst sz xs)) (hT:au P T=some ti) (hkd:ti.k=.slice E) (hE:au P E=some te)
  (hsz:te.size=sz) (hz0:(ab3 te.zero.length te.size&&acm 0 te.size&&acm 0 te.bytes)=true) (hb:(len+xs.length)*te.bytes<=140737488355328) (hdk:ab3 d k=false)
  (hN:acm d N=true) :
  Step P N R s ⟨some d,.call ⟨.builtin .append,#[x,y],#[T,T]⟩,t,pos,after,none⟩
   ⟨some (.ms d sz 0 (len+xs.length)),[(d,some (.row sz (es++xs))),(k,none)],aj x++aj y,[k]⟩:=by
 refine yI rfl ?_;intro s' hag hnew C m a w next hC hr hnext;subst hsz;subst hlen
 simp only[afp,ab7]at hz0;obtain⟨⟨hz0,hz1⟩,hz2⟩:=hz0;have hz0:=afo hz0;have hdk:=acw hdk;rw[ab7]at hN;have hkk:lk s'.hp k=some (.row te.size es):=(hag.2 k (by simp)).trans hk
 have hfr:s'.Fresh d:=by
  rcases hnew d (by simp)with h |h
  ·exact ag5 (by simpa using h) hdk
  ·exact h
 have hd:d<C.nt:=by omega
 have hxr:=hsub _ _ _ _ ((hx.agree hag (fun _ h=>aft.2 (.inl h))).rep hr);have hyr:=(hy.agree hag (fun _ h=>aft.2 (.inr h))).rep hr;obtain⟨i,dd,z,hi,hu,hz,rfl⟩:=vF hE;obtain⟨d2,h3,h4,-,hu2⟩:=dg hT w;obtain rfl:=gT (h4.trans hkd);simp only at hz0 hz1 hz2 hb hkk hxr hyr hnext ⊢
 have hb2:es.length+xs.length<=140737488355328:=by
  have:=afw (es.length+xs.length) (show 1<=i.bytes by omega);omega
 obtain⟨ll,hll⟩:∃ll,ll=es.length:=⟨_,rfl⟩
 rw[<- hll]at hxr;rcases HS hyr hz1 with⟨rfl,a1,cap1,hyv⟩ |⟨b1,off1,cap1,cs,hyv,hxl,him,hle1,hl1,hs1,ho1,hr1⟩
 ·-- nothing
  generalize hxv:a.eval x=u at hxr;cases hxr with
  |ms0 a0 =>
   have hes:es=[]:=ac9 oz;have hrun:=GD (t:=t) (w:=w) (base:=a0) (a:=a1) (len:=0) (cap:=0) (cap':=cap1) hT hkd hE (afq _);have hex:=sO (d:=some d) (x:=x) (y:=y) (pos:=pos) (after:=after) (ρ:=a.eval) (by rw[hxv,hyv];exact hrun);rw[hex];simp only[adt,agj,ach]at hnext ⊢;exact yW (hr.rk hkk hfr) hd (by rw[show es.length=0 by omega];exact .ms0 _ _ _ _) hnext
  | @ms _ _ _ _ _ cap b hm hc hS =>
   have hrun:=GD (t:=t) (w:=w) (base:=some ⟨b,0*i.size,none⟩) (a:=a1) (len:=ll) (cap:=cap) (cap':=cap1) hT hkd hE hc;have hex:=sO (d:=some d) (x:=x) (y:=y) (pos:=pos) (after:=after) (ρ:=a.eval) (by rw[hxv,hyv];exact hrun);rw[hex];simp only[adt,agj,ach]at hnext ⊢;subst hll;exact yW (hr.rk hkk hfr) hd (.ms (by rw[agz rfl];exact hm) hc hS) hnext
 ·-- something
  obtain⟨hne1,hno1,t1,f1,hw1⟩:=him;have hnl:(cs.extract off1 (off1+xs.length*i.size)).toList.length=xs.length*i.size:=by simp;omega
  have hnc:∀(j:Nat) v,(cs.extract off1 (off1+xs.length*i.size)).toList[j]?=some v->w.cell? ((⟨b1,off1,none⟩:Addr).add j)=some v:=by
   intro j v hj;rw[jb,q5 hw1];rw[ae2,afa]at hj;split at hj
   ·exact hj
   ·cases hj
  have hn1:∀u∈(cs.extract off1 (off1+xs.length*i.size)).toList,u.oneCell'=true:=by
   intro u hu;obtain⟨p,hp,rfl⟩:=ad3.1 hu;rw[hnl]at hp;have hi':p/i.size<xs.length:=by rw[ab0 hz1];exact hp
   have he:=afr hi';have hel:=hs1 _ _ he;have hpm:p%i.size<i.size:=acn _ hz1;have hx2:=afr (show p%i.size<(xs[p/i.size]).cells.length by omega);have hpe:p/i.size*i.size+p%i.size=p:=by rw[acb];exact ac0 _ _
   have hcv:cs[off1+p/i.size*i.size+p%i.size]?=some ((cs.extract off1 (off1+xs.length*i.size)).toList[p]'oz):=by
    rw[aby,hpe];simp only[Array.getElem_toList,Array.getElem_extract];exact ae4 oz
   exact(hr1 _ _ _ _ _ he hx2 hcv).one (ho1 _ _ _ _ he hx2)
  have hnew':∀(az:Array ag9)(base:Nat),(∀p,p<xs.length*i.size->az[base+p]?=(cs.extract off1 (off1+xs.length*i.size)).toList[p]?) ->
    ∀p,p<xs.length*i.size->az[base+p]?=cs[off1+p]?:=by
   intro az base h p hp;rw[h p hp,ae2,afa,agz oz]
  generalize hxv:a.eval x=u at hxr
  have hgrow:∀(c:Array ag9)(olds:List ag9)(sCap:Nat),olds.length=es.length*i.size->(∀p,p<es.length*i.size->olds[p]?=c[p]?) ->
    (∀(i':Nat)(e:AV),es[i']?=some e->e.cells.length=i.size)->(∀(i' j:Nat)(e x:AV),es[i']?=some e->e.cells[j]?=some x->x.one=true) ->
    (∀(i' j:Nat)(e:AV)(u:ag9)(x:AV),es[i']?=some e->e.cells[j]?=some x->c[i'*i.size+j]?=some u->Rep (Im C.ext s'.hp m w) (Sz w) dc u x) ->
    next (a.put (some d) (.slice (some ⟨w.heap.size,0,none⟩) (es.length+xs.length) (grownCap w (es.length+xs.length) sCap E)))
     (w.drew.alloc (.cells (olds.toArray++(cs.extract off1 (off1+xs.length*i.size)).toList.toArray++Builtin.zeroCells z.cells (grownCap w (es.length+xs.length) sCap E-(es.length+xs.length))) E)):=by
   intro c olds sCap hol hoc hs0 ho0 hr0;have hzc:z.cells.size=i.size:=by rw[<- ae3];exact hz0
   have hcapge:es.length+xs.length<=grownCap w (es.length+xs.length) sCap E:=by simp only[grownCap,Question.cut];omega
   refine N4 (es:=es) (xs:=xs) hr hfr hd ?_ hcapge ?_ hnext
   ·intro g S m' w' hg hS hw'
    refine Io (c:=c) (cs:=cs) (off:=off1) hw' ?_ (by unfold aS; omega) hs0 ho0 (fun i' j e u x he hx hu=>(hr0 i' j e u x he hx hu).mono hg hS (fun _ _ _ h=>h)) hs1 ho1
     (fun i' j e x u he hx hu=>(hr1 i' j e x u he hx hu).mono hg hS (fun _ _ _ h=>h)) ?_ ?_
    ·simp only[aff,ad1,hol,hnl,aci];omega
    ·intro p hp;rw[ae7 (by simp[hol];omega),ae7 (by simp[hol];omega)];simpa using hoc p hp
    ·refine hnew' _ _ (fun p hp=>?_);rw[ae7 (by simp only[aff,ad1,hol,hnl];omega),ae5 (by simp only[ad1,hol];omega)];simp only[ad1,hol,adg];congr 1;omega
   ·simp only[aff,ad1,hol,hnl,size_zeroCells,hzc];rw[<- aci,<- aci];exact age _ oz
  have hfits:∀sCap,sCap<es.length+xs.length->Builtin.nextslicecap (es.length+xs.length) sCap*i.bytes<=281474976710656:=fun sCap h=>growslice_fits h hb
  cases hxr with
  |ms0 a0 =>
   have hes:es=[]:=ac9 oz;subst hes;have hg:=hgrow #[] [] 0 (by simp) (by simp) (by simp) (by simp) (by simp);simp only[agj,ab5]at hg;cases a0 with
   |none =>
    have hrun:=run_append_nil w T t E i z hu2 hi hz ⟨b1,off1,none⟩ xs.length cap1 _ hnl hnc hxl oz (by simp only[agj,ab5]at hb;omega);have hex:=sO (P:=P) (d:=some d) (x:=x) (y:=y) (pos:=pos) (after:=after) (ρ:=a.eval) (by rw[hxv,hyv];exact hrun);rw[hex];show next _ _;simpa using hg
   |some a0 =>
    have hrun:=run_append_grow w T t E i z hu2 hi hz a0 0 0 [] (by simp) (by simp) ⟨b1,off1,none⟩ xs.length cap1 _ hnl hnc oz oz
     (by have:=hfits 0 (by simp;omega);simpa using this)
    have hex:=sO (P:=P) (d:=some d) (x:=x) (y:=y) (pos:=pos) (after:=after) (ρ:=a.eval) (by rw[hxv,hyv];exact hrun);rw[hex];show next _ _;simpa using hg
  | @ms _ _ _ _ _ cap b hm hc hS =>
   subst hll;obtain⟨c,t2,hw,hn,hl,hs0,ho0,hr0⟩:=vG hr.heap hkk hm;have hcap:=Sc hr hw hS;simp only[ab5,Nat.zero_mul]at hcap hxv
   by_cases hroom:es.length+xs.length<=cap
   ·have hle2:(es.length+xs.length)*i.size<=c.size:=af2 (age _ hroom) hcap;rw[aci] at hle2;have hrun:=OP (P:=P) (t:=t) hT hkd hE hw _ hnl hnc hn1 hroom hle2 (cap':=cap1) (len:=es.length);have hex:=sO (P:=P) (d:=some d) (x:=x) (y:=y) (pos:=pos) (after:=after) (ρ:=a.eval) (by rw[hxv,hyv]; exact hrun);rw[hex]
    have hcs:(over c.toList (es.length*i.size) (cs.extract off1 (off1+xs.length*i.size)).toList).toArray.size=c.size:=by
     simp only[ad1];rw[vM _ _ _ (by rw[hnl];simp;omega)];simp
    have hr2:=hr.write (x':=.row i.size (es++xs)) hkk hm hw hcs rfl (by
     intro g S hg hS hw'
     refine Io (c:=c) (cs:=cs) (off:=off1) hw' (by rw[hcs,aci]; omega) (by unfold aS; omega) hs0 ho0 (fun i' j e u x he hx hu=>(hr0 i' j e u x he hx hu).mono hg hS (fun _ _ _ h=>h)) hs1 ho1
      (fun i' j e x u he hx hu=>(hr1 i' j e x u he hx hu).mono hg hS (fun _ _ _ h=>h)) ?_ ?_
     ·intro p hp;rw[adg,jC _ _ _ (by rw[hnl];simp;omega),agz hp,ae2]
     ·refine hnew' _ _ (fun p hp=>?_);rw[adg,jC _ _ _ (by rw[hnl];simp;omega),agy oz,agz (by rw[hnl];omega)];congr 1;omega)
    have hr3:=hr2.rk (k:=k) (d:=d) (y:=.row i.size (es++xs)) (by simp[aD]) (Fresh.row hfr hdk (fun h=>h))
    have hr4:RelM C ⟨s'.sl,(d,some (.row i.size (es++xs)))::(k,none)::s'.hp⟩ (fun k'=>if k'=d then m k else m k') a
      { w with heap:=w.heap.setIfInBounds b (.cells (over c.toList (es.length*i.size) (cs.extract off1 (off1+xs.length*i.size)).toList).toArray t2 (0,0)) }:=by
     refine RelM.congr ?_ ?_ hr3
     ·intro t;rfl
     intro k';simp only[AS.blk,aD];split
     ·rfl
     ·split <;> rfl
    refine yW hr4 hd ?_ hnext
    have:=Rep.ms (g:=Im C.ext ((d,some (.row i.size (es++xs)))::(k,none)::s'.hp) (fun k'=>if k'=d then m k else m k')
      { w with heap:=w.heap.setIfInBounds b (.cells (over c.toList (es.length*i.size) (cs.extract off1 (off1+xs.length*i.size)).toList).toArray t2 (0,0)) })
     (S:=Sz { w with heap:=w.heap.setIfInBounds b (.cells (over c.toList (es.length*i.size) (cs.extract off1 (off1+xs.length*i.size)).toList).toArray t2 (0,0)) })
     (m:=fun k'=>if k'=d then m k else m k') (k:=d) (sz:=i.size) (off:=0) (len:=es.length+xs.length) (cap:=cap) (b:=b)
     (by rw[agz rfl]; exact hm) hroom ⟨_,t2,(0,0),by
      show(w.heap.setIfInBounds b _)[b]?=_;rw[afd,agz rfl,agz (xP hw)],by rw[hcs,ab5];exact hcap⟩
    simpa using this
   ·have holl:(c.extract 0 (es.length*i.size)).toList.length=es.length*i.size:=by simp; omega
    have hg:=hgrow c (c.extract 0 (es.length*i.size)).toList cap holl (by
     intro p hp;rw[ae2,afa,agz oz,ab5]) hs0 ho0 hr0
    have hrun:=run_append_grow w T t E i z hu2 hi hz ⟨b,0,none⟩ es.length cap (c.extract 0 (es.length*i.size)).toList holl (by
     intro j v hj;rw[jb,q5 hw];rw[ae2,afa]at hj;split at hj
     ·simpa using hj
     ·cases hj) ⟨b1,off1,none⟩ xs.length cap1 _ hnl hnc oz oz (hfits cap oz)
    have hex:=sO (P:=P) (d:=some d) (x:=x) (y:=y) (pos:=pos) (after:=after) (ρ:=a.eval) (by rw[hxv,hyv];exact hrun);rw[hex];exact hg
theorem eg{d k sz len:Nat}{es xs:List AV}{x y:ag8}{T E t:aha}{ti te:TI}
  (hx:Ev s x (.ms k sz 0 len)) (hk:s.blk k=some (.row sz es)) (hlen:len=es.length) (hy:Ev s y (.lst sz xs)) (hT:au P T=some ti) (hkd:ti.k=.slice E) (hE:au P E=some te)
  (hsz:te.size=sz) (hz0:(ab3 te.zero.length te.size&&acm 0 te.size&&acm 0 te.bytes)=true) (hb:(len+xs.length)*te.bytes<=140737488355328) (hdk:ab3 d k=false)
  (hN:acm d N=true) :
  Step P N R s ⟨some d,.call ⟨.builtin .append,#[x,y],#[T,T]⟩,t,pos,after,none⟩
   ⟨some (.ms d sz 0 (len+xs.length)),[(d,some (.row sz (es++xs))),(k,none)],aj x++aj y,[k]⟩ :=
 Hn hx (fun _ _ _ _ h=>h) hk hlen hy hT hkd hE hsz hz0 hb hdk hN
def wc(P:ahb)(f:FuncId):Prop:=∀args w,(callFunc f args).run P w=.ok (.enter f args) w
theorem UZ {f : FuncId} {fn : Func} {c : Code} (hf : P.funcs[f]? = some fn) (hb : fn.body = some c) (hn : (fn.name == "runtime.NumGoroutine") = false) : wc P f := by
 intro args w;have hn' : ¬ fn.name = "runtime.NumGoroutine" := by simpa using hn
 simp[callFunc,hf,hb,hn']
structure Con(P:ahb)(f:FuncId)(args:List AV)(H:Hp)(r:AV)(H':Hp):Prop where
  ok:wc P f
  ret:abg P f args H r H'
abbrev je(P:ahb)(f:FuncId)(args:List AV)(r:AV):Prop:=Con P f args [] r []
theorem JS{ρ:ag8->ag9}{o:Oper}{f:FuncId}{args:Array ag8}{ts:Array aha}{w:ahc}{vs:Array ag9}(ho:o.op=.call ⟨.value (.func f),args,ts⟩)
  (hρ:ρ (.func f)=.func (.func f) #[] #[]) (hok:wc P f) (hvs:args.map ρ=vs):(execOp ρ o).run P w=.ok (.enter f vs) w:=by
 subst hvs;have:=hok (args.map ρ) w;obtain⟨dst,op,type,pos,after,guard⟩:=o;subst ho;simp[execOp,resolve,hρ,Deferred.ofValue,invoke,this]
theorem LW{ρ:ag8->ag9}{o:Oper}{g:ag8}{f:FuncId}{caps:Array ag9}{args:Array ag8}{ts:Array aha}{w:ahc}{vs:Array ag9}(ho:o.op=.call ⟨.value g,args,ts⟩)
  (hρ:ρ g=.func (.func f) #[] caps) (hok:wc P f) (hvs:args.map ρ++caps=vs):(execOp ρ o).run P w=.ok (.enter f vs) w:=by
 subst hvs;have:=hok (args.map ρ++caps) w;obtain⟨dst,op,type,pos,after,guard⟩:=o;subst ho;simp[execOp,resolve,hρ,Deferred.ofValue,invoke,this]
def io(H:Hp)(k:Nat):Bool:=match lk H k with |some _=>true |none=>false
theorem ia{H:Hp}{k:Nat}:io H k=true↔∃z,lk H k=some z:=by
 unfold io;cases lk H k <;> simp
def tz(r:AV)(H':Hp):Bool :=
  (r.nm.all fun k=>io H' k)&&H'.all fun p=>match p.2 with |some x=>x.nm.all fun k=>io H' k |none=>true
def cq(H:Hp):Hp:=H.map fun p=>(p.1,none)
theorem Vf(H:Hp)(k:Nat):lk (cq H) k=none:=by
 induction H with
 |nil=>rfl
 |cons p H ih =>
  obtain⟨k',x⟩:=p;simp only[cq,agv,aD];split
  ·rfl
  ·exact ih
theorem jD{H:Hp}{k:Nat}{z:Blk}(h:lk H k=some z):k∈H.map (·.1):=ac6.2 ⟨_,nI h,rfl⟩
theorem RelM.called{C:Ctx}{m:Nat->Option Nat}{a:Act}{w:ahc}(hr:RelM C s m a w){run:Array ag9->ahc->(Ending->ahc->Prop)->Prop}(hmono:∀vs w R R',run vs w R->(∀e w',R e w'->R' e w')->run vs w R'){xs:List AV}{H H':Hp}{r:AV}(hcon:EN run xs H r H'){vs:Array ag9}
  (hvs:vs.size=xs.length) (hrep:∀(j:Nat) v x,vs[j]?=some v->xs[j]?=some x->Rep (Im C.ext s.hp m w) (Sz w) m v x)
  (hH:∀k z,lk H k=some z->lk s.hp k=some z) (hnew:∀k z,lk H' k=some z->(∃y,lk H k=some y)\/s.Fresh k)
  (hHk:∀k∈H.map (·.1),io H k=true) (hnm:tz r H'=true) :
  run vs w fun e w'=>∃v m'',e=.returned v/\RelM C ⟨s.sl,H'++cq H++s.hp⟩ m'' a w'/\Rep (Im C.ext (H'++cq H++s.hp) m'' w') (Sz w') m'' v r /\
   ∀k y z,lk H k=some y->lk H' k=some z->m'' k=m k:=by
 simp only[tz,afp,afy]at hnm;obtain⟨hnm1,hnm2⟩:=hnm
 let ext':Nat->Prop:=fun b=>C.ext b\/∃k z,lk s.hp k=some z/\lk H k=none/\m k=some b
 have hown:∀b,aW H m b->aW s.hp m b:=fun b ⟨k,z,h1,h2⟩=>⟨k,z,hH k z h1,h2⟩
 have him:∀b cs,Im C.ext s.hp m w b cs->Im ext' H m w b cs:=by
  rintro b cs ⟨h1,h2,h3⟩;refine⟨?_,fun h=>h2 (hown b h),h3⟩;rintro(h |⟨k,z,hk,_,hb⟩)
  ·exact h1 h
  ·exact h2 ⟨k,z,hk,hb⟩
 have hheap:HeapRel ext' H m w:=by
  refine⟨?_,?_,?_⟩
  ·intro k z hk;exact BlkRep.mono (w:=w) him (fun _ _ h=>h) (fun _ _ _ h=>h) rfl (fun _ _=>rfl) (hr.heap.blk k z (hH k z hk))
  ·intro k k' z z' b h1 h2;exact hr.heap.inj k k' z z' b (hH _ _ h1) (hH _ _ h2)
  ·intro k z b hk hb;have:=hr.heap.sep k z b (hH k z hk) hb;refine⟨?_,this.2⟩;rintro(h |⟨k2,z2,hk2,hn2,hb2⟩)
   ·exact this.1 h
   ·have:=hr.heap.inj k k2 z z2 b (hH k z hk) hk2 hb hb2;subst this;rw[hk]at hn2;cases hn2
 have hext':∀b,ext' b->b<w.heap.size:=by
  rintro b (h |⟨k,z,hk,_,hb⟩)
  ·exact hr.ext_lt h
  ·exact(hr.heap.sep k z b hk hb).2
 refine hmono _ _ _ _ (hcon ext' m w vs hext' hheap hvs (fun j v x h1 h2=>(hrep j v x h1 h2).mono him (fun _ _ h=>h) (fun _ _ _ h=>h))) ?_;rintro e w' ⟨v,m',rfl,hf,hh',hown',hkeep,hrr⟩
 have hkeys:∀k,k∈(cq H).map (·.1)->io H k=true:=by
  intro k hk;apply hHk;simpa[cq]using hk
 have hlk:∀k z,lk (H'++cq H++s.hp) k=some z->lk H' k=some z\/(io H' k=false/\lk H k=none/\lk s.hp k=some z):=by
  intro k z hz;rw[agx,ke]at hz;split at hz
  ·exact .inl hz
  ·rename_i h1
   have ha:io H' k=false:=by
    cases h:io H' k with
    |false=>rfl
    |true=>obtain⟨z',hz'⟩:=ia.1 h;exact ag5 (jD hz') h1
   rw[ke]at hz;split at hz
   ·rw[Vf]at hz;cases hz
   ·rename_i h2;refine .inr ⟨ha,?_,hz⟩;cases h:lk H k with
    |none=>rfl
    |some y=>exact ag5 (by simpa[cq]using jD h) h2
 let m'':Nat->Option Nat:=fun k=>if io H' k=true then m' k else m k
 have hm1:∀k,io H' k=true->m'' k=m' k:=fun k h=>agz h
 have hm2:∀k,io H' k=false->m'' k=m k:=fun k h=>agy (by simp[h])
 have hstay:∀(k:Nat) b,¬s.Fresh k->m k=some b->m'' k=some b:=by
  intro k b hnf hb;cases h:io H' k with
  |false=>rw[hm2 k h];exact hb
  |true =>
   rw[hm1 k h];obtain⟨z,hz⟩:=ia.1 h;rcases hnew k z hz with⟨y,hy⟩ |hfr
   ·rw[hkeep k y z hy hz];exact hb
   ·exact ag5 hfr hnf
 have hf':Frame (aW s.hp m) w w':=⟨hf.os,hf.tape,hf.output,hf.size,hf.sz,fun b hb hn=>hf.keep b hb (fun h=>hn (hown b h))⟩
 have hal:∀k z b,lk (H'++cq H++s.hp) k=some z->m'' k=some b->aW s.hp m b\/w.heap.size<=b:=by
  intro k z b hz hb;rcases hlk k z hz with h |⟨h1,h2,h3⟩
  ·rw[hm1 k (ia.2 ⟨z,h⟩)]at hb;rcases hown' k z b h hb with h' |h'
   ·exact .inl (hown b h')
   ·exact .inr h'
  ·rw[hm2 k h1]at hb;exact .inl ⟨k,z,h3,hb⟩
 have him':∀b cs,Im ext' H' m' w' b cs->Im C.ext (H'++cq H++s.hp) m'' w' b cs:=by
  rintro b cs ⟨h1,h2,h3⟩;refine⟨fun h=>h1 (.inl h),?_,h3⟩;rintro⟨k,z,hz,hb⟩;rcases hlk k z hz with h |⟨g1,g2,g3⟩
  ·rw[hm1 k (ia.2 ⟨z,h⟩)]at hb;exact h2 ⟨k,z,h,hb⟩
  ·rw[hm2 k g1]at hb;exact h1 (.inr ⟨k,z,g3,g2,hb⟩)
 refine⟨v,m'',rfl,hr.update hf' ?_ hal ?_ ⟨?_,?_,?_⟩,hrr.mono him' (fun _ _ h=>h) ?_,fun k y z hy hz=>by rw[hm1 k (ia.2 ⟨z,hz⟩)];exact hkeep k y z hy hz⟩
 ·intro t x k b hx hn hb;exact hstay k b (fun hfr=>hfr.2.2.1 t x hx hn) hb
 ·intro k z h1000 hz;rcases hlk k z hz with h |⟨h1,h2,h3⟩
  ·rcases hnew k z h with⟨y,hy⟩ |hfr
   ·exact⟨⟨y,hH k y hy⟩,by rw[hm1 k (ia.2 ⟨z,h⟩)];exact hkeep k y z hy h⟩
   ·have:=hfr.2.1;omega
  ·exact⟨⟨z,h3⟩,hm2 k h1⟩
 ·intro k z hz;rcases hlk k z hz with h |⟨h1,h2,h3⟩
  ·rw[hm1 k (ia.2 ⟨z,h⟩)];refine BlkRep.mono (w:=w') him' (fun _ _ h=>h) ?_ rfl (fun _ _=>rfl) (hh'.blk k z h);intro k2 b hn hb;have:=hnm2 _ (nI h);simp only[afy]at this;rw[hm1 k2 (this k2 hn.mem)];exact hb
  ·rw[hm2 k h1];refine BlkRep.mono (w:=w) (fg hf' hal) hf.sz ?_ rfl ?_ (hr.heap.blk k z h3)
   ·intro k2 b hn hb;exact hstay k2 b (fun hfr=>hfr.2.2.2 k z h3 hn) hb
   ·intro b hb;refine hf.keep b (hr.heap.sep k z b h3 hb).2 ?_;rintro⟨k2,z2,hk2,hb2⟩;have:=hr.heap.inj k k2 z z2 b h3 (hH k2 z2 hk2) hb hb2;subst this;rw[h2]at hk2;cases hk2
 ·intro k1 k2 z1 z2 b h1 h2 hb1 hb2;rcases hlk k1 z1 h1 with e |⟨e1,e2,e3⟩ <;> rcases hlk k2 z2 h2 with g |⟨g1,g2,g3⟩
  ·rw[hm1 k1 (ia.2 ⟨z1,e⟩)]at hb1;rw[hm1 k2 (ia.2 ⟨z2,g⟩)]at hb2
   exact hh'.inj k1 k2 z1 z2 b e g hb1 hb2
  ·rw[hm1 k1 (ia.2 ⟨z1,e⟩)]at hb1;rw[hm2 k2 g1]at hb2
   exact ag5 (.inr ⟨k2,z2,g3,g2,hb2⟩) (hh'.sep k1 z1 b e hb1).1
  ·rw[hm2 k1 e1]at hb1;rw[hm1 k2 (ia.2 ⟨z2,g⟩)]at hb2
   exact ag5 (.inr ⟨k1,z1,e3,e2,hb1⟩) (hh'.sep k2 z2 b g hb2).1
  ·rw[hm2 k1 e1]at hb1;rw[hm2 k2 g1]at hb2
   exact hr.heap.inj k1 k2 z1 z2 b e3 g3 hb1 hb2
 ·intro k z b hz hb;rcases hlk k z hz with h |⟨h1,h2,h3⟩
  ·rw[hm1 k (ia.2 ⟨z,h⟩)]at hb;have:=hh'.sep k z b h hb;exact⟨fun hc=>this.1 (.inl hc),this.2⟩
  ·rw[hm2 k h1]at hb;have:=hr.heap.sep k z b h3 hb;exact⟨this.1,af3 this.2 hf.size⟩
 ·intro k b hn hb;rw[hm1 k (hnm1 k hn.mem)];exact hb
def fA(s:AS)(H H':Hp)(r:AV):Bool:=(H.all fun p=>io H p.1)&&tz r H'
theorem uU{o:Oper}{f:FuncId}{xs:List AV}{H H':Hp}{r:AV}{rt:List Nat}{x:Option AV}(hg:o.guard=none)(hd:∀d,o.dst=some d->acm d N=true/\x=some r)
  (hcon:Con P f xs H r H') (hH:∀k z,lk H k=some z->s.blk k=some z) (hok:fA s H H' r=true)
  (h:∀s',(∀t∈rt,s'.get t=s.get t)->∀C m a w,RelM C s' m a w->∃vs:Array ag9,(execOp a.eval o).run P w=.ok (.enter f vs) w/\vs.size=xs.length /\
   ∀(j:Nat) v x,vs[j]?=some v->xs[j]?=some x->Rep (Im C.ext s'.hp m w) (Sz w) m v x) :
  Step P N R s o ⟨x,H'++cq H,rt,H.map (·.1)⟩:=by
 refine yI hg ?_;intro s' hag hnew C m a w next hC hr hnext;simp only[fA,afp,afy]at hok;obtain⟨hok1,hok2⟩:=hok;obtain⟨vs,h1,h2,h3⟩:=h s' hag.1 C m a w hr;rw[h1]
 have hc:=hr.called (run:=Calls P f) (fun _ _ _ _ h h'=>Calls.mono h h') hcon.ret h2 h3 (fun k z hz=>by rw[<- hH k z hz]; exact hag.2 k (jD hz)) (by
  intro k z hz;rcases hnew k (by simp only[agc,aft];exact .inl (jD hz))with h |h
  ·obtain⟨p,hp,rfl⟩:=ac6.1 h;exact .inl (ia.1 (hok1 p hp))
  ·exact .inr h) (by
  intro k hk;obtain⟨p,hp,rfl⟩:=ac6.1 hk;exact hok1 p hp) hok2
 refine Calls.mono hc ?_;rintro e w' ⟨v,m'',rfl,hr',hrr,_⟩;cases hdst:o.dst with
 |none =>
  refine hnext m'' _ _ ?_;simpa[AS.app,hdst,Act.put]using hr'
 |some d =>
  obtain⟨hN,rfl⟩:=hd d hdst;rw[ab7]at hN;refine hnext m'' _ _ ?_;have:=hr'.put d v (some r) (fun z hz=>by cases hz;exact⟨by have:=hr'.nt;omega,hrr⟩);simpa[AS.app,hdst,Act.put]using this
theorem aF{d f:Nat}{args:Array ag8}{ts:Array aha}{xs:List AV}{H H':Hp}{r:AV}{t:aha}
  (hcon:Con P f xs H r H') (ha:EvL s args.toList xs) (hH:∀k z,lk H k=some z->s.blk k=some z) (hok:fA s H H' r=true) (hN:acm d N=true) :
  Step P N R s ⟨some d,.call ⟨.value (.func f),args,ts⟩,t,pos,after,none⟩ ⟨some r,H'++cq H,cQ args.toList,H.map (·.1)⟩ :=
 uU rfl (fun d' h=>by cases h; exact ⟨hN,rfl⟩) hcon hH hok fun s' hag C m a w hr=>by
  have ha':=ha.agree (u:=⟨none,[],cQ args.toList,[]⟩) ⟨hag,fun k hk=>by cases hk⟩ (fun _ h=>h);refine⟨args.map a.eval,JS rfl rfl hcon.ok rfl,?_,?_⟩
  ·have:=ha'.length;simpa using this
  ·intro j v x hv hx;exact ha'.rep hr j v x (by simpa using hv) hx
theorem aaf{f:Nat}{args:Array ag8}{ts:Array aha}{xs:List AV}{H H':Hp}{r:AV}{t:aha}
  (hcon:Con P f xs H r H') (ha:EvL s args.toList xs) (hH:∀k z,lk H k=some z->s.blk k=some z) (hok:fA s H H' r=true) :
  Step P N R s ⟨none,.call ⟨.value (.func f),args,ts⟩,t,pos,after,none⟩ ⟨none,H'++cq H,cQ args.toList,H.map (·.1)⟩ :=
 uU rfl (fun d' h=>by cases h) hcon hH hok fun s' hag C m a w hr=>by
  have ha':=ha.agree (u:=⟨none,[],cQ args.toList,[]⟩) ⟨hag,fun k hk=>by cases hk⟩ (fun _ h=>h);refine⟨args.map a.eval,JS rfl rfl hcon.ok rfl,?_,?_⟩
  ·have:=ha'.length;simpa using this
  ·intro j v x hv hx;exact ha'.rep hr j v x (by simpa using hv) hx
theorem TM{d f:Nat}{args:Array ag8}{ts:Array aha}{xs:List AV}{r:AV}{t:aha}
  (hcon:je P f xs r) (ha:EvL s args.toList xs) (hnm:r.nm=[]) (hN:acm d N=true) :
  Step P N R s ⟨some d,.call ⟨.value (.func f),args,ts⟩,t,pos,after,none⟩ ⟨some r,[],cQ args.toList,[]⟩ :=
 aF hcon ha (fun k z h=>by cases h) (by simp[fA,tz,hnm]) hN
theorem ur{d f:Nat}{g:ag8}{args:Array ag8}{ts:Array aha}{xs caps:List AV}{H H':Hp}{r:AV}{t:aha}
  (hg:Ev s g (.fn f caps)) (hcon:Con P f (xs++caps) H r H') (ha:EvL s args.toList xs) (hH:∀k z,lk H k=some z->s.blk k=some z) (hok:fA s H H' r=true) (hN:acm d N=true) :
  Step P N R s ⟨some d,.call ⟨.value g,args,ts⟩,t,pos,after,none⟩ ⟨some r,H'++cq H,aj g++cQ args.toList,H.map (·.1)⟩ :=
 uU rfl (fun d' h=>by cases h; exact ⟨hN,rfl⟩) hcon hH hok fun s' hag C m a w hr=>by
  have hag':fT s s' ⟨none,[],aj g++cQ args.toList,[]⟩:=⟨hag,fun k hk=>by cases hk⟩
  have ha':=ha.agree hag' (fun _ h=>aft.2 (.inr h));have hgr:=(hg.agree hag' (fun _ h=>aft.2 (.inl h))).rep hr;generalize hv:a.eval g=u at hgr;cases hgr with
  | @fn _ _ cvs _ hn hrr =>
   have hl:=ha'.length;refine⟨args.map a.eval++cvs,LW rfl hv hcon.ok rfl,by simp[hn];simpa using hl,?_⟩;intro j v x hv hx;rcases afv j xs.length with h |h
   ·rw[af6 h]at hx;rw[ae7 (by simp;simp at hl;omega)]at hv;exact ha'.rep hr j v x (by simpa using hv) hx
   ·rw[af5 h]at hx;rw[ae5 (by simp;simp at hl;omega)]at hv;refine hrr (j-xs.length) v x ?_ hx;rw[<- hv];congr 1;simp at hl ⊢;omega
inductive ResV(P:ahb)(s:AS):ResultVar->AV->Prop
  |tmp {t:Nat} {x:AV} (h:s.get t=some x):ResV P s (.tmp t) x
  |cell {t k:Nat} {cs:List AV} {T:aha} {ti:TI} (h:s.get t=some (.ptr k 0)) (hk:s.blk k=some (.box cs)) (hT:au P T=some ti)
      (hle:Nat.ble ti.size cs.length=true) (h1:(ti.ag||ab3 ti.size 1)=true):ResV P s (.cell t T) (jH ti.ag (cs.take ti.size))
inductive ResL(P:ahb)(s:AS):List ResultVar->List AV->Prop
  |nil:ResL P s [] []
  |cons {r:ResultVar} {x:AV} {rs:List ResultVar} {xs:List AV} (h:ResV P s r x) (hs:ResL P s rs xs):ResL P s (r::rs) (x::xs)
def dh:List AV->AV
  |[x]=>x
  |xs=>.tup xs
def xt(tmps:Array ag9):ResultVar->Sem ag9
  | .tmp t=>pure (tmps.getD t undef)
  | .cell a t=>do loadVar t (<- asAddr (tmps.getD a undef))
theorem Yx(fn:Func)(tmps:Array ag9) :
  results fn tmps=(fn.results.mapM (xt tmps) >>= fun vs=>pure (if h:vs.size=1 then vs[0]else .tuple vs)):=by
 unfold results;congr 2
theorem ResV.run{x:AV}{r:ResultVar}(h:ResV P s r x){C:Ctx}{m:Nat->Option Nat}{a:Act}{w:ahc}(hr:RelM C s m a w) :
  ∃v,(xt a.tmps r).run P w=.ok v w/\Rep (Im C.ext s.hp m w) (Sz w) m v x:=by
 cases h with
 |tmp h=>exact⟨_,rfl,(hr.slots _ _ h).2⟩
 | @cell t k cs T ti h hk hT hle h1 =>
  rw[acl]at hle;have h1:ti.ag=true\/ti.size=1:=by simpa using h1
  obtain⟨b,hm,hv⟩:=qS hr (Ev.tmp h);obtain⟨c,t2,hw,hn,ho,hrr⟩:=zz hr.heap hk hm;have hv':a.tmps.getD t undef=.pointer (some ⟨b,0,none⟩):=hv;refine⟨_,by simp only[xt,hv',Sem.run_bind,asAddr,Sem.run_pure,Result.andThen_ok];exact xX hT hw (by omega:0+ti.size<=c.size) h1,?_⟩;refine xH (c:=c) (off:=0) (n:=ti.size) (by simp;omega) oz h1 ?_ ?_
  ·intro j y hy;rw[af7]at hy;split at hy
   ·exact ho _ y hy
   ·cases hy
  ·intro j u y hy hu;rw[af7]at hy;split at hy
   ·exact hrr _ u y (by simpa using hu) hy
   ·cases hy
theorem RS{g:Nat->Array ag9->Prop}{S:Nat->Nat->Prop}{m:Nat->Option Nat}:∀(vs:List ag9)(xs:List AV),vs.length=xs.length ->
  (∀(j:Nat) v x,vs[j]?=some v->xs[j]?=some x->Rep g S m v x) ->
  Rep g S m (if h:vs.toArray.size=1 then vs.toArray[0]else .tuple vs.toArray) (dh xs)
 |[],[],_,_=>by simp[dh];exact .tup rfl (by simp)
 |[v],[x],_,h=>by simp[dh];exact h 0 v x rfl rfl
 |v::v'::vs,x::x'::xs,h2,h=>by
  simp[dh];exact .tup (by simpa using h2) (fun j u c hu hc=>h j u c (by simpa using hu) hc)
theorem SG{fn:Func}{rs:List ResultVar}{xs:List AV}(hfn:fn.results=rs.toArray)(h:ResL P s rs xs){C:Ctx}{m:Nat->Option Nat}{a:Act}{w:ahc}(hr:RelM C s m a w) :
  ∃v,(results fn a.tmps).run P w=.ok v w/\Rep (Im C.ext s.hp m w) (Sz w) m v (dh xs):=by
 have key:∃vs:List ag9,(rs.mapM (xt a.tmps)).run P w=.ok vs w /\
   vs.length=xs.length/\∀(j:Nat) v x,vs[j]?=some v->xs[j]?=some x->Rep (Im C.ext s.hp m w) (Sz w) m v x:=by
  clear hfn
  induction h with
  |nil=>exact⟨[],by simp,rfl,by simp⟩
  |cons h1 _ ih =>
   obtain⟨v,h2,h3⟩:=h1.run hr;obtain⟨vs,h4,h5,h6⟩:=ih;refine⟨v::vs,by simp only[List.mapM_cons,Sem.run_bind,h2,Result.andThen_ok,h4,Sem.run_pure],by simp[h5],?_⟩;intro j v' x hv hx;cases j with
   |zero=>simp at hv hx;subst hv;subst hx;exact h3
   |succ j=>exact h6 j v' x (by simpa using hv) (by simpa using hx)
 obtain⟨vs,h1,h2,h3⟩:=key;refine⟨_,?_,RS vs xs h2 h3⟩;rw[Yx,hfn,afh];simp only[Sem.run_bind,Sem.run_map,h1,Result.andThen_ok,Sem.run_pure]
def aE(s:AS)(x:AV)(r:AV)(H':Hp):Prop :=
  ∀ext m w v,HeapRel ext s.hp m w->(∀b,ext b->b<w.heap.size)->Rep (Im ext s.hp m w) (Sz w) m v x ->
    ∃m',HeapRel ext H' m' w/\(∀k z b,lk H' k=some z->m' k=some b->aW s.hp m b)/\(∀k z,1000<=k->lk H' k=some z->(∃y,lk s.hp k=some y)/\m' k=m k) /\
      Rep (Im ext H' m' w) (Sz w) m' v r
def mz(P:ahb)(rs:List ResultVar)(r:AV)(H':Hp):Exit->AS->Prop
  | .normal,s | .ret,s=>∃xs,ResL P s rs xs/\aE s (dh xs) r H'
  |_,_=>False
def mO:Nat->List AV->bE
  |_,[]=>[]
  |n,x::xs=>(n,some x)::mO (n+1) xs
theorem LV:∀(xs:List AV)(n t:Nat)(x:AV),lk (mO n xs) t=some x->n<=t/\xs[t-n]?=some x
 |[],n,t,x,h=>by simp[mO,lk]at h
 |y::ys,n,t,x,h=>by
  simp only[mO,aD]at h;split at h
  ·cases h;subst_vars;simp
  ·obtain⟨h1,h2⟩:=LV ys (n+1) t x h;refine⟨by omega,?_⟩;rw[show t-n=(t-(n+1))+1 by omega,ady];exact h2
theorem RelM.unmark{C:Ctx}{m:Nat->Option Nat}{a:Act}{w:ahc}(h:RelM C s m a w){D:Nat}{l:List Deferred}(h1:C.w0.heap.size<=D)(h2:w.heap[D]?=some (.deferred (some [])))
  (hl:sL C.w0.heap.size l (w.putObj D (.deferred none))):RelM C s m { a with defers:=l } (w.putObj D (.deferred none)):=by
 have hlt:=h.heap.lt h2;have hoth:∀b,b≠D->(w.putObj D (.deferred none)).heap[b]?=w.heap[b]?:=fun b hb=>World.putObj_heap_other hb
 have hc:∀(b:Nat)(cs:Array ag9)(t:aha)(f:Nat×Nat),w.heap[b]?=some (Obj.cells cs t f)->(w.putObj D (.deferred none)).heap[b]?=some (Obj.cells cs t f):=fun b cs t f hb=>by
  rw[hoth b (fun e=>by rw[e,h2]at hb;cases hb)];exact hb
 have him:∀b cs,Im C.ext s.hp m w b cs->Im C.ext s.hp m (w.putObj D (.deferred none)) b cs:=fun b cs ⟨e1,e2,t,f,e3⟩=>⟨e1,e2,t,f,hc _ _ _ _ e3⟩
 have hsz:∀b n,Sz w b n->Sz (w.putObj D (.deferred none)) b n:=fun b n ⟨c,t,f,e1,e2⟩=>⟨c,t,f,hc _ _ _ _ e1,e2⟩
 refine⟨fun t x hx=>⟨(h.slots t x hx).1,(h.slots t x hx).2.mono him hsz (fun _ _ _ h=>h)⟩,⟨?_,h.heap.inj,fun k x b hk hb=>⟨(h.heap.sep k x b hk hb).1,by simpa[World.putObj]using(h.heap.sep k x b hk hb).2⟩⟩,?_,h.new,h.keep,hl,h.nt⟩
 ·intro k x hk;refine BlkRep.mono him hsz (fun _ _ _ h=>h) rfl (fun b hb=>hoth b (fun e=>?_)) (h.heap.blk k x hk);subst e;exact h.heap.cells hk hb h2
 ·refine⟨h.frame.os,h.frame.tape,h.frame.output,by simpa[World.putObj]using h.frame.size,fun b n hs=>hsz b n (h.frame.sz b n hs),fun b hb hn=>?_⟩;rw[hoth b oz];exact h.frame.keep b hb hn
theorem G3{C:Ctx}{fn:Func}{n:Nat}{R:Ending->ahc->Prop}(hR:∀m a w,a.defers=[]->RelM C s m a w->∃v,(results fn a.tmps).run P w=.ok v w/\R (.returned v) w) :
  ∀(Ds:List Nat)(m:Nat->Option Nat)(a:Act)(w:ahc),a.defers=Ds.map tc->Ds.Nodup->(∀D∈Ds,C.w0.heap.size<=D/\w.heap[D]?=some (.deferred (some [])))->RelM C s m a w ->
   LeavesInM Fence.wide n P fn a.tmps R a.defers .returning w
 |[],m,a,w,ha,hn,hD,h=>by
  have hn:a.defers=[]:=ha;rw[hn];exact hR m a w hn h
 |D::Ds,m,a,w,ha,hn,hD,h=>by
  obtain⟨h1,h2⟩:=hD D (agt ..);rw[ha];refine⟨by simp,.inl ⟨D,_,rfl,run_takeDeferred h2,?_⟩⟩;obtain⟨hnd,hn'⟩:=List.nodup_cons.1 hn
  have hD':∀D'∈Ds,C.w0.heap.size<=D'/\(w.putObj D (.deferred none)).heap[D']?=some (.deferred (some [])):=fun D' hm=>by
   obtain⟨g1,g2⟩:=hD D' (agi _ hm);have hne:D'≠D:=fun e=>hnd (by rw[<- e];exact hm)
   exact⟨g1,by rw[World.putObj_heap_other hne];exact g2⟩
  exact G3 hR Ds m { a with defers:=Ds.map tc } _ rfl hn' hD' (h.unmark h1 h2 ⟨Ds,rfl,hn',hD'⟩)
theorem Ll{f:FuncId}{fn:Func}{c:Code}{rs:List ResultVar}{args:List AV}{H:Hp}{r:AV}{H':Hp}(hf:P.funcs[f]?=some fn)(hb:fn.body=some c)
    (hn : (fn.name == "runtime.NumGoroutine") = false) (hrs : fn.results = rs.toArray) (hN : fn.ntmps = N) (hH : ∀ k z, lk H k = some z -> 1000 <= k)
    (h:kf P N c (mz P rs r H') ⟨mO 0 args,H⟩):Con P f args H r H':=by
  refine⟨UZ hf hb hn,?_⟩;intro ext m w vs hext hheap hvs hrep;refine(callsIn_wide (n:=0)).1 (callsIn_of_wp_marks hf hb trivial ?_ rfl)
  let C:Ctx:=⟨w,ext,aW H m,m,N,hext,none⟩
  have hr0:RelM C ⟨mO 0 args,H⟩ m { tmps:=vs++afg (fn.ntmps-vs.size) undef,defers:=[] } w:=by
    refine⟨?_,hheap,Frame.refl _ _,fun k x b h1 h2=>.inl ⟨k,x,h1,h2⟩,fun _ _ _ _=>rfl,sL.nil _ _,?_⟩
    · intro t x hx
      obtain⟨_,h2⟩:=LV args 0 t x hx;simp only[Nat.sub_zero]at h2
      have ht:t<args.length:=by
        rcases afv t args.length with h |h
        · exact h
        · rw[af0 h]at h2;cases h2
      have ht':t<vs.size:=by omega
      refine⟨by simp;omega,?_⟩
      have:(vs++afg (fn.ntmps-vs.size) undef).getD t undef=vs[t]:=by
        rw[afx,ae7 ht',ae4 ht'];rfl
      simp only[this];exact hrep t vs[t] x (ae4 ht') h2
    · show N<=_
      simp;omega
  refine wpIn_mono (h C m _ w 0 rfl rfl hr0) ?_;rintro e a' w' ⟨s',m',hq,hr⟩
  have hend:∀(xs:List AV),ResL P s' rs xs->aE s' (dh xs) r H'->LeavesInM Fence.wide 0 P fn a'.tmps (fun e w'=>∃v' m'',e=Ending.returned v'/\Frame (aW H m) w w'/\HeapRel ext H' m'' w' /\
        (∀k x b,lk H' k=some x->m'' k=some b->aW H m b\/w.heap.size<=b)/\(∀k x y,lk H k=some x->lk H' k=some y->m'' k=m k) /\
        Rep (Im ext H' m'' w') (Sz w') m'' v' r) a'.defers .returning w':=by
    intro xs hx hfin;obtain⟨Ds,e1,e2,e3⟩:=hr.defers;refine G3 (C:=C) (s:=s') (fun m1 a1 w1 _ hr1=>?_) Ds m' a' w' e1 e2 e3 hr;obtain⟨v,h1,h2⟩:=SG hrs hx hr1;obtain⟨m'',h3,h4,h5,h6⟩:=hfin ext m1 w1 v hr1.heap (fun b hb=>hr1.ext_lt hb) h2;refine⟨v,h1,v,m'',rfl,hr1.frame,h3,?_,?_,h6⟩
    · intro k z b hk hb
      obtain⟨k2,z2,hk2,hb2⟩:=h4 k z b hk hb;exact hr1.new k2 z2 b hk2 hb2
    · intro k z y hk hy
      obtain⟨⟨y',hy'⟩,h8⟩:=h5 k y (hH k z hk) hy;rw[h8];exact hr1.keep k y' (hH k z hk) hy'
  cases e with
  |normal =>
    obtain⟨xs,h1,h2⟩:=hq;exact hend xs h1 h2
  |ret =>
    obtain⟨xs,h1,h2⟩:=hq;exact hend xs h1 h2
  |_=>exact hq.elim
theorem DI{f:FuncId}{fn:Func}{c:Code}{rs:List ResultVar}{args:List AV}{H:Hp}{r:AV}{H':Hp}(hf:P.funcs[f]?=some fn)(hb:fn.body=some c)
  (hn : (fn.name == "runtime.NumGoroutine") = false) (hrs : fn.results = rs.toArray) (hN : fn.ntmps = N) (hH : ∀ k z, lk H k = some z -> 1000 <= k)
  (h:br P N c (mz P rs r H') ⟨mO 0 args,H⟩):Con P f args H r H':=Ll hf hb hn hrs hN hH h.out
end Go.Lw
