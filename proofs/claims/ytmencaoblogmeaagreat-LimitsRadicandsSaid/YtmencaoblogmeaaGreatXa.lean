/- LimitsRadicands: for any linkage the law returns true and leaves its argument as it was. No other condition. Part 1 of 8: what the later parts need -/
import Derived.Calls
import Derived.Below
import Derived.Laws.Sem
import Derived.Laws.Cells
import Derived.Laws.Append
import Derived.Laws.Rows
import Derived.OrdersIn
import Derived.RangeFuncLeaves
import Derived.RangeFuncRecord
import Derived.Orders
import Derived.IntWalk
import Derived.Laws.AppendOwn
set_option linter.unusedVariables false
open List (nil_append)
open List renaming mem_of_getElem? → ahg, mem_cons_of_mem → ah6, mem_append → ahn, map_cons → aiq, mem_cons → ah3, length_cons → ahx, mem_cons_self → aig, length_append → aid, length_nil → ah9, getD_eq_getElem?_getD → ahh, getElem?_append_left → ah4, getElem?_eq_none → aht, all_eq_true → ahs, getElem?_take → aie, getElem?_drop → aii, getElem?_map → aho, append_assoc → aip, getElem?_append_right → ahz, getElem?_eq_getElem → ahm, drop_eq_nil_of_le → aib, getElem?_replicate → aia, map_append → aih, mem_filter → ae3, mem_singleton → ae4, append_nil → ae5, mem_iff_getElem → afa, size_toArray → afd, getElem?_set → afe, cons_append → afj, eq_nil_of_length_eq_zero → afn, replicate → afq, getElem?_toArray → afs, mem_map → aft, mem_range → afu, foldl_cons → afw
open Nat renaming eq_of_beq_eq_true → ahi, le_refl → ahr, lt_of_lt_of_le → ah2, lt_or_ge → ahq, le_trans → ah8, mul_le_mul_right → ah0, mul_le_mul_left → ahu, add_comm → adk, eq_zero_or_pos → adm, mod_lt → adn, succ_mul → adp, mul_pos → adw, blt_eq → adx, div_add_mod → adz, add_mul → ad2, ne_of_beq_eq_false → ad3, mod_eq_of_lt → ad5, beq → ad9, add_assoc → aec, ble_eq → aee, mul_comm → aef, zero_add → aeg, blt → aem, add_zero → aep, div_lt_iff_lt_mul → aer
open Option renaming map_eq_some_iff → ahl, map_some → ahd, getD_some → ahe
open Bool renaming and_eq_true → ahj, or_eq_true → aio, not_eq_true' → agt, true_and → agu, false_eq_true → agv
open Array renaming getD_eq_getD_getElem? → ahp, getElem?_eq_none → agw, mapM_eq_mapM_toList → agx, getElem?_append_right → agy, toList_setIfInBounds → ag0, getElem?_extract → ag1, getElem?_push → ag2, replicate → ag3, getElem?_append_left → ag4, getElem?_replicate → ag6, getElem?_eq_getElem → ag7, all_eq_true_iff_forall_mem → ag8, getElem?_toList → ag9, getElem?_setIfInBounds → aha, size_append → ahb, length_toList → ahc
open Go renaming Operand → ai2, Value → ai3, TypeId → ai4, Program → ai5, World → ai6
open Go.Result renaming andThen_ok → ai7
open Go.Sem renaming run_bind → ai8, run_pure → ai9
namespace Go.Lw
abbrev pP{a:Type}(k:Nat)(v:a):Nat×Option a:=(k,some v)
theorem ais{c:Prop}{h:Decidable c}(n:¬c){α:Sort _}{t e:α}:ite c t e=e:=if_neg n
theorem ait{c:Prop}{h:Decidable c}(n:c){α:Sort _}{t e:α}:ite c t e=t:=if_pos n
theorem aiu{p:Prop}[Decidable p]:(decide p=true)=p:=decide_eq_true_eq
theorem aiv{p:Prop}[Decidable p](n:decide p=true):p:=of_decide_eq_true n
theorem aiw{p:Prop}[Decidable p](n:decide p=false):¬p:=of_decide_eq_false n
theorem aix{p:Prop}[Decidable p](n:p):decide p=true:=decide_eq_true n
theorem aiy{p:Prop}[Decidable p](n:¬p):decide p=false:=decide_eq_false n
theorem aiz{a b:Prop}(h:a)(n:¬a):b:=absurd h n
theorem ai0{α β:Sort _}{x y:α}(f:α→β)(h:x=y):f x=f y:=congrArg f h
abbrev ai1{α:Sort _}(i:α:=by infer_instance):α:=i
theorem oz{p:Prop}(h:p:=by omega):p:=h
abbrev LL:=List (List Rat)
inductive AV where
  |v (x:ai3)
  |lst (sz:Nat) (es:List AV)
  |agg (cs:List AV)
  |tup (xs:List AV)
  |iptr (cs:List AV)
  |ms (k sz off len:Nat)
  |ptr (k off:Nat)
  |eptr (k sz i off:Nat)
  |fn (f:FuncId) (caps:List AV)
  |opt (b:Bool) (x:AV)
  |yl (k:Nat)
  |cl (f:FuncId) (pre caps:List AV)
  deriving Inhabited
abbrev nS:AV:=.v (.slice none 0 0)
def AV.cells:AV->List AV
  | .agg cs=>cs
  |x=>[x]
def AV.one:AV->Bool
  | .v x=>x.oneCell'
  | .agg _ | .tup _ | .opt _ _=>false
  |_=>true
abbrev az:Nat:=281474976710656
abbrev cQ:Nat->Option Nat:=fun _=>none
inductive Rep(g:Nat->Array ai3->Prop)(S:Nat->Nat->Prop):(Nat->Option Nat)->ai3->AV->Prop
  |v {m:Nat->Option Nat} (x:ai3):Rep g S m x (.v x)
  |lst0 {m:Nat->Option Nat} (a:Option Addr) (cap sz:Nat):Rep g S m (.slice a 0 cap) (.lst sz [])
  |lst {m:Nat->Option Nat} {b off cap sz:Nat} {es:List AV} {cs:Array ai3} (u:Nat->Nat->ai3)
      (hb:g b cs) (hc:es.length<=cap) (hl:es.length<=az) (hs:∀(i:Nat)(e:AV),es[i]?=some e->e.cells.length=sz)
      (h1:∀(i j:Nat)(e c:AV),es[i]?=some e->e.cells[j]?=some c->c.one=true)
      (hu:∀(i j:Nat)(e c:AV),es[i]?=some e->e.cells[j]?=some c->cs[off+i*sz+j]?=some (u i j))
      (hr:∀(i j:Nat)(e c:AV),es[i]?=some e->e.cells[j]?=some c->Rep g S cQ (u i j) c) :
      Rep g S m (.slice (some ⟨b,off,none⟩) es.length cap) (.lst sz es)
  |agg {m:Nat->Option Nat} {vs:Array ai3} {cs:List AV} (hn:vs.size=cs.length)
      (h1:∀(j:Nat)(c:AV),cs[j]?=some c->c.one=true)
      (hr:∀(j:Nat)(u:ai3)(c:AV),vs[j]?=some u->cs[j]?=some c->Rep g S m u c):Rep g S m (.agg vs) (.agg cs)
  |tup {m:Nat->Option Nat} {vs:Array ai3} {xs:List AV} (hn:vs.size=xs.length)
      (hr:∀(j:Nat)(u:ai3)(c:AV),vs[j]?=some u->xs[j]?=some c->Rep g S m u c):Rep g S m (.tuple vs) (.tup xs)
  |iptr {m:Nat->Option Nat} {b off:Nat} {cs:Array ai3} {xs:List AV} (u:Nat->ai3)
      (hb:g b cs) (h1:∀(j:Nat)(c:AV),xs[j]?=some c->c.one=true)
      (hu:∀(j:Nat)(c:AV),xs[j]?=some c->cs[off+j]?=some (u j))
      (hr:∀(j:Nat)(c:AV),xs[j]?=some c->Rep g S cQ (u j) c):Rep g S m (.pointer (some ⟨b,off,none⟩)) (.iptr xs)
  |ms0 {m:Nat->Option Nat} (a:Option Addr) (k sz off:Nat):Rep g S m (.slice a 0 0) (.ms k sz off 0)
  |ms {m:Nat->Option Nat} {k sz off len cap b:Nat} (hm:m k=some b) (hc:len<=cap) (hS:S b ((off+cap)*sz)) :
      Rep g S m (.slice (some ⟨b,off*sz,none⟩) len cap) (.ms k sz off len)
  |ptr {m:Nat->Option Nat} {k off b:Nat} (hm:m k=some b):Rep g S m (.pointer (some ⟨b,off,none⟩)) (.ptr k off)
  |eptr {m:Nat->Option Nat} {k sz i off b:Nat} (hm:m k=some b):Rep g S m (.pointer (some ⟨b,i*sz+off,none⟩)) (.eptr k sz i off)
  |fn {m:Nat->Option Nat} {f:FuncId} {vs:Array ai3} {xs:List AV} (hn:vs.size=xs.length)
      (hr:∀(j:Nat)(u:ai3)(c:AV),vs[j]?=some u->xs[j]?=some c->Rep g S m u c):Rep g S m (.func (.func f) #[] vs) (.fn f xs)
  |opt {m:Nat->Option Nat} {x:ai3} {b:Bool} {y:AV} (h:b=true->Rep g S m x y) (h':b=false->x=undef):Rep g S m x (.opt b y)
  |yl {m:Nat->Option Nat} {k b:Nat} (hm:m k=some b):Rep g S m (.func (.yield b) #[] #[]) (.yl k)
  |cl {m:Nat->Option Nat} {f:FuncId} {vs us:Array ai3} {xs ys:List AV} (hn:vs.size=xs.length)
      (hr:∀(j:Nat)(u:ai3)(c:AV),vs[j]?=some u->xs[j]?=some c->Rep g S cQ u c) (hn':us.size=ys.length)
      (hr':∀(j:Nat)(u:ai3)(c:AV),us[j]?=some u->ys[j]?=some c->Rep g S cQ u c):Rep g S m (.func (.func f) vs us) (.cl f xs ys)
inductive AV.Names:AV->Nat->Prop
  |ms (k sz off len:Nat):AV.Names (.ms k sz off len) k
  |ptr (k off:Nat):AV.Names (.ptr k off) k
  |eptr (k sz i off:Nat):AV.Names (.eptr k sz i off) k
  |agg {cs:List AV} {c:AV} {k:Nat} (h:c∈cs) (hc:AV.Names c k):AV.Names (.agg cs) k
  |tup {cs:List AV} {c:AV} {k:Nat} (h:c∈cs) (hc:AV.Names c k):AV.Names (.tup cs) k
  |fn {f:FuncId} {cs:List AV} {c:AV} {k:Nat} (h:c∈cs) (hc:AV.Names c k):AV.Names (.fn f cs) k
  |opt {b:Bool} {c:AV} {k:Nat} (hc:AV.Names c k):AV.Names (.opt b c) k
  |yl (k:Nat):AV.Names (.yl k) k
theorem Rep.mono{g g':Nat->Array ai3->Prop}{S S':Nat->Nat->Prop}(hg:∀b cs,g b cs->g' b cs)
  (hS:∀b n,S b n->S' b n) {m:Nat->Option Nat} {v:ai3} {x:AV} (h:Rep g S m v x) :
  ∀{m':Nat->Option Nat},(∀k b,x.Names k->m k=some b->m' k=some b)->Rep g' S' m' v x:=by
 induction h with
 |v x=>intro m' _;exact .v x
 |lst0 a cap sz=>intro m' _;exact .lst0 a cap sz
 |lst u hb hc hl hs h1 hu hr ih =>
  intro m' _;exact .lst u (hg _ _ hb) hc hl hs h1 hu (fun i j e c he hc=>ih i j e c he hc (fun k b _ h=>h))
 |agg hn h1 hr ih =>
  intro m' hm;exact .agg hn h1 (fun j u c hu hc=>ih j u c hu hc (fun k b hk=>hm k b (.agg (ahg hc) hk)))
 |tup hn hr ih =>
  intro m' hm;exact .tup hn (fun j u c hu hc=>ih j u c hu hc (fun k b hk=>hm k b (.tup (ahg hc) hk)))
 |iptr u hb h1 hu hr ih =>
  intro m' _;exact .iptr u (hg _ _ hb) h1 hu (fun j c hc=>ih j c hc (fun k b _ h=>h))
 |ms0 a k sz off=>intro m' _;exact .ms0 a k sz off
 |ms h hc hs=>intro m' hm;exact .ms (hm _ _ (.ms _ _ _ _) h) hc (hS _ _ hs)
 |ptr h=>intro m' hm;exact .ptr (hm _ _ (.ptr _ _) h)
 |eptr h=>intro m' hm;exact .eptr (hm _ _ (.eptr _ _ _ _) h)
 |fn hn hr ih =>
  intro m' hm;exact .fn hn (fun j u c hu hc=>ih j u c hu hc (fun k b hk=>hm k b (.fn (ahg hc) hk)))
 |opt h h' ih=>intro m' hm;exact .opt (fun hb=>ih hb (fun k b hk=>hm k b (.opt hk))) h'
 |yl h=>intro m' hm;exact .yl (hm _ _ (.yl _) h)
 |cl hn hr hn' hr' ih ih' =>
  intro m' hm
  exact .cl hn (fun j u c hu hc=>ih j u c hu hc (fun k b _ h=>h))
   hn' (fun j u c hu hc=>ih' j u c hu hc (fun k b _ h=>h))
theorem Rep.one{g:Nat->Array ai3->Prop}{S:Nat->Nat->Prop}{m:Nat->Option Nat}{v:ai3}{x:AV}
  (h:Rep g S m v x) (h1:x.one=true):v.oneCell'=true:=by
 cases h <;> simp_all [AV.one,Value.oneCell']
theorem Rep.cells{g:Nat->Array ai3->Prop}{S:Nat->Nat->Prop}{m:Nat->Option Nat}{v:ai3}{x:AV}
  (h:Rep g S m v x) (hx:(∃cs,x=.agg cs)\/x.one=true) :
  v.cells.size=x.cells.length/\(∀(j:Nat)(c:AV),x.cells[j]?=some c->c.one=true) /\
   ∀(j:Nat)(u:ai3)(c:AV),v.cells[j]?=some u->x.cells[j]?=some c->Rep g S m u c:=by
 rcases hx with⟨cs,rfl⟩ |hx
 ·cases h with
  |agg hn h1 hr=>exact⟨hn,h1,hr⟩
 ·have hv:=h.one hx;have e1:v.cells = #[v]:=by cases v <;> simp_all [Value.cells,Value.oneCell']
  have e2:x.cells=[x]:=by cases x <;> simp_all [AV.cells,AV.one]
  rw[e1,e2];refine⟨rfl,?_,?_⟩
  ·intro j c hc;rcases j with _ |j <;> simp at hc
   exact hc▸hx
  ·intro j u c hu hc;rcases j with _ |j <;> simp at hc hu
   exact hc▸hu▸h
def lk{α:Type}:List (Nat×Option α)->Nat->Option α
  |[],_=>none
  |(t',x)::l,t=>match ad9 t t' with
    |true=>x
    |false=>lk l t
theorem aA{α:Type}(t t':Nat)(x:Option α)(l:List (Nat×Option α)):lk ((t',x)::l) t=if t=t' then x else lk l t:=by
 show(match ad9 t t' with |true=>x |false=>lk l t)=_;split
 ·rename_i h;rw[ait (ahi h)]
 ·rename_i h;rw[ais (ad3 h)]
theorem oD{α:Type}{l:List (Nat×Option α)}{t:Nat}{x:α}(h:lk l t=some x):(t,some x)∈l:=by
 induction l with
 |nil=>simp[lk]at h
 |cons y l ih =>
  obtain⟨t',y⟩:=y;rw[aA]at h;split at h
  ·subst_vars;simp
  ·exact ah6 _ (ih h)
structure LpD where
  params:Array Tmp
  assign:Code
  body:Code
  nt:Nat
inductive Blk where
  |box (cs:List AV)
  |row (sz:Nat) (es:List AV)
  |loop (d:LpD) (st:LoopState) (pend:Option Code) (sl:List (Nat×Option AV))
  |vec (vs:List ai3)
  deriving Inhabited
inductive BlkRep(g:Nat->Array ai3->Prop)(S:Nat->Nat->Prop)(m:Nat->Option Nat)(w:ai6):Option Nat->Blk->Prop
  |none (sz:Nat):BlkRep g S m w none (.row sz [])
  |box {b:Nat} {cs:List AV} {c:Array ai3} {t:ai4} (hw:w.heap[b]?=some (.cells c t (0,0))) (hn:c.size=cs.length)
      (h1:∀(j:Nat)(x:AV),cs[j]?=some x->x.one=true)
      (hr:∀(j:Nat)(u:ai3)(x:AV),c[j]?=some u->cs[j]?=some x->Rep g S m u x):BlkRep g S m w (some b) (.box cs)
  |row {b sz:Nat} {es:List AV} {c:Array ai3} {t:ai4} (hw:w.heap[b]?=some (.cells c t (0,0))) (hn:es.length*sz<=c.size)
      (hl:es.length<=az)
      (hs:∀(i:Nat)(e:AV),es[i]?=some e->e.cells.length=sz)
      (h1:∀(i j:Nat)(e x:AV),es[i]?=some e->e.cells[j]?=some x->x.one=true)
      (hr:∀(i j:Nat)(e:AV)(u:ai3)(x:AV),es[i]?=some e->e.cells[j]?=some x->c[i*sz+j]?=some u->Rep g S cQ u x) :
      BlkRep g S m w (some b) (.row sz es)
  |loop {b:Nat} {r:Loop} {d:LpD} {st:LoopState} {pend:Option Code} {sl:List (Nat×Option AV)} (hw:w.heap[b]?=some (.loop r)) (cg:r.state=st) (pJ:r.pending=pend)
      (nV:r.params=d.params) (has:r.assign=d.assign) (lQ:r.body=d.body) (hnt:d.nt<=r.tmps.size)
      (hr:∀(t:Nat)(x:AV),lk sl t=some x->t<r.tmps.size/\Rep g S m (r.tmps.getD t undef) x):BlkRep g S m w (some b) (.loop d st pend sl)
  |vec {b:Nat} {vs:List ai3} {c:Array ai3} {t:ai4} (hw:w.heap[b]?=some (.cells c t (0,0))) (hc:c.toList=vs) (h1:∀v∈vs,v.oneCell'=true):BlkRep g S m w (some b) (.vec vs)
def Blk.Names(k:Nat):Blk->Prop
  | .box cs=>∃c∈cs,c.Names k
  | .row _ _=>False
  | .loop _ _ _ sl=>∃t x,(t,some x)∈sl/\x.Names k
  | .vec _=>False
theorem BlkRep.mono{g g':Nat->Array ai3->Prop}{S S':Nat->Nat->Prop}{m m':Nat->Option Nat}{w w':ai6}{o o':Option Nat}{x:Blk}
  (hg:∀b cs,g b cs->g' b cs) (hS:∀b n,S b n->S' b n) (hm:∀k b,x.Names k->m k=some b->m' k=some b)
  (ho:o'=o) (hw:∀b,o=some b->w'.heap[b]?=w.heap[b]?)
  (h:BlkRep g S m w o x):BlkRep g' S' m' w' o' x:=by
 subst ho;cases h with
 |none sz=>exact .none sz
 |box h hn h1 hr =>
  refine .box ((hw _ rfl).trans h) hn h1 (fun j u x hu hx=>(hr j u x hu hx).mono hg hS (fun k b hk=>hm k b ⟨x,ahg hx,hk⟩))
 |row h hn hl hs h1 hr =>
  refine .row ((hw _ rfl).trans h) hn hl hs h1 (fun i j e u x he hx hu=>(hr i j e u x he hx hu).mono hg hS (fun k b _ h=>h))
 |loop h h1 h2 h3 h4 h5 hn hr =>
  refine .loop ((hw _ rfl).trans h) h1 h2 h3 h4 h5 hn (fun t x hx=>⟨(hr t x hx).1,(hr t x hx).2.mono hg hS (fun k b hk=>hm k b ⟨t,x,oD hx,hk⟩)⟩)
 |vec h hc h1=>exact .vec ((hw _ rfl).trans h) hc h1
mutual
def AV.nm:AV->List Nat
  | .ms k _ _ _=>[k]
  | .ptr k _=>[k]
  | .eptr k _ _ _=>[k]
  | .agg cs=>AV.nms cs
  | .tup xs=>AV.nms xs
  | .fn _ xs=>AV.nms xs
  | .opt _ x=>x.nm
  | .yl k=>[k]
  |_=>[]
def AV.nms:List AV->List Nat
  |[]=>[]
  |x::l=>x.nm++AV.nms l
end
theorem AV.mem_nms{l:List AV}{c:AV}{k:Nat}(hc:c∈l)(hk:k∈c.nm):k∈AV.nms l:=by
 induction l with
 |nil=>cases hc
 |cons x l ih =>
  simp only[AV.nms,ahn];rcases ah3.1 hc with rfl |hc
  ·exact .inl hk
  ·exact .inr (ih hc)
theorem AV.Names.mem{x:AV}{k:Nat}(h:x.Names k):k∈x.nm:=by
 induction h with
 |ms=>simp[AV.nm]
 |ptr=>simp[AV.nm]
 |eptr=>simp[AV.nm]
 |agg h _ ih=>exact AV.mem_nms h ih
 |tup h _ ih=>exact AV.mem_nms h ih
 |fn h _ ih=>exact AV.mem_nms h ih
 |opt _ ih=>exact ih
 |yl=>simp[AV.nm]
def BZ(sl:List (Nat×Option AV)):List Nat:=sl.flatMap fun p=>match p.2 with |some x=>x.nm |none=>[]
def Blk.nm:Blk->List Nat
  | .box cs=>AV.nms cs
  | .row _ _=>[]
  | .loop _ _ _ sl=>BZ sl
  | .vec _=>[]
theorem Blk.Names.mem{x:Blk}{k:Nat}(h:x.Names k):k∈x.nm:=by
 cases x with
 |box cs=>obtain⟨c,hc,hk⟩:=h;exact AV.mem_nms hc hk.mem
 |row sz es=>exact h.elim
 |vec vs=>exact h.elim
 |loop d st pe sl =>
  obtain⟨t,c,hc,hk⟩:=h;exact List.mem_flatMap.2 ⟨_,hc,hk.mem⟩
end Go.Lw
namespace Go.Lw
abbrev bm:=List (Nat×Option AV)
abbrev Hp:=List (Nat×Option Blk)
theorem kL{α:Type}(u l:List (Nat×Option α))(t:Nat):lk (u++l) t=if t∈u.map (·.1)then lk u t else lk l t:=by
 induction u with
 |nil=>simp
 |cons x u ih =>
  obtain⟨t',x⟩:=x;simp only[afj,aA,ih,aiq,ah3]
  by_cases h:t=t'
  ·simp[h]
  ·rw[ais h]
   by_cases h2:t∈u.map (·.1)
   ·rw[ait h2,ait (.inr h2),ais h]
   ·rw[ais h2,ais (by simp only[h,h2,or_self,not_false_eq_true])]
structure AS where
  sl:bm
  hp:Hp
def AS.get(s:AS)(t:Nat):Option AV:=lk s.sl t
def AS.blk(s:AS)(k:Nat):Option Blk:=lk s.hp k
def aO(hp:Hp)(m:Nat->Option Nat)(b:Nat):Prop:=∃k x,lk hp k=some x/\m k=some b
def Im(ext:Nat->Prop)(hp:Hp)(m:Nat->Option Nat)(w:ai6)(b:Nat)(cs:Array ai3):Prop :=
  ¬ext b/\¬aO hp m b/\∃t f,w.heap[b]?=some (.cells cs t f)
def Sz(w:ai6)(b n:Nat):Prop:=∃c t f,w.heap[b]?=some (.cells c t f)/\n<=c.size
structure HeapRel(ext:Nat->Prop)(hp:Hp)(m:Nat->Option Nat)(w:ai6):Prop where
  blk:∀k x,lk hp k=some x->BlkRep (Im ext hp m w) (Sz w) m w (m k) x
  inj:∀k k' x x' b,lk hp k=some x->lk hp k'=some x'->m k=some b->m k'=some b->k=k'
  sep:∀k x b,lk hp k=some x->m k=some b->¬ext b/\b<w.heap.size
structure Frame(own:Nat->Prop)(w w':ai6):Prop where
  os:w'.os=w.os
  tape:w'.tape=w.tape
  output:w'.output=w.output
  size:w.heap.size<=w'.heap.size
  sz:∀b n,Sz w b n->Sz w' b n
  keep:∀b,b<w.heap.size->¬own b->w'.heap[b]?=w.heap[b]?
theorem Frame.refl(own:Nat->Prop)(w:ai6):Frame own w w:=⟨rfl,rfl,rfl,ahr _,fun _ _ h=>h,fun _ _ _=>rfl⟩
def CO(run:Array ai3->ai6->(Ending->ai6->Prop)->Prop)(args:List AV)(H:Hp)(r:AV)(H':Hp):Prop :=
  ∀(ext:Nat->Prop)(m:Nat->Option Nat)(w:ai6)(vs:Array ai3),(∀b,ext b->b<w.heap.size)->HeapRel ext H m w ->
    vs.size=args.length->(∀(j:Nat) v x,vs[j]?=some v->args[j]?=some x->Rep (Im ext H m w) (Sz w) m v x) ->
    run vs w fun e w'=>∃v m',e=.returned v/\Frame (aO H m) w w'/\HeapRel ext H' m' w' /\
      (∀k x b,lk H' k=some x->m' k=some b->aO H m b\/w.heap.size<=b) /\
      (∀k x y,lk H k=some x->lk H' k=some y->m' k=m k) /\
      Rep (Im ext H' m' w') (Sz w') m' v r
def UE(P:ai5)(f:FuncId)(args:List AV)(H:Hp)(r:AV)(H':Hp):Prop:=CO (Calls P f) args H r H'
structure Ctx where
  w0:ai6
  ext:Nat->Prop
  own0:Nat->Prop
  m0:Nat->Option Nat
  nt:Nat
  hext:∀b,ext b->b<w0.heap.size
  ro:Option Nat:=none
def Fw(ro:Option Nat):Fence:={ Fence.wide with round:=ro }
def sP(D:Nat):Deferred:={ target:=.collected D,args:=#[] }
def r7(b0:Nat)(l:List Deferred)(w:ai6):Prop:=∃Ds:List Nat,l=Ds.map sP/\Ds.Nodup/\∀D∈Ds,b0<=D/\w.heap[D]?=some (.deferred (some []))
theorem r7.nil(b0:Nat)(w:ai6):r7 b0 [] w:=⟨[],rfl,List.nodup_nil,fun D h=>by cases h⟩
structure RelM(C:Ctx)(s:AS)(m:Nat->Option Nat)(a:Act)(w:ai6):Prop where
  slots:∀t x,s.get t=some x->t<a.tmps.size/\Rep (Im C.ext s.hp m w) (Sz w) m (a.tmps.getD t undef) x
  heap:HeapRel C.ext s.hp m w
  frame:Frame C.own0 C.w0 w
  new:∀k x b,lk s.hp k=some x->m k=some b->C.own0 b\/C.w0.heap.size<=b
  keep:∀k x,1000<=k->lk s.hp k=some x->m k=C.m0 k
  defers:r7 C.w0.heap.size a.defers w
  nt:C.nt<=a.tmps.size
def AS.Fresh(s:AS)(k:Nat):Prop :=
  lk s.hp k=none/\k<1000/\(∀t x,s.get t=some x->¬x.Names k)/\(∀k' x,lk s.hp k'=some x->¬x.Names k)
theorem HeapRel.lt{ext:Nat->Prop}{hp:Hp}{m:Nat->Option Nat}{w:ai6}(_:HeapRel ext hp m w){b:Nat}{o:Obj}(h:w.heap[b]?=some o):b<w.heap.size:=(Array.getElem?_eq_some_iff.1 h).1
theorem HeapRel.cells{ext:Nat->Prop}{hp:Hp}{m:Nat->Option Nat}{w:ai6}(h:HeapRel ext hp m w){k b:Nat}{x:Blk}(hk:lk hp k=some x)(hb:m k=some b){o:Option (List Deferred)}(ho:w.heap[b]?=some (.deferred o)):False:=by
 have:=h.blk k x hk;rw[hb]at this;cases this with
 |box hw=>rw[ho]at hw;cases hw
 |row hw=>rw[ho]at hw;cases hw
 |loop hw=>rw[ho]at hw;cases hw
 |vec hw=>rw[ho]at hw;cases hw
theorem RelM.ext_lt{C:Ctx}{s:AS}{m:Nat->Option Nat}{a:Act}{w:ai6}(h:RelM C s m a w){b:Nat}(hb:C.ext b):b<w.heap.size :=
 ah2 (C.hext b hb) h.frame.size
theorem RelM.update{C:Ctx}{s:AS}{m:Nat->Option Nat}{a:Act}{w:ai6}(h:RelM C s m a w){w':ai6}{m':Nat->Option Nat}{hp':Hp}
  (hf:Frame (aO s.hp m) w w')
  (hm:∀t x k b,s.get t=some x->x.Names k->m k=some b->m' k=some b)
  (bg:∀k x b,lk hp' k=some x->m' k=some b->aO s.hp m b\/w.heap.size<=b)
  (hkp:∀k x,1000<=k->lk hp' k=some x->(∃y,lk s.hp k=some y)/\m' k=m k)
  (hh:HeapRel C.ext hp' m' w'):RelM C ⟨s.sl,hp'⟩ m' a w':=by
 refine⟨?_,hh,?_,?_,fun k x h1 h2=>by obtain⟨⟨y,hy⟩,h4⟩:=hkp k x h1 h2;exact h4.trans (h.keep k y h1 hy),?_,h.nt⟩
 ·intro t x hx;obtain⟨h1,h2⟩:=h.slots t x hx;refine⟨h1,h2.mono ?_ hf.sz (fun k b hk=>hm t x k b hx hk)⟩;rintro b cs ⟨he,ho,t',f',hb⟩
  have hlt:b<w.heap.size:=by
   rcases ahq b w.heap.size with h |h
   ·exact h
   ·simp[agw h]at hb
  refine⟨he,?_,t',f',(hf.keep b hlt ho).trans hb⟩;rintro⟨k,y,hk,nW⟩;rcases bg k y b hk nW with h' |h'
  ·exact ho h'
  ·omega
 ·refine⟨hf.os.trans h.frame.os,hf.tape.trans h.frame.tape,hf.output.trans h.frame.output,ah8 h.frame.size hf.size,fun b n hs=>hf.sz b n (h.frame.sz b n hs),?_⟩;intro b hb ho;rw[hf.keep b (ah2 hb h.frame.size) ?_,h.frame.keep b hb ho];rintro⟨k,x,hk,nW⟩;rcases h.new k x b hk nW with h' |h'
  ·exact ho h'
  ·omega
 ·intro k x b hk nW;rcases bg k x b hk nW with⟨k2,y,cC,acb⟩ |h'
  ·exact h.new k2 y b cC acb
  ·exact .inr (ah8 h.frame.size h')
 ·obtain⟨Ds,e,hn,hD⟩:=h.defers;refine⟨Ds,e,hn,fun D hm=>?_⟩;obtain⟨h1,h2⟩:=hD D hm;refine⟨h1,(hf.keep D (h.heap.lt h2) ?_).trans h2⟩;rintro⟨k,x,hk,nW⟩;exact h.heap.cells hk nW h2
theorem eU{ext:Nat->Prop}{hp hp':Hp}{m m':Nat->Option Nat}{w w':ai6}(hf:Frame (aO hp m) w w')
  (bg:∀k x b,lk hp' k=some x->m' k=some b->aO hp m b\/w.heap.size<=b) :
  ∀b cs,Im ext hp m w b cs->Im ext hp' m' w' b cs:=by
 rintro b cs ⟨he,ho,t',f',hb⟩
 have hlt:b<w.heap.size:=by
  rcases ahq b w.heap.size with h |h
  ·exact h
  ·simp[agw h]at hb
 refine⟨he,?_,t',f',(hf.keep b hlt ho).trans hb⟩;rintro⟨k,y,hk,nW⟩;rcases bg k y b hk nW with h' |h'
 ·exact ho h'
 ·omega
theorem RelM.put{C:Ctx}{s:AS}{m:Nat->Option Nat}{a:Act}{w:ai6}(h:RelM C s m a w)(d:Nat)(v:ai3)(x:Option AV)
  (hx:∀y,x=some y->d<a.tmps.size/\Rep (Im C.ext s.hp m w) (Sz w) m v y) :
  RelM C ⟨(d,x)::s.sl,s.hp⟩ m { a with tmps:=a.tmps.setIfInBounds d v } w:=by
 refine⟨?_,h.heap,h.frame,h.new,h.keep,h.defers,by simpa using h.nt⟩;intro t y hy;simp only[AS.get,aA]at hy
 by_cases ht:t=d
 ·subst ht;rw[ait rfl]at hy;obtain⟨h1,h2⟩:=hx y hy;refine⟨by simpa using h1,?_⟩;simpa[ahp,aha,h1]using h2
 ·rw [ais ht] at hy;obtain ⟨h1,h2⟩:=h.slots t y hy;refine ⟨by simpa using h1,?_⟩
  have:(a.tmps.setIfInBounds d v).getD t undef=a.tmps.getD t undef:=by
   simp only[ahp,aha];rw[ais oz]
  simpa[this]using h2
theorem Sz.alloc{w:ai6}{o:Obj}{b n:Nat}(h:Sz w b n):Sz { w with heap:=w.heap.push o } b n:=by
 obtain⟨c,t,f,hb,hn⟩:=h;refine⟨c,t,f,?_,hn⟩
 have hlt:b<w.heap.size:=by
  rcases ahq b w.heap.size with h |h
  ·exact h
  ·simp[agw h]at hb
 show(w.heap.push o)[b]?=_;rw[ag2,ais oz,hb]
theorem Bq(own:Nat->Prop)(w:ai6)(o:Obj):Frame own w { w with heap:=w.heap.push o }:=by
 refine⟨rfl,rfl,rfl,by simp,fun b n h=>h.alloc,?_⟩;intro b hb _;show(w.heap.push o)[b]?=_;rw[ag2,ais oz]
theorem RE(own:Nat->Prop)(w:ai6)(n:Nat):Frame own w { w with drawn:=n } :=
 ⟨rfl,rfl,rfl,ahr _,fun _ _ h=>h,fun _ _ _=>rfl⟩
theorem Frame.trans{own own':Nat->Prop}{w w' w'':ai6}(h:Frame own w w')(h':Frame own' w' w'')
  (ho:∀b,b<w.heap.size->own' b->own b):Frame own w w'' :=
 ⟨h'.os.trans h.os,h'.tape.trans h.tape,h'.output.trans h.output,ah8 h.size h'.size,fun b n hs=>h'.sz b n (h.sz b n hs),
  fun b hb hn=>(h'.keep b (ah2 hb h.size) (fun hc=>hn (ho b hb hc))).trans (h.keep b hb hn)⟩
theorem RelM.alloc{C:Ctx}{s:AS}{m:Nat->Option Nat}{a:Act}{w:ai6}(h:RelM C s m a w){k:Nat}(hk:s.Fresh k)(o:Obj)(x:Blk)
  (hx:¬x.Names k) (di:∀(g:Nat->Array ai3->Prop)(S:Nat->Nat->Prop)(m':Nat->Option Nat)(w':ai6),
   (∀b cs,Im C.ext s.hp m w b cs->g b cs)->(∀b n,Sz w b n->S b n)->(∀k' b,k'≠k->m k'=some b->m' k'=some b) ->
   w'.heap[w.heap.size]?=some o->BlkRep g S m' w' (some w.heap.size) x) :
  RelM C ⟨s.sl,(k,some x)::s.hp⟩ (fun k'=>if k'=k then some w.heap.size else m k') a { w with heap:=w.heap.push o }:=by
 have bE:∀k' y,lk ((k,some x)::s.hp) k'=some y->k'≠k->lk s.hp k'=some y:=by
  intro k' y hy aG;rw[aA,ais aG]at hy;exact hy
 have cW:∀k' y b,lk s.hp k'=some y->m k'=some b->b<w.heap.size:=fun k' y b h1 h2=>(h.heap.sep k' y b h1 h2).2
 have hf:=Bq (aO s.hp m) w o
 have bg:∀k' y b,lk ((k,some x)::s.hp) k'=some y->(if k'=k then some w.heap.size else m k')=some b->aO s.hp m b\/w.heap.size<=b:=by
  intro k' y b hy hb
  by_cases aG:k'=k
  ·rw[ait aG]at hb;cases hb;exact .inr (ahr _)
  ·rw[ais aG]at hb;exact .inl ⟨k',y,bE k' y hy aG,hb⟩
 refine h.update hf ?_ bg ?_ ⟨?_,?_,?_⟩
 ·intro t y k' b hy hn hb;have:k'≠k:=fun e=>hk.2.2.1 t y hy (e▸hn)
  rw[ais this];exact hb
 ·intro k' y nX hy;have aG:k' ≠ k:=fun e=>by have:=hk.2.1; omega
  exact⟨⟨y,bE k' y hy aG⟩,by rw[ais aG]⟩
 ·intro k' y hy
  by_cases aG:k'=k
  ·subst aG;rw[aA,ait rfl]at hy;cases hy;rw[ait rfl];refine di _ _ _ _ (eU hf bg) hf.sz (fun k'' b aG hb=>by rw[ais aG];exact hb) ?_;show(w.heap.push o)[w.heap.size]?=_;simp
  ·have hy':=bE k' y hy aG;rw[ais aG];refine BlkRep.mono (eU hf bg) hf.sz ?_ rfl ?_ (h.heap.blk k' y hy')
   ·intro k'' b hn hb;have:k''≠k:=fun e=>hk.2.2.2 k' y hy' (e▸hn)
    rw[ais this];exact hb
   ·intro b hb;have:=cW k' y b hy' hb;show(w.heap.push o)[b]?=_;rw[ag2,ais oz]
 ·intro k1 k2 y1 y2 b h1 h2 bn a8
  by_cases e1:k1=k <;> by_cases e2:k2=k
  ·rw[e1,e2]
  ·rw[ait e1]at bn;rw[ais e2]at a8;cases bn
   exact aiz (cW k2 y2 _ (bE k2 y2 h2 e2) a8) oz
  ·rw[ais e1]at bn;rw[ait e2]at a8;cases a8
   exact aiz (cW k1 y1 _ (bE k1 y1 h1 e1) bn) oz
  ·rw[ais e1]at bn;rw[ais e2]at a8
   exact h.heap.inj k1 k2 y1 y2 b (bE k1 y1 h1 e1) (bE k2 y2 h2 e2) bn a8
 ·intro k' y b hy hb
  by_cases aG:k'=k
  ·rw[ait aG]at hb;cases hb
   refine⟨fun hc=>?_,by simp⟩;have:=h.ext_lt hc;omega
  ·rw[ais aG]at hb;have:=h.heap.sep k' y b (bE k' y hy aG) hb;refine⟨this.1,?_⟩;have:=this.2;simp;omega
theorem RelM.write{C:Ctx}{s:AS}{m:Nat->Option Nat}{a:Act}{w:ai6}(h:RelM C s m a w){k b:Nat}{x x':Blk}{w':ai6}
  {c c':Array ai3} {t:ai4}
  (hk:lk s.hp k=some x) (hm:m k=some b) (hb:w.heap[b]?=some (.cells c t (0,0))) (aN:c'.size=c.size)
  (hw:w'={ w with heap:=w.heap.setIfInBounds b (.cells c' t (0,0)) })
  (hx:∀(g:Nat->Array ai3->Prop)(S:Nat->Nat->Prop),
   (∀b cs,Im C.ext s.hp m w b cs->g b cs)->(∀b n,Sz w b n->S b n) ->
   w'.heap[b]?=some (.cells c' t (0,0))->BlkRep g S m w' (some b) x') :
  RelM C ⟨s.sl,(k,some x')::s.hp⟩ m a w':=by
 have hlt:=(h.heap.sep k x b hk hm).2
 have cD:∀b',w'.heap[b']?=if b=b' then some (.cells c' t (0,0))else w.heap[b']? := by
  intro b';subst hw;show(w.heap.setIfInBounds b _)[b']?=_;rw[aha]
  by_cases e:b=b'
  ·simp[e];omega
  ·simp[e]
 have bE:∀k' y,lk ((k,some x')::s.hp) k'=some y->∃z,lk s.hp k'=some z:=by
  intro k' y hy;rw[aA]at hy;split at hy
  ·subst_vars;exact⟨x,hk⟩
  ·exact⟨y,hy⟩
 have hf:Frame (aO s.hp m) w w':=by
  refine⟨by rw[hw],by rw[hw],by rw[hw],by rw[hw];simp,?_,?_⟩
  ·rintro b' n ⟨c1,t1,f1,h1,h2⟩
   by_cases e:b=b'
   ·subst e;rw[hb]at h1;cases h1;exact⟨c',t,(0,0),by rw[cD,ait rfl],by omega⟩
   ·exact⟨c1,t1,f1,by rw[cD,ais e,h1],h2⟩
  ·intro b' hb' hn;rw[cD,ais];rintro rfl;exact hn ⟨k,x,hk,hm⟩
 have bg:∀k' y b',lk ((k,some x')::s.hp) k'=some y->m k'=some b'->aO s.hp m b'\/w.heap.size<=b':=by
  intro k' y b' hy hb';obtain⟨z,hz⟩:=bE k' y hy;exact .inl ⟨k',z,hz,hb'⟩
 refine h.update hf (fun t y k' b' _ _ hb'=>hb') bg (fun k' y _ hy=>⟨bE k' y hy,rfl⟩) ⟨?_,?_,?_⟩
 ·intro k' y hy
  by_cases e:k'=k
  ·subst e;rw[aA,ait rfl]at hy;cases hy;rw[hm];exact hx _ _ (eU hf bg) hf.sz (by rw[cD,ait rfl])
  ·rw[aA,ais e]at hy;refine BlkRep.mono (eU hf bg) hf.sz (fun k'' b' _ hb'=>hb') rfl ?_ (h.heap.blk k' y hy);intro b' hb';rw[cD,ais];rintro rfl;exact e (h.heap.inj k' k y x b hy hk hb' hm)
 ·intro k1 k2 y1 y2 b' h1 h2 bn a8;obtain⟨z1,co⟩:=bE k1 y1 h1;obtain⟨z2,ki⟩:=bE k2 y2 h2;exact h.heap.inj k1 k2 z1 z2 b' co ki bn a8
 ·intro k' y b' hy hb';obtain⟨z,hz⟩:=bE k' y hy;have:=h.heap.sep k' z b' hz hb';exact⟨this.1,ah2 this.2 hf.size⟩
theorem RelM.drawn{C:Ctx}{s:AS}{m:Nat->Option Nat}{a:Act}{w:ai6}(h:RelM C s m a w)(n:Nat):RelM C s m a { w with drawn:=n }:=by
 have hf:=RE (aO s.hp m) w n;have bg:∀k' y b',lk s.hp k'=some y->m k'=some b'->aO s.hp m b'\/w.heap.size<=b':=fun k' y b' h1 h2=>.inl ⟨k',y,h1,h2⟩
 refine h.update hf (fun t y k' b' _ _ hb'=>hb') bg (fun k' y _ hy=>⟨⟨y,hy⟩,rfl⟩) ⟨?_,h.heap.inj,h.heap.sep⟩;intro k x hk;exact BlkRep.mono (w:=w) (eU hf bg) hf.sz (fun _ _ _ h=>h) rfl (fun _ _=>rfl) (h.heap.blk k x hk)
structure Out where
  val:Option AV
  upd:Hp
  rt:List Nat
  rd:List Nat
  deriving Inhabited
def AS.app(s:AS)(dst:Option Tmp)(o:Out):AS :=
  ⟨match dst with |some d=>(d,o.val)::s.sl |none=>s.sl,o.upd++s.hp⟩
def gg(s s':AS)(o:Out):Prop:=(∀t∈o.rt,s'.get t=s.get t)/\∀k∈o.rd,s'.blk k=s.blk k
def jx(s:AS)(o:Out):Prop:=∀k∈o.upd.map (·.1),k∈o.rd\/s.Fresh k
def wq(P:ai5)(o:Oper)(a:Act)(w:ai6)(next:Act->ai6->Prop)(Q:Exit->Act->ai6->Prop):Prop:=∀ro n,o.uponIn (Fw ro) n P a next Q ((execOp a.eval o).run P w)
theorem WT{P:ai5}{f:FuncId}{args:Array ai3}{w:ai6}{R:Ending->ai6->Prop}(h:Calls P f args w R)(ro:Option Nat)(n:Nat):(((Fw ro).depth.isSome=true->1<=n)/\CallsIn (Fw ro) (n-1) P f args w R) :=
 ⟨(fun h=>by cases h),(callsIn_wide (n:=n-1)).2 h⟩
theorem XE{P:ai5}{f:String}{args:Array ai3}{w:ai6}{R:ai3->ai6->Prop}(h:Rows P f args w R)(ro:Option Nat)(n:Nat):(((Fw ro).depth.isSome=true->1<=n)/\RowsIn (Fw ro) (n-1) P f args w R) :=
 ⟨(fun h=>by cases h),fun c cs _=>let⟨v,w',r,s⟩:=h c cs;⟨v,w',r,(stepsIn_wide (P:=P)).2 s⟩⟩
theorem uD{P:ai5}{o:Oper}{a:Act}{w:ai6}{next:Act->ai6->Prop}{Q:Exit->Act->ai6->Prop}(h:o.wp P a w next Q):wq P o a w next Q:=by
 intro ro n;unfold Oper.wp at h;generalize(execOp a.eval o).run P w=r at h;cases r with
 |ok x w' =>
  cases x with
  |enter f args=>exact WT h ro n
  |row f args=>exact XE h ro n
  |round l f ts x y=>exact(show False from h).elim
  |_=>exact h
 |halt x w'=>cases x <;> exact h
structure Step(P:ai5)(N:Nat)(R:Array Oper)(s:AS)(o:Oper)(u:Out):Prop where
  run:∀s',gg s s' u->jx s' u->∀C m a w Q (next:Act->ai6->Prop),C.nt=N->RelM C s' m a w ->
    (∀m' a' w',RelM C (s'.app o.dst u) m' a' w'->next a' w') ->
    if Region.wanted o (yielded R a.tmps)then wq P o a w next Q else next (a.put o.dst undef) w
def gE(P:ai5)(N:Nat)(R:Array Oper):List Oper->AS->List Out->(AS->List Out->Prop)->Prop
  |[],s,us,K=>K s us
  |o::ops,s,us,K=>∃u,Step P N R s o u/\jx s u/\gE P N R ops (s.app o.dst u) (us++[u]) K
def nd(o:Oper):Bool:=match o.op with
  | .defer _=>false
  |_=>true
theorem Ln{P:ai5}{o:Oper}{a:Act}{w:ai6}{next:Act->ai6->Prop}{Q:Exit->Act->ai6->Prop}{ro:Option Nat}{n:Nat}(hd:nd o=true)(h:wq P o a w next Q):o.wpIn (Fw ro) n P a w next Q:=by
 refine⟨fun _ _=>trivial,?_⟩;rw[Oper.semAt_eq _ _ _ (by intro c hc;simp[nd,hc]at hd)];exact h ro n
theorem Vo{P:ai5}{N n:Nat}{R:Array Oper}{C:Ctx}(hN:C.nt=N){Q:Exit->Act->ai6->Prop}{K:AS->List Out->Prop}
  (hK:∀s us m a w,K s us->RelM C s m a w->Q .normal a w) :
  ∀(ops:List Oper)(i:Nat)(s:AS)(us:List Out)(m:Nat->Option Nat)(a:Act)(w:ai6),
   (∀j,R[i+j]?=ops[j]?)->ops.all nd=true->gE P N R ops s us K->RelM C s m a w->wpOpsIn (Fw C.ro) n P R Q (List.range' i ops.length) a w:=by
 intro ops
 induction ops with
 |nil=>intro i s us m a w _ _ h hr;exact hK s us m a w h hr
 |cons o ops ih =>
  intro i s us m a w hR b7 h hr;simp only[List.all_cons,ahj]at b7;obtain⟨u,hs,hn,h⟩:=h;have ho:R[i]?=some o:=by simpa using hR 0
  simp only[ahx,List.range'_succ];rw[wpOpsIn_cons];unfold wpOpIn;simp only[ho]
  have:=hs.run s ⟨fun _ _=>rfl,fun _ _=>rfl⟩ hn C m a w Q (wpOpsIn (Fw C.ro) n P R Q (List.range' (i+1) ops.length)) hN hr
   (fun m' a' w' hr'=>ih (i+1) _ _ m' a' w' (fun j=>by have:=hR (j+1);simpa[aec,adk 1 j]using this) b7.2 h hr')
  split
  ·rename_i hw;rw[ait hw]at this;exact Ln b7.1 this
  ·rename_i hw;rw[ais hw]at this;exact⟨fun _ _=>trivial,this⟩
theorem HeapRel.congr{ext:Nat->Prop}{hp hp':Hp}{m:Nat->Option Nat}{w:ai6}(h:∀k,lk hp k=lk hp' k)
  (hr:HeapRel ext hp m w):HeapRel ext hp' m w:=by
 have e1:aO hp m=aO hp' m:=by funext b;simp only[aO,h]
 have e2:Im ext hp m w=Im ext hp' m w:=by funext b cs;simp only[Im,e1]
 refine⟨?_,?_,?_⟩
 ·intro k x hk;rw[<- e2];exact hr.blk k x ((h k).trans hk)
 ·intro k k' x x' b h1 h2;exact hr.inj k k' x x' b ((h k).trans h1) ((h k').trans h2)
 ·intro k x b h1;exact hr.sep k x b ((h k).trans h1)
theorem RelM.congr{C:Ctx}{s s':AS}{m:Nat->Option Nat}{a:Act}{w:ai6}(h1:∀t,s.get t=s'.get t)(h2:∀k,s.blk k=s'.blk k)
  (hr:RelM C s m a w):RelM C s' m a w:=by
 have e1:aO s.hp m=aO s'.hp m:=by funext b;simp only[aO];simp only[AS.blk]at h2;simp only[h2]
 have e2:Im C.ext s.hp m w=Im C.ext s'.hp m w:=by funext b cs;simp only[Im,e1]
 refine⟨?_,hr.heap.congr h2,hr.frame,?_,fun k x h3 h4=>hr.keep k x h3 ((h2 k).trans h4),hr.defers,hr.nt⟩
 ·intro t x hx;rw[<- e2];exact hr.slots t x ((h1 t).trans hx)
 ·intro k x b hk;exact hr.new k x b ((h2 k).trans hk)
def CG(prev:List Nat)(o:Oper):Nat :=
  o.after.toList.foldl (fun s e=>match Region.binds .any e with
    |true=>s ||| (2^e.on ||| prev.getD e.on 0)
    |false=>s) 0
def jy:List Oper->List Nat->List Nat
  |[],prev=>prev
  |o::ops,prev=>jy ops (prev++[CG prev o])
theorem PV(prev:List Nat)(j:Nat):∀(l:List Edge)(s:Nat),
  (l.foldl (fun s e=>match Region.binds .any e with
   |true=>s ||| (2^e.on ||| prev.getD e.on 0)
   |false=>s) s).testBit j=true ->
  s.testBit j=true\/∃e∈l,Region.binds .any e=true/\(j=e.on\/(prev.getD e.on 0).testBit j=true):=by
 intro l
 induction l with
 |nil=>intro s h;exact .inl h
 |cons e l ih =>
  intro s h;simp only[afw]at h;rcases ih _ h with h |⟨e',he',hb,hj⟩
  ·cases hb:Region.binds .any e with
   |false=>rw[hb]at h;exact .inl h
   |true =>
    rw[hb]at h;simp only[Nat.testBit_or,aio,Nat.testBit_two_pow,aiu]at h;rcases h with h |h |h
    ·exact .inl h
    ·exact .inr ⟨e,aig,hb,.inl h.symm⟩
    ·exact .inr ⟨e,aig,hb,.inr h⟩
  ·exact .inr ⟨e',ah6 _ he',hb,hj⟩
theorem GV:∀(ops:List Oper)(prev:List Nat),(jy ops prev).length=prev.length+ops.length
 |[],prev=>rfl
 |o::ops,prev=>by simp only[jy,GV ops,aid,ahx,ah9];omega
theorem BG:∀(ops:List Oper)(prev:List Nat)(i:Nat),i<prev.length->(jy ops prev).getD i 0=prev.getD i 0
 |[],prev,i,_=>rfl
 |o::ops,prev,i,h=>by
  simp only[jy];rw[BG ops _ i (by simp;omega)];simp[ahh,ah4 h]
theorem MT:∀(ops:List Oper)(prev:List Nat)(i:Nat)(o:Oper),ops[i]?=some o ->
  ∃q,(jy ops prev).getD (prev.length+i) 0=CG q o/\∀j,q.getD j 0≠0->j<prev.length+i/\q.getD j 0=(jy ops prev).getD j 0
 |[],prev,i,o,h=>by simp at h
 |o'::ops,prev,0,o,h=>by
  simp at h;subst h
  refine⟨prev,?_,?_⟩
  ·simp only[jy,aep];rw[BG ops _ _ (by simp)];simp[ahh]
  ·intro j hj
   have hlt:j<prev.length:=by
    rcases ahq j prev.length with h |h
    ·exact h
    ·exact aiz (by simp[ahh,aht h]) hj
   refine⟨by omega,?_⟩;simp only[jy];rw[BG ops _ _ (by simp;omega)];simp[ahh,ah4 hlt]
 |o'::ops,prev,i+1,o,h=>by
  simp at h;obtain⟨q,h1,h2⟩:=MT ops (prev++[CG prev o']) i o h;refine⟨q,?_,?_⟩
  ·simp only[jy];rw[<- h1];simp only[aid,ahx,ah9];congr 1;omega
  ·intro j hj;obtain⟨h3,h4⟩:=h2 j hj;simp at h3;exact⟨by omega,h4⟩
def JG(R:Array Oper)(L:Nat->Bool):Prop:=∀i o,R[i]?=some o->L i=true->∀e∈o.after.toList,Region.binds .any e=true->L e.on=true
theorem GD{R:Array Oper}{L:Nat->Bool}(hc:JG R L):∀(i:Nat)(o:Oper),R[i]?=some o ->
  (∀e∈o.after.toList,Region.binds .any e=true->L e.on=true)->∀j,((jy R.toList []).getD i 0).testBit j=true->L j=true:=by
 intro i
 induction i using Nat.strongRecOn with
 |_ i ih =>
  intro o ho hp j hj;obtain⟨q,h1,h2⟩:=MT R.toList [] i o (by simpa using ho);simp only[ah9,aeg]at h1 h2;rw[h1]at hj;rcases PV q j _ _ hj with h |⟨e,he,hb,h |h⟩
  ·simp at h
  ·exact h▸hp e he hb
  ·have aG : q.getD e.on 0 ≠ 0 := fun h0 => by rw [h0] at h; simp at h
   obtain⟨h3,h4⟩:=h2 e.on aG;rw[h4]at h;have hl:=hp e he hb
   have hlt:e.on<R.size:=by
    rcases ahq e.on R.size with hh |hh
    ·exact hh
    ·exfalso;have:(jy R.toList []).length = R.size:=by rw [GV]; simp
     rw[ahh,aht oz]at h;simp at h
   exact ih e.on h3 R[e.on] (by simp[hlt]) (hc e.on _ (by simp[hlt]) hl) j h
def Out.wr(u:Out):List Nat:=u.upd.map (·.1)
def Out.nm(u:Out):List Nat:=(match u.val with |some x=>x.nm |none=>[])++u.upd.flatMap fun p=>match p.2 with |some x=>x.nm |none=>[]
def lg(a b:List Nat):Bool:=a.any fun x=>b.contains x
def yR(d:Option Nat)(l:List Nat):Bool:=match d with |some d=>l.contains d |none=>false
def jY(o1:Oper)(u1:Out)(o2:Oper)(u2:Out):Bool :=
  yR o1.dst u2.rt||yR o2.dst u1.rt||(match o1.dst with |some d=>o2.dst==some d |none=>false) ||
    lg u1.wr u2.rd||lg u1.wr u2.wr||lg u2.wr u1.rd||lg (u1.wr.filter fun k=>!u1.rd.contains k) u2.nm
def vH(M:List Nat)(o2:Oper)(u2:Out)(j:Nat):Nat->List Oper->List Out->Bool
  |i,o1::ops,u1::us=>(match aem i j with
      |true=>(!jY o1 u1 o2 u2||(M.getD j 0).testBit i)&&!lg (u2.wr.filter fun k=>!u2.rd.contains k) (u1.nm++u1.wr)
      |false=>true)&&vH M o2 u2 j (i+1) ops us
  |_,_,_=>true
def xU(M:List Nat)(R:List Oper)(U:List Out):Nat->List Oper->List Out->Bool
  |j,o::ops,u::us=>vH M o u j 0 R U&&(o.after.toList.all fun e=>!Region.binds .any e||aem e.on j)&&xU M R U (j+1) ops us
  |_,_,_=>true
def AS.freshB(s:AS)(k:Nat):Bool :=
  (s.sl.all fun p=>match p.2 with |some x=>!x.nm.contains k |none=>true) &&
    (s.hp.all fun p=>match p.2 with |some x=>!x.nm.contains k |none=>true) &&
    (match lk s.hp k with |some _=>false |none=>true)&&aem k 1000
theorem AS.fresh_of{s:AS}{k:Nat}(h:s.freshB k=true):s.Fresh k:=by
 simp only[AS.freshB,ahj,ahs]at h;obtain⟨⟨⟨h1,h2⟩,h3⟩,h4⟩:=h;refine⟨?_,by simpa[adx]using h4,?_,?_⟩
 ·cases hk:lk s.hp k with
  |none=>rfl
  |some x=>rw[hk]at h3;simp at h3
 ·intro t x hx hn;have:=h1 _ (oD hx);simp at this;exact this hn.mem
 ·intro t x hx hn;have:=h2 _ (oD hx);simp at this;exact this hn.mem
def chk(R:List Oper)(U:List Out)(s:AS):Bool :=
  xU (jy R []) R U 0 R U&&(U.all fun u=>u.wr.all fun k=>u.rd.contains k||s.freshB k)
theorem K7{M:List Nat}{o2:Oper}{u2:Out}{j:Nat}:∀(ops:List Oper)(us:List Out)(i0:Nat),vH M o2 u2 j i0 ops us=true ->
  ∀i o1 u1,ops[i]?=some o1->us[i]?=some u1->i0+i<j ->
   (jY o1 u1 o2 u2=true->(M.getD j 0).testBit (i0+i)=true)/\lg (u2.wr.filter fun k=>!u2.rd.contains k) (u1.nm++u1.wr)=false
 |[],_,_,_,i,o1,u1,h,_,_=>by simp at h
 |_::_,[],_,_,i,o1,u1,_,h,_=>by simp at h
 |o::ops,u::us,i0,hc,i,o1,u1,h1,h2,hlt=>by
  simp only[vH,ahj]at hc;obtain⟨eL,pK⟩:=hc;cases i with
  |zero =>
   simp at h1 h2;subst h1;subst h2
   have hb:aem i0 j=true:=by simpa[adx]using hlt
   rw[hb]at eL;simp only[ahj,aio,agt]at eL;refine⟨fun hw=>?_,eL.2⟩;rcases eL.1 with h |h
   ·rw[hw]at h;cases h
   ·simpa using h
  |succ i =>
   simp at h1 h2;have:=K7 ops us (i0+1) pK i o1 u1 h1 h2 oz;rw[show i0+(i+1)=i0+1+i by omega];exact this
theorem DN{M:List Nat}{R:List Oper}{U:List Out}:∀(ops:List Oper)(us:List Out)(j0:Nat),xU M R U j0 ops us=true ->
  ∀j o u,ops[j]?=some o->us[j]?=some u->vH M o u (j0+j) 0 R U=true/\∀e∈o.after.toList,Region.binds .any e=true->e.on<j0+j
 |[],_,_,_,i,o1,u1,h,_=>by simp at h
 |_::_,[],_,_,i,o1,u1,_,h=>by simp at h
 |o::ops,u::us,j0,hc,j,o1,u1,h1,h2=>by
  simp only[xU,ahj,ahs]at hc;obtain⟨⟨eL,pK⟩,Fy⟩:=hc;cases j with
  |zero =>
   simp at h1 h2;subst h1;subst h2
   refine⟨eL,fun e he hb=>?_⟩;have:=pK e he;simpa[hb,adx]using this
  |succ j =>
   simp at h1 h2;have:=DN ops us (j0+1) Fy j o1 u1 h1 h2;rw[show j0+(j+1)=j0+1+j by omega];exact this
def vw(R:Array Oper)(U:List Out)(s:AS)(L:Nat->Bool):Nat->AS
  |0=>s
  |i+1=>match L i,R[i]?,U[i]? with
    |true,some o,some u=>(vw R U s L i).app o.dst u
    |_,_,_=>vw R U s L i
theorem gH(s:AS)(d:Option Tmp)(u:Out)(t:Nat):(s.app d u).get t=if d=some t then u.val else s.get t:=by
 cases d with
 |none=>simp[AS.app,AS.get]
 |some d =>
  simp only[AS.app,AS.get,aA]
  by_cases h:t=d
  ·simp[h]
  ·rw[ais h,ais (by simpa using fun e=>h e.symm)]
theorem ug(s:AS)(d:Option Tmp)(u:Out)(k:Nat):(s.app d u).blk k=if k∈u.wr then lk u.upd k else s.blk k:=by
 simp only[AS.app,AS.blk,kL,Out.wr];rfl
section
variable{R:Array Oper}{U:List Out}{s:AS}
theorem KZ{L:Nat->Bool}{t i:Nat}(n:Nat)(bA:i<=n)(h:∀j o,i<=j->R[j]?=some o->o.dst=some t->L j=false) :
  (vw R U s L n).get t=(vw R U s L i).get t:=by
 induction n with
 |zero=>rw[show i=0 by omega]
 |succ n ih =>
  by_cases hn:i<=n
  ·rw[<- ih hn];simp only[vw];split
   ·rename_i o u h1 h2 h3;rw[gH,ais];intro hd;rw[h n o hn h2 hd]at h1;cases h1
   ·rfl
  ·rw[show i=n+1 by omega]
theorem HX{L:Nat->Bool}{k i:Nat}(n:Nat)(bA:i<=n)(h:∀j u,i<=j->U[j]?=some u->k∈u.wr->L j=false) :
  (vw R U s L n).blk k=(vw R U s L i).blk k:=by
 induction n with
 |zero=>rw[show i=0 by omega]
 |succ n ih =>
  by_cases hn:i<=n
  ·rw[<- ih hn];simp only[vw];split
   ·rename_i o u h1 h2 h3;rw[ug,ais];intro hd;rw[h n u hn h3 hd]at h1;cases h1
   ·rfl
  ·rw[show i=n+1 by omega]
theorem Df{L L':Nat->Bool}{t:Nat}(n:Nat)(h:∀j o,j<n->R[j]?=some o->o.dst=some t->L j=L' j) :
  (vw R U s L n).get t=(vw R U s L' n).get t:=by
 induction n with
 |zero=>rfl
 |succ n ih =>
  have ih:=ih (fun j o hj=>h j o oz);simp only[vw];cases ho:R[n]? with
  |none=>cases L n <;> cases L' n <;> simp only[ih]
  |some o =>
   cases hu:U[n]? with
   |none=>cases L n <;> cases L' n <;> simp only[ih]
   |some u =>
    by_cases hd:o.dst=some t
    ·rw[h n o oz ho hd];cases L' n <;> simp only[gH,hd,if_true,ih]
    ·cases L n <;> cases L' n <;> simp only[gH,ais hd,ih]
theorem Bt{L L':Nat->Bool}{k:Nat}(n:Nat)(h:∀j u,j<n->U[j]?=some u->k∈u.wr->L j=L' j) :
  (vw R U s L n).blk k=(vw R U s L' n).blk k:=by
 induction n with
 |zero=>rfl
 |succ n ih =>
  have ih:=ih (fun j o hj=>h j o oz);simp only[vw];cases ho:R[n]? with
  |none=>cases L n <;> cases L' n <;> simp only[ih]
  |some o =>
   cases hu:U[n]? with
   |none=>cases L n <;> cases L' n <;> simp only[ih]
   |some u =>
    by_cases hd:k∈u.wr
    ·rw[h n u oz hu hd];cases L' n <;> simp only[ug,hd,if_true,ih]
    ·cases L n <;> cases L' n <;> simp only[ug,ais hd,ih]
theorem SP{L:Nat->Bool}{t:Nat}{x:AV}:∀n,(vw R U s L n).get t=some x ->
  s.get t=some x\/∃j u,L j=true/\U[j]?=some u/\u.val=some x:=by
 intro n
 induction n with
 |zero=>exact .inl
 |succ n ih =>
  intro h;simp only[vw]at h;split at h
  ·rename_i o u h1 h2 h3;rw[gH]at h;split at h
   ·exact .inr ⟨n,u,h1,h3,h⟩
   ·exact ih h
  ·exact ih h
theorem G4{L:Nat->Bool}{k:Nat}{x:Blk}:∀n,(vw R U s L n).blk k=some x ->
  s.blk k=some x\/∃j u,L j=true/\U[j]?=some u/\k∈u.wr/\lk u.upd k=some x:=by
 intro n
 induction n with
 |zero=>exact .inl
 |succ n ih =>
  intro h;simp only[vw]at h;split at h
  ·rename_i o u h1 h2 h3;rw[ug]at h;split at h
   ·rename_i hk;exact .inr ⟨n,u,h1,h3,hk,h⟩
   ·exact ih h
  ·exact ih h
end
theorem Sk{a b:List Nat}(h:lg a b=false){x:Nat}(ha:x∈a):x∉b:=by
 intro hb;simp only[lg,List.any_eq_false]at h;exact h x ha (by simpa using hb)
theorem vX{a b:List Nat}{x:Nat}(ha:x∈a)(hb:x∈b):lg a b=true:=by
 simp only[lg,List.any_eq_true];exact⟨x,ha,by simpa using hb⟩
section
variable{P:ai5}{N:Nat}{R:Array Oper}{U:List Out}{s0:AS}{C:Ctx}{Q:Exit->Act->ai6->Prop}
theorem Wi{u:Out}{x:AV}{k:Nat}(h:u.val=some x)(hk:x.Names k):k∈u.nm:=by
 simp only[Out.nm,h,ahn];exact .inl hk.mem
theorem Rm{u:Out}{x:Blk}{k k':Nat}(h:lk u.upd k'=some x)(hk:x.Names k):k∈u.nm:=by
 simp only[Out.nm,ahn,List.mem_flatMap];exact .inr ⟨_,oD h,hk.mem⟩
theorem Tj{n:Nat}(b7:R.toList.all nd=true)(hN:C.nt=N)(ch:U.length=R.size)(cg:∀(i:Nat) o u,R[i]?=some o->U[i]?=some u->Step P N R (vw R U s0 (fun _=>true) i) o u)
    (hc:chk R.toList U s0=true) (hQ:∀m a w,RelM C (vw R U s0 (fun _=>true) R.size) m a w->Q .normal a w) :
    ∀(fuel:Nat)(listed:Array Bool),listed.size=R.size->JG R (fun i=>listed.getD i false) ->
      ((List.range R.size).filter fun i=>!listed.getD i false).length<=fuel ->
      ∀m a w,RelM C (vw R U s0 (fun i=>listed.getD i false) R.size) m a w->wpAnyIn (Fw C.ro) n P .any R Q fuel listed a w:=by
  simp only[chk,ahj,ahs,aio]at hc;obtain⟨eL,pK⟩:=hc;have hU:∀i,i<R.size->∃o u,R[i]?=some o/\U[i]?=some u:=fun i hi=>⟨R[i],U[i],by simp[hi],by simp⟩
  have Fz:∀i j o1 u1 o2 u2,R[i]?=some o1->U[i]?=some u1->R[j]?=some o2->U[j]?=some u2->i<j ->
      (jY o1 u1 o2 u2=true->((jy R.toList []).getD j 0).testBit i=true)/\lg (u2.wr.filter fun k=>!u2.rd.contains k) (u1.nm++u1.wr)=false:=by
    intro i j o1 u1 o2 u2 h1 h2 h3 h4 hlt;have:=DN R.toList U 0 eL j o2 u2 (by simpa using h3) h4;simp only[aeg]at this;have:=K7 R.toList U 0 this.1 i o1 u1 (by simpa using h1) h2 oz;simpa using this
  have acd:∀j o,R[j]?=some o->∀e∈o.after.toList,Region.binds .any e=true->e.on<j:=by
    intro j o h
    have hj:j<R.size:=by
      rcases ahq j R.size with hh |hh
      · exact hh
      · simp[agw hh]at h
    obtain⟨o',u,h1,h2⟩:=hU j hj;rw[h]at h1;cases h1
    have:=(DN R.toList U 0 eL j o u (by simpa using h) h2).2;simpa using this
  have Ot:∀(listed:Array Bool),listed.size=R.size->Region.ready .any R listed=[]->∀i,i<R.size->listed.getD i false=true:=by
    intro listed aN hr i
    induction i using Nat.strongRecOn with
    |_ i ih =>
      intro hi;cases hl:listed.getD i false with
      |true=>rfl
      |false =>
        exfalso
        have:i∈Region.ready .any R listed:=by
          simp only[Region.ready,ae3,afu];refine⟨hi,?_⟩
          have e1:listed.getD i true=false:=by
            simp only[ahp]at hl ⊢;rw[ag7 oz]at hl ⊢;exact hl
          simp only[e1,Bool.not_false,agu];rw[ag7 hi];simp only[ahd,ahe,ag8,aio,agt];intro e he;cases hb:Region.binds .any e with
          |false=>exact .inl rfl
          |true =>
            have:=acd i R[i] (by simp[hi]) e (by simpa using he) hb;exact .inr (ih e.on this oz)
        rw[hr]at this;cases this
  have jF:∀(listed:Array Bool),listed.size=R.size->Region.ready .any R listed=[]->∀m a w,
      RelM C (vw R U s0 (fun i=>listed.getD i false) R.size) m a w->Q .normal a w:=by
    intro listed aN hr m a w h;refine hQ m a w (h.congr (fun t=>Df _ (fun j o hj _ _=>Ot listed aN hr j hj)) (fun k=>Bt _ (fun j u hj _ _=>Ot listed aN hr j hj)))
  intro fuel
  induction fuel with
  |zero =>
    intro listed aN fJ hf m a w h
    have Ou:Region.ready .any R listed=[]:=by
      cases hr:Region.ready .any R listed with
      |nil=>rfl
      |cons i l =>
        exfalso;have hi:i∈Region.ready .any R listed:=by rw[hr];exact aig
        simp only[Region.ready,ae3,afu,ahj,agt]at hi
        have:listed.getD i false=false:=by
          have h1:=hi.2.1;simp only[ahp]at h1 ⊢;rw[ag7 oz]at h1 ⊢;exact h1
        have ace:i∈(List.range R.size).filter fun i=>!listed.getD i false:=by simp[ae3,hi.1];simpa using this
        have:=List.length_pos_of_mem ace;omega
    exact⟨Ou,jF listed aN Ou m a w h⟩
  |succ fuel ih =>
    intro listed aN fJ hf m a w h;refine⟨fun hr=>jF listed aN hr m a w h,?_⟩;intro i hi;simp only[Region.ready,ae3,afu,ahj,agt]at hi;obtain⟨Ov,nY,FA⟩:=hi
    have nY:listed.getD i false=false:=by
      simp only[ahp]at nY ⊢;rw[ag7 oz]at nY ⊢;exact nY
    obtain⟨o,u,ho,hu⟩:=hU i Ov;rw[ho]at FA;simp only[ahd,ahe,ag8,aio,agt]at FA
    have Ow:∀e∈o.after.toList,Region.binds .any e=true->listed.getD e.on false=true:=by
      intro e he hb;rcases FA e (by simpa using he)with h |h
      · rw[hb]at h;cases h
      · exact h
    have Ox:∀j oj uj,R[j]?=some oj->U[j]?=some uj->j<i->jY oj uj o u=true->listed.getD j false=true:=by
      intro j oj uj h1 h2 hlt hw;exact GD fJ i o ho Ow j ((Fz j i oj uj o u h1 h2 ho hu hlt).1 hw)
    have uk:∀j oj uj,R[j]?=some oj->U[j]?=some uj->i<j->jY o u oj uj=true->listed.getD j false=false:=by
      intro j oj uj h1 h2 hlt hw;cases hl:listed.getD j false with
      |false=>rfl
      |true =>
        have:=GD fJ j oj h1 (fJ j oj h1 hl) i ((Fz i j o u oj uj ho hu h1 h2 hlt).1 hw);rw[nY]at this;cases this
    have FB:∀(j:Nat) oj,R[j]?=some oj->∃uj,U[j]?=some uj:=by
      intro j oj h
      have hj:j<R.size:=by
        rcases ahq j R.size with hh |hh
        · exact hh
        · simp[agw hh]at h
      obtain⟨_,uj,_,h2⟩:=hU j hj;exact⟨uj,h2⟩
    have AN:∀(j:Nat) uj,U[j]?=some uj->∃oj,R[j]?=some oj:=by
      intro j uj h
      have hj:j<R.size:=by
        rcases ahq j R.size with hh |hh
        · exact hh
        · rw[aht oz]at h;cases h
      obtain⟨oj,_,h1,_⟩:=hU j hj;exact⟨oj,h1⟩
    have cD:∀t,t∈u.rt->(vw R U s0 (fun i=>listed.getD i false) R.size).get t=(vw R U s0 (fun _=>true) i).get t:=by
      intro t ht;rw[KZ (i:=i) R.size oz]
      · refine Df i (fun j oj hj ez hd=>?_)
        obtain⟨uj,dF⟩:=FB j oj ez;exact Ox j oj uj ez dF hj (by simp[jY,yR,hd,ht])
      · intro j oj hj ez hd
        obtain⟨uj,dF⟩:=FB j oj ez;rcases ahq i j with hlt |hge
        · exact uk j oj uj ez dF hlt (by simp[jY,yR,hd,ht])
        · rw[show j=i by omega];exact nY
    have mP:∀k,k∈u.rd->(vw R U s0 (fun i=>listed.getD i false) R.size).blk k=(vw R U s0 (fun _=>true) i).blk k:=by
      intro k hk;rw[HX (i:=i) R.size oz]
      · refine Bt i (fun j uj hj dF hd=>?_)
        obtain⟨oj,ez⟩:=AN j uj dF;exact Ox j oj uj ez dF hj (by simp[jY,vX hd hk])
      · intro j uj hj dF hd
        obtain⟨oj,ez⟩:=AN j uj dF;rcases ahq i j with hlt |hge
        · exact uk j oj uj ez dF hlt (by simp[jY,vX hd hk])
        · rw[show j=i by omega];exact nY
    have bj:jx (vw R U s0 (fun i=>listed.getD i false) R.size) u:=by
      intro k hk
      by_cases xa:k∈u.rd
      · exact .inl xa
      refine .inr ?_
      have hfr:s0.Fresh k:=by
        rcases pK u (ahg hu) k hk with h |h
        · exact aiz (by simpa using h) xa
        · exact AS.fresh_of h
      have aT:k∈u.wr.filter fun k=>!u.rd.contains k:=by simp[ae3,xa];simpa[Out.wr]using hk
      have iu:∀j uj,listed.getD j false=true->U[j]?=some uj->k∉uj.nm/\k∉uj.wr:=by
        intro j uj hl dF;obtain⟨oj,ez⟩:=AN j uj dF;rcases Nat.lt_trichotomy j i with hlt |heq |hgt
        · have hm:=Sk (Fz j i oj uj o u ez dF ho hu hlt).2 aT
          exact⟨fun h=>hm (ahn.2 (.inl h)),fun h=>hm (ahn.2 (.inr h))⟩
        · subst heq;rw[nY]at hl;cases hl
        · refine⟨fun hn=>?_,fun ul=>?_⟩
          · have := uk j oj uj ez dF hgt (by simp only [jY, vX aT hn, Bool.or_true])
            rw[hl]at this;cases this
          · have := uk j oj uj ez dF hgt (by simp [jY, vX (by simpa [Out.wr] using hk : k ∈ u.wr) ul])
            rw[hl]at this;cases this
      refine⟨?_,hfr.2.1,?_,?_⟩
      · cases hb:(vw R U s0 (fun i=>listed.getD i false) R.size).blk k with
        |none=>exact hb
        |some x =>
          rcases G4 _ hb with h |⟨j,uj,hl,dF,ul,_⟩
          · rw[AS.blk,hfr.1]at h;cases h
          · exact aiz ul (iu j uj hl dF).2
      · intro t x hx hn
        rcases SP _ hx with h |⟨j,uj,hl,dF,hv⟩
        · exact hfr.2.2.1 t x h hn
        · exact(iu j uj hl dF).1 (Wi hv hn)
      · intro k' x hx hn
        rcases G4 _ hx with h |⟨j,uj,hl,dF,_,hv⟩
        · exact hfr.2.2.2 k' x h hn
        · exact(iu j uj hl dF).1 (Rm hv hn)
    unfold wpOpIn;simp only[ho];have acf:nd o=true:=ahs.1 b7 o (by simpa using Array.mem_of_getElem? ho)
    suffices hs:(if Region.wanted o (yielded R a.tmps)then wq P o a w (wpAnyIn (Fw C.ro) n P .any R Q _ (listed.setIfInBounds i true)) Q else wpAnyIn (Fw C.ro) n P .any R Q _ (listed.setIfInBounds i true) (a.put o.dst undef) w) by
      split
      · rename_i hw;rw[ait hw]at hs;exact Ln acf hs
      · rename_i hw;rw[ais hw]at hs;exact⟨fun _ _=>trivial,hs⟩
    refine(cg i o u ho hu).run _ ⟨cD,mP⟩ bj C m a w Q _ hN h ?_;intro m' a' w' h'
    have hL:∀j,(listed.setIfInBounds i true).getD j false=if j=i then true else listed.getD j false:=by
      intro j;simp only[ahp,aha]
      by_cases hj:j=i
      · subst hj
        rw[ait rfl,ait rfl,ait oz];rfl
      · rw[ais oz,ais hj]
    refine ih (listed.setIfInBounds i true) (by simpa using aN) ?_ ?_ m' a' w' ?_
    · intro j oj ez hl e he hb
      simp only[hL]at hl ⊢
      by_cases Oy:e.on=i
      · simp[Oy]
      · rw[ais Oy]
        by_cases hj:j=i
        · subst hj;rw[ho]at ez;cases ez;exact Ow e he hb
        · rw[ais hj]at hl;exact fJ j oj ez hl e he hb
    · have e1:((List.range R.size).filter fun j=>!(listed.setIfInBounds i true).getD j false) =
          ((List.range R.size).filter fun j=>!listed.getD j false).filter fun j=>!decide (j=i):=by
        rw[List.filter_filter];refine List.filter_congr (fun j _=>?_);rw[hL]
        by_cases hj:j=i <;> simp[hj]
      have e2:(((List.range R.size).filter fun j=>!listed.getD j false).filter fun j=>!decide (j=i)).length<((List.range R.size).filter fun j=>!listed.getD j false).length:=by
        rw[List.length_filter_lt_length_iff_exists];exact⟨i,by simp[ae3,Ov];simpa using nY,by simp⟩
      rw[e1];omega
    · refine h'.congr (fun t=>?_) (fun k=>?_)
      · rw[gH]
        by_cases hd:o.dst=some t
        · rw[ait hd]
          rw[KZ (i:=i+1) R.size oz]
          · simp only[vw,hL,if_true,ho,hu,gH,hd]
          · intro j oj hj ez ry
            rw[hL,ais oz];obtain⟨uj,dF⟩:=FB j oj ez;exact uk j oj uj ez dF oz (by simp[jY,hd,ry])
        · rw[ais hd]
          refine Df _ (fun j oj hj ez ry=>?_);rw[hL,ais];rintro rfl;rw[ho]at ez;cases ez;exact hd ry
      · rw[ug]
        by_cases hd:k∈u.wr
        · rw[ait hd]
          rw[HX (i:=i+1) R.size oz]
          · simp only[vw,hL,if_true,ho,hu,ug,hd]
          · intro j uj hj dF ry
            rw[hL,ais oz];obtain⟨oj,ez⟩:=AN j uj dF;exact uk j oj uj ez dF oz (by simp[jY,vX hd ry])
        · rw[ais hd]
          refine Bt _ (fun j uj hj dF ry=>?_);rw[hL,ais];rintro rfl;rw[hu]at dF;cases dF;exact hd ry
end
inductive TK where
  |bool |int (k:IntKind) |string |slice (e:Nat) |array (n e:Nat) |struct |iface (n:Nat) |pointer (e:Nat) |other
  deriving Inhabited
structure TI where
  size:Nat
  bytes:Nat
  zero:List ai3
  k:TK
  fs:List (Nat×Nat)
  deriving Inhabited
def TI.ag(t:TI):Bool:=match t.k with | .struct | .array _ _=>true |_=>false
def gL:TypeDesc->TK
  | .bool=>.bool
  | .int k=>.int k
  | .string=>.string
  | .slice e=>.slice e
  | .array n e=>.array n e
  | .struct _=>.struct
  | .interface ms=>.iface ms.size
  | .pointer e=>.pointer e
  |_=>.other
def sR(P:ai5):TypeDesc->List (Nat×Nat)
  | .struct fs=>fs.toList.map fun f=>(f.offset,match P.info? f.type with |some j=>j.size |none=>0)
  |_=>[]
def aq(P:ai5)(t:ai4):Option TI :=
  match P.info? t,P.underlying t with
  |some i,some d=>match i.zero with
    |some z=>some ⟨i.size,i.bytes,z.cells.toList,gL d,sR P d⟩
    |none=>none
  |_,_=>none
theorem wd{P:ai5}{t:ai4}{ti:TI}(h:aq P t=some ti) :
  ∃i d z,P.info? t=some i/\P.underlying t=some d/\i.zero=some z/\ti=⟨i.size,i.bytes,z.cells.toList,gL d,sR P d⟩:=by
 unfold aq at h;split at h
 ·rename_i i d h1 h2;split at h
  ·rename_i z h3;cases h;exact⟨i,d,z,h1,h2,h3,rfl⟩
  ·cases h
 ·cases h
theorem eM{P:ai5}{t:ai4}{ti:TI}(h:aq P t=some ti)(w:ai6):(sizeOf t).run P w=.ok ti.size w:=by
 obtain⟨i,d,z,h1,h2,h3,rfl⟩:=wd h;simp[sizeOf,typeInfo,h1]
theorem LZ{P:ai5}{t:ai4}{ti:TI}(h:aq P t=some ti)(w:ai6):∃i,(typeInfo t).run P w=.ok i w/\i.bytes=ti.bytes/\i.size=ti.size:=by
 obtain⟨i,d,z,h1,h2,h3,rfl⟩:=wd h;exact⟨i,by simp[typeInfo,h1],rfl,rfl⟩
theorem vV{P:ai5}{t:ai4}{ti:TI}(h:aq P t=some ti)(w:ai6):∃z,(zeroValue t).run P w=.ok z w/\z.cells.toList=ti.zero:=by
 obtain⟨i,d,z,h1,h2,h3,rfl⟩:=wd h;exact⟨z,by simp[zeroValue,typeInfo,h1,h3],rfl⟩
theorem cM{P:ai5}{t:ai4}{ti:TI}(h:aq P t=some ti)(w:ai6):∃d,(underlying t).run P w=.ok d w/\gL d=ti.k/\sR P d=ti.fs/\P.underlying t=some d:=by
 obtain⟨i,d,z,h1,h2,h3,rfl⟩:=wd h;exact⟨d,by simp[underlying,h2],rfl,rfl,h2⟩
theorem gI{d:TypeDesc}{e:Nat}(h:gL d=.slice e):d=.slice e:=by cases d <;> simp_all [gL]
theorem IY{d:TypeDesc}(h:gL d=.string):d=.string:=by cases d <;> simp_all [gL]
theorem H8{d:TypeDesc}(h:gL d=.bool):d=.bool:=by cases d <;> simp_all [gL]
theorem NL{d:TypeDesc}{k:IntKind}(h:gL d=.int k):d=.int k:=by cases d <;> simp_all [gL]
theorem TU{d:TypeDesc}{n e:Nat}(h:gL d=.array n e):d=.array n e:=by cases d <;> simp_all [gL]
theorem G6{d:TypeDesc}(h:gL d=.struct):∃fs,d=.struct fs:=by cases d <;> simp_all [gL]
theorem Hn{d:TypeDesc}{n:Nat}(h:gL d=.iface n):∃ms,d=.interface ms/\ms.size=n:=by cases d <;> simp_all [gL]
theorem Q8{P:ai5}{t:ai4}{ti:TI}(h:aq P t=some ti)(w:ai6):(isAgg t).run P w=.ok ti.ag w:=by
 obtain⟨d,h1,h2,-,-⟩:=cM h w;simp only[isAgg,ai8,h1,ai7,TI.ag,<- h2];cases d <;> rfl
theorem iX(b off n:Nat):(⟨b,off,none⟩:Addr).add n=⟨b,off+n,none⟩:=by
 unfold Addr.add;split
 ·subst_vars;rfl
 ·rfl
theorem qt{w:ai6}{b off:Nat}{c:Array ai3}{t:ai4}{f:Nat×Nat}(hb:w.heap[b]?=some (.cells c t f)) :
  w.cell? ⟨b,off,none⟩=c[off]? := by
 simp[World.cell?,hb]
theorem Aa{P:ai5}{w:ai6}{T:ai4}{ti:TI}{b off:Nat}{c:Array ai3}{t:ai4}{f:Nat×Nat}
  (hT:aq P T=some ti) (hb:w.heap[b]?=some (.cells c t f)) (bA:off+ti.size<=c.size) (h1:ti.ag=true\/ti.size=1) :
  (loadVar T ⟨b,off,none⟩).run P w=.ok (if ti.ag then .agg (c.extract off (off+ti.size))else c.getD off undef) w:=by
 simp only[loadVar,ai8,Q8 hT,ai7];cases ha:ti.ag with
 |true =>
  simp only[if_true];have hl:(c.extract off (off+ti.size)).toList.length=ti.size:=by simp;omega
  have:=run_loadCells_list (P:=P) w ⟨b,off,none⟩ (c.extract off (off+ti.size)).toList (by
   intro j v hj;rw[iX,qt hb];simp only[ag9,ag1]at hj;split at hj
   ·exact hj
   ·cases hj)
  rw[hl]at this;simp only[ai8,eM hT,ai7,this,ai9,Array.toArray_toList]
 |false =>
  rcases h1 with h1 |h1
  ·rw[ha]at h1;cases h1
  ·simp only [agv, if_false, run_load, qt hb];have:off < c.size:=by omega
   simp[this,ahp]
def j8(ag:Bool)(l:List AV):AV:=match ag with
  |true=>.agg l
  |false=>match l with |x::_=>x |[]=>default
theorem yw{g:Nat->Array ai3->Prop}{S:Nat->Nat->Prop}{m:Nat->Option Nat}{c:Array ai3}{off n:Nat}{ag:Bool}{xs:List AV}
  (hn:xs.length=n) (bA:off+n<=c.size) (h1:ag=true\/n=1) (ho:∀(j:Nat)(x:AV),xs[j]?=some x->x.one=true)
  (hr:∀(j:Nat)(u:ai3)(x:AV),xs[j]?=some x->c[off+j]?=some u->Rep g S m u x) :
  Rep g S m (if ag then .agg (c.extract off (off+n))else c.getD off undef) (j8 ag xs):=by
 cases ag with
 |true =>
  simp only[if_true,j8];refine .agg (by simp;omega) ho ?_;intro j u x hu hx;simp only[ag1]at hu;split at hu
  ·exact hr j u x hx hu
  ·cases hu
 |false =>
  rcases h1 with h1 |h1
  ·cases h1
  ·subst h1
   match xs,hn with
   |[x],_ =>
    simp only[agv,if_false,j8];have:off<c.size:=by omega
    refine hr 0 _ x rfl ?_;simp[this,ahp]
def ba(P:ai5)(N:Nat)(c:Code)(Q:Exit->AS->Prop)(s:AS):Prop :=
  ∀C m a w n,C.nt=N->RelM C s m a w->c.wpIn (Fw C.ro) n P (fun e a' w'=>∃s' m',Q e s'/\RelM C s' m' a' w') a w
def kz(P:ai5)(N:Nat)(c:Code)(Q:Exit->AS->Prop)(s:AS):Prop :=
  ∀C m a w n,C.ro=none->C.nt=N->RelM C s m a w->c.wpIn (Fw C.ro) n P (fun e a' w'=>∃s' m',Q e s'/\RelM C s' m' a' w') a w
theorem ba.out{P:ai5}{N:Nat}{c:Code}{Q:Exit->AS->Prop}{s:AS}(h:ba P N c Q s):kz P N c Q s:=fun C m a w n _=>h C m a w n
def Wk(s s':AS):Prop:=∀C m a w,RelM C s m a w->∃m',RelM C s' m' a w
theorem Wk.refl(s:AS):Wk s s:=fun _ m _ _ h=>⟨m,h⟩
theorem Wk.trans{s s' s'':AS}(h:Wk s s')(h':Wk s' s''):Wk s s'':=fun C m a w hr=>by
 obtain⟨m',hr'⟩:=h C m a w hr;exact h' C m' a w hr'
variable{P:ai5}{N:Nat}{Q:Exit->AS->Prop}{s:AS}
theorem q5{c:Code}{s':AS}(hw:Wk s s')(h:ba P N c Q s'):ba P N c Q s:=by
 intro C m a w n hN hr;obtain⟨m',hr'⟩:=hw C m a w hr;exact h C m' a w n hN hr'
theorem jb{c:Code}{Q':Exit->AS->Prop}(h:ba P N c Q s)(hq:∀e s,Q e s->Q' e s):ba P N c Q' s :=
 fun C m a w n hN hr=>wpIn_mono (h C m a w n hN hr) fun e _ _ ⟨s',m',hQ,hr'⟩=>⟨s',m',hq e s' hQ,hr'⟩
theorem Qu{c:Code}{p:Prop}(hp:∀C m a w,RelM C s m a w->p)(h:p->ba P N c Q s):ba P N c Q s :=
 fun C m a w n hN hr=>h (hp C m a w hr) C m a w n hN hr
def KP(K:AS->Prop)(Q:Exit->AS->Prop):Exit->AS->Prop
  | .normal,s=>K s
  |e,s=>Q e s
theorem Mc{x y:Code}(h:∀K:AS->Prop,(∀s,ba P N y Q s->K s)->ba P N x (KP K Q) s):ba P N (.seq x y) Q s:=by
 intro C m a w n hN hr;refine wpIn_seq (wpIn_mono (h (ba P N y Q) (fun _ h=>h) C m a w n hN hr) ?_);rintro e a' w' ⟨s',m',hq,hr'⟩;cases e with
 |normal=>exact hq C m' a' w' n hN hr'
 |_=>exact⟨s',m',hq,hr'⟩
theorem LE(h:Q .normal s):ba P N .skip Q s:=fun _ m _ _ _ _ hr=>wpIn_skip ⟨s,m,h,hr⟩
theorem GA(h:Q .ret s):ba P N .ret Q s:=fun _ m _ _ _ _ hr=>wpIn_ret ⟨s,m,h,hr⟩
theorem K9{id:Nat}(h:Q (.exit id) s):ba P N (.exit id) Q s:=fun _ m _ _ _ _ hr=>wpIn_exit ⟨s,m,h,hr⟩
def yq(id:Nat)(K:AS->Prop)(Q:Exit->AS->Prop):Exit->AS->Prop
  | .exit id',s=>match ad9 id' id with |true=>K s |false=>Q (.exit id') s
  | .normal,s=>K s
  |e,s=>Q e s
theorem Nn{id:Nat}{c:Code}(h:ba P N c (yq id (Q .normal) Q) s):ba P N (.block id c) Q s:=by
 intro C m a w n hN hr;refine wpIn_block (wpIn_mono (h C m a w n hN hr) ?_);rintro e a' w' ⟨s',m',hq,hr'⟩;cases e with
 |exit id' =>
  simp only[Exit.inBlock];simp only[yq]at hq;split at hq
  ·rename_i hb;rw[ait (ahi hb)];exact⟨s',m',hq,hr'⟩
  ·rename_i hb;rw[ais (ad3 hb)];exact⟨s',m',hq,hr'⟩
 |_=>exact⟨s',m',hq,hr'⟩
inductive Ev(s:AS):ai2->AV->Prop
  |tmp {t:Nat} {x:AV} (h:s.get t=some x):Ev s (.tmp t) x
  |opt {t:Nat} {b:Bool} {x:AV} (h:s.get t=some (.opt b x)) (hb:b=true):Ev s (.tmp t) x
  |const (c:ai3):Ev s (.const c) (.v c)
  |func (f:FuncId):Ev s (.func f) (.v (.func (.func f) #[] #[]))
theorem Ev.rep{C:Ctx}{m:Nat->Option Nat}{a:Act}{w:ai6}(hr:RelM C s m a w){o:ai2}{x:AV}(h:Ev s o x) :
  Rep (Im C.ext s.hp m w) (Sz w) m (a.eval o) x:=by
 cases h with
 |tmp h=>exact(hr.slots _ _ h).2
 | @opt t _ _ h hb =>
  have h2:=(hr.slots _ _ h).2;show Rep _ _ m (a.tmps.getD t undef) x;generalize a.tmps.getD t undef=u at h2;cases h2 with |opt h' _=>exact h' hb
 |const c=>exact .v _
 |func f=>exact .v _
theorem yO{c:ai2}{x y:Code}{b:Bool}(hc:Ev s c (.v (.bool b)))(ht:b=true->ba P N x Q s)(hf:b=false->ba P N y Q s) :
  ba P N (.cond c x y) Q s:=by
 intro C m a w n hN hr;have h:=hc.rep hr
 have:a.eval c=.bool b:=by
  generalize a.eval c=v at h;cases h;rfl
 exact wpIn_cond_split this (fun hb=>ht hb C m a w n hN hr) (fun hb=>hf hb C m a w n hN hr)
theorem VF{F:Fence}{n9:Nat}{c:Code}{Q:Exit->Act->ai6->Prop}{a:Act}{w:ai6}(I:Nat->Act->ai6->Prop){n:Nat}(h₀:I n a w)
  (round:∀n a w,I n a w->c.wpIn F n9 P (Exit.then (fun a' w'=>∃n',n'<n/\I n' a' w') Q) a w):(Code.loop c).wpIn F n9 P Q a w:=by
 intro b k cs kN hb hr
 have key:∀n a w,I n a w->∃e a' w',Q e a' w'/\ArrivesIn (Machine.fenced P F) P (lone (b.atR a (.code c :: .inLoop c::k)) cs w) b k cs e a' w':=by
  intro n
  induction n using Nat.strongRecOn with
  |_ n ih =>
   intro a w hI;obtain⟨e,a₁,w₁,hq,AO⟩:=round n a w hI b (.inLoop c::k) cs kN hb hr;cases e with
   |normal =>
    obtain⟨n',hlt,hI₁⟩:=hq;obtain⟨e₂,a₂,w₂,hq₂,harr₂⟩:=ih n' hlt a₁ w₁ hI₁;exact⟨e₂,a₂,w₂,hq₂,.of_steps (StepsIn.trans AO (.one (fenced_calm hb hr rfl) stepR_inLoop)) harr₂⟩
   |_=>exact⟨_,a₁,w₁,hq,.pass (x:=.inLoop c) rfl (fun _ _=>.inl (by simp)) AO⟩
 obtain⟨e,a',w',hq,AO⟩:=key n a w h₀;exact⟨e,a',w',hq,.of_steps (.one (fenced_calm hb hr rfl) stepR_loop) AO⟩
theorem ui{c:Code}(I:Nat->AS->Prop){n:Nat}{s':AS}(hw:Wk s s')(h₀:I n s')
  (round:∀n s,I n s->∀K:AS->Prop,(∀s1 s2 n',Wk s1 s2->I n' s2->n'<n->K s1)->ba P N c (KP K Q) s):ba P N (.loop c) Q s:=by
 intro C m a w n9 hN hr;obtain⟨m1,aP⟩:=hw C m a w hr;refine VF (fun n a w=>∃s m,I n s/\RelM C s m a w) ⟨s',m1,h₀,aP⟩ ?_;rintro n a w ⟨s,m,hI,hr⟩;refine wpIn_mono (round n s hI (fun s1=>∃s2 n',Wk s1 s2/\I n' s2/\n'<n) (fun s1 s2 n' h1 h2 h3=>⟨s2,n',h1,h2,h3⟩) C m a w n9 hN hr) ?_;rintro e a' w' ⟨s1,m1,hq,aP⟩;cases e with
 |normal =>
  obtain⟨s2,n',h1,h2,h3⟩:=hq;obtain⟨m2,ef⟩:=h1 C m1 a' w' aP;exact⟨n',h3,s2,m2,h2,ef⟩
 |_=>exact⟨s1,m1,hq,aP⟩
theorem Rk{id:Nat}{ops:List Oper}(hd:ops.all nd=true)(h:gE P N ops.toArray ops s [] (fun s' _=>Q .normal s')):ba P N (.region id ops.toArray false) Q s:=by
 intro C m a w n hN hr;refine wpIn_region ?_;have:=Vo (C:=C) (n:=n) hN (Q:=fun e a' w'=>∃s' m',Q e s'/\RelM C s' m' a' w') (fun s us m a w hq hr=>⟨s,m,hq,hr⟩) ops 0 s [] m a w (by simp) hd h hr;rw[List.range_eq_range'];simpa using this
theorem TJ{R:Array Oper}{K:AS->List Out->Prop}:∀(ops:List Oper)(s:AS)(us:List Out),gE P N R ops s us K ->
  ∃us',us'.length=ops.length/\K (vw ops.toArray us' s (fun _=>true) ops.length) (us++us') /\
   ∀(i:Nat) o u,ops[i]?=some o->us'[i]?=some u->Step P N R (vw ops.toArray us' s (fun _=>true) i) o u:=by
 intro ops
 induction ops with
 |nil=>intro s us h;exact⟨[],rfl,by simpa[vw,gE]using h,by simp⟩
 |cons o ops ih =>
  intro s us h;obtain⟨u,hs,hn,h⟩:=h;obtain⟨us',h1,h2,h3⟩:=ih _ _ h
  have hv:∀i,vw (o::ops).toArray (u::us') s (fun _=>true) (i+1)=vw ops.toArray us' (s.app o.dst u) (fun _=>true) i:=by
   intro i
   induction i with
   |zero=>simp[vw]
   |succ i ih =>
    rw[vw,ih,vw];simp
  refine⟨u::us',by simp[h1],?_,?_⟩
  ·rw[ahx,hv];simpa using h2
  ·intro i o' u' ho hu;cases i with
   |zero=>simp at ho hu;subst ho;subst hu;simpa[vw]using hs
   |succ i =>
    rw[hv];exact h3 i o' u' (by simpa using ho) (by simpa using hu)
theorem Wx{id:Nat}{ops:List Oper}(hd:ops.all nd=true)(hm:P.follows .mixedOrders=true)
  (h:gE P N ops.toArray ops s [] (fun s' us=>chk ops us s=true/\Q .normal s')):ba P N (.region id ops.toArray true) Q s:=by
 intro C m a w n hN hr;obtain⟨us,h1,⟨h2,h3⟩,h4⟩:=TJ ops s [] h;refine wpIn_region_any hm ?_;refine Tj (C:=C) (by simpa using hd) hN (U:=us) (s0:=s) (by simpa using h1) (by simpa using h4) (by simpa using h2) ?_ _ _ (by simp) ?_ ?_ m a _ ?_
 ·intro m a w hr;exact⟨_,m,h3,by simpa using hr⟩
 ·intro i o _ hl;simp only[ahp,ag6]at hl;split at hl <;> simp at hl
 ·exact ah8 (List.length_filter_le _ _) (by simp)
 ·have hz:∀n,vw ops.toArray us s (fun i=>(ag3 ops.toArray.size false).getD i false) n=s:=by
   intro n
   induction n with
   |zero=>rfl
   |succ n ih =>
    rw[vw,ih]
    have:(ag3 ops.toArray.size false).getD n false=false:=by
     simp only[ahp,ag6];split <;> rfl
    rw[this]
  rw[hz];exact hr.drawn _
end Go.Lw
namespace Go.Lw
variable{P:ai5}{N:Nat}{R:Array Oper}{s:AS}{pos:String}{after:Array Edge}
theorem ar{o:Oper}{ops:List Oper}{us:List Out}{K:AS->List Out->Prop}{u:Out}(hs:Step P N R s o u)(hn:jx s u)
  (h:gE P N R ops (s.app o.dst u) (us++[u]) K):gE P N R (o::ops) s us K:=⟨u,hs,hn,h⟩
def ai:ai2->List Nat
  | .tmp t=>[t]
  |_=>[]
theorem Ev.agree{s':AS}{u:Out}(h:gg s s' u){o:ai2}{x:AV}(he:Ev s o x)(hs:∀t∈ai o,t∈u.rt):Ev s' o x:=by
 cases he with
 |tmp ht=>exact .tmp ((h.1 _ (hs _ (by simp[ai]))).trans ht)
 |opt ht hb=>exact .opt ((h.1 _ (hs _ (by simp[ai]))).trans ht) hb
 |const c=>exact .const c
 |func f=>exact .func f
theorem mY{o:Oper}(hg:o.guard=none)(y:Nat->Option Bool):Region.wanted o y=true:=by simp[Region.wanted,hg]
theorem cA{o:Oper}{d:Nat}{x:AV}{rt rd:List Nat}(hg:o.guard=none)(hd:o.dst=some d)(hN:aem d N=true)
  (h:∀s',gg s s' ⟨some x,[],rt,rd⟩->∀C m a w,RelM C s' m a w ->
   ∃v,(execOp a.eval o).run P w=.ok (.value v) w/\Rep (Im C.ext s'.hp m w) (Sz w) m v x):Step P N R s o ⟨some x,[],rt,rd⟩:=by
 refine⟨fun s' am _ C m a w Q next hC hr hnext=>?_⟩;rw[ait (mY hg _)];refine uD ?_;obtain⟨v,h1,h2⟩:=h s' am C m a w hr;rw[adx]at hN;unfold Oper.wp;rw[h1];simp only[Oper.upon,hd,Act.put];refine hnext m _ _ ?_;have:=hr.put d v (some x) (fun y hy=>by cases hy;exact⟨by have:=hr.nt;omega,h2⟩);simpa[AS.app,hd]using this
theorem SK{d:Nat}{x:ai2}{v:AV}{t:ai4}(he:Ev s x v)(hN:aem d N=true) :
  Step P N R s ⟨some d,.move x,t,pos,after,none⟩ ⟨some v,[],ai x,[]⟩ :=
 cA rfl rfl hN fun s' am C m a w hr=>⟨a.eval x,rfl,(he.agree am (fun _ h=>h)).rep hr⟩
theorem Ta{d:Nat}{x:ai2}{v:AV}{t:ai4}(he:Ev s x v)(hN:aem d N=true) :
  Step P N R s ⟨some d,.assign x,t,pos,after,none⟩ ⟨some v,[],ai x,[]⟩ :=
 cA rfl rfl hN fun s' am C m a w hr=>⟨a.eval x,rfl,(he.agree am (fun _ h=>h)).rep hr⟩
def Sub(x y:AV):Prop:=∀g S m v,Rep g S m v x->Rep g S m v y
theorem Sub.nil(sz:Nat)(a:Option Addr)(c:Nat):Sub (.v (.slice a 0 c)) (.lst sz []):=fun g S m v h=>by cases h;exact .lst0 a c sz
theorem tE{d:Nat}{op:Op}{x:ai2}{vx y:ai3}{t:ai4}(he:Ev s x (.v vx))(hN:aem d N=true)
  (h:∀(ρ:ai2->ai3)(w:ai6),ρ x=vx->(execOp ρ ⟨some d,op,t,pos,after,none⟩).run P w=.ok (.value y) w) :
  Step P N R s ⟨some d,op,t,pos,after,none⟩ ⟨some (.v y),[],ai x,[]⟩ :=
 cA rfl rfl hN fun s' am C m a w hr=>⟨y,h _ _ (by
  have:=(he.agree am (fun _ h=>h)).rep hr;generalize a.eval x=u at this;cases this;rfl),.v y⟩
theorem j9{d:Nat}{op:Op}{x x':ai2}{vx vx' y:ai3}{t:ai4}(he:Ev s x (.v vx))(he':Ev s x' (.v vx'))
  (hN:aem d N=true)
  (h:∀(ρ:ai2->ai3)(w:ai6),ρ x=vx->ρ x'=vx'->(execOp ρ ⟨some d,op,t,pos,after,none⟩).run P w=.ok (.value y) w) :
  Step P N R s ⟨some d,op,t,pos,after,none⟩ ⟨some (.v y),[],ai x++ai x',[]⟩ :=
 cA rfl rfl hN fun s' am C m a w hr=>⟨y,h _ _ (by
  have:=(he.agree am (fun _ h=>ahn.2 (.inl h))).rep hr;generalize a.eval x=u at this;cases this;rfl) (by
  have:=(he'.agree am (fun _ h=>ahn.2 (.inr h))).rep hr;generalize a.eval x'=u at this;cases this;rfl),.v y⟩
theorem QG{d:Nat}{x:ai2}{b:Bool}{T t:ai4}(he:Ev s x (.v (.bool b)))(hN:aem d N=true) :
  Step P N R s ⟨some d,.unOp .not T x,t,pos,after,none⟩ ⟨some (.v (.bool !b)),[],ai x,[]⟩ :=
 tE he hN fun ρ w h=>by simp[execOp,h,Op.unary]
theorem yr{d:Nat}{x:ai2}{k:IntKind}{n:Int}{T t:ai4}(he:Ev s x (.v (.int k n)))(hN:aem d N=true) :
  Step P N R s ⟨some d,.unOp .neg T x,t,pos,after,none⟩ ⟨some (.v (.int k (k.wrap (0-n)))),[],ai x,[]⟩ :=
 tE he hN fun ρ w h=>by simp[execOp,h,Op.unary,Op.intArith]
theorem Nf{d:Nat}{x:ai2}{k k':IntKind}{n:Int}{S T t:ai4}{ts ti:TI}(he:Ev s x (.v (.int k n)))
  (hN:aem d N=true) (hS:aq P S=some ts) (hT:aq P T=some ti) (hk:ti.k=.int k') :
  Step P N R s ⟨some d,.convert S T x,t,pos,after,none⟩ ⟨some (.v (.int k' (k'.wrap n))),[],ai x,[]⟩ :=
 tE he hN fun ρ w h=>by
  obtain⟨d1,h1,-,-,-⟩:=cM hS w;obtain⟨d2,h2,h3,-,-⟩:=cM hT w;obtain rfl:=NL (h3.trans hk);simp[execOp,h,convert,h1,h2,Conv.intToInt]
theorem UZ{d:Nat}{x:ai2}{v:ai3}{T t:ai4}{ti:TI}(he:Ev s x (.v v))(hN:aem d N=true)
  (hT:aq P T=some ti) (hk:(match ti.k with | .int _=>true | .struct=>true | .pointer _=>true | .string=>true |_=>false)=true) :
  Step P N R s ⟨some d,.makeInterface T x,t,pos,after,none⟩ ⟨some (.v (.iface T v)),[],ai x,[]⟩ :=
 tE he hN fun ρ w h=>by
  obtain⟨d2,h2,h3,-,-⟩:=cM hT w
  have:∀ms,d2≠.interface ms:=by
   rintro ms rfl;rw[<- h3]at hk;simp[gL]at hk
  simp only[execOp,h,Instr.makeInterface,ai8,h2,ai7];cases d2 <;> first |rfl |exact aiz rfl (this _)
def fu(op:BinOp)(a b:Int):Int:=match op with | .add=>a+b | .sub=>a-b |_=>a*b
theorem LW{d:Nat}{op:BinOp}{x y:ai2}{k:IntKind}{a b:Int}{S T t:ai4}
  (hx:Ev s x (.v (.int k a))) (hy:Ev s y (.v (.int k b))) (eh:(match op with | .add | .sub | .mul=>true |_=>false)=true) (hN:aem d N=true) :
  Step P N R s ⟨some d,.binOp op S x y T,t,pos,after,none⟩ ⟨some (.v (.int k (k.wrap (fu op a b)))),[],ai x++ai y,[]⟩ :=
 j9 hx hy hN fun ρ w h1 h2=>by
  cases op <;> simp at eh <;> simp[execOp,h1,h2,eqGuard,binOp,Op.intArith,fu]
def aa(op:BinOp)(a b:Int):Bool:=match op with
  | .eql=>a==b | .neq=>a != b | .lss=>a<b | .leq=>a<=b | .gtr=>a>b |_=>a>=b
theorem I9{d:Nat}{op:BinOp}{x y:ai2}{k:IntKind}{a b:Int}{S T t:ai4}
  (hx:Ev s x (.v (.int k a))) (hy:Ev s y (.v (.int k b))) (eh:(match op with | .eql | .neq | .lss | .leq | .gtr | .geq=>true |_=>false)=true) (hN:aem d N=true) :
  Step P N R s ⟨some d,.binOp op S x y T,t,pos,after,none⟩ ⟨some (.v (.bool (aa op a b))),[],ai x++ai y,[]⟩ :=
 j9 hx hy hN fun ρ w h1 h2=>by
  cases op <;> simp at eh <;> simp[execOp,h1,h2,eqGuard,binOp,Op.intCmp,aa]
theorem G8{d:Nat}{x y:ai2}{k:IntKind}{a b:Int}{S T t:ai4}
  (hx:Ev s x (.v (.int k a))) (hy:Ev s y (.v (.int k b))) (hb:b≠0) (hN:aem d N=true) :
  Step P N R s ⟨some d,.binOp .quo S x y T,t,pos,after,none⟩ ⟨some (.v (.int k (k.wrap (a.tdiv b)))),[],ai x++ai y,[]⟩ :=
 j9 hx hy hN fun ρ w h1 h2=>by simp[execOp,h1,h2,eqGuard,binOp,Op.intDiv,hb]
theorem Oi{d:Nat}{x y:ai2}{k:IntKind}{a b:Int}{S T t:ai4}
  (hx:Ev s x (.v (.int k a))) (hy:Ev s y (.v (.int k b))) (hb:b≠0) (hN:aem d N=true) :
  Step P N R s ⟨some d,.binOp .rem S x y T,t,pos,after,none⟩ ⟨some (.v (.int k (a.tmod b))),[],ai x++ai y,[]⟩ :=
 j9 hx hy hN fun ρ w h1 h2=>by simp[execOp,h1,h2,eqGuard,binOp,Op.intDiv,hb]
theorem GK{d:Nat}{x y:ai2}{k k':IntKind}{a b:Int}{S T t:ai4}
  (hx:Ev s x (.v (.int k a))) (hy:Ev s y (.v (.int k' b))) (hb:0<=b) (hN:aem d N=true) :
  Step P N R s ⟨some d,.binOp .shl S x y T,t,pos,after,none⟩ ⟨some (.v (.int k (k.wrap (a*2^(min b.toNat k.bits))))),[],ai x++ai y,[]⟩ :=
 j9 hx hy hN fun ρ w h1 h2=>by simp[execOp,h1,h2,eqGuard,binOp,Op.shift,Int.not_lt.2 hb]
theorem GC{d:Nat}{x y:ai2}{k k':IntKind}{a b:Int}{S T t:ai4}
  (hx:Ev s x (.v (.int k a))) (hy:Ev s y (.v (.int k' b))) (hb:0<=b) (hN:aem d N=true) :
  Step P N R s ⟨some d,.binOp .shr S x y T,t,pos,after,none⟩ ⟨some (.v (.int k (a.fdiv (2^(min b.toNat k.bits))))),[],ai x++ai y,[]⟩ :=
 j9 hx hy hN fun ρ w h1 h2=>by simp[execOp,h1,h2,eqGuard,binOp,Op.shift,Int.not_lt.2 hb]
def nG(op:BinOp)(k:IntKind)(a b:Int):Int :=
  let x:=BitVec.ofInt k.bits a
  let y:=BitVec.ofInt k.bits b
  k.wrap ((match op with | .and=>x &&& y | .or=>x ||| y | .xor=>x ^^^ y |_=>x &&& ~~~y).toNat:Int)
theorem MP{d:Nat}{op:BinOp}{x y:ai2}{k:IntKind}{a b:Int}{S T t:ai4}
  (hx:Ev s x (.v (.int k a))) (hy:Ev s y (.v (.int k b))) (eh:(match op with | .and | .or | .xor | .andNot=>true |_=>false)=true) (hN:aem d N=true) :
  Step P N R s ⟨some d,.binOp op S x y T,t,pos,after,none⟩ ⟨some (.v (.int k (nG op k a b))),[],ai x++ai y,[]⟩ :=
 j9 hx hy hN fun ρ w h1 h2=>by
  cases op <;> simp at eh <;> simp[execOp,h1,h2,eqGuard,binOp,Op.intBits,nG]
theorem KQ{d:Nat}{x y:ai2}{a b:ByteArray}{S T t:ai4}
  (hx:Ev s x (.v (.string a))) (hy:Ev s y (.v (.string b))) (hN:aem d N=true) :
  Step P N R s ⟨some d,.binOp .eql S x y T,t,pos,after,none⟩ ⟨some (.v (.bool (a.toList==b.toList))),[],ai x++ai y,[]⟩ :=
 j9 hx hy hN fun ρ w h1 h2=>by simp[execOp,h1,h2,eqGuard,binOp,Op.stringOp]
theorem Mf{d:Nat}{x y:ai2}{a b:ByteArray}{S T t:ai4}
  (hx:Ev s x (.v (.string a))) (hy:Ev s y (.v (.string b))) (hN:aem d N=true) :
  Step P N R s ⟨some d,.binOp .neq S x y T,t,pos,after,none⟩ ⟨some (.v (.bool !(a.toList==b.toList))),[],ai x++ai y,[]⟩ :=
 j9 hx hy hN fun ρ w h1 h2=>by simp[execOp,h1,h2,eqGuard,binOp,Op.stringOp]
theorem Ic{S:ai4}{w:ai6}(h3:(underlying S).run P w=.ok .bool w)(a b:Bool):(Op.equal S (.bool a) (.bool b)).run P w=.ok (a==b) w:=by
 show(Op.equalIn (9999+1) S _ _).run P w=_;rw[Op.equalIn];simp[h3]
theorem J6{S:ai4}{w:ai6}{ms:Array (String×ai4)}(h3:(underlying S).run P w=.ok (.interface ms) w){v:ai3}
  (hv:v=.nilIface\/∃T u,v=.iface T u):(Op.equal S v .nilIface).run P w=.ok (match v with | .nilIface=>true |_=>false) w:=by
 show(Op.equalIn (9999+1) S _ _).run P w=_;rw[Op.equalIn];rcases hv with rfl |⟨T',u,rfl⟩ <;> simp[h3]
theorem U5{d:Nat}{x y:ai2}{a b:Bool}{S T t:ai4}{ti:TI}
  (hx:Ev s x (.v (.bool a))) (hy:Ev s y (.v (.bool b))) (hS:aq P S=some ti) (hk:ti.k=.bool) (hN:aem d N=true) :
  Step P N R s ⟨some d,.binOp .eql S x y T,t,pos,after,none⟩ ⟨some (.v (.bool (a==b))),[],ai x++ai y,[]⟩ :=
 j9 hx hy hN fun ρ w h1 h2=>by
  obtain⟨d2,h3,h4,-,-⟩:=cM hS w;obtain rfl:=H8 (h4.trans hk);simp[execOp,h1,h2,eqGuard,binOp,Ic h3]
theorem RL{d:Nat}{x y:ai2}{a b:Bool}{S T t:ai4}{ti:TI}
  (hx:Ev s x (.v (.bool a))) (hy:Ev s y (.v (.bool b))) (hS:aq P S=some ti) (hk:ti.k=.bool) (hN:aem d N=true) :
  Step P N R s ⟨some d,.binOp .neq S x y T,t,pos,after,none⟩ ⟨some (.v (.bool (a != b))),[],ai x++ai y,[]⟩ :=
 j9 hx hy hN fun ρ w h1 h2=>by
  obtain⟨d2,h3,h4,-,-⟩:=cM hS w;obtain rfl:=H8 (h4.trans hk);simp[execOp,h1,h2,eqGuard,binOp,Ic h3,bne]
def eK:ai3->Bool
  | .nilIface=>true
  |_=>false
theorem Ni{d:Nat}{x:ai2}{v:ai3}{S T t:ai4}{ti:TI}{n:Nat}
  (hx:Ev s x (.v v)) (hv:v=.nilIface\/∃T u,v=.iface T u) (hS:aq P S=some ti) (hk:ti.k=.iface n) (hN:aem d N=true) :
  Step P N R s ⟨some d,.binOp .eql S x (.const .nilIface) T,t,pos,after,none⟩ ⟨some (.v (.bool (eK v))),[],ai x++[],[]⟩ :=
 cA rfl rfl hN fun s' am C m a w hr=>⟨.bool (eK v),by
  have h:=(hx.agree am (fun _ h=>ahn.2 (.inl h))).rep hr
  have h1:a.eval x=v:=by
   generalize a.eval x=u at h;cases h;rfl
  have h2:a.eval (.const .nilIface)=.nilIface:=rfl;obtain⟨d2,h3,h4,-,-⟩:=cM hS w;obtain⟨ms,rfl,-⟩:=Hn (h4.trans hk);have h5:=J6 h3 hv;rcases hv with rfl |⟨T',u,rfl⟩ <;> simp[execOp,h1,h2,eqGuard,binOp,h5,eK],.v _⟩
theorem HS{d:Nat}{x:ai2}{v:ai3}{S T t:ai4}{ti:TI}{n:Nat}
  (hx:Ev s x (.v v)) (hv:v=.nilIface\/∃T u,v=.iface T u) (hS:aq P S=some ti) (hk:ti.k=.iface n) (hN:aem d N=true) :
  Step P N R s ⟨some d,.binOp .neq S x (.const .nilIface) T,t,pos,after,none⟩ ⟨some (.v (.bool !(eK v))),[],ai x++[],[]⟩ :=
 cA rfl rfl hN fun s' am C m a w hr=>⟨.bool !(eK v),by
  have h:=(hx.agree am (fun _ h=>ahn.2 (.inl h))).rep hr
  have h1:a.eval x=v:=by
   generalize a.eval x=u at h;cases h;rfl
  have h2:a.eval (.const .nilIface)=.nilIface:=rfl;obtain⟨d2,h3,h4,-,-⟩:=cM hS w;obtain⟨ms,rfl,-⟩:=Hn (h4.trans hk);have h5:=J6 h3 hv;rcases hv with rfl |⟨T',u,rfl⟩ <;> simp[execOp,h1,h2,eqGuard,binOp,h5,eK],.v _⟩
theorem Hw{d:Nat}{x:ai2}{sz:Nat}{es:List AV}{T t:ai4}{ti:TI}{e:Nat}
  (hx:Ev s x (.lst sz es)) (hT:aq P T=some ti) (hk:ti.k=.slice e) (hN:aem d N=true) :
  Step P N R s ⟨some d,.call ⟨.builtin .len,#[x],#[T]⟩,t,pos,after,none⟩ ⟨some (.v (.int .i64 es.length)),[],ai x,[]⟩ :=
 cA rfl rfl hN fun s' am C m a w hr=>⟨.int .i64 es.length,by
  have h:=(hx.agree am (fun _ h=>h)).rep hr;obtain⟨d2,h3,h4,-,-⟩:=cM hT w;obtain rfl:=gI (h4.trans hk);generalize hu:a.eval x=u at h;cases h <;> simp[execOp,resolve,hu,invoke,builtin,Builtin.len_,h3,goInt],.v _⟩
theorem Zz{d:Nat}{x:ai2}{k sz off len:Nat}{T t:ai4}{ti:TI}{e:Nat}
  (hx:Ev s x (.ms k sz off len)) (hT:aq P T=some ti) (hk:ti.k=.slice e) (hN:aem d N=true) :
  Step P N R s ⟨some d,.call ⟨.builtin .len,#[x],#[T]⟩,t,pos,after,none⟩ ⟨some (.v (.int .i64 len)),[],ai x,[]⟩ :=
 cA rfl rfl hN fun s' am C m a w hr=>⟨.int .i64 len,by
  have h:=(hx.agree am (fun _ h=>h)).rep hr;obtain⟨d2,h3,h4,-,-⟩:=cM hT w;obtain rfl:=gI (h4.trans hk);generalize hu:a.eval x=u at h;cases h <;> simp[execOp,resolve,hu,invoke,builtin,Builtin.len_,h3,goInt],.v _⟩
theorem Zd{d:Nat}{x:ai2}{b:ByteArray}{T t:ai4}{ti:TI}
  (hx:Ev s x (.v (.string b))) (hT:aq P T=some ti) (hk:ti.k=.string) (hN:aem d N=true) :
  Step P N R s ⟨some d,.call ⟨.builtin .len,#[x],#[T]⟩,t,pos,after,none⟩ ⟨some (.v (.int .i64 b.size)),[],ai x,[]⟩ :=
 tE hx hN fun ρ w h=>by
  obtain⟨d2,h3,h4,-,-⟩:=cM hT w;obtain rfl:=IY (h4.trans hk);simp[execOp,resolve,h,invoke,builtin,Builtin.len_,h3,goInt]
theorem TG{d:Nat}{x:ai2}{a:Option Addr}{n c:Nat}{T t:ai4}{ti:TI}{e:Nat}
  (hx:Ev s x (.v (.slice a n c))) (hT:aq P T=some ti) (hk:ti.k=.slice e) (hN:aem d N=true) :
  Step P N R s ⟨some d,.call ⟨.builtin .len,#[x],#[T]⟩,t,pos,after,none⟩ ⟨some (.v (.int .i64 n)),[],ai x,[]⟩ :=
 tE hx hN fun ρ w h=>by
  obtain⟨d2,h3,h4,-,-⟩:=cM hT w;obtain rfl:=gI (h4.trans hk);simp[execOp,resolve,h,invoke,builtin,Builtin.len_,h3,goInt]
theorem ri{d:Nat}{x y:ai2}{a b:Int}{k:IntKind}{T T' t:ai4}
  (hx:Ev s x (.v (.int k a))) (hy:Ev s y (.v (.int k b))) (hN:aem d N=true) :
  Step P N R s ⟨some d,.call ⟨.builtin .max,#[x,y],#[T,T']⟩,t,pos,after,none⟩ ⟨some (.v (.int k (max a b))),[],ai x++ai y,[]⟩ :=
 j9 hx hy hN fun ρ w h1 h2=>by
  have:(if b>a then b else a)=max a b:=by split <;> omega
  simp[execOp,resolve,h1,h2,invoke,builtin,Builtin.max_,Builtin.max2,this]
theorem XI{d:Nat}{x:ai2}{xs:List AV}{i:Nat}{y:AV}{t:ai4}
  (hx:Ev s x (.tup xs)) (hy:xs[i]?=some y) (hN:aem d N=true) :
  Step P N R s ⟨some d,.extract x i,t,pos,after,none⟩ ⟨some y,[],ai x,[]⟩ :=
 cA rfl rfl hN fun s' am C m a w hr=>by
  have h:=(hx.agree am (fun _ h=>h)).rep hr;generalize hu:a.eval x=u at h;cases h with
  | @tup _ vs _ hn aR =>
   have hi:i<vs.size:=by
    rw[hn];rcases ahq i xs.length with h |h
    ·exact h
    ·rw[aht h]at hy;cases hy
   exact⟨vs[i],by simp[execOp,hu,Instr.extract,hi],aR i _ y (by simp[hi]) hy⟩
theorem EG{d:Nat}{c x y:ai2}{b bx bz:Bool}{t:ai4}(hc:Ev s c (.v (.bool b)))
  (hx:b=true->Ev s x (.v (.bool bx))) (hy:b=false->Ev s y (.v (.bool bz))) (hN:aem d N=true) :
  Step P N R s ⟨some d,.pick c x y,t,pos,after,none⟩ ⟨some (.v (.bool (cond b bx bz))),[],ai c++(ai x++ai y),[]⟩ :=
 cA rfl rfl hN fun s' am C m a w hr=>by
  have jG:∀(o:ai2)(z:Bool),(∀t∈ai o,t∈ai c++(ai x++ai y))->Ev s o (.v (.bool z))->a.eval o=.bool z:=by
   intro o z mQ h;have:=(h.agree am mQ).rep hr;generalize a.eval o=u at this;cases this;rfl
  have h1:=jG c b (fun t h=>by simp[h]) hc;cases b with
  |true=>exact⟨.bool bx,by simp[execOp,h1,asBool,jG x bx (fun t h=>by simp[h]) (hx rfl)],.v _⟩
  |false=>exact⟨.bool bz,by simp[execOp,h1,asBool,jG y bz (fun t h=>by simp[h]) (hy rfl)],.v _⟩
theorem fT{d j g:Nat}{op:Op}{t:ai4}{want b:Bool}{x:AV}{rt rd:List Nat}
  (hj:(R[j]?).bind (·.dst)=some g) (hb:s.get g=some (.v (.bool b))) (hN:aem d N=true)
  (h:b=want->Step P N R s ⟨some d,op,t,pos,after,none⟩ ⟨some x,[],rt,rd⟩) :
  Step P N R s ⟨some d,op,t,pos,after,some (j,want)⟩ ⟨some (.opt (b==want) x),[],g::rt,rd⟩:=by
 refine⟨fun s' am bj C m a w Q next hC hr hnext=>?_⟩;have hg:=hr.slots g _ ((am.1 g (by simp)).trans hb)
 have nZ:a.tmps[g]?=some (.bool b):=by
  obtain⟨h1,h2⟩:=hg;generalize hu:a.tmps.getD g undef=u at h2;cases h2;simp only[ahp]at hu;rw[ag7 h1]at hu ⊢;simpa using hu
 have hy:yielded R a.tmps j=some b:=by simp[yielded,hj,nZ]
 have hd:d<a.tmps.size:=by rw[adx]at hN;have:=hr.nt;omega
 by_cases kO:b=want
 ·subst kO;have da:Region.wanted ⟨some d,op,t,pos,after,some (j,b)⟩ (yielded R a.tmps) = true:=by simp [Region.wanted,hy]
  rw[ait da];have:=(h rfl).run s' ⟨fun t ht=>am.1 t (by simp[show t∈rt from ht]),am.2⟩ (fun k hk=>by cases hk) C m a w Q next hC hr (fun m' a' w' h'=>hnext m' a' w' ?_)
  ·rw[ait (mY rfl _)]at this;exact this
  ·refine⟨fun t y hy=>?_,h'.heap,h'.frame,h'.new,h'.keep,h'.defers,h'.nt⟩;simp only[gH]at hy;split at hy
   ·rename_i lR;cases hy;have:=h'.slots t x (by simp only[gH,ait lR]);exact⟨this.1,.opt (fun _=>this.2) (fun h=>by simp at h)⟩
   ·rename_i lR;exact h'.slots t y (by simp only[gH,ais lR];exact hy)
 ·have da : ¬ Region.wanted ⟨some d, op, t, pos, after, some (j, want)⟩ (yielded R a.tmps) = true := by simp [Region.wanted, hy, kO]
  rw[ais da];have:=hr.put d undef (some (.opt (b==want) x)) (fun y hy=>by cases hy;exact⟨hd,.opt (fun h=>aiz (beq_iff_eq.1 h) kO) (fun _=>rfl)⟩);refine hnext m _ _ ?_;simpa[AS.app,Act.put]using this
theorem rx{d j g:Nat}{op:Op}{t:ai4}{want b c:Bool}{x:AV}{rt rd:List Nat}
  (hj:(R[j]?).bind (·.dst)=some g) (hb:s.get g=some (.opt c (.v (.bool b)))) (hN:aem d N=true)
  (h:c=true->b=want->Step P N R s ⟨some d,op,t,pos,after,none⟩ ⟨some x,[],rt,rd⟩) :
  Step P N R s ⟨some d,op,t,pos,after,some (j,want)⟩ ⟨some (.opt (c&&b==want) x),[],g::rt,rd⟩:=by
 refine⟨fun s' am bj C m a w Q next hC hr hnext=>?_⟩;have hg:=hr.slots g _ ((am.1 g (by simp)).trans hb);have hd:d<a.tmps.size:=by rw[adx]at hN;have:=hr.nt;omega
 have nZ:(c=true/\a.tmps[g]?=some (.bool b))\/(c=false/\a.tmps[g]?=some undef):=by
  obtain⟨h1,h2⟩:=hg;generalize hu:a.tmps.getD g undef=u at h2;simp only[ahp]at hu;rw[ag7 h1]at hu ⊢;simp only[ahe]at hu;cases h2 with
  |opt h2 h2' =>
   cases c with
   |true=>have:=h2 rfl;cases this;exact .inl ⟨rfl,by rw[hu]⟩
   |false=>exact .inr ⟨rfl,by rw[hu,h2' rfl]⟩
 have iu:∀da:¬Region.wanted ⟨some d,op,t,pos,after,some (j,want)⟩ (yielded R a.tmps)=true,(c&&b==want)=false ->
   if Region.wanted ⟨some d,op,t,pos,after,some (j,want)⟩ (yielded R a.tmps)then wq P ⟨some d,op,t,pos,after,some (j,want)⟩ a w next Q
    else next (a.put (some d) undef) w:=by
  intro da hc;rw[ais da];have:=hr.put d undef (some (.opt (c&&b==want) x)) (fun y hy=>by cases hy;exact⟨hd,.opt (fun h=>by rw[hc]at h;cases h) (fun _=>rfl)⟩);refine hnext m _ _ ?_;simpa[AS.app,Act.put]using this
 rcases nZ with⟨rfl,nZ⟩ |⟨rfl,nZ⟩
 ·have hy : yielded R a.tmps j = some b := by simp [yielded, hj, nZ]
  by_cases kO:b=want
  ·subst kO;have da:Region.wanted ⟨some d,op,t,pos,after,some (j,b)⟩ (yielded R a.tmps) = true:=by simp [Region.wanted,hy]
   rw[ait da];have:=(h rfl rfl).run s' ⟨fun t ht=>am.1 t (by simp[show t∈rt from ht]),am.2⟩ (fun k hk=>by cases hk) C m a w Q next hC hr (fun m' a' w' h'=>hnext m' a' w' ?_)
   ·rw[ait (mY rfl _)]at this;exact this
   ·refine⟨fun t y hy=>?_,h'.heap,h'.frame,h'.new,h'.keep,h'.defers,h'.nt⟩;simp only[gH]at hy;split at hy
    ·rename_i lR;cases hy;have:=h'.slots t x (by simp only[gH,ait lR]);exact⟨this.1,.opt (fun _=>this.2) (fun h=>by simp at h)⟩
    ·rename_i lR;exact h'.slots t y (by simp only[gH,ais lR];exact hy)
  ·exact iu (by simp[Region.wanted,hy,kO]) (by simp[kO])
 ·have hy : yielded R a.tmps j = none := by simp [yielded, hj, nZ, undef]
  exact iu (by simp[Region.wanted,hy]) rfl
end Go.Lw
namespace Go.Lw
variable{P:ai5}{N:Nat}{R:Array Oper}{s:AS}{pos:String}{after:Array Edge}
def AV.ok:AV->Bool
  | .agg _=>true
  |x=>x.one
theorem AV.ok_spec{x:AV}(h:x.ok=true):(∃cs,x=.agg cs)\/x.one=true:=by
 cases x <;> simp_all [AV.ok]
theorem ue{C:Ctx}{m:Nat->Option Nat}{a:Act}{w:ai6}(hr:RelM C s m a w){x:ai2}{k off:Nat}(hx:Ev s x (.ptr k off)) :
  ∃b,m k=some b/\a.eval x=.pointer (some ⟨b,off,none⟩):=by
 have h:=hx.rep hr;generalize a.eval x=u at h;cases h with |ptr hm=>exact⟨_,hm,rfl⟩
theorem y9{C:Ctx}{m:Nat->Option Nat}{a:Act}{w:ai6}(hr:RelM C s m a w){x:ai2}{k sz i off:Nat}(hx:Ev s x (.eptr k sz i off)) :
  ∃b,m k=some b/\a.eval x=.pointer (some ⟨b,i*sz+off,none⟩):=by
 have h:=hx.rep hr;generalize a.eval x=u at h;cases h with |eptr hm=>exact⟨_,hm,rfl⟩
theorem m9{C:Ctx}{m:Nat->Option Nat}{a:Act}{w:ai6}(hr:RelM C s m a w){x:ai2}{v:ai3}(hx:Ev s x (.v v)):a.eval x=v:=by
 have h:=hx.rep hr;generalize a.eval x=u at h;cases h;rfl
theorem yp{ext:Nat->Prop}{hp:Hp}{m:Nat->Option Nat}{w:ai6}(h:HeapRel ext hp m w){k b:Nat}{cs:List AV}(hk:lk hp k=some (.box cs))(hm:m k=some b) :
  ∃c t,w.heap[b]?=some (.cells c t (0,0))/\c.size=cs.length/\(∀(j:Nat)(x:AV),cs[j]?=some x->x.one=true) /\
   ∀(j:Nat)(u:ai3)(x:AV),c[j]?=some u->cs[j]?=some x->Rep (Im ext hp m w) (Sz w) m u x:=by
 have:=h.blk k _ hk;rw[hm]at this;cases this with |box hw hn h1 hr=>exact⟨_,_,hw,hn,h1,hr⟩
theorem sN{ext:Nat->Prop}{hp:Hp}{m:Nat->Option Nat}{w:ai6}(h:HeapRel ext hp m w){k b sz:Nat}{es:List AV}(hk:lk hp k=some (.row sz es))(hm:m k=some b) :
  ∃c t,w.heap[b]?=some (.cells c t (0,0))/\es.length*sz<=c.size/\es.length<=az/\(∀(i:Nat)(e:AV),es[i]?=some e->e.cells.length=sz) /\
   (∀(i j:Nat)(e x:AV),es[i]?=some e->e.cells[j]?=some x->x.one=true) /\
   ∀(i j:Nat)(e:AV)(u:ai3)(x:AV),es[i]?=some e->e.cells[j]?=some x->c[i*sz+j]?=some u->Rep (Im ext hp m w) (Sz w) cQ u x:=by
 have:=h.blk k _ hk;rw[hm]at this;cases this with |row hw hn hl hs h1 hr=>exact⟨_,_,hw,hn,hl,hs,h1,hr⟩
theorem RT{d:Nat}{x:ai2}{k off:Nat}{cs:List AV}{T t:ai4}{ti:TI}
  (hx:Ev s x (.ptr k off)) (hk:s.blk k=some (.box cs)) (hT:aq P T=some ti) (bA:Nat.ble (off+ti.size) cs.length=true)
  (h1:(ti.ag||ad9 ti.size 1)=true) (hN:aem d N=true) :
  Step P N R s ⟨some d,.load T x,t,pos,after,none⟩ ⟨some (j8 ti.ag ((cs.drop off).take ti.size)),[],ai x,[k]⟩ :=
 cA rfl rfl hN fun s' am C m a w hr=>by
  rw[aee]at bA;have h1:ti.ag=true\/ti.size=1:=by simpa using h1
  obtain⟨b,hm,hv⟩:=ue hr (hx.agree am (fun _ h=>h));obtain⟨c,t,hw,hn,ho,aR⟩:=yp hr.heap ((am.2 k (by simp)).trans hk) hm;refine⟨_,?_,yw (c:=c) (off:=off) (n:=ti.size) (by simp;omega) oz h1 ?_ ?_⟩
  ·simp[execOp,Instr.loadAt,hv,Instr.sureAddr,Aa hT hw (by omega:off+ti.size<=c.size) h1]
  ·intro j y hy;rw[aie]at hy;split at hy
   ·rw[aii]at hy;exact ho _ y hy
   ·cases hy
  ·intro j u y hy hu;rw[aie]at hy;split at hy
   ·rw[aii]at hy;exact aR _ u y hu hy
   ·cases hy
theorem Is{g:Nat->Array ai3->Prop}{S:Nat->Nat->Prop}{m:Nat->Option Nat}{u:ai3}{x:AV}(h:Rep g S cQ u x):Rep g S m u x :=
 h.mono (fun _ _ h=>h) (fun _ _ h=>h) (fun k b _ hb=>by cases hb)
theorem Vh{g:Nat->Array ai3->Prop}{S:Nat->Nat->Prop}{m:Nat->Option Nat}{u:ai3}{x:AV}(h:Rep g S m u x)(hx:x.nm=[]):Rep g S cQ u x :=
 h.mono (fun _ _ h=>h) (fun _ _ h=>h) (fun k b hk _=>by have:=hk.mem;rw[hx]at this;cases this)
theorem mz{i n sz:Nat}(h:i<n):i*sz+sz<=n*sz:=by
 have:=ah0 sz (show i+1<=n from h);rw[adp]at this;exact this
theorem dx{d:Nat}{x:ai2}{k sz i off:Nat}{es:List AV}{e:AV}{T t:ai4}{ti:TI}
  (hx:Ev s x (.eptr k sz i off)) (hk:s.blk k=some (.row sz es)) (he:es[i]?=some e) (hT:aq P T=some ti) (bA:Nat.ble (off+ti.size) e.cells.length=true)
  (h1:(ti.ag||ad9 ti.size 1)=true) (hN:aem d N=true) :
  Step P N R s ⟨some d,.load T x,t,pos,after,none⟩ ⟨some (j8 ti.ag ((e.cells.drop off).take ti.size)),[],ai x,[k]⟩ :=
 cA rfl rfl hN fun s' am C m a w hr=>by
  rw[aee]at bA;have h1:ti.ag=true\/ti.size=1:=by simpa using h1
  obtain⟨b,hm,hv⟩:=y9 hr (hx.agree am (fun _ h=>h));obtain⟨c,t,hw,hn,hl,hs,ho,aR⟩:=sN hr.heap ((am.2 k (by simp)).trans hk) hm
  have hi:i<es.length:=by
   rcases ahq i es.length with h |h
   ·exact h
   ·rw[aht h]at he;cases he
  have hb:=mz (sz:=sz) hi;have lS:=hs i e he;refine⟨_,?_,yw (c:=c) (off:=i*sz+off) (n:=ti.size) (by simp;omega) oz h1 ?_ ?_⟩
  ·simp[execOp,Instr.loadAt,hv,Instr.sureAddr,Aa hT hw (by omega:i*sz+off+ti.size<=c.size) h1]
  ·intro j y hy;rw[aie]at hy;split at hy
   ·rw[aii]at hy;exact ho i _ e y he hy
   ·cases hy
  ·intro j u y hy hu;rw[aie]at hy;split at hy
   ·rw[aii]at hy;exact Is (aR i _ e u y he hy (by rw[<- hu];congr 1;omega))
   ·cases hy
theorem TP{d:Nat}{x:ai2}{xs:List AV}{T t:ai4}{ti:TI}
  (hx:Ev s x (.iptr xs)) (hT:aq P T=some ti) (bA:(aem 0 ti.size&&Nat.ble ti.size xs.length)=true)
  (h1:(ti.ag||ad9 ti.size 1)=true) (hN:aem d N=true) :
  Step P N R s ⟨some d,.load T x,t,pos,after,none⟩ ⟨some (j8 ti.ag (xs.take ti.size)),[],ai x,[]⟩ :=
 cA rfl rfl hN fun s' am C m a w hr=>by
  simp only[ahj,aee,adx]at bA;have h1:ti.ag=true\/ti.size=1:=by simpa using h1
  have h:=(hx.agree am (fun _ h=>h)).rep hr;generalize hv:a.eval x=u at h;cases h with
  | @iptr _ b off cs _ u hb ho hu aR =>
   obtain⟨_,_,t,f,hw⟩:=hb
   have aN:off+ti.size<=cs.size:=by
    have hlt:ti.size-1<xs.length:=by omega
    have:=hu (ti.size-1) xs[ti.size-1] (by simp[hlt]);rcases ahq (off+(ti.size-1)) cs.size with h |h
    ·omega
    ·rw[agw h]at this;cases this
   refine⟨_,?_,yw (c:=cs) (off:=off) (n:=ti.size) (by simp;omega) oz h1 ?_ ?_⟩
   ·simp[execOp,Instr.loadAt,hv,Instr.sureAddr,Aa hT hw aN h1]
   ·intro j y hy;rw[aie]at hy;split at hy
    ·exact ho _ y hy
    ·cases hy
   ·intro j u' y hy hu';rw[aie]at hy;split at hy
    ·have:=hu j y hy;rw[hu']at this;cases this
     exact Is (aR j y hy)
    ·cases hy
theorem Dq{T:ai4}{ti:TI}{f o n:Nat}(hT:aq P T=some ti)(hk:ti.k=.struct)(hf:ti.fs[f]?=some (o,n))(hn:aem 0 n=true)
  (w:ai6) (b off:Nat):(Instr.fieldAt T (.pointer (some ⟨b,off,none⟩)) f).run P w=.ok (.pointer (some ⟨b,off+o,none⟩)) w:=by
 rw[adx]at hn;obtain⟨d2,h2,h3,h4,-⟩:=cM hT w;obtain⟨fs,rfl⟩:=G6 (h3.trans hk);rw[<- h4]at hf;simp only[sR,aho,ahl,ag9]at hf;obtain⟨fl,h5,h6⟩:=hf;cases h6;cases hi:P.info? fl.type with
 |none=>rw[hi]at hn;simp at hn
 |some j =>
  rw[hi]at hn;have hj:¬j.size=0:=by simp only at hn;omega
  simp[Instr.fieldAt,h2,h5,Instr.sureAddr,fieldPlace,sizeOf,typeInfo,hi,hj,iX]
theorem X2{d:Nat}{x:ai2}{k off f o n:Nat}{T t:ai4}{ti:TI}
  (hx:Ev s x (.ptr k off)) (hT:aq P T=some ti) (hk:ti.k=.struct) (hf:ti.fs[f]?=some (o,n)) (hn:aem 0 n=true) (hN:aem d N=true) :
  Step P N R s ⟨some d,.fieldAddr T x f,t,pos,after,none⟩ ⟨some (.ptr k (off+o)),[],ai x,[]⟩ :=
 cA rfl rfl hN fun s' am C m a w hr=>by
  obtain⟨b,hm,hv⟩:=ue hr (hx.agree am (fun _ h=>h));exact⟨_,by simp[execOp,hv,Dq hT hk hf hn],.ptr hm⟩
theorem Q2{d:Nat}{x:ai2}{k sz i off f o n:Nat}{T t:ai4}{ti:TI}
  (hx:Ev s x (.eptr k sz i off)) (hT:aq P T=some ti) (hk:ti.k=.struct) (hf:ti.fs[f]?=some (o,n)) (hn:aem 0 n=true) (hN:aem d N=true) :
  Step P N R s ⟨some d,.fieldAddr T x f,t,pos,after,none⟩ ⟨some (.eptr k sz i (off+o)),[],ai x,[]⟩ :=
 cA rfl rfl hN fun s' am C m a w hr=>by
  obtain⟨b,hm,hv⟩:=y9 hr (hx.agree am (fun _ h=>h));refine⟨.pointer (some ⟨b,i*sz+(off+o),none⟩),?_,.eptr hm⟩;simp[execOp,hv,Dq hT hk hf hn,aec]
theorem aan{d:Nat}{x:ai2}{xs:List AV}{f o n:Nat}{T t:ai4}{ti:TI}
  (hx:Ev s x (.iptr xs)) (hT:aq P T=some ti) (hk:ti.k=.struct) (hf:ti.fs[f]?=some (o,n)) (hn:aem 0 n=true) (hN:aem d N=true) :
  Step P N R s ⟨some d,.fieldAddr T x f,t,pos,after,none⟩ ⟨some (.iptr (xs.drop o)),[],ai x,[]⟩ :=
 cA rfl rfl hN fun s' am C m a w hr=>by
  have h:=(hx.agree am (fun _ h=>h)).rep hr;generalize hv:a.eval x=u at h;cases h with
  | @iptr _ b off cs _ u hb ho hu aR =>
   refine⟨_,by simp[execOp,hv,Dq hT hk hf hn];rfl,?_⟩;refine .iptr (fun j=>u (o+j)) hb ?_ ?_ ?_
   ·intro j c hc;rw[aii]at hc;exact ho _ c hc
   ·intro j c hc;rw[aii]at hc;rw[aec];exact hu _ c hc
   ·intro j c hc;rw[aii]at hc;exact aR _ c hc
theorem Hy{d:Nat}{x ix:ai2}{kk:IntKind}{i:Int}{sz:Nat}{es:List AV}{e:AV}{T E t:ai4}{ti te:TI}
  (hx:Ev s x (.lst sz es)) (hi:Ev s ix (.v (.int kk i))) (hT:aq P T=some ti) (hk:ti.k=.slice E) (hE:aq P E=some te) (aN:te.size=sz)
  (h0:0<=i) (he:es[i.toNat]?=some e) (hN:aem d N=true) :
  Step P N R s ⟨some d,.indexAddr T x ix,t,pos,after,none⟩ ⟨some (.iptr e.cells),[],ai x++ai ix,[]⟩ :=
 cA rfl rfl hN fun s' am C m a w hr=>by
  have h:=(hx.agree am (fun _ h=>ahn.2 (.inl h))).rep hr;have xb:=m9 hr (hi.agree am (fun _ h=>ahn.2 (.inr h)));obtain⟨d2,h2,h3,-,-⟩:=cM hT w;obtain rfl:=gI (h3.trans hk)
  have hlt:i.toNat<es.length:=by
   rcases ahq i.toNat es.length with h |h
   ·exact h
   ·rw[aht h]at he;cases he
  generalize hv:a.eval x=u at h;cases h with
  |lst0 a cap=>simp at hlt
  | @lst _ b off cap _ _ cs u hb hc hl hs ho hu aR =>
   have eL:0<=i/\i<(es.length:Int):=by omega
   subst aN;refine⟨.pointer (some ⟨b,off+i.toNat*te.size,none⟩),?_,?_⟩
   ·simp[execOp,hv,xb,Instr.indexAt,asIntOf,h2,eL,eM hE,iX]
   ·refine .iptr (fun j=>u i.toNat j) hb (fun j c hc=>ho i.toNat j e c he hc) (fun j c hc=>hu i.toNat j e c he hc) (fun j c hc=>aR i.toNat j e c he hc)
theorem m5{d:Nat}{x ix:ai2}{kk:IntKind}{i:Int}{k sz off len:Nat}{T E t:ai4}{ti te:TI}
  (hx:Ev s x (.ms k sz off len)) (hi:Ev s ix (.v (.int kk i))) (hT:aq P T=some ti) (hk:ti.k=.slice E) (hE:aq P E=some te) (aN:te.size=sz)
  (h0:0<=i) (he:i<(len:Int)) (hN:aem d N=true) :
  Step P N R s ⟨some d,.indexAddr T x ix,t,pos,after,none⟩ ⟨some (.eptr k sz (off+i.toNat) 0),[],ai x++ai ix,[]⟩ :=
 cA rfl rfl hN fun s' am C m a w hr=>by
  have h:=(hx.agree am (fun _ h=>ahn.2 (.inl h))).rep hr;have xb:=m9 hr (hi.agree am (fun _ h=>ahn.2 (.inr h)));obtain⟨d2,h2,h3,-,-⟩:=cM hT w;obtain rfl:=gI (h3.trans hk);generalize hv:a.eval x=u at h;cases h with
  |ms0=>simp at he;omega
  | @ms _ _ _ _ _ cap b hm hc hS =>
   subst aN;refine⟨.pointer (some ⟨b,(off+i.toNat)*te.size+0,none⟩),?_,.eptr hm⟩;simp[execOp,hv,xb,Instr.indexAt,asIntOf,h2,h0,he,eM hE,iX,ad2]
theorem wP{d:Nat}{x ix:ai2}{kk:IntKind}{i:Int}{b:ByteArray}{T t:ai4}{ti:TI}
  (hx:Ev s x (.v (.string b))) (hi:Ev s ix (.v (.int kk i))) (hT:aq P T=some ti) (hk:ti.k=.string)
  (h0:0<=i) (he:i<(b.size:Int)) (hN:aem d N=true) :
  Step P N R s ⟨some d,.index T x ix,t,pos,after,none⟩ ⟨some (.v (.int .u8 (b.data.getD i.toNat 0).toNat)),[],ai x++ai ix,[]⟩ :=
 j9 hx hi hN fun ρ w h1 h2=>by
  obtain⟨d2,h3,h4,-,-⟩:=cM hT w;obtain rfl:=IY (h4.trans hk);have hlt:i.toNat<b.size:=by omega
  have:b[i.toNat]?=some (b.data.getD i.toNat 0):=by
   rw[getElem?_pos b i.toNat hlt,ahp,ag7 (show i.toNat<b.data.size from hlt)];rfl
  simp[execOp,h1,h2,Instr.index,asIntOf,h3,h0,this]
inductive EvI(s:AS):Option ai2->Nat->Nat->Prop
  |none (d:Nat):EvI s none d d
  |some {x:ai2} {k:IntKind} {i:Int} (d:Nat) (h:Ev s x (.v (.int k i))) (h0:0<=i):EvI s (some x) d i.toNat
def jM:Option ai2->List Nat
  |some x=>ai x
  |none=>[]
theorem EvI.agree{s':AS}{u:Out}(h:gg s s' u){o:Option ai2}{d n:Nat}(he:EvI s o d n)(hs:∀t∈jM o,t∈u.rt):EvI s' o d n:=by
 cases he with
 |none=>exact .none _
 |some d h' h0=>exact .some d (h'.agree h hs) h0
theorem EvI.bound{C:Ctx}{m:Nat->Option Nat}{a:Act}{w:ai6}(hr:RelM C s m a w){x:ai2}{d n y:Nat}(h:EvI s (Option.some x) d n)(hy:n<=y)(code:BoundsCode) :
  (Instr.sliceBound (a.eval x) y code).run P w=.ok n w:=by
 cases h with
 | @some _ k i _ h h0 =>
  have:=m9 hr h;have:0<=i/\i<=(y:Int):=by omega
  simp[Instr.sliceBound,asIntOf,m9 hr h,this]
theorem vz{C:Ctx}{m:Nat->Option Nat}{a:Act}{w:ai6}(hr:RelM C s m a w){lo hi:Option ai2}{l h len cap:Nat}(isS:Bool)
  (hl:EvI s lo 0 l) (hh:EvI s hi len h) (h1:l<=h) (h2:h<=cap) :
  (Instr.sliceBounds isS len cap (lo.map a.eval) (hi.map a.eval) none).run P w=.ok (l,h,cap) w:=by
 cases hi with
 |none =>
  cases hh;cases lo with
  |none=>cases hl;simp[Instr.sliceBounds]
  |some x=>simp[Instr.sliceBounds,hl.bound hr h1]
 |some y =>
  cases lo with
  |none=>cases hl;simp[Instr.sliceBounds,hh.bound hr h2]
  |some x=>simp[Instr.sliceBounds,hl.bound hr h1,hh.bound hr h2]
theorem eF{d:Nat}{x:ai2}{lo hi:Option ai2}{l h sz:Nat}{es:List AV}{T E t:ai4}{ti te:TI}
  (hx:Ev s x (.lst sz es)) (hl:EvI s lo 0 l) (hh:EvI s hi es.length h) (hT:aq P T=some ti) (hk:ti.k=.slice E) (hE:aq P E=some te) (aN:te.size=sz)
  (h1:l<=h) (h2:h<=es.length) (hN:aem d N=true) :
  Step P N R s ⟨some d,.slice T x lo hi none,t,pos,after,none⟩ ⟨some (.lst sz ((es.drop l).take (h-l))),[],ai x++(jM lo++jM hi),[]⟩ :=
 cA rfl rfl hN fun s' am C m a w hr=>by
  have di:=(hx.agree am (fun _ h=>ahn.2 (.inl h))).rep hr;have hl':=hl.agree am (fun _ h=>ahn.2 (.inr (ahn.2 (.inl h))));have hh':=hh.agree am (fun _ h=>ahn.2 (.inr (ahn.2 (.inr h))));obtain⟨d2,hu,h3,-,-⟩:=cM hT w;obtain rfl:=gI (h3.trans hk);subst aN;generalize hv:a.eval x=u at di;cases di with
  |lst0 a' cap =>
   have:=vz (P:=P) hr (cap:=cap) true hl' hh' h1 (by simp at h2;omega);simp at this h2;have Oz:l=0:=by omega
   refine⟨.slice (if cap=l then a' else a'.map (·.add (l*te.size))) (h-l) (cap-l),?_,?_⟩
   ·simp[execOp,hv,Instr.sliceAt,hu,Instr.slice,this,eM hE]
   ·simp[h2];exact .lst0 _ _ _
  | @lst _ b off cap _ _ cs u hb hc gQ hs ho hu' aR =>
   have:=vz (P:=P) hr (cap:=cap) true hl' hh' h1 oz;refine⟨.slice (if cap=l then some ⟨b,off,none⟩else some ⟨b,off+l*te.size,none⟩) (h-l) (cap-l),?_,?_⟩
   ·simp[execOp,hv,Instr.sliceAt,hu,Instr.slice,this,eM hE,iX]
   ·by_cases hlh:l=h
    ·subst hlh;simp;exact .lst0 _ _ _
    ·have aG : ¬ cap = l := by omega
     rw[ais aG];have ch:((es.drop l).take (h-l)).length=h-l:=by simp;omega
     have cD:∀(i:Nat)(e:AV),((es.drop l).take (h-l))[i]?=some e->es[l+i]?=some e:=by
      intro i e he;rw[aie]at he;split at he
      ·rwa [aii]at he
      ·cases he
     have:=Rep.lst (g:=Im C.ext s'.hp m w) (S:=Sz w) (m:=m) (b:=b) (off:=off+l*te.size) (cap:=cap-l) (sz:=te.size) (es:=(es.drop l).take (h-l)) (cs:=cs)
      (fun i j=>u (l+i) j) hb oz oz (fun i e he=>hs _ e (cD i e he)) (fun i j e c he hc=>ho _ j e c (cD i e he) hc)
      (fun i j e c he hc=>by rw[<- hu' (l+i) j e c (cD i e he) hc];congr 1;rw[ad2];omega) (fun i j e c he hc=>aR _ j e c (cD i e he) hc)
     rwa [ch]at this
theorem qN{d:Nat}{x:ai2}{lo hi:Option ai2}{l h k sz off len:Nat}{T E t:ai4}{ti te:TI}
  (hx:Ev s x (.ms k sz off len)) (hl:EvI s lo 0 l) (hh:EvI s hi len h) (hT:aq P T=some ti) (hk:ti.k=.slice E) (hE:aq P E=some te) (aN:te.size=sz)
  (h1:l<=h) (h2:h<=len) (hN:aem d N=true) :
  Step P N R s ⟨some d,.slice T x lo hi none,t,pos,after,none⟩ ⟨some (.ms k sz (off+l) (h-l)),[],ai x++(jM lo++jM hi),[]⟩ :=
 cA rfl rfl hN fun s' am C m a w hr=>by
  have di:=(hx.agree am (fun _ h=>ahn.2 (.inl h))).rep hr;have hl':=hl.agree am (fun _ h=>ahn.2 (.inr (ahn.2 (.inl h))));have hh':=hh.agree am (fun _ h=>ahn.2 (.inr (ahn.2 (.inr h))));obtain⟨d2,hu,h3,-,-⟩:=cM hT w;obtain rfl:=gI (h3.trans hk);subst aN;generalize hv:a.eval x=u at di;cases di with
  |ms0 a' =>
   have:=vz (P:=P) hr (cap:=0) true hl' hh' h1 oz;have Oz:l=0:=by omega
   have hh0:h=0:=by omega
   subst Oz;subst hh0
   exact⟨.slice a' 0 0,by simp[execOp,hv,Instr.sliceAt,hu,Instr.slice,this,eM hE],.ms0 _ _ _ _⟩
  | @ms _ _ _ _ _ cap b hm hc hS =>
   have:=vz (P:=P) hr (cap:=cap) true hl' hh' h1 oz;refine⟨.slice (if cap=l then some ⟨b,off*te.size,none⟩else some ⟨b,off*te.size+l*te.size,none⟩) (h-l) (cap-l),?_,?_⟩
   ·simp[execOp,hv,Instr.sliceAt,hu,Instr.slice,this,eM hE,iX]
   ·by_cases fJ:cap=l
    ·subst fJ;have:h - cap = 0:=by omega
     rw[this,Nat.sub_self];exact .ms0 _ _ _ _
    ·rw[ais fJ,<- ad2];exact .ms hm oz (by rw[show off+l+(cap-l)=off+cap by omega];exact hS)
theorem W6{d:Nat}{x:ai2}{k off:Nat}{t:ai4}(hx:Ev s x (.ptr k off))(hN:aem d N=true) :
  Step P N R s ⟨some d,.nilCheck x,t,pos,after,none⟩ ⟨some (.ptr k off),[],ai x,[]⟩ :=
 cA rfl rfl hN fun s' am C m a w hr=>by
  obtain⟨b,hm,hv⟩:=ue hr (hx.agree am (fun _ h=>h));exact⟨_,by simp[execOp,hv],.ptr hm⟩
inductive EvL(s:AS):List ai2->List AV->Prop
  |nil:EvL s [] []
  |cons {o:ai2} {x:AV} {os:List ai2} {xs:List AV} (h:Ev s o x) (hs:EvL s os xs):EvL s (o::os) (x::xs)
theorem iN{s:AS}{t:Nat}{x:AV}(h:s.get t=some x):EvL s [.tmp t] [x]:=.cons (.tmp h) .nil
theorem cV{s:AS}{t u:Nat}{x y:AV}(h:s.get t=some x)(h2:s.get u=some y):EvL s [.tmp t,.tmp u] [x,y]:=.cons (.tmp h) (iN h2)
theorem a6{s:AS}{t u v:Nat}{x y z:AV}(h:s.get t=some x)(h2:s.get u=some y)(h3:s.get v=some z):EvL s [.tmp t,.tmp u,.tmp v] [x,y,z]:=.cons (.tmp h) (cV h2 h3)
def cB:List ai2->List Nat
  |[]=>[]
  |o::os=>ai o++cB os
theorem EvL.agree{s':AS}{u:Out}(h:gg s s' u){os:List ai2}{xs:List AV}(he:EvL s os xs)(hs:∀t∈cB os,t∈u.rt):EvL s' os xs:=by
 induction he with
 |nil=>exact .nil
 |cons h1 _ ih=>exact .cons (h1.agree h (fun t ht=>hs t (by simp[cB,ht]))) (ih (fun t ht=>hs t (by simp[cB,ht])))
theorem EvL.length{os:List ai2}{xs:List AV}(he:EvL s os xs):os.length=xs.length:=by
 induction he with
 |nil=>rfl
 |cons _ _ ih=>simp[ih]
theorem EvL.rep{C:Ctx}{m:Nat->Option Nat}{a:Act}{w:ai6}(hr:RelM C s m a w){os:List ai2}{xs:List AV}(he:EvL s os xs) :
  ∀(j:Nat)(v:ai3)(x:AV),(os.map a.eval)[j]?=some v->xs[j]?=some x->Rep (Im C.ext s.hp m w) (Sz w) m v x:=by
 induction he with
 |nil=>intro j v x h;simp at h
 |cons h1 _ ih =>
  intro j v x hv hx;cases j with
  |zero=>simp at hv hx;subst hv;subst hx;exact h1.rep hr
  |succ j=>exact ih j v x (by simpa using hv) (by simpa using hx)
theorem U1{d:Nat}{x:ai2}{xs:List AV}{t:ai4}(hx:Ev s x (.iptr xs))(hN:aem d N=true) :
  Step P N R s ⟨some d,.nilCheck x,t,pos,after,none⟩ ⟨some (.iptr xs),[],ai x,[]⟩ :=
 cA rfl rfl hN fun s' am C m a w hr=>by
  have h:=(hx.agree am (fun _ h=>h)).rep hr;generalize hu:a.eval x=u at h;cases h with
  |iptr u' hb ho hv aR=>exact⟨_,by simp[execOp,hu],.iptr u' hb ho hv aR⟩
theorem X7{d f:Nat}{pre:Array ai2}{xs:List AV}{t:ai4}(hx:EvL s pre.toList xs)(hnm:(xs.all fun x=>x.nm.isEmpty)=true)(hN:aem d N=true) :
  Step P N R s ⟨some d,.makeFunc (.func f) pre #[],t,pos,after,none⟩ ⟨some (.cl f xs []),[],cB pre.toList,[]⟩ :=
 cA rfl rfl hN fun s' am C m a w hr=>by
  have hl:=hx.agree am (fun _ h=>h);refine⟨.func (.func f) (pre.map a.eval) #[],by simp[execOp,Instr.makeFunc],.cl ?_ ?_ rfl (fun j u c hu hc=>by simp at hc)⟩
  ·have:=hl.length;simpa using this
  ·intro j u c hu hc
   exact (hl.rep hr j u c (by simpa using hu) hc).mono (fun _ _ h => h) (fun _ _ h => h) (fun k b hk => by
    have h1:=ahs.1 hnm c (ahg hc);have h2:=hk.mem;simp only[List.isEmpty_iff]at h1;rw[h1]at h2;cases h2)
theorem U7{d f:Nat}{caps:Array ai2}{xs:List AV}{t:ai4}(hx:EvL s caps.toList xs)(hN:aem d N=true) :
  Step P N R s ⟨some d,.makeFunc (.func f) #[] caps,t,pos,after,none⟩ ⟨some (.fn f xs),[],cB caps.toList,[]⟩ :=
 cA rfl rfl hN fun s' am C m a w hr=>by
  have hl:=hx.agree am (fun _ h=>h);refine⟨.func (.func f) #[] (caps.map a.eval),by simp[execOp,Instr.makeFunc],.fn ?_ ?_⟩
  ·have:=hl.length;simpa using this
  ·intro j u c hu hc;exact hl.rep hr j u c (by simpa using hu) hc
end Go.Lw
namespace Go.Lw
variable{P:ai5}{N:Nat}{R:Array Oper}{s:AS}{pos:String}{after:Array Edge}
def cS(g:Nat->Array ai3->Prop)(S:Nat->Nat->Prop)(m:Nat->Option Nat)(c:List ai3)(l:List AV):Prop :=
  c.length=l.length/\(∀(j:Nat)(x:AV),l[j]?=some x->x.one=true)/\∀(j:Nat)(u:ai3)(x:AV),c[j]?=some u->l[j]?=some x->Rep g S m u x
theorem cS.of_zero{g:Nat->Array ai3->Prop}{S:Nat->Nat->Prop}{m:Nat->Option Nat}(z:List ai3)(h:z.all Value.oneCell'=true) :
  cS g S m z (z.map .v):=by
 refine⟨by simp,?_,?_⟩
 ·intro j x hx;simp only[aho,ahl]at hx;obtain⟨v,hv,rfl⟩:=hx;exact ahs.1 h v (ahg hv)
 ·intro j u x hu hx;simp only[aho,ahl]at hx;obtain⟨v,hv,rfl⟩:=hx;rw[hu]at hv;cases hv
  exact .v _
theorem cS.of_value{g:Nat->Array ai3->Prop}{S:Nat->Nat->Prop}{m:Nat->Option Nat}{v:ai3}{x:AV}(h:Rep g S m v x)(hx:x.ok=true) :
  cS g S m v.cells.toList x.cells:=by
 obtain⟨h1,h2,h3⟩:=h.cells (AV.ok_spec hx);exact⟨by simpa using h1,h2,fun j u y hu hy=>h3 j u y (by simpa using hu) hy⟩
theorem cS.mono{g g':Nat->Array ai3->Prop}{S S':Nat->Nat->Prop}{m m':Nat->Option Nat}{c:List ai3}{l:List AV}(h:cS g S m c l)
  (hg:∀b cs,g b cs->g' b cs) (hS:∀b n,S b n->S' b n) (hm:∀x∈l,∀k b,x.Names k->m k=some b->m' k=some b):cS g' S' m' c l :=
 ⟨h.1,h.2.1,fun j u x hu hx=>(h.2.2 j u x hu hx).mono hg hS (fun k b hk hb=>hm x (ahg hx) k b hk hb)⟩
def over{α:Type}(l:List α)(off:Nat)(xs:List α):List α:=l.take off++xs++l.drop (off+xs.length)
theorem jz{α:Type}(l:List α)(off:Nat)(xs:List α)(h:off+xs.length<=l.length)(p:Nat) :
  (over l off xs)[p]?=if p<off then l[p]? else if p<off+xs.length then xs[p-off]? else l[p]? := by
 have h1:(l.take off).length=off:=by simp;omega
 unfold over
 by_cases h2:p<off
 ·rw[ait h2,aip,ah4 oz,aie,ait h2]
 ·rw[ais h2]
  by_cases h3:p<off+xs.length
  ·rw[ait h3,ah4 (by simp;omega),ahz oz,h1]
  ·rw[ais h3,ahz (by simp;omega),aii];congr 1;simp;omega
theorem se{α:Type}(l:List α)(off:Nat)(xs:List α)(h:off+xs.length<=l.length):(over l off xs).length=l.length:=by
 simp[over];omega
theorem cS.over{g:Nat->Array ai3->Prop}{S:Nat->Nat->Prop}{m:Nat->Option Nat}{c:List ai3}{l:List AV}{c':List ai3}{l':List AV}{off:Nat}
  (h:cS g S m c l) (h':cS g S m c' l') (bA:off+l'.length<=l.length):cS g S m (over c off c') (Lw.over l off l'):=by
 have e1:=h.1;have e2:=h'.1;refine⟨by rw[se _ _ _ oz,se _ _ _ bA,e1],?_,?_⟩
 ·intro j x hx;rw[jz _ _ _ bA]at hx;split at hx
  ·exact h.2.1 j x hx
  ·split at hx
   ·exact h'.2.1 _ x hx
   ·exact h.2.1 j x hx
 ·intro j u x hu hx;rw[jz _ _ _ bA]at hx;rw[jz _ _ _ oz,e2]at hu;split at hx
  ·rename_i hj;rw[ait hj]at hu;exact h.2.2 j u x hu hx
  ·rename_i hj;rw[ais hj]at hu
   split at hx
   ·rename_i hj;rw[ait hj]at hu;exact h'.2.2 _ u x hu hx
   ·rename_i hj;rw[ais hj]at hu;exact h.2.2 j u x hu hx
theorem tX{o:Oper}{d:Nat}{k:Nat}{x:AV}{y:Blk}{rt rd:List Nat}(hg:o.guard=none)(hd:o.dst=some d)(hN:aem d N=true)
  (FC:k∉rd)
  (h:∀s',gg s s' ⟨some x,[(k,some y)],rt,rd⟩->s'.Fresh k->∀C m a w,RelM C s' m a w ->
   ∃(v:ai3)(c:Array ai3)(t:ai4)(n:Nat),(execOp a.eval o).run P w=.ok (.value v) { w with heap:=w.heap.push (.cells c t),drawn:=n }/\¬y.Names k /\
    (∀(g:Nat->Array ai3->Prop)(S:Nat->Nat->Prop)(m':Nat->Option Nat)(w':ai6),
     (∀b cs,Im C.ext s'.hp m w b cs->g b cs)->(∀b n,Sz w b n->S b n)->(∀k' b,k'≠k->m k'=some b->m' k'=some b) ->
     w'.heap[w.heap.size]?=some (.cells c t (0,0))->BlkRep g S m' w' (some w.heap.size) y) /\
    (∀(g:Nat->Array ai3->Prop)(S:Nat->Nat->Prop)(m':Nat->Option Nat),m' k=some w.heap.size->S w.heap.size c.size->Rep g S m' v x)) :
  Step P N R s o ⟨some x,[(k,some y)],rt,rd⟩:=by
 refine⟨fun s' am bj C m a w Q next hC hr hnext=>?_⟩;rw[ait (mY hg _)];refine uD ?_
 have hfr:s'.Fresh k:=by
  rcases bj k (by simp)with h |h
  ·exact aiz h FC
  ·exact h
 obtain⟨v,c,t,n,h1,h2,h3,h4⟩:=h s' am hfr C m a w hr;rw[adx]at hN;unfold Oper.wp;rw[h1];simp only[Oper.upon,hd,Act.put];refine hnext (fun k'=>if k'=k then some w.heap.size else m k') _ _ ?_;have aP:=(hr.alloc hfr (.cells c t) y h2 h3).drawn n
 have:=aP.put d v (some x) (fun z hz=>by
  cases hz;refine⟨by have:=hr.nt;omega,h4 _ _ _ (ait rfl) ⟨c,t,(0,0),?_,ahr _⟩⟩;show(w.heap.push _)[w.heap.size]?=_;simp)
 simpa[AS.app,hd]using this
theorem HQ{ext:Nat->Prop}{hp:Hp}{m:Nat->Option Nat}{w:ai6}{c:Array ai3}{l:List AV}{t:ai4}{k:Nat}
  (h:cS (Im ext hp m w) (Sz w) m c.toList l) (hk:∀x∈l,¬x.Names k)
  {g:Nat->Array ai3->Prop} {S:Nat->Nat->Prop} {m':Nat->Option Nat} {w':ai6}
  (hg:∀b cs,Im ext hp m w b cs->g b cs) (hS:∀b n,Sz w b n->S b n) (hm:∀k' b,k'≠k->m k'=some b->m' k'=some b)
  (hw:w'.heap[w.heap.size]?=some (.cells c t (0,0))):BlkRep g S m' w' (some w.heap.size) (.box l):=by
 have h':=h.mono hg hS (m':=m') (fun x hx k' b hn hb=>hm k' b (fun e=>hk x hx (e▸hn)) hb);exact .box hw (by simpa using h'.1) h'.2.1 (fun j u x hu hx=>h'.2.2 j u x (by simpa using hu) hx)
theorem Ra{d:Nat}{T t:ai4}{ti:TI}(hT:aq P T=some ti)(hz:ti.zero.all Value.oneCell'=true)(hN:aem d N=true) :
  Step P N R s ⟨some d,.alloc T,t,pos,after,none⟩ ⟨some (.ptr d 0),[(d,some (.box (ti.zero.map .v)))],[],[]⟩ :=
 tX rfl rfl hN (by simp) fun s' am hfr C m a w hr => by
  obtain⟨z,h1,h2⟩:=vV hT w;have hc:cS (Im C.ext s'.hp m w) (Sz w) m z.cells.toList (ti.zero.map .v):=by rw[h2];exact .of_zero _ hz
  refine⟨.pointer (some ⟨w.heap.size,0,none⟩),z.cells,T,w.drawn,?_,?_,?_,fun g S m' hm _=>.ptr hm⟩
  ·simp[execOp,Instr.alloc,h1,newVar,newRow]
  ·rintro⟨c,hc,hn⟩;simp only[aft]at hc;obtain⟨v,_,rfl⟩:=hc;cases hn
  ·intro g S m' w' hg hS hm hw;refine HQ hc ?_ hg hS hm hw;rintro x hx hn;simp only[aft]at hx;obtain⟨v,_,rfl⟩:=hx;cases hn
theorem Ev.fresh{x:ai2}{v:AV}{k:Nat}(h:Ev s x v)(hf:s.Fresh k):¬v.Names k:=by
 cases h with
 |tmp h=>exact hf.2.2.1 _ _ h
 |opt h _=>intro hn;exact hf.2.2.1 _ _ h (.opt hn)
 |const=>intro hn;cases hn
 |func=>intro hn;cases hn
theorem VM{x c:AV}{k:Nat}(hc:c∈x.cells)(hn:c.Names k):x.Names k:=by
 cases x <;> simp only[AV.cells,ae4]at hc <;> first
  |(subst hc;exact hn)
  |exact .agg hc hn
theorem QE{d:Nat}{x:ai2}{v:AV}{T t:ai4}(hx:Ev s x v)(hv:v.ok=true)(hN:aem d N=true) :
  Step P N R s ⟨some d,.box T x,t,pos,after,none⟩ ⟨some (.ptr d 0),[(d,some (.box v.cells))],ai x,[]⟩ :=
 tX rfl rfl hN (by simp) fun s' am hfr C m a w hr => by
  have hx':=hx.agree am (fun _ h=>h);have hc:=cS.of_value (hx'.rep hr) hv;have iu:∀c∈v.cells,¬c.Names d:=fun c hc hn=>hx'.fresh hfr (VM hc hn)
  refine⟨.pointer (some ⟨w.heap.size,0,none⟩),(a.eval x).cells,T,w.drawn,?_,?_,?_,fun g S m' hm _=>.ptr hm⟩
  ·simp[execOp,Instr.box,newVar,newRow]
  ·rintro⟨c,hc,hn⟩;exact iu c hc hn
  ·intro g S m' w' hg hS hm hw;exact HQ hc iu hg hS hm hw
theorem zx{w:ai6}{b:Nat}{o:Obj}(hb:w.heap[b]?=some o):b<w.heap.size:=by
 rcases ahq b w.heap.size with h |h
 ·exact h
 ·rw[agw h]at hb;cases hb
theorem QR{w:ai6}{b i:Nat}{c:Array ai3}{t:ai4}{v:ai3}(hb:w.heap[b]?=some (.cells c t (0,0))) :
  w.setCell ⟨b,i,none⟩ v={ w with heap:=w.heap.setIfInBounds b (.cells (c.setIfInBounds i v) t (0,0)) }:=by
 have hlt:=zx hb;unfold World.setCell;congr 1;apply Array.ext_getElem?;intro j;rw[aha,Array.getElem?_modify]
 by_cases h:b=j
 ·subst h;rw[ait rfl,ait rfl,ait hlt,hb];rfl
 ·rw[ais h,ais h]
theorem Ip{α:Type}(l:List α)(n:Nat)(v:α)(vs:List α)(h:n+(vs.length+1)<=l.length) :
  over (l.set n v) (n+1) vs=over l n (v::vs):=by
 apply List.ext_getElem?;intro p;rw[jz _ _ _ (by simp;omega),jz _ _ _ (by simpa using h),afe];simp only[ahx]
 by_cases h1:p<n
 ·rw[ait oz,ais oz,ait h1]
 ·by_cases h2:p=n
  ·subst h2;rw[ait oz,ait rfl,ait oz,ais oz,ait oz,Nat.sub_self];rfl
  ·by_cases h3:p<n+1+vs.length
   ·rw[ais oz,ait h3,ais oz,ait oz,show p-n=p-(n+1)+1 by omega,List.getElem?_cons_succ]
   ·rw[ais oz,ais h3,ais oz,ais h1,ais oz]
theorem zO{b:Nat}{t:ai4}:∀(vs:List ai3)(c:Array ai3)(w:ai6)(off i:Nat),w.heap[b]?=some (.cells c t (0,0)) ->
  off+i+vs.length<=c.size->(∀v∈vs,v.oneCell'=true) ->
  (storeCells ⟨b,off,none⟩ vs i).run P w=.ok () { w with heap:=w.heap.setIfInBounds b (.cells (over c.toList (off+i) vs).toArray t (0,0)) }:=by
 intro vs
 induction vs with
 |nil =>
  intro c w off i hb bA _;have hlt:=zx hb
  have:w.heap.setIfInBounds b (.cells (over c.toList (off+i) []).toArray t (0,0))=w.heap:=by
   apply Array.ext_getElem?;intro j;rw[aha];split
   ·subst_vars;rw[hb];simp[over]
   ·rfl
  simp[storeCells,this]
 |cons v vs ih =>
  intro c w off i hb bA hv;have hlt:=zx hb;simp only[ahx]at bA
  have h1:(store ((⟨b,off,none⟩:Addr).add i) v).run P w=.ok () (w.setCell ⟨b,off+i,none⟩ v):=by
   rw[iX,run_store P w _ v .plain (hv v (by simp)),qt hb];have:off+i<c.size:=by omega
   simp[ag7 this,World.frozen?,hb]
  rw[storeCells,ai8,h1,ai7,QR hb]
  have hb':(w.heap.setIfInBounds b (.cells (c.setIfInBounds (off+i) v) t (0,0)))[b]?=some (.cells (c.setIfInBounds (off+i) v) t (0,0)):=by
   rw[aha,ait rfl,ait hlt]
  rw[ih (c.setIfInBounds (off+i) v) _ off (i+1) hb' (by simp;omega) (fun v hm=>hv v (by simp[hm]))];congr 2;rw[Array.setIfInBounds_setIfInBounds];congr 3;rw[ag0,show off+(i+1)=off+i+1 by omega,Ip _ _ _ _ (by simp;omega)]
theorem E9{T:ai4}{ti:TI}{w:ai6}{b off:Nat}{t:ai4}{c:Array ai3}{v:ai3}(hT:aq P T=some ti)(hb:w.heap[b]?=some (.cells c t (0,0)))
  (aN:v.cells.size=ti.size) (bA:off+ti.size<=c.size) (hv:∀x∈v.cells.toList,x.oneCell'=true) :
  (storeVar T ⟨b,off,none⟩ v).run P w=.ok () { w with heap:=w.heap.setIfInBounds b (.cells (over c.toList off v.cells.toList).toArray t (0,0)) }:=by
 have:=zO (P:=P) v.cells.toList c w off 0 hb (by simp;omega) hv;simp only[aep]at this;simp[storeVar,eM hT,aN,this]
theorem Er{o:Oper}{k:Nat}{y y':Blk}{rt rd:List Nat}(hg:o.guard=none)(hd:o.dst=none)(FC:k∈rd)(hk:s.blk k=some y)
  (h:∀s',gg s s' ⟨none,[(k,some y')],rt,rd⟩->∀C m a w,RelM C s' m a w ->
   ∃(b:Nat)(c c':Array ai3)(t:ai4),m k=some b/\w.heap[b]?=some (.cells c t (0,0))/\c'.size=c.size /\
    (execOp a.eval o).run P w=.ok .skip { w with heap:=w.heap.setIfInBounds b (.cells c' t (0,0)) } /\
    ∀(g:Nat->Array ai3->Prop)(S:Nat->Nat->Prop)(w':ai6),
     (∀b cs,Im C.ext s'.hp m w b cs->g b cs)->(∀b n,Sz w b n->S b n)->w'.heap[b]?=some (.cells c' t (0,0))->BlkRep g S m w' (some b) y') :
  Step P N R s o ⟨none,[(k,some y')],rt,rd⟩:=by
 refine⟨fun s' am bj C m a w Q next hC hr hnext=>?_⟩;rw[ait (mY hg _)];refine uD ?_;obtain⟨b,c,c',t,hm,hb,aN,h1,h2⟩:=h s' am C m a w hr;unfold Oper.wp;rw[h1];simp only[Oper.upon,hd,Act.put];refine hnext m _ _ ?_;have:=hr.write (x':=y') ((am.2 k FC).trans hk) hm hb aN rfl (fun g S hg hS hw=>h2 g S _ hg hS hw);simpa[AS.app,hd]using this
theorem Ib{g:Nat->Array ai3->Prop}{S:Nat->Nat->Prop}{m:Nat->Option Nat}{v:ai3}{x:AV}(h:Rep g S m v x)(hx:x.ok=true) :
  ∀u∈v.cells.toList,u.oneCell'=true:=by
 have hc:=cS.of_value h hx;intro u hu;obtain⟨j,hj,rfl⟩:=afa.1 hu;have hj':j<x.cells.length:=by rw[<- hc.1];exact hj
 exact(hc.2.2 j _ _ (ahm hj) (ahm hj')).one (hc.2.1 j _ (ahm hj'))
theorem Ir{x y:ai2}{k off:Nat}{cs:List AV}{v:AV}{T t:ai4}{ti:TI}
  (hx:Ev s x (.ptr k off)) (hk:s.blk k=some (.box cs)) (hy:Ev s y v) (hv:v.ok=true) (hT:aq P T=some ti) (aN:ad9 v.cells.length ti.size=true)
  (bA:Nat.ble (off+ti.size) cs.length=true) :
  Step P N R s ⟨none,.store T x y,t,pos,after,none⟩ ⟨none,[(k,some (.box (over cs off v.cells)))],ai x++ai y,[k]⟩ :=
 Er rfl rfl (by simp) hk fun s' am C m a w hr => by
  rw[aee]at bA;have aN:=ahi aN;obtain⟨b,hm,db⟩:=ue hr (hx.agree am (fun _ h=>ahn.2 (.inl h)));have kP:=(hy.agree am (fun _ h=>ahn.2 (.inr h))).rep hr;obtain⟨c,t,hw,hn,ho,aR⟩:=yp hr.heap ((am.2 k (by simp)).trans hk) hm;have hc:=cS.of_value kP hv;have fJ:(a.eval y).cells.size=ti.size:=by have:=hc.1;simp at this;omega
  have h0:cS (Im C.ext s'.hp m w) (Sz w) m c.toList cs:=⟨by simpa using hn,ho,fun j u x hu hx=>aR j u x (by simpa using hu) hx⟩
  have h1:=h0.over hc (off:=off) oz;refine⟨b,c,(over c.toList off (a.eval y).cells.toList).toArray,t,hm,hw,?_,?_,?_⟩
  ·simp[over];omega
  ·have dG:=E9 (P:=P) (off:=off) hT hw fJ oz (Ib kP hv);simp[execOp,Instr.storeAt,db,Instr.sureAddr,dG]
  ·intro g S w' hg hS hw';have h2:=h1.mono hg hS (m':=m) (fun _ _ _ _ _ h=>h);exact .box hw' (by simpa using h2.1) h2.2.1 (fun j u x hu hx=>h2.2.2 j u x (by simpa using hu) hx)
theorem Eg{x y:ai2}{k sz i off:Nat}{es:List AV}{e e' v:AV}{T t:ai4}{ti:TI}
  (hx:Ev s x (.eptr k sz i off)) (hk:s.blk k=some (.row sz es)) (he:es[i]?=some e) (hy:Ev s y v) (hv:v.ok=true) (hnm:v.nm=[]) (hT:aq P T=some ti)
  (aN:ad9 v.cells.length ti.size=true) (bA:Nat.ble (off+ti.size) e.cells.length=true) (he':e'.cells=over e.cells off v.cells) :
  Step P N R s ⟨none,.store T x y,t,pos,after,none⟩ ⟨none,[(k,some (.row sz (es.set i e')))],ai x++ai y,[k]⟩ :=
 Er rfl rfl (by simp) hk fun s' am C m a w hr => by
  rw[aee]at bA;have aN:=ahi aN;obtain⟨b,hm,db⟩:=y9 hr (hx.agree am (fun _ h=>ahn.2 (.inl h)));have kP:=(hy.agree am (fun _ h=>ahn.2 (.inr h))).rep hr;obtain⟨c,t,hw,hn,hl,hs,ho,aR⟩:=sN hr.heap ((am.2 k (by simp)).trans hk) hm;have hc:=cS.of_value (Vh kP hnm) hv;have fJ:(a.eval y).cells.size=ti.size:=by have:=hc.1;simp at this;omega
  have hi:i<es.length:=by
   rcases ahq i es.length with h |h
   ·exact h
   ·rw[aht h]at he;cases he
  have hb:=mz (sz:=sz) hi;have lS:=hs i e he;have OA:e'.cells.length=sz:=by rw[he',se _ _ _ oz,lS]
  refine⟨b,c,(over c.toList (i*sz+off) (a.eval y).cells.toList).toArray,t,hm,hw,?_,?_,?_⟩
  ·simp[over];omega
  ·have dG:=E9 (P:=P) (off:=i*sz+off) hT hw fJ oz (Ib kP hv);simp[execOp,Instr.storeAt,db,Instr.sureAddr,dG]
  ·intro g S w' hg hS hw'
   have FD:∀(i':Nat)(e2:AV),(es.set i e')[i']?=some e2->(i'=i/\e2=e')\/(i'≠i/\es[i']?=some e2):=by
    intro i' e2 h;rw[afe]at h;split at h
    ·rename_i jH;subst jH
     cases h;exact .inl ⟨rfl,rfl⟩
    ·rename_i jH;exact .inr ⟨fun e=>jH e.symm,h⟩
   have fd:∀(j:Nat)(z:AV),e'.cells[j]?=some z->z.one=true/\∀u,(over c.toList (i*sz+off) (a.eval y).cells.toList)[i*sz+j]?=some u->Rep (Im C.ext s'.hp m w) (Sz w) cQ u z:=by
    intro j z hz
    have hjs:j<sz:=by
     rw[<- OA];rcases ahq j e'.cells.length with h |h
     ·exact h
     ·rw[aht h]at hz;cases hz
    rw[he',jz _ _ _ oz]at hz;have xc:i*sz+off+(a.eval y).cells.toList.length<=c.toList.length:=by simp;omega
    split at hz
    ·rename_i h1;refine⟨ho i j e z he hz,fun u hu=>?_⟩;rw[jz _ _ _ xc,ait oz]at hu;exact aR i j e u z he hz (by simpa using hu)
    ·rename_i h1;split at hz
     ·rename_i h2;refine⟨hc.2.1 _ z hz,fun u hu=>?_⟩;rw[jz _ _ _ xc,ais oz,ait (by simp;omega)]at hu;refine hc.2.2 _ u z ?_ hz;rw[<- hu];congr 1;omega
     ·rename_i h2;refine⟨ho i j e z he hz,fun u hu=>?_⟩;rw[jz _ _ _ xc,ais oz,ais (by simp;omega)]at hu;exact aR i j e u z he hz (by simpa using hu)
   refine .row hw' (by simp[over];omega) (by simpa using hl) ?_ ?_ ?_
   ·intro i' e2 h;rcases FD i' e2 h with⟨rfl,rfl⟩ |⟨_,h⟩
    ·exact OA
    ·exact hs i' e2 h
   ·intro i' j e2 z h hz;rcases FD i' e2 h with⟨rfl,rfl⟩ |⟨_,h⟩
    ·exact(fd j z hz).1
    ·exact ho i' j e2 z h hz
   ·intro i' j e2 u z h hz hu;refine Rep.mono hg hS ?_ (fun _ _ _ h=>h);rcases FD i' e2 h with⟨rfl,rfl⟩ |⟨aG,h⟩
    ·exact(fd j z hz).2 u (by simpa using hu)
    ·have xc : i * sz + off + (a.eval y).cells.toList.length <= c.toList.length := by simp; omega
     have hj:j<sz:=by
      rw[<- hs i' e2 h];rcases ahq j e2.cells.length with h |h
      ·exact h
      ·rw[aht h]at hz;cases hz
     have hu':(over c.toList (i*sz+off) (a.eval y).cells.toList)[i'*sz+j]?=some u:=by simpa using hu
     rw[jz _ _ _ xc]at hu'
     have hcu:c.toList[i'*sz+j]?=some u:=by
      rcases ahq i' i with hlt |hge
      ·have:=mz (sz:=sz) hlt
       rwa [ait oz]at hu'
      ·have := mz (sz := sz) (show i < i' by omega)
       rwa [ais oz,ais (by simp;omega)]at hu'
     exact aR i' j e2 u z h hz (by simpa using hcu)
end Go.Lw
namespace Go.Lw
variable{P:ai5}{N:Nat}{R:Array Oper}{s:AS}{pos:String}{after:Array Edge}
theorem GO:∀(l:List ai3)(n off:Nat)(arr:Array ai3),off+n+l.length<=arr.size ->
  ((l.zipIdx n).foldl (fun cs p=>cs.setIfInBounds (off+p.2) p.1) arr).toList=over arr.toList (off+n) l:=by
 intro l
 induction l with
 |nil=>intro n off arr h;simp[over]
 |cons v l ih =>
  intro n off arr h;simp only[ahx]at h;simp only[List.zipIdx_cons,afw];rw[ih (n+1) off _ (by simp;omega),ag0,show off+(n+1)=off+n+1 by omega,Ip _ _ _ _ (by simp;omega)]
def wH(place:Nat->Option (Nat×Nat)):List AV->List (Nat×AV)->Option (List AV)
  |l,[]=>some l
  |l,(i,x)::r=>match place i with
    |some (off,n)=>match ad9 x.cells.length n&&Nat.ble (off+n) l.length&&x.ok with
      |true=>wH place (over l off x.cells) r
      |false=>none
    |none=>none
inductive EvP(s:AS):List (Nat×ai2)->List (Nat×AV)->Prop
  |nil:EvP s [] []
  |cons {i:Nat} {o:ai2} {x:AV} {os:List (Nat×ai2)} {xs:List (Nat×AV)} (h:Ev s o x) (hs:EvP s os xs):EvP s ((i,o)::os) ((i,x)::xs)
def tY:List (Nat×ai2)->List Nat
  |[]=>[]
  |(_,o)::os=>ai o++tY os
theorem EvP.agree{s':AS}{u:Out}(h:gg s s' u){os:List (Nat×ai2)}{xs:List (Nat×AV)}(he:EvP s os xs)(hs:∀t∈tY os,t∈u.rt):EvP s' os xs:=by
 induction he with
 |nil=>exact .nil
 |cons h1 _ ih=>exact .cons (h1.agree h (fun t ht=>hs t (by simp[tY,ht]))) (ih (fun t ht=>hs t (by simp[tY,ht])))
theorem RA{g:Nat->Array ai3->Prop}{S:Nat->Nat->Prop}{mm:Nat->Option Nat}{ev:ai2->ai3}{place:Nat->Option (Nat×Nat)}
  {os:List (Nat×ai2)} {xs:List (Nat×AV)} (hp:EvP s os xs) (cZ:∀o x,Ev s o x->Rep g S mm (ev o) x) :
  ∀(c:Array ai3)(l l':List AV),cS g S mm c.toList l->wH place l xs=some l' ->
   ∃c',Instr.fill place c (os.map fun p=>(p.1,ev p.2))=some c'/\cS g S mm c'.toList l':=by
 induction hp with
 |nil=>intro c l l' h hf;cases hf;exact⟨c,rfl,h⟩
 | @cons i o x os xs h1 _ ih =>
  intro c l l' h hf;unfold wH at hf;split at hf
  ·rename_i off n kj;split at hf
   ·rename_i hc;simp only [ahj,aee] at hc;obtain ⟨⟨eL,pK⟩,Fy⟩:=hc;have eL:=ahi eL;have hx:=cS.of_value (cZ o x h1) Fy;have ch:(ev o).cells.size = n:=by have:=hx.1; simp at this; omega
    have fJ:c.size=l.length:=by have:=h.1;simpa using this
    have AP:=h.over hx (off:=off) oz;have xd:=GO (ev o).cells.toList 0 off c (by simp;omega);simp only[aep]at xd;obtain⟨c',h2,h3⟩:=ih ((((ev o).cells.toList.zipIdx 0).foldl (fun cs p=>cs.setIfInBounds (off+p.2) p.1) c)) _ l' (by rw[xd];exact AP) hf;refine⟨c',?_,h3⟩;rw[<- h2];simp only[aiq,Instr.fill,kj];rw[ais (by simp;omega)];congr 1;rw[<- Array.foldl_toList,Array.toList_zipIdx]
   ·cases hf
  ·cases hf
theorem XK{α β:Type}{w:ai6}(f:α->Sem β)(g:α->β):∀(l:List α),(∀x∈l,(f x).run P w=.ok (g x) w)->(l.mapM f).run P w=.ok (l.map g) w:=by
 intro l
 induction l with
 |nil=>intro _;simp
 |cons x l ih =>
  intro h;simp[List.mapM_cons,h x (by simp),ih (fun y hy=>h y (by simp[hy]))]
theorem X9{d:Nat}{parts:Array (Nat×ai2)}{xs:List (Nat×AV)}{l:List AV}{T t:ai4}{ti:TI}
  (hx:EvP s parts.toList xs) (hT:aq P T=some ti) (hk:ti.k=.struct) (hz:ti.zero.all Value.oneCell'=true) (hp:(ti.fs.all fun p=>aem 0 p.2)=true)
  (hl:wH (fun i=>ti.fs[i]?) (ti.zero.map .v) xs=some l) (hN:aem d N=true) :
  Step P N R s ⟨some d,.build T parts,t,pos,after,none⟩ ⟨some (.agg l),[],tY parts.toList,[]⟩ :=
 cA rfl rfl hN fun s' am C m a w hr=>by
  have hx':=hx.agree am (fun _ h=>h);obtain⟨z,h1,h2⟩:=vV hT w;obtain⟨d2,h3,h4,h5,-⟩:=cM hT w;obtain⟨fs,rfl⟩:=G6 (h4.trans hk);have aX:cS (Im C.ext s'.hp m w) (Sz w) m z.cells.toList (ti.zero.map .v):=by rw[h2];exact .of_zero _ hz
  obtain⟨c',h6,h7⟩:=RA (place:=fun i=>ti.fs[i]?) hx' (fun o x h=>h.rep hr) z.cells _ l aX hl
  have hm:(fs.mapM fun f=>(do pure (f.offset,<- sizeOf f.type):Sem (Nat×Nat))).run P w=.ok ti.fs.toArray w:=by
   rw[agx];simp only[Sem.run_map];rw[XK _ (fun f=>(f.offset,match P.info? f.type with |some j=>j.size |none=>0))]
   ·simp only[ai7,<- h5,sR] <;> rfl
   ·intro f hf
    have:(f.offset,match P.info? f.type with |some j=>j.size |none=>0)∈ti.fs:=by
     rw[<- h5];simp only[sR,aft];exact⟨f,hf,rfl⟩
    have:=ahs.1 hp _ this;simp only[adx]at this;cases hi:P.info? f.type with
    |none=>rw[hi]at this;simp at this
    |some j=>simp[sizeOf,typeInfo,hi]
  refine⟨.agg c',?_,.agg (by simpa using h7.1) h7.2.1 (fun j u x hu hx=>h7.2.2 j u x (by simpa using hu) hx)⟩;have kj:(fun x:Nat=>ti.fs.toArray[x]?)=fun i:Nat=>ti.fs[i]?:=by funext i;simp
  have kQ:(parts.map fun p=>(p.1,a.eval p.2)).toList=parts.toList.map fun p=>(p.1,a.eval p.2):=by simp
  have hb:(Instr.build T (parts.map fun p=>(p.1,a.eval p.2))).run P w=.ok (.agg c') w:=by
   simp only[Instr.build,ai8,h1,ai7,h3,hm,kj,kQ,h6,ai9]
  simp only[execOp,ai8,hb,ai7,ai9]
theorem Su{o:Oper}{d:Nat}{x:AV}{rt rd:List Nat}(hg:o.guard=none)(hd:o.dst=some d)(hN:aem d N=true)
  (h:∀s',gg s s' ⟨some x,[],rt,rd⟩->∀C m a w,RelM C s' m a w ->
   ∃(v:ai3)(c:Array ai3)(t:ai4),(execOp a.eval o).run P w=.ok (.value v) { w with heap:=w.heap.push (.cells c t) } /\
    (∀(g:Nat->Array ai3->Prop)(S:Nat->Nat->Prop),(∀b cs,Im C.ext s'.hp m w b cs->g b cs)->(∀b n,Sz w b n->S b n)->g w.heap.size c->Rep g S m v x)) :
  Step P N R s o ⟨some x,[],rt,rd⟩:=by
 refine⟨fun s' am _ C m a w Q next hC hr hnext=>?_⟩;rw[ait (mY hg _)];refine uD ?_;obtain⟨v,c,t,h1,h2⟩:=h s' am C m a w hr;rw[adx]at hN;unfold Oper.wp;rw[h1];simp only[Oper.upon,hd,Act.put];refine hnext m _ _ ?_;have hf:=Bq (aO s'.hp m) w (.cells c t);have bg:∀k' y b',lk s'.hp k'=some y->m k'=some b'->aO s'.hp m b'\/w.heap.size<=b':=fun k' y b' h1 h2=>.inl ⟨k',y,h1,h2⟩
 have aP:RelM C s' m a { w with heap:=w.heap.push (.cells c t) }:=by
  refine hr.update hf (fun t y k' b' _ _ hb'=>hb') bg (fun k' y _ hy=>⟨⟨y,hy⟩,rfl⟩) ⟨?_,hr.heap.inj,?_⟩
  ·intro k y hk;refine BlkRep.mono (eU hf bg) hf.sz (fun _ _ _ h=>h) rfl ?_ (hr.heap.blk k y hk);intro b hb;have:=(hr.heap.sep k y b hk hb).2;show(w.heap.push _)[b]?=_;rw[ag2,ais oz]
  ·intro k y b hk hb;have:=hr.heap.sep k y b hk hb;refine⟨this.1,?_⟩;have:=this.2;simp;omega
 have:=aP.put d v (some x) (fun z hz=>by
  cases hz;refine⟨by have:=hr.nt;omega,h2 _ _ (eU hf bg) hf.sz ⟨fun hc=>?_,?_,t,(0,0),?_⟩⟩
  ·have:=hr.ext_lt hc;omega
  ·rintro⟨k,y,hk,hb⟩;have:=(hr.heap.sep k y _ hk hb).2;omega
  ·show(w.heap.push _)[w.heap.size]?=_;simp)
 simpa[AS.app,hd]using this
end Go.Lw
namespace Go.Lw
variable{P:ai5}{N:Nat}{R:Array Oper}{s:AS}{pos:String}{after:Array Edge}
def fA:List AV->List AV
  |[]=>[]
  |e::es=>e.cells++fA es
theorem xY{sz:Nat}:∀(es:List AV),(∀e∈es,e.cells.length=sz)->(fA es).length=es.length*sz
 |[],_=>by simp[fA]
 |e::es,h=>by
  simp only[fA,aid,ahx,h e (by simp),xY es (fun e he=>h e (by simp[he])),adp];omega
theorem BP{sz:Nat}:∀(es:List AV),(∀e∈es,e.cells.length=sz)->∀(i j:Nat)(e x:AV),es[i]?=some e->e.cells[j]?=some x->(fA es)[i*sz+j]?=some x
 |[],_,i,j,e,x,h,_=>by simp at h
 |e0::es,h,0,j,e,x,he,hx=>by
  simp at he;subst he
  have hj:j<e0.cells.length:=by
   rcases ahq j e0.cells.length with h |h
   ·exact h
   ·rw[aht h]at hx;cases hx
  simp only[fA,Nat.zero_mul,aeg];rw[ah4 hj,hx]
 |e0::es,h,i+1,j,e,x,he,hx=>by
  have h0:=h e0 (by simp);simp only[fA,adp];rw[ahz oz,h0,show i*sz+sz+j-sz=i*sz+j by omega];exact BP es (fun e he=>h e (by simp[he])) i j e x (by simpa using he) hx
def ko(n:Nat):List ai2->List (Nat×ai2)
  |[]=>[]
  |o::os=>(n,o)::ko (n+1) os
theorem ZN{g:Nat->Array ai3->Prop}{S:Nat->Nat->Prop}{mm:Nat->Option Nat}{ev:ai2->ai3}{sz:Nat}
  (cZ:∀o x,Ev s o x->Rep g S mm (ev o) x):∀(os:List ai2)(es:List AV),EvL s os es->(es.all fun e=>ad9 e.cells.length sz&&e.ok)=true ->
   ∀(n:Nat)(c:Array ai3)(A Z:List AV),A.length=n*sz->Z.length=es.length*sz->cS g S mm c.toList (A++Z) ->
    ∃c',Instr.fill (fun i=>some (i*sz,sz)) c ((ko n os).map fun p=>(p.1,ev p.2))=some c'/\cS g S mm c'.toList (A++fA es):=by
 intro os es hl
 induction hl with
 |nil =>
  intro _ n c A Z hA hZ hc;have:Z=[]:=by simpa using hZ
  subst this;exact⟨c,rfl,by simpa[fA]using hc⟩
 | @cons o x os xs h1 _ ih =>
  intro ff n c A Z hA hZ hc;simp only[List.all_cons,ahj]at ff;obtain⟨⟨rz,jI⟩,ff⟩:=ff;have rz:=ahi rz;have hx:=cS.of_value (cZ o x h1) jI;have ch:(ev o).cells.size=sz:=by have:=hx.1;simp at this;omega
  simp only[ahx,adp]at hZ;have fJ:c.size=A.length+Z.length:=by have:=hc.1;simpa using this
  have AP:=hc.over hx (off:=n*sz) (by simp;omega)
  have hoe:over (A++Z) (n*sz) x.cells=(A++x.cells)++Z.drop sz:=by
   unfold over;rw[<- hA,List.take_left,rz,List.drop_append,aib oz,show A.length+sz-A.length=sz by omega,nil_append]
  rw[hoe]at AP;have xd:=GO (ev o).cells.toList 0 (n*sz) c (by simp;omega);simp only[aep]at xd
  obtain⟨c',h2,h3⟩:=ih ff (n+1) ((((ev o).cells.toList.zipIdx 0).foldl (fun cs p=>cs.setIfInBounds (n*sz+p.2) p.1) c)) (A++x.cells) (Z.drop sz)
   (by simp[adp];omega) (by simp;omega) (by rw[xd];exact AP)
  refine⟨c',?_,by simpa[fA,aip]using h3⟩;rw[<- h2];simp only[ko,aiq,Instr.fill];rw[ais (by simp;omega)];congr 1;rw[<- Array.foldl_toList,Array.toList_zipIdx]
theorem Ua{g:Nat->Array ai3->Prop}{S:Nat->Nat->Prop}{m:Nat->Option Nat}(zero:Array ai3)(n:Nat)(hz:zero.toList.all Value.oneCell'=true)(h0:n=0\/zero ≠ #[]) :
  ∃l:List AV,cS g S m ((Array.range n).map (zero[· % zero.size]!)).toList l/\l.length=n:=by
 refine⟨(List.range n).map (fun i=>AV.v (zero[i%zero.size]!)),⟨by simp,?_,?_⟩,by simp⟩
 ·intro j x hx;simp only [aho,ahl] at hx;obtain ⟨i,hi,rfl⟩:=hx;have hn:0 < n:=by have:=ahg hi; simp at this; omega
  have fY:0<zero.size:=by
   rcases h0 with h |h
   ·omega
   ·rcases adm zero.size with h' |h'
    ·exact aiz (Array.size_eq_zero_iff.1 h') h
    ·exact h'
  have hlt:i%zero.size<zero.size:=adn _ fY;simp only[AV.one];rw[getElem!_pos zero _ hlt];exact ahs.1 hz _ (by simp)
 ·intro j u x hu hx;simp only[aho,ahl]at hx;obtain⟨i,hi,rfl⟩:=hx;simp only[Array.toList_map,Array.toList_range,aho,hi,ahd,Option.some.injEq]at hu;subst hu;exact .v _
theorem Fg{T E:ai4}{ti te:TI}{w:ai6}{n:Nat}{g:Nat->Array ai3->Prop}{S:Nat->Nat->Prop}{mm:Nat->Option Nat}{ev:ai2->ai3}
  (hT:aq P T=some ti) (hk:ti.k=.slice E) (hE:aq P E=some te) (hz:te.zero.all Value.oneCell'=true) (aX:ad9 te.zero.length te.size=true)
  (cZ:∀o x,Ev s o x->Rep g S mm (ev o) x) {os:List ai2} {es:List AV} (hl:EvL s os es) (ff:(es.all fun e=>ad9 e.cells.length te.size&&e.ok)=true)
  (hn:n=es.length) (hb:n*te.size<=2^24) :
  ∃c:Array ai3,(Instr.buildSlice T n ((ko 0 os).map fun p=>(p.1,ev p.2)).toArray).run P w =
    .ok (.slice (some ⟨w.heap.size,0,none⟩) n n) { w with heap:=w.heap.push (.cells c E) }/\cS g S mm c.toList (fA es):=by
 obtain⟨d2,h3,h4,-,-⟩:=cM hT w;obtain rfl:=gI (h4.trans hk);obtain⟨z,h5,h6⟩:=vV hE w;have aX:=ahi aX;have xe:z.cells.size=te.size:=by rw[<- ahc,h6];exact aX
 subst hn
 have key:∀zero:Array ai3,zero=(if es.length*te.size=0 then #[]else z.cells)->zero.toList.all Value.oneCell'=true/\(es.length*te.size=0\/zero ≠ #[]):=by
  intro zero h;subst h;split
  ·exact⟨rfl,.inl ‹_›⟩
  ·rename_i h;refine⟨by rw[h6];exact hz,.inr (fun he=>?_)⟩;rw[he]at xe;simp at xe;exact h (by rw[<- xe];omega)
 obtain⟨zero,fB⟩:∃zero:Array ai3,zero=(if es.length*te.size=0 then #[]else z.cells):=⟨_,rfl⟩
 obtain⟨k1,k2⟩:=key zero fB;obtain⟨Z,hZ,hZl⟩:=Ua (g:=g) (S:=S) (m:=mm) zero (es.length*te.size) k1 k2;obtain⟨c',h7,h8⟩:=ZN cZ os es hl ff 0 ((Array.range (es.length*te.size)).map (zero[· % zero.size]!)) [] Z (by simp) hZl (by simpa using hZ);refine⟨c',?_,by simpa using h8⟩;have rA:¬(es.length*te.size>2^24):=by omega
 simp only[Instr.buildSlice,ai8,h3,ai7,eM hE];rw[ais rA]
 by_cases h0:es.length*te.size=0
 ·rw[ait h0]at fB ⊢;subst fB;simp only[ai8,ai9,ai7,h7,newRow,run_newObj]
 ·rw[ais h0]at fB ⊢;subst fB;simp only[ai8,ai9,ai7,h5,h7,newRow,run_newObj]
theorem Vc{g:Nat->Array ai3->Prop}{S:Nat->Nat->Prop}{m:Nat->Option Nat}{b sz:Nat}{c:Array ai3}{es:List AV}(hb:g b c)
  (hc:cS g S cQ c.toList (fA es)) (hs:∀e∈es,e.cells.length=sz) (hl:es.length<=az) :
  Rep g S m (.slice (some ⟨b,0,none⟩) es.length es.length) (.lst sz es):=by
 have ch:=xY es hs;have aN:c.size=es.length*sz:=by have:=hc.1;simp at this;omega
 have fd:∀(i j:Nat)(e x:AV),es[i]?=some e->e.cells[j]?=some x->∃u,c[i*sz+j]?=some u/\x.one=true/\Rep g S cQ u x:=by
  intro i j e x he hx;have hf:=BP es hs i j e x he hx
  have hlt:i*sz+j<(fA es).length:=by
   rcases ahq (i*sz+j) (fA es).length with h |h
   ·exact h
   ·rw[aht h]at hf;cases hf
  have xf:i*sz+j<c.size:=by omega
  refine⟨c[i*sz+j],ag7 xf,hc.2.1 _ x hf,hc.2.2 _ _ x (by simp[xf]) hf⟩
 refine .lst (fun i j=>c.getD (i*sz+j) undef) hb (ahr _) hl (fun i e he=>hs e (ahg he)) ?_ ?_ ?_
 ·intro i j e x he hx;obtain⟨u,_,h,_⟩:=fd i j e x he hx;exact h
 ·intro i j e x he hx;obtain⟨u,h,_,_⟩:=fd i j e x he hx;simp[ahp,h]
 ·intro i j e x he hx;obtain⟨u,h,_,h2⟩:=fd i j e x he hx;simpa[ahp,h]using h2
theorem EV{es:List AV}{sz:Nat}(h:(es.all fun e=>ad9 e.cells.length sz&&e.ok)=true):∀e∈es,e.cells.length=sz:=by
 intro e he;have:=ahs.1 h e he;simp only[ahj]at this;exact ahi this.1
theorem yG{es:List AV}(h:AV.nms es=[]):∀e∈es,e.nm=[]:=by
 induction es with
 |nil=>intro e he;cases he
 |cons x es ih =>
  simp only[AV.nms,List.append_eq_nil_iff]at h;intro e he;rcases ah3.1 he with rfl |he
  ·exact h.1
  ·exact ih h.2 e he
theorem SI{d n:Nat}{os:List ai2}{es:List AV}{T E t:ai4}{ti te:TI}{parts:Array (Nat×ai2)}
  (hp:parts=(ko 0 os).toArray) (hx:EvL s os es) (hT:aq P T=some ti) (hk:ti.k=.slice E) (hE:aq P E=some te) (hz:te.zero.all Value.oneCell'=true)
  (aX:ad9 te.zero.length te.size=true) (ff:(es.all fun e=>ad9 e.cells.length te.size&&e.ok)=true) (hnm:AV.nms es=[])
  (hn:n=es.length) (hb:Nat.ble (n*te.size) 16777216=true) (hb':Nat.ble n 16777216=true) (hN:aem d N=true) :
  Step P N R s ⟨some d,.buildSlice T n parts,t,pos,after,none⟩ ⟨some (.lst te.size es),[],cB os,[]⟩ :=
 Su rfl rfl hN fun s' am C m a w hr=>by
  subst hp;rw[aee]at hb hb';have hx':=hx.agree am (fun _ h=>h);obtain⟨c,h1,h2⟩:=Fg (w:=w) hT hk hE hz aX (fun o x h=>h.rep hr) hx' ff hn oz;refine⟨.slice (some ⟨w.heap.size,0,none⟩) n n,c,E,?_,?_⟩
  ·have : ((ko 0 os).toArray.map fun p => (p.1, a.eval p.2)) = ((ko 0 os).map fun p => (p.1, a.eval p.2)).toArray := by simp
   simp only[execOp,ai8,this,h1,ai7,ai9]
  ·intro g S hg hS hgb;subst hn
   have FF:∀x∈fA es,x.nm=[]:=by
    have hh:=yG hnm;clear h2 h1 hx' hx ff hb hb' hnm am
    induction es with
    |nil=>intro x hx;cases hx
    |cons e es ih =>
     intro x hx;simp only[fA,ahn]at hx;rcases hx with hx |hx
     ·have := hh e (by simp)
      cases e <;> simp only[AV.cells,ae4]at hx <;> first
       |(subst hx;exact this)
       |(exact yG this x hx)
     ·exact ih (fun e he=>hh e (by simp[he])) x hx
   have h3:cS g S cQ c.toList (fA es):=h2.mono hg hS (fun x hx k b hk _=>by have:=hk.mem;rw[FF x hx]at this;cases this);exact Vc hgb h3 (EV ff) (by unfold az;omega)
theorem qS{d:Nat}{T E t:ai4}{ti te:TI}
  (hT:aq P T=some ti) (hk:ti.k=.slice E) (hE:aq P E=some te) (hz:te.zero.all Value.oneCell'=true)
  (aX:ad9 te.zero.length te.size=true) (hN:aem d N=true) :
  Step P N R s ⟨some d,.buildSlice T 0 #[],t,pos,after,none⟩ ⟨some (.ms d te.size 0 0),[(d,some (.row te.size []))],[],[]⟩ :=
 tX rfl rfl hN (by simp) fun s' am hfr C m a w hr => by
  obtain⟨c,h1,h2⟩:=Fg (w:=w) (n:=0) hT hk hE hz aX (fun o x h=>h.rep hr) (.nil:EvL s' [] []) rfl rfl oz;refine⟨.slice (some ⟨w.heap.size,0,none⟩) 0 0,c,E,w.drawn,?_,fun h=>h,?_,fun g S m' hm _=>.ms0 _ _ _ _⟩
  ·have h1':(Instr.buildSlice T 0 #[]).run P w = .ok (.slice (some ⟨w.heap.size, 0, none⟩) 0 0) { w with heap:=w.heap.push (.cells c E) }:=h1;have:((#[]:Array (Nat × ai2)).map fun (i,x)=>(i,a.eval x)) = #[]:=by simp
   simp only[execOp,ai8,this,h1',ai7,ai9]
  ·intro g S m' w' hg hS hm hw;exact .row hw (by simp) (by simp) (by simp) (by simp) (by simp)
theorem gh{d:Nat}{x:ai2}{n:Int}{T E t:ai4}{ti te:TI}(hx:Ev s x (.v (.int .i64 n)))
    (hT:aq P T=some ti) (hk:ti.k=.slice E) (hE:aq P E=some te) (hz:te.zero.all Value.oneCell'=true)
    (aX:(ad9 te.zero.length te.size&&aem 0 te.size&&aem 0 te.bytes&&(te.ag||ad9 te.size 1))=true)
    (h0:0<=n) (hb:n*te.bytes<=281474976710656) (hN:aem d N=true) :
    Step P N R s ⟨some d,.makeSlice T x x,t,pos,after,none⟩
      ⟨some (.ms d te.size 0 n.toNat),[(d,some (.row te.size (afq n.toNat (j8 te.ag (te.zero.map .v)))))],ai x,[]⟩ :=
  tX rfl rfl hN (by simp) fun s' am hfr C m a w hr => by
    have db:=m9 hr (hx.agree am (fun _ h=>h));simp only[ahj,aio,adx]at aX;obtain⟨⟨⟨aX,co⟩,ki⟩,hz3⟩:=aX;have aX:=ahi aX;obtain⟨d2,h3,h4,-,-⟩:=cM hT w;obtain rfl:=gI (h4.trans hk);obtain⟨z,h5,h6⟩:=vV hE w;obtain⟨ie,h7,h8,-⟩:=LZ hE w;have xe:z.cells.size=te.size:=by rw[<- ahc,h6];exact aX
    have rA:n<=281474976710656:=by
      have:n*1<=n*te.bytes:=Int.mul_le_mul_of_nonneg_left oz h0;omega
    have kR:IntKind.i64.wrap n=n:=IntWalk.i64_in n oz;obtain⟨zero,fB⟩:∃zero:Array ai3,zero=(if n.toNat*te.size=0 then #[]else z.cells):=⟨_,rfl⟩
    refine⟨.slice (some ⟨w.heap.size,0,none⟩) n.toNat n.toNat,(Array.range (n.toNat*te.size)).map (zero[· % zero.size]!),E,w.drawn,?_,fun h=>h,?_,?_⟩
    · have fZ:(Instr.makeSlice T (.int .i64 n) (.int .i64 n)).run P w =
          .ok (.slice (some ⟨w.heap.size,0,none⟩) n.toNat n.toNat) { w with heap:=w.heap.push (.cells ((Array.range (n.toNat*te.size)).map (zero[· % zero.size]!)) E) }:=by
        have hc:¬((n<0\/281474976710656<(ie.bytes:Int)*n)\/n<0):=by
          rw[h8,Int.mul_comm];omega
        simp only[Instr.makeSlice,ai8,h3,ai7,asInt,asIntOf,ai9,h7,kR];rw[ais (by simpa using hc)];simp only[ai8,run_askRoom,ai7,eM hE]
        by_cases h0:n.toNat*te.size=0
        · rw[ait h0]at fB ⊢
          subst fB;simp only[ai8,ai9,ai7,newRow,run_newObj]
        · rw[ais h0]at fB ⊢
          subst fB;simp only[ai8,ai9,ai7,h5,newRow,run_newObj]
      simp only[execOp,db,ai8,fZ,ai7,ai9]
    · intro g S m' w' hg hS hm hw
      have fJ:(j8 te.ag (te.zero.map .v)).cells=te.zero.map .v:=by
        rcases hz3 with h |h
        · rw[h];rfl
        · have h:=ahi h
          match hq:te.zero with
          |[]=>rw[hq]at aX;simp at aX;omega
          |[u] =>
            rw[hq]at hz;simp only[List.all_cons,List.all_nil,Bool.and_true]at hz;cases te.ag <;> simp[j8,AV.cells]
          |u::u'::r=>rw[hq]at aX;simp at aX;omega
      have fd:∀(i j:Nat)(x:AV),i<n.toNat->(te.zero.map AV.v)[j]?=some x->x.one=true/\∀u,((Array.range (n.toNat*te.size)).map (zero[· % zero.size]!))[i*te.size+j]?=some u->x=.v u:=by
        intro i j x hi hx;simp only[aho,ahl]at hx;obtain⟨v,hv,rfl⟩:=hx;refine⟨ahs.1 hz v (ahg hv),?_⟩;intro u hu
        have hj:j<te.size:=by
          rw[<- aX];rcases ahq j te.zero.length with h |h
          · exact h
          · rw[aht h]at hv;cases hv
        have fY:¬n.toNat*te.size=0:=by
          have:=adw (show 0<n.toNat by omega) co;omega
        rw[ais fY]at fB;subst fB;have a8:=mz (sz:=te.size) hi;have hlt:i*te.size+j<n.toNat*te.size:=by omega
        simp only[Array.getElem?_map,Array.getElem?_range,hlt,if_true,ahd,Option.some.injEq]at hu;have xg:(i*te.size+j)%z.cells.size=j:=by rw[xe,adk,Nat.add_mul_mod_self_right,ad5 hj]
        rw[xg,getElem!_pos z.cells j oz]at hu;rw[<- h6,ag9,ag7 oz]at hv;cases hv;rw[hu]
      refine .row hw (by simp) (by unfold az;simp;omega) ?_ ?_ ?_
      · intro i e he
        rw[aia]at he;split at he
        · cases he;rw[fJ];simpa using aX
        · cases he
      · intro i j e x he hx
        rw[aia]at he;split at he
        · rename_i hi;cases he;rw[fJ]at hx;exact(fd i j x hi hx).1
        · cases he
      · intro i j e u x he hx hu
        rw[aia]at he;split at he
        · rename_i hi;cases he;rw[fJ]at hx
          rw[(fd i j x hi hx).2 u hu];exact .v _
        · cases he
    · intro g S m' hm hS
      have:=Rep.ms (g:=g) (S:=S) (m:=m') (k:=d) (sz:=te.size) (off:=0) (len:=n.toNat) (cap:=n.toNat) hm (ahr _) (by simpa using hS);simpa using this
end Go.Lw
namespace Go.Lw
variable{P:ai5}{N:Nat}{R:Array Oper}{s:AS}{pos:String}{after:Array Edge}
theorem RelM.rk{C:Ctx}{m:Nat->Option Nat}{a:Act}{w:ai6}(h:RelM C s m a w){k d:Nat}{y:Blk}(hk:lk s.hp k=some y)(hd:s.Fresh d) :
  RelM C ⟨s.sl,(d,some y)::(k,none)::s.hp⟩ (fun k'=>if k'=d then m k else m k') a w:=by
 have aG:k≠d:=fun e=>by rw[e,hd.1]at hk;cases hk
 have bE:∀k' z,lk ((d,some y)::(k,none)::s.hp) k'=some z->(k'=d/\z=y)\/(k'≠d/\k'≠k/\lk s.hp k'=some z):=by
  intro k' z hz;rw[aA]at hz;split at hz
  ·cases hz;exact .inl ⟨‹_›,rfl⟩
  ·rw[aA]at hz;split at hz
   ·cases hz
   ·exact .inr ⟨‹_›,‹_›,hz⟩
 have hf:=Frame.refl (aO s.hp m) w
 have bg:∀k' z b,lk ((d,some y)::(k,none)::s.hp) k'=some z->(if k'=d then m k else m k')=some b->aO s.hp m b\/w.heap.size<=b:=by
  intro k' z b hz hb;rcases bE k' z hz with⟨h1,h2⟩ |⟨h1,h2,h3⟩
  ·rw[ait h1]at hb;exact .inl ⟨k,y,hk,hb⟩
  ·rw[ais h1]at hb;exact .inl ⟨k',z,h3,hb⟩
 have pL:∀z:Blk,¬z.Names d->∀k'' b,z.Names k''->m k''=some b->(if k''=d then m k else m k'')=some b:=by
  intro z hz k'' b hn hb;rw[ais (fun(e:k''=d)=>hz (e▸hn))];exact hb
 refine h.update hf ?_ bg ?_ ⟨?_,?_,?_⟩
 ·intro t z k' b hz hn hb;have:k'≠d:=fun e=>hd.2.2.1 t z hz (e▸hn)
  rw[ais this];exact hb
 ·intro k' z nX hz;rcases bE k' z hz with⟨h1,h2⟩ |⟨h1,h2,h3⟩
  ·have:=hd.2.1;omega
  ·exact⟨⟨z,h3⟩,by rw[ais h1]⟩
 ·intro k' z hz;rcases bE k' z hz with⟨h1,h2⟩ |⟨h1,h2,h3⟩
  ·subst h2;rw[ait h1];exact BlkRep.mono (w:=w) (eU hf bg) hf.sz (pL z (hd.2.2.2 k z hk)) rfl (fun _ _=>rfl) (h.heap.blk k z hk)
  ·rw[ais h1];exact BlkRep.mono (w:=w) (eU hf bg) hf.sz (pL z (hd.2.2.2 k' z h3)) rfl (fun _ _=>rfl) (h.heap.blk k' z h3)
 ·intro k1 k2 z1 z2 b h1 h2 bn a8;rcases bE k1 z1 h1 with⟨e1,e2⟩ |⟨e1,e2,e3⟩ <;> rcases bE k2 z2 h2 with⟨g1,g2⟩ |⟨g1,g2,g3⟩
  ·rw[e1,g1]
  ·rw[ait e1]at bn;rw[ais g1]at a8
   exact aiz (h.heap.inj k k2 y z2 b hk g3 bn a8).symm g2
  ·rw[ais e1]at bn;rw[ait g1]at a8
   exact aiz (h.heap.inj k1 k z1 y b e3 hk bn a8) e2
  ·rw[ais e1]at bn;rw[ais g1]at a8
   exact h.heap.inj k1 k2 z1 z2 b e3 g3 bn a8
 ·intro k' z b hz hb;rcases bE k' z hz with⟨h1,h2⟩ |⟨h1,h2,h3⟩
  ·rw[ait h1]at hb;exact h.heap.sep k y b hk hb
  ·rw[ais h1]at hb;exact h.heap.sep k' z b h3 hb
theorem RelM.fewer{C:Ctx}{m:Nat->Option Nat}{a:Act}{w:ai6}(h:RelM C s m a w){hp':Hp}(hs:∀k z,lk hp' k=some z->lk s.hp k=some z) :
  RelM C ⟨s.sl,hp'⟩ m a w:=by
 have hf:=Frame.refl (aO s.hp m) w;have bg:∀k' z b,lk hp' k'=some z->m k'=some b->aO s.hp m b\/w.heap.size<=b:=fun k' z b hz hb=>.inl ⟨k',z,hs k' z hz,hb⟩
 refine h.update hf (fun _ _ _ _ _ _ hb=>hb) bg (fun k' z _ hz=>⟨⟨z,hs k' z hz⟩,rfl⟩) ⟨?_,?_,?_⟩
 ·intro k' z hz;exact BlkRep.mono (w:=w) (eU hf bg) hf.sz (fun _ _ _ h=>h) rfl (fun _ _=>rfl) (h.heap.blk k' z (hs k' z hz))
 ·intro k1 k2 z1 z2 b h1 h2;exact h.heap.inj k1 k2 z1 z2 b (hs _ _ h1) (hs _ _ h2)
 ·intro k' z b hz hb;exact h.heap.sep k' z b (hs k' z hz) hb
theorem RelM.virt{C:Ctx}{m:Nat->Option Nat}{a:Act}{w:ai6}(h:RelM C s m a w){d:Nat}(sz:Nat)(hd:s.Fresh d) :
  RelM C ⟨s.sl,(d,some (.row sz []))::s.hp⟩ (fun k'=>if k'=d then none else m k') a w:=by
 have bE:∀k' z,lk ((d,some (.row sz []))::s.hp) k'=some z->(k'=d/\z=.row sz [])\/(k'≠d/\lk s.hp k'=some z):=by
  intro k' z hz;rw[aA]at hz;split at hz
  ·cases hz;exact .inl ⟨‹_›,rfl⟩
  ·exact .inr ⟨‹_›,hz⟩
 have hf:=Frame.refl (aO s.hp m) w
 have bg:∀k' z b,lk ((d,some (.row sz []))::s.hp) k'=some z->(if k'=d then none else m k')=some b->aO s.hp m b\/w.heap.size<=b:=by
  intro k' z b hz hb;rcases bE k' z hz with⟨h1,h2⟩ |⟨h1,h3⟩
  ·rw[ait h1]at hb;cases hb
  ·rw[ais h1]at hb;exact .inl ⟨k',z,h3,hb⟩
 refine h.update hf ?_ bg ?_ ⟨?_,?_,?_⟩
 ·intro t z k' b hz hn hb;rw[ais (fun(e:k'=d)=>hd.2.2.1 t z hz (e▸hn))];exact hb
 ·intro k' z nX hz;rcases bE k' z hz with⟨h1,h2⟩ |⟨h1,h3⟩
  ·have:=hd.2.1;omega
  ·exact⟨⟨z,h3⟩,by rw[ais h1]⟩
 ·intro k' z hz;rcases bE k' z hz with⟨h1,h2⟩ |⟨h1,h3⟩
  ·subst h2;rw[ait h1];exact .none sz
  ·rw[ais h1];exact BlkRep.mono (w:=w) (eU hf bg) hf.sz (fun k'' b hn hb=>by rw[ais (fun(e:k''=d)=>hd.2.2.2 k' z h3 (e▸hn))];exact hb) rfl (fun _ _=>rfl) (h.heap.blk k' z h3)
 ·intro k1 k2 z1 z2 b h1 h2 bn a8;rcases bE k1 z1 h1 with⟨e1,_⟩ |⟨e1,e3⟩ <;> rcases bE k2 z2 h2 with⟨g1,_⟩ |⟨g1,g3⟩
  ·rw[e1,g1]
  ·rw[ait e1]at bn;cases bn
  ·rw[ait g1]at a8;cases a8
  ·rw[ais e1]at bn;rw[ais g1]at a8
   exact h.heap.inj k1 k2 z1 z2 b e3 g3 bn a8
 ·intro k' z b hz hb;rcases bE k' z hz with⟨h1,_⟩ |⟨h1,h3⟩
  ·rw[ait h1]at hb;cases hb
  ·rw[ais h1]at hb;exact h.heap.sep k' z b h3 hb
theorem Fo{C:Ctx}{m:Nat->Option Nat}{w:ai6}{hp:Hp}{v:ai3}{sz:Nat}{xs:List AV}(h:Rep (Im C.ext hp m w) (Sz w) m v (.lst sz xs))(aN:0<sz) :
  (xs=[]/\∃a cap,v=.slice a 0 cap)\/∃b off cap cs,v=.slice (some ⟨b,off,none⟩) xs.length cap/\0<xs.length/\Im C.ext hp m w b cs/\off+xs.length*sz<=cs.size /\
   xs.length<=az/\(∀(i:Nat)(e:AV),xs[i]?=some e->e.cells.length=sz)/\(∀(i j:Nat)(e c:AV),xs[i]?=some e->e.cells[j]?=some c->c.one=true) /\
   ∀(i j:Nat)(e c:AV)(u:ai3),xs[i]?=some e->e.cells[j]?=some c->cs[off+i*sz+j]?=some u->Rep (Im C.ext hp m w) (Sz w) cQ u c:=by
 cases h with
 |lst0 a cap=>exact .inl ⟨rfl,a,cap,rfl⟩
 | @lst _ b off cap _ _ cs u hb hc hl hs h1 hu hr =>
  rcases adm xs.length with h0 |h0
  ·have:xs=[]:=afn h0;subst this;exact .inl ⟨rfl,_,_,rfl⟩
  refine .inr ⟨b,off,cap,cs,rfl,h0,hb,?_,hl,hs,h1,?_⟩
  ·have he:xs[xs.length - 1]? = some (xs[xs.length - 1]'oz):=ahm oz;have lS:=hs _ _ he;have hc':=hu (xs.length - 1) (sz - 1) _ _ he (ahm (show sz - 1 < _ by omega))
   have hlt:off+(xs.length-1)*sz+(sz-1)<cs.size:=by
    rcases ahq (off+(xs.length-1)*sz+(sz-1)) cs.size with h |h
    ·exact h
    ·rw[agw h]at hc';cases hc'
   have:xs.length*sz=(xs.length-1)*sz+sz:=by
    rw[<- adp];congr 1;omega
   omega
  ·intro i j e c v he hc hv;have:=hu i j e c he hc;rw[this]at hv;cases hv
   exact hr i j e c he hc
theorem JO{g:Nat->Array ai3->Prop}{S:Nat->Nat->Prop}{m:Nat->Option Nat}{w':ai6}{b sz off:Nat}{es xs:List AV}{c cs aw:Array ai3}{t:ai4}
  (hw:w'.heap[b]?=some (.cells aw t (0,0))) (hn:(es.length+xs.length)*sz<=aw.size) (hl:es.length+xs.length<=az)
  (hs:∀(i:Nat)(e:AV),es[i]?=some e->e.cells.length=sz) (h1:∀(i j:Nat)(e x:AV),es[i]?=some e->e.cells[j]?=some x->x.one=true)
  (hr:∀(i j:Nat)(e:AV)(u:ai3)(x:AV),es[i]?=some e->e.cells[j]?=some x->c[i*sz+j]?=some u->Rep g S cQ u x)
  (hs':∀(i:Nat)(e:AV),xs[i]?=some e->e.cells.length=sz) (h1':∀(i j:Nat)(e x:AV),xs[i]?=some e->e.cells[j]?=some x->x.one=true)
  (hr':∀(i j:Nat)(e:AV)(x:AV)(u:ai3),xs[i]?=some e->e.cells[j]?=some x->cs[off+i*sz+j]?=some u->Rep g S cQ u x)
  (ho:∀p,p<es.length*sz->aw[p]?=c[p]?) (hn':∀p,p<xs.length*sz->aw[es.length*sz+p]?=cs[off+p]?) :
  BlkRep g S m w' (some b) (.row sz (es++xs)):=by
 have split:∀(i:Nat)(e:AV),(es++xs)[i]?=some e->es[i]?=some e\/(es.length<=i/\xs[i-es.length]?=some e):=by
  intro i e he;rcases ahq i es.length with h |h
  ·rw[ah4 h]at he;exact .inl he
  ·rw[ahz h]at he;exact .inr ⟨h,he⟩
 have lt_of:∀{l:List AV}{i:Nat}{e:AV},l[i]?=some e->i<l.length:=by
  intro l i e h;rcases ahq i l.length with h' |h'
  ·exact h'
  ·rw[aht h']at h;cases h
 refine .row hw (by simpa using hn) (by simpa using hl) ?_ ?_ ?_
 ·intro i e he;rcases split i e he with h |⟨_,h⟩
  ·exact hs i e h
  ·exact hs' _ e h
 ·intro i j e x he hx;rcases split i e he with h |⟨_,h⟩
  ·exact h1 i j e x h hx
  ·exact h1' _ j e x h hx
 ·intro i j e u x he hx hu;rcases split i e he with h |⟨hge,h⟩
  ·have hi:=lt_of h;have hj:=lt_of hx;rw[hs i e h]at hj;have:=mz (sz:=sz) hi;rw[ho _ oz]at hu;exact hr i j e u x h hx hu
  ·have hi:=lt_of h;have hj:=lt_of hx;rw[hs' _ e h]at hj;have:=mz (sz:=sz) hi
   have e1:i*sz+j=es.length*sz+((i-es.length)*sz+j):=by
    rw[<- aec,<- ad2];congr 2;omega
   rw[e1,hn' _ oz,<- aec]at hu;exact hr' _ j e x u h hx hu
theorem w7{o:Oper}{u:Out}(hg:o.guard=none)
  (h:∀s',gg s s' u->jx s' u->∀C m a w (next:Act->ai6->Prop),C.nt=N->RelM C s' m a w->(∀m' a' w',RelM C (s'.app o.dst u) m' a' w'->next a' w') ->
   o.upon P a next (fun _ _ _=>False) ((execOp a.eval o).run P w)):Step P N R s o u:=by
 refine⟨fun s' am bj C m a w Q next hC hr hnext=>?_⟩;rw[ait (mY hg _)];refine uD ?_;have:=h s' am bj C m a w next hC hr hnext;unfold Oper.wp;generalize(execOp a.eval o).run P w=r at *;cases r with
 |ok n w' =>
  cases n <;> simp only[Oper.upon]at this ⊢ <;> first
   |exact this
   |exact this.mono (fun e w'' he=>by cases e <;> first |exact he |exact he.elim |(obtain⟨_,_,h⟩:=he;exact h.elim))
 |halt x w'=>cases x <;> simp only[Oper.upon]at this
end Go.Lw
namespace Go.Lw
variable{P:ai5}{N:Nat}{R:Array Oper}{s:AS}{pos:String}{after:Array Edge}
theorem ua{ρ:ai2->ai3}{d:Option Tmp}{x y:ai2}{T t:ai4}{w w':ai6}{v:ai3}
  (h:(Builtin.append_ #[T,T] t #[ρ x,ρ y]).run P w=.ok v w') :
  (execOp ρ ⟨d,.call ⟨.builtin .append,#[x,y],#[T,T]⟩,t,pos,after,none⟩).run P w=.ok (.value v) w':=by
 simp[execOp,resolve,invoke,builtin,h]
theorem Lj{T t E:ai4}{ti te:TI}{w:ai6}{base a:Option Addr}{len cap cap':Nat}(hT:aq P T=some ti)(hk:ti.k=.slice E)(hE:aq P E=some te)
  (bA:len<=cap):(Builtin.append_ #[T,T] t #[.slice base len cap,.slice a 0 cap']).run P w=.ok (.slice base len cap) w:=by
 obtain⟨d2,h3,h4,-,hu⟩:=cM hT w;obtain rfl:=gI (h4.trans hk)
 have iQ:(Builtin.firstCells te.size 0 (.slice a 0 cap')).run P w=.ok #[] w:=by
  cases a with
  |none=>exact run_firstCells_none w _ _ _ _
  |some a=>exact run_firstCells_some w _ _ a _ _ [] (by simp) (by simp)
 cases base with
 |none=>simp[Builtin.append_,h3,eM hE,Builtin.lenOf,bA,iQ]
 |some b=>simp[Builtin.append_,h3,eM hE,Builtin.lenOf,bA,iQ,storeCells]
theorem VX{T t E:ai4}{ti te:TI}{w:ai6}{b len n cap cap':Nat}{a:Addr}{c:Array ai3}{t2:ai4}(hT:aq P T=some ti)(hk:ti.k=.slice E)(hE:aq P E=some te)
  (hw:w.heap[b]?=some (.cells c t2 (0,0))) (news:List ai3) (cJ:news.length=n*te.size) (mR:∀(j:Nat) v,news[j]?=some v->w.cell? (a.add j)=some v)
  (iR:∀u∈news,u.oneCell'=true) (xh:len+n<=cap) (ac7:len*te.size+n*te.size<=c.size) :
  (Builtin.append_ #[T,T] t #[.slice (some ⟨b,0,none⟩) len cap,.slice (some a) n cap']).run P w =
   .ok (.slice (some ⟨b,0,none⟩) (len+n) cap) { w with heap:=w.heap.setIfInBounds b (.cells (over c.toList (len*te.size) news).toArray t2 (0,0)) }:=by
 obtain⟨d2,h3,h4,-,hu⟩:=cM hT w;obtain rfl:=gI (h4.trans hk);have iQ:=run_firstCells_some (P:=P) w te.size n a n cap' _ cJ mR;have cg:=zO (P:=P) news c w (len*te.size) 0 hw (by rw[cJ];omega) iR;simp only[aep]at cg;simp[Builtin.append_,h3,eM hE,Builtin.lenOf,xh,iQ,iX,cg]
theorem VI{C:Ctx}{m:Nat->Option Nat}{a:Act}{w:ai6}(hr:RelM C s m a w){b n:Nat}{c:Array ai3}{t:ai4}(hw:w.heap[b]?=some (.cells c t (0,0)))
  (h:Sz w b n):n<=c.size:=by
 obtain⟨c',t',f',h1,h2⟩:=h;rw[hw]at h1;cases h1;exact h2
theorem Fresh.row{d k:Nat}{z:Blk}(h:s.Fresh d)(aG:d≠k)(hz:¬z.Names d):AS.Fresh ⟨s.sl,(k,some z)::s.hp⟩ d:=by
 refine⟨?_,h.2.1,h.2.2.1,?_⟩
 ·simp only[aA,ais aG];exact h.1
 ·intro k' x hx;simp only[aA]at hx;split at hx
  ·cases hx;exact hz
  ·exact h.2.2.2 k' x hx
theorem yC{C:Ctx}{m:Nat->Option Nat}{a:Act}{w:ai6}{d k sz n:Nat}{y:Blk}{v:ai3}{rt rd:List Nat}{next:Act->ai6->Prop}
  (hr:RelM C ⟨s.sl,(d,some y)::(k,none)::s.hp⟩ m a w) (hd:d<C.nt)
  (hv:Rep (Im C.ext ((d,some y)::(k,none)::s.hp) m w) (Sz w) m v (.ms d sz 0 n))
  (hnext:∀m' a' w',RelM C (s.app (some d) ⟨some (.ms d sz 0 n),[(d,some y),(k,none)],rt,rd⟩) m' a' w'->next a' w'):next (a.put (some d) v) w:=by
 refine hnext m _ _ ?_;have:=hr.put d v (some (.ms d sz 0 n)) (fun z hz=>by cases hz;exact⟨ah2 hd hr.nt,hv⟩);simpa[AS.app,Act.put]using this
theorem Rq{C:Ctx}{m:Nat->Option Nat}{a:Act}{w:ai6}{d k sz:Nat}{es xs:List AV}{E:ai4}{aw:Array ai3}{cap:Nat}{rt rd:List Nat}{next:Act->ai6->Prop}
  (hr:RelM C s m a w) (hfr:s.Fresh d) (hd:d<C.nt)
  (mP:∀(g:Nat->Array ai3->Prop)(S:Nat->Nat->Prop)(m':Nat->Option Nat)(w':ai6),
   (∀b cs,Im C.ext s.hp m w b cs->g b cs)->(∀b n,Sz w b n->S b n)->w'.heap[w.heap.size]?=some (.cells aw E (0,0))->BlkRep g S m' w' (some w.heap.size) (.row sz (es++xs)))
  (xi:es.length+xs.length<=cap) (aN:cap*sz<=aw.size)
  (hnext:∀m' a' w',RelM C (s.app (some d) ⟨some (.ms d sz 0 (es.length+xs.length)),[(d,some (.row sz (es++xs))),(k,none)],rt,rd⟩) m' a' w'->next a' w') :
  next (a.put (some d) (.slice (some ⟨w.heap.size,0,none⟩) (es.length+xs.length) cap)) (w.drew.alloc (.cells aw E)):=by
 have h1:=hr.drawn (w.drawn+1);have h2:=h1.alloc hfr (.cells aw E) (.row sz (es++xs)) (fun h=>h) (fun g S m' w' hg hS _ hw=>mP g S m' w' hg hS hw)
 have h3:=h2.fewer (hp':=(d,some (.row sz (es++xs)))::(k,none)::s.hp) (by
  intro k' z hz;simp only[aA]at hz ⊢;split at hz
  ·rename_i h;rw[ait h];exact hz
  ·rename_i h;rw[ais h]
   split at hz
   ·cases hz
   ·exact hz)
 refine yC h3 hd ?_ hnext
 have:=Rep.ms (g:=Im C.ext ((d,some (.row sz (es++xs)))::(k,none)::s.hp) (fun k'=>if k'=d then some w.heap.size else m k') (w.drew.alloc (.cells aw E)))
  (S:=Sz (w.drew.alloc (.cells aw E))) (m:=fun k'=>if k'=d then some w.heap.size else m k') (k:=d) (sz:=sz) (off:=0) (len:=es.length+xs.length) (cap:=cap)
  (ait rfl) xi ⟨aw,E,(0,0),by show(w.heap.push _)[w.heap.size]?=_;simp,by simpa using aN⟩
 simpa using this
set_option maxHeartbeats 1000000 in
theorem N6{d k sz len:Nat}{xv:AV}{es xs:List AV}{x y:ai2}{T E t:ai4}{ti te:TI}
  (hx:Ev s x xv) (mQ:∀g S m v,Rep g S m v xv->Rep g S m v (.ms k sz 0 len)) (hk:s.blk k=some (.row sz es)) (ch:len=es.length) (hy:Ev s y (.lst sz xs)) (hT:aq P T=some ti) (iw:ti.k=.slice E) (hE:aq P E=some te)
  (aN:te.size=sz) (aX:(ad9 te.zero.length te.size&&aem 0 te.size&&aem 0 te.bytes)=true) (hb:(len+xs.length)*te.bytes<=140737488355328) (gS:ad9 d k=false)
  (hN:aem d N=true) :
  Step P N R s ⟨some d,.call ⟨.builtin .append,#[x,y],#[T,T]⟩,t,pos,after,none⟩
   ⟨some (.ms d sz 0 (len+xs.length)),[(d,some (.row sz (es++xs))),(k,none)],ai x++ai y,[k]⟩:=by
 refine w7 rfl ?_;intro s' am bj C m a w next hC hr hnext;subst aN;subst ch
 simp only[ahj,adx]at aX;obtain⟨⟨aX,co⟩,ki⟩:=aX;have aX:=ahi aX;have gS:=ad3 gS;rw[adx]at hN;have cp:lk s'.hp k=some (.row te.size es):=(am.2 k (by simp)).trans hk
 have hfr:s'.Fresh d:=by
  rcases bj d (by simp)with h |h
  ·exact aiz (by simpa using h) gS
  ·exact h
 have hd:d<C.nt:=by omega
 have di:=mQ _ _ _ _ ((hx.agree am (fun _ h=>ahn.2 (.inl h))).rep hr);have kP:=(hy.agree am (fun _ h=>ahn.2 (.inr h))).rep hr;obtain⟨i,dd,z,hi,hu,hz,rfl⟩:=wd hE;obtain⟨d2,h3,h4,-,FG⟩:=cM hT w;obtain rfl:=gI (h4.trans iw);simp only at aX co ki hb cp di kP hnext ⊢
 have a8:es.length+xs.length<=140737488355328:=by
  have:=ahu (es.length+xs.length) (show 1<=i.bytes by omega);omega
 obtain⟨ll,jh⟩:∃ll,ll=es.length:=⟨_,rfl⟩
 rw[<- jh]at di;rcases Fo kP co with⟨rfl,a1,cap1,gk⟩ |⟨b1,off1,cap1,cs,gk,kS,cE,OB,pM,iS,gn,aP⟩
 ·-- nothing
  generalize db:a.eval x=u at di;cases di with
  |ms0 a0 =>
   have ff:es=[]:=afn oz;have dG:=Lj (t:=t) (w:=w) (base:=a0) (a:=a1) (len:=0) (cap:=0) (cap':=cap1) hT iw hE (ahr _);have kl:=ua (d:=some d) (x:=x) (y:=y) (pos:=pos) (after:=after) (ρ:=a.eval) (by rw[db,gk];exact dG);rw[kl];simp only[ae5,ah9,aep]at hnext ⊢;exact yC (hr.rk cp hfr) hd (by rw[show es.length=0 by omega];exact .ms0 _ _ _ _) hnext
  | @ms _ _ _ _ _ cap b hm hc hS =>
   have dG:=Lj (t:=t) (w:=w) (base:=some ⟨b,0*i.size,none⟩) (a:=a1) (len:=ll) (cap:=cap) (cap':=cap1) hT iw hE hc;have kl:=ua (d:=some d) (x:=x) (y:=y) (pos:=pos) (after:=after) (ρ:=a.eval) (by rw[db,gk];exact dG);rw[kl];simp only[ae5,ah9,aep]at hnext ⊢;subst jh;exact yC (hr.rk cp hfr) hd (.ms (by rw[ait rfl];exact hm) hc hS) hnext
 ·-- something
  obtain⟨OC,OD,t1,f1,kR⟩:=cE;have cJ:(cs.extract off1 (off1+xs.length*i.size)).toList.length=xs.length*i.size:=by simp;omega
  have mR:∀(j:Nat) v,(cs.extract off1 (off1+xs.length*i.size)).toList[j]?=some v->w.cell? ((⟨b1,off1,none⟩:Addr).add j)=some v:=by
   intro j v hj;rw[iX,qt kR];rw[ag9,ag1]at hj;split at hj
   ·exact hj
   ·cases hj
  have iR:∀u∈(cs.extract off1 (off1+xs.length*i.size)).toList,u.oneCell'=true:=by
   intro u hu;obtain⟨p,hp,rfl⟩:=afa.1 hu;rw[cJ]at hp;have hi':p/i.size<xs.length:=by rw[aer co];exact hp
   have he:=ahm hi';have lS:=iS _ _ he;have kQ:p%i.size<i.size:=adn _ co;have jI:=ahm (show p%i.size<(xs[p/i.size]).cells.length by omega);have pJ:p/i.size*i.size+p%i.size=p:=by rw[aef];exact adz _ _
   have kT:cs[off1+p/i.size*i.size+p%i.size]?=some ((cs.extract off1 (off1+xs.length*i.size)).toList[p]'oz):=by
    rw[aec,pJ];simp only[Array.getElem_toList,Array.getElem_extract];exact ag7 oz
   exact(aP _ _ _ _ _ he jI kT).one (gn _ _ _ _ he jI)
  have xj:∀(aw:Array ai3)(base:Nat),(∀p,p<xs.length*i.size->aw[base+p]?=(cs.extract off1 (off1+xs.length*i.size)).toList[p]?) ->
    ∀p,p<xs.length*i.size->aw[base+p]?=cs[off1+p]? := by
   intro aw base h p hp;rw[h p hp,ag9,ag1,ait oz]
  generalize db:a.eval x=u at di
  have FH:∀(c:Array ai3)(olds:List ai3)(sCap:Nat),olds.length=es.length*i.size->(∀p,p<es.length*i.size->olds[p]?=c[p]?) ->
    (∀(i':Nat)(e:AV),es[i']?=some e->e.cells.length=i.size)->(∀(i' j:Nat)(e x:AV),es[i']?=some e->e.cells[j]?=some x->x.one=true) ->
    (∀(i' j:Nat)(e:AV)(u:ai3)(x:AV),es[i']?=some e->e.cells[j]?=some x->c[i'*i.size+j]?=some u->Rep (Im C.ext s'.hp m w) (Sz w) cQ u x) ->
    next (a.put (some d) (.slice (some ⟨w.heap.size,0,none⟩) (es.length+xs.length) (grownCap w (es.length+xs.length) sCap E)))
     (w.drew.alloc (.cells (olds.toArray++(cs.extract off1 (off1+xs.length*i.size)).toList.toArray++Builtin.zeroCells z.cells (grownCap w (es.length+xs.length) sCap E-(es.length+xs.length))) E)):=by
   intro c olds sCap kU hoc kV pN ji;have FI:z.cells.size=i.size:=by rw[<- ahc];exact aX
   have acg:es.length+xs.length<=grownCap w (es.length+xs.length) sCap E:=by simp only[grownCap,Question.cut];omega
   refine Rq (es:=es) (xs:=xs) hr hfr hd ?_ acg ?_ hnext
   ·intro g S m' w' hg hS hw'
    refine JO (c := c) (cs := cs) (off := off1) hw' ?_ (by unfold az; omega) kV pN (fun i' j e u x he hx hu => (ji i' j e u x he hx hu).mono hg hS (fun _ _ _ h => h)) iS gn
     (fun i' j e x u he hx hu=>(aP i' j e x u he hx hu).mono hg hS (fun _ _ _ h=>h)) ?_ ?_
    ·simp only[ahb,afd,kU,cJ,ad2];omega
    ·intro p hp;rw[ag4 (by simp[kU];omega),ag4 (by simp[kU];omega)];simpa using hoc p hp
    ·refine xj _ _ (fun p hp=>?_);rw[ag4 (by simp only[ahb,afd,kU,cJ];omega),agy (by simp only[afd,kU];omega)];simp only[afd,kU,afs];congr 1;omega
   ·simp only[ahb,afd,kU,cJ,size_zeroCells,FI];rw[<- ad2,<- ad2];exact ah0 _ oz
  have OE:∀sCap,sCap<es.length+xs.length->Builtin.nextslicecap (es.length+xs.length) sCap*i.bytes<=281474976710656:=fun sCap h=>growslice_fits h hb
  cases di with
  |ms0 a0 =>
   have ff:es=[]:=afn oz;subst ff;have hg:=FH #[] [] 0 (by simp) (by simp) (by simp) (by simp) (by simp);simp only[ah9,aeg]at hg;cases a0 with
   |none =>
    have dG:=run_append_nil w T t E i z FG hi hz ⟨b1,off1,none⟩ xs.length cap1 _ cJ mR kS oz (by simp only[ah9,aeg]at hb;omega);have kl:=ua (P:=P) (d:=some d) (x:=x) (y:=y) (pos:=pos) (after:=after) (ρ:=a.eval) (by rw[db,gk];exact dG);rw[kl];show next _ _;simpa using hg
   |some a0 =>
    have dG := run_append_grow w T t E i z FG hi hz a0 0 0 [] (by simp) (by simp) ⟨b1, off1, none⟩ xs.length cap1 _ cJ mR oz oz
     (by have:=OE 0 (by simp;omega);simpa using this)
    have kl:=ua (P:=P) (d:=some d) (x:=x) (y:=y) (pos:=pos) (after:=after) (ρ:=a.eval) (by rw[db,gk];exact dG);rw[kl];show next _ _;simpa using hg
  | @ms _ _ _ _ _ cap b hm hc hS =>
   subst jh;obtain⟨c,t2,hw,hn,hl,kV,pN,ji⟩:=sN hr.heap cp hm;have xi:=VI hr hw hS;simp only[aeg,Nat.zero_mul]at xi db
   by_cases xh:es.length+xs.length<=cap
   ·have AQ:(es.length + xs.length) * i.size <= c.size:=ah8 (ah0 _ xh) xi;rw [ad2] at AQ;have dG:=VX (P:=P) (t:=t) hT iw hE hw _ cJ mR iR xh AQ (cap':=cap1) (len:=es.length);have kl:=ua (P:=P) (d:=some d) (x:=x) (y:=y) (pos:=pos) (after:=after) (ρ:=a.eval) (by rw [db,gk]; exact dG);rw [kl]
    have bp:(over c.toList (es.length*i.size) (cs.extract off1 (off1+xs.length*i.size)).toList).toArray.size=c.size:=by
     simp only[afd];rw[se _ _ _ (by rw[cJ];simp;omega)];simp
    have ef:=hr.write (x':=.row i.size (es++xs)) cp hm hw bp rfl (by
     intro g S hg hS hw'
     refine JO (c := c) (cs := cs) (off := off1) hw' (by rw [bp, ad2]; omega) (by unfold az; omega) kV pN (fun i' j e u x he hx hu => (ji i' j e u x he hx hu).mono hg hS (fun _ _ _ h => h)) iS gn
      (fun i' j e x u he hx hu=>(aP i' j e x u he hx hu).mono hg hS (fun _ _ _ h=>h)) ?_ ?_
     ·intro p hp;rw[afs,jz _ _ _ (by rw[cJ];simp;omega),ait hp,ag9]
     ·refine xj _ _ (fun p hp=>?_);rw[afs,jz _ _ _ (by rw[cJ];simp;omega),ais oz,ait (by rw[cJ];omega)];congr 1;omega)
    have pO:=ef.rk (k:=k) (d:=d) (y:=.row i.size (es++xs)) (by simp[aA]) (Fresh.row hfr gS (fun h=>h))
    have mS:RelM C ⟨s'.sl,(d,some (.row i.size (es++xs)))::(k,none)::s'.hp⟩ (fun k'=>if k'=d then m k else m k') a
      { w with heap:=w.heap.setIfInBounds b (.cells (over c.toList (es.length*i.size) (cs.extract off1 (off1+xs.length*i.size)).toList).toArray t2 (0,0)) }:=by
     refine RelM.congr ?_ ?_ pO
     ·intro t;rfl
     intro k';simp only[AS.blk,aA];split
     ·rfl
     ·split <;> rfl
    refine yC mS hd ?_ hnext
    have:=Rep.ms (g:=Im C.ext ((d,some (.row i.size (es++xs)))::(k,none)::s'.hp) (fun k'=>if k'=d then m k else m k')
      { w with heap:=w.heap.setIfInBounds b (.cells (over c.toList (es.length*i.size) (cs.extract off1 (off1+xs.length*i.size)).toList).toArray t2 (0,0)) })
     (S:=Sz { w with heap:=w.heap.setIfInBounds b (.cells (over c.toList (es.length*i.size) (cs.extract off1 (off1+xs.length*i.size)).toList).toArray t2 (0,0)) })
     (m:=fun k'=>if k'=d then m k else m k') (k:=d) (sz:=i.size) (off:=0) (len:=es.length+xs.length) (cap:=cap) (b:=b)
     (by rw [ait rfl]; exact hm) xh ⟨_, t2, (0, 0), by
      show(w.heap.setIfInBounds b _)[b]?=_;rw[aha,ait rfl,ait (zx hw)],by rw[bp,aeg];exact xi⟩
    simpa using this
   ·have OF : (c.extract 0 (es.length * i.size)).toList.length = es.length * i.size := by simp; omega
    have hg:=FH c (c.extract 0 (es.length*i.size)).toList cap OF (by
     intro p hp;rw[ag9,ag1,ait oz,aeg]) kV pN ji
    have dG:=run_append_grow w T t E i z FG hi hz ⟨b,0,none⟩ es.length cap (c.extract 0 (es.length*i.size)).toList OF (by
     intro j v hj;rw[iX,qt hw];rw[ag9,ag1]at hj;split at hj
     ·simpa using hj
     ·cases hj) ⟨b1,off1,none⟩ xs.length cap1 _ cJ mR oz oz (OE cap oz)
    have kl:=ua (P:=P) (d:=some d) (x:=x) (y:=y) (pos:=pos) (after:=after) (ρ:=a.eval) (by rw[db,gk];exact dG);rw[kl];exact hg
theorem eD{d k sz len:Nat}{es xs:List AV}{x y:ai2}{T E t:ai4}{ti te:TI}
  (hx:Ev s x (.ms k sz 0 len)) (hk:s.blk k=some (.row sz es)) (ch:len=es.length) (hy:Ev s y (.lst sz xs)) (hT:aq P T=some ti) (iw:ti.k=.slice E) (hE:aq P E=some te)
  (aN:te.size=sz) (aX:(ad9 te.zero.length te.size&&aem 0 te.size&&aem 0 te.bytes)=true) (hb:(len+xs.length)*te.bytes<=140737488355328) (gS:ad9 d k=false)
  (hN:aem d N=true) :
  Step P N R s ⟨some d,.call ⟨.builtin .append,#[x,y],#[T,T]⟩,t,pos,after,none⟩
   ⟨some (.ms d sz 0 (len+xs.length)),[(d,some (.row sz (es++xs))),(k,none)],ai x++ai y,[k]⟩ :=
 N6 hx (fun _ _ _ _ h=>h) hk ch hy hT iw hE aN aX hb gS hN
end Go.Lw
namespace Go.Lw
variable{P:ai5}{N:Nat}{R:Array Oper}{s:AS}{pos:String}{after:Array Edge}
def vT(P:ai5)(f:FuncId):Prop:=∀args w,(callFunc f args).run P w=.ok (.enter f args) w
theorem ZX {f : FuncId} {fn : Func} {c : Code} (hf : P.funcs[f]? = some fn) (hb : fn.body = some c) (hn : (fn.name == "runtime.NumGoroutine") = false) : vT P f := by
 intro args w;have hn' : ¬ fn.name = "runtime.NumGoroutine" := by simpa using hn
 simp[callFunc,hf,hb,hn']
structure Con(P:ai5)(f:FuncId)(args:List AV)(H:Hp)(r:AV)(H':Hp):Prop where
  ok:vT P f
  ret:UE P f args H r H'
abbrev jv(P:ai5)(f:FuncId)(args:List AV)(r:AV):Prop:=Con P f args [] r []
theorem II{ρ:ai2->ai3}{o:Oper}{f:FuncId}{args:Array ai2}{ts:Array ai4}{w:ai6}{vs:Array ai3}(ho:o.op=.call ⟨.value (.func f),args,ts⟩)
  (hρ:ρ (.func f)=.func (.func f) #[] #[]) (bc:vT P f) (c9:args.map ρ=vs):(execOp ρ o).run P w=.ok (.enter f vs) w:=by
 subst c9;have:=bc (args.map ρ) w;obtain⟨dst,op,type,pos,after,guard⟩:=o;subst ho;simp[execOp,resolve,hρ,Deferred.ofValue,invoke,this]
theorem M2{ρ:ai2->ai3}{o:Oper}{g:ai2}{f:FuncId}{caps:Array ai3}{args:Array ai2}{ts:Array ai4}{w:ai6}{vs:Array ai3}(ho:o.op=.call ⟨.value g,args,ts⟩)
  (hρ:ρ g=.func (.func f) #[] caps) (bc:vT P f) (c9:args.map ρ++caps=vs):(execOp ρ o).run P w=.ok (.enter f vs) w:=by
 subst c9;have:=bc (args.map ρ++caps) w;obtain⟨dst,op,type,pos,after,guard⟩:=o;subst ho;simp[execOp,resolve,hρ,Deferred.ofValue,invoke,this]
def iD(H:Hp)(k:Nat):Bool:=match lk H k with |some _=>true |none=>false
theorem iG{H:Hp}{k:Nat}:iD H k=true↔∃z,lk H k=some z:=by
 unfold iD;cases lk H k <;> simp
def wY(r:AV)(H':Hp):Bool :=
  (r.nm.all fun k=>iD H' k)&&H'.all fun p=>match p.2 with |some x=>x.nm.all fun k=>iD H' k |none=>true
def cw(H:Hp):Hp:=H.map fun p=>(p.1,none)
theorem Rh(H:Hp)(k:Nat):lk (cw H) k=none:=by
 induction H with
 |nil=>rfl
 |cons p H ih =>
  obtain⟨k',x⟩:=p;simp only[cw,aiq,aA];split
  ·rfl
  ·exact ih
theorem j6{H:Hp}{k:Nat}{z:Blk}(h:lk H k=some z):k∈H.map (·.1):=aft.2 ⟨_,oD h,rfl⟩
theorem RelM.called{C:Ctx}{m:Nat->Option Nat}{a:Act}{w:ai6}(hr:RelM C s m a w){run:Array ai3->ai6->(Ending->ai6->Prop)->Prop}(ach:∀vs w R R',run vs w R->(∀e w',R e w'->R' e w')->run vs w R'){xs:List AV}{H H':Hp}{r:AV}(cF:CO run xs H r H'){vs:Array ai3}
  (c9:vs.size=xs.length) (dj:∀(j:Nat) v x,vs[j]?=some v->xs[j]?=some x->Rep (Im C.ext s.hp m w) (Sz w) m v x)
  (hH:∀k z,lk H k=some z->lk s.hp k=some z) (bj:∀k z,lk H' k=some z->(∃y,lk H k=some y)\/s.Fresh k)
  (hHk:∀k∈H.map (·.1),iD H k=true) (hnm:wY r H'=true) :
  run vs w fun e w'=>∃v m'',e=.returned v/\RelM C ⟨s.sl,H'++cw H++s.hp⟩ m'' a w'/\Rep (Im C.ext (H'++cw H++s.hp) m'' w') (Sz w') m'' v r /\
   ∀k y z,lk H k=some y->lk H' k=some z->m'' k=m k:=by
 simp only[wY,ahj,ahs]at hnm;obtain⟨aci,acj⟩:=hnm
 let ext':Nat->Prop:=fun b=>C.ext b\/∃k z,lk s.hp k=some z/\lk H k=none/\m k=some b
 have cW:∀b,aO H m b->aO s.hp m b:=fun b ⟨k,z,h1,h2⟩=>⟨k,z,hH k z h1,h2⟩
 have cE:∀b cs,Im C.ext s.hp m w b cs->Im ext' H m w b cs:=by
  rintro b cs ⟨h1,h2,h3⟩;refine⟨?_,fun h=>h2 (cW b h),h3⟩;rintro(h |⟨k,z,hk,_,hb⟩)
  ·exact h1 h
  ·exact h2 ⟨k,z,hk,hb⟩
 have bW:HeapRel ext' H m w:=by
  refine⟨?_,?_,?_⟩
  ·intro k z hk;exact BlkRep.mono (w:=w) cE (fun _ _ h=>h) (fun _ _ _ h=>h) rfl (fun _ _=>rfl) (hr.heap.blk k z (hH k z hk))
  ·intro k k' z z' b h1 h2;exact hr.heap.inj k k' z z' b (hH _ _ h1) (hH _ _ h2)
  ·intro k z b hk hb;have:=hr.heap.sep k z b (hH k z hk) hb;refine⟨?_,this.2⟩;rintro(h |⟨k2,z2,cC,kW,a8⟩)
   ·exact this.1 h
   ·have:=hr.heap.inj k k2 z z2 b (hH k z hk) cC hb a8;subst this;rw[hk]at kW;cases kW
 have FJ:∀b,ext' b->b<w.heap.size:=by
  rintro b (h |⟨k,z,hk,_,hb⟩)
  ·exact hr.ext_lt h
  ·exact(hr.heap.sep k z b hk hb).2
 refine ach _ _ _ _ (cF ext' m w vs FJ bW c9 (fun j v x h1 h2=>(dj j v x h1 h2).mono cE (fun _ _ h=>h) (fun _ _ _ h=>h))) ?_;rintro e w' ⟨v,m',rfl,hf,hh',rC,rD,aR⟩
 have ac8:∀k,k∈(cw H).map (·.1)->iD H k=true:=by
  intro k hk;apply hHk;simpa[cw]using hk
 have bE:∀k z,lk (H'++cw H++s.hp) k=some z->lk H' k=some z\/(iD H' k=false/\lk H k=none/\lk s.hp k=some z):=by
  intro k z hz;rw[aip,kL]at hz;split at hz
  ·exact .inl hz
  ·rename_i h1
   have ha:iD H' k=false:=by
    cases h:iD H' k with
    |false=>rfl
    |true=>obtain⟨z',hz'⟩:=iG.1 h;exact aiz (j6 hz') h1
   rw[kL]at hz;split at hz
   ·rw[Rh]at hz;cases hz
   ·rename_i h2;refine .inr ⟨ha,?_,hz⟩;cases h:lk H k with
    |none=>rfl
    |some y=>exact aiz (by simpa[cw]using j6 h) h2
 let m'':Nat->Option Nat:=fun k=>if iD H' k=true then m' k else m k
 have f0:∀k,iD H' k=true->m'' k=m' k:=fun k h=>ait h
 have jJ:∀k,iD H' k=false->m'' k=m k:=fun k h=>ais (by simp[h])
 have OG:∀(k:Nat) b,¬s.Fresh k->m k=some b->m'' k=some b:=by
  intro k b hnf hb;cases h:iD H' k with
  |false=>rw[jJ k h];exact hb
  |true =>
   rw[f0 k h];obtain⟨z,hz⟩:=iG.1 h;rcases bj k z hz with⟨y,hy⟩ |hfr
   ·rw[rD k y z hy hz];exact hb
   ·exact aiz hfr hnf
 have hf':Frame (aO s.hp m) w w':=⟨hf.os,hf.tape,hf.output,hf.size,hf.sz,fun b hb hn=>hf.keep b hb (fun h=>hn (cW b h))⟩
 have bg:∀k z b,lk (H'++cw H++s.hp) k=some z->m'' k=some b->aO s.hp m b\/w.heap.size<=b:=by
  intro k z b hz hb;rcases bE k z hz with h |⟨h1,h2,h3⟩
  ·rw[f0 k (iG.2 ⟨z,h⟩)]at hb;rcases rC k z b h hb with h' |h'
   ·exact .inl (cW b h')
   ·exact .inr h'
  ·rw[jJ k h1]at hb;exact .inl ⟨k,z,h3,hb⟩
 have OH:∀b cs,Im ext' H' m' w' b cs->Im C.ext (H'++cw H++s.hp) m'' w' b cs:=by
  rintro b cs ⟨h1,h2,h3⟩;refine⟨fun h=>h1 (.inl h),?_,h3⟩;rintro⟨k,z,hz,hb⟩;rcases bE k z hz with h |⟨g1,g2,g3⟩
  ·rw[f0 k (iG.2 ⟨z,h⟩)]at hb;exact h2 ⟨k,z,h,hb⟩
  ·rw[jJ k g1]at hb;exact h1 (.inr ⟨k,z,g3,g2,hb⟩)
 refine⟨v,m'',rfl,hr.update hf' ?_ bg ?_ ⟨?_,?_,?_⟩,aR.mono OH (fun _ _ h=>h) ?_,fun k y z hy hz=>by rw[f0 k (iG.2 ⟨z,hz⟩)];exact rD k y z hy hz⟩
 ·intro t x k b hx hn hb;exact OG k b (fun hfr=>hfr.2.2.1 t x hx hn) hb
 ·intro k z nX hz;rcases bE k z hz with h |⟨h1,h2,h3⟩
  ·rcases bj k z h with⟨y,hy⟩ |hfr
   ·exact⟨⟨y,hH k y hy⟩,by rw[f0 k (iG.2 ⟨z,h⟩)];exact rD k y z hy h⟩
   ·have:=hfr.2.1;omega
  ·exact⟨⟨z,h3⟩,jJ k h1⟩
 ·intro k z hz;rcases bE k z hz with h |⟨h1,h2,h3⟩
  ·rw[f0 k (iG.2 ⟨z,h⟩)];refine BlkRep.mono (w:=w') OH (fun _ _ h=>h) ?_ rfl (fun _ _=>rfl) (hh'.blk k z h);intro k2 b hn hb;have:=acj _ (oD h);simp only[ahs]at this;rw[f0 k2 (this k2 hn.mem)];exact hb
  ·rw[jJ k h1];refine BlkRep.mono (w:=w) (eU hf' bg) hf.sz ?_ rfl ?_ (hr.heap.blk k z h3)
   ·intro k2 b hn hb;exact OG k2 b (fun hfr=>hfr.2.2.2 k z h3 hn) hb
   ·intro b hb;refine hf.keep b (hr.heap.sep k z b h3 hb).2 ?_;rintro⟨k2,z2,cC,a8⟩;have:=hr.heap.inj k k2 z z2 b h3 (hH k2 z2 cC) hb a8;subst this;rw[h2]at cC;cases cC
 ·intro k1 k2 z1 z2 b h1 h2 bn a8;rcases bE k1 z1 h1 with e |⟨e1,e2,e3⟩ <;> rcases bE k2 z2 h2 with g |⟨g1,g2,g3⟩
  ·rw[f0 k1 (iG.2 ⟨z1,e⟩)]at bn;rw[f0 k2 (iG.2 ⟨z2,g⟩)]at a8
   exact hh'.inj k1 k2 z1 z2 b e g bn a8
  ·rw[f0 k1 (iG.2 ⟨z1,e⟩)]at bn;rw[jJ k2 g1]at a8
   exact aiz (.inr ⟨k2,z2,g3,g2,a8⟩) (hh'.sep k1 z1 b e bn).1
  ·rw[jJ k1 e1]at bn;rw[f0 k2 (iG.2 ⟨z2,g⟩)]at a8
   exact aiz (.inr ⟨k1,z1,e3,e2,bn⟩) (hh'.sep k2 z2 b g a8).1
  ·rw[jJ k1 e1]at bn;rw[jJ k2 g1]at a8
   exact hr.heap.inj k1 k2 z1 z2 b e3 g3 bn a8
 ·intro k z b hz hb;rcases bE k z hz with h |⟨h1,h2,h3⟩
  ·rw[f0 k (iG.2 ⟨z,h⟩)]at hb;have:=hh'.sep k z b h hb;exact⟨fun hc=>this.1 (.inl hc),this.2⟩
  ·rw[jJ k h1]at hb;have:=hr.heap.sep k z b h3 hb;exact⟨this.1,ah2 this.2 hf.size⟩
 ·intro k b hn hb;rw[f0 k (aci k hn.mem)];exact hb
end Go.Lw
namespace Go.Lw
variable{P:ai5}{N:Nat}{R:Array Oper}{s:AS}{pos:String}{after:Array Edge}
def fW(s:AS)(H H':Hp)(r:AV):Bool:=(H.all fun p=>iD H p.1)&&wY r H'
theorem wE{o:Oper}{f:FuncId}{xs:List AV}{H H':Hp}{r:AV}{rt:List Nat}{x:Option AV}(hg:o.guard=none)(hd:∀d,o.dst=some d->aem d N=true/\x=some r)
  (cF:Con P f xs H r H') (hH:∀k z,lk H k=some z->s.blk k=some z) (bc:fW s H H' r=true)
  (h:∀s',(∀t∈rt,s'.get t=s.get t)->∀C m a w,RelM C s' m a w->∃vs:Array ai3,(execOp a.eval o).run P w=.ok (.enter f vs) w/\vs.size=xs.length /\
   ∀(j:Nat) v x,vs[j]?=some v->xs[j]?=some x->Rep (Im C.ext s'.hp m w) (Sz w) m v x) :
  Step P N R s o ⟨x,H'++cw H,rt,H.map (·.1)⟩:=by
 refine w7 hg ?_;intro s' am bj C m a w next hC hr hnext;simp only[fW,ahj,ahs]at bc;obtain⟨rE,xk⟩:=bc;obtain⟨vs,h1,h2,h3⟩:=h s' am.1 C m a w hr;rw[h1]
 have hc := hr.called (run := Calls P f) (fun _ _ _ _ h h' => Calls.mono h h') cF.ret h2 h3 (fun k z hz => by rw [<- hH k z hz]; exact am.2 k (j6 hz)) (by
  intro k z hz;rcases bj k (by simp only[aih,ahn];exact .inl (j6 hz))with h |h
  ·obtain⟨p,hp,rfl⟩:=aft.1 h;exact .inl (iG.1 (rE p hp))
  ·exact .inr h) (by
  intro k hk;obtain⟨p,hp,rfl⟩:=aft.1 hk;exact rE p hp) xk
 refine Calls.mono hc ?_;rintro e w' ⟨v,m'',rfl,hr',aR,_⟩;cases FK:o.dst with
 |none =>
  refine hnext m'' _ _ ?_;simpa[AS.app,FK,Act.put]using hr'
 |some d =>
  obtain⟨hN,rfl⟩:=hd d FK;rw[adx]at hN;refine hnext m'' _ _ ?_;have:=hr'.put d v (some r) (fun z hz=>by cases hz;exact⟨by have:=hr'.nt;omega,aR⟩);simpa[AS.app,FK,Act.put]using this
theorem bq{d f:Nat}{args:Array ai2}{ts:Array ai4}{xs:List AV}{H H':Hp}{r:AV}{t:ai4}
  (cF:Con P f xs H r H') (ha:EvL s args.toList xs) (hH:∀k z,lk H k=some z->s.blk k=some z) (bc:fW s H H' r=true) (hN:aem d N=true) :
  Step P N R s ⟨some d,.call ⟨.value (.func f),args,ts⟩,t,pos,after,none⟩ ⟨some r,H'++cw H,cB args.toList,H.map (·.1)⟩ :=
 wE rfl (fun d' h => by cases h; exact ⟨hN, rfl⟩) cF hH bc fun s' am C m a w hr => by
  have ha':=ha.agree (u:=⟨none,[],cB args.toList,[]⟩) ⟨am,fun k hk=>by cases hk⟩ (fun _ h=>h);refine⟨args.map a.eval,II rfl rfl cF.ok rfl,?_,?_⟩
  ·have:=ha'.length;simpa using this
  ·intro j v x hv hx;exact ha'.rep hr j v x (by simpa using hv) hx
theorem V7{f:Nat}{args:Array ai2}{ts:Array ai4}{xs:List AV}{H H':Hp}{r:AV}{t:ai4}
  (cF:Con P f xs H r H') (ha:EvL s args.toList xs) (hH:∀k z,lk H k=some z->s.blk k=some z) (bc:fW s H H' r=true) :
  Step P N R s ⟨none,.call ⟨.value (.func f),args,ts⟩,t,pos,after,none⟩ ⟨none,H'++cw H,cB args.toList,H.map (·.1)⟩ :=
 wE rfl (fun d' h => by cases h) cF hH bc fun s' am C m a w hr => by
  have ha':=ha.agree (u:=⟨none,[],cB args.toList,[]⟩) ⟨am,fun k hk=>by cases hk⟩ (fun _ h=>h);refine⟨args.map a.eval,II rfl rfl cF.ok rfl,?_,?_⟩
  ·have:=ha'.length;simpa using this
  ·intro j v x hv hx;exact ha'.rep hr j v x (by simpa using hv) hx
theorem Ud{d f:Nat}{args:Array ai2}{ts:Array ai4}{xs:List AV}{r:AV}{t:ai4}
  (cF:jv P f xs r) (ha:EvL s args.toList xs) (hnm:r.nm=[]) (hN:aem d N=true) :
  Step P N R s ⟨some d,.call ⟨.value (.func f),args,ts⟩,t,pos,after,none⟩ ⟨some r,[],cB args.toList,[]⟩ :=
 bq cF ha (fun k z h=>by cases h) (by simp[fW,wY,hnm]) hN
theorem YS{d f:Nat}{g:ai2}{args:Array ai2}{ts:Array ai4}{xs caps:List AV}{H H':Hp}{r:AV}{t:ai4}
  (hg:Ev s g (.fn f caps)) (cF:Con P f (xs++caps) H r H') (ha:EvL s args.toList xs) (hH:∀k z,lk H k=some z->s.blk k=some z) (bc:fW s H H' r=true) (hN:aem d N=true) :
  Step P N R s ⟨some d,.call ⟨.value g,args,ts⟩,t,pos,after,none⟩ ⟨some r,H'++cw H,ai g++cB args.toList,H.map (·.1)⟩ :=
 wE rfl (fun d' h => by cases h; exact ⟨hN, rfl⟩) cF hH bc fun s' am C m a w hr => by
  have jk:gg s s' ⟨none,[],ai g++cB args.toList,[]⟩:=⟨am,fun k hk=>by cases hk⟩
  have ha':=ha.agree jk (fun _ h=>ahn.2 (.inr h));have gT:=(hg.agree jk (fun _ h=>ahn.2 (.inl h))).rep hr;generalize hv:a.eval g=u at gT;cases gT with
  | @fn _ _ cvs _ hn aR =>
   have hl:=ha'.length;refine⟨args.map a.eval++cvs,M2 rfl hv cF.ok rfl,by simp[hn];simpa using hl,?_⟩;intro j v x hv hx;rcases ahq j xs.length with h |h
   ·rw[ah4 h]at hx;rw[ag4 (by simp;simp at hl;omega)]at hv;exact ha'.rep hr j v x (by simpa using hv) hx
   ·rw[ahz h]at hx;rw[agy (by simp;simp at hl;omega)]at hv;refine aR (j-xs.length) v x ?_ hx;rw[<- hv];congr 1;simp at hl ⊢;omega
inductive ResV(P:ai5)(s:AS):ResultVar->AV->Prop
  |tmp {t:Nat} {x:AV} (h:s.get t=some x):ResV P s (.tmp t) x
  |cell {t k:Nat} {cs:List AV} {T:ai4} {ti:TI} (h:s.get t=some (.ptr k 0)) (hk:s.blk k=some (.box cs)) (hT:aq P T=some ti)
      (bA:Nat.ble ti.size cs.length=true) (h1:(ti.ag||ad9 ti.size 1)=true):ResV P s (.cell t T) (j8 ti.ag (cs.take ti.size))
inductive ResL(P:ai5)(s:AS):List ResultVar->List AV->Prop
  |nil:ResL P s [] []
  |cons {r:ResultVar} {x:AV} {rs:List ResultVar} {xs:List AV} (h:ResV P s r x) (hs:ResL P s rs xs):ResL P s (r::rs) (x::xs)
def dD:List AV->AV
  |[x]=>x
  |xs=>.tup xs
def zj(tmps:Array ai3):ResultVar->Sem ai3
  | .tmp t=>pure (tmps.getD t undef)
  | .cell a t=>do loadVar t (<- asAddr (tmps.getD a undef))
theorem RO(fn:Func)(tmps:Array ai3) :
  results fn tmps=(fn.results.mapM (zj tmps) >>= fun vs=>pure (if h:vs.size=1 then vs[0]else .tuple vs)):=by
 unfold results;congr 2
theorem ResV.run{x:AV}{r:ResultVar}(h:ResV P s r x){C:Ctx}{m:Nat->Option Nat}{a:Act}{w:ai6}(hr:RelM C s m a w) :
  ∃v,(zj a.tmps r).run P w=.ok v w/\Rep (Im C.ext s.hp m w) (Sz w) m v x:=by
 cases h with
 |tmp h=>exact⟨_,rfl,(hr.slots _ _ h).2⟩
 | @cell t k cs T ti h hk hT bA h1 =>
  rw[aee]at bA;have h1:ti.ag=true\/ti.size=1:=by simpa using h1
  obtain⟨b,hm,hv⟩:=ue hr (Ev.tmp h);obtain⟨c,t2,hw,hn,ho,aR⟩:=yp hr.heap hk hm;have hv':a.tmps.getD t undef=.pointer (some ⟨b,0,none⟩):=hv;refine⟨_,by simp only[zj,hv',ai8,asAddr,ai9,ai7];exact Aa hT hw (by omega:0+ti.size<=c.size) h1,?_⟩;refine yw (c:=c) (off:=0) (n:=ti.size) (by simp;omega) oz h1 ?_ ?_
  ·intro j y hy;rw[aie]at hy;split at hy
   ·exact ho _ y hy
   ·cases hy
  ·intro j u y hy hu;rw[aie]at hy;split at hy
   ·exact aR _ u y (by simpa using hu) hy
   ·cases hy
theorem UY{g:Nat->Array ai3->Prop}{S:Nat->Nat->Prop}{m:Nat->Option Nat}:∀(vs:List ai3)(xs:List AV),vs.length=xs.length ->
  (∀(j:Nat) v x,vs[j]?=some v->xs[j]?=some x->Rep g S m v x) ->
  Rep g S m (if h:vs.toArray.size=1 then vs.toArray[0]else .tuple vs.toArray) (dD xs)
 |[],[],_,_=>by simp[dD];exact .tup rfl (by simp)
 |[v],[x],_,h=>by simp[dD];exact h 0 v x rfl rfl
 |v::v'::vs,x::x'::xs,h2,h=>by
  simp[dD];exact .tup (by simpa using h2) (fun j u c hu hc=>h j u c (by simpa using hu) hc)
theorem XQ{fn:Func}{rs:List ResultVar}{xs:List AV}(OI:fn.results=rs.toArray)(h:ResL P s rs xs){C:Ctx}{m:Nat->Option Nat}{a:Act}{w:ai6}(hr:RelM C s m a w) :
  ∃v,(results fn a.tmps).run P w=.ok v w/\Rep (Im C.ext s.hp m w) (Sz w) m v (dD xs):=by
 have key:∃vs:List ai3,(rs.mapM (zj a.tmps)).run P w=.ok vs w /\
   vs.length=xs.length/\∀(j:Nat) v x,vs[j]?=some v->xs[j]?=some x->Rep (Im C.ext s.hp m w) (Sz w) m v x:=by
  clear OI
  induction h with
  |nil=>exact⟨[],by simp,rfl,by simp⟩
  |cons h1 _ ih =>
   obtain⟨v,h2,h3⟩:=h1.run hr;obtain⟨vs,h4,h5,h6⟩:=ih;refine⟨v::vs,by simp only[List.mapM_cons,ai8,h2,ai7,h4,ai9],by simp[h5],?_⟩;intro j v' x hv hx;cases j with
   |zero=>simp at hv hx;subst hv;subst hx;exact h3
   |succ j=>exact h6 j v' x (by simpa using hv) (by simpa using hx)
 obtain⟨vs,h1,h2,h3⟩:=key;refine⟨_,?_,UY vs xs h2 h3⟩;rw[RO,OI,agx];simp only[ai8,Sem.run_map,h1,ai7,ai9]
def aI(s:AS)(x:AV)(r:AV)(H':Hp):Prop :=
  ∀ext m w v,HeapRel ext s.hp m w->(∀b,ext b->b<w.heap.size)->Rep (Im ext s.hp m w) (Sz w) m v x ->
    ∃m',HeapRel ext H' m' w/\(∀k z b,lk H' k=some z->m' k=some b->aO s.hp m b)/\(∀k z,1000<=k->lk H' k=some z->(∃y,lk s.hp k=some y)/\m' k=m k) /\
      Rep (Im ext H' m' w) (Sz w) m' v r
def nC(P:ai5)(rs:List ResultVar)(r:AV)(H':Hp):Exit->AS->Prop
  | .normal,s | .ret,s=>∃xs,ResL P s rs xs/\aI s (dD xs) r H'
  |_,_=>False
def nI:Nat->List AV->bm
  |_,[]=>[]
  |n,x::xs=>(n,some x)::nI (n+1) xs
theorem GJ:∀(xs:List AV)(n t:Nat)(x:AV),lk (nI n xs) t=some x->n<=t/\xs[t-n]?=some x
 |[],n,t,x,h=>by simp[nI,lk]at h
 |y::ys,n,t,x,h=>by
  simp only[nI,aA]at h;split at h
  ·cases h;subst_vars;simp
  ·obtain⟨h1,h2⟩:=GJ ys (n+1) t x h;refine⟨by omega,?_⟩;rw[show t-n=(t-(n+1))+1 by omega,List.getElem?_cons_succ];exact h2
theorem RelM.unmark{C:Ctx}{m:Nat->Option Nat}{a:Act}{w:ai6}(h:RelM C s m a w){D:Nat}{l:List Deferred}(h1:C.w0.heap.size<=D)(h2:w.heap[D]?=some (.deferred (some [])))
  (hl:r7 C.w0.heap.size l (w.putObj D (.deferred none))):RelM C s m { a with defers:=l } (w.putObj D (.deferred none)):=by
 have hlt:=h.heap.lt h2;have FL:∀b,b≠D->(w.putObj D (.deferred none)).heap[b]?=w.heap[b]? := fun b hb=>World.putObj_heap_other hb
 have hc:∀(b:Nat)(cs:Array ai3)(t:ai4)(f:Nat×Nat),w.heap[b]?=some (Obj.cells cs t f)->(w.putObj D (.deferred none)).heap[b]?=some (Obj.cells cs t f):=fun b cs t f hb=>by
  rw[FL b (fun e=>by rw[e,h2]at hb;cases hb)];exact hb
 have cE:∀b cs,Im C.ext s.hp m w b cs->Im C.ext s.hp m (w.putObj D (.deferred none)) b cs:=fun b cs ⟨e1,e2,t,f,e3⟩=>⟨e1,e2,t,f,hc _ _ _ _ e3⟩
 have aN:∀b n,Sz w b n->Sz (w.putObj D (.deferred none)) b n:=fun b n ⟨c,t,f,e1,e2⟩=>⟨c,t,f,hc _ _ _ _ e1,e2⟩
 refine⟨fun t x hx=>⟨(h.slots t x hx).1,(h.slots t x hx).2.mono cE aN (fun _ _ _ h=>h)⟩,⟨?_,h.heap.inj,fun k x b hk hb=>⟨(h.heap.sep k x b hk hb).1,by simpa[World.putObj]using(h.heap.sep k x b hk hb).2⟩⟩,?_,h.new,h.keep,hl,h.nt⟩
 ·intro k x hk;refine BlkRep.mono cE aN (fun _ _ _ h=>h) rfl (fun b hb=>FL b (fun e=>?_)) (h.heap.blk k x hk);subst e;exact h.heap.cells hk hb h2
 ·refine⟨h.frame.os,h.frame.tape,h.frame.output,by simpa[World.putObj]using h.frame.size,fun b n hs => aN b n (h.frame.sz b n hs),fun b hb hn => ?_⟩;rw[FL b oz];exact h.frame.keep b hb hn
theorem NB{C:Ctx}{fn:Func}{n:Nat}{R:Ending->ai6->Prop}(hR:∀m a w,a.defers=[]->RelM C s m a w->∃v,(results fn a.tmps).run P w=.ok v w/\R (.returned v) w) :
  ∀(Ds:List Nat)(m:Nat->Option Nat)(a:Act)(w:ai6),a.defers=Ds.map sP->Ds.Nodup->(∀D∈Ds,C.w0.heap.size<=D/\w.heap[D]?=some (.deferred (some [])))->RelM C s m a w ->
   LeavesInM Fence.wide n P fn a.tmps R a.defers .returning w
 |[],m,a,w,ha,hn,hD,h=>by
  have hn:a.defers=[]:=ha;rw[hn];exact hR m a w hn h
 |D::Ds,m,a,w,ha,hn,hD,h=>by
  obtain⟨h1,h2⟩:=hD D (aig ..);rw[ha];refine⟨by simp,.inl ⟨D,_,rfl,run_takeDeferred h2,?_⟩⟩;obtain⟨b7,hn'⟩:=List.nodup_cons.1 hn
  have hD':∀D'∈Ds,C.w0.heap.size<=D'/\(w.putObj D (.deferred none)).heap[D']?=some (.deferred (some [])):=fun D' hm=>by
   obtain⟨g1,g2⟩:=hD D' (ah6 _ hm);have aG:D'≠D:=fun e=>b7 (by rw[<- e];exact hm)
   exact⟨g1,by rw[World.putObj_heap_other aG];exact g2⟩
  exact NB hR Ds m { a with defers:=Ds.map sP } _ rfl hn' hD' (h.unmark h1 h2 ⟨Ds,rfl,hn',hD'⟩)
theorem Oa{f:FuncId}{fn:Func}{c:Code}{rs:List ResultVar}{args:List AV}{H:Hp}{r:AV}{H':Hp}(hf:P.funcs[f]?=some fn)(hb:fn.body=some c)
    (hn : (fn.name == "runtime.NumGoroutine") = false) (hrs : fn.results = rs.toArray) (hN : fn.ntmps = N) (hH : ∀ k z, lk H k = some z -> 1000 <= k)
    (h:kz P N c (nC P rs r H') ⟨nI 0 args,H⟩):Con P f args H r H':=by
  refine⟨ZX hf hb hn,?_⟩;intro ext m w vs hext bW c9 dj;refine(callsIn_wide (n:=0)).1 (callsIn_of_wp_marks hf hb trivial ?_ rfl)
  let C:Ctx:=⟨w,ext,aO H m,m,N,hext,none⟩
  have ji:RelM C ⟨nI 0 args,H⟩ m { tmps:=vs++ag3 (fn.ntmps-vs.size) undef,defers:=[] } w:=by
    refine⟨?_,bW,Frame.refl _ _,fun k x b h1 h2=>.inl ⟨k,x,h1,h2⟩,fun _ _ _ _=>rfl,r7.nil _ _,?_⟩
    · intro t x hx
      obtain⟨_,h2⟩:=GJ args 0 t x hx;simp only[Nat.sub_zero]at h2
      have ht:t<args.length:=by
        rcases ahq t args.length with h |h
        · exact h
        · rw[aht h]at h2;cases h2
      have ht':t<vs.size:=by omega
      refine⟨by simp;omega,?_⟩
      have:(vs++ag3 (fn.ntmps-vs.size) undef).getD t undef=vs[t]:=by
        rw[ahp,ag4 ht',ag7 ht'];rfl
      simp only[this];exact dj t vs[t] x (ag7 ht') h2
    · show N<=_
      simp;omega
  refine wpIn_mono (h C m _ w 0 rfl rfl ji) ?_;rintro e a' w' ⟨s',m',hq,hr⟩
  have um:∀(xs:List AV),ResL P s' rs xs->aI s' (dD xs) r H'->LeavesInM Fence.wide 0 P fn a'.tmps (fun e w'=>∃v' m'',e=Ending.returned v'/\Frame (aO H m) w w'/\HeapRel ext H' m'' w' /\
        (∀k x b,lk H' k=some x->m'' k=some b->aO H m b\/w.heap.size<=b)/\(∀k x y,lk H k=some x->lk H' k=some y->m'' k=m k) /\
        Rep (Im ext H' m'' w') (Sz w') m'' v' r) a'.defers .returning w':=by
    intro xs hx jF;obtain⟨Ds,e1,e2,e3⟩:=hr.defers;refine NB (C:=C) (s:=s') (fun m1 a1 w1 _ aP=>?_) Ds m' a' w' e1 e2 e3 hr;obtain⟨v,h1,h2⟩:=XQ hrs hx aP;obtain⟨m'',h3,h4,h5,h6⟩:=jF ext m1 w1 v aP.heap (fun b hb=>aP.ext_lt hb) h2;refine⟨v,h1,v,m'',rfl,aP.frame,h3,?_,?_,h6⟩
    · intro k z b hk hb
      obtain⟨k2,z2,cC,a8⟩:=h4 k z b hk hb;exact aP.new k2 z2 b cC a8
    · intro k z y hk hy
      obtain⟨⟨y',hy'⟩,h8⟩:=h5 k y (hH k z hk) hy;rw[h8];exact aP.keep k y' (hH k z hk) hy'
  cases e with
  |normal =>
    obtain⟨xs,h1,h2⟩:=hq;exact um xs h1 h2
  |ret =>
    obtain⟨xs,h1,h2⟩:=hq;exact um xs h1 h2
  |_=>exact hq.elim
theorem Fm{f:FuncId}{fn:Func}{c:Code}{rs:List ResultVar}{args:List AV}{H:Hp}{r:AV}{H':Hp}(hf:P.funcs[f]?=some fn)(hb:fn.body=some c)
  (hn : (fn.name == "runtime.NumGoroutine") = false) (hrs : fn.results = rs.toArray) (hN : fn.ntmps = N) (hH : ∀ k z, lk H k = some z -> 1000 <= k)
  (h:ba P N c (nC P rs r H') ⟨nI 0 args,H⟩):Con P f args H r H':=Oa hf hb hn hrs hN hH h.out
end Go.Lw
