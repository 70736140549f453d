/- LimitsDyads: for any linkage and any turn the law returns true and leaves its arguments as they were. No other condition. Part 1 of 9: what the later parts need -/
import Derived.Calls
import Derived.Below
import Derived.Laws.Sem
import Derived.Laws.Cells
import Derived.Laws.Append
import Derived.Laws.Rows
import Derived.OrdersIn
import Derived.RangeFuncLeaves
import Derived.RangeFuncRecord
import Derived.Orders
import Derived.IntWalk
import Derived.Laws.AppendOwn
set_option linter.unusedVariables false
open List (cons_append nil_append)
open List renaming mem_of_getElem? → ar1, mem_cons_of_mem → ass, mem_append → ar9, map_cons → atb, mem_cons → asj, length_cons → asi, mem_cons_self → as2, length_append → asx, length_nil → asu, getD_eq_getElem?_getD → ar2, getElem?_append_left → asq, getElem?_eq_none → asg, all_eq_true → asd, getElem?_take → asy, getElem?_drop → as3, getElem?_map → asa, append_assoc → atc, getElem?_append_right → asm, getElem?_eq_getElem → ar7, drop_eq_nil_of_le → as0, getElem?_replicate → ast, map_append → asz, replicate → apf, size_toArray → apr, mem_range → apt, mem_filter → apy, getElem?_toArray → ap2, append_nil → ap4, mem_iff_getElem → ap5, eq_nil_of_length_eq_zero → aqc, mem_map → aqd, mem_singleton → aqf
open Nat renaming eq_of_beq_eq_true → ar4, le_refl → ar8, lt_of_lt_of_le → asp, lt_or_ge → asb, le_trans → asv, mul_le_mul_right → asl, mul_le_mul_left → ash, add_mul → an5, ble_eq → an7, div_add_mod → aoa, blt → aob, mul_comm → aog, blt_eq → aoh, zero_add → aoj, mod_eq_of_lt → aol, ne_of_beq_eq_false → aor, div_lt_iff_lt_mul → aos, mod_lt → aou, eq_zero_or_pos → aov, add_zero → aoy, add_assoc → ao0, beq → ao6, add_comm → ao7, mul_pos → apa, succ_mul → ape
open Option renaming map_eq_some_iff → ar6, getD_some → ary, map_some → arz
open Bool renaming and_eq_true → ar5, or_eq_true → ata, false_eq_true → aq9, true_and → are, not_eq_true' → arf
open Array renaming getD_eq_getD_getElem? → asc, all_eq_true_iff_forall_mem → arg, replicate → arh, getElem?_append_right → ari, getElem?_replicate → arj, getElem?_setIfInBounds → ark, getElem?_append_left → arl, length_toList → arm, getElem?_toList → arn, getElem?_eq_getElem → aro, getElem?_extract → arp, size_append → art, getElem?_push → aru, getElem?_eq_none → arv, toList_setIfInBounds → arw, mapM_eq_mapM_toList → arx
open Go renaming Operand → atn, Value → ato, TypeId → atp, Program → atq, World → atr
open Go.Result renaming andThen_ok → ats
open Go.Sem renaming run_bind → att, run_pure → atu
namespace Go.Lw
abbrev pP{a:Type}(k:Nat)(v:a):Nat×Option a:=(k,some v)
theorem atd{c:Prop}{h:Decidable c}(n:¬c){α:Sort _}{t e:α}:ite c t e=e:=if_neg n
theorem ate{c:Prop}{h:Decidable c}(n:c){α:Sort _}{t e:α}:ite c t e=t:=if_pos n
theorem atf{p:Prop}[Decidable p]:(decide p=true)=p:=decide_eq_true_eq
theorem atg{p:Prop}[Decidable p](n:decide p=true):p:=of_decide_eq_true n
theorem ath{p:Prop}[Decidable p](n:decide p=false):¬p:=of_decide_eq_false n
theorem ati{p:Prop}[Decidable p](n:p):decide p=true:=decide_eq_true n
theorem atj{p:Prop}[Decidable p](n:¬p):decide p=false:=decide_eq_false n
theorem atk{a b:Prop}(h:a)(n:¬a):b:=absurd h n
theorem atl{α β:Sort _}{x y:α}(f:α→β)(h:x=y):f x=f y:=congrArg f h
abbrev atm{α:Sort _}(i:α:=by infer_instance):α:=i
theorem oz{p:Prop}(h:p:=by omega):p:=h
abbrev LL:=List (List Rat)
inductive AV where
  |v (x:ato)
  |lst (sz:Nat) (es:List AV)
  |agg (cs:List AV)
  |tup (xs:List AV)
  |iptr (cs:List AV)
  |ms (k sz off len:Nat)
  |ptr (k off:Nat)
  |eptr (k sz i off:Nat)
  |fn (f:FuncId) (caps:List AV)
  |opt (b:Bool) (x:AV)
  |yl (k:Nat)
  |cl (f:FuncId) (pre caps:List AV)
  deriving Inhabited
abbrev nS:AV:=.v (.slice none 0 0)
def AV.cells:AV->List AV
  | .agg cs=>cs
  |x=>[x]
def AV.one:AV->Bool
  | .v x=>x.oneCell'
  | .agg _ | .tup _ | .opt _ _=>false
  |_=>true
abbrev aF:Nat:=281474976710656
abbrev dO:Nat->Option Nat:=fun _=>none
inductive Rep(g:Nat->Array ato->Prop)(S:Nat->Nat->Prop):(Nat->Option Nat)->ato->AV->Prop
  |v {m:Nat->Option Nat} (x:ato):Rep g S m x (.v x)
  |lst0 {m:Nat->Option Nat} (a:Option Addr) (cap sz:Nat):Rep g S m (.slice a 0 cap) (.lst sz [])
  |lst {m:Nat->Option Nat} {b off cap sz:Nat} {es:List AV} {cs:Array ato} (u:Nat->Nat->ato)
      (hb:g b cs) (hc:es.length<=cap) (hl:es.length<=aF) (hs:∀(i:Nat)(e:AV),es[i]?=some e->e.cells.length=sz)
      (h1:∀(i j:Nat)(e c:AV),es[i]?=some e->e.cells[j]?=some c->c.one=true)
      (hu:∀(i j:Nat)(e c:AV),es[i]?=some e->e.cells[j]?=some c->cs[off+i*sz+j]?=some (u i j))
      (hr:∀(i j:Nat)(e c:AV),es[i]?=some e->e.cells[j]?=some c->Rep g S dO (u i j) c) :
      Rep g S m (.slice (some ⟨b,off,none⟩) es.length cap) (.lst sz es)
  |agg {m:Nat->Option Nat} {vs:Array ato} {cs:List AV} (hn:vs.size=cs.length)
      (h1:∀(j:Nat)(c:AV),cs[j]?=some c->c.one=true)
      (hr:∀(j:Nat)(u:ato)(c:AV),vs[j]?=some u->cs[j]?=some c->Rep g S m u c):Rep g S m (.agg vs) (.agg cs)
  |tup {m:Nat->Option Nat} {vs:Array ato} {xs:List AV} (hn:vs.size=xs.length)
      (hr:∀(j:Nat)(u:ato)(c:AV),vs[j]?=some u->xs[j]?=some c->Rep g S m u c):Rep g S m (.tuple vs) (.tup xs)
  |iptr {m:Nat->Option Nat} {b off:Nat} {cs:Array ato} {xs:List AV} (u:Nat->ato)
      (hb:g b cs) (h1:∀(j:Nat)(c:AV),xs[j]?=some c->c.one=true)
      (hu:∀(j:Nat)(c:AV),xs[j]?=some c->cs[off+j]?=some (u j))
      (hr:∀(j:Nat)(c:AV),xs[j]?=some c->Rep g S dO (u j) c):Rep g S m (.pointer (some ⟨b,off,none⟩)) (.iptr xs)
  |ms0 {m:Nat->Option Nat} (a:Option Addr) (k sz off:Nat):Rep g S m (.slice a 0 0) (.ms k sz off 0)
  |ms {m:Nat->Option Nat} {k sz off len cap b:Nat} (hm:m k=some b) (hc:len<=cap) (hS:S b ((off+cap)*sz)) :
      Rep g S m (.slice (some ⟨b,off*sz,none⟩) len cap) (.ms k sz off len)
  |ptr {m:Nat->Option Nat} {k off b:Nat} (hm:m k=some b):Rep g S m (.pointer (some ⟨b,off,none⟩)) (.ptr k off)
  |eptr {m:Nat->Option Nat} {k sz i off b:Nat} (hm:m k=some b):Rep g S m (.pointer (some ⟨b,i*sz+off,none⟩)) (.eptr k sz i off)
  |fn {m:Nat->Option Nat} {f:FuncId} {vs:Array ato} {xs:List AV} (hn:vs.size=xs.length)
      (hr:∀(j:Nat)(u:ato)(c:AV),vs[j]?=some u->xs[j]?=some c->Rep g S m u c):Rep g S m (.func (.func f) #[] vs) (.fn f xs)
  |opt {m:Nat->Option Nat} {x:ato} {b:Bool} {y:AV} (h:b=true->Rep g S m x y) (h':b=false->x=undef):Rep g S m x (.opt b y)
  |yl {m:Nat->Option Nat} {k b:Nat} (hm:m k=some b):Rep g S m (.func (.yield b) #[] #[]) (.yl k)
  |cl {m:Nat->Option Nat} {f:FuncId} {vs us:Array ato} {xs ys:List AV} (hn:vs.size=xs.length)
      (hr:∀(j:Nat)(u:ato)(c:AV),vs[j]?=some u->xs[j]?=some c->Rep g S dO u c) (hn':us.size=ys.length)
      (hr':∀(j:Nat)(u:ato)(c:AV),us[j]?=some u->ys[j]?=some c->Rep g S dO u c):Rep g S m (.func (.func f) vs us) (.cl f xs ys)
inductive AV.Names:AV->Nat->Prop
  |ms (k sz off len:Nat):AV.Names (.ms k sz off len) k
  |ptr (k off:Nat):AV.Names (.ptr k off) k
  |eptr (k sz i off:Nat):AV.Names (.eptr k sz i off) k
  |agg {cs:List AV} {c:AV} {k:Nat} (h:c∈cs) (hc:AV.Names c k):AV.Names (.agg cs) k
  |tup {cs:List AV} {c:AV} {k:Nat} (h:c∈cs) (hc:AV.Names c k):AV.Names (.tup cs) k
  |fn {f:FuncId} {cs:List AV} {c:AV} {k:Nat} (h:c∈cs) (hc:AV.Names c k):AV.Names (.fn f cs) k
  |opt {b:Bool} {c:AV} {k:Nat} (hc:AV.Names c k):AV.Names (.opt b c) k
  |yl (k:Nat):AV.Names (.yl k) k
theorem Rep.mono{g g':Nat->Array ato->Prop}{S S':Nat->Nat->Prop}(hg:∀b cs,g b cs->g' b cs)
  (hS:∀b n,S b n->S' b n) {m:Nat->Option Nat} {v:ato} {x:AV} (h:Rep g S m v x) :
  ∀{m':Nat->Option Nat},(∀k b,x.Names k->m k=some b->m' k=some b)->Rep g' S' m' v x:=by
 induction h with
 |v x=>intro m' _;exact .v x
 |lst0 a cap sz=>intro m' _;exact .lst0 a cap sz
 |lst u hb hc hl hs h1 hu hr ih =>
  intro m' _;exact .lst u (hg _ _ hb) hc hl hs h1 hu (fun i j e c he hc=>ih i j e c he hc (fun k b _ h=>h))
 |agg hn h1 hr ih =>
  intro m' hm;exact .agg hn h1 (fun j u c hu hc=>ih j u c hu hc (fun k b hk=>hm k b (.agg (ar1 hc) hk)))
 |tup hn hr ih =>
  intro m' hm;exact .tup hn (fun j u c hu hc=>ih j u c hu hc (fun k b hk=>hm k b (.tup (ar1 hc) hk)))
 |iptr u hb h1 hu hr ih =>
  intro m' _;exact .iptr u (hg _ _ hb) h1 hu (fun j c hc=>ih j c hc (fun k b _ h=>h))
 |ms0 a k sz off=>intro m' _;exact .ms0 a k sz off
 |ms h hc hs=>intro m' hm;exact .ms (hm _ _ (.ms _ _ _ _) h) hc (hS _ _ hs)
 |ptr h=>intro m' hm;exact .ptr (hm _ _ (.ptr _ _) h)
 |eptr h=>intro m' hm;exact .eptr (hm _ _ (.eptr _ _ _ _) h)
 |fn hn hr ih =>
  intro m' hm;exact .fn hn (fun j u c hu hc=>ih j u c hu hc (fun k b hk=>hm k b (.fn (ar1 hc) hk)))
 |opt h h' ih=>intro m' hm;exact .opt (fun hb=>ih hb (fun k b hk=>hm k b (.opt hk))) h'
 |yl h=>intro m' hm;exact .yl (hm _ _ (.yl _) h)
 |cl hn hr hn' hr' ih ih' =>
  intro m' hm
  exact .cl hn (fun j u c hu hc=>ih j u c hu hc (fun k b _ h=>h))
   hn' (fun j u c hu hc=>ih' j u c hu hc (fun k b _ h=>h))
theorem Rep.one{g:Nat->Array ato->Prop}{S:Nat->Nat->Prop}{m:Nat->Option Nat}{v:ato}{x:AV}
  (h:Rep g S m v x) (h1:x.one=true):v.oneCell'=true:=by
 cases h <;> simp_all [AV.one,Value.oneCell']
theorem Rep.cells{g:Nat->Array ato->Prop}{S:Nat->Nat->Prop}{m:Nat->Option Nat}{v:ato}{x:AV}
  (h:Rep g S m v x) (hx:(∃cs,x=.agg cs)\/x.one=true) :
  v.cells.size=x.cells.length/\(∀(j:Nat)(c:AV),x.cells[j]?=some c->c.one=true) /\
   ∀(j:Nat)(u:ato)(c:AV),v.cells[j]?=some u->x.cells[j]?=some c->Rep g S m u c:=by
 rcases hx with⟨cs,rfl⟩ |hx
 ·cases h with
  |agg hn h1 hr=>exact⟨hn,h1,hr⟩
 ·have hv:=h.one hx;have e1:v.cells = #[v]:=by cases v <;> simp_all [Value.cells,Value.oneCell']
  have e2:x.cells=[x]:=by cases x <;> simp_all [AV.cells,AV.one]
  rw[e1,e2];refine⟨rfl,?_,?_⟩
  ·intro j c hc;rcases j with _ |j <;> simp at hc
   exact hc▸hx
  ·intro j u c hu hc;rcases j with _ |j <;> simp at hc hu
   exact hc▸hu▸h
def lk{α:Type}:List (Nat×Option α)->Nat->Option α
  |[],_=>none
  |(t',x)::l,t=>match ao6 t t' with
    |true=>x
    |false=>lk l t
theorem aE{α:Type}(t t':Nat)(x:Option α)(l:List (Nat×Option α)):lk ((t',x)::l) t=if t=t' then x else lk l t:=by
 show(match ao6 t t' with |true=>x |false=>lk l t)=_;split
 ·rename_i h;rw[ate (ar4 h)]
 ·rename_i h;rw[atd (aor h)]
theorem sj{α:Type}{l:List (Nat×Option α)}{t:Nat}{x:α}(h:lk l t=some x):(t,some x)∈l:=by
 induction l with
 |nil=>simp[lk]at h
 |cons y l ih =>
  obtain⟨t',y⟩:=y;rw[aE]at h;split at h
  ·subst_vars;simp
  ·exact ass _ (ih h)
structure LpD where
  params:Array Tmp
  assign:Code
  body:Code
  nt:Nat
inductive Blk where
  |box (cs:List AV)
  |row (sz:Nat) (es:List AV)
  |loop (d:LpD) (st:LoopState) (pend:Option Code) (sl:List (Nat×Option AV))
  |vec (vs:List ato)
  deriving Inhabited
inductive BlkRep(g:Nat->Array ato->Prop)(S:Nat->Nat->Prop)(m:Nat->Option Nat)(w:atr):Option Nat->Blk->Prop
  |none (sz:Nat):BlkRep g S m w none (.row sz [])
  |box {b:Nat} {cs:List AV} {c:Array ato} {t:atp} (hw:w.heap[b]?=some (.cells c t (0,0))) (hn:c.size=cs.length)
      (h1:∀(j:Nat)(x:AV),cs[j]?=some x->x.one=true)
      (hr:∀(j:Nat)(u:ato)(x:AV),c[j]?=some u->cs[j]?=some x->Rep g S m u x):BlkRep g S m w (some b) (.box cs)
  |row {b sz:Nat} {es:List AV} {c:Array ato} {t:atp} (hw:w.heap[b]?=some (.cells c t (0,0))) (hn:es.length*sz<=c.size)
      (hl:es.length<=aF)
      (hs:∀(i:Nat)(e:AV),es[i]?=some e->e.cells.length=sz)
      (h1:∀(i j:Nat)(e x:AV),es[i]?=some e->e.cells[j]?=some x->x.one=true)
      (hr:∀(i j:Nat)(e:AV)(u:ato)(x:AV),es[i]?=some e->e.cells[j]?=some x->c[i*sz+j]?=some u->Rep g S dO u x) :
      BlkRep g S m w (some b) (.row sz es)
  |loop {b:Nat} {r:Loop} {d:LpD} {st:LoopState} {pend:Option Code} {sl:List (Nat×Option AV)} (hw:w.heap[b]?=some (.loop r)) (cR:r.state=st) (ph:r.pending=pend)
      (qo:r.params=d.params) (has:r.assign=d.assign) (oe:r.body=d.body) (hnt:d.nt<=r.tmps.size)
      (hr:∀(t:Nat)(x:AV),lk sl t=some x->t<r.tmps.size/\Rep g S m (r.tmps.getD t undef) x):BlkRep g S m w (some b) (.loop d st pend sl)
  |vec {b:Nat} {vs:List ato} {c:Array ato} {t:atp} (hw:w.heap[b]?=some (.cells c t (0,0))) (hc:c.toList=vs) (h1:∀v∈vs,v.oneCell'=true):BlkRep g S m w (some b) (.vec vs)
def Blk.Names(k:Nat):Blk->Prop
  | .box cs=>∃c∈cs,c.Names k
  | .row _ _=>False
  | .loop _ _ _ sl=>∃t x,(t,some x)∈sl/\x.Names k
  | .vec _=>False
theorem BlkRep.mono{g g':Nat->Array ato->Prop}{S S':Nat->Nat->Prop}{m m':Nat->Option Nat}{w w':atr}{o o':Option Nat}{x:Blk}
  (hg:∀b cs,g b cs->g' b cs) (hS:∀b n,S b n->S' b n) (hm:∀k b,x.Names k->m k=some b->m' k=some b)
  (ho:o'=o) (hw:∀b,o=some b->w'.heap[b]?=w.heap[b]?)
  (h:BlkRep g S m w o x):BlkRep g' S' m' w' o' x:=by
 subst ho;cases h with
 |none sz=>exact .none sz
 |box h hn h1 hr =>
  refine .box ((hw _ rfl).trans h) hn h1 (fun j u x hu hx=>(hr j u x hu hx).mono hg hS (fun k b hk=>hm k b ⟨x,ar1 hx,hk⟩))
 |row h hn hl hs h1 hr =>
  refine .row ((hw _ rfl).trans h) hn hl hs h1 (fun i j e u x he hx hu=>(hr i j e u x he hx hu).mono hg hS (fun k b _ h=>h))
 |loop h h1 h2 h3 h4 h5 hn hr =>
  refine .loop ((hw _ rfl).trans h) h1 h2 h3 h4 h5 hn (fun t x hx=>⟨(hr t x hx).1,(hr t x hx).2.mono hg hS (fun k b hk=>hm k b ⟨t,x,sj hx,hk⟩)⟩)
 |vec h hc h1=>exact .vec ((hw _ rfl).trans h) hc h1
mutual
def AV.nm:AV->List Nat
  | .ms k _ _ _=>[k]
  | .ptr k _=>[k]
  | .eptr k _ _ _=>[k]
  | .agg cs=>AV.nms cs
  | .tup xs=>AV.nms xs
  | .fn _ xs=>AV.nms xs
  | .opt _ x=>x.nm
  | .yl k=>[k]
  |_=>[]
def AV.nms:List AV->List Nat
  |[]=>[]
  |x::l=>x.nm++AV.nms l
end
theorem AV.mem_nms{l:List AV}{c:AV}{k:Nat}(hc:c∈l)(hk:k∈c.nm):k∈AV.nms l:=by
 induction l with
 |nil=>cases hc
 |cons x l ih =>
  simp only[AV.nms,ar9];rcases asj.1 hc with rfl |hc
  ·exact .inl hk
  ·exact .inr (ih hc)
theorem AV.Names.mem{x:AV}{k:Nat}(h:x.Names k):k∈x.nm:=by
 induction h with
 |ms=>simp[AV.nm]
 |ptr=>simp[AV.nm]
 |eptr=>simp[AV.nm]
 |agg h _ ih=>exact AV.mem_nms h ih
 |tup h _ ih=>exact AV.mem_nms h ih
 |fn h _ ih=>exact AV.mem_nms h ih
 |opt _ ih=>exact ih
 |yl=>simp[AV.nm]
def H5(sl:List (Nat×Option AV)):List Nat:=sl.flatMap fun p=>match p.2 with |some x=>x.nm |none=>[]
def Blk.nm:Blk->List Nat
  | .box cs=>AV.nms cs
  | .row _ _=>[]
  | .loop _ _ _ sl=>H5 sl
  | .vec _=>[]
theorem Blk.Names.mem{x:Blk}{k:Nat}(h:x.Names k):k∈x.nm:=by
 cases x with
 |box cs=>obtain⟨c,hc,hk⟩:=h;exact AV.mem_nms hc hk.mem
 |row sz es=>exact h.elim
 |vec vs=>exact h.elim
 |loop d st pe sl =>
  obtain⟨t,c,hc,hk⟩:=h;exact List.mem_flatMap.2 ⟨_,hc,hk.mem⟩
end Go.Lw
namespace Go.Lw
abbrev bN:=List (Nat×Option AV)
abbrev Hp:=List (Nat×Option Blk)
theorem mj{α:Type}(u l:List (Nat×Option α))(t:Nat):lk (u++l) t=if t∈u.map (·.1)then lk u t else lk l t:=by
 induction u with
 |nil=>simp
 |cons x u ih =>
  obtain⟨t',x⟩:=x;simp only[cons_append,aE,ih,atb,asj]
  by_cases h:t=t'
  ·simp[h]
  ·rw[atd h]
   by_cases h2:t∈u.map (·.1)
   ·rw[ate h2,ate (.inr h2),atd h]
   ·rw[atd h2,atd (by simp only[h,h2,or_self,not_false_eq_true])]
structure AS where
  sl:bN
  hp:Hp
def AS.get(s:AS)(t:Nat):Option AV:=lk s.sl t
def AS.blk(s:AS)(k:Nat):Option Blk:=lk s.hp k
def aW(hp:Hp)(m:Nat->Option Nat)(b:Nat):Prop:=∃k x,lk hp k=some x/\m k=some b
def Im(ext:Nat->Prop)(hp:Hp)(m:Nat->Option Nat)(w:atr)(b:Nat)(cs:Array ato):Prop :=
  ¬ext b/\¬aW hp m b/\∃t f,w.heap[b]?=some (.cells cs t f)
def Sz(w:atr)(b n:Nat):Prop:=∃c t f,w.heap[b]?=some (.cells c t f)/\n<=c.size
structure HeapRel(ext:Nat->Prop)(hp:Hp)(m:Nat->Option Nat)(w:atr):Prop where
  blk:∀k x,lk hp k=some x->BlkRep (Im ext hp m w) (Sz w) m w (m k) x
  inj:∀k k' x x' b,lk hp k=some x->lk hp k'=some x'->m k=some b->m k'=some b->k=k'
  sep:∀k x b,lk hp k=some x->m k=some b->¬ext b/\b<w.heap.size
structure Frame(own:Nat->Prop)(w w':atr):Prop where
  os:w'.os=w.os
  tape:w'.tape=w.tape
  output:w'.output=w.output
  size:w.heap.size<=w'.heap.size
  sz:∀b n,Sz w b n->Sz w' b n
  keep:∀b,b<w.heap.size->¬own b->w'.heap[b]?=w.heap[b]?
theorem Frame.refl(own:Nat->Prop)(w:atr):Frame own w w:=⟨rfl,rfl,rfl,ar8 _,fun _ _ h=>h,fun _ _ _=>rfl⟩
def I4(run:Array ato->atr->(Ending->atr->Prop)->Prop)(args:List AV)(H:Hp)(r:AV)(H':Hp):Prop :=
  ∀(ext:Nat->Prop)(m:Nat->Option Nat)(w:atr)(vs:Array ato),(∀b,ext b->b<w.heap.size)->HeapRel ext H m w ->
    vs.size=args.length->(∀(j:Nat) v x,vs[j]?=some v->args[j]?=some x->Rep (Im ext H m w) (Sz w) m v x) ->
    run vs w fun e w'=>∃v m',e=.returned v/\Frame (aW H m) w w'/\HeapRel ext H' m' w' /\
      (∀k x b,lk H' k=some x->m' k=some b->aW H m b\/w.heap.size<=b) /\
      (∀k x y,lk H k=some x->lk H' k=some y->m' k=m k) /\
      Rep (Im ext H' m' w') (Sz w') m' v r
def ady(P:atq)(f:FuncId)(args:List AV)(H:Hp)(r:AV)(H':Hp):Prop:=I4 (Calls P f) args H r H'
structure Ctx where
  w0:atr
  ext:Nat->Prop
  own0:Nat->Prop
  m0:Nat->Option Nat
  nt:Nat
  hext:∀b,ext b->b<w0.heap.size
  ro:Option Nat:=none
def Fw(ro:Option Nat):Fence:={ Fence.wide with round:=ro }
def vl(D:Nat):Deferred:={ target:=.collected D,args:=#[] }
def vd(b0:Nat)(l:List Deferred)(w:atr):Prop:=∃Ds:List Nat,l=Ds.map vl/\Ds.Nodup/\∀D∈Ds,b0<=D/\w.heap[D]?=some (.deferred (some []))
theorem vd.nil(b0:Nat)(w:atr):vd b0 [] w:=⟨[],rfl,List.nodup_nil,fun D h=>by cases h⟩
structure RelM(C:Ctx)(s:AS)(m:Nat->Option Nat)(a:Act)(w:atr):Prop where
  slots:∀t x,s.get t=some x->t<a.tmps.size/\Rep (Im C.ext s.hp m w) (Sz w) m (a.tmps.getD t undef) x
  heap:HeapRel C.ext s.hp m w
  frame:Frame C.own0 C.w0 w
  new:∀k x b,lk s.hp k=some x->m k=some b->C.own0 b\/C.w0.heap.size<=b
  keep:∀k x,1000<=k->lk s.hp k=some x->m k=C.m0 k
  defers:vd C.w0.heap.size a.defers w
  nt:C.nt<=a.tmps.size
def AS.Fresh(s:AS)(k:Nat):Prop :=
  lk s.hp k=none/\k<1000/\(∀t x,s.get t=some x->¬x.Names k)/\(∀k' x,lk s.hp k'=some x->¬x.Names k)
theorem HeapRel.lt{ext:Nat->Prop}{hp:Hp}{m:Nat->Option Nat}{w:atr}(_:HeapRel ext hp m w){b:Nat}{o:Obj}(h:w.heap[b]?=some o):b<w.heap.size:=(Array.getElem?_eq_some_iff.1 h).1
theorem HeapRel.cells{ext:Nat->Prop}{hp:Hp}{m:Nat->Option Nat}{w:atr}(h:HeapRel ext hp m w){k b:Nat}{x:Blk}(hk:lk hp k=some x)(hb:m k=some b){o:Option (List Deferred)}(ho:w.heap[b]?=some (.deferred o)):False:=by
 have:=h.blk k x hk;rw[hb]at this;cases this with
 |box hw=>rw[ho]at hw;cases hw
 |row hw=>rw[ho]at hw;cases hw
 |loop hw=>rw[ho]at hw;cases hw
 |vec hw=>rw[ho]at hw;cases hw
theorem RelM.ext_lt{C:Ctx}{s:AS}{m:Nat->Option Nat}{a:Act}{w:atr}(h:RelM C s m a w){b:Nat}(hb:C.ext b):b<w.heap.size :=
 asp (C.hext b hb) h.frame.size
theorem RelM.update{C:Ctx}{s:AS}{m:Nat->Option Nat}{a:Act}{w:atr}(h:RelM C s m a w){w':atr}{m':Nat->Option Nat}{hp':Hp}
  (hf:Frame (aW s.hp m) w w')
  (hm:∀t x k b,s.get t=some x->x.Names k->m k=some b->m' k=some b)
  (bG:∀k x b,lk hp' k=some x->m' k=some b->aW s.hp m b\/w.heap.size<=b)
  (Eo:∀k x,1000<=k->lk hp' k=some x->(∃y,lk s.hp k=some y)/\m' k=m k)
  (hh:HeapRel C.ext hp' m' w'):RelM C ⟨s.sl,hp'⟩ m' a w':=by
 refine⟨?_,hh,?_,?_,fun k x h1 h2=>by obtain⟨⟨y,hy⟩,h4⟩:=Eo k x h1 h2;exact h4.trans (h.keep k y h1 hy),?_,h.nt⟩
 ·intro t x hx;obtain⟨h1,h2⟩:=h.slots t x hx;refine⟨h1,h2.mono ?_ hf.sz (fun k b hk=>hm t x k b hx hk)⟩;rintro b cs ⟨he,ho,t',f',hb⟩
  have hlt:b<w.heap.size:=by
   rcases asb b w.heap.size with h |h
   ·exact h
   ·simp[arv h]at hb
  refine⟨he,?_,t',f',(hf.keep b hlt ho).trans hb⟩;rintro⟨k,y,hk,qu⟩;rcases bG k y b hk qu with h' |h'
  ·exact ho h'
  ·omega
 ·refine⟨hf.os.trans h.frame.os,hf.tape.trans h.frame.tape,hf.output.trans h.frame.output,asv h.frame.size hf.size,fun b n hs=>hf.sz b n (h.frame.sz b n hs),?_⟩;intro b hb ho;rw[hf.keep b (asp hb h.frame.size) ?_,h.frame.keep b hb ho];rintro⟨k,x,hk,qu⟩;rcases h.new k x b hk qu with h' |h'
  ·exact ho h'
  ·omega
 ·intro k x b hk qu;rcases bG k x b hk qu with⟨k2,y,cg,ams⟩ |h'
  ·exact h.new k2 y b cg ams
  ·exact .inr (asv h.frame.size h')
 ·obtain⟨Ds,e,hn,hD⟩:=h.defers;refine⟨Ds,e,hn,fun D hm=>?_⟩;obtain⟨h1,h2⟩:=hD D hm;refine⟨h1,(hf.keep D (h.heap.lt h2) ?_).trans h2⟩;rintro⟨k,x,hk,qu⟩;exact h.heap.cells hk qu h2
theorem f0{ext:Nat->Prop}{hp hp':Hp}{m m':Nat->Option Nat}{w w':atr}(hf:Frame (aW hp m) w w')
  (bG:∀k x b,lk hp' k=some x->m' k=some b->aW hp m b\/w.heap.size<=b) :
  ∀b cs,Im ext hp m w b cs->Im ext hp' m' w' b cs:=by
 rintro b cs ⟨he,ho,t',f',hb⟩
 have hlt:b<w.heap.size:=by
  rcases asb b w.heap.size with h |h
  ·exact h
  ·simp[arv h]at hb
 refine⟨he,?_,t',f',(hf.keep b hlt ho).trans hb⟩;rintro⟨k,y,hk,qu⟩;rcases bG k y b hk qu with h' |h'
 ·exact ho h'
 ·omega
theorem RelM.put{C:Ctx}{s:AS}{m:Nat->Option Nat}{a:Act}{w:atr}(h:RelM C s m a w)(d:Nat)(v:ato)(x:Option AV)
  (hx:∀y,x=some y->d<a.tmps.size/\Rep (Im C.ext s.hp m w) (Sz w) m v y) :
  RelM C ⟨(d,x)::s.sl,s.hp⟩ m { a with tmps:=a.tmps.setIfInBounds d v } w:=by
 refine⟨?_,h.heap,h.frame,h.new,h.keep,h.defers,by simpa using h.nt⟩;intro t y hy;simp only[AS.get,aE]at hy
 by_cases ht:t=d
 ·subst ht;rw[ate rfl]at hy;obtain⟨h1,h2⟩:=hx y hy;refine⟨by simpa using h1,?_⟩;simpa[asc,ark,h1]using h2
 ·rw [atd ht] at hy;obtain ⟨h1,h2⟩:=h.slots t y hy;refine ⟨by simpa using h1,?_⟩
  have:(a.tmps.setIfInBounds d v).getD t undef=a.tmps.getD t undef:=by
   simp only[asc,ark];rw[atd oz]
  simpa[this]using h2
theorem Sz.alloc{w:atr}{o:Obj}{b n:Nat}(h:Sz w b n):Sz { w with heap:=w.heap.push o } b n:=by
 obtain⟨c,t,f,hb,hn⟩:=h;refine⟨c,t,f,?_,hn⟩
 have hlt:b<w.heap.size:=by
  rcases asb b w.heap.size with h |h
  ·exact h
  ·simp[arv h]at hb
 show(w.heap.push o)[b]?=_;rw[aru,atd oz,hb]
theorem GY(own:Nat->Prop)(w:atr)(o:Obj):Frame own w { w with heap:=w.heap.push o }:=by
 refine⟨rfl,rfl,rfl,by simp,fun b n h=>h.alloc,?_⟩;intro b hb _;show(w.heap.push o)[b]?=_;rw[aru,atd oz]
theorem aig(own:Nat->Prop)(w:atr)(n:Nat):Frame own w { w with drawn:=n } :=
 ⟨rfl,rfl,rfl,ar8 _,fun _ _ h=>h,fun _ _ _=>rfl⟩
theorem Frame.trans{own own':Nat->Prop}{w w' w'':atr}(h:Frame own w w')(h':Frame own' w' w'')
  (ho:∀b,b<w.heap.size->own' b->own b):Frame own w w'' :=
 ⟨h'.os.trans h.os,h'.tape.trans h.tape,h'.output.trans h.output,asv h.size h'.size,fun b n hs=>h'.sz b n (h.sz b n hs),
  fun b hb hn=>(h'.keep b (asp hb h.size) (fun hc=>hn (ho b hb hc))).trans (h.keep b hb hn)⟩
theorem RelM.alloc{C:Ctx}{s:AS}{m:Nat->Option Nat}{a:Act}{w:atr}(h:RelM C s m a w){k:Nat}(hk:s.Fresh k)(o:Obj)(x:Blk)
  (hx:¬x.Names k) (et:∀(g:Nat->Array ato->Prop)(S:Nat->Nat->Prop)(m':Nat->Option Nat)(w':atr),
   (∀b cs,Im C.ext s.hp m w b cs->g b cs)->(∀b n,Sz w b n->S b n)->(∀k' b,k'≠k->m k'=some b->m' k'=some b) ->
   w'.heap[w.heap.size]?=some o->BlkRep g S m' w' (some w.heap.size) x) :
  RelM C ⟨s.sl,(k,some x)::s.hp⟩ (fun k'=>if k'=k then some w.heap.size else m k') a { w with heap:=w.heap.push o }:=by
 have ck:∀k' y,lk ((k,some x)::s.hp) k'=some y->k'≠k->lk s.hp k'=some y:=by
  intro k' y hy aO;rw[aE,atd aO]at hy;exact hy
 have dZ:∀k' y b,lk s.hp k'=some y->m k'=some b->b<w.heap.size:=fun k' y b h1 h2=>(h.heap.sep k' y b h1 h2).2
 have hf:=GY (aW s.hp m) w o
 have bG:∀k' y b,lk ((k,some x)::s.hp) k'=some y->(if k'=k then some w.heap.size else m k')=some b->aW s.hp m b\/w.heap.size<=b:=by
  intro k' y b hy hb
  by_cases aO:k'=k
  ·rw[ate aO]at hb;cases hb;exact .inr (ar8 _)
  ·rw[atd aO]at hb;exact .inl ⟨k',y,ck k' y hy aO,hb⟩
 refine h.update hf ?_ bG ?_ ⟨?_,?_,?_⟩
 ·intro t y k' b hy hn hb;have:k'≠k:=fun e=>hk.2.2.1 t y hy (e▸hn)
  rw[atd this];exact hb
 ·intro k' y qw hy;have aO:k' ≠ k:=fun e=>by have:=hk.2.1; omega
  exact⟨⟨y,ck k' y hy aO⟩,by rw[atd aO]⟩
 ·intro k' y hy
  by_cases aO:k'=k
  ·subst aO;rw[aE,ate rfl]at hy;cases hy;rw[ate rfl];refine et _ _ _ _ (f0 hf bG) hf.sz (fun k'' b aO hb=>by rw[atd aO];exact hb) ?_;show(w.heap.push o)[w.heap.size]?=_;simp
  ·have hy':=ck k' y hy aO;rw[atd aO];refine BlkRep.mono (f0 hf bG) hf.sz ?_ rfl ?_ (h.heap.blk k' y hy')
   ·intro k'' b hn hb;have:k''≠k:=fun e=>hk.2.2.2 k' y hy' (e▸hn)
    rw[atd this];exact hb
   ·intro b hb;have:=dZ k' y b hy' hb;show(w.heap.push o)[b]?=_;rw[aru,atd oz]
 ·intro k1 k2 y1 y2 b h1 h2 bM bg
  by_cases e1:k1=k <;> by_cases e2:k2=k
  ·rw[e1,e2]
  ·rw[ate e1]at bM;rw[atd e2]at bg;cases bM
   exact atk (dZ k2 y2 _ (ck k2 y2 h2 e2) bg) oz
  ·rw[atd e1]at bM;rw[ate e2]at bg;cases bg
   exact atk (dZ k1 y1 _ (ck k1 y1 h1 e1) bM) oz
  ·rw[atd e1]at bM;rw[atd e2]at bg
   exact h.heap.inj k1 k2 y1 y2 b (ck k1 y1 h1 e1) (ck k2 y2 h2 e2) bM bg
 ·intro k' y b hy hb
  by_cases aO:k'=k
  ·rw[ate aO]at hb;cases hb
   refine⟨fun hc=>?_,by simp⟩;have:=h.ext_lt hc;omega
  ·rw[atd aO]at hb;have:=h.heap.sep k' y b (ck k' y hy aO) hb;refine⟨this.1,?_⟩;have:=this.2;simp;omega
theorem RelM.write{C:Ctx}{s:AS}{m:Nat->Option Nat}{a:Act}{w:atr}(h:RelM C s m a w){k b:Nat}{x x':Blk}{w':atr}
  {c c':Array ato} {t:atp}
  (hk:lk s.hp k=some x) (hm:m k=some b) (hb:w.heap[b]?=some (.cells c t (0,0))) (a5:c'.size=c.size)
  (hw:w'={ w with heap:=w.heap.setIfInBounds b (.cells c' t (0,0)) })
  (hx:∀(g:Nat->Array ato->Prop)(S:Nat->Nat->Prop),
   (∀b cs,Im C.ext s.hp m w b cs->g b cs)->(∀b n,Sz w b n->S b n) ->
   w'.heap[b]?=some (.cells c' t (0,0))->BlkRep g S m w' (some b) x') :
  RelM C ⟨s.sl,(k,some x')::s.hp⟩ m a w':=by
 have hlt:=(h.heap.sep k x b hk hm).2
 have dB:∀b',w'.heap[b']?=if b=b' then some (.cells c' t (0,0))else w.heap[b']? := by
  intro b';subst hw;show(w.heap.setIfInBounds b _)[b']?=_;rw[ark]
  by_cases e:b=b'
  ·simp[e];omega
  ·simp[e]
 have ck:∀k' y,lk ((k,some x')::s.hp) k'=some y->∃z,lk s.hp k'=some z:=by
  intro k' y hy;rw[aE]at hy;split at hy
  ·subst_vars;exact⟨x,hk⟩
  ·exact⟨y,hy⟩
 have hf:Frame (aW s.hp m) w w':=by
  refine⟨by rw[hw],by rw[hw],by rw[hw],by rw[hw];simp,?_,?_⟩
  ·rintro b' n ⟨c1,t1,f1,h1,h2⟩
   by_cases e:b=b'
   ·subst e;rw[hb]at h1;cases h1;exact⟨c',t,(0,0),by rw[dB,ate rfl],by omega⟩
   ·exact⟨c1,t1,f1,by rw[dB,atd e,h1],h2⟩
  ·intro b' hb' hn;rw[dB,atd];rintro rfl;exact hn ⟨k,x,hk,hm⟩
 have bG:∀k' y b',lk ((k,some x')::s.hp) k'=some y->m k'=some b'->aW s.hp m b'\/w.heap.size<=b':=by
  intro k' y b' hy hb';obtain⟨z,hz⟩:=ck k' y hy;exact .inl ⟨k',z,hz,hb'⟩
 refine h.update hf (fun t y k' b' _ _ hb'=>hb') bG (fun k' y _ hy=>⟨ck k' y hy,rfl⟩) ⟨?_,?_,?_⟩
 ·intro k' y hy
  by_cases e:k'=k
  ·subst e;rw[aE,ate rfl]at hy;cases hy;rw[hm];exact hx _ _ (f0 hf bG) hf.sz (by rw[dB,ate rfl])
  ·rw[aE,atd e]at hy;refine BlkRep.mono (f0 hf bG) hf.sz (fun k'' b' _ hb'=>hb') rfl ?_ (h.heap.blk k' y hy);intro b' hb';rw[dB,atd];rintro rfl;exact e (h.heap.inj k' k y x b hy hk hb' hm)
 ·intro k1 k2 y1 y2 b' h1 h2 bM bg;obtain⟨z1,df⟩:=ck k1 y1 h1;obtain⟨z2,l8⟩:=ck k2 y2 h2;exact h.heap.inj k1 k2 z1 z2 b' df l8 bM bg
 ·intro k' y b' hy hb';obtain⟨z,hz⟩:=ck k' y hy;have:=h.heap.sep k' z b' hz hb';exact⟨this.1,asp this.2 hf.size⟩
theorem RelM.drawn{C:Ctx}{s:AS}{m:Nat->Option Nat}{a:Act}{w:atr}(h:RelM C s m a w)(n:Nat):RelM C s m a { w with drawn:=n }:=by
 have hf:=aig (aW s.hp m) w n;have bG:∀k' y b',lk s.hp k'=some y->m k'=some b'->aW s.hp m b'\/w.heap.size<=b':=fun k' y b' h1 h2=>.inl ⟨k',y,h1,h2⟩
 refine h.update hf (fun t y k' b' _ _ hb'=>hb') bG (fun k' y _ hy=>⟨⟨y,hy⟩,rfl⟩) ⟨?_,h.heap.inj,h.heap.sep⟩;intro k x hk;exact BlkRep.mono (w:=w) (f0 hf bG) hf.sz (fun _ _ _ h=>h) rfl (fun _ _=>rfl) (h.heap.blk k x hk)
structure Out where
  val:Option AV
  upd:Hp
  rt:List Nat
  rd:List Nat
  deriving Inhabited
def AS.app(s:AS)(dst:Option Tmp)(o:Out):AS :=
  ⟨match dst with |some d=>(d,o.val)::s.sl |none=>s.sl,o.upd++s.hp⟩
def iC(s s':AS)(o:Out):Prop:=(∀t∈o.rt,s'.get t=s.get t)/\∀k∈o.rd,s'.blk k=s.blk k
def k9(s:AS)(o:Out):Prop:=∀k∈o.upd.map (·.1),k∈o.rd\/s.Fresh k
def wq(P:atq)(o:Oper)(a:Act)(w:atr)(next:Act->atr->Prop)(Q:Exit->Act->atr->Prop):Prop:=∀ro n,o.uponIn (Fw ro) n P a next Q ((execOp a.eval o).run P w)
theorem U0{P:atq}{f:FuncId}{args:Array ato}{w:atr}{R:Ending->atr->Prop}(h:Calls P f args w R)(ro:Option Nat)(n:Nat):(((Fw ro).depth.isSome=true->1<=n)/\CallsIn (Fw ro) (n-1) P f args w R) :=
 ⟨(fun h=>by cases h),(callsIn_wide (n:=n-1)).2 h⟩
theorem VQ{P:atq}{f:String}{args:Array ato}{w:atr}{R:ato->atr->Prop}(h:Rows P f args w R)(ro:Option Nat)(n:Nat):(((Fw ro).depth.isSome=true->1<=n)/\RowsIn (Fw ro) (n-1) P f args w R) :=
 ⟨(fun h=>by cases h),fun c cs _=>let⟨v,w',r,s⟩:=h c cs;⟨v,w',r,(stepsIn_wide (P:=P)).2 s⟩⟩
theorem zT{P:atq}{o:Oper}{a:Act}{w:atr}{next:Act->atr->Prop}{Q:Exit->Act->atr->Prop}(h:o.wp P a w next Q):wq P o a w next Q:=by
 intro ro n;unfold Oper.wp at h;generalize(execOp a.eval o).run P w=r at h;cases r with
 |ok x w' =>
  cases x with
  |enter f args=>exact U0 h ro n
  |row f args=>exact VQ h ro n
  |round l f ts x y=>exact(show False from h).elim
  |_=>exact h
 |halt x w'=>cases x <;> exact h
structure Step(P:atq)(N:Nat)(R:Array Oper)(s:AS)(o:Oper)(u:Out):Prop where
  run:∀s',iC s s' u->k9 s' u->∀C m a w Q (next:Act->atr->Prop),C.nt=N->RelM C s' m a w ->
    (∀m' a' w',RelM C (s'.app o.dst u) m' a' w'->next a' w') ->
    if Region.wanted o (yielded R a.tmps)then wq P o a w next Q else next (a.put o.dst undef) w
def iZ(P:atq)(N:Nat)(R:Array Oper):List Oper->AS->List Out->(AS->List Out->Prop)->Prop
  |[],s,us,K=>K s us
  |o::ops,s,us,K=>∃u,Step P N R s o u/\k9 s u/\iZ P N R ops (s.app o.dst u) (us++[u]) K
def nd(o:Oper):Bool:=match o.op with
  | .defer _=>false
  |_=>true
theorem PD{P:atq}{o:Oper}{a:Act}{w:atr}{next:Act->atr->Prop}{Q:Exit->Act->atr->Prop}{ro:Option Nat}{n:Nat}(hd:nd o=true)(h:wq P o a w next Q):o.wpIn (Fw ro) n P a w next Q:=by
 refine⟨fun _ _=>trivial,?_⟩;rw[Oper.semAt_eq _ _ _ (by intro c hc;simp[nd,hc]at hd)];exact h ro n
theorem als{P:atq}{N n:Nat}{R:Array Oper}{C:Ctx}(hN:C.nt=N){Q:Exit->Act->atr->Prop}{K:AS->List Out->Prop}
  (hK:∀s us m a w,K s us->RelM C s m a w->Q .normal a w) :
  ∀(ops:List Oper)(i:Nat)(s:AS)(us:List Out)(m:Nat->Option Nat)(a:Act)(w:atr),
   (∀j,R[i+j]?=ops[j]?)->ops.all nd=true->iZ P N R ops s us K->RelM C s m a w->wpOpsIn (Fw C.ro) n P R Q (List.range' i ops.length) a w:=by
 intro ops
 induction ops with
 |nil=>intro i s us m a w _ _ h hr;exact hK s us m a w h hr
 |cons o ops ih =>
  intro i s us m a w hR cE h hr;simp only[List.all_cons,ar5]at cE;obtain⟨u,hs,hn,h⟩:=h;have ho:R[i]?=some o:=by simpa using hR 0
  simp only[asi,List.range'_succ];rw[wpOpsIn_cons];unfold wpOpIn;simp only[ho]
  have:=hs.run s ⟨fun _ _=>rfl,fun _ _=>rfl⟩ hn C m a w Q (wpOpsIn (Fw C.ro) n P R Q (List.range' (i+1) ops.length)) hN hr
   (fun m' a' w' hr'=>ih (i+1) _ _ m' a' w' (fun j=>by have:=hR (j+1);simpa[ao0,ao7 1 j]using this) cE.2 h hr')
  split
  ·rename_i hw;rw[ate hw]at this;exact PD cE.1 this
  ·rename_i hw;rw[atd hw]at this;exact⟨fun _ _=>trivial,this⟩
theorem HeapRel.congr{ext:Nat->Prop}{hp hp':Hp}{m:Nat->Option Nat}{w:atr}(h:∀k,lk hp k=lk hp' k)
  (hr:HeapRel ext hp m w):HeapRel ext hp' m w:=by
 have e1:aW hp m=aW hp' m:=by funext b;simp only[aW,h]
 have e2:Im ext hp m w=Im ext hp' m w:=by funext b cs;simp only[Im,e1]
 refine⟨?_,?_,?_⟩
 ·intro k x hk;rw[<- e2];exact hr.blk k x ((h k).trans hk)
 ·intro k k' x x' b h1 h2;exact hr.inj k k' x x' b ((h k).trans h1) ((h k').trans h2)
 ·intro k x b h1;exact hr.sep k x b ((h k).trans h1)
theorem RelM.congr{C:Ctx}{s s':AS}{m:Nat->Option Nat}{a:Act}{w:atr}(h1:∀t,s.get t=s'.get t)(h2:∀k,s.blk k=s'.blk k)
  (hr:RelM C s m a w):RelM C s' m a w:=by
 have e1:aW s.hp m=aW s'.hp m:=by funext b;simp only[aW];simp only[AS.blk]at h2;simp only[h2]
 have e2:Im C.ext s.hp m w=Im C.ext s'.hp m w:=by funext b cs;simp only[Im,e1]
 refine⟨?_,hr.heap.congr h2,hr.frame,?_,fun k x h3 h4=>hr.keep k x h3 ((h2 k).trans h4),hr.defers,hr.nt⟩
 ·intro t x hx;rw[<- e2];exact hr.slots t x ((h1 t).trans hx)
 ·intro k x b hk;exact hr.new k x b ((h2 k).trans hk)
def Jm(prev:List Nat)(o:Oper):Nat :=
  o.after.toList.foldl (fun s e=>match Region.binds .any e with
    |true=>s ||| (2^e.on ||| prev.getD e.on 0)
    |false=>s) 0
def kX:List Oper->List Nat->List Nat
  |[],prev=>prev
  |o::ops,prev=>kX ops (prev++[Jm prev o])
theorem agv(prev:List Nat)(j:Nat):∀(l:List Edge)(s:Nat),
  (l.foldl (fun s e=>match Region.binds .any e with
   |true=>s ||| (2^e.on ||| prev.getD e.on 0)
   |false=>s) s).testBit j=true ->
  s.testBit j=true\/∃e∈l,Region.binds .any e=true/\(j=e.on\/(prev.getD e.on 0).testBit j=true):=by
 intro l
 induction l with
 |nil=>intro s h;exact .inl h
 |cons e l ih =>
  intro s h;simp only[List.foldl_cons]at h;rcases ih _ h with h |⟨e',he',hb,hj⟩
  ·cases hb:Region.binds .any e with
   |false=>rw[hb]at h;exact .inl h
   |true =>
    rw[hb]at h;simp only[Nat.testBit_or,ata,Nat.testBit_two_pow,atf]at h;rcases h with h |h |h
    ·exact .inl h
    ·exact .inr ⟨e,as2,hb,.inl h.symm⟩
    ·exact .inr ⟨e,as2,hb,.inr h⟩
  ·exact .inr ⟨e',ass _ he',hb,hj⟩
theorem Qm:∀(ops:List Oper)(prev:List Nat),(kX ops prev).length=prev.length+ops.length
 |[],prev=>rfl
 |o::ops,prev=>by simp only[kX,Qm ops,asx,asi,asu];omega
theorem H3:∀(ops:List Oper)(prev:List Nat)(i:Nat),i<prev.length->(kX ops prev).getD i 0=prev.getD i 0
 |[],prev,i,_=>rfl
 |o::ops,prev,i,h=>by
  simp only[kX];rw[H3 ops _ i (by simp;omega)];simp[ar2,asq h]
theorem OH:∀(ops:List Oper)(prev:List Nat)(i:Nat)(o:Oper),ops[i]?=some o ->
  ∃q,(kX ops prev).getD (prev.length+i) 0=Jm q o/\∀j,q.getD j 0≠0->j<prev.length+i/\q.getD j 0=(kX ops prev).getD j 0
 |[],prev,i,o,h=>by simp at h
 |o'::ops,prev,0,o,h=>by
  simp at h;subst h
  refine⟨prev,?_,?_⟩
  ·simp only[kX,aoy];rw[H3 ops _ _ (by simp)];simp[ar2]
  ·intro j hj
   have hlt:j<prev.length:=by
    rcases asb j prev.length with h |h
    ·exact h
    ·exact atk (by simp[ar2,asg h]) hj
   refine⟨by omega,?_⟩;simp only[kX];rw[H3 ops _ _ (by simp;omega)];simp[ar2,asq hlt]
 |o'::ops,prev,i+1,o,h=>by
  simp at h;obtain⟨q,h1,h2⟩:=OH ops (prev++[Jm prev o']) i o h;refine⟨q,?_,?_⟩
  ·simp only[kX];rw[<- h1];simp only[asx,asi,asu];congr 1;omega
  ·intro j hj;obtain⟨h3,h4⟩:=h2 j hj;simp at h3;exact⟨by omega,h4⟩
def Ti(R:Array Oper)(L:Nat->Bool):Prop:=∀i o,R[i]?=some o->L i=true->∀e∈o.after.toList,Region.binds .any e=true->L e.on=true
theorem PT{R:Array Oper}{L:Nat->Bool}(hc:Ti R L):∀(i:Nat)(o:Oper),R[i]?=some o ->
  (∀e∈o.after.toList,Region.binds .any e=true->L e.on=true)->∀j,((kX R.toList []).getD i 0).testBit j=true->L j=true:=by
 intro i
 induction i using Nat.strongRecOn with
 |_ i ih =>
  intro o ho hp j hj;obtain⟨q,h1,h2⟩:=OH R.toList [] i o (by simpa using ho);simp only[asu,aoj]at h1 h2;rw[h1]at hj;rcases agv q j _ _ hj with h |⟨e,he,hb,h |h⟩
  ·simp at h
  ·exact h▸hp e he hb
  ·have aO : q.getD e.on 0 ≠ 0 := fun h0 => by rw [h0] at h; simp at h
   obtain⟨h3,h4⟩:=h2 e.on aO;rw[h4]at h;have hl:=hp e he hb
   have hlt:e.on<R.size:=by
    rcases asb e.on R.size with hh |hh
    ·exact hh
    ·exfalso;have:(kX R.toList []).length = R.size:=by rw [Qm]; simp
     rw[ar2,asg oz]at h;simp at h
   exact ih e.on h3 R[e.on] (by simp[hlt]) (hc e.on _ (by simp[hlt]) hl) j h
def Out.wr(u:Out):List Nat:=u.upd.map (·.1)
def Out.nm(u:Out):List Nat:=(match u.val with |some x=>x.nm |none=>[])++u.upd.flatMap fun p=>match p.2 with |some x=>x.nm |none=>[]
def nH(a b:List Nat):Bool:=a.any fun x=>b.contains x
def By(d:Option Nat)(l:List Nat):Bool:=match d with |some d=>l.contains d |none=>false
def lZ(o1:Oper)(u1:Out)(o2:Oper)(u2:Out):Bool :=
  By o1.dst u2.rt||By o2.dst u1.rt||(match o1.dst with |some d=>o2.dst==some d |none=>false) ||
    nH u1.wr u2.rd||nH u1.wr u2.wr||nH u2.wr u1.rd||nH (u1.wr.filter fun k=>!u1.rd.contains k) u2.nm
def x6(M:List Nat)(o2:Oper)(u2:Out)(j:Nat):Nat->List Oper->List Out->Bool
  |i,o1::ops,u1::us=>(match aob i j with
      |true=>(!lZ o1 u1 o2 u2||(M.getD j 0).testBit i)&&!nH (u2.wr.filter fun k=>!u2.rd.contains k) (u1.nm++u1.wr)
      |false=>true)&&x6 M o2 u2 j (i+1) ops us
  |_,_,_=>true
def BB(M:List Nat)(R:List Oper)(U:List Out):Nat->List Oper->List Out->Bool
  |j,o::ops,u::us=>x6 M o u j 0 R U&&(o.after.toList.all fun e=>!Region.binds .any e||aob e.on j)&&BB M R U (j+1) ops us
  |_,_,_=>true
def AS.freshB(s:AS)(k:Nat):Bool :=
  (s.sl.all fun p=>match p.2 with |some x=>!x.nm.contains k |none=>true) &&
    (s.hp.all fun p=>match p.2 with |some x=>!x.nm.contains k |none=>true) &&
    (match lk s.hp k with |some _=>false |none=>true)&&aob k 1000
theorem AS.fresh_of{s:AS}{k:Nat}(h:s.freshB k=true):s.Fresh k:=by
 simp only[AS.freshB,ar5,asd]at h;obtain⟨⟨⟨h1,h2⟩,h3⟩,h4⟩:=h;refine⟨?_,by simpa[aoh]using h4,?_,?_⟩
 ·cases hk:lk s.hp k with
  |none=>rfl
  |some x=>rw[hk]at h3;simp at h3
 ·intro t x hx hn;have:=h1 _ (sj hx);simp at this;exact this hn.mem
 ·intro t x hx hn;have:=h2 _ (sj hx);simp at this;exact this hn.mem
def chk(R:List Oper)(U:List Out)(s:AS):Bool :=
  BB (kX R []) R U 0 R U&&(U.all fun u=>u.wr.all fun k=>u.rd.contains k||s.freshB k)
theorem Qt{M:List Nat}{o2:Oper}{u2:Out}{j:Nat}:∀(ops:List Oper)(us:List Out)(i0:Nat),x6 M o2 u2 j i0 ops us=true ->
  ∀i o1 u1,ops[i]?=some o1->us[i]?=some u1->i0+i<j ->
   (lZ o1 u1 o2 u2=true->(M.getD j 0).testBit (i0+i)=true)/\nH (u2.wr.filter fun k=>!u2.rd.contains k) (u1.nm++u1.wr)=false
 |[],_,_,_,i,o1,u1,h,_,_=>by simp at h
 |_::_,[],_,_,i,o1,u1,_,h,_=>by simp at h
 |o::ops,u::us,i0,hc,i,o1,u1,h1,h2,hlt=>by
  simp only[x6,ar5]at hc;obtain⟨fS,sk⟩:=hc;cases i with
  |zero =>
   simp at h1 h2;subst h1;subst h2
   have hb:aob i0 j=true:=by simpa[aoh]using hlt
   rw[hb]at fS;simp only[ar5,ata,arf]at fS;refine⟨fun hw=>?_,fS.2⟩;rcases fS.1 with h |h
   ·rw[hw]at h;cases h
   ·simpa using h
  |succ i =>
   simp at h1 h2;have:=Qt ops us (i0+1) sk i o1 u1 h1 h2 oz;rw[show i0+(i+1)=i0+1+i by omega];exact this
theorem IV{M:List Nat}{R:List Oper}{U:List Out}:∀(ops:List Oper)(us:List Out)(j0:Nat),BB M R U j0 ops us=true ->
  ∀j o u,ops[j]?=some o->us[j]?=some u->x6 M o u (j0+j) 0 R U=true/\∀e∈o.after.toList,Region.binds .any e=true->e.on<j0+j
 |[],_,_,_,i,o1,u1,h,_=>by simp at h
 |_::_,[],_,_,i,o1,u1,_,h=>by simp at h
 |o::ops,u::us,j0,hc,j,o1,u1,h1,h2=>by
  simp only[BB,ar5,asd]at hc;obtain⟨⟨fS,sk⟩,Jq⟩:=hc;cases j with
  |zero =>
   simp at h1 h2;subst h1;subst h2
   refine⟨fS,fun e he hb=>?_⟩;have:=sk e he;simpa[hb,aoh]using this
  |succ j =>
   simp at h1 h2;have:=IV ops us (j0+1) Jq j o1 u1 h1 h2;rw[show j0+(j+1)=j0+1+j by omega];exact this
def vw(R:Array Oper)(U:List Out)(s:AS)(L:Nat->Bool):Nat->AS
  |0=>s
  |i+1=>match L i,R[i]?,U[i]? with
    |true,some o,some u=>(vw R U s L i).app o.dst u
    |_,_,_=>vw R U s L i
theorem jb(s:AS)(d:Option Tmp)(u:Out)(t:Nat):(s.app d u).get t=if d=some t then u.val else s.get t:=by
 cases d with
 |none=>simp[AS.app,AS.get]
 |some d =>
  simp only[AS.app,AS.get,aE]
  by_cases h:t=d
  ·simp[h]
  ·rw[atd h,atd (by simpa using fun e=>h e.symm)]
theorem uT(s:AS)(d:Option Tmp)(u:Out)(k:Nat):(s.app d u).blk k=if k∈u.wr then lk u.upd k else s.blk k:=by
 simp only[AS.app,AS.blk,mj,Out.wr];rfl
section
variable{R:Array Oper}{U:List Out}{s:AS}
theorem NG{L:Nat->Bool}{t i:Nat}(n:Nat)(bR:i<=n)(h:∀j o,i<=j->R[j]?=some o->o.dst=some t->L j=false) :
  (vw R U s L n).get t=(vw R U s L i).get t:=by
 induction n with
 |zero=>rw[show i=0 by omega]
 |succ n ih =>
  by_cases hn:i<=n
  ·rw[<- ih hn];simp only[vw];split
   ·rename_i o u h1 h2 h3;rw[jb,atd];intro hd;rw[h n o hn h2 hd]at h1;cases h1
   ·rfl
  ·rw[show i=n+1 by omega]
theorem Tq{L:Nat->Bool}{k i:Nat}(n:Nat)(bR:i<=n)(h:∀j u,i<=j->U[j]?=some u->k∈u.wr->L j=false) :
  (vw R U s L n).blk k=(vw R U s L i).blk k:=by
 induction n with
 |zero=>rw[show i=0 by omega]
 |succ n ih =>
  by_cases hn:i<=n
  ·rw[<- ih hn];simp only[vw];split
   ·rename_i o u h1 h2 h3;rw[uT,atd];intro hd;rw[h n u hn h3 hd]at h1;cases h1
   ·rfl
  ·rw[show i=n+1 by omega]
theorem Hj{L L':Nat->Bool}{t:Nat}(n:Nat)(h:∀j o,j<n->R[j]?=some o->o.dst=some t->L j=L' j) :
  (vw R U s L n).get t=(vw R U s L' n).get t:=by
 induction n with
 |zero=>rfl
 |succ n ih =>
  have ih:=ih (fun j o hj=>h j o oz);simp only[vw];cases ho:R[n]? with
  |none=>cases L n <;> cases L' n <;> simp only[ih]
  |some o =>
   cases hu:U[n]? with
   |none=>cases L n <;> cases L' n <;> simp only[ih]
   |some u =>
    by_cases hd:o.dst=some t
    ·rw[h n o oz ho hd];cases L' n <;> simp only[jb,hd,if_true,ih]
    ·cases L n <;> cases L' n <;> simp only[jb,atd hd,ih]
theorem It{L L':Nat->Bool}{k:Nat}(n:Nat)(h:∀j u,j<n->U[j]?=some u->k∈u.wr->L j=L' j) :
  (vw R U s L n).blk k=(vw R U s L' n).blk k:=by
 induction n with
 |zero=>rfl
 |succ n ih =>
  have ih:=ih (fun j o hj=>h j o oz);simp only[vw];cases ho:R[n]? with
  |none=>cases L n <;> cases L' n <;> simp only[ih]
  |some o =>
   cases hu:U[n]? with
   |none=>cases L n <;> cases L' n <;> simp only[ih]
   |some u =>
    by_cases hd:k∈u.wr
    ·rw[h n u oz hu hd];cases L' n <;> simp only[uT,hd,if_true,ih]
    ·cases L n <;> cases L' n <;> simp only[uT,atd hd,ih]
theorem afj{L:Nat->Bool}{t:Nat}{x:AV}:∀n,(vw R U s L n).get t=some x ->
  s.get t=some x\/∃j u,L j=true/\U[j]?=some u/\u.val=some x:=by
 intro n
 induction n with
 |zero=>exact .inl
 |succ n ih =>
  intro h;simp only[vw]at h;split at h
  ·rename_i o u h1 h2 h3;rw[jb]at h;split at h
   ·exact .inr ⟨n,u,h1,h3,h⟩
   ·exact ih h
  ·exact ih h
theorem QO{L:Nat->Bool}{k:Nat}{x:Blk}:∀n,(vw R U s L n).blk k=some x ->
  s.blk k=some x\/∃j u,L j=true/\U[j]?=some u/\k∈u.wr/\lk u.upd k=some x:=by
 intro n
 induction n with
 |zero=>exact .inl
 |succ n ih =>
  intro h;simp only[vw]at h;split at h
  ·rename_i o u h1 h2 h3;rw[uT]at h;split at h
   ·rename_i hk;exact .inr ⟨n,u,h1,h3,hk,h⟩
   ·exact ih h
  ·exact ih h
end
theorem ak1{a b:List Nat}(h:nH a b=false){x:Nat}(ha:x∈a):x∉b:=by
 intro hb;simp only[nH,List.any_eq_false]at h;exact h x ha (by simpa using hb)
theorem xT{a b:List Nat}{x:Nat}(ha:x∈a)(hb:x∈b):nH a b=true:=by
 simp only[nH,List.any_eq_true];exact⟨x,ha,by simpa using hb⟩
section
variable{P:atq}{N:Nat}{R:Array Oper}{U:List Out}{s0:AS}{C:Ctx}{Q:Exit->Act->atr->Prop}
theorem ZF{u:Out}{x:AV}{k:Nat}(h:u.val=some x)(hk:x.Names k):k∈u.nm:=by
 simp only[Out.nm,h,ar9];exact .inl hk.mem
theorem Yi{u:Out}{x:Blk}{k k':Nat}(h:lk u.upd k'=some x)(hk:x.Names k):k∈u.nm:=by
 simp only[Out.nm,ar9,List.mem_flatMap];exact .inr ⟨_,sj h,hk.mem⟩
theorem ajy{n:Nat}(cE:R.toList.all nd=true)(hN:C.nt=N)(cm:U.length=R.size)(cR:∀(i:Nat) o u,R[i]?=some o->U[i]?=some u->Step P N R (vw R U s0 (fun _=>true) i) o u)
    (hc:chk R.toList U s0=true) (hQ:∀m a w,RelM C (vw R U s0 (fun _=>true) R.size) m a w->Q .normal a w) :
    ∀(fuel:Nat)(listed:Array Bool),listed.size=R.size->Ti R (fun i=>listed.getD i false) ->
      ((List.range R.size).filter fun i=>!listed.getD i false).length<=fuel ->
      ∀m a w,RelM C (vw R U s0 (fun i=>listed.getD i false) R.size) m a w->wpAnyIn (Fw C.ro) n P .any R Q fuel listed a w:=by
  simp only[chk,ar5,asd,ata]at hc;obtain⟨fS,sk⟩:=hc;have hU:∀i,i<R.size->∃o u,R[i]?=some o/\U[i]?=some u:=fun i hi=>⟨R[i],U[i],by simp[hi],by simp⟩
  have Jr:∀i j o1 u1 o2 u2,R[i]?=some o1->U[i]?=some u1->R[j]?=some o2->U[j]?=some u2->i<j ->
      (lZ o1 u1 o2 u2=true->((kX R.toList []).getD j 0).testBit i=true)/\nH (u2.wr.filter fun k=>!u2.rd.contains k) (u1.nm++u1.wr)=false:=by
    intro i j o1 u1 o2 u2 h1 h2 h3 h4 hlt;have:=IV R.toList U 0 fS j o2 u2 (by simpa using h3) h4;simp only[aoj]at this;have:=Qt R.toList U 0 this.1 i o1 u1 (by simpa using h1) h2 oz;simpa using this
  have amt:∀j o,R[j]?=some o->∀e∈o.after.toList,Region.binds .any e=true->e.on<j:=by
    intro j o h
    have hj:j<R.size:=by
      rcases asb j R.size with hh |hh
      · exact hh
      · simp[arv hh]at h
    obtain⟨o',u,h1,h2⟩:=hU j hj;rw[h]at h1;cases h1
    have:=(IV R.toList U 0 fS j o u (by simpa using h) h2).2;simpa using this
  have Tx:∀(listed:Array Bool),listed.size=R.size->Region.ready .any R listed=[]->∀i,i<R.size->listed.getD i false=true:=by
    intro listed a5 hr i
    induction i using Nat.strongRecOn with
    |_ i ih =>
      intro hi;cases hl:listed.getD i false with
      |true=>rfl
      |false =>
        exfalso
        have:i∈Region.ready .any R listed:=by
          simp only[Region.ready,apy,apt];refine⟨hi,?_⟩
          have e1:listed.getD i true=false:=by
            simp only[asc]at hl ⊢;rw[aro oz]at hl ⊢;exact hl
          simp only[e1,Bool.not_false,are];rw[aro hi];simp only[arz,ary,arg,ata,arf];intro e he;cases hb:Region.binds .any e with
          |false=>exact .inl rfl
          |true =>
            have:=amt i R[i] (by simp[hi]) e (by simpa using he) hb;exact .inr (ih e.on this oz)
        rw[hr]at this;cases this
  have lg:∀(listed:Array Bool),listed.size=R.size->Region.ready .any R listed=[]->∀m a w,
      RelM C (vw R U s0 (fun i=>listed.getD i false) R.size) m a w->Q .normal a w:=by
    intro listed a5 hr m a w h;refine hQ m a w (h.congr (fun t=>Hj _ (fun j o hj _ _=>Tx listed a5 hr j hj)) (fun k=>It _ (fun j u hj _ _=>Tx listed a5 hr j hj)))
  intro fuel
  induction fuel with
  |zero =>
    intro listed a5 gh hf m a w h
    have Ty:Region.ready .any R listed=[]:=by
      cases hr:Region.ready .any R listed with
      |nil=>rfl
      |cons i l =>
        exfalso;have hi:i∈Region.ready .any R listed:=by rw[hr];exact as2
        simp only[Region.ready,apy,apt,ar5,arf]at hi
        have:listed.getD i false=false:=by
          have h1:=hi.2.1;simp only[asc]at h1 ⊢;rw[aro oz]at h1 ⊢;exact h1
        have amu:i∈(List.range R.size).filter fun i=>!listed.getD i false:=by simp[apy,hi.1];simpa using this
        have:=List.length_pos_of_mem amu;omega
    exact⟨Ty,lg listed a5 Ty m a w h⟩
  |succ fuel ih =>
    intro listed a5 gh hf m a w h;refine⟨fun hr=>lg listed a5 hr m a w h,?_⟩;intro i hi;simp only[Region.ready,apy,apt,ar5,arf]at hi;obtain⟨Tz,qz,Js⟩:=hi
    have qz:listed.getD i false=false:=by
      simp only[asc]at qz ⊢;rw[aro oz]at qz ⊢;exact qz
    obtain⟨o,u,ho,hu⟩:=hU i Tz;rw[ho]at Js;simp only[arz,ary,arg,ata,arf]at Js
    have TA:∀e∈o.after.toList,Region.binds .any e=true->listed.getD e.on false=true:=by
      intro e he hb;rcases Js e (by simpa using he)with h |h
      · rw[hb]at h;cases h
      · exact h
    have TB:∀j oj uj,R[j]?=some oj->U[j]?=some uj->j<i->lZ oj uj o u=true->listed.getD j false=true:=by
      intro j oj uj h1 h2 hlt hw;exact PT gh i o ho TA j ((Jr j i oj uj o u h1 h2 ho hu hlt).1 hw)
    have w8:∀j oj uj,R[j]?=some oj->U[j]?=some uj->i<j->lZ o u oj uj=true->listed.getD j false=false:=by
      intro j oj uj h1 h2 hlt hw;cases hl:listed.getD j false with
      |false=>rfl
      |true =>
        have:=PT gh j oj h1 (gh j oj h1 hl) i ((Jr i j o u oj uj ho hu h1 h2 hlt).1 hw);rw[qz]at this;cases this
    have Ju:∀(j:Nat) oj,R[j]?=some oj->∃uj,U[j]?=some uj:=by
      intro j oj h
      have hj:j<R.size:=by
        rcases asb j R.size with hh |hh
        · exact hh
        · simp[arv hh]at h
      obtain⟨_,uj,_,h2⟩:=hU j hj;exact⟨uj,h2⟩
    have Ep:∀(j:Nat) uj,U[j]?=some uj->∃oj,R[j]?=some oj:=by
      intro j uj h
      have hj:j<R.size:=by
        rcases asb j R.size with hh |hh
        · exact hh
        · rw[asg oz]at h;cases h
      obtain⟨oj,_,h1,_⟩:=hU j hj;exact⟨oj,h1⟩
    have dB:∀t,t∈u.rt->(vw R U s0 (fun i=>listed.getD i false) R.size).get t=(vw R U s0 (fun _=>true) i).get t:=by
      intro t ht;rw[NG (i:=i) R.size oz]
      · refine Hj i (fun j oj hj fK hd=>?_)
        obtain⟨uj,eV⟩:=Ju j oj fK;exact TB j oj uj fK eV hj (by simp[lZ,By,hd,ht])
      · intro j oj hj fK hd
        obtain⟨uj,eV⟩:=Ju j oj fK;rcases asb i j with hlt |hge
        · exact w8 j oj uj fK eV hlt (by simp[lZ,By,hd,ht])
        · rw[show j=i by omega];exact qz
    have pi:∀k,k∈u.rd->(vw R U s0 (fun i=>listed.getD i false) R.size).blk k=(vw R U s0 (fun _=>true) i).blk k:=by
      intro k hk;rw[Tq (i:=i) R.size oz]
      · refine It i (fun j uj hj eV hd=>?_)
        obtain⟨oj,fK⟩:=Ep j uj eV;exact TB j oj uj fK eV hj (by simp[lZ,xT hd hk])
      · intro j uj hj eV hd
        obtain⟨oj,fK⟩:=Ep j uj eV;rcases asb i j with hlt |hge
        · exact w8 j oj uj fK eV hlt (by simp[lZ,xT hd hk])
        · rw[show j=i by omega];exact qz
    have bP:k9 (vw R U s0 (fun i=>listed.getD i false) R.size) u:=by
      intro k hk
      by_cases zU:k∈u.rd
      · exact .inl zU
      refine .inr ?_
      have hfr:s0.Fresh k:=by
        rcases sk u (ar1 hu) k hk with h |h
        · exact atk (by simpa using h) zU
        · exact AS.fresh_of h
      have bh:k∈u.wr.filter fun k=>!u.rd.contains k:=by simp[apy,zU];simpa[Out.wr]using hk
      have jF:∀j uj,listed.getD j false=true->U[j]?=some uj->k∉uj.nm/\k∉uj.wr:=by
        intro j uj hl eV;obtain⟨oj,fK⟩:=Ep j uj eV;rcases Nat.lt_trichotomy j i with hlt |heq |hgt
        · have hm:=ak1 (Jr j i oj uj o u fK eV ho hu hlt).2 bh
          exact⟨fun h=>hm (ar9.2 (.inl h)),fun h=>hm (ar9.2 (.inr h))⟩
        · subst heq;rw[qz]at hl;cases hl
        · refine⟨fun hn=>?_,fun w9=>?_⟩
          · have := w8 j oj uj fK eV hgt (by simp only [lZ, xT bh hn, Bool.or_true])
            rw[hl]at this;cases this
          · have := w8 j oj uj fK eV hgt (by simp [lZ, xT (by simpa [Out.wr] using hk : k ∈ u.wr) w9])
            rw[hl]at this;cases this
      refine⟨?_,hfr.2.1,?_,?_⟩
      · cases hb:(vw R U s0 (fun i=>listed.getD i false) R.size).blk k with
        |none=>exact hb
        |some x =>
          rcases QO _ hb with h |⟨j,uj,hl,eV,w9,_⟩
          · rw[AS.blk,hfr.1]at h;cases h
          · exact atk w9 (jF j uj hl eV).2
      · intro t x hx hn
        rcases afj _ hx with h |⟨j,uj,hl,eV,hv⟩
        · exact hfr.2.2.1 t x h hn
        · exact(jF j uj hl eV).1 (ZF hv hn)
      · intro k' x hx hn
        rcases QO _ hx with h |⟨j,uj,hl,eV,_,hv⟩
        · exact hfr.2.2.2 k' x h hn
        · exact(jF j uj hl eV).1 (Yi hv hn)
    unfold wpOpIn;simp only[ho];have amv:nd o=true:=asd.1 cE o (by simpa using Array.mem_of_getElem? ho)
    suffices hs:(if Region.wanted o (yielded R a.tmps)then wq P o a w (wpAnyIn (Fw C.ro) n P .any R Q _ (listed.setIfInBounds i true)) Q else wpAnyIn (Fw C.ro) n P .any R Q _ (listed.setIfInBounds i true) (a.put o.dst undef) w) by
      split
      · rename_i hw;rw[ate hw]at hs;exact PD amv hs
      · rename_i hw;rw[atd hw]at hs;exact⟨fun _ _=>trivial,hs⟩
    refine(cR i o u ho hu).run _ ⟨dB,pi⟩ bP C m a w Q _ hN h ?_;intro m' a' w' h'
    have hL:∀j,(listed.setIfInBounds i true).getD j false=if j=i then true else listed.getD j false:=by
      intro j;simp only[asc,ark]
      by_cases hj:j=i
      · subst hj
        rw[ate rfl,ate rfl,ate oz];rfl
      · rw[atd oz,atd hj]
    refine ih (listed.setIfInBounds i true) (by simpa using a5) ?_ ?_ m' a' w' ?_
    · intro j oj fK hl e he hb
      simp only[hL]at hl ⊢
      by_cases TC:e.on=i
      · simp[TC]
      · rw[atd TC]
        by_cases hj:j=i
        · subst hj;rw[ho]at fK;cases fK;exact TA e he hb
        · rw[atd hj]at hl;exact gh j oj fK hl e he hb
    · have e1:((List.range R.size).filter fun j=>!(listed.setIfInBounds i true).getD j false) =
          ((List.range R.size).filter fun j=>!listed.getD j false).filter fun j=>!decide (j=i):=by
        rw[List.filter_filter];refine List.filter_congr (fun j _=>?_);rw[hL]
        by_cases hj:j=i <;> simp[hj]
      have e2:(((List.range R.size).filter fun j=>!listed.getD j false).filter fun j=>!decide (j=i)).length<((List.range R.size).filter fun j=>!listed.getD j false).length:=by
        rw[List.length_filter_lt_length_iff_exists];exact⟨i,by simp[apy,Tz];simpa using qz,by simp⟩
      rw[e1];omega
    · refine h'.congr (fun t=>?_) (fun k=>?_)
      · rw[jb]
        by_cases hd:o.dst=some t
        · rw[ate hd]
          rw[NG (i:=i+1) R.size oz]
          · simp only[vw,hL,if_true,ho,hu,jb,hd]
          · intro j oj hj fK uu
            rw[hL,atd oz];obtain⟨uj,eV⟩:=Ju j oj fK;exact w8 j oj uj fK eV oz (by simp[lZ,hd,uu])
        · rw[atd hd]
          refine Hj _ (fun j oj hj fK uu=>?_);rw[hL,atd];rintro rfl;rw[ho]at fK;cases fK;exact hd uu
      · rw[uT]
        by_cases hd:k∈u.wr
        · rw[ate hd]
          rw[Tq (i:=i+1) R.size oz]
          · simp only[vw,hL,if_true,ho,hu,uT,hd]
          · intro j uj hj eV uu
            rw[hL,atd oz];obtain⟨oj,fK⟩:=Ep j uj eV;exact w8 j oj uj fK eV oz (by simp[lZ,xT hd uu])
        · rw[atd hd]
          refine It _ (fun j uj hj eV uu=>?_);rw[hL,atd];rintro rfl;rw[hu]at eV;cases eV;exact hd uu
end
inductive TK where
  |bool |int (k:IntKind) |string |slice (e:Nat) |array (n e:Nat) |struct |iface (n:Nat) |pointer (e:Nat) |other
  deriving Inhabited
structure TI where
  size:Nat
  bytes:Nat
  zero:List ato
  k:TK
  fs:List (Nat×Nat)
  deriving Inhabited
def TI.ag(t:TI):Bool:=match t.k with | .struct | .array _ _=>true |_=>false
def iR:TypeDesc->TK
  | .bool=>.bool
  | .int k=>.int k
  | .string=>.string
  | .slice e=>.slice e
  | .array n e=>.array n e
  | .struct _=>.struct
  | .interface ms=>.iface ms.size
  | .pointer e=>.pointer e
  |_=>.other
def uV(P:atq):TypeDesc->List (Nat×Nat)
  | .struct fs=>fs.toList.map fun f=>(f.offset,match P.info? f.type with |some j=>j.size |none=>0)
  |_=>[]
def au(P:atq)(t:atp):Option TI :=
  match P.info? t,P.underlying t with
  |some i,some d=>match i.zero with
    |some z=>some ⟨i.size,i.bytes,z.cells.toList,iR d,uV P d⟩
    |none=>none
  |_,_=>none
theorem yZ{P:atq}{t:atp}{ti:TI}(h:au P t=some ti) :
  ∃i d z,P.info? t=some i/\P.underlying t=some d/\i.zero=some z/\ti=⟨i.size,i.bytes,z.cells.toList,iR d,uV P d⟩:=by
 unfold au at h;split at h
 ·rename_i i d h1 h2;split at h
  ·rename_i z h3;cases h;exact⟨i,d,z,h1,h2,h3,rfl⟩
  ·cases h
 ·cases h
theorem gd{P:atq}{t:atp}{ti:TI}(h:au P t=some ti)(w:atr):(sizeOf t).run P w=.ok ti.size w:=by
 obtain⟨i,d,z,h1,h2,h3,rfl⟩:=yZ h;simp[sizeOf,typeInfo,h1]
theorem Lk{P:atq}{t:atp}{ti:TI}(h:au P t=some ti)(w:atr):∃i,(typeInfo t).run P w=.ok i w/\i.bytes=ti.bytes/\i.size=ti.size:=by
 obtain⟨i,d,z,h1,h2,h3,rfl⟩:=yZ h;exact⟨i,by simp[typeInfo,h1],rfl,rfl⟩
theorem yV{P:atq}{t:atp}{ti:TI}(h:au P t=some ti)(w:atr):∃z,(zeroValue t).run P w=.ok z w/\z.cells.toList=ti.zero:=by
 obtain⟨i,d,z,h1,h2,h3,rfl⟩:=yZ h;exact⟨z,by simp[zeroValue,typeInfo,h1,h3],rfl⟩
theorem dX{P:atq}{t:atp}{ti:TI}(h:au P t=some ti)(w:atr):∃d,(underlying t).run P w=.ok d w/\iR d=ti.k/\uV P d=ti.fs/\P.underlying t=some d:=by
 obtain⟨i,d,z,h1,h2,h3,rfl⟩:=yZ h;exact⟨d,by simp[underlying,h2],rfl,rfl,h2⟩
theorem i9{d:TypeDesc}{e:Nat}(h:iR d=.slice e):d=.slice e:=by cases d <;> simp_all [iR]
theorem Re{d:TypeDesc}(h:iR d=.string):d=.string:=by cases d <;> simp_all [iR]
theorem Qy{d:TypeDesc}(h:iR d=.bool):d=.bool:=by cases d <;> simp_all [iR]
theorem al5{d:TypeDesc}{k:IntKind}(h:iR d=.int k):d=.int k:=by cases d <;> simp_all [iR]
theorem aef{d:TypeDesc}{n e:Nat}(h:iR d=.array n e):d=.array n e:=by cases d <;> simp_all [iR]
theorem Tb{d:TypeDesc}(h:iR d=.struct):∃fs,d=.struct fs:=by cases d <;> simp_all [iR]
theorem PS{d:TypeDesc}{n:Nat}(h:iR d=.iface n):∃ms,d=.interface ms/\ms.size=n:=by cases d <;> simp_all [iR]
theorem ain{P:atq}{t:atp}{ti:TI}(h:au P t=some ti)(w:atr):(isAgg t).run P w=.ok ti.ag w:=by
 obtain⟨d,h1,h2,-,-⟩:=dX h w;simp only[isAgg,att,h1,ats,TI.ag,<- h2];cases d <;> rfl
theorem kg(b off n:Nat):(⟨b,off,none⟩:Addr).add n=⟨b,off+n,none⟩:=by
 unfold Addr.add;split
 ·subst_vars;rfl
 ·rfl
theorem tR{w:atr}{b off:Nat}{c:Array ato}{t:atp}{f:Nat×Nat}(hb:w.heap[b]?=some (.cells c t f)) :
  w.cell? ⟨b,off,none⟩=c[off]? := by
 simp[World.cell?,hb]
theorem CA{P:atq}{w:atr}{T:atp}{ti:TI}{b off:Nat}{c:Array ato}{t:atp}{f:Nat×Nat}
  (hT:au P T=some ti) (hb:w.heap[b]?=some (.cells c t f)) (bR:off+ti.size<=c.size) (h1:ti.ag=true\/ti.size=1) :
  (loadVar T ⟨b,off,none⟩).run P w=.ok (if ti.ag then .agg (c.extract off (off+ti.size))else c.getD off undef) w:=by
 simp only[loadVar,att,ain hT,ats];cases ha:ti.ag with
 |true =>
  simp only[if_true];have hl:(c.extract off (off+ti.size)).toList.length=ti.size:=by simp;omega
  have:=run_loadCells_list (P:=P) w ⟨b,off,none⟩ (c.extract off (off+ti.size)).toList (by
   intro j v hj;rw[kg,tR hb];simp only[arn,arp]at hj;split at hj
   ·exact hj
   ·cases hj)
  rw[hl]at this;simp only[att,gd hT,ats,this,atu,Array.toArray_toList]
 |false =>
  rcases h1 with h1 |h1
  ·rw[ha]at h1;cases h1
  ·simp only [aq9, if_false, run_load, tR hb];have:off < c.size:=by omega
   simp[this,asc]
def lJ(ag:Bool)(l:List AV):AV:=match ag with
  |true=>.agg l
  |false=>match l with |x::_=>x |[]=>default
theorem Dl{g:Nat->Array ato->Prop}{S:Nat->Nat->Prop}{m:Nat->Option Nat}{c:Array ato}{off n:Nat}{ag:Bool}{xs:List AV}
  (hn:xs.length=n) (bR:off+n<=c.size) (h1:ag=true\/n=1) (ho:∀(j:Nat)(x:AV),xs[j]?=some x->x.one=true)
  (hr:∀(j:Nat)(u:ato)(x:AV),xs[j]?=some x->c[off+j]?=some u->Rep g S m u x) :
  Rep g S m (if ag then .agg (c.extract off (off+n))else c.getD off undef) (lJ ag xs):=by
 cases ag with
 |true =>
  simp only[if_true,lJ];refine .agg (by simp;omega) ho ?_;intro j u x hu hx;simp only[arp]at hu;split at hu
  ·exact hr j u x hx hu
  ·cases hu
 |false =>
  rcases h1 with h1 |h1
  ·cases h1
  ·subst h1
   match xs,hn with
   |[x],_ =>
    simp only[aq9,if_false,lJ];have:off<c.size:=by omega
    refine hr 0 _ x rfl ?_;simp[this,asc]
def bC(P:atq)(N:Nat)(c:Code)(Q:Exit->AS->Prop)(s:AS):Prop :=
  ∀C m a w n,C.nt=N->RelM C s m a w->c.wpIn (Fw C.ro) n P (fun e a' w'=>∃s' m',Q e s'/\RelM C s' m' a' w') a w
def mS(P:atq)(N:Nat)(c:Code)(Q:Exit->AS->Prop)(s:AS):Prop :=
  ∀C m a w n,C.ro=none->C.nt=N->RelM C s m a w->c.wpIn (Fw C.ro) n P (fun e a' w'=>∃s' m',Q e s'/\RelM C s' m' a' w') a w
theorem bC.out{P:atq}{N:Nat}{c:Code}{Q:Exit->AS->Prop}{s:AS}(h:bC P N c Q s):mS P N c Q s:=fun C m a w n _=>h C m a w n
def Wk(s s':AS):Prop:=∀C m a w,RelM C s m a w->∃m',RelM C s' m' a w
theorem Wk.refl(s:AS):Wk s s:=fun _ m _ _ h=>⟨m,h⟩
theorem Wk.trans{s s' s'':AS}(h:Wk s s')(h':Wk s' s''):Wk s s'':=fun C m a w hr=>by
 obtain⟨m',hr'⟩:=h C m a w hr;exact h' C m' a w hr'
variable{P:atq}{N:Nat}{Q:Exit->AS->Prop}{s:AS}
theorem tc{c:Code}{s':AS}(hw:Wk s s')(h:bC P N c Q s'):bC P N c Q s:=by
 intro C m a w n hN hr;obtain⟨m',hr'⟩:=hw C m a w hr;exact h C m' a w n hN hr'
theorem jO{c:Code}{Q':Exit->AS->Prop}(h:bC P N c Q s)(hq:∀e s,Q e s->Q' e s):bC P N c Q' s :=
 fun C m a w n hN hr=>wpIn_mono (h C m a w n hN hr) fun e _ _ ⟨s',m',hQ,hr'⟩=>⟨s',m',hq e s' hQ,hr'⟩
theorem ZM{c:Code}{p:Prop}(hp:∀C m a w,RelM C s m a w->p)(h:p->bC P N c Q s):bC P N c Q s :=
 fun C m a w n hN hr=>h (hp C m a w hr) C m a w n hN hr
def Qr(K:AS->Prop)(Q:Exit->AS->Prop):Exit->AS->Prop
  | .normal,s=>K s
  |e,s=>Q e s
theorem OT{x y:Code}(h:∀K:AS->Prop,(∀s,bC P N y Q s->K s)->bC P N x (Qr K Q) s):bC P N (.seq x y) Q s:=by
 intro C m a w n hN hr;refine wpIn_seq (wpIn_mono (h (bC P N y Q) (fun _ h=>h) C m a w n hN hr) ?_);rintro e a' w' ⟨s',m',hq,hr'⟩;cases e with
 |normal=>exact hq C m' a' w' n hN hr'
 |_=>exact⟨s',m',hq,hr'⟩
theorem PK(h:Q .normal s):bC P N .skip Q s:=fun _ m _ _ _ _ hr=>wpIn_skip ⟨s,m,h,hr⟩
theorem Md(h:Q .ret s):bC P N .ret Q s:=fun _ m _ _ _ _ hr=>wpIn_ret ⟨s,m,h,hr⟩
theorem MH{id:Nat}(h:Q (.exit id) s):bC P N (.exit id) Q s:=fun _ m _ _ _ _ hr=>wpIn_exit ⟨s,m,h,hr⟩
def C7(id:Nat)(K:AS->Prop)(Q:Exit->AS->Prop):Exit->AS->Prop
  | .exit id',s=>match ao6 id' id with |true=>K s |false=>Q (.exit id') s
  | .normal,s=>K s
  |e,s=>Q e s
theorem Q3{id:Nat}{c:Code}(h:bC P N c (C7 id (Q .normal) Q) s):bC P N (.block id c) Q s:=by
 intro C m a w n hN hr;refine wpIn_block (wpIn_mono (h C m a w n hN hr) ?_);rintro e a' w' ⟨s',m',hq,hr'⟩;cases e with
 |exit id' =>
  simp only[Exit.inBlock];simp only[C7]at hq;split at hq
  ·rename_i hb;rw[ate (ar4 hb)];exact⟨s',m',hq,hr'⟩
  ·rename_i hb;rw[atd (aor hb)];exact⟨s',m',hq,hr'⟩
 |_=>exact⟨s',m',hq,hr'⟩
inductive Ev(s:AS):atn->AV->Prop
  |tmp {t:Nat} {x:AV} (h:s.get t=some x):Ev s (.tmp t) x
  |opt {t:Nat} {b:Bool} {x:AV} (h:s.get t=some (.opt b x)) (hb:b=true):Ev s (.tmp t) x
  |const (c:ato):Ev s (.const c) (.v c)
  |func (f:FuncId):Ev s (.func f) (.v (.func (.func f) #[] #[]))
theorem Ev.rep{C:Ctx}{m:Nat->Option Nat}{a:Act}{w:atr}(hr:RelM C s m a w){o:atn}{x:AV}(h:Ev s o x) :
  Rep (Im C.ext s.hp m w) (Sz w) m (a.eval o) x:=by
 cases h with
 |tmp h=>exact(hr.slots _ _ h).2
 | @opt t _ _ h hb =>
  have h2:=(hr.slots _ _ h).2;show Rep _ _ m (a.tmps.getD t undef) x;generalize a.tmps.getD t undef=u at h2;cases h2 with |opt h' _=>exact h' hb
 |const c=>exact .v _
 |func f=>exact .v _
theorem BZ{c:atn}{x y:Code}{b:Bool}(hc:Ev s c (.v (.bool b)))(ht:b=true->bC P N x Q s)(hf:b=false->bC P N y Q s) :
  bC P N (.cond c x y) Q s:=by
 intro C m a w n hN hr;have h:=hc.rep hr
 have:a.eval c=.bool b:=by
  generalize a.eval c=v at h;cases h;rfl
 exact wpIn_cond_split this (fun hb=>ht hb C m a w n hN hr) (fun hb=>hf hb C m a w n hN hr)
theorem ajf{F:Fence}{n9:Nat}{c:Code}{Q:Exit->Act->atr->Prop}{a:Act}{w:atr}(I:Nat->Act->atr->Prop){n:Nat}(h₀:I n a w)
  (round:∀n a w,I n a w->c.wpIn F n9 P (Exit.then (fun a' w'=>∃n',n'<n/\I n' a' w') Q) a w):(Code.loop c).wpIn F n9 P Q a w:=by
 intro b k cs mU hb hr
 have key:∀n a w,I n a w->∃e a' w',Q e a' w'/\ArrivesIn (Machine.fenced P F) P (lone (b.atR a (.code c :: .inLoop c::k)) cs w) b k cs e a' w':=by
  intro n
  induction n using Nat.strongRecOn with
  |_ n ih =>
   intro a w hI;obtain⟨e,a₁,w₁,hq,Er⟩:=round n a w hI b (.inLoop c::k) cs mU hb hr;cases e with
   |normal =>
    obtain⟨n',hlt,hI₁⟩:=hq;obtain⟨e₂,a₂,w₂,hq₂,harr₂⟩:=ih n' hlt a₁ w₁ hI₁;exact⟨e₂,a₂,w₂,hq₂,.of_steps (StepsIn.trans Er (.one (fenced_calm hb hr rfl) stepR_inLoop)) harr₂⟩
   |_=>exact⟨_,a₁,w₁,hq,.pass (x:=.inLoop c) rfl (fun _ _=>.inl (by simp)) Er⟩
 obtain⟨e,a',w',hq,Er⟩:=key n a w h₀;exact⟨e,a',w',hq,.of_steps (.one (fenced_calm hb hr rfl) stepR_loop) Er⟩
theorem ue{c:Code}(I:Nat->AS->Prop){n:Nat}{s':AS}(hw:Wk s s')(h₀:I n s')
  (round:∀n s,I n s->∀K:AS->Prop,(∀s1 s2 n',Wk s1 s2->I n' s2->n'<n->K s1)->bC P N c (Qr K Q) s):bC P N (.loop c) Q s:=by
 intro C m a w n9 hN hr;obtain⟨m1,a8⟩:=hw C m a w hr;refine ajf (fun n a w=>∃s m,I n s/\RelM C s m a w) ⟨s',m1,h₀,a8⟩ ?_;rintro n a w ⟨s,m,hI,hr⟩;refine wpIn_mono (round n s hI (fun s1=>∃s2 n',Wk s1 s2/\I n' s2/\n'<n) (fun s1 s2 n' h1 h2 h3=>⟨s2,n',h1,h2,h3⟩) C m a w n9 hN hr) ?_;rintro e a' w' ⟨s1,m1,hq,a8⟩;cases e with
 |normal =>
  obtain⟨s2,n',h1,h2,h3⟩:=hq;obtain⟨m2,fy⟩:=h1 C m1 a' w' a8;exact⟨n',h3,s2,m2,h2,fy⟩
 |_=>exact⟨s1,m1,hq,a8⟩
theorem Ya{id:Nat}{ops:List Oper}(hd:ops.all nd=true)(h:iZ P N ops.toArray ops s [] (fun s' _=>Q .normal s')):bC P N (.region id ops.toArray false) Q s:=by
 intro C m a w n hN hr;refine wpIn_region ?_;have:=als (C:=C) (n:=n) hN (Q:=fun e a' w'=>∃s' m',Q e s'/\RelM C s' m' a' w') (fun s us m a w hq hr=>⟨s,m,hq,hr⟩) ops 0 s [] m a w (by simp) hd h hr;rw[List.range_eq_range'];simpa using this
theorem X4{R:Array Oper}{K:AS->List Out->Prop}:∀(ops:List Oper)(s:AS)(us:List Out),iZ P N R ops s us K ->
  ∃us',us'.length=ops.length/\K (vw ops.toArray us' s (fun _=>true) ops.length) (us++us') /\
   ∀(i:Nat) o u,ops[i]?=some o->us'[i]?=some u->Step P N R (vw ops.toArray us' s (fun _=>true) i) o u:=by
 intro ops
 induction ops with
 |nil=>intro s us h;exact⟨[],rfl,by simpa[vw,iZ]using h,by simp⟩
 |cons o ops ih =>
  intro s us h;obtain⟨u,hs,hn,h⟩:=h;obtain⟨us',h1,h2,h3⟩:=ih _ _ h
  have hv:∀i,vw (o::ops).toArray (u::us') s (fun _=>true) (i+1)=vw ops.toArray us' (s.app o.dst u) (fun _=>true) i:=by
   intro i
   induction i with
   |zero=>simp[vw]
   |succ i ih =>
    rw[vw,ih,vw];simp
  refine⟨u::us',by simp[h1],?_,?_⟩
  ·rw[asi,hv];simpa using h2
  ·intro i o' u' ho hu;cases i with
   |zero=>simp at ho hu;subst ho;subst hu;simpa[vw]using hs
   |succ i =>
    rw[hv];exact h3 i o' u' (by simpa using ho) (by simpa using hu)
theorem Z7{id:Nat}{ops:List Oper}(hd:ops.all nd=true)(hm:P.follows .mixedOrders=true)
  (h:iZ P N ops.toArray ops s [] (fun s' us=>chk ops us s=true/\Q .normal s')):bC P N (.region id ops.toArray true) Q s:=by
 intro C m a w n hN hr;obtain⟨us,h1,⟨h2,h3⟩,h4⟩:=X4 ops s [] h;refine wpIn_region_any hm ?_;refine ajy (C:=C) (by simpa using hd) hN (U:=us) (s0:=s) (by simpa using h1) (by simpa using h4) (by simpa using h2) ?_ _ _ (by simp) ?_ ?_ m a _ ?_
 ·intro m a w hr;exact⟨_,m,h3,by simpa using hr⟩
 ·intro i o _ hl;simp only[asc,arj]at hl;split at hl <;> simp at hl
 ·exact asv (List.length_filter_le _ _) (by simp)
 ·have hz:∀n,vw ops.toArray us s (fun i=>(arh ops.toArray.size false).getD i false) n=s:=by
   intro n
   induction n with
   |zero=>rfl
   |succ n ih =>
    rw[vw,ih]
    have:(arh ops.toArray.size false).getD n false=false:=by
     simp only[asc,arj];split <;> rfl
    rw[this]
  rw[hz];exact hr.drawn _
end Go.Lw
namespace Go.Lw
variable{P:atq}{N:Nat}{R:Array Oper}{s:AS}{pos:String}{after:Array Edge}
theorem ar{o:Oper}{ops:List Oper}{us:List Out}{K:AS->List Out->Prop}{u:Out}(hs:Step P N R s o u)(hn:k9 s u)
  (h:iZ P N R ops (s.app o.dst u) (us++[u]) K):iZ P N R (o::ops) s us K:=⟨u,hs,hn,h⟩
def aj:atn->List Nat
  | .tmp t=>[t]
  |_=>[]
theorem Ev.agree{s':AS}{u:Out}(h:iC s s' u){o:atn}{x:AV}(he:Ev s o x)(hs:∀t∈aj o,t∈u.rt):Ev s' o x:=by
 cases he with
 |tmp ht=>exact .tmp ((h.1 _ (hs _ (by simp[aj]))).trans ht)
 |opt ht hb=>exact .opt ((h.1 _ (hs _ (by simp[aj]))).trans ht) hb
 |const c=>exact .const c
 |func f=>exact .func f
theorem pU{o:Oper}(hg:o.guard=none)(y:Nat->Option Bool):Region.wanted o y=true:=by simp[Region.wanted,hg]
theorem dw{o:Oper}{d:Nat}{x:AV}{rt rd:List Nat}(hg:o.guard=none)(hd:o.dst=some d)(hN:aob d N=true)
  (h:∀s',iC s s' ⟨some x,[],rt,rd⟩->∀C m a w,RelM C s' m a w ->
   ∃v,(execOp a.eval o).run P w=.ok (.value v) w/\Rep (Im C.ext s'.hp m w) (Sz w) m v x):Step P N R s o ⟨some x,[],rt,rd⟩:=by
 refine⟨fun s' ao _ C m a w Q next hC hr hnext=>?_⟩;rw[ate (pU hg _)];refine zT ?_;obtain⟨v,h1,h2⟩:=h s' ao C m a w hr;rw[aoh]at hN;unfold Oper.wp;rw[h1];simp only[Oper.upon,hd,Act.put];refine hnext m _ _ ?_;have:=hr.put d v (some x) (fun y hy=>by cases hy;exact⟨by have:=hr.nt;omega,h2⟩);simpa[AS.app,hd]using this
theorem ame{d:Nat}{x:atn}{v:AV}{t:atp}(he:Ev s x v)(hN:aob d N=true) :
  Step P N R s ⟨some d,.move x,t,pos,after,none⟩ ⟨some v,[],aj x,[]⟩ :=
 dw rfl rfl hN fun s' ao C m a w hr=>⟨a.eval x,rfl,(he.agree ao (fun _ h=>h)).rep hr⟩
theorem ai3{d:Nat}{x:atn}{v:AV}{t:atp}(he:Ev s x v)(hN:aob d N=true) :
  Step P N R s ⟨some d,.assign x,t,pos,after,none⟩ ⟨some v,[],aj x,[]⟩ :=
 dw rfl rfl hN fun s' ao C m a w hr=>⟨a.eval x,rfl,(he.agree ao (fun _ h=>h)).rep hr⟩
def Sub(x y:AV):Prop:=∀g S m v,Rep g S m v x->Rep g S m v y
theorem Sub.nil(sz:Nat)(a:Option Addr)(c:Nat):Sub (.v (.slice a 0 c)) (.lst sz []):=fun g S m v h=>by cases h;exact .lst0 a c sz
theorem uR{d:Nat}{op:Op}{x:atn}{vx y:ato}{t:atp}(he:Ev s x (.v vx))(hN:aob d N=true)
  (h:∀(ρ:atn->ato)(w:atr),ρ x=vx->(execOp ρ ⟨some d,op,t,pos,after,none⟩).run P w=.ok (.value y) w) :
  Step P N R s ⟨some d,op,t,pos,after,none⟩ ⟨some (.v y),[],aj x,[]⟩ :=
 dw rfl rfl hN fun s' ao C m a w hr=>⟨y,h _ _ (by
  have:=(he.agree ao (fun _ h=>h)).rep hr;generalize a.eval x=u at this;cases this;rfl),.v y⟩
theorem lU{d:Nat}{op:Op}{x x':atn}{vx vx' y:ato}{t:atp}(he:Ev s x (.v vx))(he':Ev s x' (.v vx'))
  (hN:aob d N=true)
  (h:∀(ρ:atn->ato)(w:atr),ρ x=vx->ρ x'=vx'->(execOp ρ ⟨some d,op,t,pos,after,none⟩).run P w=.ok (.value y) w) :
  Step P N R s ⟨some d,op,t,pos,after,none⟩ ⟨some (.v y),[],aj x++aj x',[]⟩ :=
 dw rfl rfl hN fun s' ao C m a w hr=>⟨y,h _ _ (by
  have:=(he.agree ao (fun _ h=>ar9.2 (.inl h))).rep hr;generalize a.eval x=u at this;cases this;rfl) (by
  have:=(he'.agree ao (fun _ h=>ar9.2 (.inr h))).rep hr;generalize a.eval x'=u at this;cases this;rfl),.v y⟩
theorem Yl{d:Nat}{x:atn}{b:Bool}{T t:atp}(he:Ev s x (.v (.bool b)))(hN:aob d N=true) :
  Step P N R s ⟨some d,.unOp .not T x,t,pos,after,none⟩ ⟨some (.v (.bool !b)),[],aj x,[]⟩ :=
 uR he hN fun ρ w h=>by simp[execOp,h,Op.unary]
theorem CI{d:Nat}{x:atn}{k:IntKind}{n:Int}{T t:atp}(he:Ev s x (.v (.int k n)))(hN:aob d N=true) :
  Step P N R s ⟨some d,.unOp .neg T x,t,pos,after,none⟩ ⟨some (.v (.int k (k.wrap (0-n)))),[],aj x,[]⟩ :=
 uR he hN fun ρ w h=>by simp[execOp,h,Op.unary,Op.intArith]
theorem MV{d:Nat}{x:atn}{k k':IntKind}{n:Int}{S T t:atp}{ts ti:TI}(he:Ev s x (.v (.int k n)))
  (hN:aob d N=true) (hS:au P S=some ts) (hT:au P T=some ti) (hk:ti.k=.int k') :
  Step P N R s ⟨some d,.convert S T x,t,pos,after,none⟩ ⟨some (.v (.int k' (k'.wrap n))),[],aj x,[]⟩ :=
 uR he hN fun ρ w h=>by
  obtain⟨d1,h1,-,-,-⟩:=dX hS w;obtain⟨d2,h2,h3,-,-⟩:=dX hT w;obtain rfl:=al5 (h3.trans hk);simp[execOp,h,convert,h1,h2,Conv.intToInt]
theorem VW{d:Nat}{x:atn}{v:ato}{T t:atp}{ti:TI}(he:Ev s x (.v v))(hN:aob d N=true)
  (hT:au P T=some ti) (hk:(match ti.k with | .int _=>true | .struct=>true | .pointer _=>true | .string=>true |_=>false)=true) :
  Step P N R s ⟨some d,.makeInterface T x,t,pos,after,none⟩ ⟨some (.v (.iface T v)),[],aj x,[]⟩ :=
 uR he hN fun ρ w h=>by
  obtain⟨d2,h2,h3,-,-⟩:=dX hT w
  have:∀ms,d2≠.interface ms:=by
   rintro ms rfl;rw[<- h3]at hk;simp[iR]at hk
  simp only[execOp,h,Instr.makeInterface,att,h2,ats];cases d2 <;> first |rfl |exact atk rfl (this _)
def gw(op:BinOp)(a b:Int):Int:=match op with | .add=>a+b | .sub=>a-b |_=>a*b
theorem MP{d:Nat}{op:BinOp}{x y:atn}{k:IntKind}{a b:Int}{S T t:atp}
  (hx:Ev s x (.v (.int k a))) (hy:Ev s y (.v (.int k b))) (cS:(match op with | .add | .sub | .mul=>true |_=>false)=true) (hN:aob d N=true) :
  Step P N R s ⟨some d,.binOp op S x y T,t,pos,after,none⟩ ⟨some (.v (.int k (k.wrap (gw op a b)))),[],aj x++aj y,[]⟩ :=
 lU hx hy hN fun ρ w h1 h2=>by
  cases op <;> simp at cS <;> simp[execOp,h1,h2,eqGuard,binOp,Op.intArith,gw]
def aa(op:BinOp)(a b:Int):Bool:=match op with
  | .eql=>a==b | .neq=>a != b | .lss=>a<b | .leq=>a<=b | .gtr=>a>b |_=>a>=b
theorem Om{d:Nat}{op:BinOp}{x y:atn}{k:IntKind}{a b:Int}{S T t:atp}
  (hx:Ev s x (.v (.int k a))) (hy:Ev s y (.v (.int k b))) (cS:(match op with | .eql | .neq | .lss | .leq | .gtr | .geq=>true |_=>false)=true) (hN:aob d N=true) :
  Step P N R s ⟨some d,.binOp op S x y T,t,pos,after,none⟩ ⟨some (.v (.bool (aa op a b))),[],aj x++aj y,[]⟩ :=
 lU hx hy hN fun ρ w h1 h2=>by
  cases op <;> simp at cS <;> simp[execOp,h1,h2,eqGuard,binOp,Op.intCmp,aa]
theorem Nd{d:Nat}{x y:atn}{k:IntKind}{a b:Int}{S T t:atp}
  (hx:Ev s x (.v (.int k a))) (hy:Ev s y (.v (.int k b))) (hb:b≠0) (hN:aob d N=true) :
  Step P N R s ⟨some d,.binOp .quo S x y T,t,pos,after,none⟩ ⟨some (.v (.int k (k.wrap (a.tdiv b)))),[],aj x++aj y,[]⟩ :=
 lU hx hy hN fun ρ w h1 h2=>by simp[execOp,h1,h2,eqGuard,binOp,Op.intDiv,hb]
theorem Pr{d:Nat}{x y:atn}{k:IntKind}{a b:Int}{S T t:atp}
  (hx:Ev s x (.v (.int k a))) (hy:Ev s y (.v (.int k b))) (hb:b≠0) (hN:aob d N=true) :
  Step P N R s ⟨some d,.binOp .rem S x y T,t,pos,after,none⟩ ⟨some (.v (.int k (a.tmod b))),[],aj x++aj y,[]⟩ :=
 lU hx hy hN fun ρ w h1 h2=>by simp[execOp,h1,h2,eqGuard,binOp,Op.intDiv,hb]
theorem Tt{d:Nat}{x y:atn}{k k':IntKind}{a b:Int}{S T t:atp}
  (hx:Ev s x (.v (.int k a))) (hy:Ev s y (.v (.int k' b))) (hb:0<=b) (hN:aob d N=true) :
  Step P N R s ⟨some d,.binOp .shl S x y T,t,pos,after,none⟩ ⟨some (.v (.int k (k.wrap (a*2^(min b.toNat k.bits))))),[],aj x++aj y,[]⟩ :=
 lU hx hy hN fun ρ w h1 h2=>by simp[execOp,h1,h2,eqGuard,binOp,Op.shift,Int.not_lt.2 hb]
theorem Oj{d:Nat}{x y:atn}{k k':IntKind}{a b:Int}{S T t:atp}
  (hx:Ev s x (.v (.int k a))) (hy:Ev s y (.v (.int k' b))) (hb:0<=b) (hN:aob d N=true) :
  Step P N R s ⟨some d,.binOp .shr S x y T,t,pos,after,none⟩ ⟨some (.v (.int k (a.fdiv (2^(min b.toNat k.bits))))),[],aj x++aj y,[]⟩ :=
 lU hx hy hN fun ρ w h1 h2=>by simp[execOp,h1,h2,eqGuard,binOp,Op.shift,Int.not_lt.2 hb]
def p5(op:BinOp)(k:IntKind)(a b:Int):Int :=
  let x:=BitVec.ofInt k.bits a
  let y:=BitVec.ofInt k.bits b
  k.wrap ((match op with | .and=>x &&& y | .or=>x ||| y | .xor=>x ^^^ y |_=>x &&& ~~~y).toNat:Int)
theorem Ny{d:Nat}{op:BinOp}{x y:atn}{k:IntKind}{a b:Int}{S T t:atp}
  (hx:Ev s x (.v (.int k a))) (hy:Ev s y (.v (.int k b))) (cS:(match op with | .and | .or | .xor | .andNot=>true |_=>false)=true) (hN:aob d N=true) :
  Step P N R s ⟨some d,.binOp op S x y T,t,pos,after,none⟩ ⟨some (.v (.int k (p5 op k a b))),[],aj x++aj y,[]⟩ :=
 lU hx hy hN fun ρ w h1 h2=>by
  cases op <;> simp at cS <;> simp[execOp,h1,h2,eqGuard,binOp,Op.intBits,p5]
theorem KM{d:Nat}{x y:atn}{a b:ByteArray}{S T t:atp}
  (hx:Ev s x (.v (.string a))) (hy:Ev s y (.v (.string b))) (hN:aob d N=true) :
  Step P N R s ⟨some d,.binOp .eql S x y T,t,pos,after,none⟩ ⟨some (.v (.bool (a.toList==b.toList))),[],aj x++aj y,[]⟩ :=
 lU hx hy hN fun ρ w h1 h2=>by simp[execOp,h1,h2,eqGuard,binOp,Op.stringOp]
theorem LV{d:Nat}{x y:atn}{a b:ByteArray}{S T t:atp}
  (hx:Ev s x (.v (.string a))) (hy:Ev s y (.v (.string b))) (hN:aob d N=true) :
  Step P N R s ⟨some d,.binOp .neq S x y T,t,pos,after,none⟩ ⟨some (.v (.bool !(a.toList==b.toList))),[],aj x++aj y,[]⟩ :=
 lU hx hy hN fun ρ w h1 h2=>by simp[execOp,h1,h2,eqGuard,binOp,Op.stringOp]
theorem Sk{S:atp}{w:atr}(h3:(underlying S).run P w=.ok .bool w)(a b:Bool):(Op.equal S (.bool a) (.bool b)).run P w=.ok (a==b) w:=by
 show(Op.equalIn (9999+1) S _ _).run P w=_;rw[Op.equalIn];simp[h3]
theorem S8{S:atp}{w:atr}{ms:Array (String×atp)}(h3:(underlying S).run P w=.ok (.interface ms) w){v:ato}
  (hv:v=.nilIface\/∃T u,v=.iface T u):(Op.equal S v .nilIface).run P w=.ok (match v with | .nilIface=>true |_=>false) w:=by
 show(Op.equalIn (9999+1) S _ _).run P w=_;rw[Op.equalIn];rcases hv with rfl |⟨T',u,rfl⟩ <;> simp[h3]
theorem ahe{d:Nat}{x y:atn}{a b:Bool}{S T t:atp}{ti:TI}
  (hx:Ev s x (.v (.bool a))) (hy:Ev s y (.v (.bool b))) (hS:au P S=some ti) (hk:ti.k=.bool) (hN:aob d N=true) :
  Step P N R s ⟨some d,.binOp .eql S x y T,t,pos,after,none⟩ ⟨some (.v (.bool (a==b))),[],aj x++aj y,[]⟩ :=
 lU hx hy hN fun ρ w h1 h2=>by
  obtain⟨d2,h3,h4,-,-⟩:=dX hS w;obtain rfl:=Qy (h4.trans hk);simp[execOp,h1,h2,eqGuard,binOp,Sk h3]
theorem ai2{d:Nat}{x y:atn}{a b:Bool}{S T t:atp}{ti:TI}
  (hx:Ev s x (.v (.bool a))) (hy:Ev s y (.v (.bool b))) (hS:au P S=some ti) (hk:ti.k=.bool) (hN:aob d N=true) :
  Step P N R s ⟨some d,.binOp .neq S x y T,t,pos,after,none⟩ ⟨some (.v (.bool (a != b))),[],aj x++aj y,[]⟩ :=
 lU hx hy hN fun ρ w h1 h2=>by
  obtain⟨d2,h3,h4,-,-⟩:=dX hS w;obtain rfl:=Qy (h4.trans hk);simp[execOp,h1,h2,eqGuard,binOp,Sk h3,bne]
def fc:ato->Bool
  | .nilIface=>true
  |_=>false
theorem Tj{d:Nat}{x:atn}{v:ato}{S T t:atp}{ti:TI}{n:Nat}
  (hx:Ev s x (.v v)) (hv:v=.nilIface\/∃T u,v=.iface T u) (hS:au P S=some ti) (hk:ti.k=.iface n) (hN:aob d N=true) :
  Step P N R s ⟨some d,.binOp .eql S x (.const .nilIface) T,t,pos,after,none⟩ ⟨some (.v (.bool (fc v))),[],aj x++[],[]⟩ :=
 dw rfl rfl hN fun s' ao C m a w hr=>⟨.bool (fc v),by
  have h:=(hx.agree ao (fun _ h=>ar9.2 (.inl h))).rep hr
  have h1:a.eval x=v:=by
   generalize a.eval x=u at h;cases h;rfl
  have h2:a.eval (.const .nilIface)=.nilIface:=rfl;obtain⟨d2,h3,h4,-,-⟩:=dX hS w;obtain⟨ms,rfl,-⟩:=PS (h4.trans hk);have h5:=S8 h3 hv;rcases hv with rfl |⟨T',u,rfl⟩ <;> simp[execOp,h1,h2,eqGuard,binOp,h5,fc],.v _⟩
theorem Tf{d:Nat}{x:atn}{v:ato}{S T t:atp}{ti:TI}{n:Nat}
  (hx:Ev s x (.v v)) (hv:v=.nilIface\/∃T u,v=.iface T u) (hS:au P S=some ti) (hk:ti.k=.iface n) (hN:aob d N=true) :
  Step P N R s ⟨some d,.binOp .neq S x (.const .nilIface) T,t,pos,after,none⟩ ⟨some (.v (.bool !(fc v))),[],aj x++[],[]⟩ :=
 dw rfl rfl hN fun s' ao C m a w hr=>⟨.bool !(fc v),by
  have h:=(hx.agree ao (fun _ h=>ar9.2 (.inl h))).rep hr
  have h1:a.eval x=v:=by
   generalize a.eval x=u at h;cases h;rfl
  have h2:a.eval (.const .nilIface)=.nilIface:=rfl;obtain⟨d2,h3,h4,-,-⟩:=dX hS w;obtain⟨ms,rfl,-⟩:=PS (h4.trans hk);have h5:=S8 h3 hv;rcases hv with rfl |⟨T',u,rfl⟩ <;> simp[execOp,h1,h2,eqGuard,binOp,h5,fc],.v _⟩
theorem PQ{d:Nat}{x:atn}{sz:Nat}{es:List AV}{T t:atp}{ti:TI}{e:Nat}
  (hx:Ev s x (.lst sz es)) (hT:au P T=some ti) (hk:ti.k=.slice e) (hN:aob d N=true) :
  Step P N R s ⟨some d,.call ⟨.builtin .len,#[x],#[T]⟩,t,pos,after,none⟩ ⟨some (.v (.int .i64 es.length)),[],aj x,[]⟩ :=
 dw rfl rfl hN fun s' ao C m a w hr=>⟨.int .i64 es.length,by
  have h:=(hx.agree ao (fun _ h=>h)).rep hr;obtain⟨d2,h3,h4,-,-⟩:=dX hT w;obtain rfl:=i9 (h4.trans hk);generalize hu:a.eval x=u at h;cases h <;> simp[execOp,resolve,hu,invoke,builtin,Builtin.len_,h3,goInt],.v _⟩
theorem MB{d:Nat}{x:atn}{k sz off len:Nat}{T t:atp}{ti:TI}{e:Nat}
  (hx:Ev s x (.ms k sz off len)) (hT:au P T=some ti) (hk:ti.k=.slice e) (hN:aob d N=true) :
  Step P N R s ⟨some d,.call ⟨.builtin .len,#[x],#[T]⟩,t,pos,after,none⟩ ⟨some (.v (.int .i64 len)),[],aj x,[]⟩ :=
 dw rfl rfl hN fun s' ao C m a w hr=>⟨.int .i64 len,by
  have h:=(hx.agree ao (fun _ h=>h)).rep hr;obtain⟨d2,h3,h4,-,-⟩:=dX hT w;obtain rfl:=i9 (h4.trans hk);generalize hu:a.eval x=u at h;cases h <;> simp[execOp,resolve,hu,invoke,builtin,Builtin.len_,h3,goInt],.v _⟩
theorem Yg{d:Nat}{x:atn}{b:ByteArray}{T t:atp}{ti:TI}
  (hx:Ev s x (.v (.string b))) (hT:au P T=some ti) (hk:ti.k=.string) (hN:aob d N=true) :
  Step P N R s ⟨some d,.call ⟨.builtin .len,#[x],#[T]⟩,t,pos,after,none⟩ ⟨some (.v (.int .i64 b.size)),[],aj x,[]⟩ :=
 uR hx hN fun ρ w h=>by
  obtain⟨d2,h3,h4,-,-⟩:=dX hT w;obtain rfl:=Re (h4.trans hk);simp[execOp,resolve,h,invoke,builtin,Builtin.len_,h3,goInt]
theorem YL{d:Nat}{x:atn}{a:Option Addr}{n c:Nat}{T t:atp}{ti:TI}{e:Nat}
  (hx:Ev s x (.v (.slice a n c))) (hT:au P T=some ti) (hk:ti.k=.slice e) (hN:aob d N=true) :
  Step P N R s ⟨some d,.call ⟨.builtin .len,#[x],#[T]⟩,t,pos,after,none⟩ ⟨some (.v (.int .i64 n)),[],aj x,[]⟩ :=
 uR hx hN fun ρ w h=>by
  obtain⟨d2,h3,h4,-,-⟩:=dX hT w;obtain rfl:=i9 (h4.trans hk);simp[execOp,resolve,h,invoke,builtin,Builtin.len_,h3,goInt]
theorem tG{d:Nat}{x y:atn}{a b:Int}{k:IntKind}{T T' t:atp}
  (hx:Ev s x (.v (.int k a))) (hy:Ev s y (.v (.int k b))) (hN:aob d N=true) :
  Step P N R s ⟨some d,.call ⟨.builtin .max,#[x,y],#[T,T']⟩,t,pos,after,none⟩ ⟨some (.v (.int k (max a b))),[],aj x++aj y,[]⟩ :=
 lU hx hy hN fun ρ w h1 h2=>by
  have:(if b>a then b else a)=max a b:=by split <;> omega
  simp[execOp,resolve,h1,h2,invoke,builtin,Builtin.max_,Builtin.max2,this]
theorem Vz{d:Nat}{x:atn}{xs:List AV}{i:Nat}{y:AV}{t:atp}
  (hx:Ev s x (.tup xs)) (hy:xs[i]?=some y) (hN:aob d N=true) :
  Step P N R s ⟨some d,.extract x i,t,pos,after,none⟩ ⟨some y,[],aj x,[]⟩ :=
 dw rfl rfl hN fun s' ao C m a w hr=>by
  have h:=(hx.agree ao (fun _ h=>h)).rep hr;generalize hu:a.eval x=u at h;cases h with
  | @tup _ vs _ hn aV =>
   have hi:i<vs.size:=by
    rw[hn];rcases asb i xs.length with h |h
    ·exact h
    ·rw[asg h]at hy;cases hy
   exact⟨vs[i],by simp[execOp,hu,Instr.extract,hi],aV i _ y (by simp[hi]) hy⟩
theorem FZ{d:Nat}{c x y:atn}{b bx bz:Bool}{t:atp}(hc:Ev s c (.v (.bool b)))
  (hx:b=true->Ev s x (.v (.bool bx))) (hy:b=false->Ev s y (.v (.bool bz))) (hN:aob d N=true) :
  Step P N R s ⟨some d,.pick c x y,t,pos,after,none⟩ ⟨some (.v (.bool (cond b bx bz))),[],aj c++(aj x++aj y),[]⟩ :=
 dw rfl rfl hN fun s' ao C m a w hr=>by
  have kt:∀(o:atn)(z:Bool),(∀t∈aj o,t∈aj c++(aj x++aj y))->Ev s o (.v (.bool z))->a.eval o=.bool z:=by
   intro o z je h;have:=(h.agree ao je).rep hr;generalize a.eval o=u at this;cases this;rfl
  have h1:=kt c b (fun t h=>by simp[h]) hc;cases b with
  |true=>exact⟨.bool bx,by simp[execOp,h1,asBool,kt x bx (fun t h=>by simp[h]) (hx rfl)],.v _⟩
  |false=>exact⟨.bool bz,by simp[execOp,h1,asBool,kt y bz (fun t h=>by simp[h]) (hy rfl)],.v _⟩
theorem fM{d j g:Nat}{op:Op}{t:atp}{want b:Bool}{x:AV}{rt rd:List Nat}
  (hj:(R[j]?).bind (·.dst)=some g) (hb:s.get g=some (.v (.bool b))) (hN:aob d N=true)
  (h:b=want->Step P N R s ⟨some d,op,t,pos,after,none⟩ ⟨some x,[],rt,rd⟩) :
  Step P N R s ⟨some d,op,t,pos,after,some (j,want)⟩ ⟨some (.opt (b==want) x),[],g::rt,rd⟩:=by
 refine⟨fun s' ao bP C m a w Q next hC hr hnext=>?_⟩;have hg:=hr.slots g _ ((ao.1 g (by simp)).trans hb)
 have qB:a.tmps[g]?=some (.bool b):=by
  obtain⟨h1,h2⟩:=hg;generalize hu:a.tmps.getD g undef=u at h2;cases h2;simp only[asc]at hu;rw[aro h1]at hu ⊢;simpa using hu
 have hy:yielded R a.tmps j=some b:=by simp[yielded,hj,qB]
 have hd:d<a.tmps.size:=by rw[aoh]at hN;have:=hr.nt;omega
 by_cases mV:b=want
 ·subst mV;have d5:Region.wanted ⟨some d,op,t,pos,after,some (j,b)⟩ (yielded R a.tmps) = true:=by simp [Region.wanted,hy]
  rw[ate d5];have:=(h rfl).run s' ⟨fun t ht=>ao.1 t (by simp[show t∈rt from ht]),ao.2⟩ (fun k hk=>by cases hk) C m a w Q next hC hr (fun m' a' w' h'=>hnext m' a' w' ?_)
  ·rw[ate (pU rfl _)]at this;exact this
  ·refine⟨fun t y hy=>?_,h'.heap,h'.frame,h'.new,h'.keep,h'.defers,h'.nt⟩;simp only[jb]at hy;split at hy
   ·rename_i oh;cases hy;have:=h'.slots t x (by simp only[jb,ate oh]);exact⟨this.1,.opt (fun _=>this.2) (fun h=>by simp at h)⟩
   ·rename_i oh;exact h'.slots t y (by simp only[jb,atd oh];exact hy)
 ·have d5 : ¬ Region.wanted ⟨some d, op, t, pos, after, some (j, want)⟩ (yielded R a.tmps) = true := by simp [Region.wanted, hy, mV]
  rw[atd d5];have:=hr.put d undef (some (.opt (b==want) x)) (fun y hy=>by cases hy;exact⟨hd,.opt (fun h=>atk (beq_iff_eq.1 h) mV) (fun _=>rfl)⟩);refine hnext m _ _ ?_;simpa[AS.app,Act.put]using this
theorem tO{d j g:Nat}{op:Op}{t:atp}{want b c:Bool}{x:AV}{rt rd:List Nat}
  (hj:(R[j]?).bind (·.dst)=some g) (hb:s.get g=some (.opt c (.v (.bool b)))) (hN:aob d N=true)
  (h:c=true->b=want->Step P N R s ⟨some d,op,t,pos,after,none⟩ ⟨some x,[],rt,rd⟩) :
  Step P N R s ⟨some d,op,t,pos,after,some (j,want)⟩ ⟨some (.opt (c&&b==want) x),[],g::rt,rd⟩:=by
 refine⟨fun s' ao bP C m a w Q next hC hr hnext=>?_⟩;have hg:=hr.slots g _ ((ao.1 g (by simp)).trans hb);have hd:d<a.tmps.size:=by rw[aoh]at hN;have:=hr.nt;omega
 have qB:(c=true/\a.tmps[g]?=some (.bool b))\/(c=false/\a.tmps[g]?=some undef):=by
  obtain⟨h1,h2⟩:=hg;generalize hu:a.tmps.getD g undef=u at h2;simp only[asc]at hu;rw[aro h1]at hu ⊢;simp only[ary]at hu;cases h2 with
  |opt h2 h2' =>
   cases c with
   |true=>have:=h2 rfl;cases this;exact .inl ⟨rfl,by rw[hu]⟩
   |false=>exact .inr ⟨rfl,by rw[hu,h2' rfl]⟩
 have jF:∀d5:¬Region.wanted ⟨some d,op,t,pos,after,some (j,want)⟩ (yielded R a.tmps)=true,(c&&b==want)=false ->
   if Region.wanted ⟨some d,op,t,pos,after,some (j,want)⟩ (yielded R a.tmps)then wq P ⟨some d,op,t,pos,after,some (j,want)⟩ a w next Q
    else next (a.put (some d) undef) w:=by
  intro d5 hc;rw[atd d5];have:=hr.put d undef (some (.opt (c&&b==want) x)) (fun y hy=>by cases hy;exact⟨hd,.opt (fun h=>by rw[hc]at h;cases h) (fun _=>rfl)⟩);refine hnext m _ _ ?_;simpa[AS.app,Act.put]using this
 rcases qB with⟨rfl,qB⟩ |⟨rfl,qB⟩
 ·have hy : yielded R a.tmps j = some b := by simp [yielded, hj, qB]
  by_cases mV:b=want
  ·subst mV;have d5:Region.wanted ⟨some d,op,t,pos,after,some (j,b)⟩ (yielded R a.tmps) = true:=by simp [Region.wanted,hy]
   rw[ate d5];have:=(h rfl rfl).run s' ⟨fun t ht=>ao.1 t (by simp[show t∈rt from ht]),ao.2⟩ (fun k hk=>by cases hk) C m a w Q next hC hr (fun m' a' w' h'=>hnext m' a' w' ?_)
   ·rw[ate (pU rfl _)]at this;exact this
   ·refine⟨fun t y hy=>?_,h'.heap,h'.frame,h'.new,h'.keep,h'.defers,h'.nt⟩;simp only[jb]at hy;split at hy
    ·rename_i oh;cases hy;have:=h'.slots t x (by simp only[jb,ate oh]);exact⟨this.1,.opt (fun _=>this.2) (fun h=>by simp at h)⟩
    ·rename_i oh;exact h'.slots t y (by simp only[jb,atd oh];exact hy)
  ·exact jF (by simp[Region.wanted,hy,mV]) (by simp[mV])
 ·have hy : yielded R a.tmps j = none := by simp [yielded, hj, qB, undef]
  exact jF (by simp[Region.wanted,hy]) rfl
end Go.Lw
namespace Go.Lw
variable{P:atq}{N:Nat}{R:Array Oper}{s:AS}{pos:String}{after:Array Edge}
def AV.ok:AV->Bool
  | .agg _=>true
  |x=>x.one
theorem AV.ok_spec{x:AV}(h:x.ok=true):(∃cs,x=.agg cs)\/x.one=true:=by
 cases x <;> simp_all [AV.ok]
theorem wY{C:Ctx}{m:Nat->Option Nat}{a:Act}{w:atr}(hr:RelM C s m a w){x:atn}{k off:Nat}(hx:Ev s x (.ptr k off)) :
  ∃b,m k=some b/\a.eval x=.pointer (some ⟨b,off,none⟩):=by
 have h:=hx.rep hr;generalize a.eval x=u at h;cases h with |ptr hm=>exact⟨_,hm,rfl⟩
theorem BI{C:Ctx}{m:Nat->Option Nat}{a:Act}{w:atr}(hr:RelM C s m a w){x:atn}{k sz i off:Nat}(hx:Ev s x (.eptr k sz i off)) :
  ∃b,m k=some b/\a.eval x=.pointer (some ⟨b,i*sz+off,none⟩):=by
 have h:=hx.rep hr;generalize a.eval x=u at h;cases h with |eptr hm=>exact⟨_,hm,rfl⟩
theorem pV{C:Ctx}{m:Nat->Option Nat}{a:Act}{w:atr}(hr:RelM C s m a w){x:atn}{v:ato}(hx:Ev s x (.v v)):a.eval x=v:=by
 have h:=hx.rep hr;generalize a.eval x=u at h;cases h;rfl
theorem B6{ext:Nat->Prop}{hp:Hp}{m:Nat->Option Nat}{w:atr}(h:HeapRel ext hp m w){k b:Nat}{cs:List AV}(hk:lk hp k=some (.box cs))(hm:m k=some b) :
  ∃c t,w.heap[b]?=some (.cells c t (0,0))/\c.size=cs.length/\(∀(j:Nat)(x:AV),cs[j]?=some x->x.one=true) /\
   ∀(j:Nat)(u:ato)(x:AV),c[j]?=some u->cs[j]?=some x->Rep (Im ext hp m w) (Sz w) m u x:=by
 have:=h.blk k _ hk;rw[hm]at this;cases this with |box hw hn h1 hr=>exact⟨_,_,hw,hn,h1,hr⟩
theorem vU{ext:Nat->Prop}{hp:Hp}{m:Nat->Option Nat}{w:atr}(h:HeapRel ext hp m w){k b sz:Nat}{es:List AV}(hk:lk hp k=some (.row sz es))(hm:m k=some b) :
  ∃c t,w.heap[b]?=some (.cells c t (0,0))/\es.length*sz<=c.size/\es.length<=aF/\(∀(i:Nat)(e:AV),es[i]?=some e->e.cells.length=sz) /\
   (∀(i j:Nat)(e x:AV),es[i]?=some e->e.cells[j]?=some x->x.one=true) /\
   ∀(i j:Nat)(e:AV)(u:ato)(x:AV),es[i]?=some e->e.cells[j]?=some x->c[i*sz+j]?=some u->Rep (Im ext hp m w) (Sz w) dO u x:=by
 have:=h.blk k _ hk;rw[hm]at this;cases this with |row hw hn hl hs h1 hr=>exact⟨_,_,hw,hn,hl,hs,h1,hr⟩
theorem abm{d:Nat}{x:atn}{k off:Nat}{cs:List AV}{T t:atp}{ti:TI}
  (hx:Ev s x (.ptr k off)) (hk:s.blk k=some (.box cs)) (hT:au P T=some ti) (bR:Nat.ble (off+ti.size) cs.length=true)
  (h1:(ti.ag||ao6 ti.size 1)=true) (hN:aob d N=true) :
  Step P N R s ⟨some d,.load T x,t,pos,after,none⟩ ⟨some (lJ ti.ag ((cs.drop off).take ti.size)),[],aj x,[k]⟩ :=
 dw rfl rfl hN fun s' ao C m a w hr=>by
  rw[an7]at bR;have h1:ti.ag=true\/ti.size=1:=by simpa using h1
  obtain⟨b,hm,hv⟩:=wY hr (hx.agree ao (fun _ h=>h));obtain⟨c,t,hw,hn,ho,aV⟩:=B6 hr.heap ((ao.2 k (by simp)).trans hk) hm;refine⟨_,?_,Dl (c:=c) (off:=off) (n:=ti.size) (by simp;omega) oz h1 ?_ ?_⟩
  ·simp[execOp,Instr.loadAt,hv,Instr.sureAddr,CA hT hw (by omega:off+ti.size<=c.size) h1]
  ·intro j y hy;rw[asy]at hy;split at hy
   ·rw[as3]at hy;exact ho _ y hy
   ·cases hy
  ·intro j u y hy hu;rw[asy]at hy;split at hy
   ·rw[as3]at hy;exact aV _ u y hu hy
   ·cases hy
theorem NL{g:Nat->Array ato->Prop}{S:Nat->Nat->Prop}{m:Nat->Option Nat}{u:ato}{x:AV}(h:Rep g S dO u x):Rep g S m u x :=
 h.mono (fun _ _ h=>h) (fun _ _ h=>h) (fun k b _ hb=>by cases hb)
theorem Xh{g:Nat->Array ato->Prop}{S:Nat->Nat->Prop}{m:Nat->Option Nat}{u:ato}{x:AV}(h:Rep g S m u x)(hx:x.nm=[]):Rep g S dO u x :=
 h.mono (fun _ _ h=>h) (fun _ _ h=>h) (fun k b hk _=>by have:=hk.mem;rw[hx]at this;cases this)
theorem oJ{i n sz:Nat}(h:i<n):i*sz+sz<=n*sz:=by
 have:=asl sz (show i+1<=n from h);rw[ape]at this;exact this
theorem dt{d:Nat}{x:atn}{k sz i off:Nat}{es:List AV}{e:AV}{T t:atp}{ti:TI}
  (hx:Ev s x (.eptr k sz i off)) (hk:s.blk k=some (.row sz es)) (he:es[i]?=some e) (hT:au P T=some ti) (bR:Nat.ble (off+ti.size) e.cells.length=true)
  (h1:(ti.ag||ao6 ti.size 1)=true) (hN:aob d N=true) :
  Step P N R s ⟨some d,.load T x,t,pos,after,none⟩ ⟨some (lJ ti.ag ((e.cells.drop off).take ti.size)),[],aj x,[k]⟩ :=
 dw rfl rfl hN fun s' ao C m a w hr=>by
  rw[an7]at bR;have h1:ti.ag=true\/ti.size=1:=by simpa using h1
  obtain⟨b,hm,hv⟩:=BI hr (hx.agree ao (fun _ h=>h));obtain⟨c,t,hw,hn,hl,hs,ho,aV⟩:=vU hr.heap ((ao.2 k (by simp)).trans hk) hm
  have hi:i<es.length:=by
   rcases asb i es.length with h |h
   ·exact h
   ·rw[asg h]at he;cases he
  have hb:=oJ (sz:=sz) hi;have oi:=hs i e he;refine⟨_,?_,Dl (c:=c) (off:=i*sz+off) (n:=ti.size) (by simp;omega) oz h1 ?_ ?_⟩
  ·simp[execOp,Instr.loadAt,hv,Instr.sureAddr,CA hT hw (by omega:i*sz+off+ti.size<=c.size) h1]
  ·intro j y hy;rw[asy]at hy;split at hy
   ·rw[as3]at hy;exact ho i _ e y he hy
   ·cases hy
  ·intro j u y hy hu;rw[asy]at hy;split at hy
   ·rw[as3]at hy;exact NL (aV i _ e u y he hy (by rw[<- hu];congr 1;omega))
   ·cases hy
theorem YT{d:Nat}{x:atn}{xs:List AV}{T t:atp}{ti:TI}
  (hx:Ev s x (.iptr xs)) (hT:au P T=some ti) (bR:(aob 0 ti.size&&Nat.ble ti.size xs.length)=true)
  (h1:(ti.ag||ao6 ti.size 1)=true) (hN:aob d N=true) :
  Step P N R s ⟨some d,.load T x,t,pos,after,none⟩ ⟨some (lJ ti.ag (xs.take ti.size)),[],aj x,[]⟩ :=
 dw rfl rfl hN fun s' ao C m a w hr=>by
  simp only[ar5,an7,aoh]at bR;have h1:ti.ag=true\/ti.size=1:=by simpa using h1
  have h:=(hx.agree ao (fun _ h=>h)).rep hr;generalize hv:a.eval x=u at h;cases h with
  | @iptr _ b off cs _ u hb ho hu aV =>
   obtain⟨_,_,t,f,hw⟩:=hb
   have a5:off+ti.size<=cs.size:=by
    have hlt:ti.size-1<xs.length:=by omega
    have:=hu (ti.size-1) xs[ti.size-1] (by simp[hlt]);rcases asb (off+(ti.size-1)) cs.size with h |h
    ·omega
    ·rw[arv h]at this;cases this
   refine⟨_,?_,Dl (c:=cs) (off:=off) (n:=ti.size) (by simp;omega) oz h1 ?_ ?_⟩
   ·simp[execOp,Instr.loadAt,hv,Instr.sureAddr,CA hT hw a5 h1]
   ·intro j y hy;rw[asy]at hy;split at hy
    ·exact ho _ y hy
    ·cases hy
   ·intro j u' y hy hu';rw[asy]at hy;split at hy
    ·have:=hu j y hy;rw[hu']at this;cases this
     exact NL (aV j y hy)
    ·cases hy
theorem Fc{T:atp}{ti:TI}{f o n:Nat}(hT:au P T=some ti)(hk:ti.k=.struct)(hf:ti.fs[f]?=some (o,n))(hn:aob 0 n=true)
  (w:atr) (b off:Nat):(Instr.fieldAt T (.pointer (some ⟨b,off,none⟩)) f).run P w=.ok (.pointer (some ⟨b,off+o,none⟩)) w:=by
 rw[aoh]at hn;obtain⟨d2,h2,h3,h4,-⟩:=dX hT w;obtain⟨fs,rfl⟩:=Tb (h3.trans hk);rw[<- h4]at hf;simp only[uV,asa,ar6,arn]at hf;obtain⟨fl,h5,h6⟩:=hf;cases h6;cases hi:P.info? fl.type with
 |none=>rw[hi]at hn;simp at hn
 |some j =>
  rw[hi]at hn;have hj:¬j.size=0:=by simp only at hn;omega
  simp[Instr.fieldAt,h2,h5,Instr.sureAddr,fieldPlace,sizeOf,typeInfo,hi,hj,kg]
theorem agb{d:Nat}{x:atn}{k off f o n:Nat}{T t:atp}{ti:TI}
  (hx:Ev s x (.ptr k off)) (hT:au P T=some ti) (hk:ti.k=.struct) (hf:ti.fs[f]?=some (o,n)) (hn:aob 0 n=true) (hN:aob d N=true) :
  Step P N R s ⟨some d,.fieldAddr T x f,t,pos,after,none⟩ ⟨some (.ptr k (off+o)),[],aj x,[]⟩ :=
 dw rfl rfl hN fun s' ao C m a w hr=>by
  obtain⟨b,hm,hv⟩:=wY hr (hx.agree ao (fun _ h=>h));exact⟨_,by simp[execOp,hv,Fc hT hk hf hn],.ptr hm⟩
theorem Xg{d:Nat}{x:atn}{k sz i off f o n:Nat}{T t:atp}{ti:TI}
  (hx:Ev s x (.eptr k sz i off)) (hT:au P T=some ti) (hk:ti.k=.struct) (hf:ti.fs[f]?=some (o,n)) (hn:aob 0 n=true) (hN:aob d N=true) :
  Step P N R s ⟨some d,.fieldAddr T x f,t,pos,after,none⟩ ⟨some (.eptr k sz i (off+o)),[],aj x,[]⟩ :=
 dw rfl rfl hN fun s' ao C m a w hr=>by
  obtain⟨b,hm,hv⟩:=BI hr (hx.agree ao (fun _ h=>h));refine⟨.pointer (some ⟨b,i*sz+(off+o),none⟩),?_,.eptr hm⟩;simp[execOp,hv,Fc hT hk hf hn,ao0]
theorem aia{d:Nat}{x:atn}{xs:List AV}{f o n:Nat}{T t:atp}{ti:TI}
  (hx:Ev s x (.iptr xs)) (hT:au P T=some ti) (hk:ti.k=.struct) (hf:ti.fs[f]?=some (o,n)) (hn:aob 0 n=true) (hN:aob d N=true) :
  Step P N R s ⟨some d,.fieldAddr T x f,t,pos,after,none⟩ ⟨some (.iptr (xs.drop o)),[],aj x,[]⟩ :=
 dw rfl rfl hN fun s' ao C m a w hr=>by
  have h:=(hx.agree ao (fun _ h=>h)).rep hr;generalize hv:a.eval x=u at h;cases h with
  | @iptr _ b off cs _ u hb ho hu aV =>
   refine⟨_,by simp[execOp,hv,Fc hT hk hf hn];rfl,?_⟩;refine .iptr (fun j=>u (o+j)) hb ?_ ?_ ?_
   ·intro j c hc;rw[as3]at hc;exact ho _ c hc
   ·intro j c hc;rw[as3]at hc;rw[ao0];exact hu _ c hc
   ·intro j c hc;rw[as3]at hc;exact aV _ c hc
theorem K6{d:Nat}{x ix:atn}{kk:IntKind}{i:Int}{sz:Nat}{es:List AV}{e:AV}{T E t:atp}{ti te:TI}
  (hx:Ev s x (.lst sz es)) (hi:Ev s ix (.v (.int kk i))) (hT:au P T=some ti) (hk:ti.k=.slice E) (hE:au P E=some te) (a5:te.size=sz)
  (h0:0<=i) (he:es[i.toNat]?=some e) (hN:aob d N=true) :
  Step P N R s ⟨some d,.indexAddr T x ix,t,pos,after,none⟩ ⟨some (.iptr e.cells),[],aj x++aj ix,[]⟩ :=
 dw rfl rfl hN fun s' ao C m a w hr=>by
  have h:=(hx.agree ao (fun _ h=>ar9.2 (.inl h))).rep hr;have zV:=pV hr (hi.agree ao (fun _ h=>ar9.2 (.inr h)));obtain⟨d2,h2,h3,-,-⟩:=dX hT w;obtain rfl:=i9 (h3.trans hk)
  have hlt:i.toNat<es.length:=by
   rcases asb i.toNat es.length with h |h
   ·exact h
   ·rw[asg h]at he;cases he
  generalize hv:a.eval x=u at h;cases h with
  |lst0 a cap=>simp at hlt
  | @lst _ b off cap _ _ cs u hb hc hl hs ho hu aV =>
   have fS:0<=i/\i<(es.length:Int):=by omega
   subst a5;refine⟨.pointer (some ⟨b,off+i.toNat*te.size,none⟩),?_,?_⟩
   ·simp[execOp,hv,zV,Instr.indexAt,asIntOf,h2,fS,gd hE,kg]
   ·refine .iptr (fun j=>u i.toNat j) hb (fun j c hc=>ho i.toNat j e c he hc) (fun j c hc=>hu i.toNat j e c he hc) (fun j c hc=>aV i.toNat j e c he hc)
theorem mL{d:Nat}{x ix:atn}{kk:IntKind}{i:Int}{k sz off len:Nat}{T E t:atp}{ti te:TI}
  (hx:Ev s x (.ms k sz off len)) (hi:Ev s ix (.v (.int kk i))) (hT:au P T=some ti) (hk:ti.k=.slice E) (hE:au P E=some te) (a5:te.size=sz)
  (h0:0<=i) (he:i<(len:Int)) (hN:aob d N=true) :
  Step P N R s ⟨some d,.indexAddr T x ix,t,pos,after,none⟩ ⟨some (.eptr k sz (off+i.toNat) 0),[],aj x++aj ix,[]⟩ :=
 dw rfl rfl hN fun s' ao C m a w hr=>by
  have h:=(hx.agree ao (fun _ h=>ar9.2 (.inl h))).rep hr;have zV:=pV hr (hi.agree ao (fun _ h=>ar9.2 (.inr h)));obtain⟨d2,h2,h3,-,-⟩:=dX hT w;obtain rfl:=i9 (h3.trans hk);generalize hv:a.eval x=u at h;cases h with
  |ms0=>simp at he;omega
  | @ms _ _ _ _ _ cap b hm hc hS =>
   subst a5;refine⟨.pointer (some ⟨b,(off+i.toNat)*te.size+0,none⟩),?_,.eptr hm⟩;simp[execOp,hv,zV,Instr.indexAt,asIntOf,h2,h0,he,gd hE,kg,an5]
theorem yt{d:Nat}{x ix:atn}{kk:IntKind}{i:Int}{b:ByteArray}{T t:atp}{ti:TI}
  (hx:Ev s x (.v (.string b))) (hi:Ev s ix (.v (.int kk i))) (hT:au P T=some ti) (hk:ti.k=.string)
  (h0:0<=i) (he:i<(b.size:Int)) (hN:aob d N=true) :
  Step P N R s ⟨some d,.index T x ix,t,pos,after,none⟩ ⟨some (.v (.int .u8 (b.data.getD i.toNat 0).toNat)),[],aj x++aj ix,[]⟩ :=
 lU hx hi hN fun ρ w h1 h2=>by
  obtain⟨d2,h3,h4,-,-⟩:=dX hT w;obtain rfl:=Re (h4.trans hk);have hlt:i.toNat<b.size:=by omega
  have:b[i.toNat]?=some (b.data.getD i.toNat 0):=by
   rw[getElem?_pos b i.toNat hlt,asc,aro (show i.toNat<b.data.size from hlt)];rfl
  simp[execOp,h1,h2,Instr.index,asIntOf,h3,h0,this]
inductive EvI(s:AS):Option atn->Nat->Nat->Prop
  |none (d:Nat):EvI s none d d
  |some {x:atn} {k:IntKind} {i:Int} (d:Nat) (h:Ev s x (.v (.int k i))) (h0:0<=i):EvI s (some x) d i.toNat
def l0:Option atn->List Nat
  |some x=>aj x
  |none=>[]
theorem EvI.agree{s':AS}{u:Out}(h:iC s s' u){o:Option atn}{d n:Nat}(he:EvI s o d n)(hs:∀t∈l0 o,t∈u.rt):EvI s' o d n:=by
 cases he with
 |none=>exact .none _
 |some d h' h0=>exact .some d (h'.agree h hs) h0
theorem EvI.bound{C:Ctx}{m:Nat->Option Nat}{a:Act}{w:atr}(hr:RelM C s m a w){x:atn}{d n y:Nat}(h:EvI s (Option.some x) d n)(hy:n<=y)(code:BoundsCode) :
  (Instr.sliceBound (a.eval x) y code).run P w=.ok n w:=by
 cases h with
 | @some _ k i _ h h0 =>
  have:=pV hr h;have:0<=i/\i<=(y:Int):=by omega
  simp[Instr.sliceBound,asIntOf,pV hr h,this]
theorem zz{C:Ctx}{m:Nat->Option Nat}{a:Act}{w:atr}(hr:RelM C s m a w){lo hi:Option atn}{l h len cap:Nat}(isS:Bool)
  (hl:EvI s lo 0 l) (hh:EvI s hi len h) (h1:l<=h) (h2:h<=cap) :
  (Instr.sliceBounds isS len cap (lo.map a.eval) (hi.map a.eval) none).run P w=.ok (l,h,cap) w:=by
 cases hi with
 |none =>
  cases hh;cases lo with
  |none=>cases hl;simp[Instr.sliceBounds]
  |some x=>simp[Instr.sliceBounds,hl.bound hr h1]
 |some y =>
  cases lo with
  |none=>cases hl;simp[Instr.sliceBounds,hh.bound hr h2]
  |some x=>simp[Instr.sliceBounds,hl.bound hr h1,hh.bound hr h2]
theorem fC{d:Nat}{x:atn}{lo hi:Option atn}{l h sz:Nat}{es:List AV}{T E t:atp}{ti te:TI}
  (hx:Ev s x (.lst sz es)) (hl:EvI s lo 0 l) (hh:EvI s hi es.length h) (hT:au P T=some ti) (hk:ti.k=.slice E) (hE:au P E=some te) (a5:te.size=sz)
  (h1:l<=h) (h2:h<=es.length) (hN:aob d N=true) :
  Step P N R s ⟨some d,.slice T x lo hi none,t,pos,after,none⟩ ⟨some (.lst sz ((es.drop l).take (h-l))),[],aj x++(l0 lo++l0 hi),[]⟩ :=
 dw rfl rfl hN fun s' ao C m a w hr=>by
  have et:=(hx.agree ao (fun _ h=>ar9.2 (.inl h))).rep hr;have hl':=hl.agree ao (fun _ h=>ar9.2 (.inr (ar9.2 (.inl h))));have hh':=hh.agree ao (fun _ h=>ar9.2 (.inr (ar9.2 (.inr h))));obtain⟨d2,hu,h3,-,-⟩:=dX hT w;obtain rfl:=i9 (h3.trans hk);subst a5;generalize hv:a.eval x=u at et;cases et with
  |lst0 a' cap =>
   have:=zz (P:=P) hr (cap:=cap) true hl' hh' h1 (by simp at h2;omega);simp at this h2;have TD:l=0:=by omega
   refine⟨.slice (if cap=l then a' else a'.map (·.add (l*te.size))) (h-l) (cap-l),?_,?_⟩
   ·simp[execOp,hv,Instr.sliceAt,hu,Instr.slice,this,gd hE]
   ·simp[h2];exact .lst0 _ _ _
  | @lst _ b off cap _ _ cs u hb hc jf hs ho hu' aV =>
   have:=zz (P:=P) hr (cap:=cap) true hl' hh' h1 oz;refine⟨.slice (if cap=l then some ⟨b,off,none⟩else some ⟨b,off+l*te.size,none⟩) (h-l) (cap-l),?_,?_⟩
   ·simp[execOp,hv,Instr.sliceAt,hu,Instr.slice,this,gd hE,kg]
   ·by_cases hlh:l=h
    ·subst hlh;simp;exact .lst0 _ _ _
    ·have aO : ¬ cap = l := by omega
     rw[atd aO];have cm:((es.drop l).take (h-l)).length=h-l:=by simp;omega
     have dB:∀(i:Nat)(e:AV),((es.drop l).take (h-l))[i]?=some e->es[l+i]?=some e:=by
      intro i e he;rw[asy]at he;split at he
      ·rwa [as3]at he
      ·cases he
     have:=Rep.lst (g:=Im C.ext s'.hp m w) (S:=Sz w) (m:=m) (b:=b) (off:=off+l*te.size) (cap:=cap-l) (sz:=te.size) (es:=(es.drop l).take (h-l)) (cs:=cs)
      (fun i j=>u (l+i) j) hb oz oz (fun i e he=>hs _ e (dB i e he)) (fun i j e c he hc=>ho _ j e c (dB i e he) hc)
      (fun i j e c he hc=>by rw[<- hu' (l+i) j e c (dB i e he) hc];congr 1;rw[an5];omega) (fun i j e c he hc=>aV _ j e c (dB i e he) hc)
     rwa [cm]at this
theorem ua{d:Nat}{x:atn}{lo hi:Option atn}{l h k sz off len:Nat}{T E t:atp}{ti te:TI}
  (hx:Ev s x (.ms k sz off len)) (hl:EvI s lo 0 l) (hh:EvI s hi len h) (hT:au P T=some ti) (hk:ti.k=.slice E) (hE:au P E=some te) (a5:te.size=sz)
  (h1:l<=h) (h2:h<=len) (hN:aob d N=true) :
  Step P N R s ⟨some d,.slice T x lo hi none,t,pos,after,none⟩ ⟨some (.ms k sz (off+l) (h-l)),[],aj x++(l0 lo++l0 hi),[]⟩ :=
 dw rfl rfl hN fun s' ao C m a w hr=>by
  have et:=(hx.agree ao (fun _ h=>ar9.2 (.inl h))).rep hr;have hl':=hl.agree ao (fun _ h=>ar9.2 (.inr (ar9.2 (.inl h))));have hh':=hh.agree ao (fun _ h=>ar9.2 (.inr (ar9.2 (.inr h))));obtain⟨d2,hu,h3,-,-⟩:=dX hT w;obtain rfl:=i9 (h3.trans hk);subst a5;generalize hv:a.eval x=u at et;cases et with
  |ms0 a' =>
   have:=zz (P:=P) hr (cap:=0) true hl' hh' h1 oz;have TD:l=0:=by omega
   have hh0:h=0:=by omega
   subst TD;subst hh0
   exact⟨.slice a' 0 0,by simp[execOp,hv,Instr.sliceAt,hu,Instr.slice,this,gd hE],.ms0 _ _ _ _⟩
  | @ms _ _ _ _ _ cap b hm hc hS =>
   have:=zz (P:=P) hr (cap:=cap) true hl' hh' h1 oz;refine⟨.slice (if cap=l then some ⟨b,off*te.size,none⟩else some ⟨b,off*te.size+l*te.size,none⟩) (h-l) (cap-l),?_,?_⟩
   ·simp[execOp,hv,Instr.sliceAt,hu,Instr.slice,this,gd hE,kg]
   ·by_cases gh:cap=l
    ·subst gh;have:h - cap = 0:=by omega
     rw[this,Nat.sub_self];exact .ms0 _ _ _ _
    ·rw[atd gh,<- an5];exact .ms hm oz (by rw[show off+l+(cap-l)=off+cap by omega];exact hS)
theorem afu{d:Nat}{x:atn}{k off:Nat}{t:atp}(hx:Ev s x (.ptr k off))(hN:aob d N=true) :
  Step P N R s ⟨some d,.nilCheck x,t,pos,after,none⟩ ⟨some (.ptr k off),[],aj x,[]⟩ :=
 dw rfl rfl hN fun s' ao C m a w hr=>by
  obtain⟨b,hm,hv⟩:=wY hr (hx.agree ao (fun _ h=>h));exact⟨_,by simp[execOp,hv],.ptr hm⟩
inductive EvL(s:AS):List atn->List AV->Prop
  |nil:EvL s [] []
  |cons {o:atn} {x:AV} {os:List atn} {xs:List AV} (h:Ev s o x) (hs:EvL s os xs):EvL s (o::os) (x::xs)
theorem eJ{s:AS}{t:Nat}{x:AV}(h:s.get t=some x):EvL s [.tmp t] [x]:=.cons (.tmp h) .nil
theorem b9{s:AS}{t u:Nat}{x y:AV}(h:s.get t=some x)(h2:s.get u=some y):EvL s [.tmp t,.tmp u] [x,y]:=.cons (.tmp h) (eJ h2)
theorem aB{s:AS}{t u v:Nat}{x y z:AV}(h:s.get t=some x)(h2:s.get u=some y)(h3:s.get v=some z):EvL s [.tmp t,.tmp u,.tmp v] [x,y,z]:=.cons (.tmp h) (b9 h2 h3)
def dk:List atn->List Nat
  |[]=>[]
  |o::os=>aj o++dk os
theorem EvL.agree{s':AS}{u:Out}(h:iC s s' u){os:List atn}{xs:List AV}(he:EvL s os xs)(hs:∀t∈dk os,t∈u.rt):EvL s' os xs:=by
 induction he with
 |nil=>exact .nil
 |cons h1 _ ih=>exact .cons (h1.agree h (fun t ht=>hs t (by simp[dk,ht]))) (ih (fun t ht=>hs t (by simp[dk,ht])))
theorem EvL.length{os:List atn}{xs:List AV}(he:EvL s os xs):os.length=xs.length:=by
 induction he with
 |nil=>rfl
 |cons _ _ ih=>simp[ih]
theorem EvL.rep{C:Ctx}{m:Nat->Option Nat}{a:Act}{w:atr}(hr:RelM C s m a w){os:List atn}{xs:List AV}(he:EvL s os xs) :
  ∀(j:Nat)(v:ato)(x:AV),(os.map a.eval)[j]?=some v->xs[j]?=some x->Rep (Im C.ext s.hp m w) (Sz w) m v x:=by
 induction he with
 |nil=>intro j v x h;simp at h
 |cons h1 _ ih =>
  intro j v x hv hx;cases j with
  |zero=>simp at hv hx;subst hv;subst hx;exact h1.rep hr
  |succ j=>exact ih j v x (by simpa using hv) (by simpa using hx)
theorem ZO{d:Nat}{x:atn}{xs:List AV}{t:atp}(hx:Ev s x (.iptr xs))(hN:aob d N=true) :
  Step P N R s ⟨some d,.nilCheck x,t,pos,after,none⟩ ⟨some (.iptr xs),[],aj x,[]⟩ :=
 dw rfl rfl hN fun s' ao C m a w hr=>by
  have h:=(hx.agree ao (fun _ h=>h)).rep hr;generalize hu:a.eval x=u at h;cases h with
  |iptr u' hb ho hv aV=>exact⟨_,by simp[execOp,hu],.iptr u' hb ho hv aV⟩
theorem alx{d f:Nat}{pre:Array atn}{xs:List AV}{t:atp}(hx:EvL s pre.toList xs)(hnm:(xs.all fun x=>x.nm.isEmpty)=true)(hN:aob d N=true) :
  Step P N R s ⟨some d,.makeFunc (.func f) pre #[],t,pos,after,none⟩ ⟨some (.cl f xs []),[],dk pre.toList,[]⟩ :=
 dw rfl rfl hN fun s' ao C m a w hr=>by
  have hl:=hx.agree ao (fun _ h=>h);refine⟨.func (.func f) (pre.map a.eval) #[],by simp[execOp,Instr.makeFunc],.cl ?_ ?_ rfl (fun j u c hu hc=>by simp at hc)⟩
  ·have:=hl.length;simpa using this
  ·intro j u c hu hc
   exact (hl.rep hr j u c (by simpa using hu) hc).mono (fun _ _ h => h) (fun _ _ h => h) (fun k b hk => by
    have h1:=asd.1 hnm c (ar1 hc);have h2:=hk.mem;simp only[List.isEmpty_iff]at h1;rw[h1]at h2;cases h2)
theorem Xu{d f:Nat}{caps:Array atn}{xs:List AV}{t:atp}(hx:EvL s caps.toList xs)(hN:aob d N=true) :
  Step P N R s ⟨some d,.makeFunc (.func f) #[] caps,t,pos,after,none⟩ ⟨some (.fn f xs),[],dk caps.toList,[]⟩ :=
 dw rfl rfl hN fun s' ao C m a w hr=>by
  have hl:=hx.agree ao (fun _ h=>h);refine⟨.func (.func f) #[] (caps.map a.eval),by simp[execOp,Instr.makeFunc],.fn ?_ ?_⟩
  ·have:=hl.length;simpa using this
  ·intro j u c hu hc;exact hl.rep hr j u c (by simpa using hu) hc
end Go.Lw
namespace Go.Lw
variable{P:atq}{N:Nat}{R:Array Oper}{s:AS}{pos:String}{after:Array Edge}
def dY(g:Nat->Array ato->Prop)(S:Nat->Nat->Prop)(m:Nat->Option Nat)(c:List ato)(l:List AV):Prop :=
  c.length=l.length/\(∀(j:Nat)(x:AV),l[j]?=some x->x.one=true)/\∀(j:Nat)(u:ato)(x:AV),c[j]?=some u->l[j]?=some x->Rep g S m u x
theorem dY.of_zero{g:Nat->Array ato->Prop}{S:Nat->Nat->Prop}{m:Nat->Option Nat}(z:List ato)(h:z.all Value.oneCell'=true) :
  dY g S m z (z.map .v):=by
 refine⟨by simp,?_,?_⟩
 ·intro j x hx;simp only[asa,ar6]at hx;obtain⟨v,hv,rfl⟩:=hx;exact asd.1 h v (ar1 hv)
 ·intro j u x hu hx;simp only[asa,ar6]at hx;obtain⟨v,hv,rfl⟩:=hx;rw[hu]at hv;cases hv
  exact .v _
theorem dY.of_value{g:Nat->Array ato->Prop}{S:Nat->Nat->Prop}{m:Nat->Option Nat}{v:ato}{x:AV}(h:Rep g S m v x)(hx:x.ok=true) :
  dY g S m v.cells.toList x.cells:=by
 obtain⟨h1,h2,h3⟩:=h.cells (AV.ok_spec hx);exact⟨by simpa using h1,h2,fun j u y hu hy=>h3 j u y (by simpa using hu) hy⟩
theorem dY.mono{g g':Nat->Array ato->Prop}{S S':Nat->Nat->Prop}{m m':Nat->Option Nat}{c:List ato}{l:List AV}(h:dY g S m c l)
  (hg:∀b cs,g b cs->g' b cs) (hS:∀b n,S b n->S' b n) (hm:∀x∈l,∀k b,x.Names k->m k=some b->m' k=some b):dY g' S' m' c l :=
 ⟨h.1,h.2.1,fun j u x hu hx=>(h.2.2 j u x hu hx).mono hg hS (fun k b hk hb=>hm x (ar1 hx) k b hk hb)⟩
def over{α:Type}(l:List α)(off:Nat)(xs:List α):List α:=l.take off++xs++l.drop (off+xs.length)
theorem kZ{α:Type}(l:List α)(off:Nat)(xs:List α)(h:off+xs.length<=l.length)(p:Nat) :
  (over l off xs)[p]?=if p<off then l[p]? else if p<off+xs.length then xs[p-off]? else l[p]? := by
 have h1:(l.take off).length=off:=by simp;omega
 unfold over
 by_cases h2:p<off
 ·rw[ate h2,atc,asq oz,asy,ate h2]
 ·rw[atd h2]
  by_cases h3:p<off+xs.length
  ·rw[ate h3,asq (by simp;omega),asm oz,h1]
  ·rw[atd h3,asm (by simp;omega),as3];congr 1;simp;omega
theorem vD{α:Type}(l:List α)(off:Nat)(xs:List α)(h:off+xs.length<=l.length):(over l off xs).length=l.length:=by
 simp[over];omega
theorem dY.over{g:Nat->Array ato->Prop}{S:Nat->Nat->Prop}{m:Nat->Option Nat}{c:List ato}{l:List AV}{c':List ato}{l':List AV}{off:Nat}
  (h:dY g S m c l) (h':dY g S m c' l') (bR:off+l'.length<=l.length):dY g S m (over c off c') (Lw.over l off l'):=by
 have e1:=h.1;have e2:=h'.1;refine⟨by rw[vD _ _ _ oz,vD _ _ _ bR,e1],?_,?_⟩
 ·intro j x hx;rw[kZ _ _ _ bR]at hx;split at hx
  ·exact h.2.1 j x hx
  ·split at hx
   ·exact h'.2.1 _ x hx
   ·exact h.2.1 j x hx
 ·intro j u x hu hx;rw[kZ _ _ _ bR]at hx;rw[kZ _ _ _ oz,e2]at hu;split at hx
  ·rename_i hj;rw[ate hj]at hu;exact h.2.2 j u x hu hx
  ·rename_i hj;rw[atd hj]at hu
   split at hx
   ·rename_i hj;rw[ate hj]at hu;exact h'.2.2 _ u x hu hx
   ·rename_i hj;rw[atd hj]at hu;exact h.2.2 j u x hu hx
theorem vO{o:Oper}{d:Nat}{k:Nat}{x:AV}{y:Blk}{rt rd:List Nat}(hg:o.guard=none)(hd:o.dst=some d)(hN:aob d N=true)
  (Jv:k∉rd)
  (h:∀s',iC s s' ⟨some x,[(k,some y)],rt,rd⟩->s'.Fresh k->∀C m a w,RelM C s' m a w ->
   ∃(v:ato)(c:Array ato)(t:atp)(n:Nat),(execOp a.eval o).run P w=.ok (.value v) { w with heap:=w.heap.push (.cells c t),drawn:=n }/\¬y.Names k /\
    (∀(g:Nat->Array ato->Prop)(S:Nat->Nat->Prop)(m':Nat->Option Nat)(w':atr),
     (∀b cs,Im C.ext s'.hp m w b cs->g b cs)->(∀b n,Sz w b n->S b n)->(∀k' b,k'≠k->m k'=some b->m' k'=some b) ->
     w'.heap[w.heap.size]?=some (.cells c t (0,0))->BlkRep g S m' w' (some w.heap.size) y) /\
    (∀(g:Nat->Array ato->Prop)(S:Nat->Nat->Prop)(m':Nat->Option Nat),m' k=some w.heap.size->S w.heap.size c.size->Rep g S m' v x)) :
  Step P N R s o ⟨some x,[(k,some y)],rt,rd⟩:=by
 refine⟨fun s' ao bP C m a w Q next hC hr hnext=>?_⟩;rw[ate (pU hg _)];refine zT ?_
 have hfr:s'.Fresh k:=by
  rcases bP k (by simp)with h |h
  ·exact atk h Jv
  ·exact h
 obtain⟨v,c,t,n,h1,h2,h3,h4⟩:=h s' ao hfr C m a w hr;rw[aoh]at hN;unfold Oper.wp;rw[h1];simp only[Oper.upon,hd,Act.put];refine hnext (fun k'=>if k'=k then some w.heap.size else m k') _ _ ?_;have a8:=(hr.alloc hfr (.cells c t) y h2 h3).drawn n
 have:=a8.put d v (some x) (fun z hz=>by
  cases hz;refine⟨by have:=hr.nt;omega,h4 _ _ _ (ate rfl) ⟨c,t,(0,0),?_,ar8 _⟩⟩;show(w.heap.push _)[w.heap.size]?=_;simp)
 simpa[AS.app,hd]using this
theorem Rb{ext:Nat->Prop}{hp:Hp}{m:Nat->Option Nat}{w:atr}{c:Array ato}{l:List AV}{t:atp}{k:Nat}
  (h:dY (Im ext hp m w) (Sz w) m c.toList l) (hk:∀x∈l,¬x.Names k)
  {g:Nat->Array ato->Prop} {S:Nat->Nat->Prop} {m':Nat->Option Nat} {w':atr}
  (hg:∀b cs,Im ext hp m w b cs->g b cs) (hS:∀b n,Sz w b n->S b n) (hm:∀k' b,k'≠k->m k'=some b->m' k'=some b)
  (hw:w'.heap[w.heap.size]?=some (.cells c t (0,0))):BlkRep g S m' w' (some w.heap.size) (.box l):=by
 have h':=h.mono hg hS (m':=m') (fun x hx k' b hn hb=>hm k' b (fun e=>hk x hx (e▸hn)) hb);exact .box hw (by simpa using h'.1) h'.2.1 (fun j u x hu hx=>h'.2.2 j u x (by simpa using hu) hx)
theorem X2{d:Nat}{T t:atp}{ti:TI}(hT:au P T=some ti)(hz:ti.zero.all Value.oneCell'=true)(hN:aob d N=true) :
  Step P N R s ⟨some d,.alloc T,t,pos,after,none⟩ ⟨some (.ptr d 0),[(d,some (.box (ti.zero.map .v)))],[],[]⟩ :=
 vO rfl rfl hN (by simp) fun s' ao hfr C m a w hr => by
  obtain⟨z,h1,h2⟩:=yV hT w;have hc:dY (Im C.ext s'.hp m w) (Sz w) m z.cells.toList (ti.zero.map .v):=by rw[h2];exact .of_zero _ hz
  refine⟨.pointer (some ⟨w.heap.size,0,none⟩),z.cells,T,w.drawn,?_,?_,?_,fun g S m' hm _=>.ptr hm⟩
  ·simp[execOp,Instr.alloc,h1,newVar,newRow]
  ·rintro⟨c,hc,hn⟩;simp only[aqd]at hc;obtain⟨v,_,rfl⟩:=hc;cases hn
  ·intro g S m' w' hg hS hm hw;refine Rb hc ?_ hg hS hm hw;rintro x hx hn;simp only[aqd]at hx;obtain⟨v,_,rfl⟩:=hx;cases hn
theorem Ev.fresh{x:atn}{v:AV}{k:Nat}(h:Ev s x v)(hf:s.Fresh k):¬v.Names k:=by
 cases h with
 |tmp h=>exact hf.2.2.1 _ _ h
 |opt h _=>intro hn;exact hf.2.2.1 _ _ h (.opt hn)
 |const=>intro hn;cases hn
 |func=>intro hn;cases hn
theorem ah6{x c:AV}{k:Nat}(hc:c∈x.cells)(hn:c.Names k):x.Names k:=by
 cases x <;> simp only[AV.cells,aqf]at hc <;> first
  |(subst hc;exact hn)
  |exact .agg hc hn
theorem aaf{d:Nat}{x:atn}{v:AV}{T t:atp}(hx:Ev s x v)(hv:v.ok=true)(hN:aob d N=true) :
  Step P N R s ⟨some d,.box T x,t,pos,after,none⟩ ⟨some (.ptr d 0),[(d,some (.box v.cells))],aj x,[]⟩ :=
 vO rfl rfl hN (by simp) fun s' ao hfr C m a w hr => by
  have hx':=hx.agree ao (fun _ h=>h);have hc:=dY.of_value (hx'.rep hr) hv;have jF:∀c∈v.cells,¬c.Names d:=fun c hc hn=>hx'.fresh hfr (ah6 hc hn)
  refine⟨.pointer (some ⟨w.heap.size,0,none⟩),(a.eval x).cells,T,w.drawn,?_,?_,?_,fun g S m' hm _=>.ptr hm⟩
  ·simp[execOp,Instr.box,newVar,newRow]
  ·rintro⟨c,hc,hn⟩;exact jF c hc hn
  ·intro g S m' w' hg hS hm hw;exact Rb hc jF hg hS hm hw
theorem CL{w:atr}{b:Nat}{o:Obj}(hb:w.heap[b]?=some o):b<w.heap.size:=by
 rcases asb b w.heap.size with h |h
 ·exact h
 ·rw[arv h]at hb;cases hb
theorem aak{w:atr}{b i:Nat}{c:Array ato}{t:atp}{v:ato}(hb:w.heap[b]?=some (.cells c t (0,0))) :
  w.setCell ⟨b,i,none⟩ v={ w with heap:=w.heap.setIfInBounds b (.cells (c.setIfInBounds i v) t (0,0)) }:=by
 have hlt:=CL hb;unfold World.setCell;congr 1;apply Array.ext_getElem?;intro j;rw[ark,Array.getElem?_modify]
 by_cases h:b=j
 ·subst h;rw[ate rfl,ate rfl,ate hlt,hb];rfl
 ·rw[atd h,atd h]
theorem QE{α:Type}(l:List α)(n:Nat)(v:α)(vs:List α)(h:n+(vs.length+1)<=l.length) :
  over (l.set n v) (n+1) vs=over l n (v::vs):=by
 apply List.ext_getElem?;intro p;rw[kZ _ _ _ (by simp;omega),kZ _ _ _ (by simpa using h),List.getElem?_set];simp only[asi]
 by_cases h1:p<n
 ·rw[ate oz,atd oz,ate h1]
 ·by_cases h2:p=n
  ·subst h2;rw[ate oz,ate rfl,ate oz,atd oz,ate oz,Nat.sub_self];rfl
  ·by_cases h3:p<n+1+vs.length
   ·rw[atd oz,ate h3,atd oz,ate oz,show p-n=p-(n+1)+1 by omega,List.getElem?_cons_succ]
   ·rw[atd oz,atd h3,atd oz,atd h1,atd oz]
theorem A9{b:Nat}{t:atp}:∀(vs:List ato)(c:Array ato)(w:atr)(off i:Nat),w.heap[b]?=some (.cells c t (0,0)) ->
  off+i+vs.length<=c.size->(∀v∈vs,v.oneCell'=true) ->
  (storeCells ⟨b,off,none⟩ vs i).run P w=.ok () { w with heap:=w.heap.setIfInBounds b (.cells (over c.toList (off+i) vs).toArray t (0,0)) }:=by
 intro vs
 induction vs with
 |nil =>
  intro c w off i hb bR _;have hlt:=CL hb
  have:w.heap.setIfInBounds b (.cells (over c.toList (off+i) []).toArray t (0,0))=w.heap:=by
   apply Array.ext_getElem?;intro j;rw[ark];split
   ·subst_vars;rw[hb];simp[over]
   ·rfl
  simp[storeCells,this]
 |cons v vs ih =>
  intro c w off i hb bR hv;have hlt:=CL hb;simp only[asi]at bR
  have h1:(store ((⟨b,off,none⟩:Addr).add i) v).run P w=.ok () (w.setCell ⟨b,off+i,none⟩ v):=by
   rw[kg,run_store P w _ v .plain (hv v (by simp)),tR hb];have:off+i<c.size:=by omega
   simp[aro this,World.frozen?,hb]
  rw[storeCells,att,h1,ats,aak hb]
  have hb':(w.heap.setIfInBounds b (.cells (c.setIfInBounds (off+i) v) t (0,0)))[b]?=some (.cells (c.setIfInBounds (off+i) v) t (0,0)):=by
   rw[ark,ate rfl,ate hlt]
  rw[ih (c.setIfInBounds (off+i) v) _ off (i+1) hb' (by simp;omega) (fun v hm=>hv v (by simp[hm]))];congr 2;rw[Array.setIfInBounds_setIfInBounds];congr 3;rw[arw,show off+(i+1)=off+i+1 by omega,QE _ _ _ _ (by simp;omega)]
theorem Gg{T:atp}{ti:TI}{w:atr}{b off:Nat}{t:atp}{c:Array ato}{v:ato}(hT:au P T=some ti)(hb:w.heap[b]?=some (.cells c t (0,0)))
  (a5:v.cells.size=ti.size) (bR:off+ti.size<=c.size) (hv:∀x∈v.cells.toList,x.oneCell'=true) :
  (storeVar T ⟨b,off,none⟩ v).run P w=.ok () { w with heap:=w.heap.setIfInBounds b (.cells (over c.toList off v.cells.toList).toArray t (0,0)) }:=by
 have:=A9 (P:=P) v.cells.toList c w off 0 hb (by simp;omega) hv;simp only[aoy]at this;simp[storeVar,gd hT,a5,this]
theorem Gy{o:Oper}{k:Nat}{y y':Blk}{rt rd:List Nat}(hg:o.guard=none)(hd:o.dst=none)(Jv:k∈rd)(hk:s.blk k=some y)
  (h:∀s',iC s s' ⟨none,[(k,some y')],rt,rd⟩->∀C m a w,RelM C s' m a w ->
   ∃(b:Nat)(c c':Array ato)(t:atp),m k=some b/\w.heap[b]?=some (.cells c t (0,0))/\c'.size=c.size /\
    (execOp a.eval o).run P w=.ok .skip { w with heap:=w.heap.setIfInBounds b (.cells c' t (0,0)) } /\
    ∀(g:Nat->Array ato->Prop)(S:Nat->Nat->Prop)(w':atr),
     (∀b cs,Im C.ext s'.hp m w b cs->g b cs)->(∀b n,Sz w b n->S b n)->w'.heap[b]?=some (.cells c' t (0,0))->BlkRep g S m w' (some b) y') :
  Step P N R s o ⟨none,[(k,some y')],rt,rd⟩:=by
 refine⟨fun s' ao bP C m a w Q next hC hr hnext=>?_⟩;rw[ate (pU hg _)];refine zT ?_;obtain⟨b,c,c',t,hm,hb,a5,h1,h2⟩:=h s' ao C m a w hr;unfold Oper.wp;rw[h1];simp only[Oper.upon,hd,Act.put];refine hnext m _ _ ?_;have:=hr.write (x':=y') ((ao.2 k Jv).trans hk) hm hb a5 rfl (fun g S hg hS hw=>h2 g S _ hg hS hw);simpa[AS.app,hd]using this
theorem S3{g:Nat->Array ato->Prop}{S:Nat->Nat->Prop}{m:Nat->Option Nat}{v:ato}{x:AV}(h:Rep g S m v x)(hx:x.ok=true) :
  ∀u∈v.cells.toList,u.oneCell'=true:=by
 have hc:=dY.of_value h hx;intro u hu;obtain⟨j,hj,rfl⟩:=ap5.1 hu;have hj':j<x.cells.length:=by rw[<- hc.1];exact hj
 exact(hc.2.2 j _ _ (ar7 hj) (ar7 hj')).one (hc.2.1 j _ (ar7 hj'))
theorem OO{x y:atn}{k off:Nat}{cs:List AV}{v:AV}{T t:atp}{ti:TI}
  (hx:Ev s x (.ptr k off)) (hk:s.blk k=some (.box cs)) (hy:Ev s y v) (hv:v.ok=true) (hT:au P T=some ti) (a5:ao6 v.cells.length ti.size=true)
  (bR:Nat.ble (off+ti.size) cs.length=true) :
  Step P N R s ⟨none,.store T x y,t,pos,after,none⟩ ⟨none,[(k,some (.box (over cs off v.cells)))],aj x++aj y,[k]⟩ :=
 Gy rfl rfl (by simp) hk fun s' ao C m a w hr => by
  rw[an7]at bR;have a5:=ar4 a5;obtain⟨b,hm,d8⟩:=wY hr (hx.agree ao (fun _ h=>ar9.2 (.inl h)));have mW:=(hy.agree ao (fun _ h=>ar9.2 (.inr h))).rep hr;obtain⟨c,t,hw,hn,ho,aV⟩:=B6 hr.heap ((ao.2 k (by simp)).trans hk) hm;have hc:=dY.of_value mW hv;have gh:(a.eval y).cells.size=ti.size:=by have:=hc.1;simp at this;omega
  have h0:dY (Im C.ext s'.hp m w) (Sz w) m c.toList cs:=⟨by simpa using hn,ho,fun j u x hu hx=>aV j u x (by simpa using hu) hx⟩
  have h1:=h0.over hc (off:=off) oz;refine⟨b,c,(over c.toList off (a.eval y).cells.toList).toArray,t,hm,hw,?_,?_,?_⟩
  ·simp[over];omega
  ·have eW:=Gg (P:=P) (off:=off) hT hw gh oz (S3 mW hv);simp[execOp,Instr.storeAt,d8,Instr.sureAddr,eW]
  ·intro g S w' hg hS hw';have h2:=h1.mono hg hS (m':=m) (fun _ _ _ _ _ h=>h);exact .box hw' (by simpa using h2.1) h2.2.1 (fun j u x hu hx=>h2.2.2 j u x (by simpa using hu) hx)
theorem El{x y:atn}{k sz i off:Nat}{es:List AV}{e e' v:AV}{T t:atp}{ti:TI}
  (hx:Ev s x (.eptr k sz i off)) (hk:s.blk k=some (.row sz es)) (he:es[i]?=some e) (hy:Ev s y v) (hv:v.ok=true) (hnm:v.nm=[]) (hT:au P T=some ti)
  (a5:ao6 v.cells.length ti.size=true) (bR:Nat.ble (off+ti.size) e.cells.length=true) (he':e'.cells=over e.cells off v.cells) :
  Step P N R s ⟨none,.store T x y,t,pos,after,none⟩ ⟨none,[(k,some (.row sz (es.set i e')))],aj x++aj y,[k]⟩ :=
 Gy rfl rfl (by simp) hk fun s' ao C m a w hr => by
  rw[an7]at bR;have a5:=ar4 a5;obtain⟨b,hm,d8⟩:=BI hr (hx.agree ao (fun _ h=>ar9.2 (.inl h)));have mW:=(hy.agree ao (fun _ h=>ar9.2 (.inr h))).rep hr;obtain⟨c,t,hw,hn,hl,hs,ho,aV⟩:=vU hr.heap ((ao.2 k (by simp)).trans hk) hm;have hc:=dY.of_value (Xh mW hnm) hv;have gh:(a.eval y).cells.size=ti.size:=by have:=hc.1;simp at this;omega
  have hi:i<es.length:=by
   rcases asb i es.length with h |h
   ·exact h
   ·rw[asg h]at he;cases he
  have hb:=oJ (sz:=sz) hi;have oi:=hs i e he;have TE:e'.cells.length=sz:=by rw[he',vD _ _ _ oz,oi]
  refine⟨b,c,(over c.toList (i*sz+off) (a.eval y).cells.toList).toArray,t,hm,hw,?_,?_,?_⟩
  ·simp[over];omega
  ·have eW:=Gg (P:=P) (off:=i*sz+off) hT hw gh oz (S3 mW hv);simp[execOp,Instr.storeAt,d8,Instr.sureAddr,eW]
  ·intro g S w' hg hS hw'
   have Jw:∀(i':Nat)(e2:AV),(es.set i e')[i']?=some e2->(i'=i/\e2=e')\/(i'≠i/\es[i']?=some e2):=by
    intro i' e2 h;rw[List.getElem?_set]at h;split at h
    ·rename_i lh;subst lh
     cases h;exact .inl ⟨rfl,rfl⟩
    ·rename_i lh;exact .inr ⟨fun e=>lh e.symm,h⟩
   have gj:∀(j:Nat)(z:AV),e'.cells[j]?=some z->z.one=true/\∀u,(over c.toList (i*sz+off) (a.eval y).cells.toList)[i*sz+j]?=some u->Rep (Im C.ext s'.hp m w) (Sz w) dO u z:=by
    intro j z hz
    have hjs:j<sz:=by
     rw[<- TE];rcases asb j e'.cells.length with h |h
     ·exact h
     ·rw[asg h]at hz;cases hz
    rw[he',kZ _ _ _ oz]at hz;have zW:i*sz+off+(a.eval y).cells.toList.length<=c.toList.length:=by simp;omega
    split at hz
    ·rename_i h1;refine⟨ho i j e z he hz,fun u hu=>?_⟩;rw[kZ _ _ _ zW,ate oz]at hu;exact aV i j e u z he hz (by simpa using hu)
    ·rename_i h1;split at hz
     ·rename_i h2;refine⟨hc.2.1 _ z hz,fun u hu=>?_⟩;rw[kZ _ _ _ zW,atd oz,ate (by simp;omega)]at hu;refine hc.2.2 _ u z ?_ hz;rw[<- hu];congr 1;omega
     ·rename_i h2;refine⟨ho i j e z he hz,fun u hu=>?_⟩;rw[kZ _ _ _ zW,atd oz,atd (by simp;omega)]at hu;exact aV i j e u z he hz (by simpa using hu)
   refine .row hw' (by simp[over];omega) (by simpa using hl) ?_ ?_ ?_
   ·intro i' e2 h;rcases Jw i' e2 h with⟨rfl,rfl⟩ |⟨_,h⟩
    ·exact TE
    ·exact hs i' e2 h
   ·intro i' j e2 z h hz;rcases Jw i' e2 h with⟨rfl,rfl⟩ |⟨_,h⟩
    ·exact(gj j z hz).1
    ·exact ho i' j e2 z h hz
   ·intro i' j e2 u z h hz hu;refine Rep.mono hg hS ?_ (fun _ _ _ h=>h);rcases Jw i' e2 h with⟨rfl,rfl⟩ |⟨aO,h⟩
    ·exact(gj j z hz).2 u (by simpa using hu)
    ·have zW : i * sz + off + (a.eval y).cells.toList.length <= c.toList.length := by simp; omega
     have hj:j<sz:=by
      rw[<- hs i' e2 h];rcases asb j e2.cells.length with h |h
      ·exact h
      ·rw[asg h]at hz;cases hz
     have hu':(over c.toList (i*sz+off) (a.eval y).cells.toList)[i'*sz+j]?=some u:=by simpa using hu
     rw[kZ _ _ _ zW]at hu'
     have hcu:c.toList[i'*sz+j]?=some u:=by
      rcases asb i' i with hlt |hge
      ·have:=oJ (sz:=sz) hlt
       rwa [ate oz]at hu'
      ·have := oJ (sz := sz) (show i < i' by omega)
       rwa [atd oz,atd (by simp;omega)]at hu'
     exact aV i' j e2 u z h hz (by simpa using hcu)
end Go.Lw
namespace Go.Lw
variable{P:atq}{N:Nat}{R:Array Oper}{s:AS}{pos:String}{after:Array Edge}
theorem N9:∀(l:List ato)(n off:Nat)(arr:Array ato),off+n+l.length<=arr.size ->
  ((l.zipIdx n).foldl (fun cs p=>cs.setIfInBounds (off+p.2) p.1) arr).toList=over arr.toList (off+n) l:=by
 intro l
 induction l with
 |nil=>intro n off arr h;simp[over]
 |cons v l ih =>
  intro n off arr h;simp only[asi]at h;simp only[List.zipIdx_cons,List.foldl_cons];rw[ih (n+1) off _ (by simp;omega),arw,show off+(n+1)=off+n+1 by omega,QE _ _ _ _ (by simp;omega)]
def yd(place:Nat->Option (Nat×Nat)):List AV->List (Nat×AV)->Option (List AV)
  |l,[]=>some l
  |l,(i,x)::r=>match place i with
    |some (off,n)=>match ao6 x.cells.length n&&Nat.ble (off+n) l.length&&x.ok with
      |true=>yd place (over l off x.cells) r
      |false=>none
    |none=>none
inductive EvP(s:AS):List (Nat×atn)->List (Nat×AV)->Prop
  |nil:EvP s [] []
  |cons {i:Nat} {o:atn} {x:AV} {os:List (Nat×atn)} {xs:List (Nat×AV)} (h:Ev s o x) (hs:EvP s os xs):EvP s ((i,o)::os) ((i,x)::xs)
def vj:List (Nat×atn)->List Nat
  |[]=>[]
  |(_,o)::os=>aj o++vj os
theorem EvP.agree{s':AS}{u:Out}(h:iC s s' u){os:List (Nat×atn)}{xs:List (Nat×AV)}(he:EvP s os xs)(hs:∀t∈vj os,t∈u.rt):EvP s' os xs:=by
 induction he with
 |nil=>exact .nil
 |cons h1 _ ih=>exact .cons (h1.agree h (fun t ht=>hs t (by simp[vj,ht]))) (ih (fun t ht=>hs t (by simp[vj,ht])))
theorem WX{g:Nat->Array ato->Prop}{S:Nat->Nat->Prop}{mm:Nat->Option Nat}{ev:atn->ato}{place:Nat->Option (Nat×Nat)}
  {os:List (Nat×atn)} {xs:List (Nat×AV)} (hp:EvP s os xs) (dC:∀o x,Ev s o x->Rep g S mm (ev o) x) :
  ∀(c:Array ato)(l l':List AV),dY g S mm c.toList l->yd place l xs=some l' ->
   ∃c',Instr.fill place c (os.map fun p=>(p.1,ev p.2))=some c'/\dY g S mm c'.toList l':=by
 induction hp with
 |nil=>intro c l l' h hf;cases hf;exact⟨c,rfl,h⟩
 | @cons i o x os xs h1 _ ih =>
  intro c l l' h hf;unfold yd at hf;split at hf
  ·rename_i off n mX;split at hf
   ·rename_i hc;simp only [ar5,an7] at hc;obtain ⟨⟨fS,sk⟩,Jq⟩:=hc;have fS:=ar4 fS;have hx:=dY.of_value (dC o x h1) Jq;have cm:(ev o).cells.size = n:=by have:=hx.1; simp at this; omega
    have gh:c.size=l.length:=by have:=h.1;simpa using this
    have Es:=h.over hx (off:=off) oz;have zX:=N9 (ev o).cells.toList 0 off c (by simp;omega);simp only[aoy]at zX;obtain⟨c',h2,h3⟩:=ih ((((ev o).cells.toList.zipIdx 0).foldl (fun cs p=>cs.setIfInBounds (off+p.2) p.1) c)) _ l' (by rw[zX];exact Es) hf;refine⟨c',?_,h3⟩;rw[<- h2];simp only[atb,Instr.fill,mX];rw[atd (by simp;omega)];congr 1;rw[<- Array.foldl_toList,Array.toList_zipIdx]
   ·cases hf
  ·cases hf
theorem Va{α β:Type}{w:atr}(f:α->Sem β)(g:α->β):∀(l:List α),(∀x∈l,(f x).run P w=.ok (g x) w)->(l.mapM f).run P w=.ok (l.map g) w:=by
 intro l
 induction l with
 |nil=>intro _;simp
 |cons x l ih =>
  intro h;simp[List.mapM_cons,h x (by simp),ih (fun y hy=>h y (by simp[hy]))]
theorem aea{d:Nat}{parts:Array (Nat×atn)}{xs:List (Nat×AV)}{l:List AV}{T t:atp}{ti:TI}
  (hx:EvP s parts.toList xs) (hT:au P T=some ti) (hk:ti.k=.struct) (hz:ti.zero.all Value.oneCell'=true) (hp:(ti.fs.all fun p=>aob 0 p.2)=true)
  (hl:yd (fun i=>ti.fs[i]?) (ti.zero.map .v) xs=some l) (hN:aob d N=true) :
  Step P N R s ⟨some d,.build T parts,t,pos,after,none⟩ ⟨some (.agg l),[],vj parts.toList,[]⟩ :=
 dw rfl rfl hN fun s' ao C m a w hr=>by
  have hx':=hx.agree ao (fun _ h=>h);obtain⟨z,h1,h2⟩:=yV hT w;obtain⟨d2,h3,h4,h5,-⟩:=dX hT w;obtain⟨fs,rfl⟩:=Tb (h4.trans hk);have bb:dY (Im C.ext s'.hp m w) (Sz w) m z.cells.toList (ti.zero.map .v):=by rw[h2];exact .of_zero _ hz
  obtain⟨c',h6,h7⟩:=WX (place:=fun i=>ti.fs[i]?) hx' (fun o x h=>h.rep hr) z.cells _ l bb hl
  have hm:(fs.mapM fun f=>(do pure (f.offset,<- sizeOf f.type):Sem (Nat×Nat))).run P w=.ok ti.fs.toArray w:=by
   rw[arx];simp only[Sem.run_map];rw[Va _ (fun f=>(f.offset,match P.info? f.type with |some j=>j.size |none=>0))]
   ·simp only[ats,<- h5,uV] <;> rfl
   ·intro f hf
    have:(f.offset,match P.info? f.type with |some j=>j.size |none=>0)∈ti.fs:=by
     rw[<- h5];simp only[uV,aqd];exact⟨f,hf,rfl⟩
    have:=asd.1 hp _ this;simp only[aoh]at this;cases hi:P.info? f.type with
    |none=>rw[hi]at this;simp at this
    |some j=>simp[sizeOf,typeInfo,hi]
  refine⟨.agg c',?_,.agg (by simpa using h7.1) h7.2.1 (fun j u x hu hx=>h7.2.2 j u x (by simpa using hu) hx)⟩;have mX:(fun x:Nat=>ti.fs.toArray[x]?)=fun i:Nat=>ti.fs[i]?:=by funext i;simp
  have mY:(parts.map fun p=>(p.1,a.eval p.2)).toList=parts.toList.map fun p=>(p.1,a.eval p.2):=by simp
  have hb:(Instr.build T (parts.map fun p=>(p.1,a.eval p.2))).run P w=.ok (.agg c') w:=by
   simp only[Instr.build,att,h1,ats,h3,hm,mX,mY,h6,atu]
  simp only[execOp,att,hb,ats,atu]
theorem agr{o:Oper}{d:Nat}{x:AV}{rt rd:List Nat}(hg:o.guard=none)(hd:o.dst=some d)(hN:aob d N=true)
  (h:∀s',iC s s' ⟨some x,[],rt,rd⟩->∀C m a w,RelM C s' m a w ->
   ∃(v:ato)(c:Array ato)(t:atp),(execOp a.eval o).run P w=.ok (.value v) { w with heap:=w.heap.push (.cells c t) } /\
    (∀(g:Nat->Array ato->Prop)(S:Nat->Nat->Prop),(∀b cs,Im C.ext s'.hp m w b cs->g b cs)->(∀b n,Sz w b n->S b n)->g w.heap.size c->Rep g S m v x)) :
  Step P N R s o ⟨some x,[],rt,rd⟩:=by
 refine⟨fun s' ao _ C m a w Q next hC hr hnext=>?_⟩;rw[ate (pU hg _)];refine zT ?_;obtain⟨v,c,t,h1,h2⟩:=h s' ao C m a w hr;rw[aoh]at hN;unfold Oper.wp;rw[h1];simp only[Oper.upon,hd,Act.put];refine hnext m _ _ ?_;have hf:=GY (aW s'.hp m) w (.cells c t);have bG:∀k' y b',lk s'.hp k'=some y->m k'=some b'->aW s'.hp m b'\/w.heap.size<=b':=fun k' y b' h1 h2=>.inl ⟨k',y,h1,h2⟩
 have a8:RelM C s' m a { w with heap:=w.heap.push (.cells c t) }:=by
  refine hr.update hf (fun t y k' b' _ _ hb'=>hb') bG (fun k' y _ hy=>⟨⟨y,hy⟩,rfl⟩) ⟨?_,hr.heap.inj,?_⟩
  ·intro k y hk;refine BlkRep.mono (f0 hf bG) hf.sz (fun _ _ _ h=>h) rfl ?_ (hr.heap.blk k y hk);intro b hb;have:=(hr.heap.sep k y b hk hb).2;show(w.heap.push _)[b]?=_;rw[aru,atd oz]
  ·intro k y b hk hb;have:=hr.heap.sep k y b hk hb;refine⟨this.1,?_⟩;have:=this.2;simp;omega
 have:=a8.put d v (some x) (fun z hz=>by
  cases hz;refine⟨by have:=hr.nt;omega,h2 _ _ (f0 hf bG) hf.sz ⟨fun hc=>?_,?_,t,(0,0),?_⟩⟩
  ·have:=hr.ext_lt hc;omega
  ·rintro⟨k,y,hk,hb⟩;have:=(hr.heap.sep k y _ hk hb).2;omega
  ·show(w.heap.push _)[w.heap.size]?=_;simp)
 simpa[AS.app,hd]using this
end Go.Lw
namespace Go.Lw
variable{P:atq}{N:Nat}{R:Array Oper}{s:AS}{pos:String}{after:Array Edge}
def gx:List AV->List AV
  |[]=>[]
  |e::es=>e.cells++gx es
theorem AJ{sz:Nat}:∀(es:List AV),(∀e∈es,e.cells.length=sz)->(gx es).length=es.length*sz
 |[],_=>by simp[gx]
 |e::es,h=>by
  simp only[gx,asx,asi,h e (by simp),AJ es (fun e he=>h e (by simp[he])),ape];omega
theorem Jb{sz:Nat}:∀(es:List AV),(∀e∈es,e.cells.length=sz)->∀(i j:Nat)(e x:AV),es[i]?=some e->e.cells[j]?=some x->(gx es)[i*sz+j]?=some x
 |[],_,i,j,e,x,h,_=>by simp at h
 |e0::es,h,0,j,e,x,he,hx=>by
  simp at he;subst he
  have hj:j<e0.cells.length:=by
   rcases asb j e0.cells.length with h |h
   ·exact h
   ·rw[asg h]at hx;cases hx
  simp only[gx,Nat.zero_mul,aoj];rw[asq hj,hx]
 |e0::es,h,i+1,j,e,x,he,hx=>by
  have h0:=h e0 (by simp);simp only[gx,ape];rw[asm oz,h0,show i*sz+sz+j-sz=i*sz+j by omega];exact Jb es (fun e he=>h e (by simp[he])) i j e x (by simpa using he) hx
def mN(n:Nat):List atn->List (Nat×atn)
  |[]=>[]
  |o::os=>(n,o)::mN (n+1) os
theorem abj{g:Nat->Array ato->Prop}{S:Nat->Nat->Prop}{mm:Nat->Option Nat}{ev:atn->ato}{sz:Nat}
  (dC:∀o x,Ev s o x->Rep g S mm (ev o) x):∀(os:List atn)(es:List AV),EvL s os es->(es.all fun e=>ao6 e.cells.length sz&&e.ok)=true ->
   ∀(n:Nat)(c:Array ato)(A Z:List AV),A.length=n*sz->Z.length=es.length*sz->dY g S mm c.toList (A++Z) ->
    ∃c',Instr.fill (fun i=>some (i*sz,sz)) c ((mN n os).map fun p=>(p.1,ev p.2))=some c'/\dY g S mm c'.toList (A++gx es):=by
 intro os es hl
 induction hl with
 |nil =>
  intro _ n c A Z hA hZ hc;have:Z=[]:=by simpa using hZ
  subst this;exact⟨c,rfl,by simpa[gx]using hc⟩
 | @cons o x os xs h1 _ ih =>
  intro gk n c A Z hA hZ hc;simp only[List.all_cons,ar5]at gk;obtain⟨⟨uv,lr⟩,gk⟩:=gk;have uv:=ar4 uv;have hx:=dY.of_value (dC o x h1) lr;have cm:(ev o).cells.size=sz:=by have:=hx.1;simp at this;omega
  simp only[asi,ape]at hZ;have gh:c.size=A.length+Z.length:=by have:=hc.1;simpa using this
  have Es:=hc.over hx (off:=n*sz) (by simp;omega)
  have hoe:over (A++Z) (n*sz) x.cells=(A++x.cells)++Z.drop sz:=by
   unfold over;rw[<- hA,List.take_left,uv,List.drop_append,as0 oz,show A.length+sz-A.length=sz by omega,nil_append]
  rw[hoe]at Es;have zX:=N9 (ev o).cells.toList 0 (n*sz) c (by simp;omega);simp only[aoy]at zX
  obtain⟨c',h2,h3⟩:=ih gk (n+1) ((((ev o).cells.toList.zipIdx 0).foldl (fun cs p=>cs.setIfInBounds (n*sz+p.2) p.1) c)) (A++x.cells) (Z.drop sz)
   (by simp[ape];omega) (by simp;omega) (by rw[zX];exact Es)
  refine⟨c',?_,by simpa[gx,atc]using h3⟩;rw[<- h2];simp only[mN,atb,Instr.fill];rw[atd (by simp;omega)];congr 1;rw[<- Array.foldl_toList,Array.toList_zipIdx]
theorem Wq{g:Nat->Array ato->Prop}{S:Nat->Nat->Prop}{m:Nat->Option Nat}(zero:Array ato)(n:Nat)(hz:zero.toList.all Value.oneCell'=true)(h0:n=0\/zero ≠ #[]) :
  ∃l:List AV,dY g S m ((Array.range n).map (zero[· % zero.size]!)).toList l/\l.length=n:=by
 refine⟨(List.range n).map (fun i=>AV.v (zero[i%zero.size]!)),⟨by simp,?_,?_⟩,by simp⟩
 ·intro j x hx;simp only [asa,ar6] at hx;obtain ⟨i,hi,rfl⟩:=hx;have hn:0 < n:=by have:=ar1 hi; simp at this; omega
  have iy:0<zero.size:=by
   rcases h0 with h |h
   ·omega
   ·rcases aov zero.size with h' |h'
    ·exact atk (Array.size_eq_zero_iff.1 h') h
    ·exact h'
  have hlt:i%zero.size<zero.size:=aou _ iy;simp only[AV.one];rw[getElem!_pos zero _ hlt];exact asd.1 hz _ (by simp)
 ·intro j u x hu hx;simp only[asa,ar6]at hx;obtain⟨i,hi,rfl⟩:=hx;simp only[Array.toList_map,Array.toList_range,asa,hi,arz,Option.some.injEq]at hu;subst hu;exact .v _
theorem GO{T E:atp}{ti te:TI}{w:atr}{n:Nat}{g:Nat->Array ato->Prop}{S:Nat->Nat->Prop}{mm:Nat->Option Nat}{ev:atn->ato}
  (hT:au P T=some ti) (hk:ti.k=.slice E) (hE:au P E=some te) (hz:te.zero.all Value.oneCell'=true) (bb:ao6 te.zero.length te.size=true)
  (dC:∀o x,Ev s o x->Rep g S mm (ev o) x) {os:List atn} {es:List AV} (hl:EvL s os es) (gk:(es.all fun e=>ao6 e.cells.length te.size&&e.ok)=true)
  (hn:n=es.length) (hb:n*te.size<=2^24) :
  ∃c:Array ato,(Instr.buildSlice T n ((mN 0 os).map fun p=>(p.1,ev p.2)).toArray).run P w =
    .ok (.slice (some ⟨w.heap.size,0,none⟩) n n) { w with heap:=w.heap.push (.cells c E) }/\dY g S mm c.toList (gx es):=by
 obtain⟨d2,h3,h4,-,-⟩:=dX hT w;obtain rfl:=i9 (h4.trans hk);obtain⟨z,h5,h6⟩:=yV hE w;have bb:=ar4 bb;have zY:z.cells.size=te.size:=by rw[<- arm,h6];exact bb
 subst hn
 have key:∀zero:Array ato,zero=(if es.length*te.size=0 then #[]else z.cells)->zero.toList.all Value.oneCell'=true/\(es.length*te.size=0\/zero ≠ #[]):=by
  intro zero h;subst h;split
  ·exact⟨rfl,.inl ‹_›⟩
  ·rename_i h;refine⟨by rw[h6];exact hz,.inr (fun he=>?_)⟩;rw[he]at zY;simp at zY;exact h (by rw[<- zY];omega)
 obtain⟨zero,gN⟩:∃zero:Array ato,zero=(if es.length*te.size=0 then #[]else z.cells):=⟨_,rfl⟩
 obtain⟨k1,k2⟩:=key zero gN;obtain⟨Z,hZ,hZl⟩:=Wq (g:=g) (S:=S) (m:=mm) zero (es.length*te.size) k1 k2;obtain⟨c',h7,h8⟩:=abj dC os es hl gk 0 ((Array.range (es.length*te.size)).map (zero[· % zero.size]!)) [] Z (by simp) hZl (by simpa using hZ);refine⟨c',?_,by simpa using h8⟩;have uw:¬(es.length*te.size>2^24):=by omega
 simp only[Instr.buildSlice,att,h3,ats,gd hE];rw[atd uw]
 by_cases h0:es.length*te.size=0
 ·rw[ate h0]at gN ⊢;subst gN;simp only[att,atu,ats,h7,newRow,run_newObj]
 ·rw[atd h0]at gN ⊢;subst gN;simp only[att,atu,ats,h5,h7,newRow,run_newObj]
theorem aau{g:Nat->Array ato->Prop}{S:Nat->Nat->Prop}{m:Nat->Option Nat}{b sz:Nat}{c:Array ato}{es:List AV}(hb:g b c)
  (hc:dY g S dO c.toList (gx es)) (hs:∀e∈es,e.cells.length=sz) (hl:es.length<=aF) :
  Rep g S m (.slice (some ⟨b,0,none⟩) es.length es.length) (.lst sz es):=by
 have cm:=AJ es hs;have a5:c.size=es.length*sz:=by have:=hc.1;simp at this;omega
 have gj:∀(i j:Nat)(e x:AV),es[i]?=some e->e.cells[j]?=some x->∃u,c[i*sz+j]?=some u/\x.one=true/\Rep g S dO u x:=by
  intro i j e x he hx;have hf:=Jb es hs i j e x he hx
  have hlt:i*sz+j<(gx es).length:=by
   rcases asb (i*sz+j) (gx es).length with h |h
   ·exact h
   ·rw[asg h]at hf;cases hf
  have zZ:i*sz+j<c.size:=by omega
  refine⟨c[i*sz+j],aro zZ,hc.2.1 _ x hf,hc.2.2 _ _ x (by simp[zZ]) hf⟩
 refine .lst (fun i j=>c.getD (i*sz+j) undef) hb (ar8 _) hl (fun i e he=>hs e (ar1 he)) ?_ ?_ ?_
 ·intro i j e x he hx;obtain⟨u,_,h,_⟩:=gj i j e x he hx;exact h
 ·intro i j e x he hx;obtain⟨u,h,_,_⟩:=gj i j e x he hx;simp[asc,h]
 ·intro i j e x he hx;obtain⟨u,h,_,h2⟩:=gj i j e x he hx;simpa[asc,h]using h2
theorem IB{es:List AV}{sz:Nat}(h:(es.all fun e=>ao6 e.cells.length sz&&e.ok)=true):∀e∈es,e.cells.length=sz:=by
 intro e he;have:=asd.1 h e he;simp only[ar5]at this;exact ar4 this.1
theorem Ec{es:List AV}(h:AV.nms es=[]):∀e∈es,e.nm=[]:=by
 induction es with
 |nil=>intro e he;cases he
 |cons x es ih =>
  simp only[AV.nms,List.append_eq_nil_iff]at h;intro e he;rcases asj.1 he with rfl |he
  ·exact h.1
  ·exact ih h.2 e he
theorem X1{d n:Nat}{os:List atn}{es:List AV}{T E t:atp}{ti te:TI}{parts:Array (Nat×atn)}
  (hp:parts=(mN 0 os).toArray) (hx:EvL s os es) (hT:au P T=some ti) (hk:ti.k=.slice E) (hE:au P E=some te) (hz:te.zero.all Value.oneCell'=true)
  (bb:ao6 te.zero.length te.size=true) (gk:(es.all fun e=>ao6 e.cells.length te.size&&e.ok)=true) (hnm:AV.nms es=[])
  (hn:n=es.length) (hb:Nat.ble (n*te.size) 16777216=true) (hb':Nat.ble n 16777216=true) (hN:aob d N=true) :
  Step P N R s ⟨some d,.buildSlice T n parts,t,pos,after,none⟩ ⟨some (.lst te.size es),[],dk os,[]⟩ :=
 agr rfl rfl hN fun s' ao C m a w hr=>by
  subst hp;rw[an7]at hb hb';have hx':=hx.agree ao (fun _ h=>h);obtain⟨c,h1,h2⟩:=GO (w:=w) hT hk hE hz bb (fun o x h=>h.rep hr) hx' gk hn oz;refine⟨.slice (some ⟨w.heap.size,0,none⟩) n n,c,E,?_,?_⟩
  ·have : ((mN 0 os).toArray.map fun p => (p.1, a.eval p.2)) = ((mN 0 os).map fun p => (p.1, a.eval p.2)).toArray := by simp
   simp only[execOp,att,this,h1,ats,atu]
  ·intro g S hg hS Jx;subst hn
   have Jy:∀x∈gx es,x.nm=[]:=by
    have hh:=Ec hnm;clear h2 h1 hx' hx gk hb hb' hnm ao
    induction es with
    |nil=>intro x hx;cases hx
    |cons e es ih =>
     intro x hx;simp only[gx,ar9]at hx;rcases hx with hx |hx
     ·have := hh e (by simp)
      cases e <;> simp only[AV.cells,aqf]at hx <;> first
       |(subst hx;exact this)
       |(exact Ec this x hx)
     ·exact ih (fun e he=>hh e (by simp[he])) x hx
   have h3:dY g S dO c.toList (gx es):=h2.mono hg hS (fun x hx k b hk _=>by have:=hk.mem;rw[Jy x hx]at this;cases this);exact aau Jx h3 (IB gk) (by unfold aF;omega)
theorem tf{d:Nat}{T E t:atp}{ti te:TI}
  (hT:au P T=some ti) (hk:ti.k=.slice E) (hE:au P E=some te) (hz:te.zero.all Value.oneCell'=true)
  (bb:ao6 te.zero.length te.size=true) (hN:aob d N=true) :
  Step P N R s ⟨some d,.buildSlice T 0 #[],t,pos,after,none⟩ ⟨some (.ms d te.size 0 0),[(d,some (.row te.size []))],[],[]⟩ :=
 vO rfl rfl hN (by simp) fun s' ao hfr C m a w hr => by
  obtain⟨c,h1,h2⟩:=GO (w:=w) (n:=0) hT hk hE hz bb (fun o x h=>h.rep hr) (.nil:EvL s' [] []) rfl rfl oz;refine⟨.slice (some ⟨w.heap.size,0,none⟩) 0 0,c,E,w.drawn,?_,fun h=>h,?_,fun g S m' hm _=>.ms0 _ _ _ _⟩
  ·have h1':(Instr.buildSlice T 0 #[]).run P w = .ok (.slice (some ⟨w.heap.size, 0, none⟩) 0 0) { w with heap:=w.heap.push (.cells c E) }:=h1;have:((#[]:Array (Nat × atn)).map fun (i,x)=>(i,a.eval x)) = #[]:=by simp
   simp only[execOp,att,this,h1',ats,atu]
  ·intro g S m' w' hg hS hm hw;exact .row hw (by simp) (by simp) (by simp) (by simp) (by simp)
theorem it{d:Nat}{x:atn}{n:Int}{T E t:atp}{ti te:TI}(hx:Ev s x (.v (.int .i64 n)))
    (hT:au P T=some ti) (hk:ti.k=.slice E) (hE:au P E=some te) (hz:te.zero.all Value.oneCell'=true)
    (bb:(ao6 te.zero.length te.size&&aob 0 te.size&&aob 0 te.bytes&&(te.ag||ao6 te.size 1))=true)
    (h0:0<=n) (hb:n*te.bytes<=281474976710656) (hN:aob d N=true) :
    Step P N R s ⟨some d,.makeSlice T x x,t,pos,after,none⟩
      ⟨some (.ms d te.size 0 n.toNat),[(d,some (.row te.size (apf n.toNat (lJ te.ag (te.zero.map .v)))))],aj x,[]⟩ :=
  vO rfl rfl hN (by simp) fun s' ao hfr C m a w hr => by
    have d8:=pV hr (hx.agree ao (fun _ h=>h));simp only[ar5,ata,aoh]at bb;obtain⟨⟨⟨bb,df⟩,l8⟩,hz3⟩:=bb;have bb:=ar4 bb;obtain⟨d2,h3,h4,-,-⟩:=dX hT w;obtain rfl:=i9 (h4.trans hk);obtain⟨z,h5,h6⟩:=yV hE w;obtain⟨ie,h7,h8,-⟩:=Lk hE w;have zY:z.cells.size=te.size:=by rw[<- arm,h6];exact bb
    have uw:n<=281474976710656:=by
      have:n*1<=n*te.bytes:=Int.mul_le_mul_of_nonneg_left oz h0;omega
    have lw:IntKind.i64.wrap n=n:=IntWalk.i64_in n oz;obtain⟨zero,gN⟩:∃zero:Array ato,zero=(if n.toNat*te.size=0 then #[]else z.cells):=⟨_,rfl⟩
    refine⟨.slice (some ⟨w.heap.size,0,none⟩) n.toNat n.toNat,(Array.range (n.toNat*te.size)).map (zero[· % zero.size]!),E,w.drawn,?_,fun h=>h,?_,?_⟩
    · have fA:(Instr.makeSlice T (.int .i64 n) (.int .i64 n)).run P w =
          .ok (.slice (some ⟨w.heap.size,0,none⟩) n.toNat n.toNat) { w with heap:=w.heap.push (.cells ((Array.range (n.toNat*te.size)).map (zero[· % zero.size]!)) E) }:=by
        have hc:¬((n<0\/281474976710656<(ie.bytes:Int)*n)\/n<0):=by
          rw[h8,Int.mul_comm];omega
        simp only[Instr.makeSlice,att,h3,ats,asInt,asIntOf,atu,h7,lw];rw[atd (by simpa using hc)];simp only[att,run_askRoom,ats,gd hE]
        by_cases h0:n.toNat*te.size=0
        · rw[ate h0]at gN ⊢
          subst gN;simp only[att,atu,ats,newRow,run_newObj]
        · rw[atd h0]at gN ⊢
          subst gN;simp only[att,atu,ats,h5,newRow,run_newObj]
      simp only[execOp,d8,att,fA,ats,atu]
    · intro g S m' w' hg hS hm hw
      have gh:(lJ te.ag (te.zero.map .v)).cells=te.zero.map .v:=by
        rcases hz3 with h |h
        · rw[h];rfl
        · have h:=ar4 h
          match hq:te.zero with
          |[]=>rw[hq]at bb;simp at bb;omega
          |[u] =>
            rw[hq]at hz;simp only[List.all_cons,List.all_nil,Bool.and_true]at hz;cases te.ag <;> simp[lJ,AV.cells]
          |u::u'::r=>rw[hq]at bb;simp at bb;omega
      have gj:∀(i j:Nat)(x:AV),i<n.toNat->(te.zero.map AV.v)[j]?=some x->x.one=true/\∀u,((Array.range (n.toNat*te.size)).map (zero[· % zero.size]!))[i*te.size+j]?=some u->x=.v u:=by
        intro i j x hi hx;simp only[asa,ar6]at hx;obtain⟨v,hv,rfl⟩:=hx;refine⟨asd.1 hz v (ar1 hv),?_⟩;intro u hu
        have hj:j<te.size:=by
          rw[<- bb];rcases asb j te.zero.length with h |h
          · exact h
          · rw[asg h]at hv;cases hv
        have iy:¬n.toNat*te.size=0:=by
          have:=apa (show 0<n.toNat by omega) df;omega
        rw[atd iy]at gN;subst gN;have bg:=oJ (sz:=te.size) hi;have hlt:i*te.size+j<n.toNat*te.size:=by omega
        simp only[Array.getElem?_map,Array.getElem?_range,hlt,if_true,arz,Option.some.injEq]at hu;have z4:(i*te.size+j)%z.cells.size=j:=by rw[zY,ao7,Nat.add_mul_mod_self_right,aol hj]
        rw[z4,getElem!_pos z.cells j oz]at hu;rw[<- h6,arn,aro oz]at hv;cases hv;rw[hu]
      refine .row hw (by simp) (by unfold aF;simp;omega) ?_ ?_ ?_
      · intro i e he
        rw[ast]at he;split at he
        · cases he;rw[gh];simpa using bb
        · cases he
      · intro i j e x he hx
        rw[ast]at he;split at he
        · rename_i hi;cases he;rw[gh]at hx;exact(gj i j x hi hx).1
        · cases he
      · intro i j e u x he hx hu
        rw[ast]at he;split at he
        · rename_i hi;cases he;rw[gh]at hx
          rw[(gj i j x hi hx).2 u hu];exact .v _
        · cases he
    · intro g S m' hm hS
      have:=Rep.ms (g:=g) (S:=S) (m:=m') (k:=d) (sz:=te.size) (off:=0) (len:=n.toNat) (cap:=n.toNat) hm (ar8 _) (by simpa using hS);simpa using this
end Go.Lw
namespace Go.Lw
variable{P:atq}{N:Nat}{R:Array Oper}{s:AS}{pos:String}{after:Array Edge}
theorem RelM.rk{C:Ctx}{m:Nat->Option Nat}{a:Act}{w:atr}(h:RelM C s m a w){k d:Nat}{y:Blk}(hk:lk s.hp k=some y)(hd:s.Fresh d) :
  RelM C ⟨s.sl,(d,some y)::(k,none)::s.hp⟩ (fun k'=>if k'=d then m k else m k') a w:=by
 have aO:k≠d:=fun e=>by rw[e,hd.1]at hk;cases hk
 have ck:∀k' z,lk ((d,some y)::(k,none)::s.hp) k'=some z->(k'=d/\z=y)\/(k'≠d/\k'≠k/\lk s.hp k'=some z):=by
  intro k' z hz;rw[aE]at hz;split at hz
  ·cases hz;exact .inl ⟨‹_›,rfl⟩
  ·rw[aE]at hz;split at hz
   ·cases hz
   ·exact .inr ⟨‹_›,‹_›,hz⟩
 have hf:=Frame.refl (aW s.hp m) w
 have bG:∀k' z b,lk ((d,some y)::(k,none)::s.hp) k'=some z->(if k'=d then m k else m k')=some b->aW s.hp m b\/w.heap.size<=b:=by
  intro k' z b hz hb;rcases ck k' z hz with⟨h1,h2⟩ |⟨h1,h2,h3⟩
  ·rw[ate h1]at hb;exact .inl ⟨k,y,hk,hb⟩
  ·rw[atd h1]at hb;exact .inl ⟨k',z,h3,hb⟩
 have so:∀z:Blk,¬z.Names d->∀k'' b,z.Names k''->m k''=some b->(if k''=d then m k else m k'')=some b:=by
  intro z hz k'' b hn hb;rw[atd (fun(e:k''=d)=>hz (e▸hn))];exact hb
 refine h.update hf ?_ bG ?_ ⟨?_,?_,?_⟩
 ·intro t z k' b hz hn hb;have:k'≠d:=fun e=>hd.2.2.1 t z hz (e▸hn)
  rw[atd this];exact hb
 ·intro k' z qw hz;rcases ck k' z hz with⟨h1,h2⟩ |⟨h1,h2,h3⟩
  ·have:=hd.2.1;omega
  ·exact⟨⟨z,h3⟩,by rw[atd h1]⟩
 ·intro k' z hz;rcases ck k' z hz with⟨h1,h2⟩ |⟨h1,h2,h3⟩
  ·subst h2;rw[ate h1];exact BlkRep.mono (w:=w) (f0 hf bG) hf.sz (so z (hd.2.2.2 k z hk)) rfl (fun _ _=>rfl) (h.heap.blk k z hk)
  ·rw[atd h1];exact BlkRep.mono (w:=w) (f0 hf bG) hf.sz (so z (hd.2.2.2 k' z h3)) rfl (fun _ _=>rfl) (h.heap.blk k' z h3)
 ·intro k1 k2 z1 z2 b h1 h2 bM bg;rcases ck k1 z1 h1 with⟨e1,e2⟩ |⟨e1,e2,e3⟩ <;> rcases ck k2 z2 h2 with⟨g1,g2⟩ |⟨g1,g2,g3⟩
  ·rw[e1,g1]
  ·rw[ate e1]at bM;rw[atd g1]at bg
   exact atk (h.heap.inj k k2 y z2 b hk g3 bM bg).symm g2
  ·rw[atd e1]at bM;rw[ate g1]at bg
   exact atk (h.heap.inj k1 k z1 y b e3 hk bM bg) e2
  ·rw[atd e1]at bM;rw[atd g1]at bg
   exact h.heap.inj k1 k2 z1 z2 b e3 g3 bM bg
 ·intro k' z b hz hb;rcases ck k' z hz with⟨h1,h2⟩ |⟨h1,h2,h3⟩
  ·rw[ate h1]at hb;exact h.heap.sep k y b hk hb
  ·rw[atd h1]at hb;exact h.heap.sep k' z b h3 hb
theorem RelM.fewer{C:Ctx}{m:Nat->Option Nat}{a:Act}{w:atr}(h:RelM C s m a w){hp':Hp}(hs:∀k z,lk hp' k=some z->lk s.hp k=some z) :
  RelM C ⟨s.sl,hp'⟩ m a w:=by
 have hf:=Frame.refl (aW s.hp m) w;have bG:∀k' z b,lk hp' k'=some z->m k'=some b->aW s.hp m b\/w.heap.size<=b:=fun k' z b hz hb=>.inl ⟨k',z,hs k' z hz,hb⟩
 refine h.update hf (fun _ _ _ _ _ _ hb=>hb) bG (fun k' z _ hz=>⟨⟨z,hs k' z hz⟩,rfl⟩) ⟨?_,?_,?_⟩
 ·intro k' z hz;exact BlkRep.mono (w:=w) (f0 hf bG) hf.sz (fun _ _ _ h=>h) rfl (fun _ _=>rfl) (h.heap.blk k' z (hs k' z hz))
 ·intro k1 k2 z1 z2 b h1 h2;exact h.heap.inj k1 k2 z1 z2 b (hs _ _ h1) (hs _ _ h2)
 ·intro k' z b hz hb;exact h.heap.sep k' z b (hs k' z hz) hb
theorem RelM.virt{C:Ctx}{m:Nat->Option Nat}{a:Act}{w:atr}(h:RelM C s m a w){d:Nat}(sz:Nat)(hd:s.Fresh d) :
  RelM C ⟨s.sl,(d,some (.row sz []))::s.hp⟩ (fun k'=>if k'=d then none else m k') a w:=by
 have ck:∀k' z,lk ((d,some (.row sz []))::s.hp) k'=some z->(k'=d/\z=.row sz [])\/(k'≠d/\lk s.hp k'=some z):=by
  intro k' z hz;rw[aE]at hz;split at hz
  ·cases hz;exact .inl ⟨‹_›,rfl⟩
  ·exact .inr ⟨‹_›,hz⟩
 have hf:=Frame.refl (aW s.hp m) w
 have bG:∀k' z b,lk ((d,some (.row sz []))::s.hp) k'=some z->(if k'=d then none else m k')=some b->aW s.hp m b\/w.heap.size<=b:=by
  intro k' z b hz hb;rcases ck k' z hz with⟨h1,h2⟩ |⟨h1,h3⟩
  ·rw[ate h1]at hb;cases hb
  ·rw[atd h1]at hb;exact .inl ⟨k',z,h3,hb⟩
 refine h.update hf ?_ bG ?_ ⟨?_,?_,?_⟩
 ·intro t z k' b hz hn hb;rw[atd (fun(e:k'=d)=>hd.2.2.1 t z hz (e▸hn))];exact hb
 ·intro k' z qw hz;rcases ck k' z hz with⟨h1,h2⟩ |⟨h1,h3⟩
  ·have:=hd.2.1;omega
  ·exact⟨⟨z,h3⟩,by rw[atd h1]⟩
 ·intro k' z hz;rcases ck k' z hz with⟨h1,h2⟩ |⟨h1,h3⟩
  ·subst h2;rw[ate h1];exact .none sz
  ·rw[atd h1];exact BlkRep.mono (w:=w) (f0 hf bG) hf.sz (fun k'' b hn hb=>by rw[atd (fun(e:k''=d)=>hd.2.2.2 k' z h3 (e▸hn))];exact hb) rfl (fun _ _=>rfl) (h.heap.blk k' z h3)
 ·intro k1 k2 z1 z2 b h1 h2 bM bg;rcases ck k1 z1 h1 with⟨e1,_⟩ |⟨e1,e3⟩ <;> rcases ck k2 z2 h2 with⟨g1,_⟩ |⟨g1,g3⟩
  ·rw[e1,g1]
  ·rw[ate e1]at bM;cases bM
  ·rw[ate g1]at bg;cases bg
  ·rw[atd e1]at bM;rw[atd g1]at bg
   exact h.heap.inj k1 k2 z1 z2 b e3 g3 bM bg
 ·intro k' z b hz hb;rcases ck k' z hz with⟨h1,_⟩ |⟨h1,h3⟩
  ·rw[ate h1]at hb;cases hb
  ·rw[atd h1]at hb;exact h.heap.sep k' z b h3 hb
theorem I6{C:Ctx}{m:Nat->Option Nat}{w:atr}{hp:Hp}{v:ato}{sz:Nat}{xs:List AV}(h:Rep (Im C.ext hp m w) (Sz w) m v (.lst sz xs))(a5:0<sz) :
  (xs=[]/\∃a cap,v=.slice a 0 cap)\/∃b off cap cs,v=.slice (some ⟨b,off,none⟩) xs.length cap/\0<xs.length/\Im C.ext hp m w b cs/\off+xs.length*sz<=cs.size /\
   xs.length<=aF/\(∀(i:Nat)(e:AV),xs[i]?=some e->e.cells.length=sz)/\(∀(i j:Nat)(e c:AV),xs[i]?=some e->e.cells[j]?=some c->c.one=true) /\
   ∀(i j:Nat)(e c:AV)(u:ato),xs[i]?=some e->e.cells[j]?=some c->cs[off+i*sz+j]?=some u->Rep (Im C.ext hp m w) (Sz w) dO u c:=by
 cases h with
 |lst0 a cap=>exact .inl ⟨rfl,a,cap,rfl⟩
 | @lst _ b off cap _ _ cs u hb hc hl hs h1 hu hr =>
  rcases aov xs.length with h0 |h0
  ·have:xs=[]:=aqc h0;subst this;exact .inl ⟨rfl,_,_,rfl⟩
  refine .inr ⟨b,off,cap,cs,rfl,h0,hb,?_,hl,hs,h1,?_⟩
  ·have he:xs[xs.length - 1]? = some (xs[xs.length - 1]'oz):=ar7 oz;have oi:=hs _ _ he;have hc':=hu (xs.length - 1) (sz - 1) _ _ he (ar7 (show sz - 1 < _ by omega))
   have hlt:off+(xs.length-1)*sz+(sz-1)<cs.size:=by
    rcases asb (off+(xs.length-1)*sz+(sz-1)) cs.size with h |h
    ·exact h
    ·rw[arv h]at hc';cases hc'
   have:xs.length*sz=(xs.length-1)*sz+sz:=by
    rw[<- ape];congr 1;omega
   omega
  ·intro i j e c v he hc hv;have:=hu i j e c he hc;rw[this]at hv;cases hv
   exact hr i j e c he hc
theorem LU{g:Nat->Array ato->Prop}{S:Nat->Nat->Prop}{m:Nat->Option Nat}{w':atr}{b sz off:Nat}{es xs:List AV}{c cs aA:Array ato}{t:atp}
  (hw:w'.heap[b]?=some (.cells aA t (0,0))) (hn:(es.length+xs.length)*sz<=aA.size) (hl:es.length+xs.length<=aF)
  (hs:∀(i:Nat)(e:AV),es[i]?=some e->e.cells.length=sz) (h1:∀(i j:Nat)(e x:AV),es[i]?=some e->e.cells[j]?=some x->x.one=true)
  (hr:∀(i j:Nat)(e:AV)(u:ato)(x:AV),es[i]?=some e->e.cells[j]?=some x->c[i*sz+j]?=some u->Rep g S dO u x)
  (hs':∀(i:Nat)(e:AV),xs[i]?=some e->e.cells.length=sz) (h1':∀(i j:Nat)(e x:AV),xs[i]?=some e->e.cells[j]?=some x->x.one=true)
  (hr':∀(i j:Nat)(e:AV)(x:AV)(u:ato),xs[i]?=some e->e.cells[j]?=some x->cs[off+i*sz+j]?=some u->Rep g S dO u x)
  (ho:∀p,p<es.length*sz->aA[p]?=c[p]?) (hn':∀p,p<xs.length*sz->aA[es.length*sz+p]?=cs[off+p]?) :
  BlkRep g S m w' (some b) (.row sz (es++xs)):=by
 have split:∀(i:Nat)(e:AV),(es++xs)[i]?=some e->es[i]?=some e\/(es.length<=i/\xs[i-es.length]?=some e):=by
  intro i e he;rcases asb i es.length with h |h
  ·rw[asq h]at he;exact .inl he
  ·rw[asm h]at he;exact .inr ⟨h,he⟩
 have lt_of:∀{l:List AV}{i:Nat}{e:AV},l[i]?=some e->i<l.length:=by
  intro l i e h;rcases asb i l.length with h' |h'
  ·exact h'
  ·rw[asg h']at h;cases h
 refine .row hw (by simpa using hn) (by simpa using hl) ?_ ?_ ?_
 ·intro i e he;rcases split i e he with h |⟨_,h⟩
  ·exact hs i e h
  ·exact hs' _ e h
 ·intro i j e x he hx;rcases split i e he with h |⟨_,h⟩
  ·exact h1 i j e x h hx
  ·exact h1' _ j e x h hx
 ·intro i j e u x he hx hu;rcases split i e he with h |⟨hge,h⟩
  ·have hi:=lt_of h;have hj:=lt_of hx;rw[hs i e h]at hj;have:=oJ (sz:=sz) hi;rw[ho _ oz]at hu;exact hr i j e u x h hx hu
  ·have hi:=lt_of h;have hj:=lt_of hx;rw[hs' _ e h]at hj;have:=oJ (sz:=sz) hi
   have e1:i*sz+j=es.length*sz+((i-es.length)*sz+j):=by
    rw[<- ao0,<- an5];congr 2;omega
   rw[e1,hn' _ oz,<- ao0]at hu;exact hr' _ j e x u h hx hu
theorem zE{o:Oper}{u:Out}(hg:o.guard=none)
  (h:∀s',iC s s' u->k9 s' u->∀C m a w (next:Act->atr->Prop),C.nt=N->RelM C s' m a w->(∀m' a' w',RelM C (s'.app o.dst u) m' a' w'->next a' w') ->
   o.upon P a next (fun _ _ _=>False) ((execOp a.eval o).run P w)):Step P N R s o u:=by
 refine⟨fun s' ao bP C m a w Q next hC hr hnext=>?_⟩;rw[ate (pU hg _)];refine zT ?_;have:=h s' ao bP C m a w next hC hr hnext;unfold Oper.wp;generalize(execOp a.eval o).run P w=r at *;cases r with
 |ok n w' =>
  cases n <;> simp only[Oper.upon]at this ⊢ <;> first
   |exact this
   |exact this.mono (fun e w'' he=>by cases e <;> first |exact he |exact he.elim |(obtain⟨_,_,h⟩:=he;exact h.elim))
 |halt x w'=>cases x <;> simp only[Oper.upon]at this
end Go.Lw
namespace Go.Lw
variable{P:atq}{N:Nat}{R:Array Oper}{s:AS}{pos:String}{after:Array Edge}
theorem wc{ρ:atn->ato}{d:Option Tmp}{x y:atn}{T t:atp}{w w':atr}{v:ato}
  (h:(Builtin.append_ #[T,T] t #[ρ x,ρ y]).run P w=.ok v w') :
  (execOp ρ ⟨d,.call ⟨.builtin .append,#[x,y],#[T,T]⟩,t,pos,after,none⟩).run P w=.ok (.value v) w':=by
 simp[execOp,resolve,invoke,builtin,h]
theorem KF{T t E:atp}{ti te:TI}{w:atr}{base a:Option Addr}{len cap cap':Nat}(hT:au P T=some ti)(hk:ti.k=.slice E)(hE:au P E=some te)
  (bR:len<=cap):(Builtin.append_ #[T,T] t #[.slice base len cap,.slice a 0 cap']).run P w=.ok (.slice base len cap) w:=by
 obtain⟨d2,h3,h4,-,hu⟩:=dX hT w;obtain rfl:=i9 (h4.trans hk)
 have jX:(Builtin.firstCells te.size 0 (.slice a 0 cap')).run P w=.ok #[] w:=by
  cases a with
  |none=>exact run_firstCells_none w _ _ _ _
  |some a=>exact run_firstCells_some w _ _ a _ _ [] (by simp) (by simp)
 cases base with
 |none=>simp[Builtin.append_,h3,gd hE,Builtin.lenOf,bR,jX]
 |some b=>simp[Builtin.append_,h3,gd hE,Builtin.lenOf,bR,jX,storeCells]
theorem YO{T t E:atp}{ti te:TI}{w:atr}{b len n cap cap':Nat}{a:Addr}{c:Array ato}{t2:atp}(hT:au P T=some ti)(hk:ti.k=.slice E)(hE:au P E=some te)
  (hw:w.heap[b]?=some (.cells c t2 (0,0))) (news:List ato) (cT:news.length=n*te.size) (pp:∀(j:Nat) v,news[j]?=some v->w.cell? (a.add j)=some v)
  (jY:∀u∈news,u.oneCell'=true) (z5:len+n<=cap) (ans:len*te.size+n*te.size<=c.size) :
  (Builtin.append_ #[T,T] t #[.slice (some ⟨b,0,none⟩) len cap,.slice (some a) n cap']).run P w =
   .ok (.slice (some ⟨b,0,none⟩) (len+n) cap) { w with heap:=w.heap.setIfInBounds b (.cells (over c.toList (len*te.size) news).toArray t2 (0,0)) }:=by
 obtain⟨d2,h3,h4,-,hu⟩:=dX hT w;obtain rfl:=i9 (h4.trans hk);have jX:=run_firstCells_some (P:=P) w te.size n a n cap' _ cT pp;have cR:=A9 (P:=P) news c w (len*te.size) 0 hw (by rw[cT];omega) jY;simp only[aoy]at cR;simp[Builtin.append_,h3,gd hE,Builtin.lenOf,z5,jX,kg,cR]
theorem ab7{C:Ctx}{m:Nat->Option Nat}{a:Act}{w:atr}(hr:RelM C s m a w){b n:Nat}{c:Array ato}{t:atp}(hw:w.heap[b]?=some (.cells c t (0,0)))
  (h:Sz w b n):n<=c.size:=by
 obtain⟨c',t',f',h1,h2⟩:=h;rw[hw]at h1;cases h1;exact h2
theorem Fresh.row{d k:Nat}{z:Blk}(h:s.Fresh d)(aO:d≠k)(hz:¬z.Names d):AS.Fresh ⟨s.sl,(k,some z)::s.hp⟩ d:=by
 refine⟨?_,h.2.1,h.2.2.1,?_⟩
 ·simp only[aE,atd aO];exact h.1
 ·intro k' x hx;simp only[aE]at hx;split at hx
  ·cases hx;exact hz
  ·exact h.2.2.2 k' x hx
theorem Cw{C:Ctx}{m:Nat->Option Nat}{a:Act}{w:atr}{d k sz n:Nat}{y:Blk}{v:ato}{rt rd:List Nat}{next:Act->atr->Prop}
  (hr:RelM C ⟨s.sl,(d,some y)::(k,none)::s.hp⟩ m a w) (hd:d<C.nt)
  (hv:Rep (Im C.ext ((d,some y)::(k,none)::s.hp) m w) (Sz w) m v (.ms d sz 0 n))
  (hnext:∀m' a' w',RelM C (s.app (some d) ⟨some (.ms d sz 0 n),[(d,some y),(k,none)],rt,rd⟩) m' a' w'->next a' w'):next (a.put (some d) v) w:=by
 refine hnext m _ _ ?_;have:=hr.put d v (some (.ms d sz 0 n)) (fun z hz=>by cases hz;exact⟨asp hd hr.nt,hv⟩);simpa[AS.app,Act.put]using this
theorem aib{C:Ctx}{m:Nat->Option Nat}{a:Act}{w:atr}{d k sz:Nat}{es xs:List AV}{E:atp}{aA:Array ato}{cap:Nat}{rt rd:List Nat}{next:Act->atr->Prop}
  (hr:RelM C s m a w) (hfr:s.Fresh d) (hd:d<C.nt)
  (pi:∀(g:Nat->Array ato->Prop)(S:Nat->Nat->Prop)(m':Nat->Option Nat)(w':atr),
   (∀b cs,Im C.ext s.hp m w b cs->g b cs)->(∀b n,Sz w b n->S b n)->w'.heap[w.heap.size]?=some (.cells aA E (0,0))->BlkRep g S m' w' (some w.heap.size) (.row sz (es++xs)))
  (z6:es.length+xs.length<=cap) (a5:cap*sz<=aA.size)
  (hnext:∀m' a' w',RelM C (s.app (some d) ⟨some (.ms d sz 0 (es.length+xs.length)),[(d,some (.row sz (es++xs))),(k,none)],rt,rd⟩) m' a' w'->next a' w') :
  next (a.put (some d) (.slice (some ⟨w.heap.size,0,none⟩) (es.length+xs.length) cap)) (w.drew.alloc (.cells aA E)):=by
 have h1:=hr.drawn (w.drawn+1);have h2:=h1.alloc hfr (.cells aA E) (.row sz (es++xs)) (fun h=>h) (fun g S m' w' hg hS _ hw=>pi g S m' w' hg hS hw)
 have h3:=h2.fewer (hp':=(d,some (.row sz (es++xs)))::(k,none)::s.hp) (by
  intro k' z hz;simp only[aE]at hz ⊢;split at hz
  ·rename_i h;rw[ate h];exact hz
  ·rename_i h;rw[atd h]
   split at hz
   ·cases hz
   ·exact hz)
 refine Cw h3 hd ?_ hnext
 have:=Rep.ms (g:=Im C.ext ((d,some (.row sz (es++xs)))::(k,none)::s.hp) (fun k'=>if k'=d then some w.heap.size else m k') (w.drew.alloc (.cells aA E)))
  (S:=Sz (w.drew.alloc (.cells aA E))) (m:=fun k'=>if k'=d then some w.heap.size else m k') (k:=d) (sz:=sz) (off:=0) (len:=es.length+xs.length) (cap:=cap)
  (ate rfl) z6 ⟨aA,E,(0,0),by show(w.heap.push _)[w.heap.size]?=_;simp,by simpa using a5⟩
 simpa using this
set_option maxHeartbeats 1000000 in
theorem Qf{d k sz len:Nat}{xv:AV}{es xs:List AV}{x y:atn}{T E t:atp}{ti te:TI}
  (hx:Ev s x xv) (je:∀g S m v,Rep g S m v xv->Rep g S m v (.ms k sz 0 len)) (hk:s.blk k=some (.row sz es)) (cm:len=es.length) (hy:Ev s y (.lst sz xs)) (hT:au P T=some ti) (jG:ti.k=.slice E) (hE:au P E=some te)
  (a5:te.size=sz) (bb:(ao6 te.zero.length te.size&&aob 0 te.size&&aob 0 te.bytes)=true) (hb:(len+xs.length)*te.bytes<=140737488355328) (jg:ao6 d k=false)
  (hN:aob d N=true) :
  Step P N R s ⟨some d,.call ⟨.builtin .append,#[x,y],#[T,T]⟩,t,pos,after,none⟩
   ⟨some (.ms d sz 0 (len+xs.length)),[(d,some (.row sz (es++xs))),(k,none)],aj x++aj y,[k]⟩:=by
 refine zE rfl ?_;intro s' ao bP C m a w next hC hr hnext;subst a5;subst cm
 simp only[ar5,aoh]at bb;obtain⟨⟨bb,df⟩,l8⟩:=bb;have bb:=ar4 bb;have jg:=aor jg;rw[aoh]at hN;have dg:lk s'.hp k=some (.row te.size es):=(ao.2 k (by simp)).trans hk
 have hfr:s'.Fresh d:=by
  rcases bP d (by simp)with h |h
  ·exact atk (by simpa using h) jg
  ·exact h
 have hd:d<C.nt:=by omega
 have et:=je _ _ _ _ ((hx.agree ao (fun _ h=>ar9.2 (.inl h))).rep hr);have mW:=(hy.agree ao (fun _ h=>ar9.2 (.inr h))).rep hr;obtain⟨i,dd,z,hi,hu,hz,rfl⟩:=yZ hE;obtain⟨d2,h3,h4,-,pq⟩:=dX hT w;obtain rfl:=i9 (h4.trans jG);simp only at bb df l8 hb dg et mW hnext ⊢
 have bg:es.length+xs.length<=140737488355328:=by
  have:=ash (es.length+xs.length) (show 1<=i.bytes by omega);omega
 obtain⟨ll,iM⟩:∃ll,ll=es.length:=⟨_,rfl⟩
 rw[<- iM]at et;rcases I6 mW df with⟨rfl,a1,cap1,iN⟩ |⟨b1,off1,cap1,cs,iN,mZ,dD,TF,sr,fL,iO,a8⟩
 ·-- nothing
  generalize d8:a.eval x=u at et;cases et with
  |ms0 a0 =>
   have gk:es=[]:=aqc oz;have eW:=KF (t:=t) (w:=w) (base:=a0) (a:=a1) (len:=0) (cap:=0) (cap':=cap1) hT jG hE (ar8 _);have l9:=wc (d:=some d) (x:=x) (y:=y) (pos:=pos) (after:=after) (ρ:=a.eval) (by rw[d8,iN];exact eW);rw[l9];simp only[ap4,asu,aoy]at hnext ⊢;exact Cw (hr.rk dg hfr) hd (by rw[show es.length=0 by omega];exact .ms0 _ _ _ _) hnext
  | @ms _ _ _ _ _ cap b hm hc hS =>
   have eW:=KF (t:=t) (w:=w) (base:=some ⟨b,0*i.size,none⟩) (a:=a1) (len:=ll) (cap:=cap) (cap':=cap1) hT jG hE hc;have l9:=wc (d:=some d) (x:=x) (y:=y) (pos:=pos) (after:=after) (ρ:=a.eval) (by rw[d8,iN];exact eW);rw[l9];simp only[ap4,asu,aoy]at hnext ⊢;subst iM;exact Cw (hr.rk dg hfr) hd (.ms (by rw[ate rfl];exact hm) hc hS) hnext
 ·-- something
  obtain⟨TG,TH,t1,f1,lw⟩:=dD;have cT:(cs.extract off1 (off1+xs.length*i.size)).toList.length=xs.length*i.size:=by simp;omega
  have pp:∀(j:Nat) v,(cs.extract off1 (off1+xs.length*i.size)).toList[j]?=some v->w.cell? ((⟨b1,off1,none⟩:Addr).add j)=some v:=by
   intro j v hj;rw[kg,tR lw];rw[arn,arp]at hj;split at hj
   ·exact hj
   ·cases hj
  have jY:∀u∈(cs.extract off1 (off1+xs.length*i.size)).toList,u.oneCell'=true:=by
   intro u hu;obtain⟨p,hp,rfl⟩:=ap5.1 hu;rw[cT]at hp;have hi':p/i.size<xs.length:=by rw[aos df];exact hp
   have he:=ar7 hi';have oi:=fL _ _ he;have mY:p%i.size<i.size:=aou _ df;have lr:=ar7 (show p%i.size<(xs[p/i.size]).cells.length by omega);have ph:p/i.size*i.size+p%i.size=p:=by rw[aog];exact aoa _ _
   have m7:cs[off1+p/i.size*i.size+p%i.size]?=some ((cs.extract off1 (off1+xs.length*i.size)).toList[p]'oz):=by
    rw[ao0,ph];simp only[Array.getElem_toList,Array.getElem_extract];exact aro oz
   exact(a8 _ _ _ _ _ he lr m7).one (iO _ _ _ _ he lr)
  have z7:∀(aA:Array ato)(base:Nat),(∀p,p<xs.length*i.size->aA[base+p]?=(cs.extract off1 (off1+xs.length*i.size)).toList[p]?) ->
    ∀p,p<xs.length*i.size->aA[base+p]?=cs[off1+p]? := by
   intro aA base h p hp;rw[h p hp,arn,arp,ate oz]
  generalize d8:a.eval x=u at et
  have Jz:∀(c:Array ato)(olds:List ato)(sCap:Nat),olds.length=es.length*i.size->(∀p,p<es.length*i.size->olds[p]?=c[p]?) ->
    (∀(i':Nat)(e:AV),es[i']?=some e->e.cells.length=i.size)->(∀(i' j:Nat)(e x:AV),es[i']?=some e->e.cells[j]?=some x->x.one=true) ->
    (∀(i' j:Nat)(e:AV)(u:ato)(x:AV),es[i']?=some e->e.cells[j]?=some x->c[i'*i.size+j]?=some u->Rep (Im C.ext s'.hp m w) (Sz w) dO u x) ->
    next (a.put (some d) (.slice (some ⟨w.heap.size,0,none⟩) (es.length+xs.length) (grownCap w (es.length+xs.length) sCap E)))
     (w.drew.alloc (.cells (olds.toArray++(cs.extract off1 (off1+xs.length*i.size)).toList.toArray++Builtin.zeroCells z.cells (grownCap w (es.length+xs.length) sCap E-(es.length+xs.length))) E)):=by
   intro c olds sCap m8 hoc gO ss ku;have JA:z.cells.size=i.size:=by rw[<- arm];exact bb
   have amw:es.length+xs.length<=grownCap w (es.length+xs.length) sCap E:=by simp only[grownCap,Question.cut];omega
   refine aib (es:=es) (xs:=xs) hr hfr hd ?_ amw ?_ hnext
   ·intro g S m' w' hg hS hw'
    refine LU (c := c) (cs := cs) (off := off1) hw' ?_ (by unfold aF; omega) gO ss (fun i' j e u x he hx hu => (ku i' j e u x he hx hu).mono hg hS (fun _ _ _ h => h)) fL iO
     (fun i' j e x u he hx hu=>(a8 i' j e x u he hx hu).mono hg hS (fun _ _ _ h=>h)) ?_ ?_
    ·simp only[art,apr,m8,cT,an5];omega
    ·intro p hp;rw[arl (by simp[m8];omega),arl (by simp[m8];omega)];simpa using hoc p hp
    ·refine z7 _ _ (fun p hp=>?_);rw[arl (by simp only[art,apr,m8,cT];omega),ari (by simp only[apr,m8];omega)];simp only[apr,m8,ap2];congr 1;omega
   ·simp only[art,apr,m8,cT,size_zeroCells,JA];rw[<- an5,<- an5];exact asl _ oz
  have TJ:∀sCap,sCap<es.length+xs.length->Builtin.nextslicecap (es.length+xs.length) sCap*i.bytes<=281474976710656:=fun sCap h=>growslice_fits h hb
  cases et with
  |ms0 a0 =>
   have gk:es=[]:=aqc oz;subst gk;have hg:=Jz #[] [] 0 (by simp) (by simp) (by simp) (by simp) (by simp);simp only[asu,aoj]at hg;cases a0 with
   |none =>
    have eW:=run_append_nil w T t E i z pq hi hz ⟨b1,off1,none⟩ xs.length cap1 _ cT pp mZ oz (by simp only[asu,aoj]at hb;omega);have l9:=wc (P:=P) (d:=some d) (x:=x) (y:=y) (pos:=pos) (after:=after) (ρ:=a.eval) (by rw[d8,iN];exact eW);rw[l9];show next _ _;simpa using hg
   |some a0 =>
    have eW := run_append_grow w T t E i z pq hi hz a0 0 0 [] (by simp) (by simp) ⟨b1, off1, none⟩ xs.length cap1 _ cT pp oz oz
     (by have:=TJ 0 (by simp;omega);simpa using this)
    have l9:=wc (P:=P) (d:=some d) (x:=x) (y:=y) (pos:=pos) (after:=after) (ρ:=a.eval) (by rw[d8,iN];exact eW);rw[l9];show next _ _;simpa using hg
  | @ms _ _ _ _ _ cap b hm hc hS =>
   subst iM;obtain⟨c,t2,hw,hn,hl,gO,ss,ku⟩:=vU hr.heap dg hm;have z6:=ab7 hr hw hS;simp only[aoj,Nat.zero_mul]at z6 d8
   by_cases z5:es.length+xs.length<=cap
   ·have Eu:(es.length + xs.length) * i.size <= c.size:=asv (asl _ z5) z6;rw [an5] at Eu;have eW:=YO (P:=P) (t:=t) hT jG hE hw _ cT pp jY z5 Eu (cap':=cap1) (len:=es.length);have l9:=wc (P:=P) (d:=some d) (x:=x) (y:=y) (pos:=pos) (after:=after) (ρ:=a.eval) (by rw [d8,iN]; exact eW);rw [l9]
    have bU:(over c.toList (es.length*i.size) (cs.extract off1 (off1+xs.length*i.size)).toList).toArray.size=c.size:=by
     simp only[apr];rw[vD _ _ _ (by rw[cT];simp;omega)];simp
    have fy:=hr.write (x':=.row i.size (es++xs)) dg hm hw bU rfl (by
     intro g S hg hS hw'
     refine LU (c := c) (cs := cs) (off := off1) hw' (by rw [bU, an5]; omega) (by unfold aF; omega) gO ss (fun i' j e u x he hx hu => (ku i' j e u x he hx hu).mono hg hS (fun _ _ _ h => h)) fL iO
      (fun i' j e x u he hx hu=>(a8 i' j e x u he hx hu).mono hg hS (fun _ _ _ h=>h)) ?_ ?_
     ·intro p hp;rw[ap2,kZ _ _ _ (by rw[cT];simp;omega),ate hp,arn]
     ·refine z7 _ _ (fun p hp=>?_);rw[ap2,kZ _ _ _ (by rw[cT];simp;omega),atd oz,ate (by rw[cT];omega)];congr 1;omega)
    have sw:=fy.rk (k:=k) (d:=d) (y:=.row i.size (es++xs)) (by simp[aE]) (Fresh.row hfr jg (fun h=>h))
    have pu:RelM C ⟨s'.sl,(d,some (.row i.size (es++xs)))::(k,none)::s'.hp⟩ (fun k'=>if k'=d then m k else m k') a
      { w with heap:=w.heap.setIfInBounds b (.cells (over c.toList (es.length*i.size) (cs.extract off1 (off1+xs.length*i.size)).toList).toArray t2 (0,0)) }:=by
     refine RelM.congr ?_ ?_ sw
     ·intro t;rfl
     intro k';simp only[AS.blk,aE];split
     ·rfl
     ·split <;> rfl
    refine Cw pu hd ?_ hnext
    have:=Rep.ms (g:=Im C.ext ((d,some (.row i.size (es++xs)))::(k,none)::s'.hp) (fun k'=>if k'=d then m k else m k')
      { w with heap:=w.heap.setIfInBounds b (.cells (over c.toList (es.length*i.size) (cs.extract off1 (off1+xs.length*i.size)).toList).toArray t2 (0,0)) })
     (S:=Sz { w with heap:=w.heap.setIfInBounds b (.cells (over c.toList (es.length*i.size) (cs.extract off1 (off1+xs.length*i.size)).toList).toArray t2 (0,0)) })
     (m:=fun k'=>if k'=d then m k else m k') (k:=d) (sz:=i.size) (off:=0) (len:=es.length+xs.length) (cap:=cap) (b:=b)
     (by rw [ate rfl]; exact hm) z5 ⟨_, t2, (0, 0), by
      show(w.heap.setIfInBounds b _)[b]?=_;rw[ark,ate rfl,ate (CL hw)],by rw[bU,aoj];exact z6⟩
    simpa using this
   ·have TL : (c.extract 0 (es.length * i.size)).toList.length = es.length * i.size := by simp; omega
    have hg:=Jz c (c.extract 0 (es.length*i.size)).toList cap TL (by
     intro p hp;rw[arn,arp,ate oz,aoj]) gO ss ku
    have eW:=run_append_grow w T t E i z pq hi hz ⟨b,0,none⟩ es.length cap (c.extract 0 (es.length*i.size)).toList TL (by
     intro j v hj;rw[kg,tR hw];rw[arn,arp]at hj;split at hj
     ·simpa using hj
     ·cases hj) ⟨b1,off1,none⟩ xs.length cap1 _ cT pp oz oz (TJ cap oz)
    have l9:=wc (P:=P) (d:=some d) (x:=x) (y:=y) (pos:=pos) (after:=after) (ρ:=a.eval) (by rw[d8,iN];exact eW);rw[l9];exact hg
theorem eQ{d k sz len:Nat}{es xs:List AV}{x y:atn}{T E t:atp}{ti te:TI}
  (hx:Ev s x (.ms k sz 0 len)) (hk:s.blk k=some (.row sz es)) (cm:len=es.length) (hy:Ev s y (.lst sz xs)) (hT:au P T=some ti) (jG:ti.k=.slice E) (hE:au P E=some te)
  (a5:te.size=sz) (bb:(ao6 te.zero.length te.size&&aob 0 te.size&&aob 0 te.bytes)=true) (hb:(len+xs.length)*te.bytes<=140737488355328) (jg:ao6 d k=false)
  (hN:aob d N=true) :
  Step P N R s ⟨some d,.call ⟨.builtin .append,#[x,y],#[T,T]⟩,t,pos,after,none⟩
   ⟨some (.ms d sz 0 (len+xs.length)),[(d,some (.row sz (es++xs))),(k,none)],aj x++aj y,[k]⟩ :=
 Qf hx (fun _ _ _ _ h=>h) hk cm hy hT jG hE a5 bb hb jg hN
end Go.Lw
namespace Go.Lw
variable{P:atq}{N:Nat}{R:Array Oper}{s:AS}{pos:String}{after:Array Edge}
def yO(P:atq)(f:FuncId):Prop:=∀args w,(callFunc f args).run P w=.ok (.enter f args) w
theorem VL {f : FuncId} {fn : Func} {c : Code} (hf : P.funcs[f]? = some fn) (hb : fn.body = some c) (hn : (fn.name == "runtime.NumGoroutine") = false) : yO P f := by
 intro args w;have hn' : ¬ fn.name = "runtime.NumGoroutine" := by simpa using hn
 simp[callFunc,hf,hb,hn']
structure Con(P:atq)(f:FuncId)(args:List AV)(H:Hp)(r:AV)(H':Hp):Prop where
  ok:yO P f
  ret:ady P f args H r H'
abbrev kU(P:atq)(f:FuncId)(args:List AV)(r:AV):Prop:=Con P f args [] r []
theorem Sq{ρ:atn->ato}{o:Oper}{f:FuncId}{args:Array atn}{ts:Array atp}{w:atr}{vs:Array ato}(ho:o.op=.call ⟨.value (.func f),args,ts⟩)
  (hρ:ρ (.func f)=.func (.func f) #[] #[]) (bm:yO P f) (cV:args.map ρ=vs):(execOp ρ o).run P w=.ok (.enter f vs) w:=by
 subst cV;have:=bm (args.map ρ) w;obtain⟨dst,op,type,pos,after,guard⟩:=o;subst ho;simp[execOp,resolve,hρ,Deferred.ofValue,invoke,this]
theorem SB{ρ:atn->ato}{o:Oper}{g:atn}{f:FuncId}{caps:Array ato}{args:Array atn}{ts:Array atp}{w:atr}{vs:Array ato}(ho:o.op=.call ⟨.value g,args,ts⟩)
  (hρ:ρ g=.func (.func f) #[] caps) (bm:yO P f) (cV:args.map ρ++caps=vs):(execOp ρ o).run P w=.ok (.enter f vs) w:=by
 subst cV;have:=bm (args.map ρ++caps) w;obtain⟨dst,op,type,pos,after,guard⟩:=o;subst ho;simp[execOp,resolve,hρ,Deferred.ofValue,invoke,this]
def jM(H:Hp)(k:Nat):Bool:=match lk H k with |some _=>true |none=>false
theorem jW{H:Hp}{k:Nat}:jM H k=true↔∃z,lk H k=some z:=by
 unfold jM;cases lk H k <;> simp
def xz(r:AV)(H':Hp):Bool :=
  (r.nm.all fun k=>jM H' k)&&H'.all fun p=>match p.2 with |some x=>x.nm.all fun k=>jM H' k |none=>true
def cU(H:Hp):Hp:=H.map fun p=>(p.1,none)
theorem Vw(H:Hp)(k:Nat):lk (cU H) k=none:=by
 induction H with
 |nil=>rfl
 |cons p H ih =>
  obtain⟨k',x⟩:=p;simp only[cU,atb,aE];split
  ·rfl
  ·exact ih
theorem lX{H:Hp}{k:Nat}{z:Blk}(h:lk H k=some z):k∈H.map (·.1):=aqd.2 ⟨_,sj h,rfl⟩
theorem RelM.called{C:Ctx}{m:Nat->Option Nat}{a:Act}{w:atr}(hr:RelM C s m a w){run:Array ato->atr->(Ending->atr->Prop)->Prop}(amx:∀vs w R R',run vs w R->(∀e w',R e w'->R' e w')->run vs w R'){xs:List AV}{H H':Hp}{r:AV}(dh:I4 run xs H r H'){vs:Array ato}
  (cV:vs.size=xs.length) (db:∀(j:Nat) v x,vs[j]?=some v->xs[j]?=some x->Rep (Im C.ext s.hp m w) (Sz w) m v x)
  (hH:∀k z,lk H k=some z->lk s.hp k=some z) (bP:∀k z,lk H' k=some z->(∃y,lk H k=some y)\/s.Fresh k)
  (hHk:∀k∈H.map (·.1),jM H k=true) (hnm:xz r H'=true) :
  run vs w fun e w'=>∃v m'',e=.returned v/\RelM C ⟨s.sl,H'++cU H++s.hp⟩ m'' a w'/\Rep (Im C.ext (H'++cU H++s.hp) m'' w') (Sz w') m'' v r /\
   ∀k y z,lk H k=some y->lk H' k=some z->m'' k=m k:=by
 simp only[xz,ar5,asd]at hnm;obtain⟨amy,amz⟩:=hnm
 let ext':Nat->Prop:=fun b=>C.ext b\/∃k z,lk s.hp k=some z/\lk H k=none/\m k=some b
 have dZ:∀b,aW H m b->aW s.hp m b:=fun b ⟨k,z,h1,h2⟩=>⟨k,z,hH k z h1,h2⟩
 have dD:∀b cs,Im C.ext s.hp m w b cs->Im ext' H m w b cs:=by
  rintro b cs ⟨h1,h2,h3⟩;refine⟨?_,fun h=>h2 (dZ b h),h3⟩;rintro(h |⟨k,z,hk,_,hb⟩)
  ·exact h1 h
  ·exact h2 ⟨k,z,hk,hb⟩
 have ch:HeapRel ext' H m w:=by
  refine⟨?_,?_,?_⟩
  ·intro k z hk;exact BlkRep.mono (w:=w) dD (fun _ _ h=>h) (fun _ _ _ h=>h) rfl (fun _ _=>rfl) (hr.heap.blk k z (hH k z hk))
  ·intro k k' z z' b h1 h2;exact hr.heap.inj k k' z z' b (hH _ _ h1) (hH _ _ h2)
  ·intro k z b hk hb;have:=hr.heap.sep k z b (hH k z hk) hb;refine⟨?_,this.2⟩;rintro(h |⟨k2,z2,cg,m9,bg⟩)
   ·exact this.1 h
   ·have:=hr.heap.inj k k2 z z2 b (hH k z hk) cg hb bg;subst this;rw[hk]at m9;cases m9
 have JB:∀b,ext' b->b<w.heap.size:=by
  rintro b (h |⟨k,z,hk,_,hb⟩)
  ·exact hr.ext_lt h
  ·exact(hr.heap.sep k z b hk hb).2
 refine amx _ _ _ _ (dh ext' m w vs JB ch cV (fun j v x h1 h2=>(db j v x h1 h2).mono dD (fun _ _ h=>h) (fun _ _ _ h=>h))) ?_;rintro e w' ⟨v,m',rfl,hf,hh',ux,uy,aV⟩
 have ant:∀k,k∈(cU H).map (·.1)->jM H k=true:=by
  intro k hk;apply hHk;simpa[cU]using hk
 have ck:∀k z,lk (H'++cU H++s.hp) k=some z->lk H' k=some z\/(jM H' k=false/\lk H k=none/\lk s.hp k=some z):=by
  intro k z hz;rw[atc,mj]at hz;split at hz
  ·exact .inl hz
  ·rename_i h1
   have ha:jM H' k=false:=by
    cases h:jM H' k with
    |false=>rfl
    |true=>obtain⟨z',hz'⟩:=jW.1 h;exact atk (lX hz') h1
   rw[mj]at hz;split at hz
   ·rw[Vw]at hz;cases hz
   ·rename_i h2;refine .inr ⟨ha,?_,hz⟩;cases h:lk H k with
    |none=>rfl
    |some y=>exact atk (by simpa[cU]using lX h) h2
 let m'':Nat->Option Nat:=fun k=>if jM H' k=true then m' k else m k
 have iz:∀k,jM H' k=true->m'' k=m' k:=fun k h=>ate h
 have lA:∀k,jM H' k=false->m'' k=m k:=fun k h=>atd (by simp[h])
 have TM:∀(k:Nat) b,¬s.Fresh k->m k=some b->m'' k=some b:=by
  intro k b hnf hb;cases h:jM H' k with
  |false=>rw[lA k h];exact hb
  |true =>
   rw[iz k h];obtain⟨z,hz⟩:=jW.1 h;rcases bP k z hz with⟨y,hy⟩ |hfr
   ·rw[uy k y z hy hz];exact hb
   ·exact atk hfr hnf
 have hf':Frame (aW s.hp m) w w':=⟨hf.os,hf.tape,hf.output,hf.size,hf.sz,fun b hb hn=>hf.keep b hb (fun h=>hn (dZ b h))⟩
 have bG:∀k z b,lk (H'++cU H++s.hp) k=some z->m'' k=some b->aW s.hp m b\/w.heap.size<=b:=by
  intro k z b hz hb;rcases ck k z hz with h |⟨h1,h2,h3⟩
  ·rw[iz k (jW.2 ⟨z,h⟩)]at hb;rcases ux k z b h hb with h' |h'
   ·exact .inl (dZ b h')
   ·exact .inr h'
  ·rw[lA k h1]at hb;exact .inl ⟨k,z,h3,hb⟩
 have TN:∀b cs,Im ext' H' m' w' b cs->Im C.ext (H'++cU H++s.hp) m'' w' b cs:=by
  rintro b cs ⟨h1,h2,h3⟩;refine⟨fun h=>h1 (.inl h),?_,h3⟩;rintro⟨k,z,hz,hb⟩;rcases ck k z hz with h |⟨g1,g2,g3⟩
  ·rw[iz k (jW.2 ⟨z,h⟩)]at hb;exact h2 ⟨k,z,h,hb⟩
  ·rw[lA k g1]at hb;exact h1 (.inr ⟨k,z,g3,g2,hb⟩)
 refine⟨v,m'',rfl,hr.update hf' ?_ bG ?_ ⟨?_,?_,?_⟩,aV.mono TN (fun _ _ h=>h) ?_,fun k y z hy hz=>by rw[iz k (jW.2 ⟨z,hz⟩)];exact uy k y z hy hz⟩
 ·intro t x k b hx hn hb;exact TM k b (fun hfr=>hfr.2.2.1 t x hx hn) hb
 ·intro k z qw hz;rcases ck k z hz with h |⟨h1,h2,h3⟩
  ·rcases bP k z h with⟨y,hy⟩ |hfr
   ·exact⟨⟨y,hH k y hy⟩,by rw[iz k (jW.2 ⟨z,h⟩)];exact uy k y z hy h⟩
   ·have:=hfr.2.1;omega
  ·exact⟨⟨z,h3⟩,lA k h1⟩
 ·intro k z hz;rcases ck k z hz with h |⟨h1,h2,h3⟩
  ·rw[iz k (jW.2 ⟨z,h⟩)];refine BlkRep.mono (w:=w') TN (fun _ _ h=>h) ?_ rfl (fun _ _=>rfl) (hh'.blk k z h);intro k2 b hn hb;have:=amz _ (sj h);simp only[asd]at this;rw[iz k2 (this k2 hn.mem)];exact hb
  ·rw[lA k h1];refine BlkRep.mono (w:=w) (f0 hf' bG) hf.sz ?_ rfl ?_ (hr.heap.blk k z h3)
   ·intro k2 b hn hb;exact TM k2 b (fun hfr=>hfr.2.2.2 k z h3 hn) hb
   ·intro b hb;refine hf.keep b (hr.heap.sep k z b h3 hb).2 ?_;rintro⟨k2,z2,cg,bg⟩;have:=hr.heap.inj k k2 z z2 b h3 (hH k2 z2 cg) hb bg;subst this;rw[h2]at cg;cases cg
 ·intro k1 k2 z1 z2 b h1 h2 bM bg;rcases ck k1 z1 h1 with e |⟨e1,e2,e3⟩ <;> rcases ck k2 z2 h2 with g |⟨g1,g2,g3⟩
  ·rw[iz k1 (jW.2 ⟨z1,e⟩)]at bM;rw[iz k2 (jW.2 ⟨z2,g⟩)]at bg
   exact hh'.inj k1 k2 z1 z2 b e g bM bg
  ·rw[iz k1 (jW.2 ⟨z1,e⟩)]at bM;rw[lA k2 g1]at bg
   exact atk (.inr ⟨k2,z2,g3,g2,bg⟩) (hh'.sep k1 z1 b e bM).1
  ·rw[lA k1 e1]at bM;rw[iz k2 (jW.2 ⟨z2,g⟩)]at bg
   exact atk (.inr ⟨k1,z1,e3,e2,bM⟩) (hh'.sep k2 z2 b g bg).1
  ·rw[lA k1 e1]at bM;rw[lA k2 g1]at bg
   exact hr.heap.inj k1 k2 z1 z2 b e3 g3 bM bg
 ·intro k z b hz hb;rcases ck k z hz with h |⟨h1,h2,h3⟩
  ·rw[iz k (jW.2 ⟨z,h⟩)]at hb;have:=hh'.sep k z b h hb;exact⟨fun hc=>this.1 (.inl hc),this.2⟩
  ·rw[lA k h1]at hb;have:=hr.heap.sep k z b h3 hb;exact⟨this.1,asp this.2 hf.size⟩
 ·intro k b hn hb;rw[iz k (amy k hn.mem)];exact hb
end Go.Lw
namespace Go.Lw
variable{P:atq}{N:Nat}{R:Array Oper}{s:AS}{pos:String}{after:Array Edge}
def g9(s:AS)(H H':Hp)(r:AV):Bool:=(H.all fun p=>jM H p.1)&&xz r H'
theorem xQ{o:Oper}{f:FuncId}{xs:List AV}{H H':Hp}{r:AV}{rt:List Nat}{x:Option AV}(hg:o.guard=none)(hd:∀d,o.dst=some d->aob d N=true/\x=some r)
  (dh:Con P f xs H r H') (hH:∀k z,lk H k=some z->s.blk k=some z) (bm:g9 s H H' r=true)
  (h:∀s',(∀t∈rt,s'.get t=s.get t)->∀C m a w,RelM C s' m a w->∃vs:Array ato,(execOp a.eval o).run P w=.ok (.enter f vs) w/\vs.size=xs.length /\
   ∀(j:Nat) v x,vs[j]?=some v->xs[j]?=some x->Rep (Im C.ext s'.hp m w) (Sz w) m v x) :
  Step P N R s o ⟨x,H'++cU H,rt,H.map (·.1)⟩:=by
 refine zE hg ?_;intro s' ao bP C m a w next hC hr hnext;simp only[g9,ar5,asd]at bm;obtain⟨uz,z8⟩:=bm;obtain⟨vs,h1,h2,h3⟩:=h s' ao.1 C m a w hr;rw[h1]
 have hc := hr.called (run := Calls P f) (fun _ _ _ _ h h' => Calls.mono h h') dh.ret h2 h3 (fun k z hz => by rw [<- hH k z hz]; exact ao.2 k (lX hz)) (by
  intro k z hz;rcases bP k (by simp only[asz,ar9];exact .inl (lX hz))with h |h
  ·obtain⟨p,hp,rfl⟩:=aqd.1 h;exact .inl (jW.1 (uz p hp))
  ·exact .inr h) (by
  intro k hk;obtain⟨p,hp,rfl⟩:=aqd.1 hk;exact uz p hp) z8
 refine Calls.mono hc ?_;rintro e w' ⟨v,m'',rfl,hr',aV,_⟩;cases JC:o.dst with
 |none =>
  refine hnext m'' _ _ ?_;simpa[AS.app,JC,Act.put]using hr'
 |some d =>
  obtain⟨hN,rfl⟩:=hd d JC;rw[aoh]at hN;refine hnext m'' _ _ ?_;have:=hr'.put d v (some r) (fun z hz=>by cases hz;exact⟨by have:=hr'.nt;omega,aV⟩);simpa[AS.app,JC,Act.put]using this
theorem aG{d f:Nat}{args:Array atn}{ts:Array atp}{xs:List AV}{H H':Hp}{r:AV}{t:atp}
  (dh:Con P f xs H r H') (ha:EvL s args.toList xs) (hH:∀k z,lk H k=some z->s.blk k=some z) (bm:g9 s H H' r=true) (hN:aob d N=true) :
  Step P N R s ⟨some d,.call ⟨.value (.func f),args,ts⟩,t,pos,after,none⟩ ⟨some r,H'++cU H,dk args.toList,H.map (·.1)⟩ :=
 xQ rfl (fun d' h => by cases h; exact ⟨hN, rfl⟩) dh hH bm fun s' ao C m a w hr => by
  have ha':=ha.agree (u:=⟨none,[],dk args.toList,[]⟩) ⟨ao,fun k hk=>by cases hk⟩ (fun _ h=>h);refine⟨args.map a.eval,Sq rfl rfl dh.ok rfl,?_,?_⟩
  ·have:=ha'.length;simpa using this
  ·intro j v x hv hx;exact ha'.rep hr j v x (by simpa using hv) hx
theorem aav{f:Nat}{args:Array atn}{ts:Array atp}{xs:List AV}{H H':Hp}{r:AV}{t:atp}
  (dh:Con P f xs H r H') (ha:EvL s args.toList xs) (hH:∀k z,lk H k=some z->s.blk k=some z) (bm:g9 s H H' r=true) :
  Step P N R s ⟨none,.call ⟨.value (.func f),args,ts⟩,t,pos,after,none⟩ ⟨none,H'++cU H,dk args.toList,H.map (·.1)⟩ :=
 xQ rfl (fun d' h => by cases h) dh hH bm fun s' ao C m a w hr => by
  have ha':=ha.agree (u:=⟨none,[],dk args.toList,[]⟩) ⟨ao,fun k hk=>by cases hk⟩ (fun _ h=>h);refine⟨args.map a.eval,Sq rfl rfl dh.ok rfl,?_,?_⟩
  ·have:=ha'.length;simpa using this
  ·intro j v x hv hx;exact ha'.rep hr j v x (by simpa using hv) hx
theorem abf{d f:Nat}{args:Array atn}{ts:Array atp}{xs:List AV}{r:AV}{t:atp}
  (dh:kU P f xs r) (ha:EvL s args.toList xs) (hnm:r.nm=[]) (hN:aob d N=true) :
  Step P N R s ⟨some d,.call ⟨.value (.func f),args,ts⟩,t,pos,after,none⟩ ⟨some r,[],dk args.toList,[]⟩ :=
 aG dh ha (fun k z h=>by cases h) (by simp[g9,xz,hnm]) hN
theorem PV{d f:Nat}{g:atn}{args:Array atn}{ts:Array atp}{xs caps:List AV}{H H':Hp}{r:AV}{t:atp}
  (hg:Ev s g (.fn f caps)) (dh:Con P f (xs++caps) H r H') (ha:EvL s args.toList xs) (hH:∀k z,lk H k=some z->s.blk k=some z) (bm:g9 s H H' r=true) (hN:aob d N=true) :
  Step P N R s ⟨some d,.call ⟨.value g,args,ts⟩,t,pos,after,none⟩ ⟨some r,H'++cU H,aj g++dk args.toList,H.map (·.1)⟩ :=
 xQ rfl (fun d' h => by cases h; exact ⟨hN, rfl⟩) dh hH bm fun s' ao C m a w hr => by
  have kv:iC s s' ⟨none,[],aj g++dk args.toList,[]⟩:=⟨ao,fun k hk=>by cases hk⟩
  have ha':=ha.agree kv (fun _ h=>ar9.2 (.inr h));have jh:=(hg.agree kv (fun _ h=>ar9.2 (.inl h))).rep hr;generalize hv:a.eval g=u at jh;cases jh with
  | @fn _ _ cvs _ hn aV =>
   have hl:=ha'.length;refine⟨args.map a.eval++cvs,SB rfl hv dh.ok rfl,by simp[hn];simpa using hl,?_⟩;intro j v x hv hx;rcases asb j xs.length with h |h
   ·rw[asq h]at hx;rw[arl (by simp;simp at hl;omega)]at hv;exact ha'.rep hr j v x (by simpa using hv) hx
   ·rw[asm h]at hx;rw[ari (by simp;simp at hl;omega)]at hv;refine aV (j-xs.length) v x ?_ hx;rw[<- hv];congr 1;simp at hl ⊢;omega
inductive ResV(P:atq)(s:AS):ResultVar->AV->Prop
  |tmp {t:Nat} {x:AV} (h:s.get t=some x):ResV P s (.tmp t) x
  |cell {t k:Nat} {cs:List AV} {T:atp} {ti:TI} (h:s.get t=some (.ptr k 0)) (hk:s.blk k=some (.box cs)) (hT:au P T=some ti)
      (bR:Nat.ble ti.size cs.length=true) (h1:(ti.ag||ao6 ti.size 1)=true):ResV P s (.cell t T) (lJ ti.ag (cs.take ti.size))
inductive ResL(P:atq)(s:AS):List ResultVar->List AV->Prop
  |nil:ResL P s [] []
  |cons {r:ResultVar} {x:AV} {rs:List ResultVar} {xs:List AV} (h:ResV P s r x) (hs:ResL P s rs xs):ResL P s (r::rs) (x::xs)
def d7:List AV->AV
  |[x]=>x
  |xs=>.tup xs
def BH(tmps:Array ato):ResultVar->Sem ato
  | .tmp t=>pure (tmps.getD t undef)
  | .cell a t=>do loadVar t (<- asAddr (tmps.getD a undef))
theorem amh(fn:Func)(tmps:Array ato) :
  results fn tmps=(fn.results.mapM (BH tmps) >>= fun vs=>pure (if h:vs.size=1 then vs[0]else .tuple vs)):=by
 unfold results;congr 2
theorem ResV.run{x:AV}{r:ResultVar}(h:ResV P s r x){C:Ctx}{m:Nat->Option Nat}{a:Act}{w:atr}(hr:RelM C s m a w) :
  ∃v,(BH a.tmps r).run P w=.ok v w/\Rep (Im C.ext s.hp m w) (Sz w) m v x:=by
 cases h with
 |tmp h=>exact⟨_,rfl,(hr.slots _ _ h).2⟩
 | @cell t k cs T ti h hk hT bR h1 =>
  rw[an7]at bR;have h1:ti.ag=true\/ti.size=1:=by simpa using h1
  obtain⟨b,hm,hv⟩:=wY hr (Ev.tmp h);obtain⟨c,t2,hw,hn,ho,aV⟩:=B6 hr.heap hk hm;have hv':a.tmps.getD t undef=.pointer (some ⟨b,0,none⟩):=hv;refine⟨_,by simp only[BH,hv',att,asAddr,atu,ats];exact CA hT hw (by omega:0+ti.size<=c.size) h1,?_⟩;refine Dl (c:=c) (off:=0) (n:=ti.size) (by simp;omega) oz h1 ?_ ?_
  ·intro j y hy;rw[asy]at hy;split at hy
   ·exact ho _ y hy
   ·cases hy
  ·intro j u y hy hu;rw[asy]at hy;split at hy
   ·exact aV _ u y (by simpa using hu) hy
   ·cases hy
theorem Y1{g:Nat->Array ato->Prop}{S:Nat->Nat->Prop}{m:Nat->Option Nat}:∀(vs:List ato)(xs:List AV),vs.length=xs.length ->
  (∀(j:Nat) v x,vs[j]?=some v->xs[j]?=some x->Rep g S m v x) ->
  Rep g S m (if h:vs.toArray.size=1 then vs.toArray[0]else .tuple vs.toArray) (d7 xs)
 |[],[],_,_=>by simp[d7];exact .tup rfl (by simp)
 |[v],[x],_,h=>by simp[d7];exact h 0 v x rfl rfl
 |v::v'::vs,x::x'::xs,h2,h=>by
  simp[d7];exact .tup (by simpa using h2) (fun j u c hu hc=>h j u c (by simpa using hu) hc)
theorem aix{fn:Func}{rs:List ResultVar}{xs:List AV}(TO:fn.results=rs.toArray)(h:ResL P s rs xs){C:Ctx}{m:Nat->Option Nat}{a:Act}{w:atr}(hr:RelM C s m a w) :
  ∃v,(results fn a.tmps).run P w=.ok v w/\Rep (Im C.ext s.hp m w) (Sz w) m v (d7 xs):=by
 have key:∃vs:List ato,(rs.mapM (BH a.tmps)).run P w=.ok vs w /\
   vs.length=xs.length/\∀(j:Nat) v x,vs[j]?=some v->xs[j]?=some x->Rep (Im C.ext s.hp m w) (Sz w) m v x:=by
  clear TO
  induction h with
  |nil=>exact⟨[],by simp,rfl,by simp⟩
  |cons h1 _ ih =>
   obtain⟨v,h2,h3⟩:=h1.run hr;obtain⟨vs,h4,h5,h6⟩:=ih;refine⟨v::vs,by simp only[List.mapM_cons,att,h2,ats,h4,atu],by simp[h5],?_⟩;intro j v' x hv hx;cases j with
   |zero=>simp at hv hx;subst hv;subst hx;exact h3
   |succ j=>exact h6 j v' x (by simpa using hv) (by simpa using hx)
 obtain⟨vs,h1,h2,h3⟩:=key;refine⟨_,?_,Y1 vs xs h2 h3⟩;rw[amh,TO,arx];simp only[att,Sem.run_map,h1,ats,atu]
def aD(s:AS)(x:AV)(r:AV)(H':Hp):Prop :=
  ∀ext m w v,HeapRel ext s.hp m w->(∀b,ext b->b<w.heap.size)->Rep (Im ext s.hp m w) (Sz w) m v x ->
    ∃m',HeapRel ext H' m' w/\(∀k z b,lk H' k=some z->m' k=some b->aW s.hp m b)/\(∀k z,1000<=k->lk H' k=some z->(∃y,lk s.hp k=some y)/\m' k=m k) /\
      Rep (Im ext H' m' w) (Sz w) m' v r
def ql(P:atq)(rs:List ResultVar)(r:AV)(H':Hp):Exit->AS->Prop
  | .normal,s | .ret,s=>∃xs,ResL P s rs xs/\aD s (d7 xs) r H'
  |_,_=>False
def pS:Nat->List AV->bN
  |_,[]=>[]
  |n,x::xs=>(n,some x)::pS (n+1) xs
theorem Rx:∀(xs:List AV)(n t:Nat)(x:AV),lk (pS n xs) t=some x->n<=t/\xs[t-n]?=some x
 |[],n,t,x,h=>by simp[pS,lk]at h
 |y::ys,n,t,x,h=>by
  simp only[pS,aE]at h;split at h
  ·cases h;subst_vars;simp
  ·obtain⟨h1,h2⟩:=Rx ys (n+1) t x h;refine⟨by omega,?_⟩;rw[show t-n=(t-(n+1))+1 by omega,List.getElem?_cons_succ];exact h2
theorem RelM.unmark{C:Ctx}{m:Nat->Option Nat}{a:Act}{w:atr}(h:RelM C s m a w){D:Nat}{l:List Deferred}(h1:C.w0.heap.size<=D)(h2:w.heap[D]?=some (.deferred (some [])))
  (hl:vd C.w0.heap.size l (w.putObj D (.deferred none))):RelM C s m { a with defers:=l } (w.putObj D (.deferred none)):=by
 have hlt:=h.heap.lt h2;have JD:∀b,b≠D->(w.putObj D (.deferred none)).heap[b]?=w.heap[b]? := fun b hb=>World.putObj_heap_other hb
 have hc:∀(b:Nat)(cs:Array ato)(t:atp)(f:Nat×Nat),w.heap[b]?=some (Obj.cells cs t f)->(w.putObj D (.deferred none)).heap[b]?=some (Obj.cells cs t f):=fun b cs t f hb=>by
  rw[JD b (fun e=>by rw[e,h2]at hb;cases hb)];exact hb
 have dD:∀b cs,Im C.ext s.hp m w b cs->Im C.ext s.hp m (w.putObj D (.deferred none)) b cs:=fun b cs ⟨e1,e2,t,f,e3⟩=>⟨e1,e2,t,f,hc _ _ _ _ e3⟩
 have a5:∀b n,Sz w b n->Sz (w.putObj D (.deferred none)) b n:=fun b n ⟨c,t,f,e1,e2⟩=>⟨c,t,f,hc _ _ _ _ e1,e2⟩
 refine⟨fun t x hx=>⟨(h.slots t x hx).1,(h.slots t x hx).2.mono dD a5 (fun _ _ _ h=>h)⟩,⟨?_,h.heap.inj,fun k x b hk hb=>⟨(h.heap.sep k x b hk hb).1,by simpa[World.putObj]using(h.heap.sep k x b hk hb).2⟩⟩,?_,h.new,h.keep,hl,h.nt⟩
 ·intro k x hk;refine BlkRep.mono dD a5 (fun _ _ _ h=>h) rfl (fun b hb=>JD b (fun e=>?_)) (h.heap.blk k x hk);subst e;exact h.heap.cells hk hb h2
 ·refine⟨h.frame.os,h.frame.tape,h.frame.output,by simpa[World.putObj]using h.frame.size,fun b n hs => a5 b n (h.frame.sz b n hs),fun b hb hn => ?_⟩;rw[JD b oz];exact h.frame.keep b hb hn
theorem Ov{C:Ctx}{fn:Func}{n:Nat}{R:Ending->atr->Prop}(hR:∀m a w,a.defers=[]->RelM C s m a w->∃v,(results fn a.tmps).run P w=.ok v w/\R (.returned v) w) :
  ∀(Ds:List Nat)(m:Nat->Option Nat)(a:Act)(w:atr),a.defers=Ds.map vl->Ds.Nodup->(∀D∈Ds,C.w0.heap.size<=D/\w.heap[D]?=some (.deferred (some [])))->RelM C s m a w ->
   LeavesInM Fence.wide n P fn a.tmps R a.defers .returning w
 |[],m,a,w,ha,hn,hD,h=>by
  have hn:a.defers=[]:=ha;rw[hn];exact hR m a w hn h
 |D::Ds,m,a,w,ha,hn,hD,h=>by
  obtain⟨h1,h2⟩:=hD D (as2 ..);rw[ha];refine⟨by simp,.inl ⟨D,_,rfl,run_takeDeferred h2,?_⟩⟩;obtain⟨cE,hn'⟩:=List.nodup_cons.1 hn
  have hD':∀D'∈Ds,C.w0.heap.size<=D'/\(w.putObj D (.deferred none)).heap[D']?=some (.deferred (some [])):=fun D' hm=>by
   obtain⟨g1,g2⟩:=hD D' (ass _ hm);have aO:D'≠D:=fun e=>cE (by rw[<- e];exact hm)
   exact⟨g1,by rw[World.putObj_heap_other aO];exact g2⟩
  exact Ov hR Ds m { a with defers:=Ds.map vl } _ rfl hn' hD' (h.unmark h1 h2 ⟨Ds,rfl,hn',hD'⟩)
theorem Q0{f:FuncId}{fn:Func}{c:Code}{rs:List ResultVar}{args:List AV}{H:Hp}{r:AV}{H':Hp}(hf:P.funcs[f]?=some fn)(hb:fn.body=some c)
    (hn : (fn.name == "runtime.NumGoroutine") = false) (hrs : fn.results = rs.toArray) (hN : fn.ntmps = N) (hH : ∀ k z, lk H k = some z -> 1000 <= k)
    (h:mS P N c (ql P rs r H') ⟨pS 0 args,H⟩):Con P f args H r H':=by
  refine⟨VL hf hb hn,?_⟩;intro ext m w vs hext ch cV db;refine(callsIn_wide (n:=0)).1 (callsIn_of_wp_marks hf hb trivial ?_ rfl)
  let C:Ctx:=⟨w,ext,aW H m,m,N,hext,none⟩
  have ku:RelM C ⟨pS 0 args,H⟩ m { tmps:=vs++arh (fn.ntmps-vs.size) undef,defers:=[] } w:=by
    refine⟨?_,ch,Frame.refl _ _,fun k x b h1 h2=>.inl ⟨k,x,h1,h2⟩,fun _ _ _ _=>rfl,vd.nil _ _,?_⟩
    · intro t x hx
      obtain⟨_,h2⟩:=Rx args 0 t x hx;simp only[Nat.sub_zero]at h2
      have ht:t<args.length:=by
        rcases asb t args.length with h |h
        · exact h
        · rw[asg h]at h2;cases h2
      have ht':t<vs.size:=by omega
      refine⟨by simp;omega,?_⟩
      have:(vs++arh (fn.ntmps-vs.size) undef).getD t undef=vs[t]:=by
        rw[asc,arl ht',aro ht'];rfl
      simp only[this];exact db t vs[t] x (aro ht') h2
    · show N<=_
      simp;omega
  refine wpIn_mono (h C m _ w 0 rfl rfl ku) ?_;rintro e a' w' ⟨s',m',hq,hr⟩
  have xa:∀(xs:List AV),ResL P s' rs xs->aD s' (d7 xs) r H'->LeavesInM Fence.wide 0 P fn a'.tmps (fun e w'=>∃v' m'',e=Ending.returned v'/\Frame (aW H m) w w'/\HeapRel ext H' m'' w' /\
        (∀k x b,lk H' k=some x->m'' k=some b->aW H m b\/w.heap.size<=b)/\(∀k x y,lk H k=some x->lk H' k=some y->m'' k=m k) /\
        Rep (Im ext H' m'' w') (Sz w') m'' v' r) a'.defers .returning w':=by
    intro xs hx lg;obtain⟨Ds,e1,e2,e3⟩:=hr.defers;refine Ov (C:=C) (s:=s') (fun m1 a1 w1 _ a8=>?_) Ds m' a' w' e1 e2 e3 hr;obtain⟨v,h1,h2⟩:=aix hrs hx a8;obtain⟨m'',h3,h4,h5,h6⟩:=lg ext m1 w1 v a8.heap (fun b hb=>a8.ext_lt hb) h2;refine⟨v,h1,v,m'',rfl,a8.frame,h3,?_,?_,h6⟩
    · intro k z b hk hb
      obtain⟨k2,z2,cg,bg⟩:=h4 k z b hk hb;exact a8.new k2 z2 b cg bg
    · intro k z y hk hy
      obtain⟨⟨y',hy'⟩,h8⟩:=h5 k y (hH k z hk) hy;rw[h8];exact a8.keep k y' (hH k z hk) hy'
  cases e with
  |normal =>
    obtain⟨xs,h1,h2⟩:=hq;exact xa xs h1 h2
  |ret =>
    obtain⟨xs,h1,h2⟩:=hq;exact xa xs h1 h2
  |_=>exact hq.elim
theorem Jp{f:FuncId}{fn:Func}{c:Code}{rs:List ResultVar}{args:List AV}{H:Hp}{r:AV}{H':Hp}(hf:P.funcs[f]?=some fn)(hb:fn.body=some c)
  (hn : (fn.name == "runtime.NumGoroutine") = false) (hrs : fn.results = rs.toArray) (hN : fn.ntmps = N) (hH : ∀ k z, lk H k = some z -> 1000 <= k)
  (h:bC P N c (ql P rs r H') ⟨pS 0 args,H⟩):Con P f args H r H':=Q0 hf hb hn hrs hN hH h.out
end Go.Lw
