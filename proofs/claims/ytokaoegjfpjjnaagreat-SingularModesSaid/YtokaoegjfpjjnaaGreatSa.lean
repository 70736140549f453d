/- SingularModes: for any linkage and any turns the law returns true and leaves its arguments as they were. No other condition. Part 1 of 8: what the later parts need -/
import Derived.Calls
import Derived.Below
import Derived.Laws.Sem
import Derived.Laws.Cells
import Derived.Laws.Append
import Derived.Laws.Rows
import Derived.OrdersIn
import Derived.RangeFuncLeaves
import Derived.RangeFuncRecord
import Derived.Orders
import Derived.IntWalk
import Derived.Laws.AppendOwn
set_option linter.unusedVariables false
open List (foldl_cons nil_append)
open List renaming mem_of_getElem? → aap, mem_cons_of_mem → abt, mem_append → aa2, map_cons → ab2, mem_cons → abd, length_cons → aa4, mem_cons_self → abr, length_append → abi, length_nil → abg, getD_eq_getElem?_getD → aaq, getElem?_append_left → aa9, getElem?_eq_none → aa5, all_eq_true → aa3, getElem?_take → abj, getElem?_drop → abv, getElem?_map → aav, append_assoc → abu, getElem?_append_right → aa6, getElem?_eq_getElem → aat, drop_eq_nil_of_le → abm, getElem?_replicate → abl, append_nil → ab3, map_append → abf, size_toArray → YY, getElem?_toArray → YZ, mem_range → Y3, cons_append → Y4, replicate → Y6, mem_map → Y8, mem_singleton → Za, mem_iff_getElem → Zb, all_cons → Zj, eq_nil_of_length_eq_zero → Zv, mem_filter → Zw, any_eq_true → Zz
open Nat renaming eq_of_beq_eq_true → aax, le_refl → aau, lt_of_lt_of_le → aba, lt_or_ge → aay, le_trans → abe, mul_le_mul_right → abh, mul_le_mul_left → aaz, eq_zero_or_pos → X8, blt → X9, div_add_mod → Yc, mod_lt → Ye, zero_add → Yf, add_comm → Yh, mul_comm → Yn, add_assoc → Yr, add_zero → Ys, mod_eq_of_lt → Yz, div_lt_iff_lt_mul → YA, blt_eq → YB, ne_of_beq_eq_false → YD, add_mul → YH, mul_pos → YJ, beq → YQ, ble_eq → YS, succ_mul → YT
open Option renaming map_eq_some_iff → aas, map_some → aam, getD_some → aan
open Bool renaming and_eq_true → aaw, or_eq_true → abz, false_eq_true → ZX, not_eq_true' → Z2
open Array renaming getD_eq_getD_getElem? → aa1, getElem?_toList → Z5, mapM_eq_mapM_toList → Z6, replicate → Z7, getElem?_eq_getElem → Z8, all_eq_true_iff_forall_mem → Z9, getElem?_append_right → aaa, length_toList → aab, size_append → aac, getElem?_setIfInBounds → aad, getElem?_append_left → aae, getElem?_replicate → aag, toList_setIfInBounds → aah, getElem?_push → aaj, getElem?_extract → aak, getElem?_eq_none → aal
open Go renaming Operand → acf, Value → acg, TypeId → ach, Program → aci, World → acj
namespace Go.Lw
abbrev pP{a:Type}(k:Nat)(v:a):Nat×Option a:=(k,some v)
theorem ab5{c:Prop}{h:Decidable c}(n:¬c){α:Sort _}{t e:α}:ite c t e=e:=if_neg n
theorem ab6{c:Prop}{h:Decidable c}(n:c){α:Sort _}{t e:α}:ite c t e=t:=if_pos n
theorem ab7{p:Prop}[Decidable p]:(decide p=true)=p:=decide_eq_true_eq
theorem ab8{p:Prop}[Decidable p](n:decide p=true):p:=of_decide_eq_true n
theorem ab9{p:Prop}[Decidable p](n:decide p=false):¬p:=of_decide_eq_false n
theorem aca{p:Prop}[Decidable p](n:p):decide p=true:=decide_eq_true n
theorem acb{p:Prop}[Decidable p](n:¬p):decide p=false:=decide_eq_false n
theorem acc{a b:Prop}(h:a)(n:¬a):b:=absurd h n
theorem acd{α β:Sort _}{x y:α}(f:α→β)(h:x=y):f x=f y:=congrArg f h
abbrev ace{α:Sort _}(i:α:=by infer_instance):α:=i
theorem oz{p:Prop}(h:p:=by omega):p:=h
abbrev LL:=List (List Rat)
inductive AV where
  |v (x:acg)
  |lst (sz:Nat) (es:List AV)
  |agg (cs:List AV)
  |tup (xs:List AV)
  |iptr (cs:List AV)
  |ms (k sz off len:Nat)
  |ptr (k off:Nat)
  |eptr (k sz i off:Nat)
  |fn (f:FuncId) (caps:List AV)
  |opt (b:Bool) (x:AV)
  |yl (k:Nat)
  |cl (f:FuncId) (pre caps:List AV)
  deriving Inhabited
abbrev nS:AV:=.v (.slice none 0 0)
def AV.cells:AV->List AV
  | .agg cs=>cs
  |x=>[x]
def AV.one:AV->Bool
  | .v x=>x.oneCell'
  | .agg _ | .tup _ | .opt _ _=>false
  |_=>true
abbrev bc:Nat:=281474976710656
abbrev dA:Nat->Option Nat:=fun _=>none
inductive Rep(g:Nat->Array acg->Prop)(S:Nat->Nat->Prop):(Nat->Option Nat)->acg->AV->Prop
  |v {m:Nat->Option Nat} (x:acg):Rep g S m x (.v x)
  |lst0 {m:Nat->Option Nat} (a:Option Addr) (cap sz:Nat):Rep g S m (.slice a 0 cap) (.lst sz [])
  |lst {m:Nat->Option Nat} {b off cap sz:Nat} {es:List AV} {cs:Array acg} (u:Nat->Nat->acg)
      (hb:g b cs) (hc:es.length<=cap) (hl:es.length<=bc) (hs:∀(i:Nat)(e:AV),es[i]?=some e->e.cells.length=sz)
      (h1:∀(i j:Nat)(e c:AV),es[i]?=some e->e.cells[j]?=some c->c.one=true)
      (hu:∀(i j:Nat)(e c:AV),es[i]?=some e->e.cells[j]?=some c->cs[off+i*sz+j]?=some (u i j))
      (hr:∀(i j:Nat)(e c:AV),es[i]?=some e->e.cells[j]?=some c->Rep g S dA (u i j) c) :
      Rep g S m (.slice (some ⟨b,off,none⟩) es.length cap) (.lst sz es)
  |agg {m:Nat->Option Nat} {vs:Array acg} {cs:List AV} (hn:vs.size=cs.length)
      (h1:∀(j:Nat)(c:AV),cs[j]?=some c->c.one=true)
      (hr:∀(j:Nat)(u:acg)(c:AV),vs[j]?=some u->cs[j]?=some c->Rep g S m u c):Rep g S m (.agg vs) (.agg cs)
  |tup {m:Nat->Option Nat} {vs:Array acg} {xs:List AV} (hn:vs.size=xs.length)
      (hr:∀(j:Nat)(u:acg)(c:AV),vs[j]?=some u->xs[j]?=some c->Rep g S m u c):Rep g S m (.tuple vs) (.tup xs)
  |iptr {m:Nat->Option Nat} {b off:Nat} {cs:Array acg} {xs:List AV} (u:Nat->acg)
      (hb:g b cs) (h1:∀(j:Nat)(c:AV),xs[j]?=some c->c.one=true)
      (hu:∀(j:Nat)(c:AV),xs[j]?=some c->cs[off+j]?=some (u j))
      (hr:∀(j:Nat)(c:AV),xs[j]?=some c->Rep g S dA (u j) c):Rep g S m (.pointer (some ⟨b,off,none⟩)) (.iptr xs)
  |ms0 {m:Nat->Option Nat} (a:Option Addr) (k sz off:Nat):Rep g S m (.slice a 0 0) (.ms k sz off 0)
  |ms {m:Nat->Option Nat} {k sz off len cap b:Nat} (hm:m k=some b) (hc:len<=cap) (hS:S b ((off+cap)*sz)) :
      Rep g S m (.slice (some ⟨b,off*sz,none⟩) len cap) (.ms k sz off len)
  |ptr {m:Nat->Option Nat} {k off b:Nat} (hm:m k=some b):Rep g S m (.pointer (some ⟨b,off,none⟩)) (.ptr k off)
  |eptr {m:Nat->Option Nat} {k sz i off b:Nat} (hm:m k=some b):Rep g S m (.pointer (some ⟨b,i*sz+off,none⟩)) (.eptr k sz i off)
  |fn {m:Nat->Option Nat} {f:FuncId} {vs:Array acg} {xs:List AV} (hn:vs.size=xs.length)
      (hr:∀(j:Nat)(u:acg)(c:AV),vs[j]?=some u->xs[j]?=some c->Rep g S m u c):Rep g S m (.func (.func f) #[] vs) (.fn f xs)
  |opt {m:Nat->Option Nat} {x:acg} {b:Bool} {y:AV} (h:b=true->Rep g S m x y) (h':b=false->x=undef):Rep g S m x (.opt b y)
  |yl {m:Nat->Option Nat} {k b:Nat} (hm:m k=some b):Rep g S m (.func (.yield b) #[] #[]) (.yl k)
  |cl {m:Nat->Option Nat} {f:FuncId} {vs us:Array acg} {xs ys:List AV} (hn:vs.size=xs.length)
      (hr:∀(j:Nat)(u:acg)(c:AV),vs[j]?=some u->xs[j]?=some c->Rep g S dA u c) (hn':us.size=ys.length)
      (hr':∀(j:Nat)(u:acg)(c:AV),us[j]?=some u->ys[j]?=some c->Rep g S dA u c):Rep g S m (.func (.func f) vs us) (.cl f xs ys)
inductive AV.Names:AV->Nat->Prop
  |ms (k sz off len:Nat):AV.Names (.ms k sz off len) k
  |ptr (k off:Nat):AV.Names (.ptr k off) k
  |eptr (k sz i off:Nat):AV.Names (.eptr k sz i off) k
  |agg {cs:List AV} {c:AV} {k:Nat} (h:c∈cs) (hc:AV.Names c k):AV.Names (.agg cs) k
  |tup {cs:List AV} {c:AV} {k:Nat} (h:c∈cs) (hc:AV.Names c k):AV.Names (.tup cs) k
  |fn {f:FuncId} {cs:List AV} {c:AV} {k:Nat} (h:c∈cs) (hc:AV.Names c k):AV.Names (.fn f cs) k
  |opt {b:Bool} {c:AV} {k:Nat} (hc:AV.Names c k):AV.Names (.opt b c) k
  |yl (k:Nat):AV.Names (.yl k) k
theorem Rep.mono{g g':Nat->Array acg->Prop}{S S':Nat->Nat->Prop}(hg:∀b cs,g b cs->g' b cs)
  (hS:∀b n,S b n->S' b n) {m:Nat->Option Nat} {v:acg} {x:AV} (h:Rep g S m v x) :
  ∀{m':Nat->Option Nat},(∀k b,x.Names k->m k=some b->m' k=some b)->Rep g' S' m' v x:=by
 induction h with
 |v x=>intro m' _;exact .v x
 |lst0 a cap sz=>intro m' _;exact .lst0 a cap sz
 |lst u hb hc hl hs h1 hu hr ih =>
  intro m' _;exact .lst u (hg _ _ hb) hc hl hs h1 hu (fun i j e c he hc=>ih i j e c he hc (fun k b _ h=>h))
 |agg hn h1 hr ih =>
  intro m' hm;exact .agg hn h1 (fun j u c hu hc=>ih j u c hu hc (fun k b hk=>hm k b (.agg (aap hc) hk)))
 |tup hn hr ih =>
  intro m' hm;exact .tup hn (fun j u c hu hc=>ih j u c hu hc (fun k b hk=>hm k b (.tup (aap hc) hk)))
 |iptr u hb h1 hu hr ih =>
  intro m' _;exact .iptr u (hg _ _ hb) h1 hu (fun j c hc=>ih j c hc (fun k b _ h=>h))
 |ms0 a k sz off=>intro m' _;exact .ms0 a k sz off
 |ms h hc hs=>intro m' hm;exact .ms (hm _ _ (.ms _ _ _ _) h) hc (hS _ _ hs)
 |ptr h=>intro m' hm;exact .ptr (hm _ _ (.ptr _ _) h)
 |eptr h=>intro m' hm;exact .eptr (hm _ _ (.eptr _ _ _ _) h)
 |fn hn hr ih =>
  intro m' hm;exact .fn hn (fun j u c hu hc=>ih j u c hu hc (fun k b hk=>hm k b (.fn (aap hc) hk)))
 |opt h h' ih=>intro m' hm;exact .opt (fun hb=>ih hb (fun k b hk=>hm k b (.opt hk))) h'
 |yl h=>intro m' hm;exact .yl (hm _ _ (.yl _) h)
 |cl hn hr hn' hr' ih ih' =>
  intro m' hm
  exact .cl hn (fun j u c hu hc=>ih j u c hu hc (fun k b _ h=>h))
   hn' (fun j u c hu hc=>ih' j u c hu hc (fun k b _ h=>h))
theorem Rep.one{g:Nat->Array acg->Prop}{S:Nat->Nat->Prop}{m:Nat->Option Nat}{v:acg}{x:AV}
  (h:Rep g S m v x) (h1:x.one=true):v.oneCell'=true:=by
 cases h <;> simp_all [AV.one,Value.oneCell']
theorem Rep.cells{g:Nat->Array acg->Prop}{S:Nat->Nat->Prop}{m:Nat->Option Nat}{v:acg}{x:AV}
  (h:Rep g S m v x) (hx:(∃cs,x=.agg cs)\/x.one=true) :
  v.cells.size=x.cells.length/\(∀(j:Nat)(c:AV),x.cells[j]?=some c->c.one=true) /\
   ∀(j:Nat)(u:acg)(c:AV),v.cells[j]?=some u->x.cells[j]?=some c->Rep g S m u c:=by
 rcases hx with⟨cs,rfl⟩ |hx
 ·cases h with
  |agg hn h1 hr=>exact⟨hn,h1,hr⟩
 ·have hv:=h.one hx;have e1:v.cells = #[v]:=by cases v <;> simp_all [Value.cells,Value.oneCell']
  have e2:x.cells=[x]:=by cases x <;> simp_all [AV.cells,AV.one]
  rw[e1,e2];refine⟨rfl,?_,?_⟩
  ·intro j c hc;rcases j with _ |j <;> simp at hc
   exact hc▸hx
  ·intro j u c hu hc;rcases j with _ |j <;> simp at hc hu
   exact hc▸hu▸h
def lk{α:Type}:List (Nat×Option α)->Nat->Option α
  |[],_=>none
  |(t',x)::l,t=>match YQ t t' with
    |true=>x
    |false=>lk l t
theorem aY{α:Type}(t t':Nat)(x:Option α)(l:List (Nat×Option α)):lk ((t',x)::l) t=if t=t' then x else lk l t:=by
 show(match YQ t t' with |true=>x |false=>lk l t)=_;split
 ·rename_i h;rw[ab6 (aax h)]
 ·rename_i h;rw[ab5 (YD h)]
theorem mU{α:Type}{l:List (Nat×Option α)}{t:Nat}{x:α}(h:lk l t=some x):(t,some x)∈l:=by
 induction l with
 |nil=>simp[lk]at h
 |cons y l ih =>
  obtain⟨t',y⟩:=y;rw[aY]at h;split at h
  ·subst_vars;simp
  ·exact abt _ (ih h)
structure LpD where
  params:Array Tmp
  assign:Code
  body:Code
  nt:Nat
inductive Blk where
  |box (cs:List AV)
  |row (sz:Nat) (es:List AV)
  |loop (d:LpD) (st:LoopState) (pend:Option Code) (sl:List (Nat×Option AV))
  |vec (vs:List acg)
  deriving Inhabited
inductive BlkRep(g:Nat->Array acg->Prop)(S:Nat->Nat->Prop)(m:Nat->Option Nat)(w:acj):Option Nat->Blk->Prop
  |none (sz:Nat):BlkRep g S m w none (.row sz [])
  |box {b:Nat} {cs:List AV} {c:Array acg} {t:ach} (hw:w.heap[b]?=some (.cells c t (0,0))) (hn:c.size=cs.length)
      (h1:∀(j:Nat)(x:AV),cs[j]?=some x->x.one=true)
      (hr:∀(j:Nat)(u:acg)(x:AV),c[j]?=some u->cs[j]?=some x->Rep g S m u x):BlkRep g S m w (some b) (.box cs)
  |row {b sz:Nat} {es:List AV} {c:Array acg} {t:ach} (hw:w.heap[b]?=some (.cells c t (0,0))) (hn:es.length*sz<=c.size)
      (hl:es.length<=bc)
      (hs:∀(i:Nat)(e:AV),es[i]?=some e->e.cells.length=sz)
      (h1:∀(i j:Nat)(e x:AV),es[i]?=some e->e.cells[j]?=some x->x.one=true)
      (hr:∀(i j:Nat)(e:AV)(u:acg)(x:AV),es[i]?=some e->e.cells[j]?=some x->c[i*sz+j]?=some u->Rep g S dA u x) :
      BlkRep g S m w (some b) (.row sz es)
  |loop {b:Nat} {r:Loop} {d:LpD} {st:LoopState} {pend:Option Code} {sl:List (Nat×Option AV)} (hw:w.heap[b]?=some (.loop r)) (hst:r.state=st) (hpe:r.pending=pend)
      (hps:r.params=d.params) (has:r.assign=d.assign) (hbo:r.body=d.body) (hnt:d.nt<=r.tmps.size)
      (hr:∀(t:Nat)(x:AV),lk sl t=some x->t<r.tmps.size/\Rep g S m (r.tmps.getD t undef) x):BlkRep g S m w (some b) (.loop d st pend sl)
  |vec {b:Nat} {vs:List acg} {c:Array acg} {t:ach} (hw:w.heap[b]?=some (.cells c t (0,0))) (hc:c.toList=vs) (h1:∀v∈vs,v.oneCell'=true):BlkRep g S m w (some b) (.vec vs)
def Blk.Names(k:Nat):Blk->Prop
  | .box cs=>∃c∈cs,c.Names k
  | .row _ _=>False
  | .loop _ _ _ sl=>∃t x,(t,some x)∈sl/\x.Names k
  | .vec _=>False
theorem BlkRep.mono{g g':Nat->Array acg->Prop}{S S':Nat->Nat->Prop}{m m':Nat->Option Nat}{w w':acj}{o o':Option Nat}{x:Blk}
  (hg:∀b cs,g b cs->g' b cs) (hS:∀b n,S b n->S' b n) (hm:∀k b,x.Names k->m k=some b->m' k=some b)
  (ho:o'=o) (hw:∀b,o=some b->w'.heap[b]?=w.heap[b]?)
  (h:BlkRep g S m w o x):BlkRep g' S' m' w' o' x:=by
 subst ho;cases h with
 |none sz=>exact .none sz
 |box h hn h1 hr =>
  refine .box ((hw _ rfl).trans h) hn h1 (fun j u x hu hx=>(hr j u x hu hx).mono hg hS (fun k b hk=>hm k b ⟨x,aap hx,hk⟩))
 |row h hn hl hs h1 hr =>
  refine .row ((hw _ rfl).trans h) hn hl hs h1 (fun i j e u x he hx hu=>(hr i j e u x he hx hu).mono hg hS (fun k b _ h=>h))
 |loop h h1 h2 h3 h4 h5 hn hr =>
  refine .loop ((hw _ rfl).trans h) h1 h2 h3 h4 h5 hn (fun t x hx=>⟨(hr t x hx).1,(hr t x hx).2.mono hg hS (fun k b hk=>hm k b ⟨t,x,mU hx,hk⟩)⟩)
 |vec h hc h1=>exact .vec ((hw _ rfl).trans h) hc h1
mutual
def AV.nm:AV->List Nat
  | .ms k _ _ _=>[k]
  | .ptr k _=>[k]
  | .eptr k _ _ _=>[k]
  | .agg cs=>AV.nms cs
  | .tup xs=>AV.nms xs
  | .fn _ xs=>AV.nms xs
  | .opt _ x=>x.nm
  | .yl k=>[k]
  |_=>[]
def AV.nms:List AV->List Nat
  |[]=>[]
  |x::l=>x.nm++AV.nms l
end
theorem AV.mem_nms{l:List AV}{c:AV}{k:Nat}(hc:c∈l)(hk:k∈c.nm):k∈AV.nms l:=by
 induction l with
 |nil=>cases hc
 |cons x l ih =>
  simp only[AV.nms,aa2];rcases abd.1 hc with rfl |hc
  ·exact .inl hk
  ·exact .inr (ih hc)
theorem AV.Names.mem{x:AV}{k:Nat}(h:x.Names k):k∈x.nm:=by
 induction h with
 |ms=>simp[AV.nm]
 |ptr=>simp[AV.nm]
 |eptr=>simp[AV.nm]
 |agg h _ ih=>exact AV.mem_nms h ih
 |tup h _ ih=>exact AV.mem_nms h ih
 |fn h _ ih=>exact AV.mem_nms h ih
 |opt _ ih=>exact ih
 |yl=>simp[AV.nm]
def B6(sl:List (Nat×Option AV)):List Nat:=sl.flatMap fun p=>match p.2 with |some x=>x.nm |none=>[]
def Blk.nm:Blk->List Nat
  | .box cs=>AV.nms cs
  | .row _ _=>[]
  | .loop _ _ _ sl=>B6 sl
  | .vec _=>[]
theorem Blk.Names.mem{x:Blk}{k:Nat}(h:x.Names k):k∈x.nm:=by
 cases x with
 |box cs=>obtain⟨c,hc,hk⟩:=h;exact AV.mem_nms hc hk.mem
 |row sz es=>exact h.elim
 |vec vs=>exact h.elim
 |loop d st pe sl =>
  obtain⟨t,c,hc,hk⟩:=h;exact List.mem_flatMap.2 ⟨_,hc,hk.mem⟩
end Go.Lw
namespace Go.Lw
abbrev cE:=List (Nat×Option AV)
abbrev Hp:=List (Nat×Option Blk)
theorem oc{α:Type}(u l:List (Nat×Option α))(t:Nat):lk (u++l) t=if t∈u.map (·.1)then lk u t else lk l t:=by
 induction u with
 |nil=>simp
 |cons x u ih =>
  obtain⟨t',x⟩:=x;simp only[Y4,aY,ih,ab2,abd]
  by_cases h:t=t'
  ·simp[h]
  ·rw[ab5 h]
   by_cases h2:t∈u.map (·.1)
   ·rw[ab6 h2,ab6 (.inr h2),ab5 h]
   ·rw[ab5 h2,ab5 (by simp only[h,h2,or_self,not_false_eq_true])]
structure AS where
  sl:cE
  hp:Hp
def AS.get(s:AS)(t:Nat):Option AV:=lk s.sl t
def AS.blk(s:AS)(k:Nat):Option Blk:=lk s.hp k
def bf(hp:Hp)(m:Nat->Option Nat)(b:Nat):Prop:=∃k x,lk hp k=some x/\m k=some b
def Im(ext:Nat->Prop)(hp:Hp)(m:Nat->Option Nat)(w:acj)(b:Nat)(cs:Array acg):Prop :=
  ¬ext b/\¬bf hp m b/\∃t f,w.heap[b]?=some (.cells cs t f)
def Sz(w:acj)(b n:Nat):Prop:=∃c t f,w.heap[b]?=some (.cells c t f)/\n<=c.size
structure HeapRel(ext:Nat->Prop)(hp:Hp)(m:Nat->Option Nat)(w:acj):Prop where
  blk:∀k x,lk hp k=some x->BlkRep (Im ext hp m w) (Sz w) m w (m k) x
  inj:∀k k' x x' b,lk hp k=some x->lk hp k'=some x'->m k=some b->m k'=some b->k=k'
  sep:∀k x b,lk hp k=some x->m k=some b->¬ext b/\b<w.heap.size
structure Frame(own:Nat->Prop)(w w':acj):Prop where
  os:w'.os=w.os
  tape:w'.tape=w.tape
  output:w'.output=w.output
  size:w.heap.size<=w'.heap.size
  sz:∀b n,Sz w b n->Sz w' b n
  keep:∀b,b<w.heap.size->¬own b->w'.heap[b]?=w.heap[b]?
theorem Frame.refl(own:Nat->Prop)(w:acj):Frame own w w:=⟨rfl,rfl,rfl,aau _,fun _ _ h=>h,fun _ _ _=>rfl⟩
def Ad(run:Array acg->acj->(Ending->acj->Prop)->Prop)(args:List AV)(H:Hp)(r:AV)(H':Hp):Prop :=
  ∀(ext:Nat->Prop)(m:Nat->Option Nat)(w:acj)(vs:Array acg),(∀b,ext b->b<w.heap.size)->HeapRel ext H m w ->
    vs.size=args.length->(∀(j:Nat) v x,vs[j]?=some v->args[j]?=some x->Rep (Im ext H m w) (Sz w) m v x) ->
    run vs w fun e w'=>∃v m',e=.returned v/\Frame (bf H m) w w'/\HeapRel ext H' m' w' /\
      (∀k x b,lk H' k=some x->m' k=some b->bf H m b\/w.heap.size<=b) /\
      (∀k x y,lk H k=some x->lk H' k=some y->m' k=m k) /\
      Rep (Im ext H' m' w') (Sz w') m' v r
def QO(P:aci)(f:FuncId)(args:List AV)(H:Hp)(r:AV)(H':Hp):Prop:=Ad (Calls P f) args H r H'
structure Ctx where
  w0:acj
  ext:Nat->Prop
  own0:Nat->Prop
  m0:Nat->Option Nat
  nt:Nat
  hext:∀b,ext b->b<w0.heap.size
  ro:Option Nat:=none
def Fw(ro:Option Nat):Fence:={ Fence.wide with round:=ro }
def qI(D:Nat):Deferred:={ target:=.collected D,args:=#[] }
def qW(b0:Nat)(l:List Deferred)(w:acj):Prop:=∃Ds:List Nat,l=Ds.map qI/\Ds.Nodup/\∀D∈Ds,b0<=D/\w.heap[D]?=some (.deferred (some []))
theorem qW.nil(b0:Nat)(w:acj):qW b0 [] w:=⟨[],rfl,List.nodup_nil,fun D h=>by cases h⟩
structure RelM(C:Ctx)(s:AS)(m:Nat->Option Nat)(a:Act)(w:acj):Prop where
  slots:∀t x,s.get t=some x->t<a.tmps.size/\Rep (Im C.ext s.hp m w) (Sz w) m (a.tmps.getD t undef) x
  heap:HeapRel C.ext s.hp m w
  frame:Frame C.own0 C.w0 w
  new:∀k x b,lk s.hp k=some x->m k=some b->C.own0 b\/C.w0.heap.size<=b
  keep:∀k x,1000<=k->lk s.hp k=some x->m k=C.m0 k
  defers:qW C.w0.heap.size a.defers w
  nt:C.nt<=a.tmps.size
def AS.Fresh(s:AS)(k:Nat):Prop :=
  lk s.hp k=none/\k<1000/\(∀t x,s.get t=some x->¬x.Names k)/\(∀k' x,lk s.hp k'=some x->¬x.Names k)
theorem HeapRel.lt{ext:Nat->Prop}{hp:Hp}{m:Nat->Option Nat}{w:acj}(_:HeapRel ext hp m w){b:Nat}{o:Obj}(h:w.heap[b]?=some o):b<w.heap.size:=(Array.getElem?_eq_some_iff.1 h).1
theorem HeapRel.cells{ext:Nat->Prop}{hp:Hp}{m:Nat->Option Nat}{w:acj}(h:HeapRel ext hp m w){k b:Nat}{x:Blk}(hk:lk hp k=some x)(hb:m k=some b){o:Option (List Deferred)}(ho:w.heap[b]?=some (.deferred o)):False:=by
 have:=h.blk k x hk;rw[hb]at this;cases this with
 |box hw=>rw[ho]at hw;cases hw
 |row hw=>rw[ho]at hw;cases hw
 |loop hw=>rw[ho]at hw;cases hw
 |vec hw=>rw[ho]at hw;cases hw
theorem RelM.ext_lt{C:Ctx}{s:AS}{m:Nat->Option Nat}{a:Act}{w:acj}(h:RelM C s m a w){b:Nat}(hb:C.ext b):b<w.heap.size :=
 aba (C.hext b hb) h.frame.size
theorem RelM.update{C:Ctx}{s:AS}{m:Nat->Option Nat}{a:Act}{w:acj}(h:RelM C s m a w){w':acj}{m':Nat->Option Nat}{hp':Hp}
  (hf:Frame (bf s.hp m) w w')
  (hm:∀t x k b,s.get t=some x->x.Names k->m k=some b->m' k=some b)
  (hal:∀k x b,lk hp' k=some x->m' k=some b->bf s.hp m b\/w.heap.size<=b)
  (hkp:∀k x,1000<=k->lk hp' k=some x->(∃y,lk s.hp k=some y)/\m' k=m k)
  (hh:HeapRel C.ext hp' m' w'):RelM C ⟨s.sl,hp'⟩ m' a w':=by
 refine⟨?_,hh,?_,?_,fun k x h1 h2=>by obtain⟨⟨y,hy⟩,h4⟩:=hkp k x h1 h2;exact h4.trans (h.keep k y h1 hy),?_,h.nt⟩
 ·intro t x hx;obtain⟨h1,h2⟩:=h.slots t x hx;refine⟨h1,h2.mono ?_ hf.sz (fun k b hk=>hm t x k b hx hk)⟩;rintro b cs ⟨he,ho,t',f',hb⟩
  have hlt:b<w.heap.size:=by
   rcases aay b w.heap.size with h |h
   ·exact h
   ·simp[aal h]at hb
  refine⟨he,?_,t',f',(hf.keep b hlt ho).trans hb⟩;rintro⟨k,y,hk,hkb⟩;rcases hal k y b hk hkb with h' |h'
  ·exact ho h'
  ·omega
 ·refine⟨hf.os.trans h.frame.os,hf.tape.trans h.frame.tape,hf.output.trans h.frame.output,abe h.frame.size hf.size,fun b n hs=>hf.sz b n (h.frame.sz b n hs),?_⟩;intro b hb ho;rw[hf.keep b (aba hb h.frame.size) ?_,h.frame.keep b hb ho];rintro⟨k,x,hk,hkb⟩;rcases h.new k x b hk hkb with h' |h'
  ·exact ho h'
  ·omega
 ·intro k x b hk hkb;rcases hal k x b hk hkb with⟨k2,y,hk2,hkb2⟩ |h'
  ·exact h.new k2 y b hk2 hkb2
  ·exact .inr (abe h.frame.size h')
 ·obtain⟨Ds,e,hn,hD⟩:=h.defers;refine⟨Ds,e,hn,fun D hm=>?_⟩;obtain⟨h1,h2⟩:=hD D hm;refine⟨h1,(hf.keep D (h.heap.lt h2) ?_).trans h2⟩;rintro⟨k,x,hk,hkb⟩;exact h.heap.cells hk hkb h2
theorem fm{ext:Nat->Prop}{hp hp':Hp}{m m':Nat->Option Nat}{w w':acj}(hf:Frame (bf hp m) w w')
  (hal:∀k x b,lk hp' k=some x->m' k=some b->bf hp m b\/w.heap.size<=b) :
  ∀b cs,Im ext hp m w b cs->Im ext hp' m' w' b cs:=by
 rintro b cs ⟨he,ho,t',f',hb⟩
 have hlt:b<w.heap.size:=by
  rcases aay b w.heap.size with h |h
  ·exact h
  ·simp[aal h]at hb
 refine⟨he,?_,t',f',(hf.keep b hlt ho).trans hb⟩;rintro⟨k,y,hk,hkb⟩;rcases hal k y b hk hkb with h' |h'
 ·exact ho h'
 ·omega
theorem RelM.put{C:Ctx}{s:AS}{m:Nat->Option Nat}{a:Act}{w:acj}(h:RelM C s m a w)(d:Nat)(v:acg)(x:Option AV)
  (hx:∀y,x=some y->d<a.tmps.size/\Rep (Im C.ext s.hp m w) (Sz w) m v y) :
  RelM C ⟨(d,x)::s.sl,s.hp⟩ m { a with tmps:=a.tmps.setIfInBounds d v } w:=by
 refine⟨?_,h.heap,h.frame,h.new,h.keep,h.defers,by simpa using h.nt⟩;intro t y hy;simp only[AS.get,aY]at hy
 by_cases ht:t=d
 ·subst ht;rw[ab6 rfl]at hy;obtain⟨h1,h2⟩:=hx y hy;refine⟨by simpa using h1,?_⟩;simpa[aa1,aad,h1]using h2
 ·rw [ab5 ht] at hy;obtain ⟨h1,h2⟩:=h.slots t y hy;refine ⟨by simpa using h1,?_⟩
  have:(a.tmps.setIfInBounds d v).getD t undef=a.tmps.getD t undef:=by
   simp only[aa1,aad];rw[ab5 oz]
  simpa[this]using h2
theorem Sz.alloc{w:acj}{o:Obj}{b n:Nat}(h:Sz w b n):Sz { w with heap:=w.heap.push o } b n:=by
 obtain⟨c,t,f,hb,hn⟩:=h;refine⟨c,t,f,?_,hn⟩
 have hlt:b<w.heap.size:=by
  rcases aay b w.heap.size with h |h
  ·exact h
  ·simp[aal h]at hb
 show(w.heap.push o)[b]?=_;rw[aaj,ab5 oz,hb]
theorem C0(own:Nat->Prop)(w:acj)(o:Obj):Frame own w { w with heap:=w.heap.push o }:=by
 refine⟨rfl,rfl,rfl,by simp,fun b n h=>h.alloc,?_⟩;intro b hb _;show(w.heap.push o)[b]?=_;rw[aaj,ab5 oz]
theorem O4(own:Nat->Prop)(w:acj)(n:Nat):Frame own w { w with drawn:=n } :=
 ⟨rfl,rfl,rfl,aau _,fun _ _ h=>h,fun _ _ _=>rfl⟩
theorem Frame.trans{own own':Nat->Prop}{w w' w'':acj}(h:Frame own w w')(h':Frame own' w' w'')
  (ho:∀b,b<w.heap.size->own' b->own b):Frame own w w'' :=
 ⟨h'.os.trans h.os,h'.tape.trans h.tape,h'.output.trans h.output,abe h.size h'.size,fun b n hs=>h'.sz b n (h.sz b n hs),
  fun b hb hn=>(h'.keep b (aba hb h.size) (fun hc=>hn (ho b hb hc))).trans (h.keep b hb hn)⟩
theorem RelM.alloc{C:Ctx}{s:AS}{m:Nat->Option Nat}{a:Act}{w:acj}(h:RelM C s m a w){k:Nat}(hk:s.Fresh k)(o:Obj)(x:Blk)
  (hx:¬x.Names k) (hxr:∀(g:Nat->Array acg->Prop)(S:Nat->Nat->Prop)(m':Nat->Option Nat)(w':acj),
   (∀b cs,Im C.ext s.hp m w b cs->g b cs)->(∀b n,Sz w b n->S b n)->(∀k' b,k'≠k->m k'=some b->m' k'=some b) ->
   w'.heap[w.heap.size]?=some o->BlkRep g S m' w' (some w.heap.size) x) :
  RelM C ⟨s.sl,(k,some x)::s.hp⟩ (fun k'=>if k'=k then some w.heap.size else m k') a { w with heap:=w.heap.push o }:=by
 have hlk:∀k' y,lk ((k,some x)::s.hp) k'=some y->k'≠k->lk s.hp k'=some y:=by
  intro k' y hy hne;rw[aY,ab5 hne]at hy;exact hy
 have hown:∀k' y b,lk s.hp k'=some y->m k'=some b->b<w.heap.size:=fun k' y b h1 h2=>(h.heap.sep k' y b h1 h2).2
 have hf:=C0 (bf s.hp m) w o
 have hal:∀k' y b,lk ((k,some x)::s.hp) k'=some y->(if k'=k then some w.heap.size else m k')=some b->bf s.hp m b\/w.heap.size<=b:=by
  intro k' y b hy hb
  by_cases hne:k'=k
  ·rw[ab6 hne]at hb;cases hb;exact .inr (aau _)
  ·rw[ab5 hne]at hb;exact .inl ⟨k',y,hlk k' y hy hne,hb⟩
 refine h.update hf ?_ hal ?_ ⟨?_,?_,?_⟩
 ·intro t y k' b hy hn hb;have:k'≠k:=fun e=>hk.2.2.1 t y hy (e▸hn)
  rw[ab5 this];exact hb
 ·intro k' y h1000 hy;have hne:k' ≠ k:=fun e=>by have:=hk.2.1; omega
  exact⟨⟨y,hlk k' y hy hne⟩,by rw[ab5 hne]⟩
 ·intro k' y hy
  by_cases hne:k'=k
  ·subst hne;rw[aY,ab6 rfl]at hy;cases hy;rw[ab6 rfl];refine hxr _ _ _ _ (fm hf hal) hf.sz (fun k'' b hne hb=>by rw[ab5 hne];exact hb) ?_;show(w.heap.push o)[w.heap.size]?=_;simp
  ·have hy':=hlk k' y hy hne;rw[ab5 hne];refine BlkRep.mono (fm hf hal) hf.sz ?_ rfl ?_ (h.heap.blk k' y hy')
   ·intro k'' b hn hb;have:k''≠k:=fun e=>hk.2.2.2 k' y hy' (e▸hn)
    rw[ab5 this];exact hb
   ·intro b hb;have:=hown k' y b hy' hb;show(w.heap.push o)[b]?=_;rw[aaj,ab5 oz]
 ·intro k1 k2 y1 y2 b h1 h2 hb1 hb2
  by_cases e1:k1=k <;> by_cases e2:k2=k
  ·rw[e1,e2]
  ·rw[ab6 e1]at hb1;rw[ab5 e2]at hb2;cases hb1
   exact acc (hown k2 y2 _ (hlk k2 y2 h2 e2) hb2) oz
  ·rw[ab5 e1]at hb1;rw[ab6 e2]at hb2;cases hb2
   exact acc (hown k1 y1 _ (hlk k1 y1 h1 e1) hb1) oz
  ·rw[ab5 e1]at hb1;rw[ab5 e2]at hb2
   exact h.heap.inj k1 k2 y1 y2 b (hlk k1 y1 h1 e1) (hlk k2 y2 h2 e2) hb1 hb2
 ·intro k' y b hy hb
  by_cases hne:k'=k
  ·rw[ab6 hne]at hb;cases hb
   refine⟨fun hc=>?_,by simp⟩;have:=h.ext_lt hc;omega
  ·rw[ab5 hne]at hb;have:=h.heap.sep k' y b (hlk k' y hy hne) hb;refine⟨this.1,?_⟩;have:=this.2;simp;omega
theorem RelM.write{C:Ctx}{s:AS}{m:Nat->Option Nat}{a:Act}{w:acj}(h:RelM C s m a w){k b:Nat}{x x':Blk}{w':acj}
  {c c':Array acg} {t:ach}
  (hk:lk s.hp k=some x) (hm:m k=some b) (hb:w.heap[b]?=some (.cells c t (0,0))) (hsz:c'.size=c.size)
  (hw:w'={ w with heap:=w.heap.setIfInBounds b (.cells c' t (0,0)) })
  (hx:∀(g:Nat->Array acg->Prop)(S:Nat->Nat->Prop),
   (∀b cs,Im C.ext s.hp m w b cs->g b cs)->(∀b n,Sz w b n->S b n) ->
   w'.heap[b]?=some (.cells c' t (0,0))->BlkRep g S m w' (some b) x') :
  RelM C ⟨s.sl,(k,some x')::s.hp⟩ m a w':=by
 have hlt:=(h.heap.sep k x b hk hm).2
 have hget:∀b',w'.heap[b']?=if b=b' then some (.cells c' t (0,0))else w.heap[b']? := by
  intro b';subst hw;show(w.heap.setIfInBounds b _)[b']?=_;rw[aad]
  by_cases e:b=b'
  ·simp[e];omega
  ·simp[e]
 have hlk:∀k' y,lk ((k,some x')::s.hp) k'=some y->∃z,lk s.hp k'=some z:=by
  intro k' y hy;rw[aY]at hy;split at hy
  ·subst_vars;exact⟨x,hk⟩
  ·exact⟨y,hy⟩
 have hf:Frame (bf s.hp m) w w':=by
  refine⟨by rw[hw],by rw[hw],by rw[hw],by rw[hw];simp,?_,?_⟩
  ·rintro b' n ⟨c1,t1,f1,h1,h2⟩
   by_cases e:b=b'
   ·subst e;rw[hb]at h1;cases h1;exact⟨c',t,(0,0),by rw[hget,ab6 rfl],by omega⟩
   ·exact⟨c1,t1,f1,by rw[hget,ab5 e,h1],h2⟩
  ·intro b' hb' hn;rw[hget,ab5];rintro rfl;exact hn ⟨k,x,hk,hm⟩
 have hal:∀k' y b',lk ((k,some x')::s.hp) k'=some y->m k'=some b'->bf s.hp m b'\/w.heap.size<=b':=by
  intro k' y b' hy hb';obtain⟨z,hz⟩:=hlk k' y hy;exact .inl ⟨k',z,hz,hb'⟩
 refine h.update hf (fun t y k' b' _ _ hb'=>hb') hal (fun k' y _ hy=>⟨hlk k' y hy,rfl⟩) ⟨?_,?_,?_⟩
 ·intro k' y hy
  by_cases e:k'=k
  ·subst e;rw[aY,ab6 rfl]at hy;cases hy;rw[hm];exact hx _ _ (fm hf hal) hf.sz (by rw[hget,ab6 rfl])
  ·rw[aY,ab5 e]at hy;refine BlkRep.mono (fm hf hal) hf.sz (fun k'' b' _ hb'=>hb') rfl ?_ (h.heap.blk k' y hy);intro b' hb';rw[hget,ab5];rintro rfl;exact e (h.heap.inj k' k y x b hy hk hb' hm)
 ·intro k1 k2 y1 y2 b' h1 h2 hb1 hb2;obtain⟨z1,hz1⟩:=hlk k1 y1 h1;obtain⟨z2,hz2⟩:=hlk k2 y2 h2;exact h.heap.inj k1 k2 z1 z2 b' hz1 hz2 hb1 hb2
 ·intro k' y b' hy hb';obtain⟨z,hz⟩:=hlk k' y hy;have:=h.heap.sep k' z b' hz hb';exact⟨this.1,aba this.2 hf.size⟩
theorem RelM.drawn{C:Ctx}{s:AS}{m:Nat->Option Nat}{a:Act}{w:acj}(h:RelM C s m a w)(n:Nat):RelM C s m a { w with drawn:=n }:=by
 have hf:=O4 (bf s.hp m) w n;have hal:∀k' y b',lk s.hp k'=some y->m k'=some b'->bf s.hp m b'\/w.heap.size<=b':=fun k' y b' h1 h2=>.inl ⟨k',y,h1,h2⟩
 refine h.update hf (fun t y k' b' _ _ hb'=>hb') hal (fun k' y _ hy=>⟨⟨y,hy⟩,rfl⟩) ⟨?_,h.heap.inj,h.heap.sep⟩;intro k x hk;exact BlkRep.mono (w:=w) (fm hf hal) hf.sz (fun _ _ _ h=>h) rfl (fun _ _=>rfl) (h.heap.blk k x hk)
structure Out where
  val:Option AV
  upd:Hp
  rt:List Nat
  rd:List Nat
  deriving Inhabited
def AS.app(s:AS)(dst:Option Tmp)(o:Out):AS :=
  ⟨match dst with |some d=>(d,o.val)::s.sl |none=>s.sl,o.upd++s.hp⟩
def gH(s s':AS)(o:Out):Prop:=(∀t∈o.rt,s'.get t=s.get t)/\∀k∈o.rd,s'.blk k=s.blk k
def jO(s:AS)(o:Out):Prop:=∀k∈o.upd.map (·.1),k∈o.rd\/s.Fresh k
def wq(P:aci)(o:Oper)(a:Act)(w:acj)(next:Act->acj->Prop)(Q:Exit->Act->acj->Prop):Prop:=∀ro n,o.uponIn (Fw ro) n P a next Q ((execOp a.eval o).run P w)
theorem XB{P:aci}{f:FuncId}{args:Array acg}{w:acj}{R:Ending->acj->Prop}(h:Calls P f args w R)(ro:Option Nat)(n:Nat):(((Fw ro).depth.isSome=true->1<=n)/\CallsIn (Fw ro) (n-1) P f args w R) :=
 ⟨(fun h=>by cases h),(callsIn_wide (n:=n-1)).2 h⟩
theorem LH{P:aci}{f:String}{args:Array acg}{w:acj}{R:acg->acj->Prop}(h:Rows P f args w R)(ro:Option Nat)(n:Nat):(((Fw ro).depth.isSome=true->1<=n)/\RowsIn (Fw ro) (n-1) P f args w R) :=
 ⟨(fun h=>by cases h),fun c cs _=>let⟨v,w',r,s⟩:=h c cs;⟨v,w',r,(stepsIn_wide (P:=P)).2 s⟩⟩
theorem tf{P:aci}{o:Oper}{a:Act}{w:acj}{next:Act->acj->Prop}{Q:Exit->Act->acj->Prop}(h:o.wp P a w next Q):wq P o a w next Q:=by
 intro ro n;unfold Oper.wp at h;generalize(execOp a.eval o).run P w=r at h;cases r with
 |ok x w' =>
  cases x with
  |enter f args=>exact XB h ro n
  |row f args=>exact LH h ro n
  |round l f ts x y=>exact(show False from h).elim
  |_=>exact h
 |halt x w'=>cases x <;> exact h
structure Step(P:aci)(N:Nat)(R:Array Oper)(s:AS)(o:Oper)(u:Out):Prop where
  run:∀s',gH s s' u->jO s' u->∀C m a w Q (next:Act->acj->Prop),C.nt=N->RelM C s' m a w ->
    (∀m' a' w',RelM C (s'.app o.dst u) m' a' w'->next a' w') ->
    if Region.wanted o (yielded R a.tmps)then wq P o a w next Q else next (a.put o.dst undef) w
def g9(P:aci)(N:Nat)(R:Array Oper):List Oper->AS->List Out->(AS->List Out->Prop)->Prop
  |[],s,us,K=>K s us
  |o::ops,s,us,K=>∃u,Step P N R s o u/\jO s u/\g9 P N R ops (s.app o.dst u) (us++[u]) K
def nd(o:Oper):Bool:=match o.op with
  | .defer _=>false
  |_=>true
theorem JQ{P:aci}{o:Oper}{a:Act}{w:acj}{next:Act->acj->Prop}{Q:Exit->Act->acj->Prop}{ro:Option Nat}{n:Nat}(hd:nd o=true)(h:wq P o a w next Q):o.wpIn (Fw ro) n P a w next Q:=by
 refine⟨fun _ _=>trivial,?_⟩;rw[Oper.semAt_eq _ _ _ (by intro c hc;simp[nd,hc]at hd)];exact h ro n
theorem O9{P:aci}{N n:Nat}{R:Array Oper}{C:Ctx}(hN:C.nt=N){Q:Exit->Act->acj->Prop}{K:AS->List Out->Prop}
  (hK:∀s us m a w,K s us->RelM C s m a w->Q .normal a w) :
  ∀(ops:List Oper)(i:Nat)(s:AS)(us:List Out)(m:Nat->Option Nat)(a:Act)(w:acj),
   (∀j,R[i+j]?=ops[j]?)->ops.all nd=true->g9 P N R ops s us K->RelM C s m a w->wpOpsIn (Fw C.ro) n P R Q (List.range' i ops.length) a w:=by
 intro ops
 induction ops with
 |nil=>intro i s us m a w _ _ h hr;exact hK s us m a w h hr
 |cons o ops ih =>
  intro i s us m a w hR hnd h hr;simp only[Zj,aaw]at hnd;obtain⟨u,hs,hn,h⟩:=h;have ho:R[i]?=some o:=by simpa using hR 0
  simp only[aa4,List.range'_succ];rw[wpOpsIn_cons];unfold wpOpIn;simp only[ho]
  have:=hs.run s ⟨fun _ _=>rfl,fun _ _=>rfl⟩ hn C m a w Q (wpOpsIn (Fw C.ro) n P R Q (List.range' (i+1) ops.length)) hN hr
   (fun m' a' w' hr'=>ih (i+1) _ _ m' a' w' (fun j=>by have:=hR (j+1);simpa[Yr,Yh 1 j]using this) hnd.2 h hr')
  split
  ·rename_i hw;rw[ab6 hw]at this;exact JQ hnd.1 this
  ·rename_i hw;rw[ab5 hw]at this;exact⟨fun _ _=>trivial,this⟩
theorem HeapRel.congr{ext:Nat->Prop}{hp hp':Hp}{m:Nat->Option Nat}{w:acj}(h:∀k,lk hp k=lk hp' k)
  (hr:HeapRel ext hp m w):HeapRel ext hp' m w:=by
 have e1:bf hp m=bf hp' m:=by funext b;simp only[bf,h]
 have e2:Im ext hp m w=Im ext hp' m w:=by funext b cs;simp only[Im,e1]
 refine⟨?_,?_,?_⟩
 ·intro k x hk;rw[<- e2];exact hr.blk k x ((h k).trans hk)
 ·intro k k' x x' b h1 h2;exact hr.inj k k' x x' b ((h k).trans h1) ((h k').trans h2)
 ·intro k x b h1;exact hr.sep k x b ((h k).trans h1)
theorem RelM.congr{C:Ctx}{s s':AS}{m:Nat->Option Nat}{a:Act}{w:acj}(h1:∀t,s.get t=s'.get t)(h2:∀k,s.blk k=s'.blk k)
  (hr:RelM C s m a w):RelM C s' m a w:=by
 have e1:bf s.hp m=bf s'.hp m:=by funext b;simp only[bf];simp only[AS.blk]at h2;simp only[h2]
 have e2:Im C.ext s.hp m w=Im C.ext s'.hp m w:=by funext b cs;simp only[Im,e1]
 refine⟨?_,hr.heap.congr h2,hr.frame,?_,fun k x h3 h4=>hr.keep k x h3 ((h2 k).trans h4),hr.defers,hr.nt⟩
 ·intro t x hx;rw[<- e2];exact hr.slots t x ((h1 t).trans hx)
 ·intro k x b hk;exact hr.new k x b ((h2 k).trans hk)
def BN(prev:List Nat)(o:Oper):Nat :=
  o.after.toList.foldl (fun s e=>match Region.binds .any e with
    |true=>s ||| (2^e.on ||| prev.getD e.on 0)
    |false=>s) 0
def jd:List Oper->List Nat->List Nat
  |[],prev=>prev
  |o::ops,prev=>jd ops (prev++[BN prev o])
theorem Q2(prev:List Nat)(j:Nat):∀(l:List Edge)(s:Nat),
  (l.foldl (fun s e=>match Region.binds .any e with
   |true=>s ||| (2^e.on ||| prev.getD e.on 0)
   |false=>s) s).testBit j=true ->
  s.testBit j=true\/∃e∈l,Region.binds .any e=true/\(j=e.on\/(prev.getD e.on 0).testBit j=true):=by
 intro l
 induction l with
 |nil=>intro s h;exact .inl h
 |cons e l ih =>
  intro s h;simp only[foldl_cons]at h;rcases ih _ h with h |⟨e',he',hb,hj⟩
  ·cases hb:Region.binds .any e with
   |false=>rw[hb]at h;exact .inl h
   |true =>
    rw[hb]at h;simp only[Nat.testBit_or,abz,Nat.testBit_two_pow,ab7]at h;rcases h with h |h |h
    ·exact .inl h
    ·exact .inr ⟨e,abr,hb,.inl h.symm⟩
    ·exact .inr ⟨e,abr,hb,.inr h⟩
  ·exact .inr ⟨e',abt _ he',hb,hj⟩
theorem HO:∀(ops:List Oper)(prev:List Nat),(jd ops prev).length=prev.length+ops.length
 |[],prev=>rfl
 |o::ops,prev=>by simp only[jd,HO ops,abi,aa4,abg];omega
theorem yJ:∀(ops:List Oper)(prev:List Nat)(i:Nat),i<prev.length->(jd ops prev).getD i 0=prev.getD i 0
 |[],prev,i,_=>rfl
 |o::ops,prev,i,h=>by
  simp only[jd];rw[yJ ops _ i (by simp;omega)];simp[aaq,aa9 h]
theorem I2:∀(ops:List Oper)(prev:List Nat)(i:Nat)(o:Oper),ops[i]?=some o ->
  ∃q,(jd ops prev).getD (prev.length+i) 0=BN q o/\∀j,q.getD j 0≠0->j<prev.length+i/\q.getD j 0=(jd ops prev).getD j 0
 |[],prev,i,o,h=>by simp at h
 |o'::ops,prev,0,o,h=>by
  simp at h;subst h
  refine⟨prev,?_,?_⟩
  ·simp only[jd,Ys];rw[yJ ops _ _ (by simp)];simp[aaq]
  ·intro j hj
   have hlt:j<prev.length:=by
    rcases aay j prev.length with h |h
    ·exact h
    ·exact acc (by simp[aaq,aa5 h]) hj
   refine⟨by omega,?_⟩;simp only[jd];rw[yJ ops _ _ (by simp;omega)];simp[aaq,aa9 hlt]
 |o'::ops,prev,i+1,o,h=>by
  simp at h;obtain⟨q,h1,h2⟩:=I2 ops (prev++[BN prev o']) i o h;refine⟨q,?_,?_⟩
  ·simp only[jd];rw[<- h1];simp only[abi,aa4,abg];congr 1;omega
  ·intro j hj;obtain⟨h3,h4⟩:=h2 j hj;simp at h3;exact⟨by omega,h4⟩
def Ia(R:Array Oper)(L:Nat->Bool):Prop:=∀i o,R[i]?=some o->L i=true->∀e∈o.after.toList,Region.binds .any e=true->L e.on=true
theorem Js{R:Array Oper}{L:Nat->Bool}(hc:Ia R L):∀(i:Nat)(o:Oper),R[i]?=some o ->
  (∀e∈o.after.toList,Region.binds .any e=true->L e.on=true)->∀j,((jd R.toList []).getD i 0).testBit j=true->L j=true:=by
 intro i
 induction i using Nat.strongRecOn with
 |_ i ih =>
  intro o ho hp j hj;obtain⟨q,h1,h2⟩:=I2 R.toList [] i o (by simpa using ho);simp only[abg,Yf]at h1 h2;rw[h1]at hj;rcases Q2 q j _ _ hj with h |⟨e,he,hb,h |h⟩
  ·simp at h
  ·exact h▸hp e he hb
  ·have hne : q.getD e.on 0 ≠ 0 := fun h0 => by rw [h0] at h; simp at h
   obtain⟨h3,h4⟩:=h2 e.on hne;rw[h4]at h;have hl:=hp e he hb
   have hlt:e.on<R.size:=by
    rcases aay e.on R.size with hh |hh
    ·exact hh
    ·exfalso;have:(jd R.toList []).length = R.size:=by rw [HO]; simp
     rw[aaq,aa5 oz]at h;simp at h
   exact ih e.on h3 R[e.on] (by simp[hlt]) (hc e.on _ (by simp[hlt]) hl) j h
def Out.wr(u:Out):List Nat:=u.upd.map (·.1)
def Out.nm(u:Out):List Nat:=(match u.val with |some x=>x.nm |none=>[])++u.upd.flatMap fun p=>match p.2 with |some x=>x.nm |none=>[]
def kJ(a b:List Nat):Bool:=a.any fun x=>b.contains x
def yj(d:Option Nat)(l:List Nat):Bool:=match d with |some d=>l.contains d |none=>false
def jx(o1:Oper)(u1:Out)(o2:Oper)(u2:Out):Bool :=
  yj o1.dst u2.rt||yj o2.dst u1.rt||(match o1.dst with |some d=>o2.dst==some d |none=>false) ||
    kJ u1.wr u2.rd||kJ u1.wr u2.wr||kJ u2.wr u1.rd||kJ (u1.wr.filter fun k=>!u1.rd.contains k) u2.nm
def tj(M:List Nat)(o2:Oper)(u2:Out)(j:Nat):Nat->List Oper->List Out->Bool
  |i,o1::ops,u1::us=>(match X9 i j with
      |true=>(!jx o1 u1 o2 u2||(M.getD j 0).testBit i)&&!kJ (u2.wr.filter fun k=>!u2.rd.contains k) (u1.nm++u1.wr)
      |false=>true)&&tj M o2 u2 j (i+1) ops us
  |_,_,_=>true
def vZ(M:List Nat)(R:List Oper)(U:List Out):Nat->List Oper->List Out->Bool
  |j,o::ops,u::us=>tj M o u j 0 R U&&(o.after.toList.all fun e=>!Region.binds .any e||X9 e.on j)&&vZ M R U (j+1) ops us
  |_,_,_=>true
def AS.freshB(s:AS)(k:Nat):Bool :=
  (s.sl.all fun p=>match p.2 with |some x=>!x.nm.contains k |none=>true) &&
    (s.hp.all fun p=>match p.2 with |some x=>!x.nm.contains k |none=>true) &&
    (match lk s.hp k with |some _=>false |none=>true)&&X9 k 1000
theorem AS.fresh_of{s:AS}{k:Nat}(h:s.freshB k=true):s.Fresh k:=by
 simp only[AS.freshB,aaw,aa3]at h;obtain⟨⟨⟨h1,h2⟩,h3⟩,h4⟩:=h;refine⟨?_,by simpa[YB]using h4,?_,?_⟩
 ·cases hk:lk s.hp k with
  |none=>rfl
  |some x=>rw[hk]at h3;simp at h3
 ·intro t x hx hn;have:=h1 _ (mU hx);simp at this;exact this hn.mem
 ·intro t x hx hn;have:=h2 _ (mU hx);simp at this;exact this hn.mem
def chk(R:List Oper)(U:List Out)(s:AS):Bool :=
  vZ (jd R []) R U 0 R U&&(U.all fun u=>u.wr.all fun k=>u.rd.contains k||s.freshB k)
theorem Gz{M:List Nat}{o2:Oper}{u2:Out}{j:Nat}:∀(ops:List Oper)(us:List Out)(i0:Nat),tj M o2 u2 j i0 ops us=true ->
  ∀i o1 u1,ops[i]?=some o1->us[i]?=some u1->i0+i<j ->
   (jx o1 u1 o2 u2=true->(M.getD j 0).testBit (i0+i)=true)/\kJ (u2.wr.filter fun k=>!u2.rd.contains k) (u1.nm++u1.wr)=false
 |[],_,_,_,i,o1,u1,h,_,_=>by simp at h
 |_::_,[],_,_,i,o1,u1,_,h,_=>by simp at h
 |o::ops,u::us,i0,hc,i,o1,u1,h1,h2,hlt=>by
  simp only[tj,aaw]at hc;obtain⟨hc1,hc2⟩:=hc;cases i with
  |zero =>
   simp at h1 h2;subst h1;subst h2
   have hb:X9 i0 j=true:=by simpa[YB]using hlt
   rw[hb]at hc1;simp only[aaw,abz,Z2]at hc1;refine⟨fun hw=>?_,hc1.2⟩;rcases hc1.1 with h |h
   ·rw[hw]at h;cases h
   ·simpa using h
  |succ i =>
   simp at h1 h2;have:=Gz ops us (i0+1) hc2 i o1 u1 h1 h2 oz;rw[show i0+(i+1)=i0+1+i by omega];exact this
theorem C1{M:List Nat}{R:List Oper}{U:List Out}:∀(ops:List Oper)(us:List Out)(j0:Nat),vZ M R U j0 ops us=true ->
  ∀j o u,ops[j]?=some o->us[j]?=some u->tj M o u (j0+j) 0 R U=true/\∀e∈o.after.toList,Region.binds .any e=true->e.on<j0+j
 |[],_,_,_,i,o1,u1,h,_=>by simp at h
 |_::_,[],_,_,i,o1,u1,_,h=>by simp at h
 |o::ops,u::us,j0,hc,j,o1,u1,h1,h2=>by
  simp only[vZ,aaw,aa3]at hc;obtain⟨⟨hc1,hc2⟩,hc3⟩:=hc;cases j with
  |zero =>
   simp at h1 h2;subst h1;subst h2
   refine⟨hc1,fun e he hb=>?_⟩;have:=hc2 e he;simpa[hb,YB]using this
  |succ j =>
   simp at h1 h2;have:=C1 ops us (j0+1) hc3 j o1 u1 h1 h2;rw[show j0+(j+1)=j0+1+j by omega];exact this
def vw(R:Array Oper)(U:List Out)(s:AS)(L:Nat->Bool):Nat->AS
  |0=>s
  |i+1=>match L i,R[i]?,U[i]? with
    |true,some o,some u=>(vw R U s L i).app o.dst u
    |_,_,_=>vw R U s L i
theorem iJ(s:AS)(d:Option Tmp)(u:Out)(t:Nat):(s.app d u).get t=if d=some t then u.val else s.get t:=by
 cases d with
 |none=>simp[AS.app,AS.get]
 |some d =>
  simp only[AS.app,AS.get,aY]
  by_cases h:t=d
  ·simp[h]
  ·rw[ab5 h,ab5 (by simpa using fun e=>h e.symm)]
theorem qz(s:AS)(d:Option Tmp)(u:Out)(k:Nat):(s.app d u).blk k=if k∈u.wr then lk u.upd k else s.blk k:=by
 simp only[AS.app,AS.blk,oc,Out.wr];rfl
section
variable{R:Array Oper}{U:List Out}{s:AS}
theorem GY{L:Nat->Bool}{t i:Nat}(n:Nat)(hle:i<=n)(h:∀j o,i<=j->R[j]?=some o->o.dst=some t->L j=false) :
  (vw R U s L n).get t=(vw R U s L i).get t:=by
 induction n with
 |zero=>rw[show i=0 by omega]
 |succ n ih =>
  by_cases hn:i<=n
  ·rw[<- ih hn];simp only[vw];split
   ·rename_i o u h1 h2 h3;rw[iJ,ab5];intro hd;rw[h n o hn h2 hd]at h1;cases h1
   ·rfl
  ·rw[show i=n+1 by omega]
theorem EN{L:Nat->Bool}{k i:Nat}(n:Nat)(hle:i<=n)(h:∀j u,i<=j->U[j]?=some u->k∈u.wr->L j=false) :
  (vw R U s L n).blk k=(vw R U s L i).blk k:=by
 induction n with
 |zero=>rw[show i=0 by omega]
 |succ n ih =>
  by_cases hn:i<=n
  ·rw[<- ih hn];simp only[vw];split
   ·rename_i o u h1 h2 h3;rw[qz,ab5];intro hd;rw[h n u hn h3 hd]at h1;cases h1
   ·rfl
  ·rw[show i=n+1 by omega]
theorem Bo{L L':Nat->Bool}{t:Nat}(n:Nat)(h:∀j o,j<n->R[j]?=some o->o.dst=some t->L j=L' j) :
  (vw R U s L n).get t=(vw R U s L' n).get t:=by
 induction n with
 |zero=>rfl
 |succ n ih =>
  have ih:=ih (fun j o hj=>h j o oz);simp only[vw];cases ho:R[n]? with
  |none=>cases L n <;> cases L' n <;> simp only[ih]
  |some o =>
   cases hu:U[n]? with
   |none=>cases L n <;> cases L' n <;> simp only[ih]
   |some u =>
    by_cases hd:o.dst=some t
    ·rw[h n o oz ho hd];cases L' n <;> simp only[iJ,hd,if_true,ih]
    ·cases L n <;> cases L' n <;> simp only[iJ,ab5 hd,ih]
theorem A0{L L':Nat->Bool}{k:Nat}(n:Nat)(h:∀j u,j<n->U[j]?=some u->k∈u.wr->L j=L' j) :
  (vw R U s L n).blk k=(vw R U s L' n).blk k:=by
 induction n with
 |zero=>rfl
 |succ n ih =>
  have ih:=ih (fun j o hj=>h j o oz);simp only[vw];cases ho:R[n]? with
  |none=>cases L n <;> cases L' n <;> simp only[ih]
  |some o =>
   cases hu:U[n]? with
   |none=>cases L n <;> cases L' n <;> simp only[ih]
   |some u =>
    by_cases hd:k∈u.wr
    ·rw[h n u oz hu hd];cases L' n <;> simp only[qz,hd,if_true,ih]
    ·cases L n <;> cases L' n <;> simp only[qz,ab5 hd,ih]
theorem Uf{L:Nat->Bool}{t:Nat}{x:AV}:∀n,(vw R U s L n).get t=some x ->
  s.get t=some x\/∃j u,L j=true/\U[j]?=some u/\u.val=some x:=by
 intro n
 induction n with
 |zero=>exact .inl
 |succ n ih =>
  intro h;simp only[vw]at h;split at h
  ·rename_i o u h1 h2 h3;rw[iJ]at h;split at h
   ·exact .inr ⟨n,u,h1,h3,h⟩
   ·exact ih h
  ·exact ih h
theorem JY{L:Nat->Bool}{k:Nat}{x:Blk}:∀n,(vw R U s L n).blk k=some x ->
  s.blk k=some x\/∃j u,L j=true/\U[j]?=some u/\k∈u.wr/\lk u.upd k=some x:=by
 intro n
 induction n with
 |zero=>exact .inl
 |succ n ih =>
  intro h;simp only[vw]at h;split at h
  ·rename_i o u h1 h2 h3;rw[qz]at h;split at h
   ·rename_i hk;exact .inr ⟨n,u,h1,h3,hk,h⟩
   ·exact ih h
  ·exact ih h
end
theorem NM{a b:List Nat}(h:kJ a b=false){x:Nat}(ha:x∈a):x∉b:=by
 intro hb;simp only[kJ,List.any_eq_false]at h;exact h x ha (by simpa using hb)
theorem sW{a b:List Nat}{x:Nat}(ha:x∈a)(hb:x∈b):kJ a b=true:=by
 simp only[kJ,Zz];exact⟨x,ha,by simpa using hb⟩
section
variable{P:aci}{N:Nat}{R:Array Oper}{U:List Out}{s0:AS}{C:Ctx}{Q:Exit->Act->acj->Prop}
theorem OV{u:Out}{x:AV}{k:Nat}(h:u.val=some x)(hk:x.Names k):k∈u.nm:=by
 simp only[Out.nm,h,aa2];exact .inl hk.mem
theorem XW{u:Out}{x:Blk}{k k':Nat}(h:lk u.upd k'=some x)(hk:x.Names k):k∈u.nm:=by
 simp only[Out.nm,aa2,List.mem_flatMap];exact .inr ⟨_,mU h,hk.mem⟩
theorem MK{n:Nat}(hnd:R.toList.all nd=true)(hN:C.nt=N)(hlen:U.length=R.size)(hst:∀(i:Nat) o u,R[i]?=some o->U[i]?=some u->Step P N R (vw R U s0 (fun _=>true) i) o u)
    (hc:chk R.toList U s0=true) (hQ:∀m a w,RelM C (vw R U s0 (fun _=>true) R.size) m a w->Q .normal a w) :
    ∀(fuel:Nat)(listed:Array Bool),listed.size=R.size->Ia R (fun i=>listed.getD i false) ->
      ((List.range R.size).filter fun i=>!listed.getD i false).length<=fuel ->
      ∀m a w,RelM C (vw R U s0 (fun i=>listed.getD i false) R.size) m a w->wpAnyIn (Fw C.ro) n P .any R Q fuel listed a w:=by
  simp only[chk,aaw,aa3,abz]at hc;obtain⟨hc1,hc2⟩:=hc;have hU:∀i,i<R.size->∃o u,R[i]?=some o/\U[i]?=some u:=fun i hi=>⟨R[i],U[i],by simp[hi],by simp⟩
  have hpair:∀i j o1 u1 o2 u2,R[i]?=some o1->U[i]?=some u1->R[j]?=some o2->U[j]?=some u2->i<j ->
      (jx o1 u1 o2 u2=true->((jd R.toList []).getD j 0).testBit i=true)/\kJ (u2.wr.filter fun k=>!u2.rd.contains k) (u1.nm++u1.wr)=false:=by
    intro i j o1 u1 o2 u2 h1 h2 h3 h4 hlt;have:=C1 R.toList U 0 hc1 j o2 u2 (by simpa using h3) h4;simp only[Yf]at this;have:=Gz R.toList U 0 this.1 i o1 u1 (by simpa using h1) h2 oz;simpa using this
  have hback:∀j o,R[j]?=some o->∀e∈o.after.toList,Region.binds .any e=true->e.on<j:=by
    intro j o h
    have hj:j<R.size:=by
      rcases aay j R.size with hh |hh
      · exact hh
      · simp[aal hh]at h
    obtain⟨o',u,h1,h2⟩:=hU j hj;rw[h]at h1;cases h1
    have:=(C1 R.toList U 0 hc1 j o u (by simpa using h) h2).2;simpa using this
  have hdone:∀(listed:Array Bool),listed.size=R.size->Region.ready .any R listed=[]->∀i,i<R.size->listed.getD i false=true:=by
    intro listed hsz hr i
    induction i using Nat.strongRecOn with
    |_ i ih =>
      intro hi;cases hl:listed.getD i false with
      |true=>rfl
      |false =>
        exfalso
        have:i∈Region.ready .any R listed:=by
          simp only[Region.ready,Zw,Y3];refine⟨hi,?_⟩
          have e1:listed.getD i true=false:=by
            simp only[aa1]at hl ⊢;rw[Z8 oz]at hl ⊢;exact hl
          simp only[e1,Bool.not_false,Bool.true_and];rw[Z8 hi];simp only[aam,aan,Z9,abz,Z2];intro e he;cases hb:Region.binds .any e with
          |false=>exact .inl rfl
          |true =>
            have:=hback i R[i] (by simp[hi]) e (by simpa using he) hb;exact .inr (ih e.on this oz)
        rw[hr]at this;cases this
  have hfin:∀(listed:Array Bool),listed.size=R.size->Region.ready .any R listed=[]->∀m a w,
      RelM C (vw R U s0 (fun i=>listed.getD i false) R.size) m a w->Q .normal a w:=by
    intro listed hsz hr m a w h;refine hQ m a w (h.congr (fun t=>Bo _ (fun j o hj _ _=>hdone listed hsz hr j hj)) (fun k=>A0 _ (fun j u hj _ _=>hdone listed hsz hr j hj)))
  intro fuel
  induction fuel with
  |zero =>
    intro listed hsz hcl hf m a w h
    have hnil:Region.ready .any R listed=[]:=by
      cases hr:Region.ready .any R listed with
      |nil=>rfl
      |cons i l =>
        exfalso;have hi:i∈Region.ready .any R listed:=by rw[hr];exact abr
        simp only[Region.ready,Zw,Y3,aaw,Z2]at hi
        have:listed.getD i false=false:=by
          have h1:=hi.2.1;simp only[aa1]at h1 ⊢;rw[Z8 oz]at h1 ⊢;exact h1
        have hmem:i∈(List.range R.size).filter fun i=>!listed.getD i false:=by simp[Zw,hi.1];simpa using this
        have:=List.length_pos_of_mem hmem;omega
    exact⟨hnil,hfin listed hsz hnil m a w h⟩
  |succ fuel ih =>
    intro listed hsz hcl hf m a w h;refine⟨fun hr=>hfin listed hsz hr m a w h,?_⟩;intro i hi;simp only[Region.ready,Zw,Y3,aaw,Z2]at hi;obtain⟨hilt,hil,hie⟩:=hi
    have hil:listed.getD i false=false:=by
      simp only[aa1]at hil ⊢;rw[Z8 oz]at hil ⊢;exact hil
    obtain⟨o,u,ho,hu⟩:=hU i hilt;rw[ho]at hie;simp only[aam,aan,Z9,abz,Z2]at hie
    have hpre:∀e∈o.after.toList,Region.binds .any e=true->listed.getD e.on false=true:=by
      intro e he hb;rcases hie e (by simpa using he)with h |h
      · rw[hb]at h;cases h
      · exact h
    have hbefore:∀j oj uj,R[j]?=some oj->U[j]?=some uj->j<i->jx oj uj o u=true->listed.getD j false=true:=by
      intro j oj uj h1 h2 hlt hw;exact Js hcl i o ho hpre j ((hpair j i oj uj o u h1 h2 ho hu hlt).1 hw)
    have hafter:∀j oj uj,R[j]?=some oj->U[j]?=some uj->i<j->jx o u oj uj=true->listed.getD j false=false:=by
      intro j oj uj h1 h2 hlt hw;cases hl:listed.getD j false with
      |false=>rfl
      |true =>
        have:=Js hcl j oj h1 (hcl j oj h1 hl) i ((hpair i j o u oj uj ho hu h1 h2 hlt).1 hw);rw[hil]at this;cases this
    have hUj:∀(j:Nat) oj,R[j]?=some oj->∃uj,U[j]?=some uj:=by
      intro j oj h
      have hj:j<R.size:=by
        rcases aay j R.size with hh |hh
        · exact hh
        · simp[aal hh]at h
      obtain⟨_,uj,_,h2⟩:=hU j hj;exact⟨uj,h2⟩
    have hRj:∀(j:Nat) uj,U[j]?=some uj->∃oj,R[j]?=some oj:=by
      intro j uj h
      have hj:j<R.size:=by
        rcases aay j R.size with hh |hh
        · exact hh
        · rw[aa5 oz]at h;cases h
      obtain⟨oj,_,h1,_⟩:=hU j hj;exact⟨oj,h1⟩
    have hget:∀t,t∈u.rt->(vw R U s0 (fun i=>listed.getD i false) R.size).get t=(vw R U s0 (fun _=>true) i).get t:=by
      intro t ht;rw[GY (i:=i) R.size oz]
      · refine Bo i (fun j oj hj hoj hd=>?_)
        obtain⟨uj,huj⟩:=hUj j oj hoj;exact hbefore j oj uj hoj huj hj (by simp[jx,yj,hd,ht])
      · intro j oj hj hoj hd
        obtain⟨uj,huj⟩:=hUj j oj hoj;rcases aay i j with hlt |hge
        · exact hafter j oj uj hoj huj hlt (by simp[jx,yj,hd,ht])
        · rw[show j=i by omega];exact hil
    have hblk:∀k,k∈u.rd->(vw R U s0 (fun i=>listed.getD i false) R.size).blk k=(vw R U s0 (fun _=>true) i).blk k:=by
      intro k hk;rw[EN (i:=i) R.size oz]
      · refine A0 i (fun j uj hj huj hd=>?_)
        obtain⟨oj,hoj⟩:=hRj j uj huj;exact hbefore j oj uj hoj huj hj (by simp[jx,sW hd hk])
      · intro j uj hj huj hd
        obtain⟨oj,hoj⟩:=hRj j uj huj;rcases aay i j with hlt |hge
        · exact hafter j oj uj hoj huj hlt (by simp[jx,sW hd hk])
        · rw[show j=i by omega];exact hil
    have hnew:jO (vw R U s0 (fun i=>listed.getD i false) R.size) u:=by
      intro k hk
      by_cases hrd:k∈u.rd
      · exact .inl hrd
      refine .inr ?_
      have hfr:s0.Fresh k:=by
        rcases hc2 u (aap hu) k hk with h |h
        · exact acc (by simpa using h) hrd
        · exact AS.fresh_of h
      have hkn:k∈u.wr.filter fun k=>!u.rd.contains k:=by simp[Zw,hrd];simpa[Out.wr]using hk
      have hno:∀j uj,listed.getD j false=true->U[j]?=some uj->k∉uj.nm/\k∉uj.wr:=by
        intro j uj hl huj;obtain⟨oj,hoj⟩:=hRj j uj huj;rcases Nat.lt_trichotomy j i with hlt |heq |hgt
        · have hm:=NM (hpair j i oj uj o u hoj huj ho hu hlt).2 hkn
          exact⟨fun h=>hm (aa2.2 (.inl h)),fun h=>hm (aa2.2 (.inr h))⟩
        · subst heq;rw[hil]at hl;cases hl
        · refine⟨fun hn=>?_,fun hwr=>?_⟩
          · have := hafter j oj uj hoj huj hgt (by simp only [jx, sW hkn hn, Bool.or_true])
            rw[hl]at this;cases this
          · have := hafter j oj uj hoj huj hgt (by simp [jx, sW (by simpa [Out.wr] using hk : k ∈ u.wr) hwr])
            rw[hl]at this;cases this
      refine⟨?_,hfr.2.1,?_,?_⟩
      · cases hb:(vw R U s0 (fun i=>listed.getD i false) R.size).blk k with
        |none=>exact hb
        |some x =>
          rcases JY _ hb with h |⟨j,uj,hl,huj,hwr,_⟩
          · rw[AS.blk,hfr.1]at h;cases h
          · exact acc hwr (hno j uj hl huj).2
      · intro t x hx hn
        rcases Uf _ hx with h |⟨j,uj,hl,huj,hv⟩
        · exact hfr.2.2.1 t x h hn
        · exact(hno j uj hl huj).1 (OV hv hn)
      · intro k' x hx hn
        rcases JY _ hx with h |⟨j,uj,hl,huj,_,hv⟩
        · exact hfr.2.2.2 k' x h hn
        · exact(hno j uj hl huj).1 (XW hv hn)
    unfold wpOpIn;simp only[ho];have hndo:nd o=true:=aa3.1 hnd o (by simpa using Array.mem_of_getElem? ho)
    suffices hs:(if Region.wanted o (yielded R a.tmps)then wq P o a w (wpAnyIn (Fw C.ro) n P .any R Q _ (listed.setIfInBounds i true)) Q else wpAnyIn (Fw C.ro) n P .any R Q _ (listed.setIfInBounds i true) (a.put o.dst undef) w) by
      split
      · rename_i hw;rw[ab6 hw]at hs;exact JQ hndo hs
      · rename_i hw;rw[ab5 hw]at hs;exact⟨fun _ _=>trivial,hs⟩
    refine(hst i o u ho hu).run _ ⟨hget,hblk⟩ hnew C m a w Q _ hN h ?_;intro m' a' w' h'
    have hL:∀j,(listed.setIfInBounds i true).getD j false=if j=i then true else listed.getD j false:=by
      intro j;simp only[aa1,aad]
      by_cases hj:j=i
      · subst hj
        rw[ab6 rfl,ab6 rfl,ab6 oz];rfl
      · rw[ab5 oz,ab5 hj]
    refine ih (listed.setIfInBounds i true) (by simpa using hsz) ?_ ?_ m' a' w' ?_
    · intro j oj hoj hl e he hb
      simp only[hL]at hl ⊢
      by_cases hje:e.on=i
      · simp[hje]
      · rw[ab5 hje]
        by_cases hj:j=i
        · subst hj;rw[ho]at hoj;cases hoj;exact hpre e he hb
        · rw[ab5 hj]at hl;exact hcl j oj hoj hl e he hb
    · have e1:((List.range R.size).filter fun j=>!(listed.setIfInBounds i true).getD j false) =
          ((List.range R.size).filter fun j=>!listed.getD j false).filter fun j=>!decide (j=i):=by
        rw[List.filter_filter];refine List.filter_congr (fun j _=>?_);rw[hL]
        by_cases hj:j=i <;> simp[hj]
      have e2:(((List.range R.size).filter fun j=>!listed.getD j false).filter fun j=>!decide (j=i)).length<((List.range R.size).filter fun j=>!listed.getD j false).length:=by
        rw[List.length_filter_lt_length_iff_exists];exact⟨i,by simp[Zw,hilt];simpa using hil,by simp⟩
      rw[e1];omega
    · refine h'.congr (fun t=>?_) (fun k=>?_)
      · rw[iJ]
        by_cases hd:o.dst=some t
        · rw[ab6 hd]
          rw[GY (i:=i+1) R.size oz]
          · simp only[vw,hL,if_true,ho,hu,iJ,hd]
          · intro j oj hj hoj hdj
            rw[hL,ab5 oz];obtain⟨uj,huj⟩:=hUj j oj hoj;exact hafter j oj uj hoj huj oz (by simp[jx,hd,hdj])
        · rw[ab5 hd]
          refine Bo _ (fun j oj hj hoj hdj=>?_);rw[hL,ab5];rintro rfl;rw[ho]at hoj;cases hoj;exact hd hdj
      · rw[qz]
        by_cases hd:k∈u.wr
        · rw[ab6 hd]
          rw[EN (i:=i+1) R.size oz]
          · simp only[vw,hL,if_true,ho,hu,qz,hd]
          · intro j uj hj huj hdj
            rw[hL,ab5 oz];obtain⟨oj,hoj⟩:=hRj j uj huj;exact hafter j oj uj hoj huj oz (by simp[jx,sW hd hdj])
        · rw[ab5 hd]
          refine A0 _ (fun j uj hj huj hdj=>?_);rw[hL,ab5];rintro rfl;rw[hu]at huj;cases huj;exact hd hdj
end
inductive TK where
  |bool |int (k:IntKind) |string |slice (e:Nat) |array (n e:Nat) |struct |iface (n:Nat) |pointer (e:Nat) |other
  deriving Inhabited
structure TI where
  size:Nat
  bytes:Nat
  zero:List acg
  k:TK
  fs:List (Nat×Nat)
  deriving Inhabited
def TI.ag(t:TI):Bool:=match t.k with | .struct | .array _ _=>true |_=>false
def gx:TypeDesc->TK
  | .bool=>.bool
  | .int k=>.int k
  | .string=>.string
  | .slice e=>.slice e
  | .array n e=>.array n e
  | .struct _=>.struct
  | .interface ms=>.iface ms.size
  | .pointer e=>.pointer e
  |_=>.other
def qe(P:aci):TypeDesc->List (Nat×Nat)
  | .struct fs=>fs.toList.map fun f=>(f.offset,match P.info? f.type with |some j=>j.size |none=>0)
  |_=>[]
def aI(P:aci)(t:ach):Option TI :=
  match P.info? t,P.underlying t with
  |some i,some d=>match i.zero with
    |some z=>some ⟨i.size,i.bytes,z.cells.toList,gx d,qe P d⟩
    |none=>none
  |_,_=>none
theorem so{P:aci}{t:ach}{ti:TI}(h:aI P t=some ti) :
  ∃i d z,P.info? t=some i/\P.underlying t=some d/\i.zero=some z/\ti=⟨i.size,i.bytes,z.cells.toList,gx d,qe P d⟩:=by
 unfold aI at h;split at h
 ·rename_i i d h1 h2;split at h
  ·rename_i z h3;cases h;exact⟨i,d,z,h1,h2,h3,rfl⟩
  ·cases h
 ·cases h
theorem gE{P:aci}{t:ach}{ti:TI}(h:aI P t=some ti)(w:acj):(sizeOf t).run P w=.ok ti.size w:=by
 obtain⟨i,d,z,h1,h2,h3,rfl⟩:=so h;simp[sizeOf,typeInfo,h1]
theorem EF{P:aci}{t:ach}{ti:TI}(h:aI P t=some ti)(w:acj):∃i,(typeInfo t).run P w=.ok i w/\i.bytes=ti.bytes/\i.size=ti.size:=by
 obtain⟨i,d,z,h1,h2,h3,rfl⟩:=so h;exact⟨i,by simp[typeInfo,h1],rfl,rfl⟩
theorem sO{P:aci}{t:ach}{ti:TI}(h:aI P t=some ti)(w:acj):∃z,(zeroValue t).run P w=.ok z w/\z.cells.toList=ti.zero:=by
 obtain⟨i,d,z,h1,h2,h3,rfl⟩:=so h;exact⟨z,by simp[zeroValue,typeInfo,h1,h3],rfl⟩
theorem ez{P:aci}{t:ach}{ti:TI}(h:aI P t=some ti)(w:acj):∃d,(underlying t).run P w=.ok d w/\gx d=ti.k/\qe P d=ti.fs/\P.underlying t=some d:=by
 obtain⟨i,d,z,h1,h2,h3,rfl⟩:=so h;exact⟨d,by simp[underlying,h2],rfl,rfl,h2⟩
theorem iS{d:TypeDesc}{e:Nat}(h:gx d=.slice e):d=.slice e:=by cases d <;> simp_all [gx]
theorem Fx{d:TypeDesc}(h:gx d=.string):d=.string:=by cases d <;> simp_all [gx]
theorem Eb{d:TypeDesc}(h:gx d=.bool):d=.bool:=by cases d <;> simp_all [gx]
theorem My{d:TypeDesc}{k:IntKind}(h:gx d=.int k):d=.int k:=by cases d <;> simp_all [gx]
theorem Tl{d:TypeDesc}{n e:Nat}(h:gx d=.array n e):d=.array n e:=by cases d <;> simp_all [gx]
theorem H5{d:TypeDesc}(h:gx d=.struct):∃fs,d=.struct fs:=by cases d <;> simp_all [gx]
theorem FM{d:TypeDesc}{n:Nat}(h:gx d=.iface n):∃ms,d=.interface ms/\ms.size=n:=by cases d <;> simp_all [gx]
theorem LB{P:aci}{t:ach}{ti:TI}(h:aI P t=some ti)(w:acj):(isAgg t).run P w=.ok ti.ag w:=by
 obtain⟨d,h1,h2,-,-⟩:=ez h w;simp only[isAgg,Sem.run_bind,h1,Result.andThen_ok,TI.ag,<- h2];cases d <;> rfl
theorem jl(b off n:Nat):(⟨b,off,none⟩:Addr).add n=⟨b,off+n,none⟩:=by
 unfold Addr.add;split
 ·subst_vars;rfl
 ·rfl
theorem q8{w:acj}{b off:Nat}{c:Array acg}{t:ach}{f:Nat×Nat}(hb:w.heap[b]?=some (.cells c t f)) :
  w.cell? ⟨b,off,none⟩=c[off]? := by
 simp[World.cell?,hb]
theorem wb{P:aci}{w:acj}{T:ach}{ti:TI}{b off:Nat}{c:Array acg}{t:ach}{f:Nat×Nat}
  (hT:aI P T=some ti) (hb:w.heap[b]?=some (.cells c t f)) (hle:off+ti.size<=c.size) (h1:ti.ag=true\/ti.size=1) :
  (loadVar T ⟨b,off,none⟩).run P w=.ok (if ti.ag then .agg (c.extract off (off+ti.size))else c.getD off undef) w:=by
 simp only[loadVar,Sem.run_bind,LB hT,Result.andThen_ok];cases ha:ti.ag with
 |true =>
  simp only[if_true];have hl:(c.extract off (off+ti.size)).toList.length=ti.size:=by simp;omega
  have:=run_loadCells_list (P:=P) w ⟨b,off,none⟩ (c.extract off (off+ti.size)).toList (by
   intro j v hj;rw[jl,q8 hb];simp only[Z5,aak]at hj;split at hj
   ·exact hj
   ·cases hj)
  rw[hl]at this;simp only[Sem.run_bind,gE hT,Result.andThen_ok,this,Sem.run_pure,Array.toArray_toList]
 |false =>
  rcases h1 with h1 |h1
  ·rw[ha]at h1;cases h1
  ·simp only [ZX, if_false, run_load, q8 hb];have:off < c.size:=by omega
   simp[this,aa1]
def kN(ag:Bool)(l:List AV):AV:=match ag with
  |true=>.agg l
  |false=>match l with |x::_=>x |[]=>default
theorem x4{g:Nat->Array acg->Prop}{S:Nat->Nat->Prop}{m:Nat->Option Nat}{c:Array acg}{off n:Nat}{ag:Bool}{xs:List AV}
  (hn:xs.length=n) (hle:off+n<=c.size) (h1:ag=true\/n=1) (ho:∀(j:Nat)(x:AV),xs[j]?=some x->x.one=true)
  (hr:∀(j:Nat)(u:acg)(x:AV),xs[j]?=some x->c[off+j]?=some u->Rep g S m u x) :
  Rep g S m (if ag then .agg (c.extract off (off+n))else c.getD off undef) (kN ag xs):=by
 cases ag with
 |true =>
  simp only[if_true,kN];refine .agg (by simp;omega) ho ?_;intro j u x hu hx;simp only[aak]at hu;split at hu
  ·exact hr j u x hx hu
  ·cases hu
 |false =>
  rcases h1 with h1 |h1
  ·cases h1
  ·subst h1
   match xs,hn with
   |[x],_ =>
    simp only[ZX,if_false,kN];have:off<c.size:=by omega
    refine hr 0 _ x rfl ?_;simp[this,aa1]
def bW(P:aci)(N:Nat)(c:Code)(Q:Exit->AS->Prop)(s:AS):Prop :=
  ∀C m a w n,C.nt=N->RelM C s m a w->c.wpIn (Fw C.ro) n P (fun e a' w'=>∃s' m',Q e s'/\RelM C s' m' a' w') a w
def kF(P:aci)(N:Nat)(c:Code)(Q:Exit->AS->Prop)(s:AS):Prop :=
  ∀C m a w n,C.ro=none->C.nt=N->RelM C s m a w->c.wpIn (Fw C.ro) n P (fun e a' w'=>∃s' m',Q e s'/\RelM C s' m' a' w') a w
theorem bW.out{P:aci}{N:Nat}{c:Code}{Q:Exit->AS->Prop}{s:AS}(h:bW P N c Q s):kF P N c Q s:=fun C m a w n _=>h C m a w n
def Wk(s s':AS):Prop:=∀C m a w,RelM C s m a w->∃m',RelM C s' m' a w
theorem Wk.refl(s:AS):Wk s s:=fun _ m _ _ h=>⟨m,h⟩
theorem Wk.trans{s s' s'':AS}(h:Wk s s')(h':Wk s' s''):Wk s s'':=fun C m a w hr=>by
 obtain⟨m',hr'⟩:=h C m a w hr;exact h' C m' a w hr'
variable{P:aci}{N:Nat}{Q:Exit->AS->Prop}{s:AS}
theorem uw{c:Code}{s':AS}(hw:Wk s s')(h:bW P N c Q s'):bW P N c Q s:=by
 intro C m a w n hN hr;obtain⟨m',hr'⟩:=hw C m a w hr;exact h C m' a w n hN hr'
theorem jU{c:Code}{Q':Exit->AS->Prop}(h:bW P N c Q s)(hq:∀e s,Q e s->Q' e s):bW P N c Q' s :=
 fun C m a w n hN hr=>wpIn_mono (h C m a w n hN hr) fun e _ _ ⟨s',m',hQ,hr'⟩=>⟨s',m',hq e s' hQ,hr'⟩
theorem Pg{c:Code}{p:Prop}(hp:∀C m a w,RelM C s m a w->p)(h:p->bW P N c Q s):bW P N c Q s :=
 fun C m a w n hN hr=>h (hp C m a w hr) C m a w n hN hr
def IN(K:AS->Prop)(Q:Exit->AS->Prop):Exit->AS->Prop
  | .normal,s=>K s
  |e,s=>Q e s
theorem UD{x y:Code}(h:∀K:AS->Prop,(∀s,bW P N y Q s->K s)->bW P N x (IN K Q) s):bW P N (.seq x y) Q s:=by
 intro C m a w n hN hr;refine wpIn_seq (wpIn_mono (h (bW P N y Q) (fun _ h=>h) C m a w n hN hr) ?_);rintro e a' w' ⟨s',m',hq,hr'⟩;cases e with
 |normal=>exact hq C m' a' w' n hN hr'
 |_=>exact⟨s',m',hq,hr'⟩
theorem Ou(h:Q .normal s):bW P N .skip Q s:=fun _ m _ _ _ _ hr=>wpIn_skip ⟨s,m,h,hr⟩
theorem LC(h:Q .ret s):bW P N .ret Q s:=fun _ m _ _ _ _ hr=>wpIn_ret ⟨s,m,h,hr⟩
theorem Qy{id:Nat}(h:Q (.exit id) s):bW P N (.exit id) Q s:=fun _ m _ _ _ _ hr=>wpIn_exit ⟨s,m,h,hr⟩
def wS(id:Nat)(K:AS->Prop)(Q:Exit->AS->Prop):Exit->AS->Prop
  | .exit id',s=>match YQ id' id with |true=>K s |false=>Q (.exit id') s
  | .normal,s=>K s
  |e,s=>Q e s
theorem Ux{id:Nat}{c:Code}(h:bW P N c (wS id (Q .normal) Q) s):bW P N (.block id c) Q s:=by
 intro C m a w n hN hr;refine wpIn_block (wpIn_mono (h C m a w n hN hr) ?_);rintro e a' w' ⟨s',m',hq,hr'⟩;cases e with
 |exit id' =>
  simp only[Exit.inBlock];simp only[wS]at hq;split at hq
  ·rename_i hb;rw[ab6 (aax hb)];exact⟨s',m',hq,hr'⟩
  ·rename_i hb;rw[ab5 (YD hb)];exact⟨s',m',hq,hr'⟩
 |_=>exact⟨s',m',hq,hr'⟩
inductive Ev(s:AS):acf->AV->Prop
  |tmp {t:Nat} {x:AV} (h:s.get t=some x):Ev s (.tmp t) x
  |opt {t:Nat} {b:Bool} {x:AV} (h:s.get t=some (.opt b x)) (hb:b=true):Ev s (.tmp t) x
  |const (c:acg):Ev s (.const c) (.v c)
  |func (f:FuncId):Ev s (.func f) (.v (.func (.func f) #[] #[]))
theorem Ev.rep{C:Ctx}{m:Nat->Option Nat}{a:Act}{w:acj}(hr:RelM C s m a w){o:acf}{x:AV}(h:Ev s o x) :
  Rep (Im C.ext s.hp m w) (Sz w) m (a.eval o) x:=by
 cases h with
 |tmp h=>exact(hr.slots _ _ h).2
 | @opt t _ _ h hb =>
  have h2:=(hr.slots _ _ h).2;show Rep _ _ m (a.tmps.getD t undef) x;generalize a.tmps.getD t undef=u at h2;cases h2 with |opt h' _=>exact h' hb
 |const c=>exact .v _
 |func f=>exact .v _
theorem Hz{c:acf}{x y:Code}{b:Bool}(hc:Ev s c (.v (.bool b)))(ht:b=true->bW P N x Q s)(hf:b=false->bW P N y Q s) :
  bW P N (.cond c x y) Q s:=by
 intro C m a w n hN hr;have h:=hc.rep hr
 have:a.eval c=.bool b:=by
  generalize a.eval c=v at h;cases h;rfl
 exact wpIn_cond_split this (fun hb=>ht hb C m a w n hN hr) (fun hb=>hf hb C m a w n hN hr)
theorem Sy{F:Fence}{n9:Nat}{c:Code}{Q:Exit->Act->acj->Prop}{a:Act}{w:acj}(I:Nat->Act->acj->Prop){n:Nat}(h₀:I n a w)
  (round:∀n a w,I n a w->c.wpIn F n9 P (Exit.then (fun a' w'=>∃n',n'<n/\I n' a' w') Q) a w):(Code.loop c).wpIn F n9 P Q a w:=by
 intro b k cs hro hb hr
 have key:∀n a w,I n a w->∃e a' w',Q e a' w'/\ArrivesIn (Machine.fenced P F) P (lone (b.atR a (.code c :: .inLoop c::k)) cs w) b k cs e a' w':=by
  intro n
  induction n using Nat.strongRecOn with
  |_ n ih =>
   intro a w hI;obtain⟨e,a₁,w₁,hq,harr⟩:=round n a w hI b (.inLoop c::k) cs hro hb hr;cases e with
   |normal =>
    obtain⟨n',hlt,hI₁⟩:=hq;obtain⟨e₂,a₂,w₂,hq₂,harr₂⟩:=ih n' hlt a₁ w₁ hI₁;exact⟨e₂,a₂,w₂,hq₂,.of_steps (StepsIn.trans harr (.one (fenced_calm hb hr rfl) stepR_inLoop)) harr₂⟩
   |_=>exact⟨_,a₁,w₁,hq,.pass (x:=.inLoop c) rfl (fun _ _=>.inl (by simp)) harr⟩
 obtain⟨e,a',w',hq,harr⟩:=key n a w h₀;exact⟨e,a',w',hq,.of_steps (.one (fenced_calm hb hr rfl) stepR_loop) harr⟩
theorem qi{c:Code}(I:Nat->AS->Prop){n:Nat}{s':AS}(hw:Wk s s')(h₀:I n s')
  (round:∀n s,I n s->∀K:AS->Prop,(∀s1 s2 n',Wk s1 s2->I n' s2->n'<n->K s1)->bW P N c (IN K Q) s):bW P N (.loop c) Q s:=by
 intro C m a w n9 hN hr;obtain⟨m1,hr1⟩:=hw C m a w hr;refine Sy (fun n a w=>∃s m,I n s/\RelM C s m a w) ⟨s',m1,h₀,hr1⟩ ?_;rintro n a w ⟨s,m,hI,hr⟩;refine wpIn_mono (round n s hI (fun s1=>∃s2 n',Wk s1 s2/\I n' s2/\n'<n) (fun s1 s2 n' h1 h2 h3=>⟨s2,n',h1,h2,h3⟩) C m a w n9 hN hr) ?_;rintro e a' w' ⟨s1,m1,hq,hr1⟩;cases e with
 |normal =>
  obtain⟨s2,n',h1,h2,h3⟩:=hq;obtain⟨m2,hr2⟩:=h1 C m1 a' w' hr1;exact⟨n',h3,s2,m2,h2,hr2⟩
 |_=>exact⟨s1,m1,hq,hr1⟩
theorem M9{id:Nat}{ops:List Oper}(hd:ops.all nd=true)(h:g9 P N ops.toArray ops s [] (fun s' _=>Q .normal s')):bW P N (.region id ops.toArray false) Q s:=by
 intro C m a w n hN hr;refine wpIn_region ?_;have:=O9 (C:=C) (n:=n) hN (Q:=fun e a' w'=>∃s' m',Q e s'/\RelM C s' m' a' w') (fun s us m a w hq hr=>⟨s,m,hq,hr⟩) ops 0 s [] m a w (by simp) hd h hr;rw[List.range_eq_range'];simpa using this
theorem Qq{R:Array Oper}{K:AS->List Out->Prop}:∀(ops:List Oper)(s:AS)(us:List Out),g9 P N R ops s us K ->
  ∃us',us'.length=ops.length/\K (vw ops.toArray us' s (fun _=>true) ops.length) (us++us') /\
   ∀(i:Nat) o u,ops[i]?=some o->us'[i]?=some u->Step P N R (vw ops.toArray us' s (fun _=>true) i) o u:=by
 intro ops
 induction ops with
 |nil=>intro s us h;exact⟨[],rfl,by simpa[vw,g9]using h,by simp⟩
 |cons o ops ih =>
  intro s us h;obtain⟨u,hs,hn,h⟩:=h;obtain⟨us',h1,h2,h3⟩:=ih _ _ h
  have hv:∀i,vw (o::ops).toArray (u::us') s (fun _=>true) (i+1)=vw ops.toArray us' (s.app o.dst u) (fun _=>true) i:=by
   intro i
   induction i with
   |zero=>simp[vw]
   |succ i ih =>
    rw[vw,ih,vw];simp
  refine⟨u::us',by simp[h1],?_,?_⟩
  ·rw[aa4,hv];simpa using h2
  ·intro i o' u' ho hu;cases i with
   |zero=>simp at ho hu;subst ho;subst hu;simpa[vw]using hs
   |succ i =>
    rw[hv];exact h3 i o' u' (by simpa using ho) (by simpa using hu)
theorem Py{id:Nat}{ops:List Oper}(hd:ops.all nd=true)(hm:P.follows .mixedOrders=true)
  (h:g9 P N ops.toArray ops s [] (fun s' us=>chk ops us s=true/\Q .normal s')):bW P N (.region id ops.toArray true) Q s:=by
 intro C m a w n hN hr;obtain⟨us,h1,⟨h2,h3⟩,h4⟩:=Qq ops s [] h;refine wpIn_region_any hm ?_;refine MK (C:=C) (by simpa using hd) hN (U:=us) (s0:=s) (by simpa using h1) (by simpa using h4) (by simpa using h2) ?_ _ _ (by simp) ?_ ?_ m a _ ?_
 ·intro m a w hr;exact⟨_,m,h3,by simpa using hr⟩
 ·intro i o _ hl;simp only[aa1,aag]at hl;split at hl <;> simp at hl
 ·exact abe (List.length_filter_le _ _) (by simp)
 ·have hz:∀n,vw ops.toArray us s (fun i=>(Z7 ops.toArray.size false).getD i false) n=s:=by
   intro n
   induction n with
   |zero=>rfl
   |succ n ih =>
    rw[vw,ih]
    have:(Z7 ops.toArray.size false).getD n false=false:=by
     simp only[aa1,aag];split <;> rfl
    rw[this]
  rw[hz];exact hr.drawn _
end Go.Lw
namespace Go.Lw
variable{P:aci}{N:Nat}{R:Array Oper}{s:AS}{pos:String}{after:Array Edge}
theorem ar{o:Oper}{ops:List Oper}{us:List Out}{K:AS->List Out->Prop}{u:Out}(hs:Step P N R s o u)(hn:jO s u)
  (h:g9 P N R ops (s.app o.dst u) (us++[u]) K):g9 P N R (o::ops) s us K:=⟨u,hs,hn,h⟩
def ax:acf->List Nat
  | .tmp t=>[t]
  |_=>[]
theorem Ev.agree{s':AS}{u:Out}(h:gH s s' u){o:acf}{x:AV}(he:Ev s o x)(hs:∀t∈ax o,t∈u.rt):Ev s' o x:=by
 cases he with
 |tmp ht=>exact .tmp ((h.1 _ (hs _ (by simp[ax]))).trans ht)
 |opt ht hb=>exact .opt ((h.1 _ (hs _ (by simp[ax]))).trans ht) hb
 |const c=>exact .const c
 |func f=>exact .func f
theorem mP{o:Oper}(hg:o.guard=none)(y:Nat->Option Bool):Region.wanted o y=true:=by simp[Region.wanted,hg]
theorem dJ{o:Oper}{d:Nat}{x:AV}{rt rd:List Nat}(hg:o.guard=none)(hd:o.dst=some d)(hN:X9 d N=true)
  (h:∀s',gH s s' ⟨some x,[],rt,rd⟩->∀C m a w,RelM C s' m a w ->
   ∃v,(execOp a.eval o).run P w=.ok (.value v) w/\Rep (Im C.ext s'.hp m w) (Sz w) m v x):Step P N R s o ⟨some x,[],rt,rd⟩:=by
 refine⟨fun s' hag _ C m a w Q next hC hr hnext=>?_⟩;rw[ab6 (mP hg _)];refine tf ?_;obtain⟨v,h1,h2⟩:=h s' hag C m a w hr;rw[YB]at hN;unfold Oper.wp;rw[h1];simp only[Oper.upon,hd,Act.put];refine hnext m _ _ ?_;have:=hr.put d v (some x) (fun y hy=>by cases hy;exact⟨by have:=hr.nt;omega,h2⟩);simpa[AS.app,hd]using this
theorem Np{d:Nat}{x:acf}{v:AV}{t:ach}(he:Ev s x v)(hN:X9 d N=true) :
  Step P N R s ⟨some d,.move x,t,pos,after,none⟩ ⟨some v,[],ax x,[]⟩ :=
 dJ rfl rfl hN fun s' hag C m a w hr=>⟨a.eval x,rfl,(he.agree hag (fun _ h=>h)).rep hr⟩
theorem LQ{d:Nat}{x:acf}{v:AV}{t:ach}(he:Ev s x v)(hN:X9 d N=true) :
  Step P N R s ⟨some d,.assign x,t,pos,after,none⟩ ⟨some v,[],ax x,[]⟩ :=
 dJ rfl rfl hN fun s' hag C m a w hr=>⟨a.eval x,rfl,(he.agree hag (fun _ h=>h)).rep hr⟩
def Sub(x y:AV):Prop:=∀g S m v,Rep g S m v x->Rep g S m v y
theorem Sub.nil(sz:Nat)(a:Option Addr)(c:Nat):Sub (.v (.slice a 0 c)) (.lst sz []):=fun g S m v h=>by cases h;exact .lst0 a c sz
theorem p5{d:Nat}{op:Op}{x:acf}{vx y:acg}{t:ach}(he:Ev s x (.v vx))(hN:X9 d N=true)
  (h:∀(ρ:acf->acg)(w:acj),ρ x=vx->(execOp ρ ⟨some d,op,t,pos,after,none⟩).run P w=.ok (.value y) w) :
  Step P N R s ⟨some d,op,t,pos,after,none⟩ ⟨some (.v y),[],ax x,[]⟩ :=
 dJ rfl rfl hN fun s' hag C m a w hr=>⟨y,h _ _ (by
  have:=(he.agree hag (fun _ h=>h)).rep hr;generalize a.eval x=u at this;cases this;rfl),.v y⟩
theorem j4{d:Nat}{op:Op}{x x':acf}{vx vx' y:acg}{t:ach}(he:Ev s x (.v vx))(he':Ev s x' (.v vx'))
  (hN:X9 d N=true)
  (h:∀(ρ:acf->acg)(w:acj),ρ x=vx->ρ x'=vx'->(execOp ρ ⟨some d,op,t,pos,after,none⟩).run P w=.ok (.value y) w) :
  Step P N R s ⟨some d,op,t,pos,after,none⟩ ⟨some (.v y),[],ax x++ax x',[]⟩ :=
 dJ rfl rfl hN fun s' hag C m a w hr=>⟨y,h _ _ (by
  have:=(he.agree hag (fun _ h=>aa2.2 (.inl h))).rep hr;generalize a.eval x=u at this;cases this;rfl) (by
  have:=(he'.agree hag (fun _ h=>aa2.2 (.inr h))).rep hr;generalize a.eval x'=u at this;cases this;rfl),.v y⟩
theorem WS{d:Nat}{x:acf}{b:Bool}{T t:ach}(he:Ev s x (.v (.bool b)))(hN:X9 d N=true) :
  Step P N R s ⟨some d,.unOp .not T x,t,pos,after,none⟩ ⟨some (.v (.bool !b)),[],ax x,[]⟩ :=
 p5 he hN fun ρ w h=>by simp[execOp,h,Op.unary]
theorem yA{d:Nat}{x:acf}{k:IntKind}{n:Int}{T t:ach}(he:Ev s x (.v (.int k n)))(hN:X9 d N=true) :
  Step P N R s ⟨some d,.unOp .neg T x,t,pos,after,none⟩ ⟨some (.v (.int k (k.wrap (0-n)))),[],ax x,[]⟩ :=
 p5 he hN fun ρ w h=>by simp[execOp,h,Op.unary,Op.intArith]
theorem RR{d:Nat}{x:acf}{k k':IntKind}{n:Int}{S T t:ach}{ts ti:TI}(he:Ev s x (.v (.int k n)))
  (hN:X9 d N=true) (hS:aI P S=some ts) (hT:aI P T=some ti) (hk:ti.k=.int k') :
  Step P N R s ⟨some d,.convert S T x,t,pos,after,none⟩ ⟨some (.v (.int k' (k'.wrap n))),[],ax x,[]⟩ :=
 p5 he hN fun ρ w h=>by
  obtain⟨d1,h1,-,-,-⟩:=ez hS w;obtain⟨d2,h2,h3,-,-⟩:=ez hT w;obtain rfl:=My (h3.trans hk);simp[execOp,h,convert,h1,h2,Conv.intToInt]
theorem WL{d:Nat}{x:acf}{v:acg}{T t:ach}{ti:TI}(he:Ev s x (.v v))(hN:X9 d N=true)
  (hT:aI P T=some ti) (hk:(match ti.k with | .int _=>true | .struct=>true | .pointer _=>true | .string=>true |_=>false)=true) :
  Step P N R s ⟨some d,.makeInterface T x,t,pos,after,none⟩ ⟨some (.v (.iface T v)),[],ax x,[]⟩ :=
 p5 he hN fun ρ w h=>by
  obtain⟨d2,h2,h3,-,-⟩:=ez hT w
  have:∀ms,d2≠.interface ms:=by
   rintro ms rfl;rw[<- h3]at hk;simp[gx]at hk
  simp only[execOp,h,Instr.makeInterface,Sem.run_bind,h2,Result.andThen_ok];cases d2 <;> first |rfl |exact acc rfl (this _)
def f0(op:BinOp)(a b:Int):Int:=match op with | .add=>a+b | .sub=>a-b |_=>a*b
theorem Rj{d:Nat}{op:BinOp}{x y:acf}{k:IntKind}{a b:Int}{S T t:ach}
  (hx:Ev s x (.v (.int k a))) (hy:Ev s y (.v (.int k b))) (hop:(match op with | .add | .sub | .mul=>true |_=>false)=true) (hN:X9 d N=true) :
  Step P N R s ⟨some d,.binOp op S x y T,t,pos,after,none⟩ ⟨some (.v (.int k (k.wrap (f0 op a b)))),[],ax x++ax y,[]⟩ :=
 j4 hx hy hN fun ρ w h1 h2=>by
  cases op <;> simp at hop <;> simp[execOp,h1,h2,eqGuard,binOp,Op.intArith,f0]
def aa(op:BinOp)(a b:Int):Bool:=match op with
  | .eql=>a==b | .neq=>a != b | .lss=>a<b | .leq=>a<=b | .gtr=>a>b |_=>a>=b
theorem Le{d:Nat}{op:BinOp}{x y:acf}{k:IntKind}{a b:Int}{S T t:ach}
  (hx:Ev s x (.v (.int k a))) (hy:Ev s y (.v (.int k b))) (hop:(match op with | .eql | .neq | .lss | .leq | .gtr | .geq=>true |_=>false)=true) (hN:X9 d N=true) :
  Step P N R s ⟨some d,.binOp op S x y T,t,pos,after,none⟩ ⟨some (.v (.bool (aa op a b))),[],ax x++ax y,[]⟩ :=
 j4 hx hy hN fun ρ w h1 h2=>by
  cases op <;> simp at hop <;> simp[execOp,h1,h2,eqGuard,binOp,Op.intCmp,aa]
theorem RD{d:Nat}{x y:acf}{k:IntKind}{a b:Int}{S T t:ach}
  (hx:Ev s x (.v (.int k a))) (hy:Ev s y (.v (.int k b))) (hb:b≠0) (hN:X9 d N=true) :
  Step P N R s ⟨some d,.binOp .quo S x y T,t,pos,after,none⟩ ⟨some (.v (.int k (k.wrap (a.tdiv b)))),[],ax x++ax y,[]⟩ :=
 j4 hx hy hN fun ρ w h1 h2=>by simp[execOp,h1,h2,eqGuard,binOp,Op.intDiv,hb]
theorem Mr{d:Nat}{x y:acf}{k:IntKind}{a b:Int}{S T t:ach}
  (hx:Ev s x (.v (.int k a))) (hy:Ev s y (.v (.int k b))) (hb:b≠0) (hN:X9 d N=true) :
  Step P N R s ⟨some d,.binOp .rem S x y T,t,pos,after,none⟩ ⟨some (.v (.int k (a.tmod b))),[],ax x++ax y,[]⟩ :=
 j4 hx hy hN fun ρ w h1 h2=>by simp[execOp,h1,h2,eqGuard,binOp,Op.intDiv,hb]
theorem Uy{d:Nat}{x y:acf}{k k':IntKind}{a b:Int}{S T t:ach}
  (hx:Ev s x (.v (.int k a))) (hy:Ev s y (.v (.int k' b))) (hb:0<=b) (hN:X9 d N=true) :
  Step P N R s ⟨some d,.binOp .shl S x y T,t,pos,after,none⟩ ⟨some (.v (.int k (k.wrap (a*2^(min b.toNat k.bits))))),[],ax x++ax y,[]⟩ :=
 j4 hx hy hN fun ρ w h1 h2=>by simp[execOp,h1,h2,eqGuard,binOp,Op.shift,Int.not_lt.2 hb]
theorem Xh{d:Nat}{x y:acf}{k k':IntKind}{a b:Int}{S T t:ach}
  (hx:Ev s x (.v (.int k a))) (hy:Ev s y (.v (.int k' b))) (hb:0<=b) (hN:X9 d N=true) :
  Step P N R s ⟨some d,.binOp .shr S x y T,t,pos,after,none⟩ ⟨some (.v (.int k (a.fdiv (2^(min b.toNat k.bits))))),[],ax x++ax y,[]⟩ :=
 j4 hx hy hN fun ρ w h1 h2=>by simp[execOp,h1,h2,eqGuard,binOp,Op.shift,Int.not_lt.2 hb]
def pf(op:BinOp)(k:IntKind)(a b:Int):Int :=
  let x:=BitVec.ofInt k.bits a
  let y:=BitVec.ofInt k.bits b
  k.wrap ((match op with | .and=>x &&& y | .or=>x ||| y | .xor=>x ^^^ y |_=>x &&& ~~~y).toNat:Int)
theorem Xj{d:Nat}{op:BinOp}{x y:acf}{k:IntKind}{a b:Int}{S T t:ach}
  (hx:Ev s x (.v (.int k a))) (hy:Ev s y (.v (.int k b))) (hop:(match op with | .and | .or | .xor | .andNot=>true |_=>false)=true) (hN:X9 d N=true) :
  Step P N R s ⟨some d,.binOp op S x y T,t,pos,after,none⟩ ⟨some (.v (.int k (pf op k a b))),[],ax x++ax y,[]⟩ :=
 j4 hx hy hN fun ρ w h1 h2=>by
  cases op <;> simp at hop <;> simp[execOp,h1,h2,eqGuard,binOp,Op.intBits,pf]
theorem LG{d:Nat}{x y:acf}{a b:ByteArray}{S T t:ach}
  (hx:Ev s x (.v (.string a))) (hy:Ev s y (.v (.string b))) (hN:X9 d N=true) :
  Step P N R s ⟨some d,.binOp .eql S x y T,t,pos,after,none⟩ ⟨some (.v (.bool (a.toList==b.toList))),[],ax x++ax y,[]⟩ :=
 j4 hx hy hN fun ρ w h1 h2=>by simp[execOp,h1,h2,eqGuard,binOp,Op.stringOp]
theorem Ql{d:Nat}{x y:acf}{a b:ByteArray}{S T t:ach}
  (hx:Ev s x (.v (.string a))) (hy:Ev s y (.v (.string b))) (hN:X9 d N=true) :
  Step P N R s ⟨some d,.binOp .neq S x y T,t,pos,after,none⟩ ⟨some (.v (.bool !(a.toList==b.toList))),[],ax x++ax y,[]⟩ :=
 j4 hx hy hN fun ρ w h1 h2=>by simp[execOp,h1,h2,eqGuard,binOp,Op.stringOp]
theorem Dx{S:ach}{w:acj}(h3:(underlying S).run P w=.ok .bool w)(a b:Bool):(Op.equal S (.bool a) (.bool b)).run P w=.ok (a==b) w:=by
 show(Op.equalIn (9999+1) S _ _).run P w=_;rw[Op.equalIn];simp[h3]
theorem Gt{S:ach}{w:acj}{ms:Array (String×ach)}(h3:(underlying S).run P w=.ok (.interface ms) w){v:acg}
  (hv:v=.nilIface\/∃T u,v=.iface T u):(Op.equal S v .nilIface).run P w=.ok (match v with | .nilIface=>true |_=>false) w:=by
 show(Op.equalIn (9999+1) S _ _).run P w=_;rw[Op.equalIn];rcases hv with rfl |⟨T',u,rfl⟩ <;> simp[h3]
theorem PW{d:Nat}{x y:acf}{a b:Bool}{S T t:ach}{ti:TI}
  (hx:Ev s x (.v (.bool a))) (hy:Ev s y (.v (.bool b))) (hS:aI P S=some ti) (hk:ti.k=.bool) (hN:X9 d N=true) :
  Step P N R s ⟨some d,.binOp .eql S x y T,t,pos,after,none⟩ ⟨some (.v (.bool (a==b))),[],ax x++ax y,[]⟩ :=
 j4 hx hy hN fun ρ w h1 h2=>by
  obtain⟨d2,h3,h4,-,-⟩:=ez hS w;obtain rfl:=Eb (h4.trans hk);simp[execOp,h1,h2,eqGuard,binOp,Dx h3]
theorem Oc{d:Nat}{x y:acf}{a b:Bool}{S T t:ach}{ti:TI}
  (hx:Ev s x (.v (.bool a))) (hy:Ev s y (.v (.bool b))) (hS:aI P S=some ti) (hk:ti.k=.bool) (hN:X9 d N=true) :
  Step P N R s ⟨some d,.binOp .neq S x y T,t,pos,after,none⟩ ⟨some (.v (.bool (a != b))),[],ax x++ax y,[]⟩ :=
 j4 hx hy hN fun ρ w h1 h2=>by
  obtain⟨d2,h3,h4,-,-⟩:=ez hS w;obtain rfl:=Eb (h4.trans hk);simp[execOp,h1,h2,eqGuard,binOp,Dx h3,bne]
def d5:acg->Bool
  | .nilIface=>true
  |_=>false
theorem VZ{d:Nat}{x:acf}{v:acg}{S T t:ach}{ti:TI}{n:Nat}
  (hx:Ev s x (.v v)) (hv:v=.nilIface\/∃T u,v=.iface T u) (hS:aI P S=some ti) (hk:ti.k=.iface n) (hN:X9 d N=true) :
  Step P N R s ⟨some d,.binOp .eql S x (.const .nilIface) T,t,pos,after,none⟩ ⟨some (.v (.bool (d5 v))),[],ax x++[],[]⟩ :=
 dJ rfl rfl hN fun s' hag C m a w hr=>⟨.bool (d5 v),by
  have h:=(hx.agree hag (fun _ h=>aa2.2 (.inl h))).rep hr
  have h1:a.eval x=v:=by
   generalize a.eval x=u at h;cases h;rfl
  have h2:a.eval (.const .nilIface)=.nilIface:=rfl;obtain⟨d2,h3,h4,-,-⟩:=ez hS w;obtain⟨ms,rfl,-⟩:=FM (h4.trans hk);have h5:=Gt h3 hv;rcases hv with rfl |⟨T',u,rfl⟩ <;> simp[execOp,h1,h2,eqGuard,binOp,h5,d5],.v _⟩
theorem Pu{d:Nat}{x:acf}{v:acg}{S T t:ach}{ti:TI}{n:Nat}
  (hx:Ev s x (.v v)) (hv:v=.nilIface\/∃T u,v=.iface T u) (hS:aI P S=some ti) (hk:ti.k=.iface n) (hN:X9 d N=true) :
  Step P N R s ⟨some d,.binOp .neq S x (.const .nilIface) T,t,pos,after,none⟩ ⟨some (.v (.bool !(d5 v))),[],ax x++[],[]⟩ :=
 dJ rfl rfl hN fun s' hag C m a w hr=>⟨.bool !(d5 v),by
  have h:=(hx.agree hag (fun _ h=>aa2.2 (.inl h))).rep hr
  have h1:a.eval x=v:=by
   generalize a.eval x=u at h;cases h;rfl
  have h2:a.eval (.const .nilIface)=.nilIface:=rfl;obtain⟨d2,h3,h4,-,-⟩:=ez hS w;obtain⟨ms,rfl,-⟩:=FM (h4.trans hk);have h5:=Gt h3 hv;rcases hv with rfl |⟨T',u,rfl⟩ <;> simp[execOp,h1,h2,eqGuard,binOp,h5,d5],.v _⟩
theorem Vm{d:Nat}{x:acf}{sz:Nat}{es:List AV}{T t:ach}{ti:TI}{e:Nat}
  (hx:Ev s x (.lst sz es)) (hT:aI P T=some ti) (hk:ti.k=.slice e) (hN:X9 d N=true) :
  Step P N R s ⟨some d,.call ⟨.builtin .len,#[x],#[T]⟩,t,pos,after,none⟩ ⟨some (.v (.int .i64 es.length)),[],ax x,[]⟩ :=
 dJ rfl rfl hN fun s' hag C m a w hr=>⟨.int .i64 es.length,by
  have h:=(hx.agree hag (fun _ h=>h)).rep hr;obtain⟨d2,h3,h4,-,-⟩:=ez hT w;obtain rfl:=iS (h4.trans hk);generalize hu:a.eval x=u at h;cases h <;> simp[execOp,resolve,hu,invoke,builtin,Builtin.len_,h3,goInt],.v _⟩
theorem Wv{d:Nat}{x:acf}{k sz off len:Nat}{T t:ach}{ti:TI}{e:Nat}
  (hx:Ev s x (.ms k sz off len)) (hT:aI P T=some ti) (hk:ti.k=.slice e) (hN:X9 d N=true) :
  Step P N R s ⟨some d,.call ⟨.builtin .len,#[x],#[T]⟩,t,pos,after,none⟩ ⟨some (.v (.int .i64 len)),[],ax x,[]⟩ :=
 dJ rfl rfl hN fun s' hag C m a w hr=>⟨.int .i64 len,by
  have h:=(hx.agree hag (fun _ h=>h)).rep hr;obtain⟨d2,h3,h4,-,-⟩:=ez hT w;obtain rfl:=iS (h4.trans hk);generalize hu:a.eval x=u at h;cases h <;> simp[execOp,resolve,hu,invoke,builtin,Builtin.len_,h3,goInt],.v _⟩
theorem Vd{d:Nat}{x:acf}{b:ByteArray}{T t:ach}{ti:TI}
  (hx:Ev s x (.v (.string b))) (hT:aI P T=some ti) (hk:ti.k=.string) (hN:X9 d N=true) :
  Step P N R s ⟨some d,.call ⟨.builtin .len,#[x],#[T]⟩,t,pos,after,none⟩ ⟨some (.v (.int .i64 b.size)),[],ax x,[]⟩ :=
 p5 hx hN fun ρ w h=>by
  obtain⟨d2,h3,h4,-,-⟩:=ez hT w;obtain rfl:=Fx (h4.trans hk);simp[execOp,resolve,h,invoke,builtin,Builtin.len_,h3,goInt]
theorem WR{d:Nat}{x:acf}{a:Option Addr}{n c:Nat}{T t:ach}{ti:TI}{e:Nat}
  (hx:Ev s x (.v (.slice a n c))) (hT:aI P T=some ti) (hk:ti.k=.slice e) (hN:X9 d N=true) :
  Step P N R s ⟨some d,.call ⟨.builtin .len,#[x],#[T]⟩,t,pos,after,none⟩ ⟨some (.v (.int .i64 n)),[],ax x,[]⟩ :=
 p5 hx hN fun ρ w h=>by
  obtain⟨d2,h3,h4,-,-⟩:=ez hT w;obtain rfl:=iS (h4.trans hk);simp[execOp,resolve,h,invoke,builtin,Builtin.len_,h3,goInt]
theorem pX{d:Nat}{x y:acf}{a b:Int}{k:IntKind}{T T' t:ach}
  (hx:Ev s x (.v (.int k a))) (hy:Ev s y (.v (.int k b))) (hN:X9 d N=true) :
  Step P N R s ⟨some d,.call ⟨.builtin .max,#[x,y],#[T,T']⟩,t,pos,after,none⟩ ⟨some (.v (.int k (max a b))),[],ax x++ax y,[]⟩ :=
 j4 hx hy hN fun ρ w h1 h2=>by
  have:(if b>a then b else a)=max a b:=by split <;> omega
  simp[execOp,resolve,h1,h2,invoke,builtin,Builtin.max_,Builtin.max2,this]
theorem Vh{d:Nat}{x:acf}{xs:List AV}{i:Nat}{y:AV}{t:ach}
  (hx:Ev s x (.tup xs)) (hy:xs[i]?=some y) (hN:X9 d N=true) :
  Step P N R s ⟨some d,.extract x i,t,pos,after,none⟩ ⟨some y,[],ax x,[]⟩ :=
 dJ rfl rfl hN fun s' hag C m a w hr=>by
  have h:=(hx.agree hag (fun _ h=>h)).rep hr;generalize hu:a.eval x=u at h;cases h with
  | @tup _ vs _ hn hrr =>
   have hi:i<vs.size:=by
    rw[hn];rcases aay i xs.length with h |h
    ·exact h
    ·rw[aa5 h]at hy;cases hy
   exact⟨vs[i],by simp[execOp,hu,Instr.extract,hi],hrr i _ y (by simp[hi]) hy⟩
theorem TL{d:Nat}{c x y:acf}{b bx bz:Bool}{t:ach}(hc:Ev s c (.v (.bool b)))
  (hx:b=true->Ev s x (.v (.bool bx))) (hy:b=false->Ev s y (.v (.bool bz))) (hN:X9 d N=true) :
  Step P N R s ⟨some d,.pick c x y,t,pos,after,none⟩ ⟨some (.v (.bool (cond b bx bz))),[],ax c++(ax x++ax y),[]⟩ :=
 dJ rfl rfl hN fun s' hag C m a w hr=>by
  have hval:∀(o:acf)(z:Bool),(∀t∈ax o,t∈ax c++(ax x++ax y))->Ev s o (.v (.bool z))->a.eval o=.bool z:=by
   intro o z hsub h;have:=(h.agree hag hsub).rep hr;generalize a.eval o=u at this;cases this;rfl
  have h1:=hval c b (fun t h=>by simp[h]) hc;cases b with
  |true=>exact⟨.bool bx,by simp[execOp,h1,asBool,hval x bx (fun t h=>by simp[h]) (hx rfl)],.v _⟩
  |false=>exact⟨.bool bz,by simp[execOp,h1,asBool,hval y bz (fun t h=>by simp[h]) (hy rfl)],.v _⟩
theorem fa{d j g:Nat}{op:Op}{t:ach}{want b:Bool}{x:AV}{rt rd:List Nat}
  (hj:(R[j]?).bind (·.dst)=some g) (hb:s.get g=some (.v (.bool b))) (hN:X9 d N=true)
  (h:b=want->Step P N R s ⟨some d,op,t,pos,after,none⟩ ⟨some x,[],rt,rd⟩) :
  Step P N R s ⟨some d,op,t,pos,after,some (j,want)⟩ ⟨some (.opt (b==want) x),[],g::rt,rd⟩:=by
 refine⟨fun s' hag hnew C m a w Q next hC hr hnext=>?_⟩;have hg:=hr.slots g _ ((hag.1 g (by simp)).trans hb)
 have hgv:a.tmps[g]?=some (.bool b):=by
  obtain⟨h1,h2⟩:=hg;generalize hu:a.tmps.getD g undef=u at h2;cases h2;simp only[aa1]at hu;rw[Z8 h1]at hu ⊢;simpa using hu
 have hy:yielded R a.tmps j=some b:=by simp[yielded,hj,hgv]
 have hd:d<a.tmps.size:=by rw[YB]at hN;have:=hr.nt;omega
 by_cases hbw:b=want
 ·subst hbw;have hwt:Region.wanted ⟨some d,op,t,pos,after,some (j,b)⟩ (yielded R a.tmps) = true:=by simp [Region.wanted,hy]
  rw[ab6 hwt];have:=(h rfl).run s' ⟨fun t ht=>hag.1 t (by simp[show t∈rt from ht]),hag.2⟩ (fun k hk=>by cases hk) C m a w Q next hC hr (fun m' a' w' h'=>hnext m' a' w' ?_)
  ·rw[ab6 (mP rfl _)]at this;exact this
  ·refine⟨fun t y hy=>?_,h'.heap,h'.frame,h'.new,h'.keep,h'.defers,h'.nt⟩;simp only[iJ]at hy;split at hy
   ·rename_i hdt;cases hy;have:=h'.slots t x (by simp only[iJ,ab6 hdt]);exact⟨this.1,.opt (fun _=>this.2) (fun h=>by simp at h)⟩
   ·rename_i hdt;exact h'.slots t y (by simp only[iJ,ab5 hdt];exact hy)
 ·have hwt : ¬ Region.wanted ⟨some d, op, t, pos, after, some (j, want)⟩ (yielded R a.tmps) = true := by simp [Region.wanted, hy, hbw]
  rw[ab5 hwt];have:=hr.put d undef (some (.opt (b==want) x)) (fun y hy=>by cases hy;exact⟨hd,.opt (fun h=>acc (beq_iff_eq.1 h) hbw) (fun _=>rfl)⟩);refine hnext m _ _ ?_;simpa[AS.app,Act.put]using this
theorem q7{d j g:Nat}{op:Op}{t:ach}{want b c:Bool}{x:AV}{rt rd:List Nat}
  (hj:(R[j]?).bind (·.dst)=some g) (hb:s.get g=some (.opt c (.v (.bool b)))) (hN:X9 d N=true)
  (h:c=true->b=want->Step P N R s ⟨some d,op,t,pos,after,none⟩ ⟨some x,[],rt,rd⟩) :
  Step P N R s ⟨some d,op,t,pos,after,some (j,want)⟩ ⟨some (.opt (c&&b==want) x),[],g::rt,rd⟩:=by
 refine⟨fun s' hag hnew C m a w Q next hC hr hnext=>?_⟩;have hg:=hr.slots g _ ((hag.1 g (by simp)).trans hb);have hd:d<a.tmps.size:=by rw[YB]at hN;have:=hr.nt;omega
 have hgv:(c=true/\a.tmps[g]?=some (.bool b))\/(c=false/\a.tmps[g]?=some undef):=by
  obtain⟨h1,h2⟩:=hg;generalize hu:a.tmps.getD g undef=u at h2;simp only[aa1]at hu;rw[Z8 h1]at hu ⊢;simp only[aan]at hu;cases h2 with
  |opt h2 h2' =>
   cases c with
   |true=>have:=h2 rfl;cases this;exact .inl ⟨rfl,by rw[hu]⟩
   |false=>exact .inr ⟨rfl,by rw[hu,h2' rfl]⟩
 have hno:∀hwt:¬Region.wanted ⟨some d,op,t,pos,after,some (j,want)⟩ (yielded R a.tmps)=true,(c&&b==want)=false ->
   if Region.wanted ⟨some d,op,t,pos,after,some (j,want)⟩ (yielded R a.tmps)then wq P ⟨some d,op,t,pos,after,some (j,want)⟩ a w next Q
    else next (a.put (some d) undef) w:=by
  intro hwt hc;rw[ab5 hwt];have:=hr.put d undef (some (.opt (c&&b==want) x)) (fun y hy=>by cases hy;exact⟨hd,.opt (fun h=>by rw[hc]at h;cases h) (fun _=>rfl)⟩);refine hnext m _ _ ?_;simpa[AS.app,Act.put]using this
 rcases hgv with⟨rfl,hgv⟩ |⟨rfl,hgv⟩
 ·have hy : yielded R a.tmps j = some b := by simp [yielded, hj, hgv]
  by_cases hbw:b=want
  ·subst hbw;have hwt:Region.wanted ⟨some d,op,t,pos,after,some (j,b)⟩ (yielded R a.tmps) = true:=by simp [Region.wanted,hy]
   rw[ab6 hwt];have:=(h rfl rfl).run s' ⟨fun t ht=>hag.1 t (by simp[show t∈rt from ht]),hag.2⟩ (fun k hk=>by cases hk) C m a w Q next hC hr (fun m' a' w' h'=>hnext m' a' w' ?_)
   ·rw[ab6 (mP rfl _)]at this;exact this
   ·refine⟨fun t y hy=>?_,h'.heap,h'.frame,h'.new,h'.keep,h'.defers,h'.nt⟩;simp only[iJ]at hy;split at hy
    ·rename_i hdt;cases hy;have:=h'.slots t x (by simp only[iJ,ab6 hdt]);exact⟨this.1,.opt (fun _=>this.2) (fun h=>by simp at h)⟩
    ·rename_i hdt;exact h'.slots t y (by simp only[iJ,ab5 hdt];exact hy)
  ·exact hno (by simp[Region.wanted,hy,hbw]) (by simp[hbw])
 ·have hy : yielded R a.tmps j = none := by simp [yielded, hj, hgv, undef]
  exact hno (by simp[Region.wanted,hy]) rfl
end Go.Lw
namespace Go.Lw
variable{P:aci}{N:Nat}{R:Array Oper}{s:AS}{pos:String}{after:Array Edge}
def AV.ok:AV->Bool
  | .agg _=>true
  |x=>x.one
theorem AV.ok_spec{x:AV}(h:x.ok=true):(∃cs,x=.agg cs)\/x.one=true:=by
 cases x <;> simp_all [AV.ok]
theorem rP{C:Ctx}{m:Nat->Option Nat}{a:Act}{w:acj}(hr:RelM C s m a w){x:acf}{k off:Nat}(hx:Ev s x (.ptr k off)) :
  ∃b,m k=some b/\a.eval x=.pointer (some ⟨b,off,none⟩):=by
 have h:=hx.rep hr;generalize a.eval x=u at h;cases h with |ptr hm=>exact⟨_,hm,rfl⟩
theorem vX{C:Ctx}{m:Nat->Option Nat}{a:Act}{w:acj}(hr:RelM C s m a w){x:acf}{k sz i off:Nat}(hx:Ev s x (.eptr k sz i off)) :
  ∃b,m k=some b/\a.eval x=.pointer (some ⟨b,i*sz+off,none⟩):=by
 have h:=hx.rep hr;generalize a.eval x=u at h;cases h with |eptr hm=>exact⟨_,hm,rfl⟩
theorem nK{C:Ctx}{m:Nat->Option Nat}{a:Act}{w:acj}(hr:RelM C s m a w){x:acf}{v:acg}(hx:Ev s x (.v v)):a.eval x=v:=by
 have h:=hx.rep hr;generalize a.eval x=u at h;cases h;rfl
theorem vg{ext:Nat->Prop}{hp:Hp}{m:Nat->Option Nat}{w:acj}(h:HeapRel ext hp m w){k b:Nat}{cs:List AV}(hk:lk hp k=some (.box cs))(hm:m k=some b) :
  ∃c t,w.heap[b]?=some (.cells c t (0,0))/\c.size=cs.length/\(∀(j:Nat)(x:AV),cs[j]?=some x->x.one=true) /\
   ∀(j:Nat)(u:acg)(x:AV),c[j]?=some u->cs[j]?=some x->Rep (Im ext hp m w) (Sz w) m u x:=by
 have:=h.blk k _ hk;rw[hm]at this;cases this with |box hw hn h1 hr=>exact⟨_,_,hw,hn,h1,hr⟩
theorem sH{ext:Nat->Prop}{hp:Hp}{m:Nat->Option Nat}{w:acj}(h:HeapRel ext hp m w){k b sz:Nat}{es:List AV}(hk:lk hp k=some (.row sz es))(hm:m k=some b) :
  ∃c t,w.heap[b]?=some (.cells c t (0,0))/\es.length*sz<=c.size/\es.length<=bc/\(∀(i:Nat)(e:AV),es[i]?=some e->e.cells.length=sz) /\
   (∀(i j:Nat)(e x:AV),es[i]?=some e->e.cells[j]?=some x->x.one=true) /\
   ∀(i j:Nat)(e:AV)(u:acg)(x:AV),es[i]?=some e->e.cells[j]?=some x->c[i*sz+j]?=some u->Rep (Im ext hp m w) (Sz w) dA u x:=by
 have:=h.blk k _ hk;rw[hm]at this;cases this with |row hw hn hl hs h1 hr=>exact⟨_,_,hw,hn,hl,hs,h1,hr⟩
theorem TD{d:Nat}{x:acf}{k off:Nat}{cs:List AV}{T t:ach}{ti:TI}
  (hx:Ev s x (.ptr k off)) (hk:s.blk k=some (.box cs)) (hT:aI P T=some ti) (hle:Nat.ble (off+ti.size) cs.length=true)
  (h1:(ti.ag||YQ ti.size 1)=true) (hN:X9 d N=true) :
  Step P N R s ⟨some d,.load T x,t,pos,after,none⟩ ⟨some (kN ti.ag ((cs.drop off).take ti.size)),[],ax x,[k]⟩ :=
 dJ rfl rfl hN fun s' hag C m a w hr=>by
  rw[YS]at hle;have h1:ti.ag=true\/ti.size=1:=by simpa using h1
  obtain⟨b,hm,hv⟩:=rP hr (hx.agree hag (fun _ h=>h));obtain⟨c,t,hw,hn,ho,hrr⟩:=vg hr.heap ((hag.2 k (by simp)).trans hk) hm;refine⟨_,?_,x4 (c:=c) (off:=off) (n:=ti.size) (by simp;omega) oz h1 ?_ ?_⟩
  ·simp[execOp,Instr.loadAt,hv,Instr.sureAddr,wb hT hw (by omega:off+ti.size<=c.size) h1]
  ·intro j y hy;rw[abj]at hy;split at hy
   ·rw[abv]at hy;exact ho _ y hy
   ·cases hy
  ·intro j u y hy hu;rw[abj]at hy;split at hy
   ·rw[abv]at hy;exact hrr _ u y hu hy
   ·cases hy
theorem D0{g:Nat->Array acg->Prop}{S:Nat->Nat->Prop}{m:Nat->Option Nat}{u:acg}{x:AV}(h:Rep g S dA u x):Rep g S m u x :=
 h.mono (fun _ _ h=>h) (fun _ _ h=>h) (fun k b _ hb=>by cases hb)
theorem Pp{g:Nat->Array acg->Prop}{S:Nat->Nat->Prop}{m:Nat->Option Nat}{u:acg}{x:AV}(h:Rep g S m u x)(hx:x.nm=[]):Rep g S dA u x :=
 h.mono (fun _ _ h=>h) (fun _ _ h=>h) (fun k b hk _=>by have:=hk.mem;rw[hx]at this;cases this)
theorem mL{i n sz:Nat}(h:i<n):i*sz+sz<=n*sz:=by
 have:=abh sz (show i+1<=n from h);rw[YT]at this;exact this
theorem eK{d:Nat}{x:acf}{k sz i off:Nat}{es:List AV}{e:AV}{T t:ach}{ti:TI}
  (hx:Ev s x (.eptr k sz i off)) (hk:s.blk k=some (.row sz es)) (he:es[i]?=some e) (hT:aI P T=some ti) (hle:Nat.ble (off+ti.size) e.cells.length=true)
  (h1:(ti.ag||YQ ti.size 1)=true) (hN:X9 d N=true) :
  Step P N R s ⟨some d,.load T x,t,pos,after,none⟩ ⟨some (kN ti.ag ((e.cells.drop off).take ti.size)),[],ax x,[k]⟩ :=
 dJ rfl rfl hN fun s' hag C m a w hr=>by
  rw[YS]at hle;have h1:ti.ag=true\/ti.size=1:=by simpa using h1
  obtain⟨b,hm,hv⟩:=vX hr (hx.agree hag (fun _ h=>h));obtain⟨c,t,hw,hn,hl,hs,ho,hrr⟩:=sH hr.heap ((hag.2 k (by simp)).trans hk) hm
  have hi:i<es.length:=by
   rcases aay i es.length with h |h
   ·exact h
   ·rw[aa5 h]at he;cases he
  have hb:=mL (sz:=sz) hi;have hel:=hs i e he;refine⟨_,?_,x4 (c:=c) (off:=i*sz+off) (n:=ti.size) (by simp;omega) oz h1 ?_ ?_⟩
  ·simp[execOp,Instr.loadAt,hv,Instr.sureAddr,wb hT hw (by omega:i*sz+off+ti.size<=c.size) h1]
  ·intro j y hy;rw[abj]at hy;split at hy
   ·rw[abv]at hy;exact ho i _ e y he hy
   ·cases hy
  ·intro j u y hy hu;rw[abj]at hy;split at hy
   ·rw[abv]at hy;exact D0 (hrr i _ e u y he hy (by rw[<- hu];congr 1;omega))
   ·cases hy
theorem Ri{d:Nat}{x:acf}{xs:List AV}{T t:ach}{ti:TI}
  (hx:Ev s x (.iptr xs)) (hT:aI P T=some ti) (hle:(X9 0 ti.size&&Nat.ble ti.size xs.length)=true)
  (h1:(ti.ag||YQ ti.size 1)=true) (hN:X9 d N=true) :
  Step P N R s ⟨some d,.load T x,t,pos,after,none⟩ ⟨some (kN ti.ag (xs.take ti.size)),[],ax x,[]⟩ :=
 dJ rfl rfl hN fun s' hag C m a w hr=>by
  simp only[aaw,YS,YB]at hle;have h1:ti.ag=true\/ti.size=1:=by simpa using h1
  have h:=(hx.agree hag (fun _ h=>h)).rep hr;generalize hv:a.eval x=u at h;cases h with
  | @iptr _ b off cs _ u hb ho hu hrr =>
   obtain⟨_,_,t,f,hw⟩:=hb
   have hsz:off+ti.size<=cs.size:=by
    have hlt:ti.size-1<xs.length:=by omega
    have:=hu (ti.size-1) xs[ti.size-1] (by simp[hlt]);rcases aay (off+(ti.size-1)) cs.size with h |h
    ·omega
    ·rw[aal h]at this;cases this
   refine⟨_,?_,x4 (c:=cs) (off:=off) (n:=ti.size) (by simp;omega) oz h1 ?_ ?_⟩
   ·simp[execOp,Instr.loadAt,hv,Instr.sureAddr,wb hT hw hsz h1]
   ·intro j y hy;rw[abj]at hy;split at hy
    ·exact ho _ y hy
    ·cases hy
   ·intro j u' y hy hu';rw[abj]at hy;split at hy
    ·have:=hu j y hy;rw[hu']at this;cases this
     exact D0 (hrr j y hy)
    ·cases hy
theorem C2{T:ach}{ti:TI}{f o n:Nat}(hT:aI P T=some ti)(hk:ti.k=.struct)(hf:ti.fs[f]?=some (o,n))(hn:X9 0 n=true)
  (w:acj) (b off:Nat):(Instr.fieldAt T (.pointer (some ⟨b,off,none⟩)) f).run P w=.ok (.pointer (some ⟨b,off+o,none⟩)) w:=by
 rw[YB]at hn;obtain⟨d2,h2,h3,h4,-⟩:=ez hT w;obtain⟨fs,rfl⟩:=H5 (h3.trans hk);rw[<- h4]at hf;simp only[qe,aav,aas,Z5]at hf;obtain⟨fl,h5,h6⟩:=hf;cases h6;cases hi:P.info? fl.type with
 |none=>rw[hi]at hn;simp at hn
 |some j =>
  rw[hi]at hn;have hj:¬j.size=0:=by simp only at hn;omega
  simp[Instr.fieldAt,h2,h5,Instr.sureAddr,fieldPlace,sizeOf,typeInfo,hi,hj,jl]
theorem L0{d:Nat}{x:acf}{k off f o n:Nat}{T t:ach}{ti:TI}
  (hx:Ev s x (.ptr k off)) (hT:aI P T=some ti) (hk:ti.k=.struct) (hf:ti.fs[f]?=some (o,n)) (hn:X9 0 n=true) (hN:X9 d N=true) :
  Step P N R s ⟨some d,.fieldAddr T x f,t,pos,after,none⟩ ⟨some (.ptr k (off+o)),[],ax x,[]⟩ :=
 dJ rfl rfl hN fun s' hag C m a w hr=>by
  obtain⟨b,hm,hv⟩:=rP hr (hx.agree hag (fun _ h=>h));exact⟨_,by simp[execOp,hv,C2 hT hk hf hn],.ptr hm⟩
theorem SP{d:Nat}{x:acf}{k sz i off f o n:Nat}{T t:ach}{ti:TI}
  (hx:Ev s x (.eptr k sz i off)) (hT:aI P T=some ti) (hk:ti.k=.struct) (hf:ti.fs[f]?=some (o,n)) (hn:X9 0 n=true) (hN:X9 d N=true) :
  Step P N R s ⟨some d,.fieldAddr T x f,t,pos,after,none⟩ ⟨some (.eptr k sz i (off+o)),[],ax x,[]⟩ :=
 dJ rfl rfl hN fun s' hag C m a w hr=>by
  obtain⟨b,hm,hv⟩:=vX hr (hx.agree hag (fun _ h=>h));refine⟨.pointer (some ⟨b,i*sz+(off+o),none⟩),?_,.eptr hm⟩;simp[execOp,hv,C2 hT hk hf hn,Yr]
theorem U5{d:Nat}{x:acf}{xs:List AV}{f o n:Nat}{T t:ach}{ti:TI}
  (hx:Ev s x (.iptr xs)) (hT:aI P T=some ti) (hk:ti.k=.struct) (hf:ti.fs[f]?=some (o,n)) (hn:X9 0 n=true) (hN:X9 d N=true) :
  Step P N R s ⟨some d,.fieldAddr T x f,t,pos,after,none⟩ ⟨some (.iptr (xs.drop o)),[],ax x,[]⟩ :=
 dJ rfl rfl hN fun s' hag C m a w hr=>by
  have h:=(hx.agree hag (fun _ h=>h)).rep hr;generalize hv:a.eval x=u at h;cases h with
  | @iptr _ b off cs _ u hb ho hu hrr =>
   refine⟨_,by simp[execOp,hv,C2 hT hk hf hn];rfl,?_⟩;refine .iptr (fun j=>u (o+j)) hb ?_ ?_ ?_
   ·intro j c hc;rw[abv]at hc;exact ho _ c hc
   ·intro j c hc;rw[abv]at hc;rw[Yr];exact hu _ c hc
   ·intro j c hc;rw[abv]at hc;exact hrr _ c hc
theorem NA{d:Nat}{x ix:acf}{kk:IntKind}{i:Int}{sz:Nat}{es:List AV}{e:AV}{T E t:ach}{ti te:TI}
  (hx:Ev s x (.lst sz es)) (hi:Ev s ix (.v (.int kk i))) (hT:aI P T=some ti) (hk:ti.k=.slice E) (hE:aI P E=some te) (hsz:te.size=sz)
  (h0:0<=i) (he:es[i.toNat]?=some e) (hN:X9 d N=true) :
  Step P N R s ⟨some d,.indexAddr T x ix,t,pos,after,none⟩ ⟨some (.iptr e.cells),[],ax x++ax ix,[]⟩ :=
 dJ rfl rfl hN fun s' hag C m a w hr=>by
  have h:=(hx.agree hag (fun _ h=>aa2.2 (.inl h))).rep hr;have hiv:=nK hr (hi.agree hag (fun _ h=>aa2.2 (.inr h)));obtain⟨d2,h2,h3,-,-⟩:=ez hT w;obtain rfl:=iS (h3.trans hk)
  have hlt:i.toNat<es.length:=by
   rcases aay i.toNat es.length with h |h
   ·exact h
   ·rw[aa5 h]at he;cases he
  generalize hv:a.eval x=u at h;cases h with
  |lst0 a cap=>simp at hlt
  | @lst _ b off cap _ _ cs u hb hc hl hs ho hu hrr =>
   have hc1:0<=i/\i<(es.length:Int):=by omega
   subst hsz;refine⟨.pointer (some ⟨b,off+i.toNat*te.size,none⟩),?_,?_⟩
   ·simp[execOp,hv,hiv,Instr.indexAt,asIntOf,h2,hc1,gE hE,jl]
   ·refine .iptr (fun j=>u i.toNat j) hb (fun j c hc=>ho i.toNat j e c he hc) (fun j c hc=>hu i.toNat j e c he hc) (fun j c hc=>hrr i.toNat j e c he hc)
theorem mw{d:Nat}{x ix:acf}{kk:IntKind}{i:Int}{k sz off len:Nat}{T E t:ach}{ti te:TI}
  (hx:Ev s x (.ms k sz off len)) (hi:Ev s ix (.v (.int kk i))) (hT:aI P T=some ti) (hk:ti.k=.slice E) (hE:aI P E=some te) (hsz:te.size=sz)
  (h0:0<=i) (he:i<(len:Int)) (hN:X9 d N=true) :
  Step P N R s ⟨some d,.indexAddr T x ix,t,pos,after,none⟩ ⟨some (.eptr k sz (off+i.toNat) 0),[],ax x++ax ix,[]⟩ :=
 dJ rfl rfl hN fun s' hag C m a w hr=>by
  have h:=(hx.agree hag (fun _ h=>aa2.2 (.inl h))).rep hr;have hiv:=nK hr (hi.agree hag (fun _ h=>aa2.2 (.inr h)));obtain⟨d2,h2,h3,-,-⟩:=ez hT w;obtain rfl:=iS (h3.trans hk);generalize hv:a.eval x=u at h;cases h with
  |ms0=>simp at he;omega
  | @ms _ _ _ _ _ cap b hm hc hS =>
   subst hsz;refine⟨.pointer (some ⟨b,(off+i.toNat)*te.size+0,none⟩),?_,.eptr hm⟩;simp[execOp,hv,hiv,Instr.indexAt,asIntOf,h2,h0,he,gE hE,jl,YH]
theorem wg{d:Nat}{x ix:acf}{kk:IntKind}{i:Int}{b:ByteArray}{T t:ach}{ti:TI}
  (hx:Ev s x (.v (.string b))) (hi:Ev s ix (.v (.int kk i))) (hT:aI P T=some ti) (hk:ti.k=.string)
  (h0:0<=i) (he:i<(b.size:Int)) (hN:X9 d N=true) :
  Step P N R s ⟨some d,.index T x ix,t,pos,after,none⟩ ⟨some (.v (.int .u8 (b.data.getD i.toNat 0).toNat)),[],ax x++ax ix,[]⟩ :=
 j4 hx hi hN fun ρ w h1 h2=>by
  obtain⟨d2,h3,h4,-,-⟩:=ez hT w;obtain rfl:=Fx (h4.trans hk);have hlt:i.toNat<b.size:=by omega
  have:b[i.toNat]?=some (b.data.getD i.toNat 0):=by
   rw[getElem?_pos b i.toNat hlt,aa1,Z8 (show i.toNat<b.data.size from hlt)];rfl
  simp[execOp,h1,h2,Instr.index,asIntOf,h3,h0,this]
inductive EvI(s:AS):Option acf->Nat->Nat->Prop
  |none (d:Nat):EvI s none d d
  |some {x:acf} {k:IntKind} {i:Int} (d:Nat) (h:Ev s x (.v (.int k i))) (h0:0<=i):EvI s (some x) d i.toNat
def uv:Option acf->List Nat
  |some x=>ax x
  |none=>[]
theorem EvI.agree{s':AS}{u:Out}(h:gH s s' u){o:Option acf}{d n:Nat}(he:EvI s o d n)(hs:∀t∈uv o,t∈u.rt):EvI s' o d n:=by
 cases he with
 |none=>exact .none _
 |some d h' h0=>exact .some d (h'.agree h hs) h0
theorem EvI.bound{C:Ctx}{m:Nat->Option Nat}{a:Act}{w:acj}(hr:RelM C s m a w){x:acf}{d n y:Nat}(h:EvI s (Option.some x) d n)(hy:n<=y)(code:BoundsCode) :
  (Instr.sliceBound (a.eval x) y code).run P w=.ok n w:=by
 cases h with
 | @some _ k i _ h h0 =>
  have:=nK hr h;have:0<=i/\i<=(y:Int):=by omega
  simp[Instr.sliceBound,asIntOf,nK hr h,this]
theorem vn{C:Ctx}{m:Nat->Option Nat}{a:Act}{w:acj}(hr:RelM C s m a w){lo hi:Option acf}{l h len cap:Nat}(isS:Bool)
  (hl:EvI s lo 0 l) (hh:EvI s hi len h) (h1:l<=h) (h2:h<=cap) :
  (Instr.sliceBounds isS len cap (lo.map a.eval) (hi.map a.eval) none).run P w=.ok (l,h,cap) w:=by
 cases hi with
 |none =>
  cases hh;cases lo with
  |none=>cases hl;simp[Instr.sliceBounds]
  |some x=>simp[Instr.sliceBounds,hl.bound hr h1]
 |some y =>
  cases lo with
  |none=>cases hl;simp[Instr.sliceBounds,hh.bound hr h2]
  |some x=>simp[Instr.sliceBounds,hl.bound hr h1,hh.bound hr h2]
theorem di{d:Nat}{x:acf}{lo hi:Option acf}{l h sz:Nat}{es:List AV}{T E t:ach}{ti te:TI}
  (hx:Ev s x (.lst sz es)) (hl:EvI s lo 0 l) (hh:EvI s hi es.length h) (hT:aI P T=some ti) (hk:ti.k=.slice E) (hE:aI P E=some te) (hsz:te.size=sz)
  (h1:l<=h) (h2:h<=es.length) (hN:X9 d N=true) :
  Step P N R s ⟨some d,.slice T x lo hi none,t,pos,after,none⟩ ⟨some (.lst sz ((es.drop l).take (h-l))),[],ax x++(uv lo++uv hi),[]⟩ :=
 dJ rfl rfl hN fun s' hag C m a w hr=>by
  have hxr:=(hx.agree hag (fun _ h=>aa2.2 (.inl h))).rep hr;have hl':=hl.agree hag (fun _ h=>aa2.2 (.inr (aa2.2 (.inl h))));have hh':=hh.agree hag (fun _ h=>aa2.2 (.inr (aa2.2 (.inr h))));obtain⟨d2,hu,h3,-,-⟩:=ez hT w;obtain rfl:=iS (h3.trans hk);subst hsz;generalize hv:a.eval x=u at hxr;cases hxr with
  |lst0 a' cap =>
   have:=vn (P:=P) hr (cap:=cap) true hl' hh' h1 (by simp at h2;omega);simp at this h2;have hl0:l=0:=by omega
   refine⟨.slice (if cap=l then a' else a'.map (·.add (l*te.size))) (h-l) (cap-l),?_,?_⟩
   ·simp[execOp,hv,Instr.sliceAt,hu,Instr.slice,this,gE hE]
   ·simp[h2];exact .lst0 _ _ _
  | @lst _ b off cap _ _ cs u hb hc hml hs ho hu' hrr =>
   have:=vn (P:=P) hr (cap:=cap) true hl' hh' h1 oz;refine⟨.slice (if cap=l then some ⟨b,off,none⟩else some ⟨b,off+l*te.size,none⟩) (h-l) (cap-l),?_,?_⟩
   ·simp[execOp,hv,Instr.sliceAt,hu,Instr.slice,this,gE hE,jl]
   ·by_cases hlh:l=h
    ·subst hlh;simp;exact .lst0 _ _ _
    ·have hne : ¬ cap = l := by omega
     rw[ab5 hne];have hlen:((es.drop l).take (h-l)).length=h-l:=by simp;omega
     have hget:∀(i:Nat)(e:AV),((es.drop l).take (h-l))[i]?=some e->es[l+i]?=some e:=by
      intro i e he;rw[abj]at he;split at he
      ·rwa [abv]at he
      ·cases he
     have:=Rep.lst (g:=Im C.ext s'.hp m w) (S:=Sz w) (m:=m) (b:=b) (off:=off+l*te.size) (cap:=cap-l) (sz:=te.size) (es:=(es.drop l).take (h-l)) (cs:=cs)
      (fun i j=>u (l+i) j) hb oz oz (fun i e he=>hs _ e (hget i e he)) (fun i j e c he hc=>ho _ j e c (hget i e he) hc)
      (fun i j e c he hc=>by rw[<- hu' (l+i) j e c (hget i e he) hc];congr 1;rw[YH];omega) (fun i j e c he hc=>hrr _ j e c (hget i e he) hc)
     rwa [hlen]at this
theorem vW{d:Nat}{x:acf}{lo hi:Option acf}{l h k sz off len:Nat}{T E t:ach}{ti te:TI}
  (hx:Ev s x (.ms k sz off len)) (hl:EvI s lo 0 l) (hh:EvI s hi len h) (hT:aI P T=some ti) (hk:ti.k=.slice E) (hE:aI P E=some te) (hsz:te.size=sz)
  (h1:l<=h) (h2:h<=len) (hN:X9 d N=true) :
  Step P N R s ⟨some d,.slice T x lo hi none,t,pos,after,none⟩ ⟨some (.ms k sz (off+l) (h-l)),[],ax x++(uv lo++uv hi),[]⟩ :=
 dJ rfl rfl hN fun s' hag C m a w hr=>by
  have hxr:=(hx.agree hag (fun _ h=>aa2.2 (.inl h))).rep hr;have hl':=hl.agree hag (fun _ h=>aa2.2 (.inr (aa2.2 (.inl h))));have hh':=hh.agree hag (fun _ h=>aa2.2 (.inr (aa2.2 (.inr h))));obtain⟨d2,hu,h3,-,-⟩:=ez hT w;obtain rfl:=iS (h3.trans hk);subst hsz;generalize hv:a.eval x=u at hxr;cases hxr with
  |ms0 a' =>
   have:=vn (P:=P) hr (cap:=0) true hl' hh' h1 oz;have hl0:l=0:=by omega
   have hh0:h=0:=by omega
   subst hl0;subst hh0
   exact⟨.slice a' 0 0,by simp[execOp,hv,Instr.sliceAt,hu,Instr.slice,this,gE hE],.ms0 _ _ _ _⟩
  | @ms _ _ _ _ _ cap b hm hc hS =>
   have:=vn (P:=P) hr (cap:=cap) true hl' hh' h1 oz;refine⟨.slice (if cap=l then some ⟨b,off*te.size,none⟩else some ⟨b,off*te.size+l*te.size,none⟩) (h-l) (cap-l),?_,?_⟩
   ·simp[execOp,hv,Instr.sliceAt,hu,Instr.slice,this,gE hE,jl]
   ·by_cases hcl:cap=l
    ·subst hcl;have:h - cap = 0:=by omega
     rw[this,Nat.sub_self];exact .ms0 _ _ _ _
    ·rw[ab5 hcl,<- YH];exact .ms hm oz (by rw[show off+l+(cap-l)=off+cap by omega];exact hS)
theorem Md{d:Nat}{x:acf}{k off:Nat}{t:ach}(hx:Ev s x (.ptr k off))(hN:X9 d N=true) :
  Step P N R s ⟨some d,.nilCheck x,t,pos,after,none⟩ ⟨some (.ptr k off),[],ax x,[]⟩ :=
 dJ rfl rfl hN fun s' hag C m a w hr=>by
  obtain⟨b,hm,hv⟩:=rP hr (hx.agree hag (fun _ h=>h));exact⟨_,by simp[execOp,hv],.ptr hm⟩
inductive EvL(s:AS):List acf->List AV->Prop
  |nil:EvL s [] []
  |cons {o:acf} {x:AV} {os:List acf} {xs:List AV} (h:Ev s o x) (hs:EvL s os xs):EvL s (o::os) (x::xs)
theorem cG{s:AS}{t:Nat}{x:AV}(h:s.get t=some x):EvL s [.tmp t] [x]:=.cons (.tmp h) .nil
theorem bC{s:AS}{t u:Nat}{x y:AV}(h:s.get t=some x)(h2:s.get u=some y):EvL s [.tmp t,.tmp u] [x,y]:=.cons (.tmp h) (cG h2)
theorem aJ{s:AS}{t u v:Nat}{x y z:AV}(h:s.get t=some x)(h2:s.get u=some y)(h3:s.get v=some z):EvL s [.tmp t,.tmp u,.tmp v] [x,y,z]:=.cons (.tmp h) (bC h2 h3)
def eV:List acf->List Nat
  |[]=>[]
  |o::os=>ax o++eV os
theorem EvL.agree{s':AS}{u:Out}(h:gH s s' u){os:List acf}{xs:List AV}(he:EvL s os xs)(hs:∀t∈eV os,t∈u.rt):EvL s' os xs:=by
 induction he with
 |nil=>exact .nil
 |cons h1 _ ih=>exact .cons (h1.agree h (fun t ht=>hs t (by simp[eV,ht]))) (ih (fun t ht=>hs t (by simp[eV,ht])))
theorem EvL.length{os:List acf}{xs:List AV}(he:EvL s os xs):os.length=xs.length:=by
 induction he with
 |nil=>rfl
 |cons _ _ ih=>simp[ih]
theorem EvL.rep{C:Ctx}{m:Nat->Option Nat}{a:Act}{w:acj}(hr:RelM C s m a w){os:List acf}{xs:List AV}(he:EvL s os xs) :
  ∀(j:Nat)(v:acg)(x:AV),(os.map a.eval)[j]?=some v->xs[j]?=some x->Rep (Im C.ext s.hp m w) (Sz w) m v x:=by
 induction he with
 |nil=>intro j v x h;simp at h
 |cons h1 _ ih =>
  intro j v x hv hx;cases j with
  |zero=>simp at hv hx;subst hv;subst hx;exact h1.rep hr
  |succ j=>exact ih j v x (by simpa using hv) (by simpa using hx)
theorem Pi{d:Nat}{x:acf}{xs:List AV}{t:ach}(hx:Ev s x (.iptr xs))(hN:X9 d N=true) :
  Step P N R s ⟨some d,.nilCheck x,t,pos,after,none⟩ ⟨some (.iptr xs),[],ax x,[]⟩ :=
 dJ rfl rfl hN fun s' hag C m a w hr=>by
  have h:=(hx.agree hag (fun _ h=>h)).rep hr;generalize hu:a.eval x=u at h;cases h with
  |iptr u' hb ho hv hrr=>exact⟨_,by simp[execOp,hu],.iptr u' hb ho hv hrr⟩
theorem QK{d f:Nat}{pre:Array acf}{xs:List AV}{t:ach}(hx:EvL s pre.toList xs)(hnm:(xs.all fun x=>x.nm.isEmpty)=true)(hN:X9 d N=true) :
  Step P N R s ⟨some d,.makeFunc (.func f) pre #[],t,pos,after,none⟩ ⟨some (.cl f xs []),[],eV pre.toList,[]⟩ :=
 dJ rfl rfl hN fun s' hag C m a w hr=>by
  have hl:=hx.agree hag (fun _ h=>h);refine⟨.func (.func f) (pre.map a.eval) #[],by simp[execOp,Instr.makeFunc],.cl ?_ ?_ rfl (fun j u c hu hc=>by simp at hc)⟩
  ·have:=hl.length;simpa using this
  ·intro j u c hu hc
   exact (hl.rep hr j u c (by simpa using hu) hc).mono (fun _ _ h => h) (fun _ _ h => h) (fun k b hk => by
    have h1:=aa3.1 hnm c (aap hc);have h2:=hk.mem;simp only[List.isEmpty_iff]at h1;rw[h1]at h2;cases h2)
theorem WB{d f:Nat}{caps:Array acf}{xs:List AV}{t:ach}(hx:EvL s caps.toList xs)(hN:X9 d N=true) :
  Step P N R s ⟨some d,.makeFunc (.func f) #[] caps,t,pos,after,none⟩ ⟨some (.fn f xs),[],eV caps.toList,[]⟩ :=
 dJ rfl rfl hN fun s' hag C m a w hr=>by
  have hl:=hx.agree hag (fun _ h=>h);refine⟨.func (.func f) #[] (caps.map a.eval),by simp[execOp,Instr.makeFunc],.fn ?_ ?_⟩
  ·have:=hl.length;simpa using this
  ·intro j u c hu hc;exact hl.rep hr j u c (by simpa using hu) hc
end Go.Lw
namespace Go.Lw
variable{P:aci}{N:Nat}{R:Array Oper}{s:AS}{pos:String}{after:Array Edge}
def dI(g:Nat->Array acg->Prop)(S:Nat->Nat->Prop)(m:Nat->Option Nat)(c:List acg)(l:List AV):Prop :=
  c.length=l.length/\(∀(j:Nat)(x:AV),l[j]?=some x->x.one=true)/\∀(j:Nat)(u:acg)(x:AV),c[j]?=some u->l[j]?=some x->Rep g S m u x
theorem dI.of_zero{g:Nat->Array acg->Prop}{S:Nat->Nat->Prop}{m:Nat->Option Nat}(z:List acg)(h:z.all Value.oneCell'=true) :
  dI g S m z (z.map .v):=by
 refine⟨by simp,?_,?_⟩
 ·intro j x hx;simp only[aav,aas]at hx;obtain⟨v,hv,rfl⟩:=hx;exact aa3.1 h v (aap hv)
 ·intro j u x hu hx;simp only[aav,aas]at hx;obtain⟨v,hv,rfl⟩:=hx;rw[hu]at hv;cases hv
  exact .v _
theorem dI.of_value{g:Nat->Array acg->Prop}{S:Nat->Nat->Prop}{m:Nat->Option Nat}{v:acg}{x:AV}(h:Rep g S m v x)(hx:x.ok=true) :
  dI g S m v.cells.toList x.cells:=by
 obtain⟨h1,h2,h3⟩:=h.cells (AV.ok_spec hx);exact⟨by simpa using h1,h2,fun j u y hu hy=>h3 j u y (by simpa using hu) hy⟩
theorem dI.mono{g g':Nat->Array acg->Prop}{S S':Nat->Nat->Prop}{m m':Nat->Option Nat}{c:List acg}{l:List AV}(h:dI g S m c l)
  (hg:∀b cs,g b cs->g' b cs) (hS:∀b n,S b n->S' b n) (hm:∀x∈l,∀k b,x.Names k->m k=some b->m' k=some b):dI g' S' m' c l :=
 ⟨h.1,h.2.1,fun j u x hu hx=>(h.2.2 j u x hu hx).mono hg hS (fun k b hk hb=>hm x (aap hx) k b hk hb)⟩
def over{α:Type}(l:List α)(off:Nat)(xs:List α):List α:=l.take off++xs++l.drop (off+xs.length)
theorem jN{α:Type}(l:List α)(off:Nat)(xs:List α)(h:off+xs.length<=l.length)(p:Nat) :
  (over l off xs)[p]?=if p<off then l[p]? else if p<off+xs.length then xs[p-off]? else l[p]? := by
 have h1:(l.take off).length=off:=by simp;omega
 unfold over
 by_cases h2:p<off
 ·rw[ab6 h2,abu,aa9 oz,abj,ab6 h2]
 ·rw[ab5 h2]
  by_cases h3:p<off+xs.length
  ·rw[ab6 h3,aa9 (by simp;omega),aa6 oz,h1]
  ·rw[ab5 h3,aa6 (by simp;omega),abv];congr 1;simp;omega
theorem tL{α:Type}(l:List α)(off:Nat)(xs:List α)(h:off+xs.length<=l.length):(over l off xs).length=l.length:=by
 simp[over];omega
theorem dI.over{g:Nat->Array acg->Prop}{S:Nat->Nat->Prop}{m:Nat->Option Nat}{c:List acg}{l:List AV}{c':List acg}{l':List AV}{off:Nat}
  (h:dI g S m c l) (h':dI g S m c' l') (hle:off+l'.length<=l.length):dI g S m (over c off c') (Lw.over l off l'):=by
 have e1:=h.1;have e2:=h'.1;refine⟨by rw[tL _ _ _ oz,tL _ _ _ hle,e1],?_,?_⟩
 ·intro j x hx;rw[jN _ _ _ hle]at hx;split at hx
  ·exact h.2.1 j x hx
  ·split at hx
   ·exact h'.2.1 _ x hx
   ·exact h.2.1 j x hx
 ·intro j u x hu hx;rw[jN _ _ _ hle]at hx;rw[jN _ _ _ oz,e2]at hu;split at hx
  ·rename_i hj;rw[ab6 hj]at hu;exact h.2.2 j u x hu hx
  ·rename_i hj;rw[ab5 hj]at hu
   split at hx
   ·rename_i hj;rw[ab6 hj]at hu;exact h'.2.2 _ u x hu hx
   ·rename_i hj;rw[ab5 hj]at hu;exact h.2.2 j u x hu hx
theorem uc{o:Oper}{d:Nat}{k:Nat}{x:AV}{y:Blk}{rt rd:List Nat}(hg:o.guard=none)(hd:o.dst=some d)(hN:X9 d N=true)
  (hkrd:k∉rd)
  (h:∀s',gH s s' ⟨some x,[(k,some y)],rt,rd⟩->s'.Fresh k->∀C m a w,RelM C s' m a w ->
   ∃(v:acg)(c:Array acg)(t:ach)(n:Nat),(execOp a.eval o).run P w=.ok (.value v) { w with heap:=w.heap.push (.cells c t),drawn:=n }/\¬y.Names k /\
    (∀(g:Nat->Array acg->Prop)(S:Nat->Nat->Prop)(m':Nat->Option Nat)(w':acj),
     (∀b cs,Im C.ext s'.hp m w b cs->g b cs)->(∀b n,Sz w b n->S b n)->(∀k' b,k'≠k->m k'=some b->m' k'=some b) ->
     w'.heap[w.heap.size]?=some (.cells c t (0,0))->BlkRep g S m' w' (some w.heap.size) y) /\
    (∀(g:Nat->Array acg->Prop)(S:Nat->Nat->Prop)(m':Nat->Option Nat),m' k=some w.heap.size->S w.heap.size c.size->Rep g S m' v x)) :
  Step P N R s o ⟨some x,[(k,some y)],rt,rd⟩:=by
 refine⟨fun s' hag hnew C m a w Q next hC hr hnext=>?_⟩;rw[ab6 (mP hg _)];refine tf ?_
 have hfr:s'.Fresh k:=by
  rcases hnew k (by simp)with h |h
  ·exact acc h hkrd
  ·exact h
 obtain⟨v,c,t,n,h1,h2,h3,h4⟩:=h s' hag hfr C m a w hr;rw[YB]at hN;unfold Oper.wp;rw[h1];simp only[Oper.upon,hd,Act.put];refine hnext (fun k'=>if k'=k then some w.heap.size else m k') _ _ ?_;have hr1:=(hr.alloc hfr (.cells c t) y h2 h3).drawn n
 have:=hr1.put d v (some x) (fun z hz=>by
  cases hz;refine⟨by have:=hr.nt;omega,h4 _ _ _ (ab6 rfl) ⟨c,t,(0,0),?_,aau _⟩⟩;show(w.heap.push _)[w.heap.size]?=_;simp)
 simpa[AS.app,hd]using this
theorem IC{ext:Nat->Prop}{hp:Hp}{m:Nat->Option Nat}{w:acj}{c:Array acg}{l:List AV}{t:ach}{k:Nat}
  (h:dI (Im ext hp m w) (Sz w) m c.toList l) (hk:∀x∈l,¬x.Names k)
  {g:Nat->Array acg->Prop} {S:Nat->Nat->Prop} {m':Nat->Option Nat} {w':acj}
  (hg:∀b cs,Im ext hp m w b cs->g b cs) (hS:∀b n,Sz w b n->S b n) (hm:∀k' b,k'≠k->m k'=some b->m' k'=some b)
  (hw:w'.heap[w.heap.size]?=some (.cells c t (0,0))):BlkRep g S m' w' (some w.heap.size) (.box l):=by
 have h':=h.mono hg hS (m':=m') (fun x hx k' b hn hb=>hm k' b (fun e=>hk x hx (e▸hn)) hb);exact .box hw (by simpa using h'.1) h'.2.1 (fun j u x hu hx=>h'.2.2 j u x (by simpa using hu) hx)
theorem Ly{d:Nat}{T t:ach}{ti:TI}(hT:aI P T=some ti)(hz:ti.zero.all Value.oneCell'=true)(hN:X9 d N=true) :
  Step P N R s ⟨some d,.alloc T,t,pos,after,none⟩ ⟨some (.ptr d 0),[(d,some (.box (ti.zero.map .v)))],[],[]⟩ :=
 uc rfl rfl hN (by simp) fun s' hag hfr C m a w hr => by
  obtain⟨z,h1,h2⟩:=sO hT w;have hc:dI (Im C.ext s'.hp m w) (Sz w) m z.cells.toList (ti.zero.map .v):=by rw[h2];exact .of_zero _ hz
  refine⟨.pointer (some ⟨w.heap.size,0,none⟩),z.cells,T,w.drawn,?_,?_,?_,fun g S m' hm _=>.ptr hm⟩
  ·simp[execOp,Instr.alloc,h1,newVar,newRow]
  ·rintro⟨c,hc,hn⟩;simp only[Y8]at hc;obtain⟨v,_,rfl⟩:=hc;cases hn
  ·intro g S m' w' hg hS hm hw;refine IC hc ?_ hg hS hm hw;rintro x hx hn;simp only[Y8]at hx;obtain⟨v,_,rfl⟩:=hx;cases hn
theorem Ev.fresh{x:acf}{v:AV}{k:Nat}(h:Ev s x v)(hf:s.Fresh k):¬v.Names k:=by
 cases h with
 |tmp h=>exact hf.2.2.1 _ _ h
 |opt h _=>intro hn;exact hf.2.2.1 _ _ h (.opt hn)
 |const=>intro hn;cases hn
 |func=>intro hn;cases hn
theorem MT{x c:AV}{k:Nat}(hc:c∈x.cells)(hn:c.Names k):x.Names k:=by
 cases x <;> simp only[AV.cells,Za]at hc <;> first
  |(subst hc;exact hn)
  |exact .agg hc hn
theorem UA{d:Nat}{x:acf}{v:AV}{T t:ach}(hx:Ev s x v)(hv:v.ok=true)(hN:X9 d N=true) :
  Step P N R s ⟨some d,.box T x,t,pos,after,none⟩ ⟨some (.ptr d 0),[(d,some (.box v.cells))],ax x,[]⟩ :=
 uc rfl rfl hN (by simp) fun s' hag hfr C m a w hr => by
  have hx':=hx.agree hag (fun _ h=>h);have hc:=dI.of_value (hx'.rep hr) hv;have hno:∀c∈v.cells,¬c.Names d:=fun c hc hn=>hx'.fresh hfr (MT hc hn)
  refine⟨.pointer (some ⟨w.heap.size,0,none⟩),(a.eval x).cells,T,w.drawn,?_,?_,?_,fun g S m' hm _=>.ptr hm⟩
  ·simp[execOp,Instr.box,newVar,newRow]
  ·rintro⟨c,hc,hn⟩;exact hno c hc hn
  ·intro g S m' w' hg hS hm hw;exact IC hc hno hg hS hm hw
theorem xt{w:acj}{b:Nat}{o:Obj}(hb:w.heap[b]?=some o):b<w.heap.size:=by
 rcases aay b w.heap.size with h |h
 ·exact h
 ·rw[aal h]at hb;cases hb
theorem Wg{w:acj}{b i:Nat}{c:Array acg}{t:ach}{v:acg}(hb:w.heap[b]?=some (.cells c t (0,0))) :
  w.setCell ⟨b,i,none⟩ v={ w with heap:=w.heap.setIfInBounds b (.cells (c.setIfInBounds i v) t (0,0)) }:=by
 have hlt:=xt hb;unfold World.setCell;congr 1;apply Array.ext_getElem?;intro j;rw[aad,Array.getElem?_modify]
 by_cases h:b=j
 ·subst h;rw[ab6 rfl,ab6 rfl,ab6 hlt,hb];rfl
 ·rw[ab5 h,ab5 h]
theorem IE{α:Type}(l:List α)(n:Nat)(v:α)(vs:List α)(h:n+(vs.length+1)<=l.length) :
  over (l.set n v) (n+1) vs=over l n (v::vs):=by
 apply List.ext_getElem?;intro p;rw[jN _ _ _ (by simp;omega),jN _ _ _ (by simpa using h),List.getElem?_set];simp only[aa4]
 by_cases h1:p<n
 ·rw[ab6 oz,ab5 oz,ab6 h1]
 ·by_cases h2:p=n
  ·subst h2;rw[ab6 oz,ab6 rfl,ab6 oz,ab5 oz,ab6 oz,Nat.sub_self];rfl
  ·by_cases h3:p<n+1+vs.length
   ·rw[ab5 oz,ab6 h3,ab5 oz,ab6 oz,show p-n=p-(n+1)+1 by omega,List.getElem?_cons_succ]
   ·rw[ab5 oz,ab5 h3,ab5 oz,ab5 h1,ab5 oz]
theorem yz{b:Nat}{t:ach}:∀(vs:List acg)(c:Array acg)(w:acj)(off i:Nat),w.heap[b]?=some (.cells c t (0,0)) ->
  off+i+vs.length<=c.size->(∀v∈vs,v.oneCell'=true) ->
  (storeCells ⟨b,off,none⟩ vs i).run P w=.ok () { w with heap:=w.heap.setIfInBounds b (.cells (over c.toList (off+i) vs).toArray t (0,0)) }:=by
 intro vs
 induction vs with
 |nil =>
  intro c w off i hb hle _;have hlt:=xt hb
  have:w.heap.setIfInBounds b (.cells (over c.toList (off+i) []).toArray t (0,0))=w.heap:=by
   apply Array.ext_getElem?;intro j;rw[aad];split
   ·subst_vars;rw[hb];simp[over]
   ·rfl
  simp[storeCells,this]
 |cons v vs ih =>
  intro c w off i hb hle hv;have hlt:=xt hb;simp only[aa4]at hle
  have h1:(store ((⟨b,off,none⟩:Addr).add i) v).run P w=.ok () (w.setCell ⟨b,off+i,none⟩ v):=by
   rw[jl,run_store P w _ v .plain (hv v (by simp)),q8 hb];have:off+i<c.size:=by omega
   simp[Z8 this,World.frozen?,hb]
  rw[storeCells,Sem.run_bind,h1,Result.andThen_ok,Wg hb]
  have hb':(w.heap.setIfInBounds b (.cells (c.setIfInBounds (off+i) v) t (0,0)))[b]?=some (.cells (c.setIfInBounds (off+i) v) t (0,0)):=by
   rw[aad,ab6 rfl,ab6 hlt]
  rw[ih (c.setIfInBounds (off+i) v) _ off (i+1) hb' (by simp;omega) (fun v hm=>hv v (by simp[hm]))];congr 2;rw[Array.setIfInBounds_setIfInBounds];congr 3;rw[aah,show off+(i+1)=off+i+1 by omega,IE _ _ _ _ (by simp;omega)]
theorem yw{T:ach}{ti:TI}{w:acj}{b off:Nat}{t:ach}{c:Array acg}{v:acg}(hT:aI P T=some ti)(hb:w.heap[b]?=some (.cells c t (0,0)))
  (hsz:v.cells.size=ti.size) (hle:off+ti.size<=c.size) (hv:∀x∈v.cells.toList,x.oneCell'=true) :
  (storeVar T ⟨b,off,none⟩ v).run P w=.ok () { w with heap:=w.heap.setIfInBounds b (.cells (over c.toList off v.cells.toList).toArray t (0,0)) }:=by
 have:=yz (P:=P) v.cells.toList c w off 0 hb (by simp;omega) hv;simp only[Ys]at this;simp[storeVar,gE hT,hsz,this]
theorem AM{o:Oper}{k:Nat}{y y':Blk}{rt rd:List Nat}(hg:o.guard=none)(hd:o.dst=none)(hkrd:k∈rd)(hk:s.blk k=some y)
  (h:∀s',gH s s' ⟨none,[(k,some y')],rt,rd⟩->∀C m a w,RelM C s' m a w ->
   ∃(b:Nat)(c c':Array acg)(t:ach),m k=some b/\w.heap[b]?=some (.cells c t (0,0))/\c'.size=c.size /\
    (execOp a.eval o).run P w=.ok .skip { w with heap:=w.heap.setIfInBounds b (.cells c' t (0,0)) } /\
    ∀(g:Nat->Array acg->Prop)(S:Nat->Nat->Prop)(w':acj),
     (∀b cs,Im C.ext s'.hp m w b cs->g b cs)->(∀b n,Sz w b n->S b n)->w'.heap[b]?=some (.cells c' t (0,0))->BlkRep g S m w' (some b) y') :
  Step P N R s o ⟨none,[(k,some y')],rt,rd⟩:=by
 refine⟨fun s' hag hnew C m a w Q next hC hr hnext=>?_⟩;rw[ab6 (mP hg _)];refine tf ?_;obtain⟨b,c,c',t,hm,hb,hsz,h1,h2⟩:=h s' hag C m a w hr;unfold Oper.wp;rw[h1];simp only[Oper.upon,hd,Act.put];refine hnext m _ _ ?_;have:=hr.write (x':=y') ((hag.2 k hkrd).trans hk) hm hb hsz rfl (fun g S hg hS hw=>h2 g S _ hg hS hw);simpa[AS.app,hd]using this
theorem Di{g:Nat->Array acg->Prop}{S:Nat->Nat->Prop}{m:Nat->Option Nat}{v:acg}{x:AV}(h:Rep g S m v x)(hx:x.ok=true) :
  ∀u∈v.cells.toList,u.oneCell'=true:=by
 have hc:=dI.of_value h hx;intro u hu;obtain⟨j,hj,rfl⟩:=Zb.1 hu;have hj':j<x.cells.length:=by rw[<- hc.1];exact hj
 exact(hc.2.2 j _ _ (aat hj) (aat hj')).one (hc.2.1 j _ (aat hj'))
theorem FO{x y:acf}{k off:Nat}{cs:List AV}{v:AV}{T t:ach}{ti:TI}
  (hx:Ev s x (.ptr k off)) (hk:s.blk k=some (.box cs)) (hy:Ev s y v) (hv:v.ok=true) (hT:aI P T=some ti) (hsz:YQ v.cells.length ti.size=true)
  (hle:Nat.ble (off+ti.size) cs.length=true) :
  Step P N R s ⟨none,.store T x y,t,pos,after,none⟩ ⟨none,[(k,some (.box (over cs off v.cells)))],ax x++ax y,[k]⟩ :=
 AM rfl rfl (by simp) hk fun s' hag C m a w hr => by
  rw[YS]at hle;have hsz:=aax hsz;obtain⟨b,hm,hxv⟩:=rP hr (hx.agree hag (fun _ h=>aa2.2 (.inl h)));have hyr:=(hy.agree hag (fun _ h=>aa2.2 (.inr h))).rep hr;obtain⟨c,t,hw,hn,ho,hrr⟩:=vg hr.heap ((hag.2 k (by simp)).trans hk) hm;have hc:=dI.of_value hyr hv;have hcl:(a.eval y).cells.size=ti.size:=by have:=hc.1;simp at this;omega
  have h0:dI (Im C.ext s'.hp m w) (Sz w) m c.toList cs:=⟨by simpa using hn,ho,fun j u x hu hx=>hrr j u x (by simpa using hu) hx⟩
  have h1:=h0.over hc (off:=off) oz;refine⟨b,c,(over c.toList off (a.eval y).cells.toList).toArray,t,hm,hw,?_,?_,?_⟩
  ·simp[over];omega
  ·have hrun:=yw (P:=P) (off:=off) hT hw hcl oz (Di hyr hv);simp[execOp,Instr.storeAt,hxv,Instr.sureAddr,hrun]
  ·intro g S w' hg hS hw';have h2:=h1.mono hg hS (m':=m) (fun _ _ _ _ _ h=>h);exact .box hw' (by simpa using h2.1) h2.2.1 (fun j u x hu hx=>h2.2.2 j u x (by simpa using hu) hx)
theorem DI{x y:acf}{k sz i off:Nat}{es:List AV}{e e' v:AV}{T t:ach}{ti:TI}
  (hx:Ev s x (.eptr k sz i off)) (hk:s.blk k=some (.row sz es)) (he:es[i]?=some e) (hy:Ev s y v) (hv:v.ok=true) (hnm:v.nm=[]) (hT:aI P T=some ti)
  (hsz:YQ v.cells.length ti.size=true) (hle:Nat.ble (off+ti.size) e.cells.length=true) (he':e'.cells=over e.cells off v.cells) :
  Step P N R s ⟨none,.store T x y,t,pos,after,none⟩ ⟨none,[(k,some (.row sz (es.set i e')))],ax x++ax y,[k]⟩ :=
 AM rfl rfl (by simp) hk fun s' hag C m a w hr => by
  rw[YS]at hle;have hsz:=aax hsz;obtain⟨b,hm,hxv⟩:=vX hr (hx.agree hag (fun _ h=>aa2.2 (.inl h)));have hyr:=(hy.agree hag (fun _ h=>aa2.2 (.inr h))).rep hr;obtain⟨c,t,hw,hn,hl,hs,ho,hrr⟩:=sH hr.heap ((hag.2 k (by simp)).trans hk) hm;have hc:=dI.of_value (Pp hyr hnm) hv;have hcl:(a.eval y).cells.size=ti.size:=by have:=hc.1;simp at this;omega
  have hi:i<es.length:=by
   rcases aay i es.length with h |h
   ·exact h
   ·rw[aa5 h]at he;cases he
  have hb:=mL (sz:=sz) hi;have hel:=hs i e he;have hel':e'.cells.length=sz:=by rw[he',tL _ _ _ oz,hel]
  refine⟨b,c,(over c.toList (i*sz+off) (a.eval y).cells.toList).toArray,t,hm,hw,?_,?_,?_⟩
  ·simp[over];omega
  ·have hrun:=yw (P:=P) (off:=i*sz+off) hT hw hcl oz (Di hyr hv);simp[execOp,Instr.storeAt,hxv,Instr.sureAddr,hrun]
  ·intro g S w' hg hS hw'
   have hset:∀(i':Nat)(e2:AV),(es.set i e')[i']?=some e2->(i'=i/\e2=e')\/(i'≠i/\es[i']?=some e2):=by
    intro i' e2 h;rw[List.getElem?_set]at h;split at h
    ·rename_i hii;subst hii
     cases h;exact .inl ⟨rfl,rfl⟩
    ·rename_i hii;exact .inr ⟨fun e=>hii e.symm,h⟩
   have hcell:∀(j:Nat)(z:AV),e'.cells[j]?=some z->z.one=true/\∀u,(over c.toList (i*sz+off) (a.eval y).cells.toList)[i*sz+j]?=some u->Rep (Im C.ext s'.hp m w) (Sz w) dA u z:=by
    intro j z hz
    have hjs:j<sz:=by
     rw[<- hel'];rcases aay j e'.cells.length with h |h
     ·exact h
     ·rw[aa5 h]at hz;cases hz
    rw[he',jN _ _ _ oz]at hz;have hlc:i*sz+off+(a.eval y).cells.toList.length<=c.toList.length:=by simp;omega
    split at hz
    ·rename_i h1;refine⟨ho i j e z he hz,fun u hu=>?_⟩;rw[jN _ _ _ hlc,ab6 oz]at hu;exact hrr i j e u z he hz (by simpa using hu)
    ·rename_i h1;split at hz
     ·rename_i h2;refine⟨hc.2.1 _ z hz,fun u hu=>?_⟩;rw[jN _ _ _ hlc,ab5 oz,ab6 (by simp;omega)]at hu;refine hc.2.2 _ u z ?_ hz;rw[<- hu];congr 1;omega
     ·rename_i h2;refine⟨ho i j e z he hz,fun u hu=>?_⟩;rw[jN _ _ _ hlc,ab5 oz,ab5 (by simp;omega)]at hu;exact hrr i j e u z he hz (by simpa using hu)
   refine .row hw' (by simp[over];omega) (by simpa using hl) ?_ ?_ ?_
   ·intro i' e2 h;rcases hset i' e2 h with⟨rfl,rfl⟩ |⟨_,h⟩
    ·exact hel'
    ·exact hs i' e2 h
   ·intro i' j e2 z h hz;rcases hset i' e2 h with⟨rfl,rfl⟩ |⟨_,h⟩
    ·exact(hcell j z hz).1
    ·exact ho i' j e2 z h hz
   ·intro i' j e2 u z h hz hu;refine Rep.mono hg hS ?_ (fun _ _ _ h=>h);rcases hset i' e2 h with⟨rfl,rfl⟩ |⟨hne,h⟩
    ·exact(hcell j z hz).2 u (by simpa using hu)
    ·have hlc : i * sz + off + (a.eval y).cells.toList.length <= c.toList.length := by simp; omega
     have hj:j<sz:=by
      rw[<- hs i' e2 h];rcases aay j e2.cells.length with h |h
      ·exact h
      ·rw[aa5 h]at hz;cases hz
     have hu':(over c.toList (i*sz+off) (a.eval y).cells.toList)[i'*sz+j]?=some u:=by simpa using hu
     rw[jN _ _ _ hlc]at hu'
     have hcu:c.toList[i'*sz+j]?=some u:=by
      rcases aay i' i with hlt |hge
      ·have:=mL (sz:=sz) hlt
       rwa [ab6 oz]at hu'
      ·have := mL (sz := sz) (show i < i' by omega)
       rwa [ab5 oz,ab5 (by simp;omega)]at hu'
     exact hrr i' j e2 u z h hz (by simpa using hcu)
end Go.Lw
namespace Go.Lw
variable{P:aci}{N:Nat}{R:Array Oper}{s:AS}{pos:String}{after:Array Edge}
theorem HB:∀(l:List acg)(n off:Nat)(arr:Array acg),off+n+l.length<=arr.size ->
  ((l.zipIdx n).foldl (fun cs p=>cs.setIfInBounds (off+p.2) p.1) arr).toList=over arr.toList (off+n) l:=by
 intro l
 induction l with
 |nil=>intro n off arr h;simp[over]
 |cons v l ih =>
  intro n off arr h;simp only[aa4]at h;simp only[List.zipIdx_cons,foldl_cons];rw[ih (n+1) off _ (by simp;omega),aah,show off+(n+1)=off+n+1 by omega,IE _ _ _ _ (by simp;omega)]
def ux(place:Nat->Option (Nat×Nat)):List AV->List (Nat×AV)->Option (List AV)
  |l,[]=>some l
  |l,(i,x)::r=>match place i with
    |some (off,n)=>match YQ x.cells.length n&&Nat.ble (off+n) l.length&&x.ok with
      |true=>ux place (over l off x.cells) r
      |false=>none
    |none=>none
inductive EvP(s:AS):List (Nat×acf)->List (Nat×AV)->Prop
  |nil:EvP s [] []
  |cons {i:Nat} {o:acf} {x:AV} {os:List (Nat×acf)} {xs:List (Nat×AV)} (h:Ev s o x) (hs:EvP s os xs):EvP s ((i,o)::os) ((i,x)::xs)
def r4:List (Nat×acf)->List Nat
  |[]=>[]
  |(_,o)::os=>ax o++r4 os
theorem EvP.agree{s':AS}{u:Out}(h:gH s s' u){os:List (Nat×acf)}{xs:List (Nat×AV)}(he:EvP s os xs)(hs:∀t∈r4 os,t∈u.rt):EvP s' os xs:=by
 induction he with
 |nil=>exact .nil
 |cons h1 _ ih=>exact .cons (h1.agree h (fun t ht=>hs t (by simp[r4,ht]))) (ih (fun t ht=>hs t (by simp[r4,ht])))
theorem Pk{g:Nat->Array acg->Prop}{S:Nat->Nat->Prop}{mm:Nat->Option Nat}{ev:acf->acg}{place:Nat->Option (Nat×Nat)}
  {os:List (Nat×acf)} {xs:List (Nat×AV)} (hp:EvP s os xs) (hev:∀o x,Ev s o x->Rep g S mm (ev o) x) :
  ∀(c:Array acg)(l l':List AV),dI g S mm c.toList l->ux place l xs=some l' ->
   ∃c',Instr.fill place c (os.map fun p=>(p.1,ev p.2))=some c'/\dI g S mm c'.toList l':=by
 induction hp with
 |nil=>intro c l l' h hf;cases hf;exact⟨c,rfl,h⟩
 | @cons i o x os xs h1 _ ih =>
  intro c l l' h hf;unfold ux at hf;split at hf
  ·rename_i off n hpl;split at hf
   ·rename_i hc;simp only [aaw,YS] at hc;obtain ⟨⟨hc1,hc2⟩,hc3⟩:=hc;have hc1:=aax hc1;have hx:=dI.of_value (hev o x h1) hc3;have hlen:(ev o).cells.size = n:=by have:=hx.1; simp at this; omega
    have hcl:c.size=l.length:=by have:=h.1;simpa using this
    have hov:=h.over hx (off:=off) oz;have hfo:=HB (ev o).cells.toList 0 off c (by simp;omega);simp only[Ys]at hfo;obtain⟨c',h2,h3⟩:=ih ((((ev o).cells.toList.zipIdx 0).foldl (fun cs p=>cs.setIfInBounds (off+p.2) p.1) c)) _ l' (by rw[hfo];exact hov) hf;refine⟨c',?_,h3⟩;rw[<- h2];simp only[ab2,Instr.fill,hpl];rw[ab5 (by simp;omega)];congr 1;rw[<- Array.foldl_toList,Array.toList_zipIdx]
   ·cases hf
  ·cases hf
theorem SS{α β:Type}{w:acj}(f:α->Sem β)(g:α->β):∀(l:List α),(∀x∈l,(f x).run P w=.ok (g x) w)->(l.mapM f).run P w=.ok (l.map g) w:=by
 intro l
 induction l with
 |nil=>intro _;simp
 |cons x l ih =>
  intro h;simp[List.mapM_cons,h x (by simp),ih (fun y hy=>h y (by simp[hy]))]
theorem OC{d:Nat}{parts:Array (Nat×acf)}{xs:List (Nat×AV)}{l:List AV}{T t:ach}{ti:TI}
  (hx:EvP s parts.toList xs) (hT:aI P T=some ti) (hk:ti.k=.struct) (hz:ti.zero.all Value.oneCell'=true) (hp:(ti.fs.all fun p=>X9 0 p.2)=true)
  (hl:ux (fun i=>ti.fs[i]?) (ti.zero.map .v) xs=some l) (hN:X9 d N=true) :
  Step P N R s ⟨some d,.build T parts,t,pos,after,none⟩ ⟨some (.agg l),[],r4 parts.toList,[]⟩ :=
 dJ rfl rfl hN fun s' hag C m a w hr=>by
  have hx':=hx.agree hag (fun _ h=>h);obtain⟨z,h1,h2⟩:=sO hT w;obtain⟨d2,h3,h4,h5,-⟩:=ez hT w;obtain⟨fs,rfl⟩:=H5 (h4.trans hk);have hz0:dI (Im C.ext s'.hp m w) (Sz w) m z.cells.toList (ti.zero.map .v):=by rw[h2];exact .of_zero _ hz
  obtain⟨c',h6,h7⟩:=Pk (place:=fun i=>ti.fs[i]?) hx' (fun o x h=>h.rep hr) z.cells _ l hz0 hl
  have hm:(fs.mapM fun f=>(do pure (f.offset,<- sizeOf f.type):Sem (Nat×Nat))).run P w=.ok ti.fs.toArray w:=by
   rw[Z6];simp only[Sem.run_map];rw[SS _ (fun f=>(f.offset,match P.info? f.type with |some j=>j.size |none=>0))]
   ·simp only[Result.andThen_ok,<- h5,qe] <;> rfl
   ·intro f hf
    have:(f.offset,match P.info? f.type with |some j=>j.size |none=>0)∈ti.fs:=by
     rw[<- h5];simp only[qe,Y8];exact⟨f,hf,rfl⟩
    have:=aa3.1 hp _ this;simp only[YB]at this;cases hi:P.info? f.type with
    |none=>rw[hi]at this;simp at this
    |some j=>simp[sizeOf,typeInfo,hi]
  refine⟨.agg c',?_,.agg (by simpa using h7.1) h7.2.1 (fun j u x hu hx=>h7.2.2 j u x (by simpa using hu) hx)⟩;have hpl:(fun x:Nat=>ti.fs.toArray[x]?)=fun i:Nat=>ti.fs[i]?:=by funext i;simp
  have hpm:(parts.map fun p=>(p.1,a.eval p.2)).toList=parts.toList.map fun p=>(p.1,a.eval p.2):=by simp
  have hb:(Instr.build T (parts.map fun p=>(p.1,a.eval p.2))).run P w=.ok (.agg c') w:=by
   simp only[Instr.build,Sem.run_bind,h1,Result.andThen_ok,h3,hm,hpl,hpm,h6,Sem.run_pure]
  simp only[execOp,Sem.run_bind,hb,Result.andThen_ok,Sem.run_pure]
theorem TX{o:Oper}{d:Nat}{x:AV}{rt rd:List Nat}(hg:o.guard=none)(hd:o.dst=some d)(hN:X9 d N=true)
  (h:∀s',gH s s' ⟨some x,[],rt,rd⟩->∀C m a w,RelM C s' m a w ->
   ∃(v:acg)(c:Array acg)(t:ach),(execOp a.eval o).run P w=.ok (.value v) { w with heap:=w.heap.push (.cells c t) } /\
    (∀(g:Nat->Array acg->Prop)(S:Nat->Nat->Prop),(∀b cs,Im C.ext s'.hp m w b cs->g b cs)->(∀b n,Sz w b n->S b n)->g w.heap.size c->Rep g S m v x)) :
  Step P N R s o ⟨some x,[],rt,rd⟩:=by
 refine⟨fun s' hag _ C m a w Q next hC hr hnext=>?_⟩;rw[ab6 (mP hg _)];refine tf ?_;obtain⟨v,c,t,h1,h2⟩:=h s' hag C m a w hr;rw[YB]at hN;unfold Oper.wp;rw[h1];simp only[Oper.upon,hd,Act.put];refine hnext m _ _ ?_;have hf:=C0 (bf s'.hp m) w (.cells c t);have hal:∀k' y b',lk s'.hp k'=some y->m k'=some b'->bf s'.hp m b'\/w.heap.size<=b':=fun k' y b' h1 h2=>.inl ⟨k',y,h1,h2⟩
 have hr1:RelM C s' m a { w with heap:=w.heap.push (.cells c t) }:=by
  refine hr.update hf (fun t y k' b' _ _ hb'=>hb') hal (fun k' y _ hy=>⟨⟨y,hy⟩,rfl⟩) ⟨?_,hr.heap.inj,?_⟩
  ·intro k y hk;refine BlkRep.mono (fm hf hal) hf.sz (fun _ _ _ h=>h) rfl ?_ (hr.heap.blk k y hk);intro b hb;have:=(hr.heap.sep k y b hk hb).2;show(w.heap.push _)[b]?=_;rw[aaj,ab5 oz]
  ·intro k y b hk hb;have:=hr.heap.sep k y b hk hb;refine⟨this.1,?_⟩;have:=this.2;simp;omega
 have:=hr1.put d v (some x) (fun z hz=>by
  cases hz;refine⟨by have:=hr.nt;omega,h2 _ _ (fm hf hal) hf.sz ⟨fun hc=>?_,?_,t,(0,0),?_⟩⟩
  ·have:=hr.ext_lt hc;omega
  ·rintro⟨k,y,hk,hb⟩;have:=(hr.heap.sep k y _ hk hb).2;omega
  ·show(w.heap.push _)[w.heap.size]?=_;simp)
 simpa[AS.app,hd]using this
end Go.Lw
namespace Go.Lw
variable{P:aci}{N:Nat}{R:Array Oper}{s:AS}{pos:String}{after:Array Edge}
def gT:List AV->List AV
  |[]=>[]
  |e::es=>e.cells++gT es
theorem GO{sz:Nat}:∀(es:List AV),(∀e∈es,e.cells.length=sz)->(gT es).length=es.length*sz
 |[],_=>by simp[gT]
 |e::es,h=>by
  simp only[gT,abi,aa4,h e (by simp),GO es (fun e he=>h e (by simp[he])),YT];omega
theorem DB{sz:Nat}:∀(es:List AV),(∀e∈es,e.cells.length=sz)->∀(i j:Nat)(e x:AV),es[i]?=some e->e.cells[j]?=some x->(gT es)[i*sz+j]?=some x
 |[],_,i,j,e,x,h,_=>by simp at h
 |e0::es,h,0,j,e,x,he,hx=>by
  simp at he;subst he
  have hj:j<e0.cells.length:=by
   rcases aay j e0.cells.length with h |h
   ·exact h
   ·rw[aa5 h]at hx;cases hx
  simp only[gT,Nat.zero_mul,Yf];rw[aa9 hj,hx]
 |e0::es,h,i+1,j,e,x,he,hx=>by
  have h0:=h e0 (by simp);simp only[gT,YT];rw[aa6 oz,h0,show i*sz+sz+j-sz=i*sz+j by omega];exact DB es (fun e he=>h e (by simp[he])) i j e x (by simpa using he) hx
def mO(n:Nat):List acf->List (Nat×acf)
  |[]=>[]
  |o::os=>(n,o)::mO (n+1) os
theorem S6{g:Nat->Array acg->Prop}{S:Nat->Nat->Prop}{mm:Nat->Option Nat}{ev:acf->acg}{sz:Nat}
  (hev:∀o x,Ev s o x->Rep g S mm (ev o) x):∀(os:List acf)(es:List AV),EvL s os es->(es.all fun e=>YQ e.cells.length sz&&e.ok)=true ->
   ∀(n:Nat)(c:Array acg)(A Z:List AV),A.length=n*sz->Z.length=es.length*sz->dI g S mm c.toList (A++Z) ->
    ∃c',Instr.fill (fun i=>some (i*sz,sz)) c ((mO n os).map fun p=>(p.1,ev p.2))=some c'/\dI g S mm c'.toList (A++gT es):=by
 intro os es hl
 induction hl with
 |nil =>
  intro _ n c A Z hA hZ hc;have:Z=[]:=by simpa using hZ
  subst this;exact⟨c,rfl,by simpa[gT]using hc⟩
 | @cons o x os xs h1 _ ih =>
  intro hes n c A Z hA hZ hc;simp only[Zj,aaw]at hes;obtain⟨⟨hx1,hx2⟩,hes⟩:=hes;have hx1:=aax hx1;have hx:=dI.of_value (hev o x h1) hx2;have hlen:(ev o).cells.size=sz:=by have:=hx.1;simp at this;omega
  simp only[aa4,YT]at hZ;have hcl:c.size=A.length+Z.length:=by have:=hc.1;simpa using this
  have hov:=hc.over hx (off:=n*sz) (by simp;omega)
  have hoe:over (A++Z) (n*sz) x.cells=(A++x.cells)++Z.drop sz:=by
   unfold over;rw[<- hA,List.take_left,hx1,List.drop_append,abm oz,show A.length+sz-A.length=sz by omega,nil_append]
  rw[hoe]at hov;have hfo:=HB (ev o).cells.toList 0 (n*sz) c (by simp;omega);simp only[Ys]at hfo
  obtain⟨c',h2,h3⟩:=ih hes (n+1) ((((ev o).cells.toList.zipIdx 0).foldl (fun cs p=>cs.setIfInBounds (n*sz+p.2) p.1) c)) (A++x.cells) (Z.drop sz)
   (by simp[YT];omega) (by simp;omega) (by rw[hfo];exact hov)
  refine⟨c',?_,by simpa[gT,abu]using h3⟩;rw[<- h2];simp only[mO,ab2,Instr.fill];rw[ab5 (by simp;omega)];congr 1;rw[<- Array.foldl_toList,Array.toList_zipIdx]
theorem Q7{g:Nat->Array acg->Prop}{S:Nat->Nat->Prop}{m:Nat->Option Nat}(zero:Array acg)(n:Nat)(hz:zero.toList.all Value.oneCell'=true)(h0:n=0\/zero ≠ #[]) :
  ∃l:List AV,dI g S m ((Array.range n).map (zero[· % zero.size]!)).toList l/\l.length=n:=by
 refine⟨(List.range n).map (fun i=>AV.v (zero[i%zero.size]!)),⟨by simp,?_,?_⟩,by simp⟩
 ·intro j x hx;simp only [aav,aas] at hx;obtain ⟨i,hi,rfl⟩:=hx;have hn:0 < n:=by have:=aap hi; simp at this; omega
  have hpos:0<zero.size:=by
   rcases h0 with h |h
   ·omega
   ·rcases X8 zero.size with h' |h'
    ·exact acc (Array.size_eq_zero_iff.1 h') h
    ·exact h'
  have hlt:i%zero.size<zero.size:=Ye _ hpos;simp only[AV.one];rw[getElem!_pos zero _ hlt];exact aa3.1 hz _ (by simp)
 ·intro j u x hu hx;simp only[aav,aas]at hx;obtain⟨i,hi,rfl⟩:=hx;simp only[Array.toList_map,Array.toList_range,aav,hi,aam,Option.some.injEq]at hu;subst hu;exact .v _
theorem H0{T E:ach}{ti te:TI}{w:acj}{n:Nat}{g:Nat->Array acg->Prop}{S:Nat->Nat->Prop}{mm:Nat->Option Nat}{ev:acf->acg}
  (hT:aI P T=some ti) (hk:ti.k=.slice E) (hE:aI P E=some te) (hz:te.zero.all Value.oneCell'=true) (hz0:YQ te.zero.length te.size=true)
  (hev:∀o x,Ev s o x->Rep g S mm (ev o) x) {os:List acf} {es:List AV} (hl:EvL s os es) (hes:(es.all fun e=>YQ e.cells.length te.size&&e.ok)=true)
  (hn:n=es.length) (hb:n*te.size<=2^24) :
  ∃c:Array acg,(Instr.buildSlice T n ((mO 0 os).map fun p=>(p.1,ev p.2)).toArray).run P w =
    .ok (.slice (some ⟨w.heap.size,0,none⟩) n n) { w with heap:=w.heap.push (.cells c E) }/\dI g S mm c.toList (gT es):=by
 obtain⟨d2,h3,h4,-,-⟩:=ez hT w;obtain rfl:=iS (h4.trans hk);obtain⟨z,h5,h6⟩:=sO hE w;have hz0:=aax hz0;have hzs:z.cells.size=te.size:=by rw[<- aab,h6];exact hz0
 subst hn
 have key:∀zero:Array acg,zero=(if es.length*te.size=0 then #[]else z.cells)->zero.toList.all Value.oneCell'=true/\(es.length*te.size=0\/zero ≠ #[]):=by
  intro zero h;subst h;split
  ·exact⟨rfl,.inl ‹_›⟩
  ·rename_i h;refine⟨by rw[h6];exact hz,.inr (fun he=>?_)⟩;rw[he]at hzs;simp at hzs;exact h (by rw[<- hzs];omega)
 obtain⟨zero,hzero⟩:∃zero:Array acg,zero=(if es.length*te.size=0 then #[]else z.cells):=⟨_,rfl⟩
 obtain⟨k1,k2⟩:=key zero hzero;obtain⟨Z,hZ,hZl⟩:=Q7 (g:=g) (S:=S) (m:=mm) zero (es.length*te.size) k1 k2;obtain⟨c',h7,h8⟩:=S6 hev os es hl hes 0 ((Array.range (es.length*te.size)).map (zero[· % zero.size]!)) [] Z (by simp) hZl (by simpa using hZ);refine⟨c',?_,by simpa using h8⟩;have hnb:¬(es.length*te.size>2^24):=by omega
 simp only[Instr.buildSlice,Sem.run_bind,h3,Result.andThen_ok,gE hE];rw[ab5 hnb]
 by_cases h0:es.length*te.size=0
 ·rw[ab6 h0]at hzero ⊢;subst hzero;simp only[Sem.run_bind,Sem.run_pure,Result.andThen_ok,h7,newRow,run_newObj]
 ·rw[ab5 h0]at hzero ⊢;subst hzero;simp only[Sem.run_bind,Sem.run_pure,Result.andThen_ok,h5,h7,newRow,run_newObj]
theorem Xd{g:Nat->Array acg->Prop}{S:Nat->Nat->Prop}{m:Nat->Option Nat}{b sz:Nat}{c:Array acg}{es:List AV}(hb:g b c)
  (hc:dI g S dA c.toList (gT es)) (hs:∀e∈es,e.cells.length=sz) (hl:es.length<=bc) :
  Rep g S m (.slice (some ⟨b,0,none⟩) es.length es.length) (.lst sz es):=by
 have hlen:=GO es hs;have hsz:c.size=es.length*sz:=by have:=hc.1;simp at this;omega
 have hcell:∀(i j:Nat)(e x:AV),es[i]?=some e->e.cells[j]?=some x->∃u,c[i*sz+j]?=some u/\x.one=true/\Rep g S dA u x:=by
  intro i j e x he hx;have hf:=DB es hs i j e x he hx
  have hlt:i*sz+j<(gT es).length:=by
   rcases aay (i*sz+j) (gT es).length with h |h
   ·exact h
   ·rw[aa5 h]at hf;cases hf
  have hlt':i*sz+j<c.size:=by omega
  refine⟨c[i*sz+j],Z8 hlt',hc.2.1 _ x hf,hc.2.2 _ _ x (by simp[hlt']) hf⟩
 refine .lst (fun i j=>c.getD (i*sz+j) undef) hb (aau _) hl (fun i e he=>hs e (aap he)) ?_ ?_ ?_
 ·intro i j e x he hx;obtain⟨u,_,h,_⟩:=hcell i j e x he hx;exact h
 ·intro i j e x he hx;obtain⟨u,h,_,_⟩:=hcell i j e x he hx;simp[aa1,h]
 ·intro i j e x he hx;obtain⟨u,h,_,h2⟩:=hcell i j e x he hx;simpa[aa1,h]using h2
theorem V6{es:List AV}{sz:Nat}(h:(es.all fun e=>YQ e.cells.length sz&&e.ok)=true):∀e∈es,e.cells.length=sz:=by
 intro e he;have:=aa3.1 h e he;simp only[aaw]at this;exact aax this.1
theorem Ij{es:List AV}(h:AV.nms es=[]):∀e∈es,e.nm=[]:=by
 induction es with
 |nil=>intro e he;cases he
 |cons x es ih =>
  simp only[AV.nms,List.append_eq_nil_iff]at h;intro e he;rcases abd.1 he with rfl |he
  ·exact h.1
  ·exact ih h.2 e he
theorem PD{d n:Nat}{os:List acf}{es:List AV}{T E t:ach}{ti te:TI}{parts:Array (Nat×acf)}
  (hp:parts=(mO 0 os).toArray) (hx:EvL s os es) (hT:aI P T=some ti) (hk:ti.k=.slice E) (hE:aI P E=some te) (hz:te.zero.all Value.oneCell'=true)
  (hz0:YQ te.zero.length te.size=true) (hes:(es.all fun e=>YQ e.cells.length te.size&&e.ok)=true) (hnm:AV.nms es=[])
  (hn:n=es.length) (hb:Nat.ble (n*te.size) 16777216=true) (hb':Nat.ble n 16777216=true) (hN:X9 d N=true) :
  Step P N R s ⟨some d,.buildSlice T n parts,t,pos,after,none⟩ ⟨some (.lst te.size es),[],eV os,[]⟩ :=
 TX rfl rfl hN fun s' hag C m a w hr=>by
  subst hp;rw[YS]at hb hb';have hx':=hx.agree hag (fun _ h=>h);obtain⟨c,h1,h2⟩:=H0 (w:=w) hT hk hE hz hz0 (fun o x h=>h.rep hr) hx' hes hn oz;refine⟨.slice (some ⟨w.heap.size,0,none⟩) n n,c,E,?_,?_⟩
  ·have : ((mO 0 os).toArray.map fun p => (p.1, a.eval p.2)) = ((mO 0 os).map fun p => (p.1, a.eval p.2)).toArray := by simp
   simp only[execOp,Sem.run_bind,this,h1,Result.andThen_ok,Sem.run_pure]
  ·intro g S hg hS hgb;subst hn
   have hnm':∀x∈gT es,x.nm=[]:=by
    have hh:=Ij hnm;clear h2 h1 hx' hx hes hb hb' hnm hag
    induction es with
    |nil=>intro x hx;cases hx
    |cons e es ih =>
     intro x hx;simp only[gT,aa2]at hx;rcases hx with hx |hx
     ·have := hh e (by simp)
      cases e <;> simp only[AV.cells,Za]at hx <;> first
       |(subst hx;exact this)
       |(exact Ij this x hx)
     ·exact ih (fun e he=>hh e (by simp[he])) x hx
   have h3:dI g S dA c.toList (gT es):=h2.mono hg hS (fun x hx k b hk _=>by have:=hk.mem;rw[hnm' x hx]at this;cases this);exact Xd hgb h3 (V6 hes) (by unfold bc;omega)
theorem jI{d:Nat}{T E t:ach}{ti te:TI}
  (hT:aI P T=some ti) (hk:ti.k=.slice E) (hE:aI P E=some te) (hz:te.zero.all Value.oneCell'=true)
  (hz0:YQ te.zero.length te.size=true) (hN:X9 d N=true) :
  Step P N R s ⟨some d,.buildSlice T 0 #[],t,pos,after,none⟩ ⟨some (.ms d te.size 0 0),[(d,some (.row te.size []))],[],[]⟩ :=
 uc rfl rfl hN (by simp) fun s' hag hfr C m a w hr => by
  obtain⟨c,h1,h2⟩:=H0 (w:=w) (n:=0) hT hk hE hz hz0 (fun o x h=>h.rep hr) (.nil:EvL s' [] []) rfl rfl oz;refine⟨.slice (some ⟨w.heap.size,0,none⟩) 0 0,c,E,w.drawn,?_,fun h=>h,?_,fun g S m' hm _=>.ms0 _ _ _ _⟩
  ·have h1':(Instr.buildSlice T 0 #[]).run P w = .ok (.slice (some ⟨w.heap.size, 0, none⟩) 0 0) { w with heap:=w.heap.push (.cells c E) }:=h1;have:((#[]:Array (Nat × acf)).map fun (i,x)=>(i,a.eval x)) = #[]:=by simp
   simp only[execOp,Sem.run_bind,this,h1',Result.andThen_ok,Sem.run_pure]
  ·intro g S m' w' hg hS hm hw;exact .row hw (by simp) (by simp) (by simp) (by simp) (by simp)
theorem iD{d:Nat}{x:acf}{n:Int}{T E t:ach}{ti te:TI}(hx:Ev s x (.v (.int .i64 n)))
    (hT:aI P T=some ti) (hk:ti.k=.slice E) (hE:aI P E=some te) (hz:te.zero.all Value.oneCell'=true)
    (hz0:(YQ te.zero.length te.size&&X9 0 te.size&&X9 0 te.bytes&&(te.ag||YQ te.size 1))=true)
    (h0:0<=n) (hb:n*te.bytes<=281474976710656) (hN:X9 d N=true) :
    Step P N R s ⟨some d,.makeSlice T x x,t,pos,after,none⟩
      ⟨some (.ms d te.size 0 n.toNat),[(d,some (.row te.size (Y6 n.toNat (kN te.ag (te.zero.map .v)))))],ax x,[]⟩ :=
  uc rfl rfl hN (by simp) fun s' hag hfr C m a w hr => by
    have hxv:=nK hr (hx.agree hag (fun _ h=>h));simp only[aaw,abz,YB]at hz0;obtain⟨⟨⟨hz0,hz1⟩,hz2⟩,hz3⟩:=hz0;have hz0:=aax hz0;obtain⟨d2,h3,h4,-,-⟩:=ez hT w;obtain rfl:=iS (h4.trans hk);obtain⟨z,h5,h6⟩:=sO hE w;obtain⟨ie,h7,h8,-⟩:=EF hE w;have hzs:z.cells.size=te.size:=by rw[<- aab,h6];exact hz0
    have hnb:n<=281474976710656:=by
      have:n*1<=n*te.bytes:=Int.mul_le_mul_of_nonneg_left oz h0;omega
    have hw1:IntKind.i64.wrap n=n:=IntWalk.i64_in n oz;obtain⟨zero,hzero⟩:∃zero:Array acg,zero=(if n.toNat*te.size=0 then #[]else z.cells):=⟨_,rfl⟩
    refine⟨.slice (some ⟨w.heap.size,0,none⟩) n.toNat n.toNat,(Array.range (n.toNat*te.size)).map (zero[· % zero.size]!),E,w.drawn,?_,fun h=>h,?_,?_⟩
    · have hmk:(Instr.makeSlice T (.int .i64 n) (.int .i64 n)).run P w =
          .ok (.slice (some ⟨w.heap.size,0,none⟩) n.toNat n.toNat) { w with heap:=w.heap.push (.cells ((Array.range (n.toNat*te.size)).map (zero[· % zero.size]!)) E) }:=by
        have hc:¬((n<0\/281474976710656<(ie.bytes:Int)*n)\/n<0):=by
          rw[h8,Int.mul_comm];omega
        simp only[Instr.makeSlice,Sem.run_bind,h3,Result.andThen_ok,asInt,asIntOf,Sem.run_pure,h7,hw1];rw[ab5 (by simpa using hc)];simp only[Sem.run_bind,run_askRoom,Result.andThen_ok,gE hE]
        by_cases h0:n.toNat*te.size=0
        · rw[ab6 h0]at hzero ⊢
          subst hzero;simp only[Sem.run_bind,Sem.run_pure,Result.andThen_ok,newRow,run_newObj]
        · rw[ab5 h0]at hzero ⊢
          subst hzero;simp only[Sem.run_bind,Sem.run_pure,Result.andThen_ok,h5,newRow,run_newObj]
      simp only[execOp,hxv,Sem.run_bind,hmk,Result.andThen_ok,Sem.run_pure]
    · intro g S m' w' hg hS hm hw
      have hcl:(kN te.ag (te.zero.map .v)).cells=te.zero.map .v:=by
        rcases hz3 with h |h
        · rw[h];rfl
        · have h:=aax h
          match hq:te.zero with
          |[]=>rw[hq]at hz0;simp at hz0;omega
          |[u] =>
            rw[hq]at hz;simp only[Zj,List.all_nil,Bool.and_true]at hz;cases te.ag <;> simp[kN,AV.cells]
          |u::u'::r=>rw[hq]at hz0;simp at hz0;omega
      have hcell:∀(i j:Nat)(x:AV),i<n.toNat->(te.zero.map AV.v)[j]?=some x->x.one=true/\∀u,((Array.range (n.toNat*te.size)).map (zero[· % zero.size]!))[i*te.size+j]?=some u->x=.v u:=by
        intro i j x hi hx;simp only[aav,aas]at hx;obtain⟨v,hv,rfl⟩:=hx;refine⟨aa3.1 hz v (aap hv),?_⟩;intro u hu
        have hj:j<te.size:=by
          rw[<- hz0];rcases aay j te.zero.length with h |h
          · exact h
          · rw[aa5 h]at hv;cases hv
        have hpos:¬n.toNat*te.size=0:=by
          have:=YJ (show 0<n.toNat by omega) hz1;omega
        rw[ab5 hpos]at hzero;subst hzero;have hb2:=mL (sz:=te.size) hi;have hlt:i*te.size+j<n.toNat*te.size:=by omega
        simp only[Array.getElem?_map,Array.getElem?_range,hlt,if_true,aam,Option.some.injEq]at hu;have hmod:(i*te.size+j)%z.cells.size=j:=by rw[hzs,Yh,Nat.add_mul_mod_self_right,Yz hj]
        rw[hmod,getElem!_pos z.cells j oz]at hu;rw[<- h6,Z5,Z8 oz]at hv;cases hv;rw[hu]
      refine .row hw (by simp) (by unfold bc;simp;omega) ?_ ?_ ?_
      · intro i e he
        rw[abl]at he;split at he
        · cases he;rw[hcl];simpa using hz0
        · cases he
      · intro i j e x he hx
        rw[abl]at he;split at he
        · rename_i hi;cases he;rw[hcl]at hx;exact(hcell i j x hi hx).1
        · cases he
      · intro i j e u x he hx hu
        rw[abl]at he;split at he
        · rename_i hi;cases he;rw[hcl]at hx
          rw[(hcell i j x hi hx).2 u hu];exact .v _
        · cases he
    · intro g S m' hm hS
      have:=Rep.ms (g:=g) (S:=S) (m:=m') (k:=d) (sz:=te.size) (off:=0) (len:=n.toNat) (cap:=n.toNat) hm (aau _) (by simpa using hS);simpa using this
end Go.Lw
namespace Go.Lw
variable{P:aci}{N:Nat}{R:Array Oper}{s:AS}{pos:String}{after:Array Edge}
theorem RelM.rk{C:Ctx}{m:Nat->Option Nat}{a:Act}{w:acj}(h:RelM C s m a w){k d:Nat}{y:Blk}(hk:lk s.hp k=some y)(hd:s.Fresh d) :
  RelM C ⟨s.sl,(d,some y)::(k,none)::s.hp⟩ (fun k'=>if k'=d then m k else m k') a w:=by
 have hne:k≠d:=fun e=>by rw[e,hd.1]at hk;cases hk
 have hlk:∀k' z,lk ((d,some y)::(k,none)::s.hp) k'=some z->(k'=d/\z=y)\/(k'≠d/\k'≠k/\lk s.hp k'=some z):=by
  intro k' z hz;rw[aY]at hz;split at hz
  ·cases hz;exact .inl ⟨‹_›,rfl⟩
  ·rw[aY]at hz;split at hz
   ·cases hz
   ·exact .inr ⟨‹_›,‹_›,hz⟩
 have hf:=Frame.refl (bf s.hp m) w
 have hal:∀k' z b,lk ((d,some y)::(k,none)::s.hp) k'=some z->(if k'=d then m k else m k')=some b->bf s.hp m b\/w.heap.size<=b:=by
  intro k' z b hz hb;rcases hlk k' z hz with⟨h1,h2⟩ |⟨h1,h2,h3⟩
  ·rw[ab6 h1]at hb;exact .inl ⟨k,y,hk,hb⟩
  ·rw[ab5 h1]at hb;exact .inl ⟨k',z,h3,hb⟩
 have hmm:∀z:Blk,¬z.Names d->∀k'' b,z.Names k''->m k''=some b->(if k''=d then m k else m k'')=some b:=by
  intro z hz k'' b hn hb;rw[ab5 (fun(e:k''=d)=>hz (e▸hn))];exact hb
 refine h.update hf ?_ hal ?_ ⟨?_,?_,?_⟩
 ·intro t z k' b hz hn hb;have:k'≠d:=fun e=>hd.2.2.1 t z hz (e▸hn)
  rw[ab5 this];exact hb
 ·intro k' z h1000 hz;rcases hlk k' z hz with⟨h1,h2⟩ |⟨h1,h2,h3⟩
  ·have:=hd.2.1;omega
  ·exact⟨⟨z,h3⟩,by rw[ab5 h1]⟩
 ·intro k' z hz;rcases hlk k' z hz with⟨h1,h2⟩ |⟨h1,h2,h3⟩
  ·subst h2;rw[ab6 h1];exact BlkRep.mono (w:=w) (fm hf hal) hf.sz (hmm z (hd.2.2.2 k z hk)) rfl (fun _ _=>rfl) (h.heap.blk k z hk)
  ·rw[ab5 h1];exact BlkRep.mono (w:=w) (fm hf hal) hf.sz (hmm z (hd.2.2.2 k' z h3)) rfl (fun _ _=>rfl) (h.heap.blk k' z h3)
 ·intro k1 k2 z1 z2 b h1 h2 hb1 hb2;rcases hlk k1 z1 h1 with⟨e1,e2⟩ |⟨e1,e2,e3⟩ <;> rcases hlk k2 z2 h2 with⟨g1,g2⟩ |⟨g1,g2,g3⟩
  ·rw[e1,g1]
  ·rw[ab6 e1]at hb1;rw[ab5 g1]at hb2
   exact acc (h.heap.inj k k2 y z2 b hk g3 hb1 hb2).symm g2
  ·rw[ab5 e1]at hb1;rw[ab6 g1]at hb2
   exact acc (h.heap.inj k1 k z1 y b e3 hk hb1 hb2) e2
  ·rw[ab5 e1]at hb1;rw[ab5 g1]at hb2
   exact h.heap.inj k1 k2 z1 z2 b e3 g3 hb1 hb2
 ·intro k' z b hz hb;rcases hlk k' z hz with⟨h1,h2⟩ |⟨h1,h2,h3⟩
  ·rw[ab6 h1]at hb;exact h.heap.sep k y b hk hb
  ·rw[ab5 h1]at hb;exact h.heap.sep k' z b h3 hb
theorem RelM.fewer{C:Ctx}{m:Nat->Option Nat}{a:Act}{w:acj}(h:RelM C s m a w){hp':Hp}(hs:∀k z,lk hp' k=some z->lk s.hp k=some z) :
  RelM C ⟨s.sl,hp'⟩ m a w:=by
 have hf:=Frame.refl (bf s.hp m) w;have hal:∀k' z b,lk hp' k'=some z->m k'=some b->bf s.hp m b\/w.heap.size<=b:=fun k' z b hz hb=>.inl ⟨k',z,hs k' z hz,hb⟩
 refine h.update hf (fun _ _ _ _ _ _ hb=>hb) hal (fun k' z _ hz=>⟨⟨z,hs k' z hz⟩,rfl⟩) ⟨?_,?_,?_⟩
 ·intro k' z hz;exact BlkRep.mono (w:=w) (fm hf hal) hf.sz (fun _ _ _ h=>h) rfl (fun _ _=>rfl) (h.heap.blk k' z (hs k' z hz))
 ·intro k1 k2 z1 z2 b h1 h2;exact h.heap.inj k1 k2 z1 z2 b (hs _ _ h1) (hs _ _ h2)
 ·intro k' z b hz hb;exact h.heap.sep k' z b (hs k' z hz) hb
theorem RelM.virt{C:Ctx}{m:Nat->Option Nat}{a:Act}{w:acj}(h:RelM C s m a w){d:Nat}(sz:Nat)(hd:s.Fresh d) :
  RelM C ⟨s.sl,(d,some (.row sz []))::s.hp⟩ (fun k'=>if k'=d then none else m k') a w:=by
 have hlk:∀k' z,lk ((d,some (.row sz []))::s.hp) k'=some z->(k'=d/\z=.row sz [])\/(k'≠d/\lk s.hp k'=some z):=by
  intro k' z hz;rw[aY]at hz;split at hz
  ·cases hz;exact .inl ⟨‹_›,rfl⟩
  ·exact .inr ⟨‹_›,hz⟩
 have hf:=Frame.refl (bf s.hp m) w
 have hal:∀k' z b,lk ((d,some (.row sz []))::s.hp) k'=some z->(if k'=d then none else m k')=some b->bf s.hp m b\/w.heap.size<=b:=by
  intro k' z b hz hb;rcases hlk k' z hz with⟨h1,h2⟩ |⟨h1,h3⟩
  ·rw[ab6 h1]at hb;cases hb
  ·rw[ab5 h1]at hb;exact .inl ⟨k',z,h3,hb⟩
 refine h.update hf ?_ hal ?_ ⟨?_,?_,?_⟩
 ·intro t z k' b hz hn hb;rw[ab5 (fun(e:k'=d)=>hd.2.2.1 t z hz (e▸hn))];exact hb
 ·intro k' z h1000 hz;rcases hlk k' z hz with⟨h1,h2⟩ |⟨h1,h3⟩
  ·have:=hd.2.1;omega
  ·exact⟨⟨z,h3⟩,by rw[ab5 h1]⟩
 ·intro k' z hz;rcases hlk k' z hz with⟨h1,h2⟩ |⟨h1,h3⟩
  ·subst h2;rw[ab6 h1];exact .none sz
  ·rw[ab5 h1];exact BlkRep.mono (w:=w) (fm hf hal) hf.sz (fun k'' b hn hb=>by rw[ab5 (fun(e:k''=d)=>hd.2.2.2 k' z h3 (e▸hn))];exact hb) rfl (fun _ _=>rfl) (h.heap.blk k' z h3)
 ·intro k1 k2 z1 z2 b h1 h2 hb1 hb2;rcases hlk k1 z1 h1 with⟨e1,_⟩ |⟨e1,e3⟩ <;> rcases hlk k2 z2 h2 with⟨g1,_⟩ |⟨g1,g3⟩
  ·rw[e1,g1]
  ·rw[ab6 e1]at hb1;cases hb1
  ·rw[ab6 g1]at hb2;cases hb2
  ·rw[ab5 e1]at hb1;rw[ab5 g1]at hb2
   exact h.heap.inj k1 k2 z1 z2 b e3 g3 hb1 hb2
 ·intro k' z b hz hb;rcases hlk k' z hz with⟨h1,_⟩ |⟨h1,h3⟩
  ·rw[ab6 h1]at hb;cases hb
  ·rw[ab5 h1]at hb;exact h.heap.sep k' z b h3 hb
theorem KR{C:Ctx}{m:Nat->Option Nat}{w:acj}{hp:Hp}{v:acg}{sz:Nat}{xs:List AV}(h:Rep (Im C.ext hp m w) (Sz w) m v (.lst sz xs))(hsz:0<sz) :
  (xs=[]/\∃a cap,v=.slice a 0 cap)\/∃b off cap cs,v=.slice (some ⟨b,off,none⟩) xs.length cap/\0<xs.length/\Im C.ext hp m w b cs/\off+xs.length*sz<=cs.size /\
   xs.length<=bc/\(∀(i:Nat)(e:AV),xs[i]?=some e->e.cells.length=sz)/\(∀(i j:Nat)(e c:AV),xs[i]?=some e->e.cells[j]?=some c->c.one=true) /\
   ∀(i j:Nat)(e c:AV)(u:acg),xs[i]?=some e->e.cells[j]?=some c->cs[off+i*sz+j]?=some u->Rep (Im C.ext hp m w) (Sz w) dA u c:=by
 cases h with
 |lst0 a cap=>exact .inl ⟨rfl,a,cap,rfl⟩
 | @lst _ b off cap _ _ cs u hb hc hl hs h1 hu hr =>
  rcases X8 xs.length with h0 |h0
  ·have:xs=[]:=Zv h0;subst this;exact .inl ⟨rfl,_,_,rfl⟩
  refine .inr ⟨b,off,cap,cs,rfl,h0,hb,?_,hl,hs,h1,?_⟩
  ·have he:xs[xs.length - 1]? = some (xs[xs.length - 1]'oz):=aat oz;have hel:=hs _ _ he;have hc':=hu (xs.length - 1) (sz - 1) _ _ he (aat (show sz - 1 < _ by omega))
   have hlt:off+(xs.length-1)*sz+(sz-1)<cs.size:=by
    rcases aay (off+(xs.length-1)*sz+(sz-1)) cs.size with h |h
    ·exact h
    ·rw[aal h]at hc';cases hc'
   have:xs.length*sz=(xs.length-1)*sz+sz:=by
    rw[<- YT];congr 1;omega
   omega
  ·intro i j e c v he hc hv;have:=hu i j e c he hc;rw[this]at hv;cases hv
   exact hr i j e c he hc
theorem KP{g:Nat->Array acg->Prop}{S:Nat->Nat->Prop}{m:Nat->Option Nat}{w':acj}{b sz off:Nat}{es xs:List AV}{c cs aK:Array acg}{t:ach}
  (hw:w'.heap[b]?=some (.cells aK t (0,0))) (hn:(es.length+xs.length)*sz<=aK.size) (hl:es.length+xs.length<=bc)
  (hs:∀(i:Nat)(e:AV),es[i]?=some e->e.cells.length=sz) (h1:∀(i j:Nat)(e x:AV),es[i]?=some e->e.cells[j]?=some x->x.one=true)
  (hr:∀(i j:Nat)(e:AV)(u:acg)(x:AV),es[i]?=some e->e.cells[j]?=some x->c[i*sz+j]?=some u->Rep g S dA u x)
  (hs':∀(i:Nat)(e:AV),xs[i]?=some e->e.cells.length=sz) (h1':∀(i j:Nat)(e x:AV),xs[i]?=some e->e.cells[j]?=some x->x.one=true)
  (hr':∀(i j:Nat)(e:AV)(x:AV)(u:acg),xs[i]?=some e->e.cells[j]?=some x->cs[off+i*sz+j]?=some u->Rep g S dA u x)
  (ho:∀p,p<es.length*sz->aK[p]?=c[p]?) (hn':∀p,p<xs.length*sz->aK[es.length*sz+p]?=cs[off+p]?) :
  BlkRep g S m w' (some b) (.row sz (es++xs)):=by
 have split:∀(i:Nat)(e:AV),(es++xs)[i]?=some e->es[i]?=some e\/(es.length<=i/\xs[i-es.length]?=some e):=by
  intro i e he;rcases aay i es.length with h |h
  ·rw[aa9 h]at he;exact .inl he
  ·rw[aa6 h]at he;exact .inr ⟨h,he⟩
 have lt_of:∀{l:List AV}{i:Nat}{e:AV},l[i]?=some e->i<l.length:=by
  intro l i e h;rcases aay i l.length with h' |h'
  ·exact h'
  ·rw[aa5 h']at h;cases h
 refine .row hw (by simpa using hn) (by simpa using hl) ?_ ?_ ?_
 ·intro i e he;rcases split i e he with h |⟨_,h⟩
  ·exact hs i e h
  ·exact hs' _ e h
 ·intro i j e x he hx;rcases split i e he with h |⟨_,h⟩
  ·exact h1 i j e x h hx
  ·exact h1' _ j e x h hx
 ·intro i j e u x he hx hu;rcases split i e he with h |⟨hge,h⟩
  ·have hi:=lt_of h;have hj:=lt_of hx;rw[hs i e h]at hj;have:=mL (sz:=sz) hi;rw[ho _ oz]at hu;exact hr i j e u x h hx hu
  ·have hi:=lt_of h;have hj:=lt_of hx;rw[hs' _ e h]at hj;have:=mL (sz:=sz) hi
   have e1:i*sz+j=es.length*sz+((i-es.length)*sz+j):=by
    rw[<- Yr,<- YH];congr 2;omega
   rw[e1,hn' _ oz,<- Yr]at hu;exact hr' _ j e x u h hx hu
theorem AH{o:Oper}{u:Out}(hg:o.guard=none)
  (h:∀s',gH s s' u->jO s' u->∀C m a w (next:Act->acj->Prop),C.nt=N->RelM C s' m a w->(∀m' a' w',RelM C (s'.app o.dst u) m' a' w'->next a' w') ->
   o.upon P a next (fun _ _ _=>False) ((execOp a.eval o).run P w)):Step P N R s o u:=by
 refine⟨fun s' hag hnew C m a w Q next hC hr hnext=>?_⟩;rw[ab6 (mP hg _)];refine tf ?_;have:=h s' hag hnew C m a w next hC hr hnext;unfold Oper.wp;generalize(execOp a.eval o).run P w=r at *;cases r with
 |ok n w' =>
  cases n <;> simp only[Oper.upon]at this ⊢ <;> first
   |exact this
   |exact this.mono (fun e w'' he=>by cases e <;> first |exact he |exact he.elim |(obtain⟨_,_,h⟩:=he;exact h.elim))
 |halt x w'=>cases x <;> simp only[Oper.upon]at this
end Go.Lw
namespace Go.Lw
variable{P:aci}{N:Nat}{R:Array Oper}{s:AS}{pos:String}{after:Array Edge}
theorem qD{ρ:acf->acg}{d:Option Tmp}{x y:acf}{T t:ach}{w w':acj}{v:acg}
  (h:(Builtin.append_ #[T,T] t #[ρ x,ρ y]).run P w=.ok v w') :
  (execOp ρ ⟨d,.call ⟨.builtin .append,#[x,y],#[T,T]⟩,t,pos,after,none⟩).run P w=.ok (.value v) w':=by
 simp[execOp,resolve,invoke,builtin,h]
theorem DT{T t E:ach}{ti te:TI}{w:acj}{base a:Option Addr}{len cap cap':Nat}(hT:aI P T=some ti)(hk:ti.k=.slice E)(hE:aI P E=some te)
  (hle:len<=cap):(Builtin.append_ #[T,T] t #[.slice base len cap,.slice a 0 cap']).run P w=.ok (.slice base len cap) w:=by
 obtain⟨d2,h3,h4,-,hu⟩:=ez hT w;obtain rfl:=iS (h4.trans hk)
 have hfc:(Builtin.firstCells te.size 0 (.slice a 0 cap')).run P w=.ok #[] w:=by
  cases a with
  |none=>exact run_firstCells_none w _ _ _ _
  |some a=>exact run_firstCells_some w _ _ a _ _ [] (by simp) (by simp)
 cases base with
 |none=>simp[Builtin.append_,h3,gE hE,Builtin.lenOf,hle,hfc]
 |some b=>simp[Builtin.append_,h3,gE hE,Builtin.lenOf,hle,hfc,storeCells]
theorem VH{T t E:ach}{ti te:TI}{w:acj}{b len n cap cap':Nat}{a:Addr}{c:Array acg}{t2:ach}(hT:aI P T=some ti)(hk:ti.k=.slice E)(hE:aI P E=some te)
  (hw:w.heap[b]?=some (.cells c t2 (0,0))) (news:List acg) (hnl:news.length=n*te.size) (hnc:∀(j:Nat) v,news[j]?=some v->w.cell? (a.add j)=some v)
  (hn1:∀u∈news,u.oneCell'=true) (hroom:len+n<=cap) (hfit:len*te.size+n*te.size<=c.size) :
  (Builtin.append_ #[T,T] t #[.slice (some ⟨b,0,none⟩) len cap,.slice (some a) n cap']).run P w =
   .ok (.slice (some ⟨b,0,none⟩) (len+n) cap) { w with heap:=w.heap.setIfInBounds b (.cells (over c.toList (len*te.size) news).toArray t2 (0,0)) }:=by
 obtain⟨d2,h3,h4,-,hu⟩:=ez hT w;obtain rfl:=iS (h4.trans hk);have hfc:=run_firstCells_some (P:=P) w te.size n a n cap' _ hnl hnc;have hst:=yz (P:=P) news c w (len*te.size) 0 hw (by rw[hnl];omega) hn1;simp only[Ys]at hst;simp[Builtin.append_,h3,gE hE,Builtin.lenOf,hroom,hfc,jl,hst]
theorem Lt{C:Ctx}{m:Nat->Option Nat}{a:Act}{w:acj}(hr:RelM C s m a w){b n:Nat}{c:Array acg}{t:ach}(hw:w.heap[b]?=some (.cells c t (0,0)))
  (h:Sz w b n):n<=c.size:=by
 obtain⟨c',t',f',h1,h2⟩:=h;rw[hw]at h1;cases h1;exact h2
theorem Fresh.row{d k:Nat}{z:Blk}(h:s.Fresh d)(hne:d≠k)(hz:¬z.Names d):AS.Fresh ⟨s.sl,(k,some z)::s.hp⟩ d:=by
 refine⟨?_,h.2.1,h.2.2.1,?_⟩
 ·simp only[aY,ab5 hne];exact h.1
 ·intro k' x hx;simp only[aY]at hx;split at hx
  ·cases hx;exact hz
  ·exact h.2.2.2 k' x hx
theorem xk{C:Ctx}{m:Nat->Option Nat}{a:Act}{w:acj}{d k sz n:Nat}{y:Blk}{v:acg}{rt rd:List Nat}{next:Act->acj->Prop}
  (hr:RelM C ⟨s.sl,(d,some y)::(k,none)::s.hp⟩ m a w) (hd:d<C.nt)
  (hv:Rep (Im C.ext ((d,some y)::(k,none)::s.hp) m w) (Sz w) m v (.ms d sz 0 n))
  (hnext:∀m' a' w',RelM C (s.app (some d) ⟨some (.ms d sz 0 n),[(d,some y),(k,none)],rt,rd⟩) m' a' w'->next a' w'):next (a.put (some d) v) w:=by
 refine hnext m _ _ ?_;have:=hr.put d v (some (.ms d sz 0 n)) (fun z hz=>by cases hz;exact⟨aba hd hr.nt,hv⟩);simpa[AS.app,Act.put]using this
theorem Tt{C:Ctx}{m:Nat->Option Nat}{a:Act}{w:acj}{d k sz:Nat}{es xs:List AV}{E:ach}{aK:Array acg}{cap:Nat}{rt rd:List Nat}{next:Act->acj->Prop}
  (hr:RelM C s m a w) (hfr:s.Fresh d) (hd:d<C.nt)
  (hblk:∀(g:Nat->Array acg->Prop)(S:Nat->Nat->Prop)(m':Nat->Option Nat)(w':acj),
   (∀b cs,Im C.ext s.hp m w b cs->g b cs)->(∀b n,Sz w b n->S b n)->w'.heap[w.heap.size]?=some (.cells aK E (0,0))->BlkRep g S m' w' (some w.heap.size) (.row sz (es++xs)))
  (hcap:es.length+xs.length<=cap) (hsz:cap*sz<=aK.size)
  (hnext:∀m' a' w',RelM C (s.app (some d) ⟨some (.ms d sz 0 (es.length+xs.length)),[(d,some (.row sz (es++xs))),(k,none)],rt,rd⟩) m' a' w'->next a' w') :
  next (a.put (some d) (.slice (some ⟨w.heap.size,0,none⟩) (es.length+xs.length) cap)) (w.drew.alloc (.cells aK E)):=by
 have h1:=hr.drawn (w.drawn+1);have h2:=h1.alloc hfr (.cells aK E) (.row sz (es++xs)) (fun h=>h) (fun g S m' w' hg hS _ hw=>hblk g S m' w' hg hS hw)
 have h3:=h2.fewer (hp':=(d,some (.row sz (es++xs)))::(k,none)::s.hp) (by
  intro k' z hz;simp only[aY]at hz ⊢;split at hz
  ·rename_i h;rw[ab6 h];exact hz
  ·rename_i h;rw[ab5 h]
   split at hz
   ·cases hz
   ·exact hz)
 refine xk h3 hd ?_ hnext
 have:=Rep.ms (g:=Im C.ext ((d,some (.row sz (es++xs)))::(k,none)::s.hp) (fun k'=>if k'=d then some w.heap.size else m k') (w.drew.alloc (.cells aK E)))
  (S:=Sz (w.drew.alloc (.cells aK E))) (m:=fun k'=>if k'=d then some w.heap.size else m k') (k:=d) (sz:=sz) (off:=0) (len:=es.length+xs.length) (cap:=cap)
  (ab6 rfl) hcap ⟨aK,E,(0,0),by show(w.heap.push _)[w.heap.size]?=_;simp,by simpa using hsz⟩
 simpa using this
set_option maxHeartbeats 1000000 in
theorem Tg{d k sz len:Nat}{xv:AV}{es xs:List AV}{x y:acf}{T E t:ach}{ti te:TI}
  (hx:Ev s x xv) (hsub:∀g S m v,Rep g S m v xv->Rep g S m v (.ms k sz 0 len)) (hk:s.blk k=some (.row sz es)) (hlen:len=es.length) (hy:Ev s y (.lst sz xs)) (hT:aI P T=some ti) (hkd:ti.k=.slice E) (hE:aI P E=some te)
  (hsz:te.size=sz) (hz0:(YQ te.zero.length te.size&&X9 0 te.size&&X9 0 te.bytes)=true) (hb:(len+xs.length)*te.bytes<=140737488355328) (hdk:YQ d k=false)
  (hN:X9 d N=true) :
  Step P N R s ⟨some d,.call ⟨.builtin .append,#[x,y],#[T,T]⟩,t,pos,after,none⟩
   ⟨some (.ms d sz 0 (len+xs.length)),[(d,some (.row sz (es++xs))),(k,none)],ax x++ax y,[k]⟩:=by
 refine AH rfl ?_;intro s' hag hnew C m a w next hC hr hnext;subst hsz;subst hlen
 simp only[aaw,YB]at hz0;obtain⟨⟨hz0,hz1⟩,hz2⟩:=hz0;have hz0:=aax hz0;have hdk:=YD hdk;rw[YB]at hN;have hkk:lk s'.hp k=some (.row te.size es):=(hag.2 k (by simp)).trans hk
 have hfr:s'.Fresh d:=by
  rcases hnew d (by simp)with h |h
  ·exact acc (by simpa using h) hdk
  ·exact h
 have hd:d<C.nt:=by omega
 have hxr:=hsub _ _ _ _ ((hx.agree hag (fun _ h=>aa2.2 (.inl h))).rep hr);have hyr:=(hy.agree hag (fun _ h=>aa2.2 (.inr h))).rep hr;obtain⟨i,dd,z,hi,hu,hz,rfl⟩:=so hE;obtain⟨d2,h3,h4,-,hu2⟩:=ez hT w;obtain rfl:=iS (h4.trans hkd);simp only at hz0 hz1 hz2 hb hkk hxr hyr hnext ⊢
 have hb2:es.length+xs.length<=140737488355328:=by
  have:=aaz (es.length+xs.length) (show 1<=i.bytes by omega);omega
 obtain⟨ll,hll⟩:∃ll,ll=es.length:=⟨_,rfl⟩
 rw[<- hll]at hxr;rcases KR hyr hz1 with⟨rfl,a1,cap1,hyv⟩ |⟨b1,off1,cap1,cs,hyv,hxl,him,hle1,hl1,hs1,ho1,hr1⟩
 ·-- nothing
  generalize hxv:a.eval x=u at hxr;cases hxr with
  |ms0 a0 =>
   have hes:es=[]:=Zv oz;have hrun:=DT (t:=t) (w:=w) (base:=a0) (a:=a1) (len:=0) (cap:=0) (cap':=cap1) hT hkd hE (aau _);have hex:=qD (d:=some d) (x:=x) (y:=y) (pos:=pos) (after:=after) (ρ:=a.eval) (by rw[hxv,hyv];exact hrun);rw[hex];simp only[ab3,abg,Ys]at hnext ⊢;exact xk (hr.rk hkk hfr) hd (by rw[show es.length=0 by omega];exact .ms0 _ _ _ _) hnext
  | @ms _ _ _ _ _ cap b hm hc hS =>
   have hrun:=DT (t:=t) (w:=w) (base:=some ⟨b,0*i.size,none⟩) (a:=a1) (len:=ll) (cap:=cap) (cap':=cap1) hT hkd hE hc;have hex:=qD (d:=some d) (x:=x) (y:=y) (pos:=pos) (after:=after) (ρ:=a.eval) (by rw[hxv,hyv];exact hrun);rw[hex];simp only[ab3,abg,Ys]at hnext ⊢;subst hll;exact xk (hr.rk hkk hfr) hd (.ms (by rw[ab6 rfl];exact hm) hc hS) hnext
 ·-- something
  obtain⟨hne1,hno1,t1,f1,hw1⟩:=him;have hnl:(cs.extract off1 (off1+xs.length*i.size)).toList.length=xs.length*i.size:=by simp;omega
  have hnc:∀(j:Nat) v,(cs.extract off1 (off1+xs.length*i.size)).toList[j]?=some v->w.cell? ((⟨b1,off1,none⟩:Addr).add j)=some v:=by
   intro j v hj;rw[jl,q8 hw1];rw[Z5,aak]at hj;split at hj
   ·exact hj
   ·cases hj
  have hn1:∀u∈(cs.extract off1 (off1+xs.length*i.size)).toList,u.oneCell'=true:=by
   intro u hu;obtain⟨p,hp,rfl⟩:=Zb.1 hu;rw[hnl]at hp;have hi':p/i.size<xs.length:=by rw[YA hz1];exact hp
   have he:=aat hi';have hel:=hs1 _ _ he;have hpm:p%i.size<i.size:=Ye _ hz1;have hx2:=aat (show p%i.size<(xs[p/i.size]).cells.length by omega);have hpe:p/i.size*i.size+p%i.size=p:=by rw[Yn];exact Yc _ _
   have hcv:cs[off1+p/i.size*i.size+p%i.size]?=some ((cs.extract off1 (off1+xs.length*i.size)).toList[p]'oz):=by
    rw[Yr,hpe];simp only[Array.getElem_toList,Array.getElem_extract];exact Z8 oz
   exact(hr1 _ _ _ _ _ he hx2 hcv).one (ho1 _ _ _ _ he hx2)
  have hnew':∀(aK:Array acg)(base:Nat),(∀p,p<xs.length*i.size->aK[base+p]?=(cs.extract off1 (off1+xs.length*i.size)).toList[p]?) ->
    ∀p,p<xs.length*i.size->aK[base+p]?=cs[off1+p]? := by
   intro aK base h p hp;rw[h p hp,Z5,aak,ab6 oz]
  generalize hxv:a.eval x=u at hxr
  have hgrow:∀(c:Array acg)(olds:List acg)(sCap:Nat),olds.length=es.length*i.size->(∀p,p<es.length*i.size->olds[p]?=c[p]?) ->
    (∀(i':Nat)(e:AV),es[i']?=some e->e.cells.length=i.size)->(∀(i' j:Nat)(e x:AV),es[i']?=some e->e.cells[j]?=some x->x.one=true) ->
    (∀(i' j:Nat)(e:AV)(u:acg)(x:AV),es[i']?=some e->e.cells[j]?=some x->c[i'*i.size+j]?=some u->Rep (Im C.ext s'.hp m w) (Sz w) dA u x) ->
    next (a.put (some d) (.slice (some ⟨w.heap.size,0,none⟩) (es.length+xs.length) (grownCap w (es.length+xs.length) sCap E)))
     (w.drew.alloc (.cells (olds.toArray++(cs.extract off1 (off1+xs.length*i.size)).toList.toArray++Builtin.zeroCells z.cells (grownCap w (es.length+xs.length) sCap E-(es.length+xs.length))) E)):=by
   intro c olds sCap hol hoc hs0 ho0 hr0;have hzc:z.cells.size=i.size:=by rw[<- aab];exact hz0
   have hcapge:es.length+xs.length<=grownCap w (es.length+xs.length) sCap E:=by simp only[grownCap,Question.cut];omega
   refine Tt (es:=es) (xs:=xs) hr hfr hd ?_ hcapge ?_ hnext
   ·intro g S m' w' hg hS hw'
    refine KP (c := c) (cs := cs) (off := off1) hw' ?_ (by unfold bc; omega) hs0 ho0 (fun i' j e u x he hx hu => (hr0 i' j e u x he hx hu).mono hg hS (fun _ _ _ h => h)) hs1 ho1
     (fun i' j e x u he hx hu=>(hr1 i' j e x u he hx hu).mono hg hS (fun _ _ _ h=>h)) ?_ ?_
    ·simp only[aac,YY,hol,hnl,YH];omega
    ·intro p hp;rw[aae (by simp[hol];omega),aae (by simp[hol];omega)];simpa using hoc p hp
    ·refine hnew' _ _ (fun p hp=>?_);rw[aae (by simp only[aac,YY,hol,hnl];omega),aaa (by simp only[YY,hol];omega)];simp only[YY,hol,YZ];congr 1;omega
   ·simp only[aac,YY,hol,hnl,size_zeroCells,hzc];rw[<- YH,<- YH];exact abh _ oz
  have hfits:∀sCap,sCap<es.length+xs.length->Builtin.nextslicecap (es.length+xs.length) sCap*i.bytes<=281474976710656:=fun sCap h=>growslice_fits h hb
  cases hxr with
  |ms0 a0 =>
   have hes:es=[]:=Zv oz;subst hes;have hg:=hgrow #[] [] 0 (by simp) (by simp) (by simp) (by simp) (by simp);simp only[abg,Yf]at hg;cases a0 with
   |none =>
    have hrun:=run_append_nil w T t E i z hu2 hi hz ⟨b1,off1,none⟩ xs.length cap1 _ hnl hnc hxl oz (by simp only[abg,Yf]at hb;omega);have hex:=qD (P:=P) (d:=some d) (x:=x) (y:=y) (pos:=pos) (after:=after) (ρ:=a.eval) (by rw[hxv,hyv];exact hrun);rw[hex];show next _ _;simpa using hg
   |some a0 =>
    have hrun := run_append_grow w T t E i z hu2 hi hz a0 0 0 [] (by simp) (by simp) ⟨b1, off1, none⟩ xs.length cap1 _ hnl hnc oz oz
     (by have:=hfits 0 (by simp;omega);simpa using this)
    have hex:=qD (P:=P) (d:=some d) (x:=x) (y:=y) (pos:=pos) (after:=after) (ρ:=a.eval) (by rw[hxv,hyv];exact hrun);rw[hex];show next _ _;simpa using hg
  | @ms _ _ _ _ _ cap b hm hc hS =>
   subst hll;obtain⟨c,t2,hw,hn,hl,hs0,ho0,hr0⟩:=sH hr.heap hkk hm;have hcap:=Lt hr hw hS;simp only[Yf,Nat.zero_mul]at hcap hxv
   by_cases hroom:es.length+xs.length<=cap
   ·have hle2:(es.length + xs.length) * i.size <= c.size:=abe (abh _ hroom) hcap;rw [YH] at hle2;have hrun:=VH (P:=P) (t:=t) hT hkd hE hw _ hnl hnc hn1 hroom hle2 (cap':=cap1) (len:=es.length);have hex:=qD (P:=P) (d:=some d) (x:=x) (y:=y) (pos:=pos) (after:=after) (ρ:=a.eval) (by rw [hxv,hyv]; exact hrun);rw [hex]
    have hcs:(over c.toList (es.length*i.size) (cs.extract off1 (off1+xs.length*i.size)).toList).toArray.size=c.size:=by
     simp only[YY];rw[tL _ _ _ (by rw[hnl];simp;omega)];simp
    have hr2:=hr.write (x':=.row i.size (es++xs)) hkk hm hw hcs rfl (by
     intro g S hg hS hw'
     refine KP (c := c) (cs := cs) (off := off1) hw' (by rw [hcs, YH]; omega) (by unfold bc; omega) hs0 ho0 (fun i' j e u x he hx hu => (hr0 i' j e u x he hx hu).mono hg hS (fun _ _ _ h => h)) hs1 ho1
      (fun i' j e x u he hx hu=>(hr1 i' j e x u he hx hu).mono hg hS (fun _ _ _ h=>h)) ?_ ?_
     ·intro p hp;rw[YZ,jN _ _ _ (by rw[hnl];simp;omega),ab6 hp,Z5]
     ·refine hnew' _ _ (fun p hp=>?_);rw[YZ,jN _ _ _ (by rw[hnl];simp;omega),ab5 oz,ab6 (by rw[hnl];omega)];congr 1;omega)
    have hr3:=hr2.rk (k:=k) (d:=d) (y:=.row i.size (es++xs)) (by simp[aY]) (Fresh.row hfr hdk (fun h=>h))
    have hr4:RelM C ⟨s'.sl,(d,some (.row i.size (es++xs)))::(k,none)::s'.hp⟩ (fun k'=>if k'=d then m k else m k') a
      { w with heap:=w.heap.setIfInBounds b (.cells (over c.toList (es.length*i.size) (cs.extract off1 (off1+xs.length*i.size)).toList).toArray t2 (0,0)) }:=by
     refine RelM.congr ?_ ?_ hr3
     ·intro t;rfl
     intro k';simp only[AS.blk,aY];split
     ·rfl
     ·split <;> rfl
    refine xk hr4 hd ?_ hnext
    have:=Rep.ms (g:=Im C.ext ((d,some (.row i.size (es++xs)))::(k,none)::s'.hp) (fun k'=>if k'=d then m k else m k')
      { w with heap:=w.heap.setIfInBounds b (.cells (over c.toList (es.length*i.size) (cs.extract off1 (off1+xs.length*i.size)).toList).toArray t2 (0,0)) })
     (S:=Sz { w with heap:=w.heap.setIfInBounds b (.cells (over c.toList (es.length*i.size) (cs.extract off1 (off1+xs.length*i.size)).toList).toArray t2 (0,0)) })
     (m:=fun k'=>if k'=d then m k else m k') (k:=d) (sz:=i.size) (off:=0) (len:=es.length+xs.length) (cap:=cap) (b:=b)
     (by rw [ab6 rfl]; exact hm) hroom ⟨_, t2, (0, 0), by
      show(w.heap.setIfInBounds b _)[b]?=_;rw[aad,ab6 rfl,ab6 (xt hw)],by rw[hcs,Yf];exact hcap⟩
    simpa using this
   ·have holl : (c.extract 0 (es.length * i.size)).toList.length = es.length * i.size := by simp; omega
    have hg:=hgrow c (c.extract 0 (es.length*i.size)).toList cap holl (by
     intro p hp;rw[Z5,aak,ab6 oz,Yf]) hs0 ho0 hr0
    have hrun:=run_append_grow w T t E i z hu2 hi hz ⟨b,0,none⟩ es.length cap (c.extract 0 (es.length*i.size)).toList holl (by
     intro j v hj;rw[jl,q8 hw];rw[Z5,aak]at hj;split at hj
     ·simpa using hj
     ·cases hj) ⟨b1,off1,none⟩ xs.length cap1 _ hnl hnc oz oz (hfits cap oz)
    have hex:=qD (P:=P) (d:=some d) (x:=x) (y:=y) (pos:=pos) (after:=after) (ρ:=a.eval) (by rw[hxv,hyv];exact hrun);rw[hex];exact hg
theorem cK{d k sz len:Nat}{es xs:List AV}{x y:acf}{T E t:ach}{ti te:TI}
  (hx:Ev s x (.ms k sz 0 len)) (hk:s.blk k=some (.row sz es)) (hlen:len=es.length) (hy:Ev s y (.lst sz xs)) (hT:aI P T=some ti) (hkd:ti.k=.slice E) (hE:aI P E=some te)
  (hsz:te.size=sz) (hz0:(YQ te.zero.length te.size&&X9 0 te.size&&X9 0 te.bytes)=true) (hb:(len+xs.length)*te.bytes<=140737488355328) (hdk:YQ d k=false)
  (hN:X9 d N=true) :
  Step P N R s ⟨some d,.call ⟨.builtin .append,#[x,y],#[T,T]⟩,t,pos,after,none⟩
   ⟨some (.ms d sz 0 (len+xs.length)),[(d,some (.row sz (es++xs))),(k,none)],ax x++ax y,[k]⟩ :=
 Tg hx (fun _ _ _ _ h=>h) hk hlen hy hT hkd hE hsz hz0 hb hdk hN
end Go.Lw
namespace Go.Lw
variable{P:aci}{N:Nat}{R:Array Oper}{s:AS}{pos:String}{after:Array Edge}
def uB(P:aci)(f:FuncId):Prop:=∀args w,(callFunc f args).run P w=.ok (.enter f args) w
theorem SH {f : FuncId} {fn : Func} {c : Code} (hf : P.funcs[f]? = some fn) (hb : fn.body = some c) (hn : (fn.name == "runtime.NumGoroutine") = false) : uB P f := by
 intro args w;have hn' : ¬ fn.name = "runtime.NumGoroutine" := by simpa using hn
 simp[callFunc,hf,hb,hn']
structure Con(P:aci)(f:FuncId)(args:List AV)(H:Hp)(r:AV)(H':Hp):Prop where
  ok:uB P f
  ret:QO P f args H r H'
abbrev jc(P:aci)(f:FuncId)(args:List AV)(r:AV):Prop:=Con P f args [] r []
theorem TB{ρ:acf->acg}{o:Oper}{f:FuncId}{args:Array acf}{ts:Array ach}{w:acj}{vs:Array acg}(ho:o.op=.call ⟨.value (.func f),args,ts⟩)
  (hρ:ρ (.func f)=.func (.func f) #[] #[]) (hok:uB P f) (hvs:args.map ρ=vs):(execOp ρ o).run P w=.ok (.enter f vs) w:=by
 subst hvs;have:=hok (args.map ρ) w;obtain⟨dst,op,type,pos,after,guard⟩:=o;subst ho;simp[execOp,resolve,hρ,Deferred.ofValue,invoke,this]
theorem Me{ρ:acf->acg}{o:Oper}{g:acf}{f:FuncId}{caps:Array acg}{args:Array acf}{ts:Array ach}{w:acj}{vs:Array acg}(ho:o.op=.call ⟨.value g,args,ts⟩)
  (hρ:ρ g=.func (.func f) #[] caps) (hok:uB P f) (hvs:args.map ρ++caps=vs):(execOp ρ o).run P w=.ok (.enter f vs) w:=by
 subst hvs;have:=hok (args.map ρ++caps) w;obtain⟨dst,op,type,pos,after,guard⟩:=o;subst ho;simp[execOp,resolve,hρ,Deferred.ofValue,invoke,this]
def il(H:Hp)(k:Nat):Bool:=match lk H k with |some _=>true |none=>false
theorem ii{H:Hp}{k:Nat}:il H k=true↔∃z,lk H k=some z:=by
 unfold il;cases lk H k <;> simp
def tC(r:AV)(H':Hp):Bool :=
  (r.nm.all fun k=>il H' k)&&H'.all fun p=>match p.2 with |some x=>x.nm.all fun k=>il H' k |none=>true
def dw(H:Hp):Hp:=H.map fun p=>(p.1,none)
theorem XC(H:Hp)(k:Nat):lk (dw H) k=none:=by
 induction H with
 |nil=>rfl
 |cons p H ih =>
  obtain⟨k',x⟩:=p;simp only[dw,ab2,aY];split
  ·rfl
  ·exact ih
theorem oa{H:Hp}{k:Nat}{z:Blk}(h:lk H k=some z):k∈H.map (·.1):=Y8.2 ⟨_,mU h,rfl⟩
theorem RelM.called{C:Ctx}{m:Nat->Option Nat}{a:Act}{w:acj}(hr:RelM C s m a w){run:Array acg->acj->(Ending->acj->Prop)->Prop}(hmono:∀vs w R R',run vs w R->(∀e w',R e w'->R' e w')->run vs w R'){xs:List AV}{H H':Hp}{r:AV}(hcon:Ad run xs H r H'){vs:Array acg}
  (hvs:vs.size=xs.length) (hrep:∀(j:Nat) v x,vs[j]?=some v->xs[j]?=some x->Rep (Im C.ext s.hp m w) (Sz w) m v x)
  (hH:∀k z,lk H k=some z->lk s.hp k=some z) (hnew:∀k z,lk H' k=some z->(∃y,lk H k=some y)\/s.Fresh k)
  (hHk:∀k∈H.map (·.1),il H k=true) (hnm:tC r H'=true) :
  run vs w fun e w'=>∃v m'',e=.returned v/\RelM C ⟨s.sl,H'++dw H++s.hp⟩ m'' a w'/\Rep (Im C.ext (H'++dw H++s.hp) m'' w') (Sz w') m'' v r /\
   ∀k y z,lk H k=some y->lk H' k=some z->m'' k=m k:=by
 simp only[tC,aaw,aa3]at hnm;obtain⟨hnm1,hnm2⟩:=hnm
 let ext':Nat->Prop:=fun b=>C.ext b\/∃k z,lk s.hp k=some z/\lk H k=none/\m k=some b
 have hown:∀b,bf H m b->bf s.hp m b:=fun b ⟨k,z,h1,h2⟩=>⟨k,z,hH k z h1,h2⟩
 have him:∀b cs,Im C.ext s.hp m w b cs->Im ext' H m w b cs:=by
  rintro b cs ⟨h1,h2,h3⟩;refine⟨?_,fun h=>h2 (hown b h),h3⟩;rintro(h |⟨k,z,hk,_,hb⟩)
  ·exact h1 h
  ·exact h2 ⟨k,z,hk,hb⟩
 have hheap:HeapRel ext' H m w:=by
  refine⟨?_,?_,?_⟩
  ·intro k z hk;exact BlkRep.mono (w:=w) him (fun _ _ h=>h) (fun _ _ _ h=>h) rfl (fun _ _=>rfl) (hr.heap.blk k z (hH k z hk))
  ·intro k k' z z' b h1 h2;exact hr.heap.inj k k' z z' b (hH _ _ h1) (hH _ _ h2)
  ·intro k z b hk hb;have:=hr.heap.sep k z b (hH k z hk) hb;refine⟨?_,this.2⟩;rintro(h |⟨k2,z2,hk2,hn2,hb2⟩)
   ·exact this.1 h
   ·have:=hr.heap.inj k k2 z z2 b (hH k z hk) hk2 hb hb2;subst this;rw[hk]at hn2;cases hn2
 have hext':∀b,ext' b->b<w.heap.size:=by
  rintro b (h |⟨k,z,hk,_,hb⟩)
  ·exact hr.ext_lt h
  ·exact(hr.heap.sep k z b hk hb).2
 refine hmono _ _ _ _ (hcon ext' m w vs hext' hheap hvs (fun j v x h1 h2=>(hrep j v x h1 h2).mono him (fun _ _ h=>h) (fun _ _ _ h=>h))) ?_;rintro e w' ⟨v,m',rfl,hf,hh',hown',hkeep,hrr⟩
 have hkeys:∀k,k∈(dw H).map (·.1)->il H k=true:=by
  intro k hk;apply hHk;simpa[dw]using hk
 have hlk:∀k z,lk (H'++dw H++s.hp) k=some z->lk H' k=some z\/(il H' k=false/\lk H k=none/\lk s.hp k=some z):=by
  intro k z hz;rw[abu,oc]at hz;split at hz
  ·exact .inl hz
  ·rename_i h1
   have ha:il H' k=false:=by
    cases h:il H' k with
    |false=>rfl
    |true=>obtain⟨z',hz'⟩:=ii.1 h;exact acc (oa hz') h1
   rw[oc]at hz;split at hz
   ·rw[XC]at hz;cases hz
   ·rename_i h2;refine .inr ⟨ha,?_,hz⟩;cases h:lk H k with
    |none=>rfl
    |some y=>exact acc (by simpa[dw]using oa h) h2
 let m'':Nat->Option Nat:=fun k=>if il H' k=true then m' k else m k
 have hm1:∀k,il H' k=true->m'' k=m' k:=fun k h=>ab6 h
 have hm2:∀k,il H' k=false->m'' k=m k:=fun k h=>ab5 (by simp[h])
 have hstay:∀(k:Nat) b,¬s.Fresh k->m k=some b->m'' k=some b:=by
  intro k b hnf hb;cases h:il H' k with
  |false=>rw[hm2 k h];exact hb
  |true =>
   rw[hm1 k h];obtain⟨z,hz⟩:=ii.1 h;rcases hnew k z hz with⟨y,hy⟩ |hfr
   ·rw[hkeep k y z hy hz];exact hb
   ·exact acc hfr hnf
 have hf':Frame (bf s.hp m) w w':=⟨hf.os,hf.tape,hf.output,hf.size,hf.sz,fun b hb hn=>hf.keep b hb (fun h=>hn (hown b h))⟩
 have hal:∀k z b,lk (H'++dw H++s.hp) k=some z->m'' k=some b->bf s.hp m b\/w.heap.size<=b:=by
  intro k z b hz hb;rcases hlk k z hz with h |⟨h1,h2,h3⟩
  ·rw[hm1 k (ii.2 ⟨z,h⟩)]at hb;rcases hown' k z b h hb with h' |h'
   ·exact .inl (hown b h')
   ·exact .inr h'
  ·rw[hm2 k h1]at hb;exact .inl ⟨k,z,h3,hb⟩
 have him':∀b cs,Im ext' H' m' w' b cs->Im C.ext (H'++dw H++s.hp) m'' w' b cs:=by
  rintro b cs ⟨h1,h2,h3⟩;refine⟨fun h=>h1 (.inl h),?_,h3⟩;rintro⟨k,z,hz,hb⟩;rcases hlk k z hz with h |⟨g1,g2,g3⟩
  ·rw[hm1 k (ii.2 ⟨z,h⟩)]at hb;exact h2 ⟨k,z,h,hb⟩
  ·rw[hm2 k g1]at hb;exact h1 (.inr ⟨k,z,g3,g2,hb⟩)
 refine⟨v,m'',rfl,hr.update hf' ?_ hal ?_ ⟨?_,?_,?_⟩,hrr.mono him' (fun _ _ h=>h) ?_,fun k y z hy hz=>by rw[hm1 k (ii.2 ⟨z,hz⟩)];exact hkeep k y z hy hz⟩
 ·intro t x k b hx hn hb;exact hstay k b (fun hfr=>hfr.2.2.1 t x hx hn) hb
 ·intro k z h1000 hz;rcases hlk k z hz with h |⟨h1,h2,h3⟩
  ·rcases hnew k z h with⟨y,hy⟩ |hfr
   ·exact⟨⟨y,hH k y hy⟩,by rw[hm1 k (ii.2 ⟨z,h⟩)];exact hkeep k y z hy h⟩
   ·have:=hfr.2.1;omega
  ·exact⟨⟨z,h3⟩,hm2 k h1⟩
 ·intro k z hz;rcases hlk k z hz with h |⟨h1,h2,h3⟩
  ·rw[hm1 k (ii.2 ⟨z,h⟩)];refine BlkRep.mono (w:=w') him' (fun _ _ h=>h) ?_ rfl (fun _ _=>rfl) (hh'.blk k z h);intro k2 b hn hb;have:=hnm2 _ (mU h);simp only[aa3]at this;rw[hm1 k2 (this k2 hn.mem)];exact hb
  ·rw[hm2 k h1];refine BlkRep.mono (w:=w) (fm hf' hal) hf.sz ?_ rfl ?_ (hr.heap.blk k z h3)
   ·intro k2 b hn hb;exact hstay k2 b (fun hfr=>hfr.2.2.2 k z h3 hn) hb
   ·intro b hb;refine hf.keep b (hr.heap.sep k z b h3 hb).2 ?_;rintro⟨k2,z2,hk2,hb2⟩;have:=hr.heap.inj k k2 z z2 b h3 (hH k2 z2 hk2) hb hb2;subst this;rw[h2]at hk2;cases hk2
 ·intro k1 k2 z1 z2 b h1 h2 hb1 hb2;rcases hlk k1 z1 h1 with e |⟨e1,e2,e3⟩ <;> rcases hlk k2 z2 h2 with g |⟨g1,g2,g3⟩
  ·rw[hm1 k1 (ii.2 ⟨z1,e⟩)]at hb1;rw[hm1 k2 (ii.2 ⟨z2,g⟩)]at hb2
   exact hh'.inj k1 k2 z1 z2 b e g hb1 hb2
  ·rw[hm1 k1 (ii.2 ⟨z1,e⟩)]at hb1;rw[hm2 k2 g1]at hb2
   exact acc (.inr ⟨k2,z2,g3,g2,hb2⟩) (hh'.sep k1 z1 b e hb1).1
  ·rw[hm2 k1 e1]at hb1;rw[hm1 k2 (ii.2 ⟨z2,g⟩)]at hb2
   exact acc (.inr ⟨k1,z1,e3,e2,hb1⟩) (hh'.sep k2 z2 b g hb2).1
  ·rw[hm2 k1 e1]at hb1;rw[hm2 k2 g1]at hb2
   exact hr.heap.inj k1 k2 z1 z2 b e3 g3 hb1 hb2
 ·intro k z b hz hb;rcases hlk k z hz with h |⟨h1,h2,h3⟩
  ·rw[hm1 k (ii.2 ⟨z,h⟩)]at hb;have:=hh'.sep k z b h hb;exact⟨fun hc=>this.1 (.inl hc),this.2⟩
  ·rw[hm2 k h1]at hb;have:=hr.heap.sep k z b h3 hb;exact⟨this.1,aba this.2 hf.size⟩
 ·intro k b hn hb;rw[hm1 k (hnm1 k hn.mem)];exact hb
end Go.Lw
namespace Go.Lw
variable{P:aci}{N:Nat}{R:Array Oper}{s:AS}{pos:String}{after:Array Edge}
def iZ(s:AS)(H H':Hp)(r:AV):Bool:=(H.all fun p=>il H p.1)&&tC r H'
theorem zi{o:Oper}{f:FuncId}{xs:List AV}{H H':Hp}{r:AV}{rt:List Nat}{x:Option AV}(hg:o.guard=none)(hd:∀d,o.dst=some d->X9 d N=true/\x=some r)
  (hcon:Con P f xs H r H') (hH:∀k z,lk H k=some z->s.blk k=some z) (hok:iZ s H H' r=true)
  (h:∀s',(∀t∈rt,s'.get t=s.get t)->∀C m a w,RelM C s' m a w->∃vs:Array acg,(execOp a.eval o).run P w=.ok (.enter f vs) w/\vs.size=xs.length /\
   ∀(j:Nat) v x,vs[j]?=some v->xs[j]?=some x->Rep (Im C.ext s'.hp m w) (Sz w) m v x) :
  Step P N R s o ⟨x,H'++dw H,rt,H.map (·.1)⟩:=by
 refine AH hg ?_;intro s' hag hnew C m a w next hC hr hnext;simp only[iZ,aaw,aa3]at hok;obtain⟨hok1,hok2⟩:=hok;obtain⟨vs,h1,h2,h3⟩:=h s' hag.1 C m a w hr;rw[h1]
 have hc := hr.called (run := Calls P f) (fun _ _ _ _ h h' => Calls.mono h h') hcon.ret h2 h3 (fun k z hz => by rw [<- hH k z hz]; exact hag.2 k (oa hz)) (by
  intro k z hz;rcases hnew k (by simp only[abf,aa2];exact .inl (oa hz))with h |h
  ·obtain⟨p,hp,rfl⟩:=Y8.1 h;exact .inl (ii.1 (hok1 p hp))
  ·exact .inr h) (by
  intro k hk;obtain⟨p,hp,rfl⟩:=Y8.1 hk;exact hok1 p hp) hok2
 refine Calls.mono hc ?_;rintro e w' ⟨v,m'',rfl,hr',hrr,_⟩;cases hdst:o.dst with
 |none =>
  refine hnext m'' _ _ ?_;simpa[AS.app,hdst,Act.put]using hr'
 |some d =>
  obtain⟨hN,rfl⟩:=hd d hdst;rw[YB]at hN;refine hnext m'' _ _ ?_;have:=hr'.put d v (some r) (fun z hz=>by cases hz;exact⟨by have:=hr'.nt;omega,hrr⟩);simpa[AS.app,hdst,Act.put]using this
theorem aE{d f:Nat}{args:Array acf}{ts:Array ach}{xs:List AV}{H H':Hp}{r:AV}{t:ach}
  (hcon:Con P f xs H r H') (ha:EvL s args.toList xs) (hH:∀k z,lk H k=some z->s.blk k=some z) (hok:iZ s H H' r=true) (hN:X9 d N=true) :
  Step P N R s ⟨some d,.call ⟨.value (.func f),args,ts⟩,t,pos,after,none⟩ ⟨some r,H'++dw H,eV args.toList,H.map (·.1)⟩ :=
 zi rfl (fun d' h => by cases h; exact ⟨hN, rfl⟩) hcon hH hok fun s' hag C m a w hr => by
  have ha':=ha.agree (u:=⟨none,[],eV args.toList,[]⟩) ⟨hag,fun k hk=>by cases hk⟩ (fun _ h=>h);refine⟨args.map a.eval,TB rfl rfl hcon.ok rfl,?_,?_⟩
  ·have:=ha'.length;simpa using this
  ·intro j v x hv hx;exact ha'.rep hr j v x (by simpa using hv) hx
theorem M4{d f:Nat}{args:Array acf}{ts:Array ach}{xs:List AV}{r:AV}{t:ach}
  (hcon:jc P f xs r) (ha:EvL s args.toList xs) (hnm:r.nm=[]) (hN:X9 d N=true) :
  Step P N R s ⟨some d,.call ⟨.value (.func f),args,ts⟩,t,pos,after,none⟩ ⟨some r,[],eV args.toList,[]⟩ :=
 aE hcon ha (fun k z h=>by cases h) (by simp[iZ,tC,hnm]) hN
theorem wX{d f:Nat}{g:acf}{args:Array acf}{ts:Array ach}{xs caps:List AV}{H H':Hp}{r:AV}{t:ach}
  (hg:Ev s g (.fn f caps)) (hcon:Con P f (xs++caps) H r H') (ha:EvL s args.toList xs) (hH:∀k z,lk H k=some z->s.blk k=some z) (hok:iZ s H H' r=true) (hN:X9 d N=true) :
  Step P N R s ⟨some d,.call ⟨.value g,args,ts⟩,t,pos,after,none⟩ ⟨some r,H'++dw H,ax g++eV args.toList,H.map (·.1)⟩ :=
 zi rfl (fun d' h => by cases h; exact ⟨hN, rfl⟩) hcon hH hok fun s' hag C m a w hr => by
  have hag':gH s s' ⟨none,[],ax g++eV args.toList,[]⟩:=⟨hag,fun k hk=>by cases hk⟩
  have ha':=ha.agree hag' (fun _ h=>aa2.2 (.inr h));have hgr:=(hg.agree hag' (fun _ h=>aa2.2 (.inl h))).rep hr;generalize hv:a.eval g=u at hgr;cases hgr with
  | @fn _ _ cvs _ hn hrr =>
   have hl:=ha'.length;refine⟨args.map a.eval++cvs,Me rfl hv hcon.ok rfl,by simp[hn];simpa using hl,?_⟩;intro j v x hv hx;rcases aay j xs.length with h |h
   ·rw[aa9 h]at hx;rw[aae (by simp;simp at hl;omega)]at hv;exact ha'.rep hr j v x (by simpa using hv) hx
   ·rw[aa6 h]at hx;rw[aaa (by simp;simp at hl;omega)]at hv;refine hrr (j-xs.length) v x ?_ hx;rw[<- hv];congr 1;simp at hl ⊢;omega
inductive ResV(P:aci)(s:AS):ResultVar->AV->Prop
  |tmp {t:Nat} {x:AV} (h:s.get t=some x):ResV P s (.tmp t) x
  |cell {t k:Nat} {cs:List AV} {T:ach} {ti:TI} (h:s.get t=some (.ptr k 0)) (hk:s.blk k=some (.box cs)) (hT:aI P T=some ti)
      (hle:Nat.ble ti.size cs.length=true) (h1:(ti.ag||YQ ti.size 1)=true):ResV P s (.cell t T) (kN ti.ag (cs.take ti.size))
inductive ResL(P:aci)(s:AS):List ResultVar->List AV->Prop
  |nil:ResL P s [] []
  |cons {r:ResultVar} {x:AV} {rs:List ResultVar} {xs:List AV} (h:ResV P s r x) (hs:ResL P s rs xs):ResL P s (r::rs) (x::xs)
def dU:List AV->AV
  |[x]=>x
  |xs=>.tup xs
def x3(tmps:Array acg):ResultVar->Sem acg
  | .tmp t=>pure (tmps.getD t undef)
  | .cell a t=>do loadVar t (<- asAddr (tmps.getD a undef))
theorem Qx(fn:Func)(tmps:Array acg) :
  results fn tmps=(fn.results.mapM (x3 tmps) >>= fun vs=>pure (if h:vs.size=1 then vs[0]else .tuple vs)):=by
 unfold results;congr 2
theorem ResV.run{x:AV}{r:ResultVar}(h:ResV P s r x){C:Ctx}{m:Nat->Option Nat}{a:Act}{w:acj}(hr:RelM C s m a w) :
  ∃v,(x3 a.tmps r).run P w=.ok v w/\Rep (Im C.ext s.hp m w) (Sz w) m v x:=by
 cases h with
 |tmp h=>exact⟨_,rfl,(hr.slots _ _ h).2⟩
 | @cell t k cs T ti h hk hT hle h1 =>
  rw[YS]at hle;have h1:ti.ag=true\/ti.size=1:=by simpa using h1
  obtain⟨b,hm,hv⟩:=rP hr (Ev.tmp h);obtain⟨c,t2,hw,hn,ho,hrr⟩:=vg hr.heap hk hm;have hv':a.tmps.getD t undef=.pointer (some ⟨b,0,none⟩):=hv;refine⟨_,by simp only[x3,hv',Sem.run_bind,asAddr,Sem.run_pure,Result.andThen_ok];exact wb hT hw (by omega:0+ti.size<=c.size) h1,?_⟩;refine x4 (c:=c) (off:=0) (n:=ti.size) (by simp;omega) oz h1 ?_ ?_
  ·intro j y hy;rw[abj]at hy;split at hy
   ·exact ho _ y hy
   ·cases hy
  ·intro j u y hy hu;rw[abj]at hy;split at hy
   ·exact hrr _ u y (by simpa using hu) hy
   ·cases hy
theorem Ns{g:Nat->Array acg->Prop}{S:Nat->Nat->Prop}{m:Nat->Option Nat}:∀(vs:List acg)(xs:List AV),vs.length=xs.length ->
  (∀(j:Nat) v x,vs[j]?=some v->xs[j]?=some x->Rep g S m v x) ->
  Rep g S m (if h:vs.toArray.size=1 then vs.toArray[0]else .tuple vs.toArray) (dU xs)
 |[],[],_,_=>by simp[dU];exact .tup rfl (by simp)
 |[v],[x],_,h=>by simp[dU];exact h 0 v x rfl rfl
 |v::v'::vs,x::x'::xs,h2,h=>by
  simp[dU];exact .tup (by simpa using h2) (fun j u c hu hc=>h j u c (by simpa using hu) hc)
theorem V1{fn:Func}{rs:List ResultVar}{xs:List AV}(hfn:fn.results=rs.toArray)(h:ResL P s rs xs){C:Ctx}{m:Nat->Option Nat}{a:Act}{w:acj}(hr:RelM C s m a w) :
  ∃v,(results fn a.tmps).run P w=.ok v w/\Rep (Im C.ext s.hp m w) (Sz w) m v (dU xs):=by
 have key:∃vs:List acg,(rs.mapM (x3 a.tmps)).run P w=.ok vs w /\
   vs.length=xs.length/\∀(j:Nat) v x,vs[j]?=some v->xs[j]?=some x->Rep (Im C.ext s.hp m w) (Sz w) m v x:=by
  clear hfn
  induction h with
  |nil=>exact⟨[],by simp,rfl,by simp⟩
  |cons h1 _ ih =>
   obtain⟨v,h2,h3⟩:=h1.run hr;obtain⟨vs,h4,h5,h6⟩:=ih;refine⟨v::vs,by simp only[List.mapM_cons,Sem.run_bind,h2,Result.andThen_ok,h4,Sem.run_pure],by simp[h5],?_⟩;intro j v' x hv hx;cases j with
   |zero=>simp at hv hx;subst hv;subst hx;exact h3
   |succ j=>exact h6 j v' x (by simpa using hv) (by simpa using hx)
 obtain⟨vs,h1,h2,h3⟩:=key;refine⟨_,?_,Ns vs xs h2 h3⟩;rw[Qx,hfn,Z6];simp only[Sem.run_bind,Sem.run_map,h1,Result.andThen_ok,Sem.run_pure]
def aC(s:AS)(x:AV)(r:AV)(H':Hp):Prop :=
  ∀ext m w v,HeapRel ext s.hp m w->(∀b,ext b->b<w.heap.size)->Rep (Im ext s.hp m w) (Sz w) m v x ->
    ∃m',HeapRel ext H' m' w/\(∀k z b,lk H' k=some z->m' k=some b->bf s.hp m b)/\(∀k z,1000<=k->lk H' k=some z->(∃y,lk s.hp k=some y)/\m' k=m k) /\
      Rep (Im ext H' m' w) (Sz w) m' v r
def mN(P:aci)(rs:List ResultVar)(r:AV)(H':Hp):Exit->AS->Prop
  | .normal,s | .ret,s=>∃xs,ResL P s rs xs/\aC s (dU xs) r H'
  |_,_=>False
def mf:Nat->List AV->cE
  |_,[]=>[]
  |n,x::xs=>(n,some x)::mf (n+1) xs
theorem FR:∀(xs:List AV)(n t:Nat)(x:AV),lk (mf n xs) t=some x->n<=t/\xs[t-n]?=some x
 |[],n,t,x,h=>by simp[mf,lk]at h
 |y::ys,n,t,x,h=>by
  simp only[mf,aY]at h;split at h
  ·cases h;subst_vars;simp
  ·obtain⟨h1,h2⟩:=FR ys (n+1) t x h;refine⟨by omega,?_⟩;rw[show t-n=(t-(n+1))+1 by omega,List.getElem?_cons_succ];exact h2
theorem RelM.unmark{C:Ctx}{m:Nat->Option Nat}{a:Act}{w:acj}(h:RelM C s m a w){D:Nat}{l:List Deferred}(h1:C.w0.heap.size<=D)(h2:w.heap[D]?=some (.deferred (some [])))
  (hl:qW C.w0.heap.size l (w.putObj D (.deferred none))):RelM C s m { a with defers:=l } (w.putObj D (.deferred none)):=by
 have hlt:=h.heap.lt h2;have hoth:∀b,b≠D->(w.putObj D (.deferred none)).heap[b]?=w.heap[b]? := fun b hb=>World.putObj_heap_other hb
 have hc:∀(b:Nat)(cs:Array acg)(t:ach)(f:Nat×Nat),w.heap[b]?=some (Obj.cells cs t f)->(w.putObj D (.deferred none)).heap[b]?=some (Obj.cells cs t f):=fun b cs t f hb=>by
  rw[hoth b (fun e=>by rw[e,h2]at hb;cases hb)];exact hb
 have him:∀b cs,Im C.ext s.hp m w b cs->Im C.ext s.hp m (w.putObj D (.deferred none)) b cs:=fun b cs ⟨e1,e2,t,f,e3⟩=>⟨e1,e2,t,f,hc _ _ _ _ e3⟩
 have hsz:∀b n,Sz w b n->Sz (w.putObj D (.deferred none)) b n:=fun b n ⟨c,t,f,e1,e2⟩=>⟨c,t,f,hc _ _ _ _ e1,e2⟩
 refine⟨fun t x hx=>⟨(h.slots t x hx).1,(h.slots t x hx).2.mono him hsz (fun _ _ _ h=>h)⟩,⟨?_,h.heap.inj,fun k x b hk hb=>⟨(h.heap.sep k x b hk hb).1,by simpa[World.putObj]using(h.heap.sep k x b hk hb).2⟩⟩,?_,h.new,h.keep,hl,h.nt⟩
 ·intro k x hk;refine BlkRep.mono him hsz (fun _ _ _ h=>h) rfl (fun b hb=>hoth b (fun e=>?_)) (h.heap.blk k x hk);subst e;exact h.heap.cells hk hb h2
 ·refine⟨h.frame.os,h.frame.tape,h.frame.output,by simpa[World.putObj]using h.frame.size,fun b n hs => hsz b n (h.frame.sz b n hs),fun b hb hn => ?_⟩;rw[hoth b oz];exact h.frame.keep b hb hn
theorem Hw{C:Ctx}{fn:Func}{n:Nat}{R:Ending->acj->Prop}(hR:∀m a w,a.defers=[]->RelM C s m a w->∃v,(results fn a.tmps).run P w=.ok v w/\R (.returned v) w) :
  ∀(Ds:List Nat)(m:Nat->Option Nat)(a:Act)(w:acj),a.defers=Ds.map qI->Ds.Nodup->(∀D∈Ds,C.w0.heap.size<=D/\w.heap[D]?=some (.deferred (some [])))->RelM C s m a w ->
   LeavesInM Fence.wide n P fn a.tmps R a.defers .returning w
 |[],m,a,w,ha,hn,hD,h=>by
  have hn:a.defers=[]:=ha;rw[hn];exact hR m a w hn h
 |D::Ds,m,a,w,ha,hn,hD,h=>by
  obtain⟨h1,h2⟩:=hD D (abr ..);rw[ha];refine⟨by simp,.inl ⟨D,_,rfl,run_takeDeferred h2,?_⟩⟩;obtain⟨hnd,hn'⟩:=List.nodup_cons.1 hn
  have hD':∀D'∈Ds,C.w0.heap.size<=D'/\(w.putObj D (.deferred none)).heap[D']?=some (.deferred (some [])):=fun D' hm=>by
   obtain⟨g1,g2⟩:=hD D' (abt _ hm);have hne:D'≠D:=fun e=>hnd (by rw[<- e];exact hm)
   exact⟨g1,by rw[World.putObj_heap_other hne];exact g2⟩
  exact Hw hR Ds m { a with defers:=Ds.map qI } _ rfl hn' hD' (h.unmark h1 h2 ⟨Ds,rfl,hn',hD'⟩)
theorem JZ{f:FuncId}{fn:Func}{c:Code}{rs:List ResultVar}{args:List AV}{H:Hp}{r:AV}{H':Hp}(hf:P.funcs[f]?=some fn)(hb:fn.body=some c)
    (hn : (fn.name == "runtime.NumGoroutine") = false) (hrs : fn.results = rs.toArray) (hN : fn.ntmps = N) (hH : ∀ k z, lk H k = some z -> 1000 <= k)
    (h:kF P N c (mN P rs r H') ⟨mf 0 args,H⟩):Con P f args H r H':=by
  refine⟨SH hf hb hn,?_⟩;intro ext m w vs hext hheap hvs hrep;refine(callsIn_wide (n:=0)).1 (callsIn_of_wp_marks hf hb trivial ?_ rfl)
  let C:Ctx:=⟨w,ext,bf H m,m,N,hext,none⟩
  have hr0:RelM C ⟨mf 0 args,H⟩ m { tmps:=vs++Z7 (fn.ntmps-vs.size) undef,defers:=[] } w:=by
    refine⟨?_,hheap,Frame.refl _ _,fun k x b h1 h2=>.inl ⟨k,x,h1,h2⟩,fun _ _ _ _=>rfl,qW.nil _ _,?_⟩
    · intro t x hx
      obtain⟨_,h2⟩:=FR args 0 t x hx;simp only[Nat.sub_zero]at h2
      have ht:t<args.length:=by
        rcases aay t args.length with h |h
        · exact h
        · rw[aa5 h]at h2;cases h2
      have ht':t<vs.size:=by omega
      refine⟨by simp;omega,?_⟩
      have:(vs++Z7 (fn.ntmps-vs.size) undef).getD t undef=vs[t]:=by
        rw[aa1,aae ht',Z8 ht'];rfl
      simp only[this];exact hrep t vs[t] x (Z8 ht') h2
    · show N<=_
      simp;omega
  refine wpIn_mono (h C m _ w 0 rfl rfl hr0) ?_;rintro e a' w' ⟨s',m',hq,hr⟩
  have hend:∀(xs:List AV),ResL P s' rs xs->aC s' (dU xs) r H'->LeavesInM Fence.wide 0 P fn a'.tmps (fun e w'=>∃v' m'',e=Ending.returned v'/\Frame (bf H m) w w'/\HeapRel ext H' m'' w' /\
        (∀k x b,lk H' k=some x->m'' k=some b->bf H m b\/w.heap.size<=b)/\(∀k x y,lk H k=some x->lk H' k=some y->m'' k=m k) /\
        Rep (Im ext H' m'' w') (Sz w') m'' v' r) a'.defers .returning w':=by
    intro xs hx hfin;obtain⟨Ds,e1,e2,e3⟩:=hr.defers;refine Hw (C:=C) (s:=s') (fun m1 a1 w1 _ hr1=>?_) Ds m' a' w' e1 e2 e3 hr;obtain⟨v,h1,h2⟩:=V1 hrs hx hr1;obtain⟨m'',h3,h4,h5,h6⟩:=hfin ext m1 w1 v hr1.heap (fun b hb=>hr1.ext_lt hb) h2;refine⟨v,h1,v,m'',rfl,hr1.frame,h3,?_,?_,h6⟩
    · intro k z b hk hb
      obtain⟨k2,z2,hk2,hb2⟩:=h4 k z b hk hb;exact hr1.new k2 z2 b hk2 hb2
    · intro k z y hk hy
      obtain⟨⟨y',hy'⟩,h8⟩:=h5 k y (hH k z hk) hy;rw[h8];exact hr1.keep k y' (hH k z hk) hy'
  cases e with
  |normal =>
    obtain⟨xs,h1,h2⟩:=hq;exact hend xs h1 h2
  |ret =>
    obtain⟨xs,h1,h2⟩:=hq;exact hend xs h1 h2
  |_=>exact hq.elim
theorem KM{f:FuncId}{fn:Func}{c:Code}{rs:List ResultVar}{args:List AV}{H:Hp}{r:AV}{H':Hp}(hf:P.funcs[f]?=some fn)(hb:fn.body=some c)
  (hn : (fn.name == "runtime.NumGoroutine") = false) (hrs : fn.results = rs.toArray) (hN : fn.ntmps = N) (hH : ∀ k z, lk H k = some z -> 1000 <= k)
  (h:bW P N c (mN P rs r H') ⟨mf 0 args,H⟩):Con P f args H r H':=JZ hf hb hn hrs hN hH h.out
end Go.Lw
