/- WholeCam: for any cam, shift and position whose reading holds at most 1048576 values the law returns true and leaves its arguments as they were. No other condition. Part 1 of 7: what the later parts need -/
import Derived.Calls
import Derived.Below
import Derived.Laws.Sem
import Derived.Laws.Cells
import Derived.Laws.Append
import Derived.Laws.Rows
import Derived.OrdersIn
import Derived.RangeFuncLeaves
import Derived.RangeFuncRecord
import Derived.Orders
import Derived.IntWalk
import Derived.Laws.AppendOwn
set_option linter.unusedVariables false
open List (all_cons)
open List renaming mem_of_getElem? → ZR, mem_cons_of_mem → Z8, mem_append → ZY, map_cons → aaz, mem_cons → aai, length_cons → Z7, mem_cons_self → aaa, length_append → aah, length_nil → aan, getD_eq_getElem?_getD → ZS, getElem?_append_left → aae, getElem?_eq_none → Z5, all_eq_true → Z6, getElem?_take → aak, getElem?_drop → aar, getElem?_map → ZZ, append_assoc → aay, getElem?_append_right → aac, mem_singleton → Z3, getElem?_eq_getElem → ZV, drop_eq_nil_of_le → aal, map_append → aas, getElem?_toArray → Yf, mem_filter → Yl, getElem?_cons_succ → Ym, mem_map → Yr, any_eq_true → Ys, mem_iff_getElem → YB, eq_nil_of_length_eq_zero → YG, mem_flatMap → YH, nil_append → YK, replicate → YO, foldl_cons → YQ, mem_range → YR, getElem?_replicate → YS, size_toArray → YT
open Nat renaming eq_of_beq_eq_true → ZT, le_refl → Z0, lt_of_lt_of_le → Z9, lt_or_ge → Z2, le_trans → aaj, mul_le_mul_right → aad, mul_le_mul_left → Z4, mod_eq_of_lt → Xr, mul_pos → XB, eq_zero_or_pos → XC, succ_mul → XD, zero_add → XF, add_assoc → XG, beq → XK, div_lt_iff_lt_mul → XM, add_mul → XN, ble_eq → XS, blt → XU, add_zero → XW, mul_comm → X6, mod_lt → X8, div_add_mod → X9, ne_of_beq_eq_false → Ya, blt_eq → Yb
open Option renaming map_eq_some_iff → ZX, getD_some → ZO, map_some → ZP
open Bool renaming and_eq_true → ZW, or_eq_true → aav, false_eq_true → Zm, not_eq_true' → Zw
open Array renaming getD_eq_getD_getElem? → Z1, all_eq_true_iff_forall_mem → Zx, getElem?_append_left → Zy, getElem?_extract → Zz, getElem?_append_right → ZA, toList_setIfInBounds → ZB, getElem?_eq_getElem → ZC, getElem?_setIfInBounds → ZD, getElem?_eq_none → ZE, replicate → ZF, mapM_eq_mapM_toList → ZG, length_toList → ZI, getElem?_push → ZJ, getElem?_replicate → ZK, getElem?_toList → ZM, size_append → ZN
open Go renaming Operand → abb, Value → abc, TypeId → abd, Program → abe, World → abf
open Go.Result renaming andThen_ok → abg
open Go.Sem renaming run_bind → abh, run_pure → abi
namespace Go.Lw
abbrev pP{a:Type}(k:Nat)(v:a):Nat×Option a:=(k,some v)
theorem aa1{c:Prop}{h:Decidable c}(n:¬c){α:Sort _}{t e:α}:ite c t e=e:=if_neg n
theorem aa2{c:Prop}{h:Decidable c}(n:c){α:Sort _}{t e:α}:ite c t e=t:=if_pos n
theorem aa3{p:Prop}[Decidable p]:(decide p=true)=p:=decide_eq_true_eq
theorem aa4{p:Prop}[Decidable p](n:decide p=true):p:=of_decide_eq_true n
theorem aa5{p:Prop}[Decidable p](n:decide p=false):¬p:=of_decide_eq_false n
theorem aa6{p:Prop}[Decidable p](n:p):decide p=true:=decide_eq_true n
theorem aa7{p:Prop}[Decidable p](n:¬p):decide p=false:=decide_eq_false n
theorem aa8{a b:Prop}(h:a)(n:¬a):b:=absurd h n
theorem aa9{α β:Sort _}{x y:α}(f:α→β)(h:x=y):f x=f y:=congrArg f h
abbrev aba{α:Sort _}(i:α:=by infer_instance):α:=i
theorem oz{p:Prop}(h:p:=by omega):p:=h
abbrev LL:=List (List Rat)
inductive AV where
  |v (x:abc)
  |lst (sz:Nat) (es:List AV)
  |agg (cs:List AV)
  |tup (xs:List AV)
  |iptr (cs:List AV)
  |ms (k sz off len:Nat)
  |ptr (k off:Nat)
  |eptr (k sz i off:Nat)
  |fn (f:FuncId) (caps:List AV)
  |opt (b:Bool) (x:AV)
  |yl (k:Nat)
  |cl (f:FuncId) (pre caps:List AV)
  deriving Inhabited
abbrev nS:AV:=.v (.slice none 0 0)
def AV.cells:AV->List AV
  | .agg cs=>cs
  |x=>[x]
def AV.one:AV->Bool
  | .v x=>x.oneCell'
  | .agg _ | .tup _ | .opt _ _=>false
  |_=>true
abbrev an:Nat:=281474976710656
abbrev bK:Nat->Option Nat:=fun _=>none
inductive Rep(g:Nat->Array abc->Prop)(S:Nat->Nat->Prop):(Nat->Option Nat)->abc->AV->Prop
  |v {m:Nat->Option Nat} (x:abc):Rep g S m x (.v x)
  |lst0 {m:Nat->Option Nat} (a:Option Addr) (cap sz:Nat):Rep g S m (.slice a 0 cap) (.lst sz [])
  |lst {m:Nat->Option Nat} {b off cap sz:Nat} {es:List AV} {cs:Array abc} (u:Nat->Nat->abc)
      (hb:g b cs) (hc:es.length<=cap) (hl:es.length<=an) (hs:∀(i:Nat)(e:AV),es[i]?=some e->e.cells.length=sz)
      (h1:∀(i j:Nat)(e c:AV),es[i]?=some e->e.cells[j]?=some c->c.one=true)
      (hu:∀(i j:Nat)(e c:AV),es[i]?=some e->e.cells[j]?=some c->cs[off+i*sz+j]?=some (u i j))
      (hr:∀(i j:Nat)(e c:AV),es[i]?=some e->e.cells[j]?=some c->Rep g S bK (u i j) c) :
      Rep g S m (.slice (some ⟨b,off,none⟩) es.length cap) (.lst sz es)
  |agg {m:Nat->Option Nat} {vs:Array abc} {cs:List AV} (hn:vs.size=cs.length)
      (h1:∀(j:Nat)(c:AV),cs[j]?=some c->c.one=true)
      (hr:∀(j:Nat)(u:abc)(c:AV),vs[j]?=some u->cs[j]?=some c->Rep g S m u c):Rep g S m (.agg vs) (.agg cs)
  |tup {m:Nat->Option Nat} {vs:Array abc} {xs:List AV} (hn:vs.size=xs.length)
      (hr:∀(j:Nat)(u:abc)(c:AV),vs[j]?=some u->xs[j]?=some c->Rep g S m u c):Rep g S m (.tuple vs) (.tup xs)
  |iptr {m:Nat->Option Nat} {b off:Nat} {cs:Array abc} {xs:List AV} (u:Nat->abc)
      (hb:g b cs) (h1:∀(j:Nat)(c:AV),xs[j]?=some c->c.one=true)
      (hu:∀(j:Nat)(c:AV),xs[j]?=some c->cs[off+j]?=some (u j))
      (hr:∀(j:Nat)(c:AV),xs[j]?=some c->Rep g S bK (u j) c):Rep g S m (.pointer (some ⟨b,off,none⟩)) (.iptr xs)
  |ms0 {m:Nat->Option Nat} (a:Option Addr) (k sz off:Nat):Rep g S m (.slice a 0 0) (.ms k sz off 0)
  |ms {m:Nat->Option Nat} {k sz off len cap b:Nat} (hm:m k=some b) (hc:len<=cap) (hS:S b ((off+cap)*sz)) :
      Rep g S m (.slice (some ⟨b,off*sz,none⟩) len cap) (.ms k sz off len)
  |ptr {m:Nat->Option Nat} {k off b:Nat} (hm:m k=some b):Rep g S m (.pointer (some ⟨b,off,none⟩)) (.ptr k off)
  |eptr {m:Nat->Option Nat} {k sz i off b:Nat} (hm:m k=some b):Rep g S m (.pointer (some ⟨b,i*sz+off,none⟩)) (.eptr k sz i off)
  |fn {m:Nat->Option Nat} {f:FuncId} {vs:Array abc} {xs:List AV} (hn:vs.size=xs.length)
      (hr:∀(j:Nat)(u:abc)(c:AV),vs[j]?=some u->xs[j]?=some c->Rep g S m u c):Rep g S m (.func (.func f) #[] vs) (.fn f xs)
  |opt {m:Nat->Option Nat} {x:abc} {b:Bool} {y:AV} (h:b=true->Rep g S m x y) (h':b=false->x=undef):Rep g S m x (.opt b y)
  |yl {m:Nat->Option Nat} {k b:Nat} (hm:m k=some b):Rep g S m (.func (.yield b) #[] #[]) (.yl k)
  |cl {m:Nat->Option Nat} {f:FuncId} {vs us:Array abc} {xs ys:List AV} (hn:vs.size=xs.length)
      (hr:∀(j:Nat)(u:abc)(c:AV),vs[j]?=some u->xs[j]?=some c->Rep g S bK u c) (hn':us.size=ys.length)
      (hr':∀(j:Nat)(u:abc)(c:AV),us[j]?=some u->ys[j]?=some c->Rep g S bK u c):Rep g S m (.func (.func f) vs us) (.cl f xs ys)
inductive AV.Names:AV->Nat->Prop
  |ms (k sz off len:Nat):AV.Names (.ms k sz off len) k
  |ptr (k off:Nat):AV.Names (.ptr k off) k
  |eptr (k sz i off:Nat):AV.Names (.eptr k sz i off) k
  |agg {cs:List AV} {c:AV} {k:Nat} (h:c∈cs) (hc:AV.Names c k):AV.Names (.agg cs) k
  |tup {cs:List AV} {c:AV} {k:Nat} (h:c∈cs) (hc:AV.Names c k):AV.Names (.tup cs) k
  |fn {f:FuncId} {cs:List AV} {c:AV} {k:Nat} (h:c∈cs) (hc:AV.Names c k):AV.Names (.fn f cs) k
  |opt {b:Bool} {c:AV} {k:Nat} (hc:AV.Names c k):AV.Names (.opt b c) k
  |yl (k:Nat):AV.Names (.yl k) k
theorem Rep.mono{g g':Nat->Array abc->Prop}{S S':Nat->Nat->Prop}(hg:∀b cs,g b cs->g' b cs)
  (hS:∀b n,S b n->S' b n) {m:Nat->Option Nat} {v:abc} {x:AV} (h:Rep g S m v x) :
  ∀{m':Nat->Option Nat},(∀k b,x.Names k->m k=some b->m' k=some b)->Rep g' S' m' v x:=by
 induction h with
 |v x=>intro m' _;exact .v x
 |lst0 a cap sz=>intro m' _;exact .lst0 a cap sz
 |lst u hb hc hl hs h1 hu hr ih =>
  intro m' _;exact .lst u (hg _ _ hb) hc hl hs h1 hu (fun i j e c he hc=>ih i j e c he hc (fun k b _ h=>h))
 |agg hn h1 hr ih =>
  intro m' hm;exact .agg hn h1 (fun j u c hu hc=>ih j u c hu hc (fun k b hk=>hm k b (.agg (ZR hc) hk)))
 |tup hn hr ih =>
  intro m' hm;exact .tup hn (fun j u c hu hc=>ih j u c hu hc (fun k b hk=>hm k b (.tup (ZR hc) hk)))
 |iptr u hb h1 hu hr ih =>
  intro m' _;exact .iptr u (hg _ _ hb) h1 hu (fun j c hc=>ih j c hc (fun k b _ h=>h))
 |ms0 a k sz off=>intro m' _;exact .ms0 a k sz off
 |ms h hc hs=>intro m' hm;exact .ms (hm _ _ (.ms _ _ _ _) h) hc (hS _ _ hs)
 |ptr h=>intro m' hm;exact .ptr (hm _ _ (.ptr _ _) h)
 |eptr h=>intro m' hm;exact .eptr (hm _ _ (.eptr _ _ _ _) h)
 |fn hn hr ih =>
  intro m' hm;exact .fn hn (fun j u c hu hc=>ih j u c hu hc (fun k b hk=>hm k b (.fn (ZR hc) hk)))
 |opt h h' ih=>intro m' hm;exact .opt (fun hb=>ih hb (fun k b hk=>hm k b (.opt hk))) h'
 |yl h=>intro m' hm;exact .yl (hm _ _ (.yl _) h)
 |cl hn hr hn' hr' ih ih' =>
  intro m' hm
  exact .cl hn (fun j u c hu hc=>ih j u c hu hc (fun k b _ h=>h))
   hn' (fun j u c hu hc=>ih' j u c hu hc (fun k b _ h=>h))
theorem Rep.one{g:Nat->Array abc->Prop}{S:Nat->Nat->Prop}{m:Nat->Option Nat}{v:abc}{x:AV}
  (h:Rep g S m v x) (h1:x.one=true):v.oneCell'=true:=by
 cases h <;> simp_all [AV.one,Value.oneCell']
theorem Rep.cells{g:Nat->Array abc->Prop}{S:Nat->Nat->Prop}{m:Nat->Option Nat}{v:abc}{x:AV}
  (h:Rep g S m v x) (hx:(∃cs,x=.agg cs)\/x.one=true) :
  v.cells.size=x.cells.length/\(∀(j:Nat)(c:AV),x.cells[j]?=some c->c.one=true) /\
   ∀(j:Nat)(u:abc)(c:AV),v.cells[j]?=some u->x.cells[j]?=some c->Rep g S m u c:=by
 rcases hx with⟨cs,rfl⟩ |hx
 ·cases h with
  |agg hn h1 hr=>exact⟨hn,h1,hr⟩
 ·have hv:=h.one hx;have e1:v.cells = #[v]:=by cases v <;> simp_all [Value.cells,Value.oneCell']
  have e2:x.cells=[x]:=by cases x <;> simp_all [AV.cells,AV.one]
  rw[e1,e2];refine⟨rfl,?_,?_⟩
  ·intro j c hc;rcases j with _ |j <;> simp at hc
   exact hc▸hx
  ·intro j u c hu hc;rcases j with _ |j <;> simp at hc hu
   exact hc▸hu▸h
def lk{α:Type}:List (Nat×Option α)->Nat->Option α
  |[],_=>none
  |(t',x)::l,t=>match XK t t' with
    |true=>x
    |false=>lk l t
theorem aq{α:Type}(t t':Nat)(x:Option α)(l:List (Nat×Option α)):lk ((t',x)::l) t=if t=t' then x else lk l t:=by
 show(match XK t t' with |true=>x |false=>lk l t)=_;split
 ·rename_i h;rw[aa2 (ZT h)]
 ·rename_i h;rw[aa1 (Ya h)]
theorem mj{α:Type}{l:List (Nat×Option α)}{t:Nat}{x:α}(h:lk l t=some x):(t,some x)∈l:=by
 induction l with
 |nil=>simp[lk]at h
 |cons y l ih =>
  obtain⟨t',y⟩:=y;rw[aq]at h;split at h
  ·subst_vars;simp
  ·exact Z8 _ (ih h)
structure LpD where
  params:Array Tmp
  assign:Code
  body:Code
  nt:Nat
inductive Blk where
  |box (cs:List AV)
  |row (sz:Nat) (es:List AV)
  |loop (d:LpD) (st:LoopState) (pend:Option Code) (sl:List (Nat×Option AV))
  |vec (vs:List abc)
  deriving Inhabited
inductive BlkRep(g:Nat->Array abc->Prop)(S:Nat->Nat->Prop)(m:Nat->Option Nat)(w:abf):Option Nat->Blk->Prop
  |none (sz:Nat):BlkRep g S m w none (.row sz [])
  |box {b:Nat} {cs:List AV} {c:Array abc} {t:abd} (hw:w.heap[b]?=some (.cells c t (0,0))) (hn:c.size=cs.length)
      (h1:∀(j:Nat)(x:AV),cs[j]?=some x->x.one=true)
      (hr:∀(j:Nat)(u:abc)(x:AV),c[j]?=some u->cs[j]?=some x->Rep g S m u x):BlkRep g S m w (some b) (.box cs)
  |row {b sz:Nat} {es:List AV} {c:Array abc} {t:abd} (hw:w.heap[b]?=some (.cells c t (0,0))) (hn:es.length*sz<=c.size)
      (hl:es.length<=an)
      (hs:∀(i:Nat)(e:AV),es[i]?=some e->e.cells.length=sz)
      (h1:∀(i j:Nat)(e x:AV),es[i]?=some e->e.cells[j]?=some x->x.one=true)
      (hr:∀(i j:Nat)(e:AV)(u:abc)(x:AV),es[i]?=some e->e.cells[j]?=some x->c[i*sz+j]?=some u->Rep g S bK u x) :
      BlkRep g S m w (some b) (.row sz es)
  |loop {b:Nat} {r:Loop} {d:LpD} {st:LoopState} {pend:Option Code} {sl:List (Nat×Option AV)} (hw:w.heap[b]?=some (.loop r)) (aZ:r.state=st) (pI:r.pending=pend)
      (nI:r.params=d.params) (has:r.assign=d.assign) (j7:r.body=d.body) (WV:d.nt<=r.tmps.size)
      (hr:∀(t:Nat)(x:AV),lk sl t=some x->t<r.tmps.size/\Rep g S m (r.tmps.getD t undef) x):BlkRep g S m w (some b) (.loop d st pend sl)
  |vec {b:Nat} {vs:List abc} {c:Array abc} {t:abd} (hw:w.heap[b]?=some (.cells c t (0,0))) (hc:c.toList=vs) (h1:∀v∈vs,v.oneCell'=true):BlkRep g S m w (some b) (.vec vs)
def Blk.Names(k:Nat):Blk->Prop
  | .box cs=>∃c∈cs,c.Names k
  | .row _ _=>False
  | .loop _ _ _ sl=>∃t x,(t,some x)∈sl/\x.Names k
  | .vec _=>False
theorem BlkRep.mono{g g':Nat->Array abc->Prop}{S S':Nat->Nat->Prop}{m m':Nat->Option Nat}{w w':abf}{o o':Option Nat}{x:Blk}
  (hg:∀b cs,g b cs->g' b cs) (hS:∀b n,S b n->S' b n) (hm:∀k b,x.Names k->m k=some b->m' k=some b)
  (ho:o'=o) (hw:∀b,o=some b->w'.heap[b]?=w.heap[b]?)
  (h:BlkRep g S m w o x):BlkRep g' S' m' w' o' x:=by
 subst ho;cases h with
 |none sz=>exact .none sz
 |box h hn h1 hr =>
  refine .box ((hw _ rfl).trans h) hn h1 (fun j u x hu hx=>(hr j u x hu hx).mono hg hS (fun k b hk=>hm k b ⟨x,ZR hx,hk⟩))
 |row h hn hl hs h1 hr =>
  refine .row ((hw _ rfl).trans h) hn hl hs h1 (fun i j e u x he hx hu=>(hr i j e u x he hx hu).mono hg hS (fun k b _ h=>h))
 |loop h h1 h2 h3 h4 h5 hn hr =>
  refine .loop ((hw _ rfl).trans h) h1 h2 h3 h4 h5 hn (fun t x hx=>⟨(hr t x hx).1,(hr t x hx).2.mono hg hS (fun k b hk=>hm k b ⟨t,x,mj hx,hk⟩)⟩)
 |vec h hc h1=>exact .vec ((hw _ rfl).trans h) hc h1
mutual
def AV.nm:AV->List Nat
  | .ms k _ _ _=>[k]
  | .ptr k _=>[k]
  | .eptr k _ _ _=>[k]
  | .agg cs=>AV.nms cs
  | .tup xs=>AV.nms xs
  | .fn _ xs=>AV.nms xs
  | .opt _ x=>x.nm
  | .yl k=>[k]
  |_=>[]
def AV.nms:List AV->List Nat
  |[]=>[]
  |x::l=>x.nm++AV.nms l
end
theorem AV.mem_nms{l:List AV}{c:AV}{k:Nat}(hc:c∈l)(hk:k∈c.nm):k∈AV.nms l:=by
 induction l with
 |nil=>cases hc
 |cons x l ih =>
  simp only[AV.nms,ZY];rcases aai.1 hc with rfl |hc
  ·exact .inl hk
  ·exact .inr (ih hc)
theorem AV.Names.mem{x:AV}{k:Nat}(h:x.Names k):k∈x.nm:=by
 induction h with
 |ms=>simp[AV.nm]
 |ptr=>simp[AV.nm]
 |eptr=>simp[AV.nm]
 |agg h _ ih=>exact AV.mem_nms h ih
 |tup h _ ih=>exact AV.mem_nms h ih
 |fn h _ ih=>exact AV.mem_nms h ih
 |opt _ ih=>exact ih
 |yl=>simp[AV.nm]
def xu(sl:List (Nat×Option AV)):List Nat:=sl.flatMap fun p=>match p.2 with |some x=>x.nm |none=>[]
def Blk.nm:Blk->List Nat
  | .box cs=>AV.nms cs
  | .row _ _=>[]
  | .loop _ _ _ sl=>xu sl
  | .vec _=>[]
theorem Blk.Names.mem{x:Blk}{k:Nat}(h:x.Names k):k∈x.nm:=by
 cases x with
 |box cs=>obtain⟨c,hc,hk⟩:=h;exact AV.mem_nms hc hk.mem
 |row sz es=>exact h.elim
 |vec vs=>exact h.elim
 |loop d st pe sl =>
  obtain⟨t,c,hc,hk⟩:=h;exact YH.2 ⟨_,hc,hk.mem⟩
end Go.Lw
namespace Go.Lw
abbrev aX:=List (Nat×Option AV)
abbrev Hp:=List (Nat×Option Blk)
theorem iD{α:Type}(u l:List (Nat×Option α))(t:Nat):lk (u++l) t=if t∈u.map (·.1)then lk u t else lk l t:=by
 induction u with
 |nil=>simp
 |cons x u ih =>
  obtain⟨t',x⟩:=x;simp only[List.cons_append,aq,ih,aaz,aai]
  by_cases h:t=t'
  ·simp[h]
  ·rw[aa1 h]
   by_cases h2:t∈u.map (·.1)
   ·rw[aa2 h2,aa2 (.inr h2),aa1 h]
   ·rw[aa1 h2,aa1 (by simp only[h,h2,or_self,not_false_eq_true])]
structure AS where
  sl:aX
  hp:Hp
def AS.get(s:AS)(t:Nat):Option AV:=lk s.sl t
def AS.blk(s:AS)(k:Nat):Option Blk:=lk s.hp k
def aB(hp:Hp)(m:Nat->Option Nat)(b:Nat):Prop:=∃k x,lk hp k=some x/\m k=some b
def Im(ext:Nat->Prop)(hp:Hp)(m:Nat->Option Nat)(w:abf)(b:Nat)(cs:Array abc):Prop :=
  ¬ext b/\¬aB hp m b/\∃t f,w.heap[b]?=some (.cells cs t f)
def Sz(w:abf)(b n:Nat):Prop:=∃c t f,w.heap[b]?=some (.cells c t f)/\n<=c.size
structure HeapRel(ext:Nat->Prop)(hp:Hp)(m:Nat->Option Nat)(w:abf):Prop where
  blk:∀k x,lk hp k=some x->BlkRep (Im ext hp m w) (Sz w) m w (m k) x
  inj:∀k k' x x' b,lk hp k=some x->lk hp k'=some x'->m k=some b->m k'=some b->k=k'
  sep:∀k x b,lk hp k=some x->m k=some b->¬ext b/\b<w.heap.size
structure Frame(own:Nat->Prop)(w w':abf):Prop where
  os:w'.os=w.os
  tape:w'.tape=w.tape
  output:w'.output=w.output
  size:w.heap.size<=w'.heap.size
  sz:∀b n,Sz w b n->Sz w' b n
  keep:∀b,b<w.heap.size->¬own b->w'.heap[b]?=w.heap[b]?
theorem Frame.refl(own:Nat->Prop)(w:abf):Frame own w w:=⟨rfl,rfl,rfl,Z0 _,fun _ _ h=>h,fun _ _ _=>rfl⟩
def yO(run:Array abc->abf->(Ending->abf->Prop)->Prop)(args:List AV)(H:Hp)(r:AV)(H':Hp):Prop :=
  ∀(ext:Nat->Prop)(m:Nat->Option Nat)(w:abf)(vs:Array abc),(∀b,ext b->b<w.heap.size)->HeapRel ext H m w ->
    vs.size=args.length->(∀(j:Nat) v x,vs[j]?=some v->args[j]?=some x->Rep (Im ext H m w) (Sz w) m v x) ->
    run vs w fun e w'=>∃v m',e=.returned v/\Frame (aB H m) w w'/\HeapRel ext H' m' w' /\
      (∀k x b,lk H' k=some x->m' k=some b->aB H m b\/w.heap.size<=b) /\
      (∀k x y,lk H k=some x->lk H' k=some y->m' k=m k) /\
      Rep (Im ext H' m' w') (Sz w') m' v r
def Lm(P:abe)(f:FuncId)(args:List AV)(H:Hp)(r:AV)(H':Hp):Prop:=yO (Calls P f) args H r H'
structure Ctx where
  w0:abf
  ext:Nat->Prop
  own0:Nat->Prop
  m0:Nat->Option Nat
  nt:Nat
  hext:∀b,ext b->b<w0.heap.size
  ro:Option Nat:=none
def Fw(ro:Option Nat):Fence:={ Fence.wide with round:=ro }
def pf(D:Nat):Deferred:={ target:=.collected D,args:=#[] }
def oQ(b0:Nat)(l:List Deferred)(w:abf):Prop:=∃Ds:List Nat,l=Ds.map pf/\Ds.Nodup/\∀D∈Ds,b0<=D/\w.heap[D]?=some (.deferred (some []))
theorem oQ.nil(b0:Nat)(w:abf):oQ b0 [] w:=⟨[],rfl,List.nodup_nil,fun D h=>by cases h⟩
structure RelM(C:Ctx)(s:AS)(m:Nat->Option Nat)(a:Act)(w:abf):Prop where
  slots:∀t x,s.get t=some x->t<a.tmps.size/\Rep (Im C.ext s.hp m w) (Sz w) m (a.tmps.getD t undef) x
  heap:HeapRel C.ext s.hp m w
  frame:Frame C.own0 C.w0 w
  new:∀k x b,lk s.hp k=some x->m k=some b->C.own0 b\/C.w0.heap.size<=b
  keep:∀k x,1000<=k->lk s.hp k=some x->m k=C.m0 k
  defers:oQ C.w0.heap.size a.defers w
  nt:C.nt<=a.tmps.size
def AS.Fresh(s:AS)(k:Nat):Prop :=
  lk s.hp k=none/\k<1000/\(∀t x,s.get t=some x->¬x.Names k)/\(∀k' x,lk s.hp k'=some x->¬x.Names k)
theorem HeapRel.lt{ext:Nat->Prop}{hp:Hp}{m:Nat->Option Nat}{w:abf}(_:HeapRel ext hp m w){b:Nat}{o:Obj}(h:w.heap[b]?=some o):b<w.heap.size:=(Array.getElem?_eq_some_iff.1 h).1
theorem HeapRel.cells{ext:Nat->Prop}{hp:Hp}{m:Nat->Option Nat}{w:abf}(h:HeapRel ext hp m w){k b:Nat}{x:Blk}(hk:lk hp k=some x)(hb:m k=some b){o:Option (List Deferred)}(ho:w.heap[b]?=some (.deferred o)):False:=by
 have:=h.blk k x hk;rw[hb]at this;cases this with
 |box hw=>rw[ho]at hw;cases hw
 |row hw=>rw[ho]at hw;cases hw
 |loop hw=>rw[ho]at hw;cases hw
 |vec hw=>rw[ho]at hw;cases hw
theorem RelM.ext_lt{C:Ctx}{s:AS}{m:Nat->Option Nat}{a:Act}{w:abf}(h:RelM C s m a w){b:Nat}(hb:C.ext b):b<w.heap.size :=
 Z9 (C.hext b hb) h.frame.size
theorem RelM.update{C:Ctx}{s:AS}{m:Nat->Option Nat}{a:Act}{w:abf}(h:RelM C s m a w){w':abf}{m':Nat->Option Nat}{hp':Hp}
  (hf:Frame (aB s.hp m) w w')
  (hm:∀t x k b,s.get t=some x->x.Names k->m k=some b->m' k=some b)
  (aT:∀k x b,lk hp' k=some x->m' k=some b->aB s.hp m b\/w.heap.size<=b)
  (U5:∀k x,1000<=k->lk hp' k=some x->(∃y,lk s.hp k=some y)/\m' k=m k)
  (hh:HeapRel C.ext hp' m' w'):RelM C ⟨s.sl,hp'⟩ m' a w':=by
 refine⟨?_,hh,?_,?_,fun k x h1 h2=>by obtain⟨⟨y,hy⟩,h4⟩:=U5 k x h1 h2;exact h4.trans (h.keep k y h1 hy),?_,h.nt⟩
 ·intro t x hx;obtain⟨h1,h2⟩:=h.slots t x hx;refine⟨h1,h2.mono ?_ hf.sz (fun k b hk=>hm t x k b hx hk)⟩;rintro b cs ⟨he,ho,t',f',hb⟩
  have hlt:b<w.heap.size:=by
   rcases Z2 b w.heap.size with h |h
   ·exact h
   ·simp[ZE h]at hb
  refine⟨he,?_,t',f',(hf.keep b hlt ho).trans hb⟩;rintro⟨k,y,hk,gy⟩;rcases aT k y b hk gy with h' |h'
  ·exact ho h'
  ·omega
 ·refine⟨hf.os.trans h.frame.os,hf.tape.trans h.frame.tape,hf.output.trans h.frame.output,aaj h.frame.size hf.size,fun b n hs=>hf.sz b n (h.frame.sz b n hs),?_⟩;intro b hb ho;rw[hf.keep b (Z9 hb h.frame.size) ?_,h.frame.keep b hb ho];rintro⟨k,x,hk,gy⟩;rcases h.new k x b hk gy with h' |h'
  ·exact ho h'
  ·omega
 ·intro k x b hk gy;rcases aT k x b hk gy with⟨k2,y,ez,U6⟩ |h'
  ·exact h.new k2 y b ez U6
  ·exact .inr (aaj h.frame.size h')
 ·obtain⟨Ds,e,hn,hD⟩:=h.defers;refine⟨Ds,e,hn,fun D hm=>?_⟩;obtain⟨h1,h2⟩:=hD D hm;refine⟨h1,(hf.keep D (h.heap.lt h2) ?_).trans h2⟩;rintro⟨k,x,hk,gy⟩;exact h.heap.cells hk gy h2
theorem df{ext:Nat->Prop}{hp hp':Hp}{m m':Nat->Option Nat}{w w':abf}(hf:Frame (aB hp m) w w')
  (aT:∀k x b,lk hp' k=some x->m' k=some b->aB hp m b\/w.heap.size<=b) :
  ∀b cs,Im ext hp m w b cs->Im ext hp' m' w' b cs:=by
 rintro b cs ⟨he,ho,t',f',hb⟩
 have hlt:b<w.heap.size:=by
  rcases Z2 b w.heap.size with h |h
  ·exact h
  ·simp[ZE h]at hb
 refine⟨he,?_,t',f',(hf.keep b hlt ho).trans hb⟩;rintro⟨k,y,hk,gy⟩;rcases aT k y b hk gy with h' |h'
 ·exact ho h'
 ·omega
theorem RelM.put{C:Ctx}{s:AS}{m:Nat->Option Nat}{a:Act}{w:abf}(h:RelM C s m a w)(d:Nat)(v:abc)(x:Option AV)
  (hx:∀y,x=some y->d<a.tmps.size/\Rep (Im C.ext s.hp m w) (Sz w) m v y) :
  RelM C ⟨(d,x)::s.sl,s.hp⟩ m { a with tmps:=a.tmps.setIfInBounds d v } w:=by
 refine⟨?_,h.heap,h.frame,h.new,h.keep,h.defers,by simpa using h.nt⟩;intro t y hy;simp only[AS.get,aq]at hy
 by_cases ht:t=d
 ·subst ht;rw[aa2 rfl]at hy;obtain⟨h1,h2⟩:=hx y hy;refine⟨by simpa using h1,?_⟩;simpa[Z1,ZD,h1]using h2
 ·rw [aa1 ht] at hy;obtain ⟨h1,h2⟩:=h.slots t y hy;refine ⟨by simpa using h1,?_⟩
  have:(a.tmps.setIfInBounds d v).getD t undef=a.tmps.getD t undef:=by
   simp only[Z1,ZD];rw[aa1 oz]
  simpa[this]using h2
theorem Sz.alloc{w:abf}{o:Obj}{b n:Nat}(h:Sz w b n):Sz { w with heap:=w.heap.push o } b n:=by
 obtain⟨c,t,f,hb,hn⟩:=h;refine⟨c,t,f,?_,hn⟩
 have hlt:b<w.heap.size:=by
  rcases Z2 b w.heap.size with h |h
  ·exact h
  ·simp[ZE h]at hb
 show(w.heap.push o)[b]?=_;rw[ZJ,aa1 oz,hb]
theorem y3(own:Nat->Prop)(w:abf)(o:Obj):Frame own w { w with heap:=w.heap.push o }:=by
 refine⟨rfl,rfl,rfl,by simp,fun b n h=>h.alloc,?_⟩;intro b hb _;show(w.heap.push o)[b]?=_;rw[ZJ,aa1 oz]
theorem LQ(own:Nat->Prop)(w:abf)(n:Nat):Frame own w { w with drawn:=n } :=
 ⟨rfl,rfl,rfl,Z0 _,fun _ _ h=>h,fun _ _ _=>rfl⟩
theorem Frame.trans{own own':Nat->Prop}{w w' w'':abf}(h:Frame own w w')(h':Frame own' w' w'')
  (ho:∀b,b<w.heap.size->own' b->own b):Frame own w w'' :=
 ⟨h'.os.trans h.os,h'.tape.trans h.tape,h'.output.trans h.output,aaj h.size h'.size,fun b n hs=>h'.sz b n (h.sz b n hs),
  fun b hb hn=>(h'.keep b (Z9 hb h.size) (fun hc=>hn (ho b hb hc))).trans (h.keep b hb hn)⟩
theorem RelM.alloc{C:Ctx}{s:AS}{m:Nat->Option Nat}{a:Act}{w:abf}(h:RelM C s m a w){k:Nat}(hk:s.Fresh k)(o:Obj)(x:Blk)
  (hx:¬x.Names k) (dl:∀(g:Nat->Array abc->Prop)(S:Nat->Nat->Prop)(m':Nat->Option Nat)(w':abf),
   (∀b cs,Im C.ext s.hp m w b cs->g b cs)->(∀b n,Sz w b n->S b n)->(∀k' b,k'≠k->m k'=some b->m' k'=some b) ->
   w'.heap[w.heap.size]?=some o->BlkRep g S m' w' (some w.heap.size) x) :
  RelM C ⟨s.sl,(k,some x)::s.hp⟩ (fun k'=>if k'=k then some w.heap.size else m k') a { w with heap:=w.heap.push o }:=by
 have bf:∀k' y,lk ((k,some x)::s.hp) k'=some y->k'≠k->lk s.hp k'=some y:=by
  intro k' y hy az;rw[aq,aa1 az]at hy;exact hy
 have b8:∀k' y b,lk s.hp k'=some y->m k'=some b->b<w.heap.size:=fun k' y b h1 h2=>(h.heap.sep k' y b h1 h2).2
 have hf:=y3 (aB s.hp m) w o
 have aT:∀k' y b,lk ((k,some x)::s.hp) k'=some y->(if k'=k then some w.heap.size else m k')=some b->aB s.hp m b\/w.heap.size<=b:=by
  intro k' y b hy hb
  by_cases az:k'=k
  ·rw[aa2 az]at hb;cases hb;exact .inr (Z0 _)
  ·rw[aa1 az]at hb;exact .inl ⟨k',y,bf k' y hy az,hb⟩
 refine h.update hf ?_ aT ?_ ⟨?_,?_,?_⟩
 ·intro t y k' b hy hn hb;have:k'≠k:=fun e=>hk.2.2.1 t y hy (e▸hn)
  rw[aa1 this];exact hb
 ·intro k' y k7 hy;have az:k' ≠ k:=fun e=>by have:=hk.2.1; omega
  exact⟨⟨y,bf k' y hy az⟩,by rw[aa1 az]⟩
 ·intro k' y hy
  by_cases az:k'=k
  ·subst az;rw[aq,aa2 rfl]at hy;cases hy;rw[aa2 rfl];refine dl _ _ _ _ (df hf aT) hf.sz (fun k'' b az hb=>by rw[aa1 az];exact hb) ?_;show(w.heap.push o)[w.heap.size]?=_;simp
  ·have hy':=bf k' y hy az;rw[aa1 az];refine BlkRep.mono (df hf aT) hf.sz ?_ rfl ?_ (h.heap.blk k' y hy')
   ·intro k'' b hn hb;have:k''≠k:=fun e=>hk.2.2.2 k' y hy' (e▸hn)
    rw[aa1 this];exact hb
   ·intro b hb;have:=b8 k' y b hy' hb;show(w.heap.push o)[b]?=_;rw[ZJ,aa1 oz]
 ·intro k1 k2 y1 y2 b h1 h2 aN aH
  by_cases e1:k1=k <;> by_cases e2:k2=k
  ·rw[e1,e2]
  ·rw[aa2 e1]at aN;rw[aa1 e2]at aH;cases aN
   exact aa8 (b8 k2 y2 _ (bf k2 y2 h2 e2) aH) oz
  ·rw[aa1 e1]at aN;rw[aa2 e2]at aH;cases aH
   exact aa8 (b8 k1 y1 _ (bf k1 y1 h1 e1) aN) oz
  ·rw[aa1 e1]at aN;rw[aa1 e2]at aH
   exact h.heap.inj k1 k2 y1 y2 b (bf k1 y1 h1 e1) (bf k2 y2 h2 e2) aN aH
 ·intro k' y b hy hb
  by_cases az:k'=k
  ·rw[aa2 az]at hb;cases hb
   refine⟨fun hc=>?_,by simp⟩;have:=h.ext_lt hc;omega
  ·rw[aa1 az]at hb;have:=h.heap.sep k' y b (bf k' y hy az) hb;refine⟨this.1,?_⟩;have:=this.2;simp;omega
theorem RelM.write{C:Ctx}{s:AS}{m:Nat->Option Nat}{a:Act}{w:abf}(h:RelM C s m a w){k b:Nat}{x x':Blk}{w':abf}
  {c c':Array abc} {t:abd}
  (hk:lk s.hp k=some x) (hm:m k=some b) (hb:w.heap[b]?=some (.cells c t (0,0))) (aA:c'.size=c.size)
  (hw:w'={ w with heap:=w.heap.setIfInBounds b (.cells c' t (0,0)) })
  (hx:∀(g:Nat->Array abc->Prop)(S:Nat->Nat->Prop),
   (∀b cs,Im C.ext s.hp m w b cs->g b cs)->(∀b n,Sz w b n->S b n) ->
   w'.heap[b]?=some (.cells c' t (0,0))->BlkRep g S m w' (some b) x') :
  RelM C ⟨s.sl,(k,some x')::s.hp⟩ m a w':=by
 have hlt:=(h.heap.sep k x b hk hm).2
 have cD:∀b',w'.heap[b']?=if b=b' then some (.cells c' t (0,0))else w.heap[b']? := by
  intro b';subst hw;show(w.heap.setIfInBounds b _)[b']?=_;rw[ZD]
  by_cases e:b=b'
  ·simp[e];omega
  ·simp[e]
 have bf:∀k' y,lk ((k,some x')::s.hp) k'=some y->∃z,lk s.hp k'=some z:=by
  intro k' y hy;rw[aq]at hy;split at hy
  ·subst_vars;exact⟨x,hk⟩
  ·exact⟨y,hy⟩
 have hf:Frame (aB s.hp m) w w':=by
  refine⟨by rw[hw],by rw[hw],by rw[hw],by rw[hw];simp,?_,?_⟩
  ·rintro b' n ⟨c1,t1,f1,h1,h2⟩
   by_cases e:b=b'
   ·subst e;rw[hb]at h1;cases h1;exact⟨c',t,(0,0),by rw[cD,aa2 rfl],by omega⟩
   ·exact⟨c1,t1,f1,by rw[cD,aa1 e,h1],h2⟩
  ·intro b' hb' hn;rw[cD,aa1];rintro rfl;exact hn ⟨k,x,hk,hm⟩
 have aT:∀k' y b',lk ((k,some x')::s.hp) k'=some y->m k'=some b'->aB s.hp m b'\/w.heap.size<=b':=by
  intro k' y b' hy hb';obtain⟨z,hz⟩:=bf k' y hy;exact .inl ⟨k',z,hz,hb'⟩
 refine h.update hf (fun t y k' b' _ _ hb'=>hb') aT (fun k' y _ hy=>⟨bf k' y hy,rfl⟩) ⟨?_,?_,?_⟩
 ·intro k' y hy
  by_cases e:k'=k
  ·subst e;rw[aq,aa2 rfl]at hy;cases hy;rw[hm];exact hx _ _ (df hf aT) hf.sz (by rw[cD,aa2 rfl])
  ·rw[aq,aa1 e]at hy;refine BlkRep.mono (df hf aT) hf.sz (fun k'' b' _ hb'=>hb') rfl ?_ (h.heap.blk k' y hy);intro b' hb';rw[cD,aa1];rintro rfl;exact e (h.heap.inj k' k y x b hy hk hb' hm)
 ·intro k1 k2 y1 y2 b' h1 h2 aN aH;obtain⟨z1,dX⟩:=bf k1 y1 h1;obtain⟨z2,k8⟩:=bf k2 y2 h2;exact h.heap.inj k1 k2 z1 z2 b' dX k8 aN aH
 ·intro k' y b' hy hb';obtain⟨z,hz⟩:=bf k' y hy;have:=h.heap.sep k' z b' hz hb';exact⟨this.1,Z9 this.2 hf.size⟩
theorem RelM.drawn{C:Ctx}{s:AS}{m:Nat->Option Nat}{a:Act}{w:abf}(h:RelM C s m a w)(n:Nat):RelM C s m a { w with drawn:=n }:=by
 have hf:=LQ (aB s.hp m) w n;have aT:∀k' y b',lk s.hp k'=some y->m k'=some b'->aB s.hp m b'\/w.heap.size<=b':=fun k' y b' h1 h2=>.inl ⟨k',y,h1,h2⟩
 refine h.update hf (fun t y k' b' _ _ hb'=>hb') aT (fun k' y _ hy=>⟨⟨y,hy⟩,rfl⟩) ⟨?_,h.heap.inj,h.heap.sep⟩;intro k x hk;exact BlkRep.mono (w:=w) (df hf aT) hf.sz (fun _ _ _ h=>h) rfl (fun _ _=>rfl) (h.heap.blk k x hk)
structure Out where
  val:Option AV
  upd:Hp
  rt:List Nat
  rd:List Nat
  deriving Inhabited
def AS.app(s:AS)(dst:Option Tmp)(o:Out):AS :=
  ⟨match dst with |some d=>(d,o.val)::s.sl |none=>s.sl,o.upd++s.hp⟩
def fQ(s s':AS)(o:Out):Prop:=(∀t∈o.rt,s'.get t=s.get t)/\∀k∈o.rd,s'.blk k=s.blk k
def iI(s:AS)(o:Out):Prop:=∀k∈o.upd.map (·.1),k∈o.rd\/s.Fresh k
def wq(P:abe)(o:Oper)(a:Act)(w:abf)(next:Act->abf->Prop)(Q:Exit->Act->abf->Prop):Prop:=∀ro n,o.uponIn (Fw ro) n P a next Q ((execOp a.eval o).run P w)
theorem Ph{P:abe}{f:FuncId}{args:Array abc}{w:abf}{R:Ending->abf->Prop}(h:Calls P f args w R)(ro:Option Nat)(n:Nat):(((Fw ro).depth.isSome=true->1<=n)/\CallsIn (Fw ro) (n-1) P f args w R) :=
 ⟨(fun h=>by cases h),(callsIn_wide (n:=n-1)).2 h⟩
theorem Lo{P:abe}{f:String}{args:Array abc}{w:abf}{R:abc->abf->Prop}(h:Rows P f args w R)(ro:Option Nat)(n:Nat):(((Fw ro).depth.isSome=true->1<=n)/\RowsIn (Fw ro) (n-1) P f args w R) :=
 ⟨(fun h=>by cases h),fun c cs _=>let⟨v,w',r,s⟩:=h c cs;⟨v,w',r,(stepsIn_wide (P:=P)).2 s⟩⟩
theorem qW{P:abe}{o:Oper}{a:Act}{w:abf}{next:Act->abf->Prop}{Q:Exit->Act->abf->Prop}(h:o.wp P a w next Q):wq P o a w next Q:=by
 intro ro n;unfold Oper.wp at h;generalize(execOp a.eval o).run P w=r at h;cases r with
 |ok x w' =>
  cases x with
  |enter f args=>exact Ph h ro n
  |row f args=>exact Lo h ro n
  |round l f ts x y=>exact(show False from h).elim
  |_=>exact h
 |halt x w'=>cases x <;> exact h
structure Step(P:abe)(N:Nat)(R:Array Oper)(s:AS)(o:Oper)(u:Out):Prop where
  run:∀s',fQ s s' u->iI s' u->∀C m a w Q (next:Act->abf->Prop),C.nt=N->RelM C s' m a w ->
    (∀m' a' w',RelM C (s'.app o.dst u) m' a' w'->next a' w') ->
    if Region.wanted o (yielded R a.tmps)then wq P o a w next Q else next (a.put o.dst undef) w
def eD(P:abe)(N:Nat)(R:Array Oper):List Oper->AS->List Out->(AS->List Out->Prop)->Prop
  |[],s,us,K=>K s us
  |o::ops,s,us,K=>∃u,Step P N R s o u/\iI s u/\eD P N R ops (s.app o.dst u) (us++[u]) K
def nd(o:Oper):Bool:=match o.op with
  | .defer _=>false
  |_=>true
theorem CX{P:abe}{o:Oper}{a:Act}{w:abf}{next:Act->abf->Prop}{Q:Exit->Act->abf->Prop}{ro:Option Nat}{n:Nat}(hd:nd o=true)(h:wq P o a w next Q):o.wpIn (Fw ro) n P a w next Q:=by
 refine⟨fun _ _=>trivial,?_⟩;rw[Oper.semAt_eq _ _ _ (by intro c hc;simp[nd,hc]at hd)];exact h ro n
theorem Sl{P:abe}{N n:Nat}{R:Array Oper}{C:Ctx}(hN:C.nt=N){Q:Exit->Act->abf->Prop}{K:AS->List Out->Prop}
  (hK:∀s us m a w,K s us->RelM C s m a w->Q .normal a w) :
  ∀(ops:List Oper)(i:Nat)(s:AS)(us:List Out)(m:Nat->Option Nat)(a:Act)(w:abf),
   (∀j,R[i+j]?=ops[j]?)->ops.all nd=true->eD P N R ops s us K->RelM C s m a w->wpOpsIn (Fw C.ro) n P R Q (List.range' i ops.length) a w:=by
 intro ops
 induction ops with
 |nil=>intro i s us m a w _ _ h hr;exact hK s us m a w h hr
 |cons o ops ih =>
  intro i s us m a w hR b9 h hr;simp only[all_cons,ZW]at b9;obtain⟨u,hs,hn,h⟩:=h;have ho:R[i]?=some o:=by simpa using hR 0
  simp only[Z7,List.range'_succ];rw[wpOpsIn_cons];unfold wpOpIn;simp only[ho]
  have:=hs.run s ⟨fun _ _=>rfl,fun _ _=>rfl⟩ hn C m a w Q (wpOpsIn (Fw C.ro) n P R Q (List.range' (i+1) ops.length)) hN hr
   (fun m' a' w' hr'=>ih (i+1) _ _ m' a' w' (fun j=>by have:=hR (j+1);simpa[XG,Nat.add_comm 1 j]using this) b9.2 h hr')
  split
  ·rename_i hw;rw[aa2 hw]at this;exact CX b9.1 this
  ·rename_i hw;rw[aa1 hw]at this;exact⟨fun _ _=>trivial,this⟩
theorem HeapRel.congr{ext:Nat->Prop}{hp hp':Hp}{m:Nat->Option Nat}{w:abf}(h:∀k,lk hp k=lk hp' k)
  (hr:HeapRel ext hp m w):HeapRel ext hp' m w:=by
 have e1:aB hp m=aB hp' m:=by funext b;simp only[aB,h]
 have e2:Im ext hp m w=Im ext hp' m w:=by funext b cs;simp only[Im,e1]
 refine⟨?_,?_,?_⟩
 ·intro k x hk;rw[<- e2];exact hr.blk k x ((h k).trans hk)
 ·intro k k' x x' b h1 h2;exact hr.inj k k' x x' b ((h k).trans h1) ((h k').trans h2)
 ·intro k x b h1;exact hr.sep k x b ((h k).trans h1)
theorem RelM.congr{C:Ctx}{s s':AS}{m:Nat->Option Nat}{a:Act}{w:abf}(h1:∀t,s.get t=s'.get t)(h2:∀k,s.blk k=s'.blk k)
  (hr:RelM C s m a w):RelM C s' m a w:=by
 have e1:aB s.hp m=aB s'.hp m:=by funext b;simp only[aB];simp only[AS.blk]at h2;simp only[h2]
 have e2:Im C.ext s.hp m w=Im C.ext s'.hp m w:=by funext b cs;simp only[Im,e1]
 refine⟨?_,hr.heap.congr h2,hr.frame,?_,fun k x h3 h4=>hr.keep k x h3 ((h2 k).trans h4),hr.defers,hr.nt⟩
 ·intro t x hx;rw[<- e2];exact hr.slots t x ((h1 t).trans hx)
 ·intro k x b hk;exact hr.new k x b ((h2 k).trans hk)
def wh(prev:List Nat)(o:Oper):Nat :=
  o.after.toList.foldl (fun s e=>match Region.binds .any e with
    |true=>s ||| (2^e.on ||| prev.getD e.on 0)
    |false=>s) 0
def gg:List Oper->List Nat->List Nat
  |[],prev=>prev
  |o::ops,prev=>gg ops (prev++[wh prev o])
theorem TH(prev:List Nat)(j:Nat):∀(l:List Edge)(s:Nat),
  (l.foldl (fun s e=>match Region.binds .any e with
   |true=>s ||| (2^e.on ||| prev.getD e.on 0)
   |false=>s) s).testBit j=true ->
  s.testBit j=true\/∃e∈l,Region.binds .any e=true/\(j=e.on\/(prev.getD e.on 0).testBit j=true):=by
 intro l
 induction l with
 |nil=>intro s h;exact .inl h
 |cons e l ih =>
  intro s h;simp only[YQ]at h;rcases ih _ h with h |⟨e',he',hb,hj⟩
  ·cases hb:Region.binds .any e with
   |false=>rw[hb]at h;exact .inl h
   |true =>
    rw[hb]at h;simp only[Nat.testBit_or,aav,Nat.testBit_two_pow,aa3]at h;rcases h with h |h |h
    ·exact .inl h
    ·exact .inr ⟨e,aaa,hb,.inl h.symm⟩
    ·exact .inr ⟨e,aaa,hb,.inr h⟩
  ·exact .inr ⟨e',Z8 _ he',hb,hj⟩
theorem F1:∀(ops:List Oper)(prev:List Nat),(gg ops prev).length=prev.length+ops.length
 |[],prev=>rfl
 |o::ops,prev=>by simp only[gg,F1 ops,aah,Z7,aan];omega
theorem wS:∀(ops:List Oper)(prev:List Nat)(i:Nat),i<prev.length->(gg ops prev).getD i 0=prev.getD i 0
 |[],prev,i,_=>rfl
 |o::ops,prev,i,h=>by
  simp only[gg];rw[wS ops _ i (by simp;omega)];simp[ZS,aae h]
theorem CA:∀(ops:List Oper)(prev:List Nat)(i:Nat)(o:Oper),ops[i]?=some o ->
  ∃q,(gg ops prev).getD (prev.length+i) 0=wh q o/\∀j,q.getD j 0≠0->j<prev.length+i/\q.getD j 0=(gg ops prev).getD j 0
 |[],prev,i,o,h=>by simp at h
 |o'::ops,prev,0,o,h=>by
  simp at h;subst h
  refine⟨prev,?_,?_⟩
  ·simp only[gg,XW];rw[wS ops _ _ (by simp)];simp[ZS]
  ·intro j hj
   have hlt:j<prev.length:=by
    rcases Z2 j prev.length with h |h
    ·exact h
    ·exact aa8 (by simp[ZS,Z5 h]) hj
   refine⟨by omega,?_⟩;simp only[gg];rw[wS ops _ _ (by simp;omega)];simp[ZS,aae hlt]
 |o'::ops,prev,i+1,o,h=>by
  simp at h;obtain⟨q,h1,h2⟩:=CA ops (prev++[wh prev o']) i o h;refine⟨q,?_,?_⟩
  ·simp only[gg];rw[<- h1];simp only[aah,Z7,aan];congr 1;omega
  ·intro j hj;obtain⟨h3,h4⟩:=h2 j hj;simp at h3;exact⟨by omega,h4⟩
def GL(R:Array Oper)(L:Nat->Bool):Prop:=∀i o,R[i]?=some o->L i=true->∀e∈o.after.toList,Region.binds .any e=true->L e.on=true
theorem CH{R:Array Oper}{L:Nat->Bool}(hc:GL R L):∀(i:Nat)(o:Oper),R[i]?=some o ->
  (∀e∈o.after.toList,Region.binds .any e=true->L e.on=true)->∀j,((gg R.toList []).getD i 0).testBit j=true->L j=true:=by
 intro i
 induction i using Nat.strongRecOn with
 |_ i ih =>
  intro o ho hp j hj;obtain⟨q,h1,h2⟩:=CA R.toList [] i o (by simpa using ho);simp only[aan,XF]at h1 h2;rw[h1]at hj;rcases TH q j _ _ hj with h |⟨e,he,hb,h |h⟩
  ·simp at h
  ·exact h▸hp e he hb
  ·have az : q.getD e.on 0 ≠ 0 := fun h0 => by rw [h0] at h; simp at h
   obtain⟨h3,h4⟩:=h2 e.on az;rw[h4]at h;have hl:=hp e he hb
   have hlt:e.on<R.size:=by
    rcases Z2 e.on R.size with hh |hh
    ·exact hh
    ·exfalso;have:(gg R.toList []).length = R.size:=by rw [F1]; simp
     rw[ZS,Z5 oz]at h;simp at h
   exact ih e.on h3 R[e.on] (by simp[hlt]) (hc e.on _ (by simp[hlt]) hl) j h
def Out.wr(u:Out):List Nat:=u.upd.map (·.1)
def Out.nm(u:Out):List Nat:=(match u.val with |some x=>x.nm |none=>[])++u.upd.flatMap fun p=>match p.2 with |some x=>x.nm |none=>[]
def jc(a b:List Nat):Bool:=a.any fun x=>b.contains x
def vE(d:Option Nat)(l:List Nat):Bool:=match d with |some d=>l.contains d |none=>false
def hO(o1:Oper)(u1:Out)(o2:Oper)(u2:Out):Bool :=
  vE o1.dst u2.rt||vE o2.dst u1.rt||(match o1.dst with |some d=>o2.dst==some d |none=>false) ||
    jc u1.wr u2.rd||jc u1.wr u2.wr||jc u2.wr u1.rd||jc (u1.wr.filter fun k=>!u1.rd.contains k) u2.nm
def rp(M:List Nat)(o2:Oper)(u2:Out)(j:Nat):Nat->List Oper->List Out->Bool
  |i,o1::ops,u1::us=>(match XU i j with
      |true=>(!hO o1 u1 o2 u2||(M.getD j 0).testBit i)&&!jc (u2.wr.filter fun k=>!u2.rd.contains k) (u1.nm++u1.wr)
      |false=>true)&&rp M o2 u2 j (i+1) ops us
  |_,_,_=>true
def tq(M:List Nat)(R:List Oper)(U:List Out):Nat->List Oper->List Out->Bool
  |j,o::ops,u::us=>rp M o u j 0 R U&&(o.after.toList.all fun e=>!Region.binds .any e||XU e.on j)&&tq M R U (j+1) ops us
  |_,_,_=>true
def AS.freshB(s:AS)(k:Nat):Bool :=
  (s.sl.all fun p=>match p.2 with |some x=>!x.nm.contains k |none=>true) &&
    (s.hp.all fun p=>match p.2 with |some x=>!x.nm.contains k |none=>true) &&
    (match lk s.hp k with |some _=>false |none=>true)&&XU k 1000
theorem AS.fresh_of{s:AS}{k:Nat}(h:s.freshB k=true):s.Fresh k:=by
 simp only[AS.freshB,ZW,Z6]at h;obtain⟨⟨⟨h1,h2⟩,h3⟩,h4⟩:=h;refine⟨?_,by simpa[Yb]using h4,?_,?_⟩
 ·cases hk:lk s.hp k with
  |none=>rfl
  |some x=>rw[hk]at h3;simp at h3
 ·intro t x hx hn;have:=h1 _ (mj hx);simp at this;exact this hn.mem
 ·intro t x hx hn;have:=h2 _ (mj hx);simp at this;exact this hn.mem
def chk(R:List Oper)(U:List Out)(s:AS):Bool :=
  tq (gg R []) R U 0 R U&&(U.all fun u=>u.wr.all fun k=>u.rd.contains k||s.freshB k)
theorem Ex{M:List Nat}{o2:Oper}{u2:Out}{j:Nat}:∀(ops:List Oper)(us:List Out)(i0:Nat),rp M o2 u2 j i0 ops us=true ->
  ∀i o1 u1,ops[i]?=some o1->us[i]?=some u1->i0+i<j ->
   (hO o1 u1 o2 u2=true->(M.getD j 0).testBit (i0+i)=true)/\jc (u2.wr.filter fun k=>!u2.rd.contains k) (u1.nm++u1.wr)=false
 |[],_,_,_,i,o1,u1,h,_,_=>by simp at h
 |_::_,[],_,_,i,o1,u1,_,h,_=>by simp at h
 |o::ops,u::us,i0,hc,i,o1,u1,h1,h2,hlt=>by
  simp only[rp,ZW]at hc;obtain⟨ff,mr⟩:=hc;cases i with
  |zero =>
   simp at h1 h2;subst h1;subst h2
   have hb:XU i0 j=true:=by simpa[Yb]using hlt
   rw[hb]at ff;simp only[ZW,aav,Zw]at ff;refine⟨fun hw=>?_,ff.2⟩;rcases ff.1 with h |h
   ·rw[hw]at h;cases h
   ·simpa using h
  |succ i =>
   simp at h1 h2;have:=Ex ops us (i0+1) mr i o1 u1 h1 h2 oz;rw[show i0+(i+1)=i0+1+i by omega];exact this
theorem we{M:List Nat}{R:List Oper}{U:List Out}:∀(ops:List Oper)(us:List Out)(j0:Nat),tq M R U j0 ops us=true ->
  ∀j o u,ops[j]?=some o->us[j]?=some u->rp M o u (j0+j) 0 R U=true/\∀e∈o.after.toList,Region.binds .any e=true->e.on<j0+j
 |[],_,_,_,i,o1,u1,h,_=>by simp at h
 |_::_,[],_,_,i,o1,u1,_,h=>by simp at h
 |o::ops,u::us,j0,hc,j,o1,u1,h1,h2=>by
  simp only[tq,ZW,Z6]at hc;obtain⟨⟨ff,mr⟩,Ae⟩:=hc;cases j with
  |zero =>
   simp at h1 h2;subst h1;subst h2
   refine⟨ff,fun e he hb=>?_⟩;have:=mr e he;simpa[hb,Yb]using this
  |succ j =>
   simp at h1 h2;have:=we ops us (j0+1) Ae j o1 u1 h1 h2;rw[show j0+(j+1)=j0+1+j by omega];exact this
def vw(R:Array Oper)(U:List Out)(s:AS)(L:Nat->Bool):Nat->AS
  |0=>s
  |i+1=>match L i,R[i]?,U[i]? with
    |true,some o,some u=>(vw R U s L i).app o.dst u
    |_,_,_=>vw R U s L i
theorem eK(s:AS)(d:Option Tmp)(u:Out)(t:Nat):(s.app d u).get t=if d=some t then u.val else s.get t:=by
 cases d with
 |none=>simp[AS.app,AS.get]
 |some d =>
  simp only[AS.app,AS.get,aq]
  by_cases h:t=d
  ·simp[h]
  ·rw[aa1 h,aa1 (by simpa using fun e=>h e.symm)]
theorem oR(s:AS)(d:Option Tmp)(u:Out)(k:Nat):(s.app d u).blk k=if k∈u.wr then lk u.upd k else s.blk k:=by
 simp only[AS.app,AS.blk,iD,Out.wr];rfl
section
variable{R:Array Oper}{U:List Out}{s:AS}
theorem DN{L:Nat->Bool}{t i:Nat}(n:Nat)(aU:i<=n)(h:∀j o,i<=j->R[j]?=some o->o.dst=some t->L j=false) :
  (vw R U s L n).get t=(vw R U s L i).get t:=by
 induction n with
 |zero=>rw[show i=0 by omega]
 |succ n ih =>
  by_cases hn:i<=n
  ·rw[<- ih hn];simp only[vw];split
   ·rename_i o u h1 h2 h3;rw[eK,aa1];intro hd;rw[h n o hn h2 hd]at h1;cases h1
   ·rfl
  ·rw[show i=n+1 by omega]
theorem FH{L:Nat->Bool}{k i:Nat}(n:Nat)(aU:i<=n)(h:∀j u,i<=j->U[j]?=some u->k∈u.wr->L j=false) :
  (vw R U s L n).blk k=(vw R U s L i).blk k:=by
 induction n with
 |zero=>rw[show i=0 by omega]
 |succ n ih =>
  by_cases hn:i<=n
  ·rw[<- ih hn];simp only[vw];split
   ·rename_i o u h1 h2 h3;rw[oR,aa1];intro hd;rw[h n u hn h3 hd]at h1;cases h1
   ·rfl
  ·rw[show i=n+1 by omega]
theorem yB{L L':Nat->Bool}{t:Nat}(n:Nat)(h:∀j o,j<n->R[j]?=some o->o.dst=some t->L j=L' j) :
  (vw R U s L n).get t=(vw R U s L' n).get t:=by
 induction n with
 |zero=>rfl
 |succ n ih =>
  have ih:=ih (fun j o hj=>h j o oz);simp only[vw];cases ho:R[n]? with
  |none=>cases L n <;> cases L' n <;> simp only[ih]
  |some o =>
   cases hu:U[n]? with
   |none=>cases L n <;> cases L' n <;> simp only[ih]
   |some u =>
    by_cases hd:o.dst=some t
    ·rw[h n o oz ho hd];cases L' n <;> simp only[eK,hd,if_true,ih]
    ·cases L n <;> cases L' n <;> simp only[eK,aa1 hd,ih]
theorem yf{L L':Nat->Bool}{k:Nat}(n:Nat)(h:∀j u,j<n->U[j]?=some u->k∈u.wr->L j=L' j) :
  (vw R U s L n).blk k=(vw R U s L' n).blk k:=by
 induction n with
 |zero=>rfl
 |succ n ih =>
  have ih:=ih (fun j o hj=>h j o oz);simp only[vw];cases ho:R[n]? with
  |none=>cases L n <;> cases L' n <;> simp only[ih]
  |some o =>
   cases hu:U[n]? with
   |none=>cases L n <;> cases L' n <;> simp only[ih]
   |some u =>
    by_cases hd:k∈u.wr
    ·rw[h n u oz hu hd];cases L' n <;> simp only[oR,hd,if_true,ih]
    ·cases L n <;> cases L' n <;> simp only[oR,aa1 hd,ih]
theorem ML{L:Nat->Bool}{t:Nat}{x:AV}:∀n,(vw R U s L n).get t=some x ->
  s.get t=some x\/∃j u,L j=true/\U[j]?=some u/\u.val=some x:=by
 intro n
 induction n with
 |zero=>exact .inl
 |succ n ih =>
  intro h;simp only[vw]at h;split at h
  ·rename_i o u h1 h2 h3;rw[eK]at h;split at h
   ·exact .inr ⟨n,u,h1,h3,h⟩
   ·exact ih h
  ·exact ih h
theorem B3{L:Nat->Bool}{k:Nat}{x:Blk}:∀n,(vw R U s L n).blk k=some x ->
  s.blk k=some x\/∃j u,L j=true/\U[j]?=some u/\k∈u.wr/\lk u.upd k=some x:=by
 intro n
 induction n with
 |zero=>exact .inl
 |succ n ih =>
  intro h;simp only[vw]at h;split at h
  ·rename_i o u h1 h2 h3;rw[oR]at h;split at h
   ·rename_i hk;exact .inr ⟨n,u,h1,h3,hk,h⟩
   ·exact ih h
  ·exact ih h
end
theorem Oc{a b:List Nat}(h:jc a b=false){x:Nat}(ha:x∈a):x∉b:=by
 intro hb;simp only[jc,List.any_eq_false]at h;exact h x ha (by simpa using hb)
theorem p8{a b:List Nat}{x:Nat}(ha:x∈a)(hb:x∈b):jc a b=true:=by
 simp only[jc,Ys];exact⟨x,ha,by simpa using hb⟩
section
variable{P:abe}{N:Nat}{R:Array Oper}{U:List Out}{s0:AS}{C:Ctx}{Q:Exit->Act->abf->Prop}
theorem K9{u:Out}{x:AV}{k:Nat}(h:u.val=some x)(hk:x.Names k):k∈u.nm:=by
 simp only[Out.nm,h,ZY];exact .inl hk.mem
theorem Ow{u:Out}{x:Blk}{k k':Nat}(h:lk u.upd k'=some x)(hk:x.Names k):k∈u.nm:=by
 simp only[Out.nm,ZY,YH];exact .inr ⟨_,mj h,hk.mem⟩
theorem Ri{n:Nat}(b9:R.toList.all nd=true)(hN:C.nt=N)(a6:U.length=R.size)(aZ:∀(i:Nat) o u,R[i]?=some o->U[i]?=some u->Step P N R (vw R U s0 (fun _=>true) i) o u)
    (hc:chk R.toList U s0=true) (hQ:∀m a w,RelM C (vw R U s0 (fun _=>true) R.size) m a w->Q .normal a w) :
    ∀(fuel:Nat)(listed:Array Bool),listed.size=R.size->GL R (fun i=>listed.getD i false) ->
      ((List.range R.size).filter fun i=>!listed.getD i false).length<=fuel ->
      ∀m a w,RelM C (vw R U s0 (fun i=>listed.getD i false) R.size) m a w->wpAnyIn (Fw C.ro) n P .any R Q fuel listed a w:=by
  simp only[chk,ZW,Z6,aav]at hc;obtain⟨ff,mr⟩:=hc;have hU:∀i,i<R.size->∃o u,R[i]?=some o/\U[i]?=some u:=fun i hi=>⟨R[i],U[i],by simp[hi],by simp⟩
  have Af:∀i j o1 u1 o2 u2,R[i]?=some o1->U[i]?=some u1->R[j]?=some o2->U[j]?=some u2->i<j ->
      (hO o1 u1 o2 u2=true->((gg R.toList []).getD j 0).testBit i=true)/\jc (u2.wr.filter fun k=>!u2.rd.contains k) (u1.nm++u1.wr)=false:=by
    intro i j o1 u1 o2 u2 h1 h2 h3 h4 hlt;have:=we R.toList U 0 ff j o2 u2 (by simpa using h3) h4;simp only[XF]at this;have:=Ex R.toList U 0 this.1 i o1 u1 (by simpa using h1) h2 oz;simpa using this
  have U7:∀j o,R[j]?=some o->∀e∈o.after.toList,Region.binds .any e=true->e.on<j:=by
    intro j o h
    have hj:j<R.size:=by
      rcases Z2 j R.size with hh |hh
      · exact hh
      · simp[ZE hh]at h
    obtain⟨o',u,h1,h2⟩:=hU j hj;rw[h]at h1;cases h1
    have:=(we R.toList U 0 ff j o u (by simpa using h) h2).2;simpa using this
  have H9:∀(listed:Array Bool),listed.size=R.size->Region.ready .any R listed=[]->∀i,i<R.size->listed.getD i false=true:=by
    intro listed aA hr i
    induction i using Nat.strongRecOn with
    |_ i ih =>
      intro hi;cases hl:listed.getD i false with
      |true=>rfl
      |false =>
        exfalso
        have:i∈Region.ready .any R listed:=by
          simp only[Region.ready,Yl,YR];refine⟨hi,?_⟩
          have e1:listed.getD i true=false:=by
            simp only[Z1]at hl ⊢;rw[ZC oz]at hl ⊢;exact hl
          simp only[e1,Bool.not_false,Bool.true_and];rw[ZC hi];simp only[ZP,ZO,Zx,aav,Zw];intro e he;cases hb:Region.binds .any e with
          |false=>exact .inl rfl
          |true =>
            have:=U7 i R[i] (by simp[hi]) e (by simpa using he) hb;exact .inr (ih e.on this oz)
        rw[hr]at this;cases this
  have j8:∀(listed:Array Bool),listed.size=R.size->Region.ready .any R listed=[]->∀m a w,
      RelM C (vw R U s0 (fun i=>listed.getD i false) R.size) m a w->Q .normal a w:=by
    intro listed aA hr m a w h;refine hQ m a w (h.congr (fun t=>yB _ (fun j o hj _ _=>H9 listed aA hr j hj)) (fun k=>yf _ (fun j u hj _ _=>H9 listed aA hr j hj)))
  intro fuel
  induction fuel with
  |zero =>
    intro listed aA dY hf m a w h
    have Ia:Region.ready .any R listed=[]:=by
      cases hr:Region.ready .any R listed with
      |nil=>rfl
      |cons i l =>
        exfalso;have hi:i∈Region.ready .any R listed:=by rw[hr];exact aaa
        simp only[Region.ready,Yl,YR,ZW,Zw]at hi
        have:listed.getD i false=false:=by
          have h1:=hi.2.1;simp only[Z1]at h1 ⊢;rw[ZC oz]at h1 ⊢;exact h1
        have pJ:i∈(List.range R.size).filter fun i=>!listed.getD i false:=by simp[Yl,hi.1];simpa using this
        have:=List.length_pos_of_mem pJ;omega
    exact⟨Ia,j8 listed aA Ia m a w h⟩
  |succ fuel ih =>
    intro listed aA dY hf m a w h;refine⟨fun hr=>j8 listed aA hr m a w h,?_⟩;intro i hi;simp only[Region.ready,Yl,YR,ZW,Zw]at hi;obtain⟨Ib,k9,Ag⟩:=hi
    have k9:listed.getD i false=false:=by
      simp only[Z1]at k9 ⊢;rw[ZC oz]at k9 ⊢;exact k9
    obtain⟨o,u,ho,hu⟩:=hU i Ib;rw[ho]at Ag;simp only[ZP,ZO,Zx,aav,Zw]at Ag
    have Ic:∀e∈o.after.toList,Region.binds .any e=true->listed.getD e.on false=true:=by
      intro e he hb;rcases Ag e (by simpa using he)with h |h
      · rw[hb]at h;cases h
      · exact h
    have Id:∀j oj uj,R[j]?=some oj->U[j]?=some uj->j<i->hO oj uj o u=true->listed.getD j false=true:=by
      intro j oj uj h1 h2 hlt hw;exact CH dY i o ho Ic j ((Af j i oj uj o u h1 h2 ho hu hlt).1 hw)
    have pK:∀j oj uj,R[j]?=some oj->U[j]?=some uj->i<j->hO o u oj uj=true->listed.getD j false=false:=by
      intro j oj uj h1 h2 hlt hw;cases hl:listed.getD j false with
      |false=>rfl
      |true =>
        have:=CH dY j oj h1 (dY j oj h1 hl) i ((Af i j o u oj uj ho hu h1 h2 hlt).1 hw);rw[k9]at this;cases this
    have Ah:∀(j:Nat) oj,R[j]?=some oj->∃uj,U[j]?=some uj:=by
      intro j oj h
      have hj:j<R.size:=by
        rcases Z2 j R.size with hh |hh
        · exact hh
        · simp[ZE hh]at h
      obtain⟨_,uj,_,h2⟩:=hU j hj;exact⟨uj,h2⟩
    have vH:∀(j:Nat) uj,U[j]?=some uj->∃oj,R[j]?=some oj:=by
      intro j uj h
      have hj:j<R.size:=by
        rcases Z2 j R.size with hh |hh
        · exact hh
        · rw[Z5 oz]at h;cases h
      obtain⟨oj,_,h1,_⟩:=hU j hj;exact⟨oj,h1⟩
    have cD:∀t,t∈u.rt->(vw R U s0 (fun i=>listed.getD i false) R.size).get t=(vw R U s0 (fun _=>true) i).get t:=by
      intro t ht;rw[DN (i:=i) R.size oz]
      · refine yB i (fun j oj hj cY hd=>?_)
        obtain⟨uj,cE⟩:=Ah j oj cY;exact Id j oj uj cY cE hj (by simp[hO,vE,hd,ht])
      · intro j oj hj cY hd
        obtain⟨uj,cE⟩:=Ah j oj cY;rcases Z2 i j with hlt |hge
        · exact pK j oj uj cY cE hlt (by simp[hO,vE,hd,ht])
        · rw[show j=i by omega];exact k9
    have j9:∀k,k∈u.rd->(vw R U s0 (fun i=>listed.getD i false) R.size).blk k=(vw R U s0 (fun _=>true) i).blk k:=by
      intro k hk;rw[FH (i:=i) R.size oz]
      · refine yf i (fun j uj hj cE hd=>?_)
        obtain⟨oj,cY⟩:=vH j uj cE;exact Id j oj uj cY cE hj (by simp[hO,p8 hd hk])
      · intro j uj hj cE hd
        obtain⟨oj,cY⟩:=vH j uj cE;rcases Z2 i j with hlt |hge
        · exact pK j oj uj cY cE hlt (by simp[hO,p8 hd hk])
        · rw[show j=i by omega];exact k9
    have ba:iI (vw R U s0 (fun i=>listed.getD i false) R.size) u:=by
      intro k hk
      by_cases r6:k∈u.rd
      · exact .inl r6
      refine .inr ?_
      have hfr:s0.Fresh k:=by
        rcases mr u (ZR hu) k hk with h |h
        · exact aa8 (by simpa using h) r6
        · exact AS.fresh_of h
      have bP:k∈u.wr.filter fun k=>!u.rd.contains k:=by simp[Yl,r6];simpa[Out.wr]using hk
      have fY:∀j uj,listed.getD j false=true->U[j]?=some uj->k∉uj.nm/\k∉uj.wr:=by
        intro j uj hl cE;obtain⟨oj,cY⟩:=vH j uj cE;rcases Nat.lt_trichotomy j i with hlt |heq |hgt
        · have hm:=Oc (Af j i oj uj o u cY cE ho hu hlt).2 bP
          exact⟨fun h=>hm (ZY.2 (.inl h)),fun h=>hm (ZY.2 (.inr h))⟩
        · subst heq;rw[k9]at hl;cases hl
        · refine⟨fun hn=>?_,fun pL=>?_⟩
          · have := pK j oj uj cY cE hgt (by simp only [hO, p8 bP hn, Bool.or_true])
            rw[hl]at this;cases this
          · have := pK j oj uj cY cE hgt (by simp [hO, p8 (by simpa [Out.wr] using hk : k ∈ u.wr) pL])
            rw[hl]at this;cases this
      refine⟨?_,hfr.2.1,?_,?_⟩
      · cases hb:(vw R U s0 (fun i=>listed.getD i false) R.size).blk k with
        |none=>exact hb
        |some x =>
          rcases B3 _ hb with h |⟨j,uj,hl,cE,pL,_⟩
          · rw[AS.blk,hfr.1]at h;cases h
          · exact aa8 pL (fY j uj hl cE).2
      · intro t x hx hn
        rcases ML _ hx with h |⟨j,uj,hl,cE,hv⟩
        · exact hfr.2.2.1 t x h hn
        · exact(fY j uj hl cE).1 (K9 hv hn)
      · intro k' x hx hn
        rcases B3 _ hx with h |⟨j,uj,hl,cE,_,hv⟩
        · exact hfr.2.2.2 k' x h hn
        · exact(fY j uj hl cE).1 (Ow hv hn)
    unfold wpOpIn;simp only[ho];have U8:nd o=true:=Z6.1 b9 o (by simpa using Array.mem_of_getElem? ho)
    suffices hs:(if Region.wanted o (yielded R a.tmps)then wq P o a w (wpAnyIn (Fw C.ro) n P .any R Q _ (listed.setIfInBounds i true)) Q else wpAnyIn (Fw C.ro) n P .any R Q _ (listed.setIfInBounds i true) (a.put o.dst undef) w) by
      split
      · rename_i hw;rw[aa2 hw]at hs;exact CX U8 hs
      · rename_i hw;rw[aa1 hw]at hs;exact⟨fun _ _=>trivial,hs⟩
    refine(aZ i o u ho hu).run _ ⟨cD,j9⟩ ba C m a w Q _ hN h ?_;intro m' a' w' h'
    have hL:∀j,(listed.setIfInBounds i true).getD j false=if j=i then true else listed.getD j false:=by
      intro j;simp only[Z1,ZD]
      by_cases hj:j=i
      · subst hj
        rw[aa2 rfl,aa2 rfl,aa2 oz];rfl
      · rw[aa1 oz,aa1 hj]
    refine ih (listed.setIfInBounds i true) (by simpa using aA) ?_ ?_ m' a' w' ?_
    · intro j oj cY hl e he hb
      simp only[hL]at hl ⊢
      by_cases vI:e.on=i
      · simp[vI]
      · rw[aa1 vI]
        by_cases hj:j=i
        · subst hj;rw[ho]at cY;cases cY;exact Ic e he hb
        · rw[aa1 hj]at hl;exact dY j oj cY hl e he hb
    · have e1:((List.range R.size).filter fun j=>!(listed.setIfInBounds i true).getD j false) =
          ((List.range R.size).filter fun j=>!listed.getD j false).filter fun j=>!decide (j=i):=by
        rw[List.filter_filter];refine List.filter_congr (fun j _=>?_);rw[hL]
        by_cases hj:j=i <;> simp[hj]
      have e2:(((List.range R.size).filter fun j=>!listed.getD j false).filter fun j=>!decide (j=i)).length<((List.range R.size).filter fun j=>!listed.getD j false).length:=by
        rw[List.length_filter_lt_length_iff_exists];exact⟨i,by simp[Yl,Ib];simpa using k9,by simp⟩
      rw[e1];omega
    · refine h'.congr (fun t=>?_) (fun k=>?_)
      · rw[eK]
        by_cases hd:o.dst=some t
        · rw[aa2 hd]
          rw[DN (i:=i+1) R.size oz]
          · simp only[vw,hL,if_true,ho,hu,eK,hd]
          · intro j oj hj cY lg
            rw[hL,aa1 oz];obtain⟨uj,cE⟩:=Ah j oj cY;exact pK j oj uj cY cE oz (by simp[hO,hd,lg])
        · rw[aa1 hd]
          refine yB _ (fun j oj hj cY lg=>?_);rw[hL,aa1];rintro rfl;rw[ho]at cY;cases cY;exact hd lg
      · rw[oR]
        by_cases hd:k∈u.wr
        · rw[aa2 hd]
          rw[FH (i:=i+1) R.size oz]
          · simp only[vw,hL,if_true,ho,hu,oR,hd]
          · intro j uj hj cE lg
            rw[hL,aa1 oz];obtain⟨oj,cY⟩:=vH j uj cE;exact pK j oj uj cY cE oz (by simp[hO,p8 hd lg])
        · rw[aa1 hd]
          refine yf _ (fun j uj hj cE lg=>?_);rw[hL,aa1];rintro rfl;rw[hu]at cE;cases cE;exact hd lg
end
inductive TK where
  |bool |int (k:IntKind) |string |slice (e:Nat) |array (n e:Nat) |struct |iface (n:Nat) |pointer (e:Nat) |other
  deriving Inhabited
structure TI where
  size:Nat
  bytes:Nat
  zero:List abc
  k:TK
  fs:List (Nat×Nat)
  deriving Inhabited
def TI.ag(t:TI):Bool:=match t.k with | .struct | .array _ _=>true |_=>false
def eE:TypeDesc->TK
  | .bool=>.bool
  | .int k=>.int k
  | .string=>.string
  | .slice e=>.slice e
  | .array n e=>.array n e
  | .struct _=>.struct
  | .interface ms=>.iface ms.size
  | .pointer e=>.pointer e
  |_=>.other
def ph(P:abe):TypeDesc->List (Nat×Nat)
  | .struct fs=>fs.toList.map fun f=>(f.offset,match P.info? f.type with |some j=>j.size |none=>0)
  |_=>[]
def ak(P:abe)(t:abd):Option TI :=
  match P.info? t,P.underlying t with
  |some i,some d=>match i.zero with
    |some z=>some ⟨i.size,i.bytes,z.cells.toList,eE d,ph P d⟩
    |none=>none
  |_,_=>none
theorem ql{P:abe}{t:abd}{ti:TI}(h:ak P t=some ti) :
  ∃i d z,P.info? t=some i/\P.underlying t=some d/\i.zero=some z/\ti=⟨i.size,i.bytes,z.cells.toList,eE d,ph P d⟩:=by
 unfold ak at h;split at h
 ·rename_i i d h1 h2;split at h
  ·rename_i z h3;cases h;exact⟨i,d,z,h1,h2,h3,rfl⟩
  ·cases h
 ·cases h
theorem ef{P:abe}{t:abd}{ti:TI}(h:ak P t=some ti)(w:abf):(sizeOf t).run P w=.ok ti.size w:=by
 obtain⟨i,d,z,h1,h2,h3,rfl⟩:=ql h;simp[sizeOf,typeInfo,h1]
theorem C4{P:abe}{t:abd}{ti:TI}(h:ak P t=some ti)(w:abf):∃i,(typeInfo t).run P w=.ok i w/\i.bytes=ti.bytes/\i.size=ti.size:=by
 obtain⟨i,d,z,h1,h2,h3,rfl⟩:=ql h;exact⟨i,by simp[typeInfo,h1],rfl,rfl⟩
theorem rf{P:abe}{t:abd}{ti:TI}(h:ak P t=some ti)(w:abf):∃z,(zeroValue t).run P w=.ok z w/\z.cells.toList=ti.zero:=by
 obtain⟨i,d,z,h1,h2,h3,rfl⟩:=ql h;exact⟨z,by simp[zeroValue,typeInfo,h1,h3],rfl⟩
theorem bX{P:abe}{t:abd}{ti:TI}(h:ak P t=some ti)(w:abf):∃d,(underlying t).run P w=.ok d w/\eE d=ti.k/\ph P d=ti.fs/\P.underlying t=some d:=by
 obtain⟨i,d,z,h1,h2,h3,rfl⟩:=ql h;exact⟨d,by simp[underlying,h2],rfl,rfl,h2⟩
theorem eZ{d:TypeDesc}{e:Nat}(h:eE d=.slice e):d=.slice e:=by cases d <;> simp_all [eE]
theorem A7{d:TypeDesc}(h:eE d=.string):d=.string:=by cases d <;> simp_all [eE]
theorem GU{d:TypeDesc}(h:eE d=.bool):d=.bool:=by cases d <;> simp_all [eE]
theorem BA{d:TypeDesc}{k:IntKind}(h:eE d=.int k):d=.int k:=by cases d <;> simp_all [eE]
theorem Ou{d:TypeDesc}{n e:Nat}(h:eE d=.array n e):d=.array n e:=by cases d <;> simp_all [eE]
theorem EK{d:TypeDesc}(h:eE d=.struct):∃fs,d=.struct fs:=by cases d <;> simp_all [eE]
theorem Dh{d:TypeDesc}{n:Nat}(h:eE d=.iface n):∃ms,d=.interface ms/\ms.size=n:=by cases d <;> simp_all [eE]
theorem Md{P:abe}{t:abd}{ti:TI}(h:ak P t=some ti)(w:abf):(isAgg t).run P w=.ok ti.ag w:=by
 obtain⟨d,h1,h2,-,-⟩:=bX h w;simp only[isAgg,abh,h1,abg,TI.ag,<- h2];cases d <;> rfl
theorem gx(b off n:Nat):(⟨b,off,none⟩:Addr).add n=⟨b,off+n,none⟩:=by
 unfold Addr.add;split
 ·subst_vars;rfl
 ·rfl
theorem om{w:abf}{b off:Nat}{c:Array abc}{t:abd}{f:Nat×Nat}(hb:w.heap[b]?=some (.cells c t f)) :
  w.cell? ⟨b,off,none⟩=c[off]? := by
 simp[World.cell?,hb]
theorem vD{P:abe}{w:abf}{T:abd}{ti:TI}{b off:Nat}{c:Array abc}{t:abd}{f:Nat×Nat}
  (hT:ak P T=some ti) (hb:w.heap[b]?=some (.cells c t f)) (aU:off+ti.size<=c.size) (h1:ti.ag=true\/ti.size=1) :
  (loadVar T ⟨b,off,none⟩).run P w=.ok (if ti.ag then .agg (c.extract off (off+ti.size))else c.getD off undef) w:=by
 simp only[loadVar,abh,Md hT,abg];cases ha:ti.ag with
 |true =>
  simp only[if_true];have hl:(c.extract off (off+ti.size)).toList.length=ti.size:=by simp;omega
  have:=run_loadCells_list (P:=P) w ⟨b,off,none⟩ (c.extract off (off+ti.size)).toList (by
   intro j v hj;rw[gx,om hb];simp only[ZM,Zz]at hj;split at hj
   ·exact hj
   ·cases hj)
  rw[hl]at this;simp only[abh,ef hT,abg,this,abi,Array.toArray_toList]
 |false =>
  rcases h1 with h1 |h1
  ·rw[ha]at h1;cases h1
  ·simp only [Zm, if_false, run_load, om hb];have:off < c.size:=by omega
   simp[this,Z1]
def ik(ag:Bool)(l:List AV):AV:=match ag with
  |true=>.agg l
  |false=>match l with |x::_=>x |[]=>default
theorem tp{g:Nat->Array abc->Prop}{S:Nat->Nat->Prop}{m:Nat->Option Nat}{c:Array abc}{off n:Nat}{ag:Bool}{xs:List AV}
  (hn:xs.length=n) (aU:off+n<=c.size) (h1:ag=true\/n=1) (ho:∀(j:Nat)(x:AV),xs[j]?=some x->x.one=true)
  (hr:∀(j:Nat)(u:abc)(x:AV),xs[j]?=some x->c[off+j]?=some u->Rep g S m u x) :
  Rep g S m (if ag then .agg (c.extract off (off+n))else c.getD off undef) (ik ag xs):=by
 cases ag with
 |true =>
  simp only[if_true,ik];refine .agg (by simp;omega) ho ?_;intro j u x hu hx;simp only[Zz]at hu;split at hu
  ·exact hr j u x hx hu
  ·cases hu
 |false =>
  rcases h1 with h1 |h1
  ·cases h1
  ·subst h1
   match xs,hn with
   |[x],_ =>
    simp only[Zm,if_false,ik];have:off<c.size:=by omega
    refine hr 0 _ x rfl ?_;simp[this,Z1]
def aR(P:abe)(N:Nat)(c:Code)(Q:Exit->AS->Prop)(s:AS):Prop :=
  ∀C m a w n,C.nt=N->RelM C s m a w->c.wpIn (Fw C.ro) n P (fun e a' w'=>∃s' m',Q e s'/\RelM C s' m' a' w') a w
def iK(P:abe)(N:Nat)(c:Code)(Q:Exit->AS->Prop)(s:AS):Prop :=
  ∀C m a w n,C.ro=none->C.nt=N->RelM C s m a w->c.wpIn (Fw C.ro) n P (fun e a' w'=>∃s' m',Q e s'/\RelM C s' m' a' w') a w
theorem aR.out{P:abe}{N:Nat}{c:Code}{Q:Exit->AS->Prop}{s:AS}(h:aR P N c Q s):iK P N c Q s:=fun C m a w n _=>h C m a w n
def Wk(s s':AS):Prop:=∀C m a w,RelM C s m a w->∃m',RelM C s' m' a w
theorem Wk.refl(s:AS):Wk s s:=fun _ m _ _ h=>⟨m,h⟩
theorem Wk.trans{s s' s'':AS}(h:Wk s s')(h':Wk s' s''):Wk s s'':=fun C m a w hr=>by
 obtain⟨m',hr'⟩:=h C m a w hr;exact h' C m' a w hr'
variable{P:abe}{N:Nat}{Q:Exit->AS->Prop}{s:AS}
theorem mM{c:Code}{s':AS}(hw:Wk s s')(h:aR P N c Q s'):aR P N c Q s:=by
 intro C m a w n hN hr;obtain⟨m',hr'⟩:=hw C m a w hr;exact h C m' a w n hN hr'
theorem fv{c:Code}{Q':Exit->AS->Prop}(h:aR P N c Q s)(hq:∀e s,Q e s->Q' e s):aR P N c Q' s :=
 fun C m a w n hN hr=>wpIn_mono (h C m a w n hN hr) fun e _ _ ⟨s',m',hQ,hr'⟩=>⟨s',m',hq e s' hQ,hr'⟩
theorem Uz{c:Code}{p:Prop}(hp:∀C m a w,RelM C s m a w->p)(h:p->aR P N c Q s):aR P N c Q s :=
 fun C m a w n hN hr=>h (hp C m a w hr) C m a w n hN hr
def GB(K:AS->Prop)(Q:Exit->AS->Prop):Exit->AS->Prop
  | .normal,s=>K s
  |e,s=>Q e s
theorem D5{x y:Code}(h:∀K:AS->Prop,(∀s,aR P N y Q s->K s)->aR P N x (GB K Q) s):aR P N (.seq x y) Q s:=by
 intro C m a w n hN hr;refine wpIn_seq (wpIn_mono (h (aR P N y Q) (fun _ h=>h) C m a w n hN hr) ?_);rintro e a' w' ⟨s',m',hq,hr'⟩;cases e with
 |normal=>exact hq C m' a' w' n hN hr'
 |_=>exact⟨s',m',hq,hr'⟩
theorem BZ(h:Q .normal s):aR P N .skip Q s:=fun _ m _ _ _ _ hr=>wpIn_skip ⟨s,m,h,hr⟩
theorem Dv(h:Q .ret s):aR P N .ret Q s:=fun _ m _ _ _ _ hr=>wpIn_ret ⟨s,m,h,hr⟩
theorem D4{id:Nat}(h:Q (.exit id) s):aR P N (.exit id) Q s:=fun _ m _ _ _ _ hr=>wpIn_exit ⟨s,m,h,hr⟩
def tm(id:Nat)(K:AS->Prop)(Q:Exit->AS->Prop):Exit->AS->Prop
  | .exit id',s=>match XK id' id with |true=>K s |false=>Q (.exit id') s
  | .normal,s=>K s
  |e,s=>Q e s
theorem Ez{id:Nat}{c:Code}(h:aR P N c (tm id (Q .normal) Q) s):aR P N (.block id c) Q s:=by
 intro C m a w n hN hr;refine wpIn_block (wpIn_mono (h C m a w n hN hr) ?_);rintro e a' w' ⟨s',m',hq,hr'⟩;cases e with
 |exit id' =>
  simp only[Exit.inBlock];simp only[tm]at hq;split at hq
  ·rename_i hb;rw[aa2 (ZT hb)];exact⟨s',m',hq,hr'⟩
  ·rename_i hb;rw[aa1 (Ya hb)];exact⟨s',m',hq,hr'⟩
 |_=>exact⟨s',m',hq,hr'⟩
inductive Ev(s:AS):abb->AV->Prop
  |tmp {t:Nat} {x:AV} (h:s.get t=some x):Ev s (.tmp t) x
  |opt {t:Nat} {b:Bool} {x:AV} (h:s.get t=some (.opt b x)) (hb:b=true):Ev s (.tmp t) x
  |const (c:abc):Ev s (.const c) (.v c)
  |func (f:FuncId):Ev s (.func f) (.v (.func (.func f) #[] #[]))
theorem Ev.rep{C:Ctx}{m:Nat->Option Nat}{a:Act}{w:abf}(hr:RelM C s m a w){o:abb}{x:AV}(h:Ev s o x) :
  Rep (Im C.ext s.hp m w) (Sz w) m (a.eval o) x:=by
 cases h with
 |tmp h=>exact(hr.slots _ _ h).2
 | @opt t _ _ h hb =>
  have h2:=(hr.slots _ _ h).2;show Rep _ _ m (a.tmps.getD t undef) x;generalize a.tmps.getD t undef=u at h2;cases h2 with |opt h' _=>exact h' hb
 |const c=>exact .v _
 |func f=>exact .v _
theorem uY{c:abb}{x y:Code}{b:Bool}(hc:Ev s c (.v (.bool b)))(ht:b=true->aR P N x Q s)(hf:b=false->aR P N y Q s) :
  aR P N (.cond c x y) Q s:=by
 intro C m a w n hN hr;have h:=hc.rep hr
 have:a.eval c=.bool b:=by
  generalize a.eval c=v at h;cases h;rfl
 exact wpIn_cond_split this (fun hb=>ht hb C m a w n hN hr) (fun hb=>hf hb C m a w n hN hr)
theorem OT{F:Fence}{n9:Nat}{c:Code}{Q:Exit->Act->abf->Prop}{a:Act}{w:abf}(I:Nat->Act->abf->Prop){n:Nat}(h₀:I n a w)
  (round:∀n a w,I n a w->c.wpIn F n9 P (Exit.then (fun a' w'=>∃n',n'<n/\I n' a' w') Q) a w):(Code.loop c).wpIn F n9 P Q a w:=by
 intro b k cs dZ hb hr
 have key:∀n a w,I n a w->∃e a' w',Q e a' w'/\ArrivesIn (Machine.fenced P F) P (lone (b.atR a (.code c :: .inLoop c::k)) cs w) b k cs e a' w':=by
  intro n
  induction n using Nat.strongRecOn with
  |_ n ih =>
   intro a w hI;obtain⟨e,a₁,w₁,hq,vJ⟩:=round n a w hI b (.inLoop c::k) cs dZ hb hr;cases e with
   |normal =>
    obtain⟨n',hlt,hI₁⟩:=hq;obtain⟨e₂,a₂,w₂,hq₂,harr₂⟩:=ih n' hlt a₁ w₁ hI₁;exact⟨e₂,a₂,w₂,hq₂,.of_steps (StepsIn.trans vJ (.one (fenced_calm hb hr rfl) stepR_inLoop)) harr₂⟩
   |_=>exact⟨_,a₁,w₁,hq,.pass (x:=.inLoop c) rfl (fun _ _=>.inl (by simp)) vJ⟩
 obtain⟨e,a',w',hq,vJ⟩:=key n a w h₀;exact⟨e,a',w',hq,.of_steps (.one (fenced_calm hb hr rfl) stepR_loop) vJ⟩
theorem nc{c:Code}(I:Nat->AS->Prop){n:Nat}{s':AS}(hw:Wk s s')(h₀:I n s')
  (round:∀n s,I n s->∀K:AS->Prop,(∀s1 s2 n',Wk s1 s2->I n' s2->n'<n->K s1)->aR P N c (GB K Q) s):aR P N (.loop c) Q s:=by
 intro C m a w n9 hN hr;obtain⟨m1,aC⟩:=hw C m a w hr;refine OT (fun n a w=>∃s m,I n s/\RelM C s m a w) ⟨s',m1,h₀,aC⟩ ?_;rintro n a w ⟨s,m,hI,hr⟩;refine wpIn_mono (round n s hI (fun s1=>∃s2 n',Wk s1 s2/\I n' s2/\n'<n) (fun s1 s2 n' h1 h2 h3=>⟨s2,n',h1,h2,h3⟩) C m a w n9 hN hr) ?_;rintro e a' w' ⟨s1,m1,hq,aC⟩;cases e with
 |normal =>
  obtain⟨s2,n',h1,h2,h3⟩:=hq;obtain⟨m2,cP⟩:=h1 C m1 a' w' aC;exact⟨n',h3,s2,m2,h2,cP⟩
 |_=>exact⟨s1,m1,hq,aC⟩
theorem ST{id:Nat}{ops:List Oper}(hd:ops.all nd=true)(h:eD P N ops.toArray ops s [] (fun s' _=>Q .normal s')):aR P N (.region id ops.toArray false) Q s:=by
 intro C m a w n hN hr;refine wpIn_region ?_;have:=Sl (C:=C) (n:=n) hN (Q:=fun e a' w'=>∃s' m',Q e s'/\RelM C s' m' a' w') (fun s us m a w hq hr=>⟨s,m,hq,hr⟩) ops 0 s [] m a w (by simp) hd h hr;rw[List.range_eq_range'];simpa using this
theorem KZ{R:Array Oper}{K:AS->List Out->Prop}:∀(ops:List Oper)(s:AS)(us:List Out),eD P N R ops s us K ->
  ∃us',us'.length=ops.length/\K (vw ops.toArray us' s (fun _=>true) ops.length) (us++us') /\
   ∀(i:Nat) o u,ops[i]?=some o->us'[i]?=some u->Step P N R (vw ops.toArray us' s (fun _=>true) i) o u:=by
 intro ops
 induction ops with
 |nil=>intro s us h;exact⟨[],rfl,by simpa[vw,eD]using h,by simp⟩
 |cons o ops ih =>
  intro s us h;obtain⟨u,hs,hn,h⟩:=h;obtain⟨us',h1,h2,h3⟩:=ih _ _ h
  have hv:∀i,vw (o::ops).toArray (u::us') s (fun _=>true) (i+1)=vw ops.toArray us' (s.app o.dst u) (fun _=>true) i:=by
   intro i
   induction i with
   |zero=>simp[vw]
   |succ i ih =>
    rw[vw,ih,vw];simp
  refine⟨u::us',by simp[h1],?_,?_⟩
  ·rw[Z7,hv];simpa using h2
  ·intro i o' u' ho hu;cases i with
   |zero=>simp at ho hu;subst ho;subst hu;simpa[vw]using hs
   |succ i =>
    rw[hv];exact h3 i o' u' (by simpa using ho) (by simpa using hu)
theorem Um{id:Nat}{ops:List Oper}(hd:ops.all nd=true)(hm:P.follows .mixedOrders=true)
  (h:eD P N ops.toArray ops s [] (fun s' us=>chk ops us s=true/\Q .normal s')):aR P N (.region id ops.toArray true) Q s:=by
 intro C m a w n hN hr;obtain⟨us,h1,⟨h2,h3⟩,h4⟩:=KZ ops s [] h;refine wpIn_region_any hm ?_;refine Ri (C:=C) (by simpa using hd) hN (U:=us) (s0:=s) (by simpa using h1) (by simpa using h4) (by simpa using h2) ?_ _ _ (by simp) ?_ ?_ m a _ ?_
 ·intro m a w hr;exact⟨_,m,h3,by simpa using hr⟩
 ·intro i o _ hl;simp only[Z1,ZK]at hl;split at hl <;> simp at hl
 ·exact aaj (List.length_filter_le _ _) (by simp)
 ·have hz:∀n,vw ops.toArray us s (fun i=>(ZF ops.toArray.size false).getD i false) n=s:=by
   intro n
   induction n with
   |zero=>rfl
   |succ n ih =>
    rw[vw,ih]
    have:(ZF ops.toArray.size false).getD n false=false:=by
     simp only[Z1,ZK];split <;> rfl
    rw[this]
  rw[hz];exact hr.drawn _
end Go.Lw
namespace Go.Lw
variable{P:abe}{N:Nat}{R:Array Oper}{s:AS}{pos:String}{after:Array Edge}
theorem ar{o:Oper}{ops:List Oper}{us:List Out}{K:AS->List Out->Prop}{u:Out}(hs:Step P N R s o u)(hn:iI s u)
  (h:eD P N R ops (s.app o.dst u) (us++[u]) K):eD P N R (o::ops) s us K:=⟨u,hs,hn,h⟩
def ae:abb->List Nat
  | .tmp t=>[t]
  |_=>[]
theorem Ev.agree{s':AS}{u:Out}(h:fQ s s' u){o:abb}{x:AV}(he:Ev s o x)(hs:∀t∈ae o,t∈u.rt):Ev s' o x:=by
 cases he with
 |tmp ht=>exact .tmp ((h.1 _ (hs _ (by simp[ae]))).trans ht)
 |opt ht hb=>exact .opt ((h.1 _ (hs _ (by simp[ae]))).trans ht) hb
 |const c=>exact .const c
 |func f=>exact .func f
theorem kM{o:Oper}(hg:o.guard=none)(y:Nat->Option Bool):Region.wanted o y=true:=by simp[Region.wanted,hg]
theorem bA{o:Oper}{d:Nat}{x:AV}{rt rd:List Nat}(hg:o.guard=none)(hd:o.dst=some d)(hN:XU d N=true)
  (h:∀s',fQ s s' ⟨some x,[],rt,rd⟩->∀C m a w,RelM C s' m a w ->
   ∃v,(execOp a.eval o).run P w=.ok (.value v) w/\Rep (Im C.ext s'.hp m w) (Sz w) m v x):Step P N R s o ⟨some x,[],rt,rd⟩:=by
 refine⟨fun s' aj _ C m a w Q next hC hr hnext=>?_⟩;rw[aa2 (kM hg _)];refine qW ?_;obtain⟨v,h1,h2⟩:=h s' aj C m a w hr;rw[Yb]at hN;unfold Oper.wp;rw[h1];simp only[Oper.upon,hd,Act.put];refine hnext m _ _ ?_;have:=hr.put d v (some x) (fun y hy=>by cases hy;exact⟨by have:=hr.nt;omega,h2⟩);simpa[AS.app,hd]using this
theorem L2{d:Nat}{x:abb}{v:AV}{t:abd}(he:Ev s x v)(hN:XU d N=true) :
  Step P N R s ⟨some d,.move x,t,pos,after,none⟩ ⟨some v,[],ae x,[]⟩ :=
 bA rfl rfl hN fun s' aj C m a w hr=>⟨a.eval x,rfl,(he.agree aj (fun _ h=>h)).rep hr⟩
theorem UF{d:Nat}{x:abb}{v:AV}{t:abd}(he:Ev s x v)(hN:XU d N=true) :
  Step P N R s ⟨some d,.assign x,t,pos,after,none⟩ ⟨some v,[],ae x,[]⟩ :=
 bA rfl rfl hN fun s' aj C m a w hr=>⟨a.eval x,rfl,(he.agree aj (fun _ h=>h)).rep hr⟩
def Sub(x y:AV):Prop:=∀g S m v,Rep g S m v x->Rep g S m v y
theorem Sub.nil(sz:Nat)(a:Option Addr)(c:Nat):Sub (.v (.slice a 0 c)) (.lst sz []):=fun g S m v h=>by cases h;exact .lst0 a c sz
theorem oB{d:Nat}{op:Op}{x:abb}{vx y:abc}{t:abd}(he:Ev s x (.v vx))(hN:XU d N=true)
  (h:∀(ρ:abb->abc)(w:abf),ρ x=vx->(execOp ρ ⟨some d,op,t,pos,after,none⟩).run P w=.ok (.value y) w) :
  Step P N R s ⟨some d,op,t,pos,after,none⟩ ⟨some (.v y),[],ae x,[]⟩ :=
 bA rfl rfl hN fun s' aj C m a w hr=>⟨y,h _ _ (by
  have:=(he.agree aj (fun _ h=>h)).rep hr;generalize a.eval x=u at this;cases this;rfl),.v y⟩
theorem gU{d:Nat}{op:Op}{x x':abb}{vx vx' y:abc}{t:abd}(he:Ev s x (.v vx))(he':Ev s x' (.v vx'))
  (hN:XU d N=true)
  (h:∀(ρ:abb->abc)(w:abf),ρ x=vx->ρ x'=vx'->(execOp ρ ⟨some d,op,t,pos,after,none⟩).run P w=.ok (.value y) w) :
  Step P N R s ⟨some d,op,t,pos,after,none⟩ ⟨some (.v y),[],ae x++ae x',[]⟩ :=
 bA rfl rfl hN fun s' aj C m a w hr=>⟨y,h _ _ (by
  have:=(he.agree aj (fun _ h=>ZY.2 (.inl h))).rep hr;generalize a.eval x=u at this;cases this;rfl) (by
  have:=(he'.agree aj (fun _ h=>ZY.2 (.inr h))).rep hr;generalize a.eval x'=u at this;cases this;rfl),.v y⟩
theorem Ts{d:Nat}{x:abb}{b:Bool}{T t:abd}(he:Ev s x (.v (.bool b)))(hN:XU d N=true) :
  Step P N R s ⟨some d,.unOp .not T x,t,pos,after,none⟩ ⟨some (.v (.bool !b)),[],ae x,[]⟩ :=
 oB he hN fun ρ w h=>by simp[execOp,h,Op.unary]
theorem un{d:Nat}{x:abb}{k:IntKind}{n:Int}{T t:abd}(he:Ev s x (.v (.int k n)))(hN:XU d N=true) :
  Step P N R s ⟨some d,.unOp .neg T x,t,pos,after,none⟩ ⟨some (.v (.int k (k.wrap (0-n)))),[],ae x,[]⟩ :=
 oB he hN fun ρ w h=>by simp[execOp,h,Op.unary,Op.intArith]
theorem C1{d:Nat}{x:abb}{k k':IntKind}{n:Int}{S T t:abd}{ts ti:TI}(he:Ev s x (.v (.int k n)))
  (hN:XU d N=true) (hS:ak P S=some ts) (hT:ak P T=some ti) (hk:ti.k=.int k') :
  Step P N R s ⟨some d,.convert S T x,t,pos,after,none⟩ ⟨some (.v (.int k' (k'.wrap n))),[],ae x,[]⟩ :=
 oB he hN fun ρ w h=>by
  obtain⟨d1,h1,-,-,-⟩:=bX hS w;obtain⟨d2,h2,h3,-,-⟩:=bX hT w;obtain rfl:=BA (h3.trans hk);simp[execOp,h,convert,h1,h2,Conv.intToInt]
theorem Mj{d:Nat}{x:abb}{v:abc}{T t:abd}{ti:TI}(he:Ev s x (.v v))(hN:XU d N=true)
  (hT:ak P T=some ti) (hk:(match ti.k with | .int _=>true | .struct=>true | .pointer _=>true | .string=>true |_=>false)=true) :
  Step P N R s ⟨some d,.makeInterface T x,t,pos,after,none⟩ ⟨some (.v (.iface T v)),[],ae x,[]⟩ :=
 oB he hN fun ρ w h=>by
  obtain⟨d2,h2,h3,-,-⟩:=bX hT w
  have:∀ms,d2≠.interface ms:=by
   rintro ms rfl;rw[<- h3]at hk;simp[eE]at hk
  simp only[execOp,h,Instr.makeInterface,abh,h2,abg];cases d2 <;> first |rfl |exact aa8 rfl (this _)
def dV(op:BinOp)(a b:Int):Int:=match op with | .add=>a+b | .sub=>a-b |_=>a*b
theorem Gc{d:Nat}{op:BinOp}{x y:abb}{k:IntKind}{a b:Int}{S T t:abd}
  (hx:Ev s x (.v (.int k a))) (hy:Ev s y (.v (.int k b))) (cQ:(match op with | .add | .sub | .mul=>true |_=>false)=true) (hN:XU d N=true) :
  Step P N R s ⟨some d,.binOp op S x y T,t,pos,after,none⟩ ⟨some (.v (.int k (k.wrap (dV op a b)))),[],ae x++ae y,[]⟩ :=
 gU hx hy hN fun ρ w h1 h2=>by
  cases op <;> simp at cQ <;> simp[execOp,h1,h2,eqGuard,binOp,Op.intArith,dV]
def aa(op:BinOp)(a b:Int):Bool:=match op with
  | .eql=>a==b | .neq=>a != b | .lss=>a<b | .leq=>a<=b | .gtr=>a>b |_=>a>=b
theorem Be{d:Nat}{op:BinOp}{x y:abb}{k:IntKind}{a b:Int}{S T t:abd}
  (hx:Ev s x (.v (.int k a))) (hy:Ev s y (.v (.int k b))) (cQ:(match op with | .eql | .neq | .lss | .leq | .gtr | .geq=>true |_=>false)=true) (hN:XU d N=true) :
  Step P N R s ⟨some d,.binOp op S x y T,t,pos,after,none⟩ ⟨some (.v (.bool (aa op a b))),[],ae x++ae y,[]⟩ :=
 gU hx hy hN fun ρ w h1 h2=>by
  cases op <;> simp at cQ <;> simp[execOp,h1,h2,eqGuard,binOp,Op.intCmp,aa]
theorem Fs{d:Nat}{x y:abb}{k:IntKind}{a b:Int}{S T t:abd}
  (hx:Ev s x (.v (.int k a))) (hy:Ev s y (.v (.int k b))) (hb:b≠0) (hN:XU d N=true) :
  Step P N R s ⟨some d,.binOp .quo S x y T,t,pos,after,none⟩ ⟨some (.v (.int k (k.wrap (a.tdiv b)))),[],ae x++ae y,[]⟩ :=
 gU hx hy hN fun ρ w h1 h2=>by simp[execOp,h1,h2,eqGuard,binOp,Op.intDiv,hb]
theorem G9{d:Nat}{x y:abb}{k:IntKind}{a b:Int}{S T t:abd}
  (hx:Ev s x (.v (.int k a))) (hy:Ev s y (.v (.int k b))) (hb:b≠0) (hN:XU d N=true) :
  Step P N R s ⟨some d,.binOp .rem S x y T,t,pos,after,none⟩ ⟨some (.v (.int k (a.tmod b))),[],ae x++ae y,[]⟩ :=
 gU hx hy hN fun ρ w h1 h2=>by simp[execOp,h1,h2,eqGuard,binOp,Op.intDiv,hb]
theorem Fj{d:Nat}{x y:abb}{k k':IntKind}{a b:Int}{S T t:abd}
  (hx:Ev s x (.v (.int k a))) (hy:Ev s y (.v (.int k' b))) (hb:0<=b) (hN:XU d N=true) :
  Step P N R s ⟨some d,.binOp .shl S x y T,t,pos,after,none⟩ ⟨some (.v (.int k (k.wrap (a*2^(min b.toNat k.bits))))),[],ae x++ae y,[]⟩ :=
 gU hx hy hN fun ρ w h1 h2=>by simp[execOp,h1,h2,eqGuard,binOp,Op.shift,Int.not_lt.2 hb]
theorem B4{d:Nat}{x y:abb}{k k':IntKind}{a b:Int}{S T t:abd}
  (hx:Ev s x (.v (.int k a))) (hy:Ev s y (.v (.int k' b))) (hb:0<=b) (hN:XU d N=true) :
  Step P N R s ⟨some d,.binOp .shr S x y T,t,pos,after,none⟩ ⟨some (.v (.int k (a.fdiv (2^(min b.toNat k.bits))))),[],ae x++ae y,[]⟩ :=
 gU hx hy hN fun ρ w h1 h2=>by simp[execOp,h1,h2,eqGuard,binOp,Op.shift,Int.not_lt.2 hb]
def kS(op:BinOp)(k:IntKind)(a b:Int):Int :=
  let x:=BitVec.ofInt k.bits a
  let y:=BitVec.ofInt k.bits b
  k.wrap ((match op with | .and=>x &&& y | .or=>x ||| y | .xor=>x ^^^ y |_=>x &&& ~~~y).toNat:Int)
theorem Fc{d:Nat}{op:BinOp}{x y:abb}{k:IntKind}{a b:Int}{S T t:abd}
  (hx:Ev s x (.v (.int k a))) (hy:Ev s y (.v (.int k b))) (cQ:(match op with | .and | .or | .xor | .andNot=>true |_=>false)=true) (hN:XU d N=true) :
  Step P N R s ⟨some d,.binOp op S x y T,t,pos,after,none⟩ ⟨some (.v (.int k (kS op k a b))),[],ae x++ae y,[]⟩ :=
 gU hx hy hN fun ρ w h1 h2=>by
  cases op <;> simp at cQ <;> simp[execOp,h1,h2,eqGuard,binOp,Op.intBits,kS]
theorem CZ{d:Nat}{x y:abb}{a b:ByteArray}{S T t:abd}
  (hx:Ev s x (.v (.string a))) (hy:Ev s y (.v (.string b))) (hN:XU d N=true) :
  Step P N R s ⟨some d,.binOp .eql S x y T,t,pos,after,none⟩ ⟨some (.v (.bool (a.toList==b.toList))),[],ae x++ae y,[]⟩ :=
 gU hx hy hN fun ρ w h1 h2=>by simp[execOp,h1,h2,eqGuard,binOp,Op.stringOp]
theorem E2{d:Nat}{x y:abb}{a b:ByteArray}{S T t:abd}
  (hx:Ev s x (.v (.string a))) (hy:Ev s y (.v (.string b))) (hN:XU d N=true) :
  Step P N R s ⟨some d,.binOp .neq S x y T,t,pos,after,none⟩ ⟨some (.v (.bool !(a.toList==b.toList))),[],ae x++ae y,[]⟩ :=
 gU hx hy hN fun ρ w h1 h2=>by simp[execOp,h1,h2,eqGuard,binOp,Op.stringOp]
theorem Bj{S:abd}{w:abf}(h3:(underlying S).run P w=.ok .bool w)(a b:Bool):(Op.equal S (.bool a) (.bool b)).run P w=.ok (a==b) w:=by
 show(Op.equalIn (9999+1) S _ _).run P w=_;rw[Op.equalIn];simp[h3]
theorem Gg{S:abd}{w:abf}{ms:Array (String×abd)}(h3:(underlying S).run P w=.ok (.interface ms) w){v:abc}
  (hv:v=.nilIface\/∃T u,v=.iface T u):(Op.equal S v .nilIface).run P w=.ok (match v with | .nilIface=>true |_=>false) w:=by
 show(Op.equalIn (9999+1) S _ _).run P w=_;rw[Op.equalIn];rcases hv with rfl |⟨T',u,rfl⟩ <;> simp[h3]
theorem TD{d:Nat}{x y:abb}{a b:Bool}{S T t:abd}{ti:TI}
  (hx:Ev s x (.v (.bool a))) (hy:Ev s y (.v (.bool b))) (hS:ak P S=some ti) (hk:ti.k=.bool) (hN:XU d N=true) :
  Step P N R s ⟨some d,.binOp .eql S x y T,t,pos,after,none⟩ ⟨some (.v (.bool (a==b))),[],ae x++ae y,[]⟩ :=
 gU hx hy hN fun ρ w h1 h2=>by
  obtain⟨d2,h3,h4,-,-⟩:=bX hS w;obtain rfl:=GU (h4.trans hk);simp[execOp,h1,h2,eqGuard,binOp,Bj h3]
theorem Pj{d:Nat}{x y:abb}{a b:Bool}{S T t:abd}{ti:TI}
  (hx:Ev s x (.v (.bool a))) (hy:Ev s y (.v (.bool b))) (hS:ak P S=some ti) (hk:ti.k=.bool) (hN:XU d N=true) :
  Step P N R s ⟨some d,.binOp .neq S x y T,t,pos,after,none⟩ ⟨some (.v (.bool (a != b))),[],ae x++ae y,[]⟩ :=
 gU hx hy hN fun ρ w h1 h2=>by
  obtain⟨d2,h3,h4,-,-⟩:=bX hS w;obtain rfl:=GU (h4.trans hk);simp[execOp,h1,h2,eqGuard,binOp,Bj h3,bne]
def eH:abc->Bool
  | .nilIface=>true
  |_=>false
theorem B5{d:Nat}{x:abb}{v:abc}{S T t:abd}{ti:TI}{n:Nat}
  (hx:Ev s x (.v v)) (hv:v=.nilIface\/∃T u,v=.iface T u) (hS:ak P S=some ti) (hk:ti.k=.iface n) (hN:XU d N=true) :
  Step P N R s ⟨some d,.binOp .eql S x (.const .nilIface) T,t,pos,after,none⟩ ⟨some (.v (.bool (eH v))),[],ae x++[],[]⟩ :=
 bA rfl rfl hN fun s' aj C m a w hr=>⟨.bool (eH v),by
  have h:=(hx.agree aj (fun _ h=>ZY.2 (.inl h))).rep hr
  have h1:a.eval x=v:=by
   generalize a.eval x=u at h;cases h;rfl
  have h2:a.eval (.const .nilIface)=.nilIface:=rfl;obtain⟨d2,h3,h4,-,-⟩:=bX hS w;obtain⟨ms,rfl,-⟩:=Dh (h4.trans hk);have h5:=Gg h3 hv;rcases hv with rfl |⟨T',u,rfl⟩ <;> simp[execOp,h1,h2,eqGuard,binOp,h5,eH],.v _⟩
theorem CV{d:Nat}{x:abb}{v:abc}{S T t:abd}{ti:TI}{n:Nat}
  (hx:Ev s x (.v v)) (hv:v=.nilIface\/∃T u,v=.iface T u) (hS:ak P S=some ti) (hk:ti.k=.iface n) (hN:XU d N=true) :
  Step P N R s ⟨some d,.binOp .neq S x (.const .nilIface) T,t,pos,after,none⟩ ⟨some (.v (.bool !(eH v))),[],ae x++[],[]⟩ :=
 bA rfl rfl hN fun s' aj C m a w hr=>⟨.bool !(eH v),by
  have h:=(hx.agree aj (fun _ h=>ZY.2 (.inl h))).rep hr
  have h1:a.eval x=v:=by
   generalize a.eval x=u at h;cases h;rfl
  have h2:a.eval (.const .nilIface)=.nilIface:=rfl;obtain⟨d2,h3,h4,-,-⟩:=bX hS w;obtain⟨ms,rfl,-⟩:=Dh (h4.trans hk);have h5:=Gg h3 hv;rcases hv with rfl |⟨T',u,rfl⟩ <;> simp[execOp,h1,h2,eqGuard,binOp,h5,eH],.v _⟩
theorem k6{d:Nat}{x:abb}{sz:Nat}{es:List AV}{T t:abd}{ti:TI}{e:Nat}
  (hx:Ev s x (.lst sz es)) (hT:ak P T=some ti) (hk:ti.k=.slice e) (hN:XU d N=true) :
  Step P N R s ⟨some d,.call ⟨.builtin .len,#[x],#[T]⟩,t,pos,after,none⟩ ⟨some (.v (.int .i64 es.length)),[],ae x,[]⟩ :=
 bA rfl rfl hN fun s' aj C m a w hr=>⟨.int .i64 es.length,by
  have h:=(hx.agree aj (fun _ h=>h)).rep hr;obtain⟨d2,h3,h4,-,-⟩:=bX hT w;obtain rfl:=eZ (h4.trans hk);generalize hu:a.eval x=u at h;cases h <;> simp[execOp,resolve,hu,invoke,builtin,Builtin.len_,h3,goInt],.v _⟩
theorem P1{d:Nat}{x:abb}{k sz off len:Nat}{T t:abd}{ti:TI}{e:Nat}
  (hx:Ev s x (.ms k sz off len)) (hT:ak P T=some ti) (hk:ti.k=.slice e) (hN:XU d N=true) :
  Step P N R s ⟨some d,.call ⟨.builtin .len,#[x],#[T]⟩,t,pos,after,none⟩ ⟨some (.v (.int .i64 len)),[],ae x,[]⟩ :=
 bA rfl rfl hN fun s' aj C m a w hr=>⟨.int .i64 len,by
  have h:=(hx.agree aj (fun _ h=>h)).rep hr;obtain⟨d2,h3,h4,-,-⟩:=bX hT w;obtain rfl:=eZ (h4.trans hk);generalize hu:a.eval x=u at h;cases h <;> simp[execOp,resolve,hu,invoke,builtin,Builtin.len_,h3,goInt],.v _⟩
theorem SC{d:Nat}{x:abb}{b:ByteArray}{T t:abd}{ti:TI}
  (hx:Ev s x (.v (.string b))) (hT:ak P T=some ti) (hk:ti.k=.string) (hN:XU d N=true) :
  Step P N R s ⟨some d,.call ⟨.builtin .len,#[x],#[T]⟩,t,pos,after,none⟩ ⟨some (.v (.int .i64 b.size)),[],ae x,[]⟩ :=
 oB hx hN fun ρ w h=>by
  obtain⟨d2,h3,h4,-,-⟩:=bX hT w;obtain rfl:=A7 (h4.trans hk);simp[execOp,resolve,h,invoke,builtin,Builtin.len_,h3,goInt]
theorem Ks{d:Nat}{x:abb}{a:Option Addr}{n c:Nat}{T t:abd}{ti:TI}{e:Nat}
  (hx:Ev s x (.v (.slice a n c))) (hT:ak P T=some ti) (hk:ti.k=.slice e) (hN:XU d N=true) :
  Step P N R s ⟨some d,.call ⟨.builtin .len,#[x],#[T]⟩,t,pos,after,none⟩ ⟨some (.v (.int .i64 n)),[],ae x,[]⟩ :=
 oB hx hN fun ρ w h=>by
  obtain⟨d2,h3,h4,-,-⟩:=bX hT w;obtain rfl:=eZ (h4.trans hk);simp[execOp,resolve,h,invoke,builtin,Builtin.len_,h3,goInt]
theorem qo{d:Nat}{x y:abb}{a b:Int}{k:IntKind}{T T' t:abd}
  (hx:Ev s x (.v (.int k a))) (hy:Ev s y (.v (.int k b))) (hN:XU d N=true) :
  Step P N R s ⟨some d,.call ⟨.builtin .max,#[x,y],#[T,T']⟩,t,pos,after,none⟩ ⟨some (.v (.int k (max a b))),[],ae x++ae y,[]⟩ :=
 gU hx hy hN fun ρ w h1 h2=>by
  have:(if b>a then b else a)=max a b:=by split <;> omega
  simp[execOp,resolve,h1,h2,invoke,builtin,Builtin.max_,Builtin.max2,this]
theorem U4{d:Nat}{x:abb}{xs:List AV}{i:Nat}{y:AV}{t:abd}
  (hx:Ev s x (.tup xs)) (hy:xs[i]?=some y) (hN:XU d N=true) :
  Step P N R s ⟨some d,.extract x i,t,pos,after,none⟩ ⟨some y,[],ae x,[]⟩ :=
 bA rfl rfl hN fun s' aj C m a w hr=>by
  have h:=(hx.agree aj (fun _ h=>h)).rep hr;generalize hu:a.eval x=u at h;cases h with
  | @tup _ vs _ hn aE =>
   have hi:i<vs.size:=by
    rw[hn];rcases Z2 i xs.length with h |h
    ·exact h
    ·rw[Z5 h]at hy;cases hy
   exact⟨vs[i],by simp[execOp,hu,Instr.extract,hi],aE i _ y (by simp[hi]) hy⟩
theorem xb{d:Nat}{c x y:abb}{b bx bz:Bool}{t:abd}(hc:Ev s c (.v (.bool b)))
  (hx:b=true->Ev s x (.v (.bool bx))) (hy:b=false->Ev s y (.v (.bool bz))) (hN:XU d N=true) :
  Step P N R s ⟨some d,.pick c x y,t,pos,after,none⟩ ⟨some (.v (.bool (cond b bx bz))),[],ae c++(ae x++ae y),[]⟩ :=
 bA rfl rfl hN fun s' aj C m a w hr=>by
  have eN:∀(o:abb)(z:Bool),(∀t∈ae o,t∈ae c++(ae x++ae y))->Ev s o (.v (.bool z))->a.eval o=.bool z:=by
   intro o z ka h;have:=(h.agree aj ka).rep hr;generalize a.eval o=u at this;cases this;rfl
  have h1:=eN c b (fun t h=>by simp[h]) hc;cases b with
  |true=>exact⟨.bool bx,by simp[execOp,h1,asBool,eN x bx (fun t h=>by simp[h]) (hx rfl)],.v _⟩
  |false=>exact⟨.bool bz,by simp[execOp,h1,asBool,eN y bz (fun t h=>by simp[h]) (hy rfl)],.v _⟩
theorem bB{d j g:Nat}{op:Op}{t:abd}{want b:Bool}{x:AV}{rt rd:List Nat}
  (hj:(R[j]?).bind (·.dst)=some g) (hb:s.get g=some (.v (.bool b))) (hN:XU d N=true)
  (h:b=want->Step P N R s ⟨some d,op,t,pos,after,none⟩ ⟨some x,[],rt,rd⟩) :
  Step P N R s ⟨some d,op,t,pos,after,some (j,want)⟩ ⟨some (.opt (b==want) x),[],g::rt,rd⟩:=by
 refine⟨fun s' aj ba C m a w Q next hC hr hnext=>?_⟩;have hg:=hr.slots g _ ((aj.1 g (by simp)).trans hb)
 have lh:a.tmps[g]?=some (.bool b):=by
  obtain⟨h1,h2⟩:=hg;generalize hu:a.tmps.getD g undef=u at h2;cases h2;simp only[Z1]at hu;rw[ZC h1]at hu ⊢;simpa using hu
 have hy:yielded R a.tmps j=some b:=by simp[yielded,hj,lh]
 have hd:d<a.tmps.size:=by rw[Yb]at hN;have:=hr.nt;omega
 by_cases iT:b=want
 ·subst iT;have ch:Region.wanted ⟨some d,op,t,pos,after,some (j,b)⟩ (yielded R a.tmps) = true:=by simp [Region.wanted,hy]
  rw[aa2 ch];have:=(h rfl).run s' ⟨fun t ht=>aj.1 t (by simp[show t∈rt from ht]),aj.2⟩ (fun k hk=>by cases hk) C m a w Q next hC hr (fun m' a' w' h'=>hnext m' a' w' ?_)
  ·rw[aa2 (kM rfl _)]at this;exact this
  ·refine⟨fun t y hy=>?_,h'.heap,h'.frame,h'.new,h'.keep,h'.defers,h'.nt⟩;simp only[eK]at hy;split at hy
   ·rename_i jr;cases hy;have:=h'.slots t x (by simp only[eK,aa2 jr]);exact⟨this.1,.opt (fun _=>this.2) (fun h=>by simp at h)⟩
   ·rename_i jr;exact h'.slots t y (by simp only[eK,aa1 jr];exact hy)
 ·have ch : ¬ Region.wanted ⟨some d, op, t, pos, after, some (j, want)⟩ (yielded R a.tmps) = true := by simp [Region.wanted, hy, iT]
  rw[aa1 ch];have:=hr.put d undef (some (.opt (b==want) x)) (fun y hy=>by cases hy;exact⟨hd,.opt (fun h=>aa8 (beq_iff_eq.1 h) iT) (fun _=>rfl)⟩);refine hnext m _ _ ?_;simpa[AS.app,Act.put]using this
theorem nF{d j g:Nat}{op:Op}{t:abd}{want b c:Bool}{x:AV}{rt rd:List Nat}
  (hj:(R[j]?).bind (·.dst)=some g) (hb:s.get g=some (.opt c (.v (.bool b)))) (hN:XU d N=true)
  (h:c=true->b=want->Step P N R s ⟨some d,op,t,pos,after,none⟩ ⟨some x,[],rt,rd⟩) :
  Step P N R s ⟨some d,op,t,pos,after,some (j,want)⟩ ⟨some (.opt (c&&b==want) x),[],g::rt,rd⟩:=by
 refine⟨fun s' aj ba C m a w Q next hC hr hnext=>?_⟩;have hg:=hr.slots g _ ((aj.1 g (by simp)).trans hb);have hd:d<a.tmps.size:=by rw[Yb]at hN;have:=hr.nt;omega
 have lh:(c=true/\a.tmps[g]?=some (.bool b))\/(c=false/\a.tmps[g]?=some undef):=by
  obtain⟨h1,h2⟩:=hg;generalize hu:a.tmps.getD g undef=u at h2;simp only[Z1]at hu;rw[ZC h1]at hu ⊢;simp only[ZO]at hu;cases h2 with
  |opt h2 h2' =>
   cases c with
   |true=>have:=h2 rfl;cases this;exact .inl ⟨rfl,by rw[hu]⟩
   |false=>exact .inr ⟨rfl,by rw[hu,h2' rfl]⟩
 have fY:∀ch:¬Region.wanted ⟨some d,op,t,pos,after,some (j,want)⟩ (yielded R a.tmps)=true,(c&&b==want)=false ->
   if Region.wanted ⟨some d,op,t,pos,after,some (j,want)⟩ (yielded R a.tmps)then wq P ⟨some d,op,t,pos,after,some (j,want)⟩ a w next Q
    else next (a.put (some d) undef) w:=by
  intro ch hc;rw[aa1 ch];have:=hr.put d undef (some (.opt (c&&b==want) x)) (fun y hy=>by cases hy;exact⟨hd,.opt (fun h=>by rw[hc]at h;cases h) (fun _=>rfl)⟩);refine hnext m _ _ ?_;simpa[AS.app,Act.put]using this
 rcases lh with⟨rfl,lh⟩ |⟨rfl,lh⟩
 ·have hy : yielded R a.tmps j = some b := by simp [yielded, hj, lh]
  by_cases iT:b=want
  ·subst iT;have ch:Region.wanted ⟨some d,op,t,pos,after,some (j,b)⟩ (yielded R a.tmps) = true:=by simp [Region.wanted,hy]
   rw[aa2 ch];have:=(h rfl rfl).run s' ⟨fun t ht=>aj.1 t (by simp[show t∈rt from ht]),aj.2⟩ (fun k hk=>by cases hk) C m a w Q next hC hr (fun m' a' w' h'=>hnext m' a' w' ?_)
   ·rw[aa2 (kM rfl _)]at this;exact this
   ·refine⟨fun t y hy=>?_,h'.heap,h'.frame,h'.new,h'.keep,h'.defers,h'.nt⟩;simp only[eK]at hy;split at hy
    ·rename_i jr;cases hy;have:=h'.slots t x (by simp only[eK,aa2 jr]);exact⟨this.1,.opt (fun _=>this.2) (fun h=>by simp at h)⟩
    ·rename_i jr;exact h'.slots t y (by simp only[eK,aa1 jr];exact hy)
  ·exact fY (by simp[Region.wanted,hy,iT]) (by simp[iT])
 ·have hy : yielded R a.tmps j = none := by simp [yielded, hj, lh, undef]
  exact fY (by simp[Region.wanted,hy]) rfl
end Go.Lw
namespace Go.Lw
variable{P:abe}{N:Nat}{R:Array Oper}{s:AS}{pos:String}{after:Array Edge}
def AV.ok:AV->Bool
  | .agg _=>true
  |x=>x.one
theorem AV.ok_spec{x:AV}(h:x.ok=true):(∃cs,x=.agg cs)\/x.one=true:=by
 cases x <;> simp_all [AV.ok]
theorem pw{C:Ctx}{m:Nat->Option Nat}{a:Act}{w:abf}(hr:RelM C s m a w){x:abb}{k off:Nat}(hx:Ev s x (.ptr k off)) :
  ∃b,m k=some b/\a.eval x=.pointer (some ⟨b,off,none⟩):=by
 have h:=hx.rep hr;generalize a.eval x=u at h;cases h with |ptr hm=>exact⟨_,hm,rfl⟩
theorem uE{C:Ctx}{m:Nat->Option Nat}{a:Act}{w:abf}(hr:RelM C s m a w){x:abb}{k sz i off:Nat}(hx:Ev s x (.eptr k sz i off)) :
  ∃b,m k=some b/\a.eval x=.pointer (some ⟨b,i*sz+off,none⟩):=by
 have h:=hx.rep hr;generalize a.eval x=u at h;cases h with |eptr hm=>exact⟨_,hm,rfl⟩
theorem kR{C:Ctx}{m:Nat->Option Nat}{a:Act}{w:abf}(hr:RelM C s m a w){x:abb}{v:abc}(hx:Ev s x (.v v)):a.eval x=v:=by
 have h:=hx.rep hr;generalize a.eval x=u at h;cases h;rfl
theorem ua{ext:Nat->Prop}{hp:Hp}{m:Nat->Option Nat}{w:abf}(h:HeapRel ext hp m w){k b:Nat}{cs:List AV}(hk:lk hp k=some (.box cs))(hm:m k=some b) :
  ∃c t,w.heap[b]?=some (.cells c t (0,0))/\c.size=cs.length/\(∀(j:Nat)(x:AV),cs[j]?=some x->x.one=true) /\
   ∀(j:Nat)(u:abc)(x:AV),c[j]?=some u->cs[j]?=some x->Rep (Im ext hp m w) (Sz w) m u x:=by
 have:=h.blk k _ hk;rw[hm]at this;cases this with |box hw hn h1 hr=>exact⟨_,_,hw,hn,h1,hr⟩
theorem q8{ext:Nat->Prop}{hp:Hp}{m:Nat->Option Nat}{w:abf}(h:HeapRel ext hp m w){k b sz:Nat}{es:List AV}(hk:lk hp k=some (.row sz es))(hm:m k=some b) :
  ∃c t,w.heap[b]?=some (.cells c t (0,0))/\es.length*sz<=c.size/\es.length<=an/\(∀(i:Nat)(e:AV),es[i]?=some e->e.cells.length=sz) /\
   (∀(i j:Nat)(e x:AV),es[i]?=some e->e.cells[j]?=some x->x.one=true) /\
   ∀(i j:Nat)(e:AV)(u:abc)(x:AV),es[i]?=some e->e.cells[j]?=some x->c[i*sz+j]?=some u->Rep (Im ext hp m w) (Sz w) bK u x:=by
 have:=h.blk k _ hk;rw[hm]at this;cases this with |row hw hn hl hs h1 hr=>exact⟨_,_,hw,hn,hl,hs,h1,hr⟩
theorem Jq{d:Nat}{x:abb}{k off:Nat}{cs:List AV}{T t:abd}{ti:TI}
  (hx:Ev s x (.ptr k off)) (hk:s.blk k=some (.box cs)) (hT:ak P T=some ti) (aU:Nat.ble (off+ti.size) cs.length=true)
  (h1:(ti.ag||XK ti.size 1)=true) (hN:XU d N=true) :
  Step P N R s ⟨some d,.load T x,t,pos,after,none⟩ ⟨some (ik ti.ag ((cs.drop off).take ti.size)),[],ae x,[k]⟩ :=
 bA rfl rfl hN fun s' aj C m a w hr=>by
  rw[XS]at aU;have h1:ti.ag=true\/ti.size=1:=by simpa using h1
  obtain⟨b,hm,hv⟩:=pw hr (hx.agree aj (fun _ h=>h));obtain⟨c,t,hw,hn,ho,aE⟩:=ua hr.heap ((aj.2 k (by simp)).trans hk) hm;refine⟨_,?_,tp (c:=c) (off:=off) (n:=ti.size) (by simp;omega) oz h1 ?_ ?_⟩
  ·simp[execOp,Instr.loadAt,hv,Instr.sureAddr,vD hT hw (by omega:off+ti.size<=c.size) h1]
  ·intro j y hy;rw[aak]at hy;split at hy
   ·rw[aar]at hy;exact ho _ y hy
   ·cases hy
  ·intro j u y hy hu;rw[aak]at hy;split at hy
   ·rw[aar]at hy;exact aE _ u y hu hy
   ·cases hy
theorem Gx{g:Nat->Array abc->Prop}{S:Nat->Nat->Prop}{m:Nat->Option Nat}{u:abc}{x:AV}(h:Rep g S bK u x):Rep g S m u x :=
 h.mono (fun _ _ h=>h) (fun _ _ h=>h) (fun k b _ hb=>by cases hb)
theorem RV{g:Nat->Array abc->Prop}{S:Nat->Nat->Prop}{m:Nat->Option Nat}{u:abc}{x:AV}(h:Rep g S m u x)(hx:x.nm=[]):Rep g S bK u x :=
 h.mono (fun _ _ h=>h) (fun _ _ h=>h) (fun k b hk _=>by have:=hk.mem;rw[hx]at this;cases this)
theorem kv{i n sz:Nat}(h:i<n):i*sz+sz<=n*sz:=by
 have:=aad sz (show i+1<=n from h);rw[XD]at this;exact this
theorem ay{d:Nat}{x:abb}{k sz i off:Nat}{es:List AV}{e:AV}{T t:abd}{ti:TI}
  (hx:Ev s x (.eptr k sz i off)) (hk:s.blk k=some (.row sz es)) (he:es[i]?=some e) (hT:ak P T=some ti) (aU:Nat.ble (off+ti.size) e.cells.length=true)
  (h1:(ti.ag||XK ti.size 1)=true) (hN:XU d N=true) :
  Step P N R s ⟨some d,.load T x,t,pos,after,none⟩ ⟨some (ik ti.ag ((e.cells.drop off).take ti.size)),[],ae x,[k]⟩ :=
 bA rfl rfl hN fun s' aj C m a w hr=>by
  rw[XS]at aU;have h1:ti.ag=true\/ti.size=1:=by simpa using h1
  obtain⟨b,hm,hv⟩:=uE hr (hx.agree aj (fun _ h=>h));obtain⟨c,t,hw,hn,hl,hs,ho,aE⟩:=q8 hr.heap ((aj.2 k (by simp)).trans hk) hm
  have hi:i<es.length:=by
   rcases Z2 i es.length with h |h
   ·exact h
   ·rw[Z5 h]at he;cases he
  have hb:=kv (sz:=sz) hi;have gz:=hs i e he;refine⟨_,?_,tp (c:=c) (off:=i*sz+off) (n:=ti.size) (by simp;omega) oz h1 ?_ ?_⟩
  ·simp[execOp,Instr.loadAt,hv,Instr.sureAddr,vD hT hw (by omega:i*sz+off+ti.size<=c.size) h1]
  ·intro j y hy;rw[aak]at hy;split at hy
   ·rw[aar]at hy;exact ho i _ e y he hy
   ·cases hy
  ·intro j u y hy hu;rw[aak]at hy;split at hy
   ·rw[aar]at hy;exact Gx (aE i _ e u y he hy (by rw[<- hu];congr 1;omega))
   ·cases hy
theorem M2{d:Nat}{x:abb}{xs:List AV}{T t:abd}{ti:TI}
  (hx:Ev s x (.iptr xs)) (hT:ak P T=some ti) (aU:(XU 0 ti.size&&Nat.ble ti.size xs.length)=true)
  (h1:(ti.ag||XK ti.size 1)=true) (hN:XU d N=true) :
  Step P N R s ⟨some d,.load T x,t,pos,after,none⟩ ⟨some (ik ti.ag (xs.take ti.size)),[],ae x,[]⟩ :=
 bA rfl rfl hN fun s' aj C m a w hr=>by
  simp only[ZW,XS,Yb]at aU;have h1:ti.ag=true\/ti.size=1:=by simpa using h1
  have h:=(hx.agree aj (fun _ h=>h)).rep hr;generalize hv:a.eval x=u at h;cases h with
  | @iptr _ b off cs _ u hb ho hu aE =>
   obtain⟨_,_,t,f,hw⟩:=hb
   have aA:off+ti.size<=cs.size:=by
    have hlt:ti.size-1<xs.length:=by omega
    have:=hu (ti.size-1) xs[ti.size-1] (by simp[hlt]);rcases Z2 (off+(ti.size-1)) cs.size with h |h
    ·omega
    ·rw[ZE h]at this;cases this
   refine⟨_,?_,tp (c:=cs) (off:=off) (n:=ti.size) (by simp;omega) oz h1 ?_ ?_⟩
   ·simp[execOp,Instr.loadAt,hv,Instr.sureAddr,vD hT hw aA h1]
   ·intro j y hy;rw[aak]at hy;split at hy
    ·exact ho _ y hy
    ·cases hy
   ·intro j u' y hy hu';rw[aak]at hy;split at hy
    ·have:=hu j y hy;rw[hu']at this;cases this
     exact Gx (aE j y hy)
    ·cases hy
theorem z7{T:abd}{ti:TI}{f o n:Nat}(hT:ak P T=some ti)(hk:ti.k=.struct)(hf:ti.fs[f]?=some (o,n))(hn:XU 0 n=true)
  (w:abf) (b off:Nat):(Instr.fieldAt T (.pointer (some ⟨b,off,none⟩)) f).run P w=.ok (.pointer (some ⟨b,off+o,none⟩)) w:=by
 rw[Yb]at hn;obtain⟨d2,h2,h3,h4,-⟩:=bX hT w;obtain⟨fs,rfl⟩:=EK (h3.trans hk);rw[<- h4]at hf;simp only[ph,ZZ,ZX,ZM]at hf;obtain⟨fl,h5,h6⟩:=hf;cases h6;cases hi:P.info? fl.type with
 |none=>rw[hi]at hn;simp at hn
 |some j =>
  rw[hi]at hn;have hj:¬j.size=0:=by simp only at hn;omega
  simp[Instr.fieldAt,h2,h5,Instr.sureAddr,fieldPlace,sizeOf,typeInfo,hi,hj,gx]
theorem Sf{d:Nat}{x:abb}{k off f o n:Nat}{T t:abd}{ti:TI}
  (hx:Ev s x (.ptr k off)) (hT:ak P T=some ti) (hk:ti.k=.struct) (hf:ti.fs[f]?=some (o,n)) (hn:XU 0 n=true) (hN:XU d N=true) :
  Step P N R s ⟨some d,.fieldAddr T x f,t,pos,after,none⟩ ⟨some (.ptr k (off+o)),[],ae x,[]⟩ :=
 bA rfl rfl hN fun s' aj C m a w hr=>by
  obtain⟨b,hm,hv⟩:=pw hr (hx.agree aj (fun _ h=>h));exact⟨_,by simp[execOp,hv,z7 hT hk hf hn],.ptr hm⟩
theorem RF{d:Nat}{x:abb}{k sz i off f o n:Nat}{T t:abd}{ti:TI}
  (hx:Ev s x (.eptr k sz i off)) (hT:ak P T=some ti) (hk:ti.k=.struct) (hf:ti.fs[f]?=some (o,n)) (hn:XU 0 n=true) (hN:XU d N=true) :
  Step P N R s ⟨some d,.fieldAddr T x f,t,pos,after,none⟩ ⟨some (.eptr k sz i (off+o)),[],ae x,[]⟩ :=
 bA rfl rfl hN fun s' aj C m a w hr=>by
  obtain⟨b,hm,hv⟩:=uE hr (hx.agree aj (fun _ h=>h));refine⟨.pointer (some ⟨b,i*sz+(off+o),none⟩),?_,.eptr hm⟩;simp[execOp,hv,z7 hT hk hf hn,XG]
theorem QN{d:Nat}{x:abb}{xs:List AV}{f o n:Nat}{T t:abd}{ti:TI}
  (hx:Ev s x (.iptr xs)) (hT:ak P T=some ti) (hk:ti.k=.struct) (hf:ti.fs[f]?=some (o,n)) (hn:XU 0 n=true) (hN:XU d N=true) :
  Step P N R s ⟨some d,.fieldAddr T x f,t,pos,after,none⟩ ⟨some (.iptr (xs.drop o)),[],ae x,[]⟩ :=
 bA rfl rfl hN fun s' aj C m a w hr=>by
  have h:=(hx.agree aj (fun _ h=>h)).rep hr;generalize hv:a.eval x=u at h;cases h with
  | @iptr _ b off cs _ u hb ho hu aE =>
   refine⟨_,by simp[execOp,hv,z7 hT hk hf hn];rfl,?_⟩;refine .iptr (fun j=>u (o+j)) hb ?_ ?_ ?_
   ·intro j c hc;rw[aar]at hc;exact ho _ c hc
   ·intro j c hc;rw[aar]at hc;rw[XG];exact hu _ c hc
   ·intro j c hc;rw[aar]at hc;exact aE _ c hc
theorem rA{d:Nat}{x ix:abb}{kk:IntKind}{i:Int}{sz:Nat}{es:List AV}{e:AV}{T E t:abd}{ti te:TI}
  (hx:Ev s x (.lst sz es)) (hi:Ev s ix (.v (.int kk i))) (hT:ak P T=some ti) (hk:ti.k=.slice E) (hE:ak P E=some te) (aA:te.size=sz)
  (h0:0<=i) (he:es[i.toNat]?=some e) (hN:XU d N=true) :
  Step P N R s ⟨some d,.indexAddr T x ix,t,pos,after,none⟩ ⟨some (.iptr e.cells),[],ae x++ae ix,[]⟩ :=
 bA rfl rfl hN fun s' aj C m a w hr=>by
  have h:=(hx.agree aj (fun _ h=>ZY.2 (.inl h))).rep hr;have r7:=kR hr (hi.agree aj (fun _ h=>ZY.2 (.inr h)));obtain⟨d2,h2,h3,-,-⟩:=bX hT w;obtain rfl:=eZ (h3.trans hk)
  have hlt:i.toNat<es.length:=by
   rcases Z2 i.toNat es.length with h |h
   ·exact h
   ·rw[Z5 h]at he;cases he
  generalize hv:a.eval x=u at h;cases h with
  |lst0 a cap=>simp at hlt
  | @lst _ b off cap _ _ cs u hb hc hl hs ho hu aE =>
   have ff:0<=i/\i<(es.length:Int):=by omega
   subst aA;refine⟨.pointer (some ⟨b,off+i.toNat*te.size,none⟩),?_,?_⟩
   ·simp[execOp,hv,r7,Instr.indexAt,asIntOf,h2,ff,ef hE,gx]
   ·refine .iptr (fun j=>u i.toNat j) hb (fun j c hc=>ho i.toNat j e c he hc) (fun j c hc=>hu i.toNat j e c he hc) (fun j c hc=>aE i.toNat j e c he hc)
theorem G6{d:Nat}{x ix:abb}{kk:IntKind}{i:Int}{k sz off len:Nat}{T E t:abd}{ti te:TI}
  (hx:Ev s x (.ms k sz off len)) (hi:Ev s ix (.v (.int kk i))) (hT:ak P T=some ti) (hk:ti.k=.slice E) (hE:ak P E=some te) (aA:te.size=sz)
  (h0:0<=i) (he:i<(len:Int)) (hN:XU d N=true) :
  Step P N R s ⟨some d,.indexAddr T x ix,t,pos,after,none⟩ ⟨some (.eptr k sz (off+i.toNat) 0),[],ae x++ae ix,[]⟩ :=
 bA rfl rfl hN fun s' aj C m a w hr=>by
  have h:=(hx.agree aj (fun _ h=>ZY.2 (.inl h))).rep hr;have r7:=kR hr (hi.agree aj (fun _ h=>ZY.2 (.inr h)));obtain⟨d2,h2,h3,-,-⟩:=bX hT w;obtain rfl:=eZ (h3.trans hk);generalize hv:a.eval x=u at h;cases h with
  |ms0=>simp at he;omega
  | @ms _ _ _ _ _ cap b hm hc hS =>
   subst aA;refine⟨.pointer (some ⟨b,(off+i.toNat)*te.size+0,none⟩),?_,.eptr hm⟩;simp[execOp,hv,r7,Instr.indexAt,asIntOf,h2,h0,he,ef hE,gx,XN]
theorem tR{d:Nat}{x ix:abb}{kk:IntKind}{i:Int}{b:ByteArray}{T t:abd}{ti:TI}
  (hx:Ev s x (.v (.string b))) (hi:Ev s ix (.v (.int kk i))) (hT:ak P T=some ti) (hk:ti.k=.string)
  (h0:0<=i) (he:i<(b.size:Int)) (hN:XU d N=true) :
  Step P N R s ⟨some d,.index T x ix,t,pos,after,none⟩ ⟨some (.v (.int .u8 (b.data.getD i.toNat 0).toNat)),[],ae x++ae ix,[]⟩ :=
 gU hx hi hN fun ρ w h1 h2=>by
  obtain⟨d2,h3,h4,-,-⟩:=bX hT w;obtain rfl:=A7 (h4.trans hk);have hlt:i.toNat<b.size:=by omega
  have:b[i.toNat]?=some (b.data.getD i.toNat 0):=by
   rw[getElem?_pos b i.toNat hlt,Z1,ZC (show i.toNat<b.data.size from hlt)];rfl
  simp[execOp,h1,h2,Instr.index,asIntOf,h3,h0,this]
inductive EvI(s:AS):Option abb->Nat->Nat->Prop
  |none (d:Nat):EvI s none d d
  |some {x:abb} {k:IntKind} {i:Int} (d:Nat) (h:Ev s x (.v (.int k i))) (h0:0<=i):EvI s (some x) d i.toNat
def ic:Option abb->List Nat
  |some x=>ae x
  |none=>[]
theorem EvI.agree{s':AS}{u:Out}(h:fQ s s' u){o:Option abb}{d n:Nat}(he:EvI s o d n)(hs:∀t∈ic o,t∈u.rt):EvI s' o d n:=by
 cases he with
 |none=>exact .none _
 |some d h' h0=>exact .some d (h'.agree h hs) h0
theorem EvI.bound{C:Ctx}{m:Nat->Option Nat}{a:Act}{w:abf}(hr:RelM C s m a w){x:abb}{d n y:Nat}(h:EvI s (Option.some x) d n)(hy:n<=y)(code:BoundsCode) :
  (Instr.sliceBound (a.eval x) y code).run P w=.ok n w:=by
 cases h with
 | @some _ k i _ h h0 =>
  have:=kR hr h;have:0<=i/\i<=(y:Int):=by omega
  simp[Instr.sliceBound,asIntOf,kR hr h,this]
theorem p9{C:Ctx}{m:Nat->Option Nat}{a:Act}{w:abf}(hr:RelM C s m a w){lo hi:Option abb}{l h len cap:Nat}(isS:Bool)
  (hl:EvI s lo 0 l) (hh:EvI s hi len h) (h1:l<=h) (h2:h<=cap) :
  (Instr.sliceBounds isS len cap (lo.map a.eval) (hi.map a.eval) none).run P w=.ok (l,h,cap) w:=by
 cases hi with
 |none =>
  cases hh;cases lo with
  |none=>cases hl;simp[Instr.sliceBounds]
  |some x=>simp[Instr.sliceBounds,hl.bound hr h1]
 |some y =>
  cases lo with
  |none=>cases hl;simp[Instr.sliceBounds,hh.bound hr h2]
  |some x=>simp[Instr.sliceBounds,hl.bound hr h1,hh.bound hr h2]
theorem d6{d:Nat}{x:abb}{lo hi:Option abb}{l h sz:Nat}{es:List AV}{T E t:abd}{ti te:TI}
  (hx:Ev s x (.lst sz es)) (hl:EvI s lo 0 l) (hh:EvI s hi es.length h) (hT:ak P T=some ti) (hk:ti.k=.slice E) (hE:ak P E=some te) (aA:te.size=sz)
  (h1:l<=h) (h2:h<=es.length) (hN:XU d N=true) :
  Step P N R s ⟨some d,.slice T x lo hi none,t,pos,after,none⟩ ⟨some (.lst sz ((es.drop l).take (h-l))),[],ae x++(ic lo++ic hi),[]⟩ :=
 bA rfl rfl hN fun s' aj C m a w hr=>by
  have dl:=(hx.agree aj (fun _ h=>ZY.2 (.inl h))).rep hr;have hl':=hl.agree aj (fun _ h=>ZY.2 (.inr (ZY.2 (.inl h))));have hh':=hh.agree aj (fun _ h=>ZY.2 (.inr (ZY.2 (.inr h))));obtain⟨d2,hu,h3,-,-⟩:=bX hT w;obtain rfl:=eZ (h3.trans hk);subst aA;generalize hv:a.eval x=u at dl;cases dl with
  |lst0 a' cap =>
   have:=p9 (P:=P) hr (cap:=cap) true hl' hh' h1 (by simp at h2;omega);simp at this h2;have Ie:l=0:=by omega
   refine⟨.slice (if cap=l then a' else a'.map (·.add (l*te.size))) (h-l) (cap-l),?_,?_⟩
   ·simp[execOp,hv,Instr.sliceAt,hu,Instr.slice,this,ef hE]
   ·simp[h2];exact .lst0 _ _ _
  | @lst _ b off cap _ _ cs u hb hc lr hs ho hu' aE =>
   have:=p9 (P:=P) hr (cap:=cap) true hl' hh' h1 oz;refine⟨.slice (if cap=l then some ⟨b,off,none⟩else some ⟨b,off+l*te.size,none⟩) (h-l) (cap-l),?_,?_⟩
   ·simp[execOp,hv,Instr.sliceAt,hu,Instr.slice,this,ef hE,gx]
   ·by_cases U9:l=h
    ·subst U9;simp;exact .lst0 _ _ _
    ·have az : ¬ cap = l := by omega
     rw[aa1 az];have a6:((es.drop l).take (h-l)).length=h-l:=by simp;omega
     have cD:∀(i:Nat)(e:AV),((es.drop l).take (h-l))[i]?=some e->es[l+i]?=some e:=by
      intro i e he;rw[aak]at he;split at he
      ·rwa [aar]at he
      ·cases he
     have:=Rep.lst (g:=Im C.ext s'.hp m w) (S:=Sz w) (m:=m) (b:=b) (off:=off+l*te.size) (cap:=cap-l) (sz:=te.size) (es:=(es.drop l).take (h-l)) (cs:=cs)
      (fun i j=>u (l+i) j) hb oz oz (fun i e he=>hs _ e (cD i e he)) (fun i j e c he hc=>ho _ j e c (cD i e he) hc)
      (fun i j e c he hc=>by rw[<- hu' (l+i) j e c (cD i e he) hc];congr 1;rw[XN];omega) (fun i j e c he hc=>aE _ j e c (cD i e he) hc)
     rwa [a6]at this
theorem od{d:Nat}{x:abb}{lo hi:Option abb}{l h k sz off len:Nat}{T E t:abd}{ti te:TI}
  (hx:Ev s x (.ms k sz off len)) (hl:EvI s lo 0 l) (hh:EvI s hi len h) (hT:ak P T=some ti) (hk:ti.k=.slice E) (hE:ak P E=some te) (aA:te.size=sz)
  (h1:l<=h) (h2:h<=len) (hN:XU d N=true) :
  Step P N R s ⟨some d,.slice T x lo hi none,t,pos,after,none⟩ ⟨some (.ms k sz (off+l) (h-l)),[],ae x++(ic lo++ic hi),[]⟩ :=
 bA rfl rfl hN fun s' aj C m a w hr=>by
  have dl:=(hx.agree aj (fun _ h=>ZY.2 (.inl h))).rep hr;have hl':=hl.agree aj (fun _ h=>ZY.2 (.inr (ZY.2 (.inl h))));have hh':=hh.agree aj (fun _ h=>ZY.2 (.inr (ZY.2 (.inr h))));obtain⟨d2,hu,h3,-,-⟩:=bX hT w;obtain rfl:=eZ (h3.trans hk);subst aA;generalize hv:a.eval x=u at dl;cases dl with
  |ms0 a' =>
   have:=p9 (P:=P) hr (cap:=0) true hl' hh' h1 oz;have Ie:l=0:=by omega
   have Va:h=0:=by omega
   subst Ie;subst Va
   exact⟨.slice a' 0 0,by simp[execOp,hv,Instr.sliceAt,hu,Instr.slice,this,ef hE],.ms0 _ _ _ _⟩
  | @ms _ _ _ _ _ cap b hm hc hS =>
   have:=p9 (P:=P) hr (cap:=cap) true hl' hh' h1 oz;refine⟨.slice (if cap=l then some ⟨b,off*te.size,none⟩else some ⟨b,off*te.size+l*te.size,none⟩) (h-l) (cap-l),?_,?_⟩
   ·simp[execOp,hv,Instr.sliceAt,hu,Instr.slice,this,ef hE,gx]
   ·by_cases dY:cap=l
    ·subst dY;have:h - cap = 0:=by omega
     rw[this,Nat.sub_self];exact .ms0 _ _ _ _
    ·rw[aa1 dY,<- XN];exact .ms hm oz (by rw[show off+l+(cap-l)=off+cap by omega];exact hS)
theorem Od{d:Nat}{x:abb}{k off:Nat}{t:abd}(hx:Ev s x (.ptr k off))(hN:XU d N=true) :
  Step P N R s ⟨some d,.nilCheck x,t,pos,after,none⟩ ⟨some (.ptr k off),[],ae x,[]⟩ :=
 bA rfl rfl hN fun s' aj C m a w hr=>by
  obtain⟨b,hm,hv⟩:=pw hr (hx.agree aj (fun _ h=>h));exact⟨_,by simp[execOp,hv],.ptr hm⟩
inductive EvL(s:AS):List abb->List AV->Prop
  |nil:EvL s [] []
  |cons {o:abb} {x:AV} {os:List abb} {xs:List AV} (h:Ev s o x) (hs:EvL s os xs):EvL s (o::os) (x::xs)
theorem gn{s:AS}{t:Nat}{x:AV}(h:s.get t=some x):EvL s [.tmp t] [x]:=.cons (.tmp h) .nil
theorem fJ{s:AS}{t u:Nat}{x y:AV}(h:s.get t=some x)(h2:s.get u=some y):EvL s [.tmp t,.tmp u] [x,y]:=.cons (.tmp h) (gn h2)
theorem xP{s:AS}{t u v:Nat}{x y z:AV}(h:s.get t=some x)(h2:s.get u=some y)(h3:s.get v=some z):EvL s [.tmp t,.tmp u,.tmp v] [x,y,z]:=.cons (.tmp h) (fJ h2 h3)
def bO:List abb->List Nat
  |[]=>[]
  |o::os=>ae o++bO os
theorem EvL.agree{s':AS}{u:Out}(h:fQ s s' u){os:List abb}{xs:List AV}(he:EvL s os xs)(hs:∀t∈bO os,t∈u.rt):EvL s' os xs:=by
 induction he with
 |nil=>exact .nil
 |cons h1 _ ih=>exact .cons (h1.agree h (fun t ht=>hs t (by simp[bO,ht]))) (ih (fun t ht=>hs t (by simp[bO,ht])))
theorem EvL.length{os:List abb}{xs:List AV}(he:EvL s os xs):os.length=xs.length:=by
 induction he with
 |nil=>rfl
 |cons _ _ ih=>simp[ih]
theorem EvL.rep{C:Ctx}{m:Nat->Option Nat}{a:Act}{w:abf}(hr:RelM C s m a w){os:List abb}{xs:List AV}(he:EvL s os xs) :
  ∀(j:Nat)(v:abc)(x:AV),(os.map a.eval)[j]?=some v->xs[j]?=some x->Rep (Im C.ext s.hp m w) (Sz w) m v x:=by
 induction he with
 |nil=>intro j v x h;simp at h
 |cons h1 _ ih =>
  intro j v x hv hx;cases j with
  |zero=>simp at hv hx;subst hv;subst hx;exact h1.rep hr
  |succ j=>exact ih j v x (by simpa using hv) (by simpa using hx)
theorem Rm{d:Nat}{x:abb}{xs:List AV}{t:abd}(hx:Ev s x (.iptr xs))(hN:XU d N=true) :
  Step P N R s ⟨some d,.nilCheck x,t,pos,after,none⟩ ⟨some (.iptr xs),[],ae x,[]⟩ :=
 bA rfl rfl hN fun s' aj C m a w hr=>by
  have h:=(hx.agree aj (fun _ h=>h)).rep hr;generalize hu:a.eval x=u at h;cases h with
  |iptr u' hb ho hv aE=>exact⟨_,by simp[execOp,hu],.iptr u' hb ho hv aE⟩
theorem Ul{d f:Nat}{pre:Array abb}{xs:List AV}{t:abd}(hx:EvL s pre.toList xs)(hnm:(xs.all fun x=>x.nm.isEmpty)=true)(hN:XU d N=true) :
  Step P N R s ⟨some d,.makeFunc (.func f) pre #[],t,pos,after,none⟩ ⟨some (.cl f xs []),[],bO pre.toList,[]⟩ :=
 bA rfl rfl hN fun s' aj C m a w hr=>by
  have hl:=hx.agree aj (fun _ h=>h);refine⟨.func (.func f) (pre.map a.eval) #[],by simp[execOp,Instr.makeFunc],.cl ?_ ?_ rfl (fun j u c hu hc=>by simp at hc)⟩
  ·have:=hl.length;simpa using this
  ·intro j u c hu hc
   exact (hl.rep hr j u c (by simpa using hu) hc).mono (fun _ _ h => h) (fun _ _ h => h) (fun k b hk => by
    have h1:=Z6.1 hnm c (ZR hc);have h2:=hk.mem;simp only[List.isEmpty_iff]at h1;rw[h1]at h2;cases h2)
theorem QX{d f:Nat}{caps:Array abb}{xs:List AV}{t:abd}(hx:EvL s caps.toList xs)(hN:XU d N=true) :
  Step P N R s ⟨some d,.makeFunc (.func f) #[] caps,t,pos,after,none⟩ ⟨some (.fn f xs),[],bO caps.toList,[]⟩ :=
 bA rfl rfl hN fun s' aj C m a w hr=>by
  have hl:=hx.agree aj (fun _ h=>h);refine⟨.func (.func f) #[] (caps.map a.eval),by simp[execOp,Instr.makeFunc],.fn ?_ ?_⟩
  ·have:=hl.length;simpa using this
  ·intro j u c hu hc;exact hl.rep hr j u c (by simpa using hu) hc
end Go.Lw
namespace Go.Lw
variable{P:abe}{N:Nat}{R:Array Oper}{s:AS}{pos:String}{after:Array Edge}
def bR(g:Nat->Array abc->Prop)(S:Nat->Nat->Prop)(m:Nat->Option Nat)(c:List abc)(l:List AV):Prop :=
  c.length=l.length/\(∀(j:Nat)(x:AV),l[j]?=some x->x.one=true)/\∀(j:Nat)(u:abc)(x:AV),c[j]?=some u->l[j]?=some x->Rep g S m u x
theorem bR.of_zero{g:Nat->Array abc->Prop}{S:Nat->Nat->Prop}{m:Nat->Option Nat}(z:List abc)(h:z.all Value.oneCell'=true) :
  bR g S m z (z.map .v):=by
 refine⟨by simp,?_,?_⟩
 ·intro j x hx;simp only[ZZ,ZX]at hx;obtain⟨v,hv,rfl⟩:=hx;exact Z6.1 h v (ZR hv)
 ·intro j u x hu hx;simp only[ZZ,ZX]at hx;obtain⟨v,hv,rfl⟩:=hx;rw[hu]at hv;cases hv
  exact .v _
theorem bR.of_value{g:Nat->Array abc->Prop}{S:Nat->Nat->Prop}{m:Nat->Option Nat}{v:abc}{x:AV}(h:Rep g S m v x)(hx:x.ok=true) :
  bR g S m v.cells.toList x.cells:=by
 obtain⟨h1,h2,h3⟩:=h.cells (AV.ok_spec hx);exact⟨by simpa using h1,h2,fun j u y hu hy=>h3 j u y (by simpa using hu) hy⟩
theorem bR.mono{g g':Nat->Array abc->Prop}{S S':Nat->Nat->Prop}{m m':Nat->Option Nat}{c:List abc}{l:List AV}(h:bR g S m c l)
  (hg:∀b cs,g b cs->g' b cs) (hS:∀b n,S b n->S' b n) (hm:∀x∈l,∀k b,x.Names k->m k=some b->m' k=some b):bR g' S' m' c l :=
 ⟨h.1,h.2.1,fun j u x hu hx=>(h.2.2 j u x hu hx).mono hg hS (fun k b hk hb=>hm x (ZR hx) k b hk hb)⟩
def over{α:Type}(l:List α)(off:Nat)(xs:List α):List α:=l.take off++xs++l.drop (off+xs.length)
theorem ib{α:Type}(l:List α)(off:Nat)(xs:List α)(h:off+xs.length<=l.length)(p:Nat) :
  (over l off xs)[p]?=if p<off then l[p]? else if p<off+xs.length then xs[p-off]? else l[p]? := by
 have h1:(l.take off).length=off:=by simp;omega
 unfold over
 by_cases h2:p<off
 ·rw[aa2 h2,aay,aae oz,aak,aa2 h2]
 ·rw[aa1 h2]
  by_cases h3:p<off+xs.length
  ·rw[aa2 h3,aae (by simp;omega),aac oz,h1]
  ·rw[aa1 h3,aac (by simp;omega),aar];congr 1;simp;omega
theorem r5{α:Type}(l:List α)(off:Nat)(xs:List α)(h:off+xs.length<=l.length):(over l off xs).length=l.length:=by
 simp[over];omega
theorem bR.over{g:Nat->Array abc->Prop}{S:Nat->Nat->Prop}{m:Nat->Option Nat}{c:List abc}{l:List AV}{c':List abc}{l':List AV}{off:Nat}
  (h:bR g S m c l) (h':bR g S m c' l') (aU:off+l'.length<=l.length):bR g S m (over c off c') (Lw.over l off l'):=by
 have e1:=h.1;have e2:=h'.1;refine⟨by rw[r5 _ _ _ oz,r5 _ _ _ aU,e1],?_,?_⟩
 ·intro j x hx;rw[ib _ _ _ aU]at hx;split at hx
  ·exact h.2.1 j x hx
  ·split at hx
   ·exact h'.2.1 _ x hx
   ·exact h.2.1 j x hx
 ·intro j u x hu hx;rw[ib _ _ _ aU]at hx;rw[ib _ _ _ oz,e2]at hu;split at hx
  ·rename_i hj;rw[aa2 hj]at hu;exact h.2.2 j u x hu hx
  ·rename_i hj;rw[aa1 hj]at hu
   split at hx
   ·rename_i hj;rw[aa2 hj]at hu;exact h'.2.2 _ u x hu hx
   ·rename_i hj;rw[aa1 hj]at hu;exact h.2.2 j u x hu hx
theorem mY{o:Oper}{d:Nat}{k:Nat}{x:AV}{y:Blk}{rt rd:List Nat}(hg:o.guard=none)(hd:o.dst=some d)(hN:XU d N=true)
  (Ai:k∉rd)
  (h:∀s',fQ s s' ⟨some x,[(k,some y)],rt,rd⟩->s'.Fresh k->∀C m a w,RelM C s' m a w ->
   ∃(v:abc)(c:Array abc)(t:abd)(n:Nat),(execOp a.eval o).run P w=.ok (.value v) { w with heap:=w.heap.push (.cells c t),drawn:=n }/\¬y.Names k /\
    (∀(g:Nat->Array abc->Prop)(S:Nat->Nat->Prop)(m':Nat->Option Nat)(w':abf),
     (∀b cs,Im C.ext s'.hp m w b cs->g b cs)->(∀b n,Sz w b n->S b n)->(∀k' b,k'≠k->m k'=some b->m' k'=some b) ->
     w'.heap[w.heap.size]?=some (.cells c t (0,0))->BlkRep g S m' w' (some w.heap.size) y) /\
    (∀(g:Nat->Array abc->Prop)(S:Nat->Nat->Prop)(m':Nat->Option Nat),m' k=some w.heap.size->S w.heap.size c.size->Rep g S m' v x)) :
  Step P N R s o ⟨some x,[(k,some y)],rt,rd⟩:=by
 refine⟨fun s' aj ba C m a w Q next hC hr hnext=>?_⟩;rw[aa2 (kM hg _)];refine qW ?_
 have hfr:s'.Fresh k:=by
  rcases ba k (by simp)with h |h
  ·exact aa8 h Ai
  ·exact h
 obtain⟨v,c,t,n,h1,h2,h3,h4⟩:=h s' aj hfr C m a w hr;rw[Yb]at hN;unfold Oper.wp;rw[h1];simp only[Oper.upon,hd,Act.put];refine hnext (fun k'=>if k'=k then some w.heap.size else m k') _ _ ?_;have aC:=(hr.alloc hfr (.cells c t) y h2 h3).drawn n
 have:=aC.put d v (some x) (fun z hz=>by
  cases hz;refine⟨by have:=hr.nt;omega,h4 _ _ _ (aa2 rfl) ⟨c,t,(0,0),?_,Z0 _⟩⟩;show(w.heap.push _)[w.heap.size]?=_;simp)
 simpa[AS.app,hd]using this
theorem GP{ext:Nat->Prop}{hp:Hp}{m:Nat->Option Nat}{w:abf}{c:Array abc}{l:List AV}{t:abd}{k:Nat}
  (h:bR (Im ext hp m w) (Sz w) m c.toList l) (hk:∀x∈l,¬x.Names k)
  {g:Nat->Array abc->Prop} {S:Nat->Nat->Prop} {m':Nat->Option Nat} {w':abf}
  (hg:∀b cs,Im ext hp m w b cs->g b cs) (hS:∀b n,Sz w b n->S b n) (hm:∀k' b,k'≠k->m k'=some b->m' k'=some b)
  (hw:w'.heap[w.heap.size]?=some (.cells c t (0,0))):BlkRep g S m' w' (some w.heap.size) (.box l):=by
 have h':=h.mono hg hS (m':=m') (fun x hx k' b hn hb=>hm k' b (fun e=>hk x hx (e▸hn)) hb);exact .box hw (by simpa using h'.1) h'.2.1 (fun j u x hu hx=>h'.2.2 j u x (by simpa using hu) hx)
theorem Tr{d:Nat}{T t:abd}{ti:TI}(hT:ak P T=some ti)(hz:ti.zero.all Value.oneCell'=true)(hN:XU d N=true) :
  Step P N R s ⟨some d,.alloc T,t,pos,after,none⟩ ⟨some (.ptr d 0),[(d,some (.box (ti.zero.map .v)))],[],[]⟩ :=
 mY rfl rfl hN (by simp) fun s' aj hfr C m a w hr => by
  obtain⟨z,h1,h2⟩:=rf hT w;have hc:bR (Im C.ext s'.hp m w) (Sz w) m z.cells.toList (ti.zero.map .v):=by rw[h2];exact .of_zero _ hz
  refine⟨.pointer (some ⟨w.heap.size,0,none⟩),z.cells,T,w.drawn,?_,?_,?_,fun g S m' hm _=>.ptr hm⟩
  ·simp[execOp,Instr.alloc,h1,newVar,newRow]
  ·rintro⟨c,hc,hn⟩;simp only[Yr]at hc;obtain⟨v,_,rfl⟩:=hc;cases hn
  ·intro g S m' w' hg hS hm hw;refine GP hc ?_ hg hS hm hw;rintro x hx hn;simp only[Yr]at hx;obtain⟨v,_,rfl⟩:=hx;cases hn
theorem Ev.fresh{x:abb}{v:AV}{k:Nat}(h:Ev s x v)(hf:s.Fresh k):¬v.Names k:=by
 cases h with
 |tmp h=>exact hf.2.2.1 _ _ h
 |opt h _=>intro hn;exact hf.2.2.1 _ _ h (.opt hn)
 |const=>intro hn;cases hn
 |func=>intro hn;cases hn
theorem K6{x c:AV}{k:Nat}(hc:c∈x.cells)(hn:c.Names k):x.Names k:=by
 cases x <;> simp only[AV.cells,Z3]at hc <;> first
  |(subst hc;exact hn)
  |exact .agg hc hn
theorem TJ{d:Nat}{x:abb}{v:AV}{T t:abd}(hx:Ev s x v)(hv:v.ok=true)(hN:XU d N=true) :
  Step P N R s ⟨some d,.box T x,t,pos,after,none⟩ ⟨some (.ptr d 0),[(d,some (.box v.cells))],ae x,[]⟩ :=
 mY rfl rfl hN (by simp) fun s' aj hfr C m a w hr => by
  have hx':=hx.agree aj (fun _ h=>h);have hc:=bR.of_value (hx'.rep hr) hv;have fY:∀c∈v.cells,¬c.Names d:=fun c hc hn=>hx'.fresh hfr (K6 hc hn)
  refine⟨.pointer (some ⟨w.heap.size,0,none⟩),(a.eval x).cells,T,w.drawn,?_,?_,?_,fun g S m' hm _=>.ptr hm⟩
  ·simp[execOp,Instr.box,newVar,newRow]
  ·rintro⟨c,hc,hn⟩;exact fY c hc hn
  ·intro g S m' w' hg hS hm hw;exact GP hc fY hg hS hm hw
theorem u4{w:abf}{b:Nat}{o:Obj}(hb:w.heap[b]?=some o):b<w.heap.size:=by
 rcases Z2 b w.heap.size with h |h
 ·exact h
 ·rw[ZE h]at hb;cases hb
theorem Mx{w:abf}{b i:Nat}{c:Array abc}{t:abd}{v:abc}(hb:w.heap[b]?=some (.cells c t (0,0))) :
  w.setCell ⟨b,i,none⟩ v={ w with heap:=w.heap.setIfInBounds b (.cells (c.setIfInBounds i v) t (0,0)) }:=by
 have hlt:=u4 hb;unfold World.setCell;congr 1;apply Array.ext_getElem?;intro j;rw[ZD,Array.getElem?_modify]
 by_cases h:b=j
 ·subst h;rw[aa2 rfl,aa2 rfl,aa2 hlt,hb];rfl
 ·rw[aa1 h,aa1 h]
theorem Eo{α:Type}(l:List α)(n:Nat)(v:α)(vs:List α)(h:n+(vs.length+1)<=l.length) :
  over (l.set n v) (n+1) vs=over l n (v::vs):=by
 apply List.ext_getElem?;intro p;rw[ib _ _ _ (by simp;omega),ib _ _ _ (by simpa using h),List.getElem?_set];simp only[Z7]
 by_cases h1:p<n
 ·rw[aa2 oz,aa1 oz,aa2 h1]
 ·by_cases h2:p=n
  ·subst h2;rw[aa2 oz,aa2 rfl,aa2 oz,aa1 oz,aa2 oz,Nat.sub_self];rfl
  ·by_cases h3:p<n+1+vs.length
   ·rw[aa1 oz,aa2 h3,aa1 oz,aa2 oz,show p-n=p-(n+1)+1 by omega,Ym]
   ·rw[aa1 oz,aa1 h3,aa1 oz,aa1 h1,aa1 oz]
theorem xM{b:Nat}{t:abd}:∀(vs:List abc)(c:Array abc)(w:abf)(off i:Nat),w.heap[b]?=some (.cells c t (0,0)) ->
  off+i+vs.length<=c.size->(∀v∈vs,v.oneCell'=true) ->
  (storeCells ⟨b,off,none⟩ vs i).run P w=.ok () { w with heap:=w.heap.setIfInBounds b (.cells (over c.toList (off+i) vs).toArray t (0,0)) }:=by
 intro vs
 induction vs with
 |nil =>
  intro c w off i hb aU _;have hlt:=u4 hb
  have:w.heap.setIfInBounds b (.cells (over c.toList (off+i) []).toArray t (0,0))=w.heap:=by
   apply Array.ext_getElem?;intro j;rw[ZD];split
   ·subst_vars;rw[hb];simp[over]
   ·rfl
  simp[storeCells,this]
 |cons v vs ih =>
  intro c w off i hb aU hv;have hlt:=u4 hb;simp only[Z7]at aU
  have h1:(store ((⟨b,off,none⟩:Addr).add i) v).run P w=.ok () (w.setCell ⟨b,off+i,none⟩ v):=by
   rw[gx,run_store P w _ v .plain (hv v (by simp)),om hb];have:off+i<c.size:=by omega
   simp[ZC this,World.frozen?,hb]
  rw[storeCells,abh,h1,abg,Mx hb]
  have hb':(w.heap.setIfInBounds b (.cells (c.setIfInBounds (off+i) v) t (0,0)))[b]?=some (.cells (c.setIfInBounds (off+i) v) t (0,0)):=by
   rw[ZD,aa2 rfl,aa2 hlt]
  rw[ih (c.setIfInBounds (off+i) v) _ off (i+1) hb' (by simp;omega) (fun v hm=>hv v (by simp[hm]))];congr 2;rw[Array.setIfInBounds_setIfInBounds];congr 3;rw[ZB,show off+(i+1)=off+i+1 by omega,Eo _ _ _ _ (by simp;omega)]
theorem yk{T:abd}{ti:TI}{w:abf}{b off:Nat}{t:abd}{c:Array abc}{v:abc}(hT:ak P T=some ti)(hb:w.heap[b]?=some (.cells c t (0,0)))
  (aA:v.cells.size=ti.size) (aU:off+ti.size<=c.size) (hv:∀x∈v.cells.toList,x.oneCell'=true) :
  (storeVar T ⟨b,off,none⟩ v).run P w=.ok () { w with heap:=w.heap.setIfInBounds b (.cells (over c.toList off v.cells.toList).toArray t (0,0)) }:=by
 have:=xM (P:=P) v.cells.toList c w off 0 hb (by simp;omega) hv;simp only[XW]at this;simp[storeVar,ef hT,aA,this]
theorem wU{o:Oper}{k:Nat}{y y':Blk}{rt rd:List Nat}(hg:o.guard=none)(hd:o.dst=none)(Ai:k∈rd)(hk:s.blk k=some y)
  (h:∀s',fQ s s' ⟨none,[(k,some y')],rt,rd⟩->∀C m a w,RelM C s' m a w ->
   ∃(b:Nat)(c c':Array abc)(t:abd),m k=some b/\w.heap[b]?=some (.cells c t (0,0))/\c'.size=c.size /\
    (execOp a.eval o).run P w=.ok .skip { w with heap:=w.heap.setIfInBounds b (.cells c' t (0,0)) } /\
    ∀(g:Nat->Array abc->Prop)(S:Nat->Nat->Prop)(w':abf),
     (∀b cs,Im C.ext s'.hp m w b cs->g b cs)->(∀b n,Sz w b n->S b n)->w'.heap[b]?=some (.cells c' t (0,0))->BlkRep g S m w' (some b) y') :
  Step P N R s o ⟨none,[(k,some y')],rt,rd⟩:=by
 refine⟨fun s' aj ba C m a w Q next hC hr hnext=>?_⟩;rw[aa2 (kM hg _)];refine qW ?_;obtain⟨b,c,c',t,hm,hb,aA,h1,h2⟩:=h s' aj C m a w hr;unfold Oper.wp;rw[h1];simp only[Oper.upon,hd,Act.put];refine hnext m _ _ ?_;have:=hr.write (x':=y') ((aj.2 k Ai).trans hk) hm hb aA rfl (fun g S hg hS hw=>h2 g S _ hg hS hw);simpa[AS.app,hd]using this
theorem D6{g:Nat->Array abc->Prop}{S:Nat->Nat->Prop}{m:Nat->Option Nat}{v:abc}{x:AV}(h:Rep g S m v x)(hx:x.ok=true) :
  ∀u∈v.cells.toList,u.oneCell'=true:=by
 have hc:=bR.of_value h hx;intro u hu;obtain⟨j,hj,rfl⟩:=YB.1 hu;have hj':j<x.cells.length:=by rw[<- hc.1];exact hj
 exact(hc.2.2 j _ _ (ZV hj) (ZV hj')).one (hc.2.1 j _ (ZV hj'))
theorem OZ{x y:abb}{k off:Nat}{cs:List AV}{v:AV}{T t:abd}{ti:TI}
  (hx:Ev s x (.ptr k off)) (hk:s.blk k=some (.box cs)) (hy:Ev s y v) (hv:v.ok=true) (hT:ak P T=some ti) (aA:XK v.cells.length ti.size=true)
  (aU:Nat.ble (off+ti.size) cs.length=true) :
  Step P N R s ⟨none,.store T x y,t,pos,after,none⟩ ⟨none,[(k,some (.box (over cs off v.cells)))],ae x++ae y,[k]⟩ :=
 wU rfl rfl (by simp) hk fun s' aj C m a w hr => by
  rw[XS]at aU;have aA:=ZT aA;obtain⟨b,hm,cZ⟩:=pw hr (hx.agree aj (fun _ h=>ZY.2 (.inl h)));have kc:=(hy.agree aj (fun _ h=>ZY.2 (.inr h))).rep hr;obtain⟨c,t,hw,hn,ho,aE⟩:=ua hr.heap ((aj.2 k (by simp)).trans hk) hm;have hc:=bR.of_value kc hv;have dY:(a.eval y).cells.size=ti.size:=by have:=hc.1;simp at this;omega
  have h0:bR (Im C.ext s'.hp m w) (Sz w) m c.toList cs:=⟨by simpa using hn,ho,fun j u x hu hx=>aE j u x (by simpa using hu) hx⟩
  have h1:=h0.over hc (off:=off) oz;refine⟨b,c,(over c.toList off (a.eval y).cells.toList).toArray,t,hm,hw,?_,?_,?_⟩
  ·simp[over];omega
  ·have db:=yk (P:=P) (off:=off) hT hw dY oz (D6 kc hv);simp[execOp,Instr.storeAt,cZ,Instr.sureAddr,db]
  ·intro g S w' hg hS hw';have h2:=h1.mono hg hS (m':=m) (fun _ _ _ _ _ h=>h);exact .box hw' (by simpa using h2.1) h2.2.1 (fun j u x hu hx=>h2.2.2 j u x (by simpa using hu) hx)
theorem gN{x y:abb}{k sz i off:Nat}{es:List AV}{e e' v:AV}{T t:abd}{ti:TI}
  (hx:Ev s x (.eptr k sz i off)) (hk:s.blk k=some (.row sz es)) (he:es[i]?=some e) (hy:Ev s y v) (hv:v.ok=true) (hnm:v.nm=[]) (hT:ak P T=some ti)
  (aA:XK v.cells.length ti.size=true) (aU:Nat.ble (off+ti.size) e.cells.length=true) (he':e'.cells=over e.cells off v.cells) :
  Step P N R s ⟨none,.store T x y,t,pos,after,none⟩ ⟨none,[(k,some (.row sz (es.set i e')))],ae x++ae y,[k]⟩ :=
 wU rfl rfl (by simp) hk fun s' aj C m a w hr => by
  rw[XS]at aU;have aA:=ZT aA;obtain⟨b,hm,cZ⟩:=uE hr (hx.agree aj (fun _ h=>ZY.2 (.inl h)));have kc:=(hy.agree aj (fun _ h=>ZY.2 (.inr h))).rep hr;obtain⟨c,t,hw,hn,hl,hs,ho,aE⟩:=q8 hr.heap ((aj.2 k (by simp)).trans hk) hm;have hc:=bR.of_value (RV kc hnm) hv;have dY:(a.eval y).cells.size=ti.size:=by have:=hc.1;simp at this;omega
  have hi:i<es.length:=by
   rcases Z2 i es.length with h |h
   ·exact h
   ·rw[Z5 h]at he;cases he
  have hb:=kv (sz:=sz) hi;have gz:=hs i e he;have If:e'.cells.length=sz:=by rw[he',r5 _ _ _ oz,gz]
  refine⟨b,c,(over c.toList (i*sz+off) (a.eval y).cells.toList).toArray,t,hm,hw,?_,?_,?_⟩
  ·simp[over];omega
  ·have db:=yk (P:=P) (off:=i*sz+off) hT hw dY oz (D6 kc hv);simp[execOp,Instr.storeAt,cZ,Instr.sureAddr,db]
  ·intro g S w' hg hS hw'
   have Aj:∀(i':Nat)(e2:AV),(es.set i e')[i']?=some e2->(i'=i/\e2=e')\/(i'≠i/\es[i']?=some e2):=by
    intro i' e2 h;rw[List.getElem?_set]at h;split at h
    ·rename_i Ak;subst Ak
     cases h;exact .inl ⟨rfl,rfl⟩
    ·rename_i Ak;exact .inr ⟨fun e=>Ak e.symm,h⟩
   have dm:∀(j:Nat)(z:AV),e'.cells[j]?=some z->z.one=true/\∀u,(over c.toList (i*sz+off) (a.eval y).cells.toList)[i*sz+j]?=some u->Rep (Im C.ext s'.hp m w) (Sz w) bK u z:=by
    intro j z hz
    have WW:j<sz:=by
     rw[<- If];rcases Z2 j e'.cells.length with h |h
     ·exact h
     ·rw[Z5 h]at hz;cases hz
    rw[he',ib _ _ _ oz]at hz;have r8:i*sz+off+(a.eval y).cells.toList.length<=c.toList.length:=by simp;omega
    split at hz
    ·rename_i h1;refine⟨ho i j e z he hz,fun u hu=>?_⟩;rw[ib _ _ _ r8,aa2 oz]at hu;exact aE i j e u z he hz (by simpa using hu)
    ·rename_i h1;split at hz
     ·rename_i h2;refine⟨hc.2.1 _ z hz,fun u hu=>?_⟩;rw[ib _ _ _ r8,aa1 oz,aa2 (by simp;omega)]at hu;refine hc.2.2 _ u z ?_ hz;rw[<- hu];congr 1;omega
     ·rename_i h2;refine⟨ho i j e z he hz,fun u hu=>?_⟩;rw[ib _ _ _ r8,aa1 oz,aa1 (by simp;omega)]at hu;exact aE i j e u z he hz (by simpa using hu)
   refine .row hw' (by simp[over];omega) (by simpa using hl) ?_ ?_ ?_
   ·intro i' e2 h;rcases Aj i' e2 h with⟨rfl,rfl⟩ |⟨_,h⟩
    ·exact If
    ·exact hs i' e2 h
   ·intro i' j e2 z h hz;rcases Aj i' e2 h with⟨rfl,rfl⟩ |⟨_,h⟩
    ·exact(dm j z hz).1
    ·exact ho i' j e2 z h hz
   ·intro i' j e2 u z h hz hu;refine Rep.mono hg hS ?_ (fun _ _ _ h=>h);rcases Aj i' e2 h with⟨rfl,rfl⟩ |⟨az,h⟩
    ·exact(dm j z hz).2 u (by simpa using hu)
    ·have r8 : i * sz + off + (a.eval y).cells.toList.length <= c.toList.length := by simp; omega
     have hj:j<sz:=by
      rw[<- hs i' e2 h];rcases Z2 j e2.cells.length with h |h
      ·exact h
      ·rw[Z5 h]at hz;cases hz
     have hu':(over c.toList (i*sz+off) (a.eval y).cells.toList)[i'*sz+j]?=some u:=by simpa using hu
     rw[ib _ _ _ r8]at hu'
     have Vb:c.toList[i'*sz+j]?=some u:=by
      rcases Z2 i' i with hlt |hge
      ·have:=kv (sz:=sz) hlt
       rwa [aa2 oz]at hu'
      ·have := kv (sz := sz) (show i < i' by omega)
       rwa [aa1 oz,aa1 (by simp;omega)]at hu'
     exact aE i' j e2 u z h hz (by simpa using Vb)
end Go.Lw
namespace Go.Lw
variable{P:abe}{N:Nat}{R:Array Oper}{s:AS}{pos:String}{after:Array Edge}
theorem B8:∀(l:List abc)(n off:Nat)(arr:Array abc),off+n+l.length<=arr.size ->
  ((l.zipIdx n).foldl (fun cs p=>cs.setIfInBounds (off+p.2) p.1) arr).toList=over arr.toList (off+n) l:=by
 intro l
 induction l with
 |nil=>intro n off arr h;simp[over]
 |cons v l ih =>
  intro n off arr h;simp only[Z7]at h;simp only[List.zipIdx_cons,YQ];rw[ih (n+1) off _ (by simp;omega),ZB,show off+(n+1)=off+n+1 by omega,Eo _ _ _ _ (by simp;omega)]
def rZ(place:Nat->Option (Nat×Nat)):List AV->List (Nat×AV)->Option (List AV)
  |l,[]=>some l
  |l,(i,x)::r=>match place i with
    |some (off,n)=>match XK x.cells.length n&&Nat.ble (off+n) l.length&&x.ok with
      |true=>rZ place (over l off x.cells) r
      |false=>none
    |none=>none
inductive EvP(s:AS):List (Nat×abb)->List (Nat×AV)->Prop
  |nil:EvP s [] []
  |cons {i:Nat} {o:abb} {x:AV} {os:List (Nat×abb)} {xs:List (Nat×AV)} (h:Ev s o x) (hs:EvP s os xs):EvP s ((i,o)::os) ((i,x)::xs)
def oL:List (Nat×abb)->List Nat
  |[]=>[]
  |(_,o)::os=>ae o++oL os
theorem EvP.agree{s':AS}{u:Out}(h:fQ s s' u){os:List (Nat×abb)}{xs:List (Nat×AV)}(he:EvP s os xs)(hs:∀t∈oL os,t∈u.rt):EvP s' os xs:=by
 induction he with
 |nil=>exact .nil
 |cons h1 _ ih=>exact .cons (h1.agree h (fun t ht=>hs t (by simp[oL,ht]))) (ih (fun t ht=>hs t (by simp[oL,ht])))
theorem NH{g:Nat->Array abc->Prop}{S:Nat->Nat->Prop}{mm:Nat->Option Nat}{ev:abb->abc}{place:Nat->Option (Nat×Nat)}
  {os:List (Nat×abb)} {xs:List (Nat×AV)} (hp:EvP s os xs) (eA:∀o x,Ev s o x->Rep g S mm (ev o) x) :
  ∀(c:Array abc)(l l':List AV),bR g S mm c.toList l->rZ place l xs=some l' ->
   ∃c',Instr.fill place c (os.map fun p=>(p.1,ev p.2))=some c'/\bR g S mm c'.toList l':=by
 induction hp with
 |nil=>intro c l l' h hf;cases hf;exact⟨c,rfl,h⟩
 | @cons i o x os xs h1 _ ih =>
  intro c l l' h hf;unfold rZ at hf;split at hf
  ·rename_i off n fg;split at hf
   ·rename_i hc;simp only [ZW,XS] at hc;obtain ⟨⟨ff,mr⟩,Ae⟩:=hc;have ff:=ZT ff;have hx:=bR.of_value (eA o x h1) Ae;have a6:(ev o).cells.size = n:=by have:=hx.1; simp at this; omega
    have dY:c.size=l.length:=by have:=h.1;simpa using this
    have mu:=h.over hx (off:=off) oz;have r9:=B8 (ev o).cells.toList 0 off c (by simp;omega);simp only[XW]at r9;obtain⟨c',h2,h3⟩:=ih ((((ev o).cells.toList.zipIdx 0).foldl (fun cs p=>cs.setIfInBounds (off+p.2) p.1) c)) _ l' (by rw[r9];exact mu) hf;refine⟨c',?_,h3⟩;rw[<- h2];simp only[aaz,Instr.fill,fg];rw[aa1 (by simp;omega)];congr 1;rw[<- Array.foldl_toList,Array.toList_zipIdx]
   ·cases hf
  ·cases hf
theorem Ly{α β:Type}{w:abf}(f:α->Sem β)(g:α->β):∀(l:List α),(∀x∈l,(f x).run P w=.ok (g x) w)->(l.mapM f).run P w=.ok (l.map g) w:=by
 intro l
 induction l with
 |nil=>intro _;simp
 |cons x l ih =>
  intro h;simp[List.mapM_cons,h x (by simp),ih (fun y hy=>h y (by simp[hy]))]
theorem Mp{d:Nat}{parts:Array (Nat×abb)}{xs:List (Nat×AV)}{l:List AV}{T t:abd}{ti:TI}
  (hx:EvP s parts.toList xs) (hT:ak P T=some ti) (hk:ti.k=.struct) (hz:ti.zero.all Value.oneCell'=true) (hp:(ti.fs.all fun p=>XU 0 p.2)=true)
  (hl:rZ (fun i=>ti.fs[i]?) (ti.zero.map .v) xs=some l) (hN:XU d N=true) :
  Step P N R s ⟨some d,.build T parts,t,pos,after,none⟩ ⟨some (.agg l),[],oL parts.toList,[]⟩ :=
 bA rfl rfl hN fun s' aj C m a w hr=>by
  have hx':=hx.agree aj (fun _ h=>h);obtain⟨z,h1,h2⟩:=rf hT w;obtain⟨d2,h3,h4,h5,-⟩:=bX hT w;obtain⟨fs,rfl⟩:=EK (h4.trans hk);have bb:bR (Im C.ext s'.hp m w) (Sz w) m z.cells.toList (ti.zero.map .v):=by rw[h2];exact .of_zero _ hz
  obtain⟨c',h6,h7⟩:=NH (place:=fun i=>ti.fs[i]?) hx' (fun o x h=>h.rep hr) z.cells _ l bb hl
  have hm:(fs.mapM fun f=>(do pure (f.offset,<- sizeOf f.type):Sem (Nat×Nat))).run P w=.ok ti.fs.toArray w:=by
   rw[ZG];simp only[Sem.run_map];rw[Ly _ (fun f=>(f.offset,match P.info? f.type with |some j=>j.size |none=>0))]
   ·simp only[abg,<- h5,ph] <;> rfl
   ·intro f hf
    have:(f.offset,match P.info? f.type with |some j=>j.size |none=>0)∈ti.fs:=by
     rw[<- h5];simp only[ph,Yr];exact⟨f,hf,rfl⟩
    have:=Z6.1 hp _ this;simp only[Yb]at this;cases hi:P.info? f.type with
    |none=>rw[hi]at this;simp at this
    |some j=>simp[sizeOf,typeInfo,hi]
  refine⟨.agg c',?_,.agg (by simpa using h7.1) h7.2.1 (fun j u x hu hx=>h7.2.2 j u x (by simpa using hu) hx)⟩;have fg:(fun x:Nat=>ti.fs.toArray[x]?)=fun i:Nat=>ti.fs[i]?:=by funext i;simp
  have cc:(parts.map fun p=>(p.1,a.eval p.2)).toList=parts.toList.map fun p=>(p.1,a.eval p.2):=by simp
  have hb:(Instr.build T (parts.map fun p=>(p.1,a.eval p.2))).run P w=.ok (.agg c') w:=by
   simp only[Instr.build,abh,h1,abg,h3,hm,fg,cc,h6,abi]
  simp only[execOp,abh,hb,abg,abi]
theorem Ta{o:Oper}{d:Nat}{x:AV}{rt rd:List Nat}(hg:o.guard=none)(hd:o.dst=some d)(hN:XU d N=true)
  (h:∀s',fQ s s' ⟨some x,[],rt,rd⟩->∀C m a w,RelM C s' m a w ->
   ∃(v:abc)(c:Array abc)(t:abd),(execOp a.eval o).run P w=.ok (.value v) { w with heap:=w.heap.push (.cells c t) } /\
    (∀(g:Nat->Array abc->Prop)(S:Nat->Nat->Prop),(∀b cs,Im C.ext s'.hp m w b cs->g b cs)->(∀b n,Sz w b n->S b n)->g w.heap.size c->Rep g S m v x)) :
  Step P N R s o ⟨some x,[],rt,rd⟩:=by
 refine⟨fun s' aj _ C m a w Q next hC hr hnext=>?_⟩;rw[aa2 (kM hg _)];refine qW ?_;obtain⟨v,c,t,h1,h2⟩:=h s' aj C m a w hr;rw[Yb]at hN;unfold Oper.wp;rw[h1];simp only[Oper.upon,hd,Act.put];refine hnext m _ _ ?_;have hf:=y3 (aB s'.hp m) w (.cells c t);have aT:∀k' y b',lk s'.hp k'=some y->m k'=some b'->aB s'.hp m b'\/w.heap.size<=b':=fun k' y b' h1 h2=>.inl ⟨k',y,h1,h2⟩
 have aC:RelM C s' m a { w with heap:=w.heap.push (.cells c t) }:=by
  refine hr.update hf (fun t y k' b' _ _ hb'=>hb') aT (fun k' y _ hy=>⟨⟨y,hy⟩,rfl⟩) ⟨?_,hr.heap.inj,?_⟩
  ·intro k y hk;refine BlkRep.mono (df hf aT) hf.sz (fun _ _ _ h=>h) rfl ?_ (hr.heap.blk k y hk);intro b hb;have:=(hr.heap.sep k y b hk hb).2;show(w.heap.push _)[b]?=_;rw[ZJ,aa1 oz]
  ·intro k y b hk hb;have:=hr.heap.sep k y b hk hb;refine⟨this.1,?_⟩;have:=this.2;simp;omega
 have:=aC.put d v (some x) (fun z hz=>by
  cases hz;refine⟨by have:=hr.nt;omega,h2 _ _ (df hf aT) hf.sz ⟨fun hc=>?_,?_,t,(0,0),?_⟩⟩
  ·have:=hr.ext_lt hc;omega
  ·rintro⟨k,y,hk,hb⟩;have:=(hr.heap.sep k y _ hk hb).2;omega
  ·show(w.heap.push _)[w.heap.size]?=_;simp)
 simpa[AS.app,hd]using this
end Go.Lw
namespace Go.Lw
variable{P:abe}{N:Nat}{R:Array Oper}{s:AS}{pos:String}{after:Array Edge}
def cR:List AV->List AV
  |[]=>[]
  |e::es=>e.cells++cR es
theorem qO{sz:Nat}:∀(es:List AV),(∀e∈es,e.cells.length=sz)->(cR es).length=es.length*sz
 |[],_=>by simp[cR]
 |e::es,h=>by
  simp only[cR,aah,Z7,h e (by simp),qO es (fun e he=>h e (by simp[he])),XD];omega
theorem rc{sz:Nat}:∀(es:List AV),(∀e∈es,e.cells.length=sz)->∀(i j:Nat)(e x:AV),es[i]?=some e->e.cells[j]?=some x->(cR es)[i*sz+j]?=some x
 |[],_,i,j,e,x,h,_=>by simp at h
 |e0::es,h,0,j,e,x,he,hx=>by
  simp at he;subst he
  have hj:j<e0.cells.length:=by
   rcases Z2 j e0.cells.length with h |h
   ·exact h
   ·rw[Z5 h]at hx;cases hx
  simp only[cR,Nat.zero_mul,XF];rw[aae hj,hx]
 |e0::es,h,i+1,j,e,x,he,hx=>by
  have h0:=h e0 (by simp);simp only[cR,XD];rw[aac oz,h0,show i*sz+sz+j-sz=i*sz+j by omega];exact rc es (fun e he=>h e (by simp[he])) i j e x (by simpa using he) hx
def fR(n:Nat):List abb->List (Nat×abb)
  |[]=>[]
  |o::os=>(n,o)::fR (n+1) os
theorem UX{g:Nat->Array abc->Prop}{S:Nat->Nat->Prop}{mm:Nat->Option Nat}{ev:abb->abc}{sz:Nat}
  (eA:∀o x,Ev s o x->Rep g S mm (ev o) x):∀(os:List abb)(es:List AV),EvL s os es->(es.all fun e=>XK e.cells.length sz&&e.ok)=true ->
   ∀(n:Nat)(c:Array abc)(A Z:List AV),A.length=n*sz->Z.length=es.length*sz->bR g S mm c.toList (A++Z) ->
    ∃c',Instr.fill (fun i=>some (i*sz,sz)) c ((fR n os).map fun p=>(p.1,ev p.2))=some c'/\bR g S mm c'.toList (A++cR es):=by
 intro os es hl
 induction hl with
 |nil =>
  intro _ n c A Z hA hZ hc;have:Z=[]:=by simpa using hZ
  subst this;exact⟨c,rfl,by simpa[cR]using hc⟩
 | @cons o x os xs h1 _ ih =>
  intro ci n c A Z hA hZ hc;simp only[all_cons,ZW]at ci;obtain⟨⟨iU,lw⟩,ci⟩:=ci;have iU:=ZT iU;have hx:=bR.of_value (eA o x h1) lw;have a6:(ev o).cells.size=sz:=by have:=hx.1;simp at this;omega
  simp only[Z7,XD]at hZ;have dY:c.size=A.length+Z.length:=by have:=hc.1;simpa using this
  have mu:=hc.over hx (off:=n*sz) (by simp;omega)
  have Vc:over (A++Z) (n*sz) x.cells=(A++x.cells)++Z.drop sz:=by
   unfold over;rw[<- hA,List.take_left,iU,List.drop_append,aal oz,show A.length+sz-A.length=sz by omega,YK]
  rw[Vc]at mu;have r9:=B8 (ev o).cells.toList 0 (n*sz) c (by simp;omega);simp only[XW]at r9
  obtain⟨c',h2,h3⟩:=ih ci (n+1) ((((ev o).cells.toList.zipIdx 0).foldl (fun cs p=>cs.setIfInBounds (n*sz+p.2) p.1) c)) (A++x.cells) (Z.drop sz)
   (by simp[XD];omega) (by simp;omega) (by rw[r9];exact mu)
  refine⟨c',?_,by simpa[cR,aay]using h3⟩;rw[<- h2];simp only[fR,aaz,Instr.fill];rw[aa1 (by simp;omega)];congr 1;rw[<- Array.foldl_toList,Array.toList_zipIdx]
theorem PN{g:Nat->Array abc->Prop}{S:Nat->Nat->Prop}{m:Nat->Option Nat}(zero:Array abc)(n:Nat)(hz:zero.toList.all Value.oneCell'=true)(h0:n=0\/zero ≠ #[]) :
  ∃l:List AV,bR g S m ((Array.range n).map (zero[· % zero.size]!)).toList l/\l.length=n:=by
 refine⟨(List.range n).map (fun i=>AV.v (zero[i%zero.size]!)),⟨by simp,?_,?_⟩,by simp⟩
 ·intro j x hx;simp only [ZZ,ZX] at hx;obtain ⟨i,hi,rfl⟩:=hx;have hn:0 < n:=by have:=ZR hi; simp at this; omega
  have fZ:0<zero.size:=by
   rcases h0 with h |h
   ·omega
   ·rcases XC zero.size with h' |h'
    ·exact aa8 (Array.size_eq_zero_iff.1 h') h
    ·exact h'
  have hlt:i%zero.size<zero.size:=X8 _ fZ;simp only[AV.one];rw[getElem!_pos zero _ hlt];exact Z6.1 hz _ (by simp)
 ·intro j u x hu hx;simp only[ZZ,ZX]at hx;obtain⟨i,hi,rfl⟩:=hx;simp only[Array.toList_map,Array.toList_range,ZZ,hi,ZP,Option.some.injEq]at hu;subst hu;exact .v _
theorem sY{T E:abd}{ti te:TI}{w:abf}{n:Nat}{g:Nat->Array abc->Prop}{S:Nat->Nat->Prop}{mm:Nat->Option Nat}{ev:abb->abc}
  (hT:ak P T=some ti) (hk:ti.k=.slice E) (hE:ak P E=some te) (hz:te.zero.all Value.oneCell'=true) (bb:XK te.zero.length te.size=true)
  (eA:∀o x,Ev s o x->Rep g S mm (ev o) x) {os:List abb} {es:List AV} (hl:EvL s os es) (ci:(es.all fun e=>XK e.cells.length te.size&&e.ok)=true)
  (hn:n=es.length) (hb:n*te.size<=2^24) :
  ∃c:Array abc,(Instr.buildSlice T n ((fR 0 os).map fun p=>(p.1,ev p.2)).toArray).run P w =
    .ok (.slice (some ⟨w.heap.size,0,none⟩) n n) { w with heap:=w.heap.push (.cells c E) }/\bR g S mm c.toList (cR es):=by
 obtain⟨d2,h3,h4,-,-⟩:=bX hT w;obtain rfl:=eZ (h4.trans hk);obtain⟨z,h5,h6⟩:=rf hE w;have bb:=ZT bb;have ip:z.cells.size=te.size:=by rw[<- ZI,h6];exact bb
 subst hn
 have key:∀zero:Array abc,zero=(if es.length*te.size=0 then #[]else z.cells)->zero.toList.all Value.oneCell'=true/\(es.length*te.size=0\/zero ≠ #[]):=by
  intro zero h;subst h;split
  ·exact⟨rfl,.inl ‹_›⟩
  ·rename_i h;refine⟨by rw[h6];exact hz,.inr (fun he=>?_)⟩;rw[he]at ip;simp at ip;exact h (by rw[<- ip];omega)
 obtain⟨zero,dO⟩:∃zero:Array abc,zero=(if es.length*te.size=0 then #[]else z.cells):=⟨_,rfl⟩
 obtain⟨k1,k2⟩:=key zero dO;obtain⟨Z,hZ,Vd⟩:=PN (g:=g) (S:=S) (m:=mm) zero (es.length*te.size) k1 k2;obtain⟨c',h7,h8⟩:=UX eA os es hl ci 0 ((Array.range (es.length*te.size)).map (zero[· % zero.size]!)) [] Z (by simp) Vd (by simpa using hZ);refine⟨c',?_,by simpa using h8⟩;have sa:¬(es.length*te.size>2^24):=by omega
 simp only[Instr.buildSlice,abh,h3,abg,ef hE];rw[aa1 sa]
 by_cases h0:es.length*te.size=0
 ·rw[aa2 h0]at dO ⊢;subst dO;simp only[abh,abi,abg,h7,newRow,run_newObj]
 ·rw[aa1 h0]at dO ⊢;subst dO;simp only[abh,abi,abg,h5,h7,newRow,run_newObj]
theorem Rd{g:Nat->Array abc->Prop}{S:Nat->Nat->Prop}{m:Nat->Option Nat}{b sz:Nat}{c:Array abc}{es:List AV}(hb:g b c)
  (hc:bR g S bK c.toList (cR es)) (hs:∀e∈es,e.cells.length=sz) (hl:es.length<=an) :
  Rep g S m (.slice (some ⟨b,0,none⟩) es.length es.length) (.lst sz es):=by
 have a6:=qO es hs;have aA:c.size=es.length*sz:=by have:=hc.1;simp at this;omega
 have dm:∀(i j:Nat)(e x:AV),es[i]?=some e->e.cells[j]?=some x->∃u,c[i*sz+j]?=some u/\x.one=true/\Rep g S bK u x:=by
  intro i j e x he hx;have hf:=rc es hs i j e x he hx
  have hlt:i*sz+j<(cR es).length:=by
   rcases Z2 (i*sz+j) (cR es).length with h |h
   ·exact h
   ·rw[Z5 h]at hf;cases hf
  have sb:i*sz+j<c.size:=by omega
  refine⟨c[i*sz+j],ZC sb,hc.2.1 _ x hf,hc.2.2 _ _ x (by simp[sb]) hf⟩
 refine .lst (fun i j=>c.getD (i*sz+j) undef) hb (Z0 _) hl (fun i e he=>hs e (ZR he)) ?_ ?_ ?_
 ·intro i j e x he hx;obtain⟨u,_,h,_⟩:=dm i j e x he hx;exact h
 ·intro i j e x he hx;obtain⟨u,h,_,_⟩:=dm i j e x he hx;simp[Z1,h]
 ·intro i j e x he hx;obtain⟨u,h,_,h2⟩:=dm i j e x he hx;simpa[Z1,h]using h2
theorem nr{es:List AV}{sz:Nat}(h:(es.all fun e=>XK e.cells.length sz&&e.ok)=true):∀e∈es,e.cells.length=sz:=by
 intro e he;have:=Z6.1 h e he;simp only[ZW]at this;exact ZT this.1
theorem pt{es:List AV}(h:AV.nms es=[]):∀e∈es,e.nm=[]:=by
 induction es with
 |nil=>intro e he;cases he
 |cons x es ih =>
  simp only[AV.nms,List.append_eq_nil_iff]at h;intro e he;rcases aai.1 he with rfl |he
  ·exact h.1
  ·exact ih h.2 e he
theorem KU{d n:Nat}{os:List abb}{es:List AV}{T E t:abd}{ti te:TI}{parts:Array (Nat×abb)}
  (hp:parts=(fR 0 os).toArray) (hx:EvL s os es) (hT:ak P T=some ti) (hk:ti.k=.slice E) (hE:ak P E=some te) (hz:te.zero.all Value.oneCell'=true)
  (bb:XK te.zero.length te.size=true) (ci:(es.all fun e=>XK e.cells.length te.size&&e.ok)=true) (hnm:AV.nms es=[])
  (hn:n=es.length) (hb:Nat.ble (n*te.size) 16777216=true) (hb':Nat.ble n 16777216=true) (hN:XU d N=true) :
  Step P N R s ⟨some d,.buildSlice T n parts,t,pos,after,none⟩ ⟨some (.lst te.size es),[],bO os,[]⟩ :=
 Ta rfl rfl hN fun s' aj C m a w hr=>by
  subst hp;rw[XS]at hb hb';have hx':=hx.agree aj (fun _ h=>h);obtain⟨c,h1,h2⟩:=sY (w:=w) hT hk hE hz bb (fun o x h=>h.rep hr) hx' ci hn oz;refine⟨.slice (some ⟨w.heap.size,0,none⟩) n n,c,E,?_,?_⟩
  ·have : ((fR 0 os).toArray.map fun p => (p.1, a.eval p.2)) = ((fR 0 os).map fun p => (p.1, a.eval p.2)).toArray := by simp
   simp only[execOp,abh,this,h1,abg,abi]
  ·intro g S hg hS Ve;subst hn
   have se:∀x∈cR es,x.nm=[]:=by
    have hh:=pt hnm;clear h2 h1 hx' hx ci hb hb' hnm aj
    induction es with
    |nil=>intro x hx;cases hx
    |cons e es ih =>
     intro x hx;simp only[cR,ZY]at hx;rcases hx with hx |hx
     ·have := hh e (by simp)
      cases e <;> simp only[AV.cells,Z3]at hx <;> first
       |(subst hx;exact this)
       |(exact pt this x hx)
     ·exact ih (fun e he=>hh e (by simp[he])) x hx
   have h3:bR g S bK c.toList (cR es):=h2.mono hg hS (fun x hx k b hk _=>by have:=hk.mem;rw[se x hx]at this;cases this);exact Rd Ve h3 (nr ci) (by unfold an;omega)
theorem kP{d:Nat}{T E t:abd}{ti te:TI}
  (hT:ak P T=some ti) (hk:ti.k=.slice E) (hE:ak P E=some te) (hz:te.zero.all Value.oneCell'=true)
  (bb:XK te.zero.length te.size=true) (hN:XU d N=true) :
  Step P N R s ⟨some d,.buildSlice T 0 #[],t,pos,after,none⟩ ⟨some (.ms d te.size 0 0),[(d,some (.row te.size []))],[],[]⟩ :=
 mY rfl rfl hN (by simp) fun s' aj hfr C m a w hr => by
  obtain⟨c,h1,h2⟩:=sY (w:=w) (n:=0) hT hk hE hz bb (fun o x h=>h.rep hr) (.nil:EvL s' [] []) rfl rfl oz;refine⟨.slice (some ⟨w.heap.size,0,none⟩) 0 0,c,E,w.drawn,?_,fun h=>h,?_,fun g S m' hm _=>.ms0 _ _ _ _⟩
  ·have h1':(Instr.buildSlice T 0 #[]).run P w = .ok (.slice (some ⟨w.heap.size, 0, none⟩) 0 0) { w with heap:=w.heap.push (.cells c E) }:=h1;have:((#[]:Array (Nat × abb)).map fun (i,x)=>(i,a.eval x)) = #[]:=by simp
   simp only[execOp,abh,this,h1',abg,abi]
  ·intro g S m' w' hg hS hm hw;exact .row hw (by simp) (by simp) (by simp) (by simp) (by simp)
theorem fW{d:Nat}{x:abb}{n:Int}{T E t:abd}{ti te:TI}(hx:Ev s x (.v (.int .i64 n)))
    (hT:ak P T=some ti) (hk:ti.k=.slice E) (hE:ak P E=some te) (hz:te.zero.all Value.oneCell'=true)
    (bb:(XK te.zero.length te.size&&XU 0 te.size&&XU 0 te.bytes&&(te.ag||XK te.size 1))=true)
    (h0:0<=n) (hb:n*te.bytes<=281474976710656) (hN:XU d N=true) :
    Step P N R s ⟨some d,.makeSlice T x x,t,pos,after,none⟩
      ⟨some (.ms d te.size 0 n.toNat),[(d,some (.row te.size (YO n.toNat (ik te.ag (te.zero.map .v)))))],ae x,[]⟩ :=
  mY rfl rfl hN (by simp) fun s' aj hfr C m a w hr => by
    have cZ:=kR hr (hx.agree aj (fun _ h=>h));simp only[ZW,aav,Yb]at bb;obtain⟨⟨⟨bb,dX⟩,k8⟩,Vf⟩:=bb;have bb:=ZT bb;obtain⟨d2,h3,h4,-,-⟩:=bX hT w;obtain rfl:=eZ (h4.trans hk);obtain⟨z,h5,h6⟩:=rf hE w;obtain⟨ie,h7,h8,-⟩:=C4 hE w;have ip:z.cells.size=te.size:=by rw[<- ZI,h6];exact bb
    have sa:n<=281474976710656:=by
      have:n*1<=n*te.bytes:=Int.mul_le_mul_of_nonneg_left oz h0;omega
    have iV:IntKind.i64.wrap n=n:=IntWalk.i64_in n oz;obtain⟨zero,dO⟩:∃zero:Array abc,zero=(if n.toNat*te.size=0 then #[]else z.cells):=⟨_,rfl⟩
    refine⟨.slice (some ⟨w.heap.size,0,none⟩) n.toNat n.toNat,(Array.range (n.toNat*te.size)).map (zero[· % zero.size]!),E,w.drawn,?_,fun h=>h,?_,?_⟩
    · have iW:(Instr.makeSlice T (.int .i64 n) (.int .i64 n)).run P w =
          .ok (.slice (some ⟨w.heap.size,0,none⟩) n.toNat n.toNat) { w with heap:=w.heap.push (.cells ((Array.range (n.toNat*te.size)).map (zero[· % zero.size]!)) E) }:=by
        have hc:¬((n<0\/281474976710656<(ie.bytes:Int)*n)\/n<0):=by
          rw[h8,Int.mul_comm];omega
        simp only[Instr.makeSlice,abh,h3,abg,asInt,asIntOf,abi,h7,iV];rw[aa1 (by simpa using hc)];simp only[abh,run_askRoom,abg,ef hE]
        by_cases h0:n.toNat*te.size=0
        · rw[aa2 h0]at dO ⊢
          subst dO;simp only[abh,abi,abg,newRow,run_newObj]
        · rw[aa1 h0]at dO ⊢
          subst dO;simp only[abh,abi,abg,h5,newRow,run_newObj]
      simp only[execOp,cZ,abh,iW,abg,abi]
    · intro g S m' w' hg hS hm hw
      have dY:(ik te.ag (te.zero.map .v)).cells=te.zero.map .v:=by
        rcases Vf with h |h
        · rw[h];rfl
        · have h:=ZT h
          match hq:te.zero with
          |[]=>rw[hq]at bb;simp at bb;omega
          |[u] =>
            rw[hq]at hz;simp only[all_cons,List.all_nil,Bool.and_true]at hz;cases te.ag <;> simp[ik,AV.cells]
          |u::u'::r=>rw[hq]at bb;simp at bb;omega
      have dm:∀(i j:Nat)(x:AV),i<n.toNat->(te.zero.map AV.v)[j]?=some x->x.one=true/\∀u,((Array.range (n.toNat*te.size)).map (zero[· % zero.size]!))[i*te.size+j]?=some u->x=.v u:=by
        intro i j x hi hx;simp only[ZZ,ZX]at hx;obtain⟨v,hv,rfl⟩:=hx;refine⟨Z6.1 hz v (ZR hv),?_⟩;intro u hu
        have hj:j<te.size:=by
          rw[<- bb];rcases Z2 j te.zero.length with h |h
          · exact h
          · rw[Z5 h]at hv;cases hv
        have fZ:¬n.toNat*te.size=0:=by
          have:=XB (show 0<n.toNat by omega) dX;omega
        rw[aa1 fZ]at dO;subst dO;have aH:=kv (sz:=te.size) hi;have hlt:i*te.size+j<n.toNat*te.size:=by omega
        simp only[Array.getElem?_map,Array.getElem?_range,hlt,if_true,ZP,Option.some.injEq]at hu;have sf:(i*te.size+j)%z.cells.size=j:=by rw[ip,Nat.add_comm,Nat.add_mul_mod_self_right,Xr hj]
        rw[sf,getElem!_pos z.cells j oz]at hu;rw[<- h6,ZM,ZC oz]at hv;cases hv;rw[hu]
      refine .row hw (by simp) (by unfold an;simp;omega) ?_ ?_ ?_
      · intro i e he
        rw[YS]at he;split at he
        · cases he;rw[dY];simpa using bb
        · cases he
      · intro i j e x he hx
        rw[YS]at he;split at he
        · rename_i hi;cases he;rw[dY]at hx;exact(dm i j x hi hx).1
        · cases he
      · intro i j e u x he hx hu
        rw[YS]at he;split at he
        · rename_i hi;cases he;rw[dY]at hx
          rw[(dm i j x hi hx).2 u hu];exact .v _
        · cases he
    · intro g S m' hm hS
      have:=Rep.ms (g:=g) (S:=S) (m:=m') (k:=d) (sz:=te.size) (off:=0) (len:=n.toNat) (cap:=n.toNat) hm (Z0 _) (by simpa using hS);simpa using this
end Go.Lw
namespace Go.Lw
variable{P:abe}{N:Nat}{R:Array Oper}{s:AS}{pos:String}{after:Array Edge}
theorem RelM.rk{C:Ctx}{m:Nat->Option Nat}{a:Act}{w:abf}(h:RelM C s m a w){k d:Nat}{y:Blk}(hk:lk s.hp k=some y)(hd:s.Fresh d) :
  RelM C ⟨s.sl,(d,some y)::(k,none)::s.hp⟩ (fun k'=>if k'=d then m k else m k') a w:=by
 have az:k≠d:=fun e=>by rw[e,hd.1]at hk;cases hk
 have bf:∀k' z,lk ((d,some y)::(k,none)::s.hp) k'=some z->(k'=d/\z=y)\/(k'≠d/\k'≠k/\lk s.hp k'=some z):=by
  intro k' z hz;rw[aq]at hz;split at hz
  ·cases hz;exact .inl ⟨‹_›,rfl⟩
  ·rw[aq]at hz;split at hz
   ·cases hz
   ·exact .inr ⟨‹_›,‹_›,hz⟩
 have hf:=Frame.refl (aB s.hp m) w
 have aT:∀k' z b,lk ((d,some y)::(k,none)::s.hp) k'=some z->(if k'=d then m k else m k')=some b->aB s.hp m b\/w.heap.size<=b:=by
  intro k' z b hz hb;rcases bf k' z hz with⟨h1,h2⟩ |⟨h1,h2,h3⟩
  ·rw[aa2 h1]at hb;exact .inl ⟨k,y,hk,hb⟩
  ·rw[aa1 h1]at hb;exact .inl ⟨k',z,h3,hb⟩
 have si:∀z:Blk,¬z.Names d->∀k'' b,z.Names k''->m k''=some b->(if k''=d then m k else m k'')=some b:=by
  intro z hz k'' b hn hb;rw[aa1 (fun(e:k''=d)=>hz (e▸hn))];exact hb
 refine h.update hf ?_ aT ?_ ⟨?_,?_,?_⟩
 ·intro t z k' b hz hn hb;have:k'≠d:=fun e=>hd.2.2.1 t z hz (e▸hn)
  rw[aa1 this];exact hb
 ·intro k' z k7 hz;rcases bf k' z hz with⟨h1,h2⟩ |⟨h1,h2,h3⟩
  ·have:=hd.2.1;omega
  ·exact⟨⟨z,h3⟩,by rw[aa1 h1]⟩
 ·intro k' z hz;rcases bf k' z hz with⟨h1,h2⟩ |⟨h1,h2,h3⟩
  ·subst h2;rw[aa2 h1];exact BlkRep.mono (w:=w) (df hf aT) hf.sz (si z (hd.2.2.2 k z hk)) rfl (fun _ _=>rfl) (h.heap.blk k z hk)
  ·rw[aa1 h1];exact BlkRep.mono (w:=w) (df hf aT) hf.sz (si z (hd.2.2.2 k' z h3)) rfl (fun _ _=>rfl) (h.heap.blk k' z h3)
 ·intro k1 k2 z1 z2 b h1 h2 aN aH;rcases bf k1 z1 h1 with⟨e1,e2⟩ |⟨e1,e2,e3⟩ <;> rcases bf k2 z2 h2 with⟨g1,g2⟩ |⟨g1,g2,g3⟩
  ·rw[e1,g1]
  ·rw[aa2 e1]at aN;rw[aa1 g1]at aH
   exact aa8 (h.heap.inj k k2 y z2 b hk g3 aN aH).symm g2
  ·rw[aa1 e1]at aN;rw[aa2 g1]at aH
   exact aa8 (h.heap.inj k1 k z1 y b e3 hk aN aH) e2
  ·rw[aa1 e1]at aN;rw[aa1 g1]at aH
   exact h.heap.inj k1 k2 z1 z2 b e3 g3 aN aH
 ·intro k' z b hz hb;rcases bf k' z hz with⟨h1,h2⟩ |⟨h1,h2,h3⟩
  ·rw[aa2 h1]at hb;exact h.heap.sep k y b hk hb
  ·rw[aa1 h1]at hb;exact h.heap.sep k' z b h3 hb
theorem RelM.fewer{C:Ctx}{m:Nat->Option Nat}{a:Act}{w:abf}(h:RelM C s m a w){hp':Hp}(hs:∀k z,lk hp' k=some z->lk s.hp k=some z) :
  RelM C ⟨s.sl,hp'⟩ m a w:=by
 have hf:=Frame.refl (aB s.hp m) w;have aT:∀k' z b,lk hp' k'=some z->m k'=some b->aB s.hp m b\/w.heap.size<=b:=fun k' z b hz hb=>.inl ⟨k',z,hs k' z hz,hb⟩
 refine h.update hf (fun _ _ _ _ _ _ hb=>hb) aT (fun k' z _ hz=>⟨⟨z,hs k' z hz⟩,rfl⟩) ⟨?_,?_,?_⟩
 ·intro k' z hz;exact BlkRep.mono (w:=w) (df hf aT) hf.sz (fun _ _ _ h=>h) rfl (fun _ _=>rfl) (h.heap.blk k' z (hs k' z hz))
 ·intro k1 k2 z1 z2 b h1 h2;exact h.heap.inj k1 k2 z1 z2 b (hs _ _ h1) (hs _ _ h2)
 ·intro k' z b hz hb;exact h.heap.sep k' z b (hs k' z hz) hb
theorem RelM.virt{C:Ctx}{m:Nat->Option Nat}{a:Act}{w:abf}(h:RelM C s m a w){d:Nat}(sz:Nat)(hd:s.Fresh d) :
  RelM C ⟨s.sl,(d,some (.row sz []))::s.hp⟩ (fun k'=>if k'=d then none else m k') a w:=by
 have bf:∀k' z,lk ((d,some (.row sz []))::s.hp) k'=some z->(k'=d/\z=.row sz [])\/(k'≠d/\lk s.hp k'=some z):=by
  intro k' z hz;rw[aq]at hz;split at hz
  ·cases hz;exact .inl ⟨‹_›,rfl⟩
  ·exact .inr ⟨‹_›,hz⟩
 have hf:=Frame.refl (aB s.hp m) w
 have aT:∀k' z b,lk ((d,some (.row sz []))::s.hp) k'=some z->(if k'=d then none else m k')=some b->aB s.hp m b\/w.heap.size<=b:=by
  intro k' z b hz hb;rcases bf k' z hz with⟨h1,h2⟩ |⟨h1,h3⟩
  ·rw[aa2 h1]at hb;cases hb
  ·rw[aa1 h1]at hb;exact .inl ⟨k',z,h3,hb⟩
 refine h.update hf ?_ aT ?_ ⟨?_,?_,?_⟩
 ·intro t z k' b hz hn hb;rw[aa1 (fun(e:k'=d)=>hd.2.2.1 t z hz (e▸hn))];exact hb
 ·intro k' z k7 hz;rcases bf k' z hz with⟨h1,h2⟩ |⟨h1,h3⟩
  ·have:=hd.2.1;omega
  ·exact⟨⟨z,h3⟩,by rw[aa1 h1]⟩
 ·intro k' z hz;rcases bf k' z hz with⟨h1,h2⟩ |⟨h1,h3⟩
  ·subst h2;rw[aa2 h1];exact .none sz
  ·rw[aa1 h1];exact BlkRep.mono (w:=w) (df hf aT) hf.sz (fun k'' b hn hb=>by rw[aa1 (fun(e:k''=d)=>hd.2.2.2 k' z h3 (e▸hn))];exact hb) rfl (fun _ _=>rfl) (h.heap.blk k' z h3)
 ·intro k1 k2 z1 z2 b h1 h2 aN aH;rcases bf k1 z1 h1 with⟨e1,_⟩ |⟨e1,e3⟩ <;> rcases bf k2 z2 h2 with⟨g1,_⟩ |⟨g1,g3⟩
  ·rw[e1,g1]
  ·rw[aa2 e1]at aN;cases aN
  ·rw[aa2 g1]at aH;cases aH
  ·rw[aa1 e1]at aN;rw[aa1 g1]at aH
   exact h.heap.inj k1 k2 z1 z2 b e3 g3 aN aH
 ·intro k' z b hz hb;rcases bf k' z hz with⟨h1,_⟩ |⟨h1,h3⟩
  ·rw[aa2 h1]at hb;cases hb
  ·rw[aa1 h1]at hb;exact h.heap.sep k' z b h3 hb
theorem HJ{C:Ctx}{m:Nat->Option Nat}{w:abf}{hp:Hp}{v:abc}{sz:Nat}{xs:List AV}(h:Rep (Im C.ext hp m w) (Sz w) m v (.lst sz xs))(aA:0<sz) :
  (xs=[]/\∃a cap,v=.slice a 0 cap)\/∃b off cap cs,v=.slice (some ⟨b,off,none⟩) xs.length cap/\0<xs.length/\Im C.ext hp m w b cs/\off+xs.length*sz<=cs.size /\
   xs.length<=an/\(∀(i:Nat)(e:AV),xs[i]?=some e->e.cells.length=sz)/\(∀(i j:Nat)(e c:AV),xs[i]?=some e->e.cells[j]?=some c->c.one=true) /\
   ∀(i j:Nat)(e c:AV)(u:abc),xs[i]?=some e->e.cells[j]?=some c->cs[off+i*sz+j]?=some u->Rep (Im C.ext hp m w) (Sz w) bK u c:=by
 cases h with
 |lst0 a cap=>exact .inl ⟨rfl,a,cap,rfl⟩
 | @lst _ b off cap _ _ cs u hb hc hl hs h1 hu hr =>
  rcases XC xs.length with h0 |h0
  ·have:xs=[]:=YG h0;subst this;exact .inl ⟨rfl,_,_,rfl⟩
  refine .inr ⟨b,off,cap,cs,rfl,h0,hb,?_,hl,hs,h1,?_⟩
  ·have he:xs[xs.length - 1]? = some (xs[xs.length - 1]'oz):=ZV oz;have gz:=hs _ _ he;have hc':=hu (xs.length - 1) (sz - 1) _ _ he (ZV (show sz - 1 < _ by omega))
   have hlt:off+(xs.length-1)*sz+(sz-1)<cs.size:=by
    rcases Z2 (off+(xs.length-1)*sz+(sz-1)) cs.size with h |h
    ·exact h
    ·rw[ZE h]at hc';cases hc'
   have:xs.length*sz=(xs.length-1)*sz+sz:=by
    rw[<- XD];congr 1;omega
   omega
  ·intro i j e c v he hc hv;have:=hu i j e c he hc;rw[this]at hv;cases hv
   exact hr i j e c he hc
theorem BW{g:Nat->Array abc->Prop}{S:Nat->Nat->Prop}{m:Nat->Option Nat}{w':abf}{b sz off:Nat}{es xs:List AV}{c cs al:Array abc}{t:abd}
  (hw:w'.heap[b]?=some (.cells al t (0,0))) (hn:(es.length+xs.length)*sz<=al.size) (hl:es.length+xs.length<=an)
  (hs:∀(i:Nat)(e:AV),es[i]?=some e->e.cells.length=sz) (h1:∀(i j:Nat)(e x:AV),es[i]?=some e->e.cells[j]?=some x->x.one=true)
  (hr:∀(i j:Nat)(e:AV)(u:abc)(x:AV),es[i]?=some e->e.cells[j]?=some x->c[i*sz+j]?=some u->Rep g S bK u x)
  (hs':∀(i:Nat)(e:AV),xs[i]?=some e->e.cells.length=sz) (h1':∀(i j:Nat)(e x:AV),xs[i]?=some e->e.cells[j]?=some x->x.one=true)
  (hr':∀(i j:Nat)(e:AV)(x:AV)(u:abc),xs[i]?=some e->e.cells[j]?=some x->cs[off+i*sz+j]?=some u->Rep g S bK u x)
  (ho:∀p,p<es.length*sz->al[p]?=c[p]?) (hn':∀p,p<xs.length*sz->al[es.length*sz+p]?=cs[off+p]?) :
  BlkRep g S m w' (some b) (.row sz (es++xs)):=by
 have split:∀(i:Nat)(e:AV),(es++xs)[i]?=some e->es[i]?=some e\/(es.length<=i/\xs[i-es.length]?=some e):=by
  intro i e he;rcases Z2 i es.length with h |h
  ·rw[aae h]at he;exact .inl he
  ·rw[aac h]at he;exact .inr ⟨h,he⟩
 have lt_of:∀{l:List AV}{i:Nat}{e:AV},l[i]?=some e->i<l.length:=by
  intro l i e h;rcases Z2 i l.length with h' |h'
  ·exact h'
  ·rw[Z5 h']at h;cases h
 refine .row hw (by simpa using hn) (by simpa using hl) ?_ ?_ ?_
 ·intro i e he;rcases split i e he with h |⟨_,h⟩
  ·exact hs i e h
  ·exact hs' _ e h
 ·intro i j e x he hx;rcases split i e he with h |⟨_,h⟩
  ·exact h1 i j e x h hx
  ·exact h1' _ j e x h hx
 ·intro i j e u x he hx hu;rcases split i e he with h |⟨hge,h⟩
  ·have hi:=lt_of h;have hj:=lt_of hx;rw[hs i e h]at hj;have:=kv (sz:=sz) hi;rw[ho _ oz]at hu;exact hr i j e u x h hx hu
  ·have hi:=lt_of h;have hj:=lt_of hx;rw[hs' _ e h]at hj;have:=kv (sz:=sz) hi
   have e1:i*sz+j=es.length*sz+((i-es.length)*sz+j):=by
    rw[<- XG,<- XN];congr 2;omega
   rw[e1,hn' _ oz,<- XG]at hu;exact hr' _ j e x u h hx hu
theorem vl{o:Oper}{u:Out}(hg:o.guard=none)
  (h:∀s',fQ s s' u->iI s' u->∀C m a w (next:Act->abf->Prop),C.nt=N->RelM C s' m a w->(∀m' a' w',RelM C (s'.app o.dst u) m' a' w'->next a' w') ->
   o.upon P a next (fun _ _ _=>False) ((execOp a.eval o).run P w)):Step P N R s o u:=by
 refine⟨fun s' aj ba C m a w Q next hC hr hnext=>?_⟩;rw[aa2 (kM hg _)];refine qW ?_;have:=h s' aj ba C m a w next hC hr hnext;unfold Oper.wp;generalize(execOp a.eval o).run P w=r at *;cases r with
 |ok n w' =>
  cases n <;> simp only[Oper.upon]at this ⊢ <;> first
   |exact this
   |exact this.mono (fun e w'' he=>by cases e <;> first |exact he |exact he.elim |(obtain⟨_,_,h⟩:=he;exact h.elim))
 |halt x w'=>cases x <;> simp only[Oper.upon]at this
end Go.Lw
namespace Go.Lw
variable{P:abe}{N:Nat}{R:Array Oper}{s:AS}{pos:String}{after:Array Edge}
theorem pb{ρ:abb->abc}{d:Option Tmp}{x y:abb}{T t:abd}{w w':abf}{v:abc}
  (h:(Builtin.append_ #[T,T] t #[ρ x,ρ y]).run P w=.ok v w') :
  (execOp ρ ⟨d,.call ⟨.builtin .append,#[x,y],#[T,T]⟩,t,pos,after,none⟩).run P w=.ok (.value v) w':=by
 simp[execOp,resolve,invoke,builtin,h]
theorem E8{T t E:abd}{ti te:TI}{w:abf}{base a:Option Addr}{len cap cap':Nat}(hT:ak P T=some ti)(hk:ti.k=.slice E)(hE:ak P E=some te)
  (aU:len<=cap):(Builtin.append_ #[T,T] t #[.slice base len cap,.slice a 0 cap']).run P w=.ok (.slice base len cap) w:=by
 obtain⟨d2,h3,h4,-,hu⟩:=bX hT w;obtain rfl:=eZ (h4.trans hk)
 have kd:(Builtin.firstCells te.size 0 (.slice a 0 cap')).run P w=.ok #[] w:=by
  cases a with
  |none=>exact run_firstCells_none w _ _ _ _
  |some a=>exact run_firstCells_some w _ _ a _ _ [] (by simp) (by simp)
 cases base with
 |none=>simp[Builtin.append_,h3,ef hE,Builtin.lenOf,aU,kd]
 |some b=>simp[Builtin.append_,h3,ef hE,Builtin.lenOf,aU,kd,storeCells]
theorem KY{T t E:abd}{ti te:TI}{w:abf}{b len n cap cap':Nat}{a:Addr}{c:Array abc}{t2:abd}(hT:ak P T=some ti)(hk:ti.k=.slice E)(hE:ak P E=some te)
  (hw:w.heap[b]?=some (.cells c t2 (0,0))) (news:List abc) (dc:news.length=n*te.size) (mv:∀(j:Nat) v,news[j]?=some v->w.cell? (a.add j)=some v)
  (gB:∀u∈news,u.oneCell'=true) (sj:len+n<=cap) (WX:len*te.size+n*te.size<=c.size) :
  (Builtin.append_ #[T,T] t #[.slice (some ⟨b,0,none⟩) len cap,.slice (some a) n cap']).run P w =
   .ok (.slice (some ⟨b,0,none⟩) (len+n) cap) { w with heap:=w.heap.setIfInBounds b (.cells (over c.toList (len*te.size) news).toArray t2 (0,0)) }:=by
 obtain⟨d2,h3,h4,-,hu⟩:=bX hT w;obtain rfl:=eZ (h4.trans hk);have kd:=run_firstCells_some (P:=P) w te.size n a n cap' _ dc mv;have aZ:=xM (P:=P) news c w (len*te.size) 0 hw (by rw[dc];omega) gB;simp only[XW]at aZ;simp[Builtin.append_,h3,ef hE,Builtin.lenOf,sj,kd,gx,aZ]
theorem Qo{C:Ctx}{m:Nat->Option Nat}{a:Act}{w:abf}(hr:RelM C s m a w){b n:Nat}{c:Array abc}{t:abd}(hw:w.heap[b]?=some (.cells c t (0,0)))
  (h:Sz w b n):n<=c.size:=by
 obtain⟨c',t',f',h1,h2⟩:=h;rw[hw]at h1;cases h1;exact h2
theorem Fresh.row{d k:Nat}{z:Blk}(h:s.Fresh d)(az:d≠k)(hz:¬z.Names d):AS.Fresh ⟨s.sl,(k,some z)::s.hp⟩ d:=by
 refine⟨?_,h.2.1,h.2.2.1,?_⟩
 ·simp only[aq,aa1 az];exact h.1
 ·intro k' x hx;simp only[aq]at hx;split at hx
  ·cases hx;exact hz
  ·exact h.2.2.2 k' x hx
theorem u9{C:Ctx}{m:Nat->Option Nat}{a:Act}{w:abf}{d k sz n:Nat}{y:Blk}{v:abc}{rt rd:List Nat}{next:Act->abf->Prop}
  (hr:RelM C ⟨s.sl,(d,some y)::(k,none)::s.hp⟩ m a w) (hd:d<C.nt)
  (hv:Rep (Im C.ext ((d,some y)::(k,none)::s.hp) m w) (Sz w) m v (.ms d sz 0 n))
  (hnext:∀m' a' w',RelM C (s.app (some d) ⟨some (.ms d sz 0 n),[(d,some y),(k,none)],rt,rd⟩) m' a' w'->next a' w'):next (a.put (some d) v) w:=by
 refine hnext m _ _ ?_;have:=hr.put d v (some (.ms d sz 0 n)) (fun z hz=>by cases hz;exact⟨Z9 hd hr.nt,hv⟩);simpa[AS.app,Act.put]using this
theorem Q6{C:Ctx}{m:Nat->Option Nat}{a:Act}{w:abf}{d k sz:Nat}{es xs:List AV}{E:abd}{al:Array abc}{cap:Nat}{rt rd:List Nat}{next:Act->abf->Prop}
  (hr:RelM C s m a w) (hfr:s.Fresh d) (hd:d<C.nt)
  (j9:∀(g:Nat->Array abc->Prop)(S:Nat->Nat->Prop)(m':Nat->Option Nat)(w':abf),
   (∀b cs,Im C.ext s.hp m w b cs->g b cs)->(∀b n,Sz w b n->S b n)->w'.heap[w.heap.size]?=some (.cells al E (0,0))->BlkRep g S m' w' (some w.heap.size) (.row sz (es++xs)))
  (sk:es.length+xs.length<=cap) (aA:cap*sz<=al.size)
  (hnext:∀m' a' w',RelM C (s.app (some d) ⟨some (.ms d sz 0 (es.length+xs.length)),[(d,some (.row sz (es++xs))),(k,none)],rt,rd⟩) m' a' w'->next a' w') :
  next (a.put (some d) (.slice (some ⟨w.heap.size,0,none⟩) (es.length+xs.length) cap)) (w.drew.alloc (.cells al E)):=by
 have h1:=hr.drawn (w.drawn+1);have h2:=h1.alloc hfr (.cells al E) (.row sz (es++xs)) (fun h=>h) (fun g S m' w' hg hS _ hw=>j9 g S m' w' hg hS hw)
 have h3:=h2.fewer (hp':=(d,some (.row sz (es++xs)))::(k,none)::s.hp) (by
  intro k' z hz;simp only[aq]at hz ⊢;split at hz
  ·rename_i h;rw[aa2 h];exact hz
  ·rename_i h;rw[aa1 h]
   split at hz
   ·cases hz
   ·exact hz)
 refine u9 h3 hd ?_ hnext
 have:=Rep.ms (g:=Im C.ext ((d,some (.row sz (es++xs)))::(k,none)::s.hp) (fun k'=>if k'=d then some w.heap.size else m k') (w.drew.alloc (.cells al E)))
  (S:=Sz (w.drew.alloc (.cells al E))) (m:=fun k'=>if k'=d then some w.heap.size else m k') (k:=d) (sz:=sz) (off:=0) (len:=es.length+xs.length) (cap:=cap)
  (aa2 rfl) sk ⟨al,E,(0,0),by show(w.heap.push _)[w.heap.size]?=_;simp,by simpa using aA⟩
 simpa using this
set_option maxHeartbeats 1000000 in
theorem BK{d k sz len:Nat}{xv:AV}{es xs:List AV}{x y:abb}{T E t:abd}{ti te:TI}
  (hx:Ev s x xv) (ka:∀g S m v,Rep g S m v xv->Rep g S m v (.ms k sz 0 len)) (hk:s.blk k=some (.row sz es)) (a6:len=es.length) (hy:Ev s y (.lst sz xs)) (hT:ak P T=some ti) (iX:ti.k=.slice E) (hE:ak P E=some te)
  (aA:te.size=sz) (bb:(XK te.zero.length te.size&&XU 0 te.size&&XU 0 te.bytes)=true) (hb:(len+xs.length)*te.bytes<=140737488355328) (eO:XK d k=false)
  (hN:XU d N=true) :
  Step P N R s ⟨some d,.call ⟨.builtin .append,#[x,y],#[T,T]⟩,t,pos,after,none⟩
   ⟨some (.ms d sz 0 (len+xs.length)),[(d,some (.row sz (es++xs))),(k,none)],ae x++ae y,[k]⟩:=by
 refine vl rfl ?_;intro s' aj ba C m a w next hC hr hnext;subst aA;subst a6
 simp only[ZW,Yb]at bb;obtain⟨⟨bb,dX⟩,k8⟩:=bb;have bb:=ZT bb;have eO:=Ya eO;rw[Yb]at hN;have de:lk s'.hp k=some (.row te.size es):=(aj.2 k (by simp)).trans hk
 have hfr:s'.Fresh d:=by
  rcases ba d (by simp)with h |h
  ·exact aa8 (by simpa using h) eO
  ·exact h
 have hd:d<C.nt:=by omega
 have dl:=ka _ _ _ _ ((hx.agree aj (fun _ h=>ZY.2 (.inl h))).rep hr);have kc:=(hy.agree aj (fun _ h=>ZY.2 (.inr h))).rep hr;obtain⟨i,dd,z,hi,hu,hz,rfl⟩:=ql hE;obtain⟨d2,h3,h4,-,Al⟩:=bX hT w;obtain rfl:=eZ (h4.trans iX);simp only at bb dX k8 hb de dl kc hnext ⊢
 have aH:es.length+xs.length<=140737488355328:=by
  have:=Z4 (es.length+xs.length) (show 1<=i.bytes by omega);omega
 obtain⟨ll,ke⟩:∃ll,ll=es.length:=⟨_,rfl⟩
 rw[<- ke]at dl;rcases HJ kc dX with⟨rfl,a1,cap1,gE⟩ |⟨b1,off1,cap1,cs,gE,iY,bV,Vg,lA,nJ,fF,aC⟩
 ·-- nothing
  generalize cZ:a.eval x=u at dl;cases dl with
  |ms0 a0 =>
   have ci:es=[]:=YG oz;have db:=E8 (t:=t) (w:=w) (base:=a0) (a:=a1) (len:=0) (cap:=0) (cap':=cap1) hT iX hE (Z0 _);have iq:=pb (d:=some d) (x:=x) (y:=y) (pos:=pos) (after:=after) (ρ:=a.eval) (by rw[cZ,gE];exact db);rw[iq];simp only[List.append_nil,aan,XW]at hnext ⊢;exact u9 (hr.rk de hfr) hd (by rw[show es.length=0 by omega];exact .ms0 _ _ _ _) hnext
  | @ms _ _ _ _ _ cap b hm hc hS =>
   have db:=E8 (t:=t) (w:=w) (base:=some ⟨b,0*i.size,none⟩) (a:=a1) (len:=ll) (cap:=cap) (cap':=cap1) hT iX hE hc;have iq:=pb (d:=some d) (x:=x) (y:=y) (pos:=pos) (after:=after) (ρ:=a.eval) (by rw[cZ,gE];exact db);rw[iq];simp only[List.append_nil,aan,XW]at hnext ⊢;subst ke;exact u9 (hr.rk de hfr) hd (.ms (by rw[aa2 rfl];exact hm) hc hS) hnext
 ·-- something
  obtain⟨Vh,Vi,t1,f1,iV⟩:=bV;have dc:(cs.extract off1 (off1+xs.length*i.size)).toList.length=xs.length*i.size:=by simp;omega
  have mv:∀(j:Nat) v,(cs.extract off1 (off1+xs.length*i.size)).toList[j]?=some v->w.cell? ((⟨b1,off1,none⟩:Addr).add j)=some v:=by
   intro j v hj;rw[gx,om iV];rw[ZM,Zz]at hj;split at hj
   ·exact hj
   ·cases hj
  have gB:∀u∈(cs.extract off1 (off1+xs.length*i.size)).toList,u.oneCell'=true:=by
   intro u hu;obtain⟨p,hp,rfl⟩:=YB.1 hu;rw[dc]at hp;have hi':p/i.size<xs.length:=by rw[XM dX];exact hp
   have he:=ZV hi';have gz:=nJ _ _ he;have cc:p%i.size<i.size:=X8 _ dX;have lw:=ZV (show p%i.size<(xs[p/i.size]).cells.length by omega);have pI:p/i.size*i.size+p%i.size=p:=by rw[X6];exact X9 _ _
   have kf:cs[off1+p/i.size*i.size+p%i.size]?=some ((cs.extract off1 (off1+xs.length*i.size)).toList[p]'oz):=by
    rw[XG,pI];simp only[Array.getElem_toList,Array.getElem_extract];exact ZC oz
   exact(aC _ _ _ _ _ he lw kf).one (fF _ _ _ _ he lw)
  have sm:∀(al:Array abc)(base:Nat),(∀p,p<xs.length*i.size->al[base+p]?=(cs.extract off1 (off1+xs.length*i.size)).toList[p]?) ->
    ∀p,p<xs.length*i.size->al[base+p]?=cs[off1+p]? := by
   intro al base h p hp;rw[h p hp,ZM,Zz,aa2 oz]
  generalize cZ:a.eval x=u at dl
  have Ig:∀(c:Array abc)(olds:List abc)(sCap:Nat),olds.length=es.length*i.size->(∀p,p<es.length*i.size->olds[p]?=c[p]?) ->
    (∀(i':Nat)(e:AV),es[i']?=some e->e.cells.length=i.size)->(∀(i' j:Nat)(e x:AV),es[i']?=some e->e.cells[j]?=some x->x.one=true) ->
    (∀(i' j:Nat)(e:AV)(u:abc)(x:AV),es[i']?=some e->e.cells[j]?=some x->c[i'*i.size+j]?=some u->Rep (Im C.ext s'.hp m w) (Sz w) bK u x) ->
    next (a.put (some d) (.slice (some ⟨w.heap.size,0,none⟩) (es.length+xs.length) (grownCap w (es.length+xs.length) sCap E)))
     (w.drew.alloc (.cells (olds.toArray++(cs.extract off1 (off1+xs.length*i.size)).toList.toArray++Builtin.zeroCells z.cells (grownCap w (es.length+xs.length) sCap E-(es.length+xs.length))) E)):=by
   intro c olds sCap ir Vj pM pN is;have Am:z.cells.size=i.size:=by rw[<- ZI];exact bb
   have Vk:es.length+xs.length<=grownCap w (es.length+xs.length) sCap E:=by simp only[grownCap,Question.cut];omega
   refine Q6 (es:=es) (xs:=xs) hr hfr hd ?_ Vk ?_ hnext
   ·intro g S m' w' hg hS hw'
    refine BW (c := c) (cs := cs) (off := off1) hw' ?_ (by unfold an; omega) pM pN (fun i' j e u x he hx hu => (is i' j e u x he hx hu).mono hg hS (fun _ _ _ h => h)) nJ fF
     (fun i' j e x u he hx hu=>(aC i' j e x u he hx hu).mono hg hS (fun _ _ _ h=>h)) ?_ ?_
    ·simp only[ZN,YT,ir,dc,XN];omega
    ·intro p hp;rw[Zy (by simp[ir];omega),Zy (by simp[ir];omega)];simpa using Vj p hp
    ·refine sm _ _ (fun p hp=>?_);rw[Zy (by simp only[ZN,YT,ir,dc];omega),ZA (by simp only[YT,ir];omega)];simp only[YT,ir,Yf];congr 1;omega
   ·simp only[ZN,YT,ir,dc,size_zeroCells,Am];rw[<- XN,<- XN];exact aad _ oz
  have Ih:∀sCap,sCap<es.length+xs.length->Builtin.nextslicecap (es.length+xs.length) sCap*i.bytes<=281474976710656:=fun sCap h=>growslice_fits h hb
  cases dl with
  |ms0 a0 =>
   have ci:es=[]:=YG oz;subst ci;have hg:=Ig #[] [] 0 (by simp) (by simp) (by simp) (by simp) (by simp);simp only[aan,XF]at hg;cases a0 with
   |none =>
    have db:=run_append_nil w T t E i z Al hi hz ⟨b1,off1,none⟩ xs.length cap1 _ dc mv iY oz (by simp only[aan,XF]at hb;omega);have iq:=pb (P:=P) (d:=some d) (x:=x) (y:=y) (pos:=pos) (after:=after) (ρ:=a.eval) (by rw[cZ,gE];exact db);rw[iq];show next _ _;simpa using hg
   |some a0 =>
    have db := run_append_grow w T t E i z Al hi hz a0 0 0 [] (by simp) (by simp) ⟨b1, off1, none⟩ xs.length cap1 _ dc mv oz oz
     (by have:=Ih 0 (by simp;omega);simpa using this)
    have iq:=pb (P:=P) (d:=some d) (x:=x) (y:=y) (pos:=pos) (after:=after) (ρ:=a.eval) (by rw[cZ,gE];exact db);rw[iq];show next _ _;simpa using hg
  | @ms _ _ _ _ _ cap b hm hc hS =>
   subst ke;obtain⟨c,t2,hw,hn,hl,pM,pN,is⟩:=q8 hr.heap de hm;have sk:=Qo hr hw hS;simp only[XF,Nat.zero_mul]at sk cZ
   by_cases sj:es.length+xs.length<=cap
   ·have An:(es.length + xs.length) * i.size <= c.size:=aaj (aad _ sj) sk;rw [XN] at An;have db:=KY (P:=P) (t:=t) hT iX hE hw _ dc mv gB sj An (cap':=cap1) (len:=es.length);have iq:=pb (P:=P) (d:=some d) (x:=x) (y:=y) (pos:=pos) (after:=after) (ρ:=a.eval) (by rw [cZ,gE]; exact db);rw [iq]
    have it:(over c.toList (es.length*i.size) (cs.extract off1 (off1+xs.length*i.size)).toList).toArray.size=c.size:=by
     simp only[YT];rw[r5 _ _ _ (by rw[dc];simp;omega)];simp
    have cP:=hr.write (x':=.row i.size (es++xs)) de hm hw it rfl (by
     intro g S hg hS hw'
     refine BW (c := c) (cs := cs) (off := off1) hw' (by rw [it, XN]; omega) (by unfold an; omega) pM pN (fun i' j e u x he hx hu => (is i' j e u x he hx hu).mono hg hS (fun _ _ _ h => h)) nJ fF
      (fun i' j e x u he hx hu=>(aC i' j e x u he hx hu).mono hg hS (fun _ _ _ h=>h)) ?_ ?_
     ·intro p hp;rw[Yf,ib _ _ _ (by rw[dc];simp;omega),aa2 hp,ZM]
     ·refine sm _ _ (fun p hp=>?_);rw[Yf,ib _ _ _ (by rw[dc];simp;omega),aa1 oz,aa2 (by rw[dc];omega)];congr 1;omega)
    have my:=cP.rk (k:=k) (d:=d) (y:=.row i.size (es++xs)) (by simp[aq]) (Fresh.row hfr eO (fun h=>h))
    have kg:RelM C ⟨s'.sl,(d,some (.row i.size (es++xs)))::(k,none)::s'.hp⟩ (fun k'=>if k'=d then m k else m k') a
      { w with heap:=w.heap.setIfInBounds b (.cells (over c.toList (es.length*i.size) (cs.extract off1 (off1+xs.length*i.size)).toList).toArray t2 (0,0)) }:=by
     refine RelM.congr ?_ ?_ my
     ·intro t;rfl
     intro k';simp only[AS.blk,aq];split
     ·rfl
     ·split <;> rfl
    refine u9 kg hd ?_ hnext
    have:=Rep.ms (g:=Im C.ext ((d,some (.row i.size (es++xs)))::(k,none)::s'.hp) (fun k'=>if k'=d then m k else m k')
      { w with heap:=w.heap.setIfInBounds b (.cells (over c.toList (es.length*i.size) (cs.extract off1 (off1+xs.length*i.size)).toList).toArray t2 (0,0)) })
     (S:=Sz { w with heap:=w.heap.setIfInBounds b (.cells (over c.toList (es.length*i.size) (cs.extract off1 (off1+xs.length*i.size)).toList).toArray t2 (0,0)) })
     (m:=fun k'=>if k'=d then m k else m k') (k:=d) (sz:=i.size) (off:=0) (len:=es.length+xs.length) (cap:=cap) (b:=b)
     (by rw [aa2 rfl]; exact hm) sj ⟨_, t2, (0, 0), by
      show(w.heap.setIfInBounds b _)[b]?=_;rw[ZD,aa2 rfl,aa2 (u4 hw)],by rw[it,XF];exact sk⟩
    simpa using this
   ·have Ii : (c.extract 0 (es.length * i.size)).toList.length = es.length * i.size := by simp; omega
    have hg:=Ig c (c.extract 0 (es.length*i.size)).toList cap Ii (by
     intro p hp;rw[ZM,Zz,aa2 oz,XF]) pM pN is
    have db:=run_append_grow w T t E i z Al hi hz ⟨b,0,none⟩ es.length cap (c.extract 0 (es.length*i.size)).toList Ii (by
     intro j v hj;rw[gx,om hw];rw[ZM,Zz]at hj;split at hj
     ·simpa using hj
     ·cases hj) ⟨b1,off1,none⟩ xs.length cap1 _ dc mv oz oz (Ih cap oz)
    have iq:=pb (P:=P) (d:=some d) (x:=x) (y:=y) (pos:=pos) (after:=after) (ρ:=a.eval) (by rw[cZ,gE];exact db);rw[iq];exact hg
theorem cU{d k sz len:Nat}{es xs:List AV}{x y:abb}{T E t:abd}{ti te:TI}
  (hx:Ev s x (.ms k sz 0 len)) (hk:s.blk k=some (.row sz es)) (a6:len=es.length) (hy:Ev s y (.lst sz xs)) (hT:ak P T=some ti) (iX:ti.k=.slice E) (hE:ak P E=some te)
  (aA:te.size=sz) (bb:(XK te.zero.length te.size&&XU 0 te.size&&XU 0 te.bytes)=true) (hb:(len+xs.length)*te.bytes<=140737488355328) (eO:XK d k=false)
  (hN:XU d N=true) :
  Step P N R s ⟨some d,.call ⟨.builtin .append,#[x,y],#[T,T]⟩,t,pos,after,none⟩
   ⟨some (.ms d sz 0 (len+xs.length)),[(d,some (.row sz (es++xs))),(k,none)],ae x++ae y,[k]⟩ :=
 BK hx (fun _ _ _ _ h=>h) hk a6 hy hT iX hE aA bb hb eO hN
end Go.Lw
namespace Go.Lw
variable{P:abe}{N:Nat}{R:Array Oper}{s:AS}{pos:String}{after:Array Edge}
def rN(P:abe)(f:FuncId):Prop:=∀args w,(callFunc f args).run P w=.ok (.enter f args) w
theorem KW {f : FuncId} {fn : Func} {c : Code} (hf : P.funcs[f]? = some fn) (hb : fn.body = some c) (hn : (fn.name == "runtime.NumGoroutine") = false) : rN P f := by
 intro args w;have hn' : ¬ fn.name = "runtime.NumGoroutine" := by simpa using hn
 simp[callFunc,hf,hb,hn']
structure Con(P:abe)(f:FuncId)(args:List AV)(H:Hp)(r:AV)(H':Hp):Prop where
  ok:rN P f
  ret:Lm P f args H r H'
abbrev gh(P:abe)(f:FuncId)(args:List AV)(r:AV):Prop:=Con P f args [] r []
theorem BD{ρ:abb->abc}{o:Oper}{f:FuncId}{args:Array abb}{ts:Array abd}{w:abf}{vs:Array abc}(ho:o.op=.call ⟨.value (.func f),args,ts⟩)
  (hρ:ρ (.func f)=.func (.func f) #[] #[]) (bc:rN P f) (cM:args.map ρ=vs):(execOp ρ o).run P w=.ok (.enter f vs) w:=by
 subst cM;have:=bc (args.map ρ) w;obtain⟨dst,op,type,pos,after,guard⟩:=o;subst ho;simp[execOp,resolve,hρ,Deferred.ofValue,invoke,this]
theorem HG{ρ:abb->abc}{o:Oper}{g:abb}{f:FuncId}{caps:Array abc}{args:Array abb}{ts:Array abd}{w:abf}{vs:Array abc}(ho:o.op=.call ⟨.value g,args,ts⟩)
  (hρ:ρ g=.func (.func f) #[] caps) (bc:rN P f) (cM:args.map ρ++caps=vs):(execOp ρ o).run P w=.ok (.enter f vs) w:=by
 subst cM;have:=bc (args.map ρ++caps) w;obtain⟨dst,op,type,pos,after,guard⟩:=o;subst ho;simp[execOp,resolve,hρ,Deferred.ofValue,invoke,this]
def fB(H:Hp)(k:Nat):Bool:=match lk H k with |some _=>true |none=>false
theorem fC{H:Hp}{k:Nat}:fB H k=true↔∃z,lk H k=some z:=by
 unfold fB;cases lk H k <;> simp
def qz(r:AV)(H':Hp):Bool :=
  (r.nm.all fun k=>fB H' k)&&H'.all fun p=>match p.2 with |some x=>x.nm.all fun k=>fB H' k |none=>true
def cr(H:Hp):Hp:=H.map fun p=>(p.1,none)
theorem R0(H:Hp)(k:Nat):lk (cr H) k=none:=by
 induction H with
 |nil=>rfl
 |cons p H ih =>
  obtain⟨k',x⟩:=p;simp only[cr,aaz,aq];split
  ·rfl
  ·exact ih
theorem g7{H:Hp}{k:Nat}{z:Blk}(h:lk H k=some z):k∈H.map (·.1):=Yr.2 ⟨_,mj h,rfl⟩
theorem RelM.called{C:Ctx}{m:Nat->Option Nat}{a:Act}{w:abf}(hr:RelM C s m a w){run:Array abc->abf->(Ending->abf->Prop)->Prop}(Vl:∀vs w R R',run vs w R->(∀e w',R e w'->R' e w')->run vs w R'){xs:List AV}{H H':Hp}{r:AV}(cj:yO run xs H r H'){vs:Array abc}
  (cM:vs.size=xs.length) (dP:∀(j:Nat) v x,vs[j]?=some v->xs[j]?=some x->Rep (Im C.ext s.hp m w) (Sz w) m v x)
  (hH:∀k z,lk H k=some z->lk s.hp k=some z) (ba:∀k z,lk H' k=some z->(∃y,lk H k=some y)\/s.Fresh k)
  (Vm:∀k∈H.map (·.1),fB H k=true) (hnm:qz r H'=true) :
  run vs w fun e w'=>∃v m'',e=.returned v/\RelM C ⟨s.sl,H'++cr H++s.hp⟩ m'' a w'/\Rep (Im C.ext (H'++cr H++s.hp) m'' w') (Sz w') m'' v r /\
   ∀k y z,lk H k=some y->lk H' k=some z->m'' k=m k:=by
 simp only[qz,ZW,Z6]at hnm;obtain⟨Vn,Vo⟩:=hnm
 let ext':Nat->Prop:=fun b=>C.ext b\/∃k z,lk s.hp k=some z/\lk H k=none/\m k=some b
 have b8:∀b,aB H m b->aB s.hp m b:=fun b ⟨k,z,h1,h2⟩=>⟨k,z,hH k z h1,h2⟩
 have bV:∀b cs,Im C.ext s.hp m w b cs->Im ext' H m w b cs:=by
  rintro b cs ⟨h1,h2,h3⟩;refine⟨?_,fun h=>h2 (b8 b h),h3⟩;rintro(h |⟨k,z,hk,_,hb⟩)
  ·exact h1 h
  ·exact h2 ⟨k,z,hk,hb⟩
 have bw:HeapRel ext' H m w:=by
  refine⟨?_,?_,?_⟩
  ·intro k z hk;exact BlkRep.mono (w:=w) bV (fun _ _ h=>h) (fun _ _ _ h=>h) rfl (fun _ _=>rfl) (hr.heap.blk k z (hH k z hk))
  ·intro k k' z z' b h1 h2;exact hr.heap.inj k k' z z' b (hH _ _ h1) (hH _ _ h2)
  ·intro k z b hk hb;have:=hr.heap.sep k z b (hH k z hk) hb;refine⟨?_,this.2⟩;rintro(h |⟨k2,z2,ez,lB,aH⟩)
   ·exact this.1 h
   ·have:=hr.heap.inj k k2 z z2 b (hH k z hk) ez hb aH;subst this;rw[hk]at lB;cases lB
 have Ao:∀b,ext' b->b<w.heap.size:=by
  rintro b (h |⟨k,z,hk,_,hb⟩)
  ·exact hr.ext_lt h
  ·exact(hr.heap.sep k z b hk hb).2
 refine Vl _ _ _ _ (cj ext' m w vs Ao bw cM (fun j v x h1 h2=>(dP j v x h1 h2).mono bV (fun _ _ h=>h) (fun _ _ _ h=>h))) ?_;rintro e w' ⟨v,m',rfl,hf,hh',nK,nL,aE⟩
 have WY:∀k,k∈(cr H).map (·.1)->fB H k=true:=by
  intro k hk;apply Vm;simpa[cr]using hk
 have bf:∀k z,lk (H'++cr H++s.hp) k=some z->lk H' k=some z\/(fB H' k=false/\lk H k=none/\lk s.hp k=some z):=by
  intro k z hz;rw[aay,iD]at hz;split at hz
  ·exact .inl hz
  ·rename_i h1
   have ha:fB H' k=false:=by
    cases h:fB H' k with
    |false=>rfl
    |true=>obtain⟨z',hz'⟩:=fC.1 h;exact aa8 (g7 hz') h1
   rw[iD]at hz;split at hz
   ·rw[R0]at hz;cases hz
   ·rename_i h2;refine .inr ⟨ha,?_,hz⟩;cases h:lk H k with
    |none=>rfl
    |some y=>exact aa8 (by simpa[cr]using g7 h) h2
 let m'':Nat->Option Nat:=fun k=>if fB H' k=true then m' k else m k
 have en:∀k,fB H' k=true->m'' k=m' k:=fun k h=>aa2 h
 have gG:∀k,fB H' k=false->m'' k=m k:=fun k h=>aa1 (by simp[h])
 have Ij:∀(k:Nat) b,¬s.Fresh k->m k=some b->m'' k=some b:=by
  intro k b Vp hb;cases h:fB H' k with
  |false=>rw[gG k h];exact hb
  |true =>
   rw[en k h];obtain⟨z,hz⟩:=fC.1 h;rcases ba k z hz with⟨y,hy⟩ |hfr
   ·rw[nL k y z hy hz];exact hb
   ·exact aa8 hfr Vp
 have hf':Frame (aB s.hp m) w w':=⟨hf.os,hf.tape,hf.output,hf.size,hf.sz,fun b hb hn=>hf.keep b hb (fun h=>hn (b8 b h))⟩
 have aT:∀k z b,lk (H'++cr H++s.hp) k=some z->m'' k=some b->aB s.hp m b\/w.heap.size<=b:=by
  intro k z b hz hb;rcases bf k z hz with h |⟨h1,h2,h3⟩
  ·rw[en k (fC.2 ⟨z,h⟩)]at hb;rcases nK k z b h hb with h' |h'
   ·exact .inl (b8 b h')
   ·exact .inr h'
  ·rw[gG k h1]at hb;exact .inl ⟨k,z,h3,hb⟩
 have Ik:∀b cs,Im ext' H' m' w' b cs->Im C.ext (H'++cr H++s.hp) m'' w' b cs:=by
  rintro b cs ⟨h1,h2,h3⟩;refine⟨fun h=>h1 (.inl h),?_,h3⟩;rintro⟨k,z,hz,hb⟩;rcases bf k z hz with h |⟨g1,g2,g3⟩
  ·rw[en k (fC.2 ⟨z,h⟩)]at hb;exact h2 ⟨k,z,h,hb⟩
  ·rw[gG k g1]at hb;exact h1 (.inr ⟨k,z,g3,g2,hb⟩)
 refine⟨v,m'',rfl,hr.update hf' ?_ aT ?_ ⟨?_,?_,?_⟩,aE.mono Ik (fun _ _ h=>h) ?_,fun k y z hy hz=>by rw[en k (fC.2 ⟨z,hz⟩)];exact nL k y z hy hz⟩
 ·intro t x k b hx hn hb;exact Ij k b (fun hfr=>hfr.2.2.1 t x hx hn) hb
 ·intro k z k7 hz;rcases bf k z hz with h |⟨h1,h2,h3⟩
  ·rcases ba k z h with⟨y,hy⟩ |hfr
   ·exact⟨⟨y,hH k y hy⟩,by rw[en k (fC.2 ⟨z,h⟩)];exact nL k y z hy h⟩
   ·have:=hfr.2.1;omega
  ·exact⟨⟨z,h3⟩,gG k h1⟩
 ·intro k z hz;rcases bf k z hz with h |⟨h1,h2,h3⟩
  ·rw[en k (fC.2 ⟨z,h⟩)];refine BlkRep.mono (w:=w') Ik (fun _ _ h=>h) ?_ rfl (fun _ _=>rfl) (hh'.blk k z h);intro k2 b hn hb;have:=Vo _ (mj h);simp only[Z6]at this;rw[en k2 (this k2 hn.mem)];exact hb
  ·rw[gG k h1];refine BlkRep.mono (w:=w) (df hf' aT) hf.sz ?_ rfl ?_ (hr.heap.blk k z h3)
   ·intro k2 b hn hb;exact Ij k2 b (fun hfr=>hfr.2.2.2 k z h3 hn) hb
   ·intro b hb;refine hf.keep b (hr.heap.sep k z b h3 hb).2 ?_;rintro⟨k2,z2,ez,aH⟩;have:=hr.heap.inj k k2 z z2 b h3 (hH k2 z2 ez) hb aH;subst this;rw[h2]at ez;cases ez
 ·intro k1 k2 z1 z2 b h1 h2 aN aH;rcases bf k1 z1 h1 with e |⟨e1,e2,e3⟩ <;> rcases bf k2 z2 h2 with g |⟨g1,g2,g3⟩
  ·rw[en k1 (fC.2 ⟨z1,e⟩)]at aN;rw[en k2 (fC.2 ⟨z2,g⟩)]at aH
   exact hh'.inj k1 k2 z1 z2 b e g aN aH
  ·rw[en k1 (fC.2 ⟨z1,e⟩)]at aN;rw[gG k2 g1]at aH
   exact aa8 (.inr ⟨k2,z2,g3,g2,aH⟩) (hh'.sep k1 z1 b e aN).1
  ·rw[gG k1 e1]at aN;rw[en k2 (fC.2 ⟨z2,g⟩)]at aH
   exact aa8 (.inr ⟨k1,z1,e3,e2,aN⟩) (hh'.sep k2 z2 b g aH).1
  ·rw[gG k1 e1]at aN;rw[gG k2 g1]at aH
   exact hr.heap.inj k1 k2 z1 z2 b e3 g3 aN aH
 ·intro k z b hz hb;rcases bf k z hz with h |⟨h1,h2,h3⟩
  ·rw[en k (fC.2 ⟨z,h⟩)]at hb;have:=hh'.sep k z b h hb;exact⟨fun hc=>this.1 (.inl hc),this.2⟩
  ·rw[gG k h1]at hb;have:=hr.heap.sep k z b h3 hb;exact⟨this.1,Z9 this.2 hf.size⟩
 ·intro k b hn hb;rw[en k (Vn k hn.mem)];exact hb
end Go.Lw
namespace Go.Lw
variable{P:abe}{N:Nat}{R:Array Oper}{s:AS}{pos:String}{after:Array Edge}
def eL(s:AS)(H H':Hp)(r:AV):Bool:=(H.all fun p=>fB H p.1)&&qz r H'
theorem qi{o:Oper}{f:FuncId}{xs:List AV}{H H':Hp}{r:AV}{rt:List Nat}{x:Option AV}(hg:o.guard=none)(hd:∀d,o.dst=some d->XU d N=true/\x=some r)
  (cj:Con P f xs H r H') (hH:∀k z,lk H k=some z->s.blk k=some z) (bc:eL s H H' r=true)
  (h:∀s',(∀t∈rt,s'.get t=s.get t)->∀C m a w,RelM C s' m a w->∃vs:Array abc,(execOp a.eval o).run P w=.ok (.enter f vs) w/\vs.size=xs.length /\
   ∀(j:Nat) v x,vs[j]?=some v->xs[j]?=some x->Rep (Im C.ext s'.hp m w) (Sz w) m v x) :
  Step P N R s o ⟨x,H'++cr H,rt,H.map (·.1)⟩:=by
 refine vl hg ?_;intro s' aj ba C m a w next hC hr hnext;simp only[eL,ZW,Z6]at bc;obtain⟨nN,so⟩:=bc;obtain⟨vs,h1,h2,h3⟩:=h s' aj.1 C m a w hr;rw[h1]
 have hc := hr.called (run := Calls P f) (fun _ _ _ _ h h' => Calls.mono h h') cj.ret h2 h3 (fun k z hz => by rw [<- hH k z hz]; exact aj.2 k (g7 hz)) (by
  intro k z hz;rcases ba k (by simp only[aas,ZY];exact .inl (g7 hz))with h |h
  ·obtain⟨p,hp,rfl⟩:=Yr.1 h;exact .inl (fC.1 (nN p hp))
  ·exact .inr h) (by
  intro k hk;obtain⟨p,hp,rfl⟩:=Yr.1 hk;exact nN p hp) so
 refine Calls.mono hc ?_;rintro e w' ⟨v,m'',rfl,hr',aE,_⟩;cases Ap:o.dst with
 |none =>
  refine hnext m'' _ _ ?_;simpa[AS.app,Ap,Act.put]using hr'
 |some d =>
  obtain⟨hN,rfl⟩:=hd d Ap;rw[Yb]at hN;refine hnext m'' _ _ ?_;have:=hr'.put d v (some r) (fun z hz=>by cases hz;exact⟨by have:=hr'.nt;omega,aE⟩);simpa[AS.app,Ap,Act.put]using this
theorem bF{d f:Nat}{args:Array abb}{ts:Array abd}{xs:List AV}{H H':Hp}{r:AV}{t:abd}
  (cj:Con P f xs H r H') (ha:EvL s args.toList xs) (hH:∀k z,lk H k=some z->s.blk k=some z) (bc:eL s H H' r=true) (hN:XU d N=true) :
  Step P N R s ⟨some d,.call ⟨.value (.func f),args,ts⟩,t,pos,after,none⟩ ⟨some r,H'++cr H,bO args.toList,H.map (·.1)⟩ :=
 qi rfl (fun d' h => by cases h; exact ⟨hN, rfl⟩) cj hH bc fun s' aj C m a w hr => by
  have ha':=ha.agree (u:=⟨none,[],bO args.toList,[]⟩) ⟨aj,fun k hk=>by cases hk⟩ (fun _ h=>h);refine⟨args.map a.eval,BD rfl rfl cj.ok rfl,?_,?_⟩
  ·have:=ha'.length;simpa using this
  ·intro j v x hv hx;exact ha'.rep hr j v x (by simpa using hv) hx
theorem OY{f:Nat}{args:Array abb}{ts:Array abd}{xs:List AV}{H H':Hp}{r:AV}{t:abd}
  (cj:Con P f xs H r H') (ha:EvL s args.toList xs) (hH:∀k z,lk H k=some z->s.blk k=some z) (bc:eL s H H' r=true) :
  Step P N R s ⟨none,.call ⟨.value (.func f),args,ts⟩,t,pos,after,none⟩ ⟨none,H'++cr H,bO args.toList,H.map (·.1)⟩ :=
 qi rfl (fun d' h => by cases h) cj hH bc fun s' aj C m a w hr => by
  have ha':=ha.agree (u:=⟨none,[],bO args.toList,[]⟩) ⟨aj,fun k hk=>by cases hk⟩ (fun _ h=>h);refine⟨args.map a.eval,BD rfl rfl cj.ok rfl,?_,?_⟩
  ·have:=ha'.length;simpa using this
  ·intro j v x hv hx;exact ha'.rep hr j v x (by simpa using hv) hx
theorem Us{d f:Nat}{args:Array abb}{ts:Array abd}{xs:List AV}{r:AV}{t:abd}
  (cj:gh P f xs r) (ha:EvL s args.toList xs) (hnm:r.nm=[]) (hN:XU d N=true) :
  Step P N R s ⟨some d,.call ⟨.value (.func f),args,ts⟩,t,pos,after,none⟩ ⟨some r,[],bO args.toList,[]⟩ :=
 bF cj ha (fun k z h=>by cases h) (by simp[eL,qz,hnm]) hN
theorem MG{d f:Nat}{g:abb}{args:Array abb}{ts:Array abd}{xs caps:List AV}{H H':Hp}{r:AV}{t:abd}
  (hg:Ev s g (.fn f caps)) (cj:Con P f (xs++caps) H r H') (ha:EvL s args.toList xs) (hH:∀k z,lk H k=some z->s.blk k=some z) (bc:eL s H H' r=true) (hN:XU d N=true) :
  Step P N R s ⟨some d,.call ⟨.value g,args,ts⟩,t,pos,after,none⟩ ⟨some r,H'++cr H,ae g++bO args.toList,H.map (·.1)⟩ :=
 qi rfl (fun d' h => by cases h; exact ⟨hN, rfl⟩) cj hH bc fun s' aj C m a w hr => by
  have js:fQ s s' ⟨none,[],ae g++bO args.toList,[]⟩:=⟨aj,fun k hk=>by cases hk⟩
  have ha':=ha.agree js (fun _ h=>ZY.2 (.inr h));have eP:=(hg.agree js (fun _ h=>ZY.2 (.inl h))).rep hr;generalize hv:a.eval g=u at eP;cases eP with
  | @fn _ _ cvs _ hn aE =>
   have hl:=ha'.length;refine⟨args.map a.eval++cvs,HG rfl hv cj.ok rfl,by simp[hn];simpa using hl,?_⟩;intro j v x hv hx;rcases Z2 j xs.length with h |h
   ·rw[aae h]at hx;rw[Zy (by simp;simp at hl;omega)]at hv;exact ha'.rep hr j v x (by simpa using hv) hx
   ·rw[aac h]at hx;rw[ZA (by simp;simp at hl;omega)]at hv;refine aE (j-xs.length) v x ?_ hx;rw[<- hv];congr 1;simp at hl ⊢;omega
inductive ResV(P:abe)(s:AS):ResultVar->AV->Prop
  |tmp {t:Nat} {x:AV} (h:s.get t=some x):ResV P s (.tmp t) x
  |cell {t k:Nat} {cs:List AV} {T:abd} {ti:TI} (h:s.get t=some (.ptr k 0)) (hk:s.blk k=some (.box cs)) (hT:ak P T=some ti)
      (aU:Nat.ble ti.size cs.length=true) (h1:(ti.ag||XK ti.size 1)=true):ResV P s (.cell t T) (ik ti.ag (cs.take ti.size))
inductive ResL(P:abe)(s:AS):List ResultVar->List AV->Prop
  |nil:ResL P s [] []
  |cons {r:ResultVar} {x:AV} {rs:List ResultVar} {xs:List AV} (h:ResV P s r x) (hs:ResL P s rs xs):ResL P s (r::rs) (x::xs)
def ck:List AV->AV
  |[x]=>x
  |xs=>.tup xs
def tN(tmps:Array abc):ResultVar->Sem abc
  | .tmp t=>pure (tmps.getD t undef)
  | .cell a t=>do loadVar t (<- asAddr (tmps.getD a undef))
theorem UE(fn:Func)(tmps:Array abc) :
  results fn tmps=(fn.results.mapM (tN tmps) >>= fun vs=>pure (if h:vs.size=1 then vs[0]else .tuple vs)):=by
 unfold results;congr 2
theorem ResV.run{x:AV}{r:ResultVar}(h:ResV P s r x){C:Ctx}{m:Nat->Option Nat}{a:Act}{w:abf}(hr:RelM C s m a w) :
  ∃v,(tN a.tmps r).run P w=.ok v w/\Rep (Im C.ext s.hp m w) (Sz w) m v x:=by
 cases h with
 |tmp h=>exact⟨_,rfl,(hr.slots _ _ h).2⟩
 | @cell t k cs T ti h hk hT aU h1 =>
  rw[XS]at aU;have h1:ti.ag=true\/ti.size=1:=by simpa using h1
  obtain⟨b,hm,hv⟩:=pw hr (Ev.tmp h);obtain⟨c,t2,hw,hn,ho,aE⟩:=ua hr.heap hk hm;have hv':a.tmps.getD t undef=.pointer (some ⟨b,0,none⟩):=hv;refine⟨_,by simp only[tN,hv',abh,asAddr,abi,abg];exact vD hT hw (by omega:0+ti.size<=c.size) h1,?_⟩;refine tp (c:=c) (off:=0) (n:=ti.size) (by simp;omega) oz h1 ?_ ?_
  ·intro j y hy;rw[aak]at hy;split at hy
   ·exact ho _ y hy
   ·cases hy
  ·intro j u y hy hu;rw[aak]at hy;split at hy
   ·exact aE _ u y (by simpa using hu) hy
   ·cases hy
theorem OE{g:Nat->Array abc->Prop}{S:Nat->Nat->Prop}{m:Nat->Option Nat}:∀(vs:List abc)(xs:List AV),vs.length=xs.length ->
  (∀(j:Nat) v x,vs[j]?=some v->xs[j]?=some x->Rep g S m v x) ->
  Rep g S m (if h:vs.toArray.size=1 then vs.toArray[0]else .tuple vs.toArray) (ck xs)
 |[],[],_,_=>by simp[ck];exact .tup rfl (by simp)
 |[v],[x],_,h=>by simp[ck];exact h 0 v x rfl rfl
 |v::v'::vs,x::x'::xs,h2,h=>by
  simp[ck];exact .tup (by simpa using h2) (fun j u c hu hc=>h j u c (by simpa using hu) hc)
theorem SD{fn:Func}{rs:List ResultVar}{xs:List AV}(Il:fn.results=rs.toArray)(h:ResL P s rs xs){C:Ctx}{m:Nat->Option Nat}{a:Act}{w:abf}(hr:RelM C s m a w) :
  ∃v,(results fn a.tmps).run P w=.ok v w/\Rep (Im C.ext s.hp m w) (Sz w) m v (ck xs):=by
 have key:∃vs:List abc,(rs.mapM (tN a.tmps)).run P w=.ok vs w /\
   vs.length=xs.length/\∀(j:Nat) v x,vs[j]?=some v->xs[j]?=some x->Rep (Im C.ext s.hp m w) (Sz w) m v x:=by
  clear Il
  induction h with
  |nil=>exact⟨[],by simp,rfl,by simp⟩
  |cons h1 _ ih =>
   obtain⟨v,h2,h3⟩:=h1.run hr;obtain⟨vs,h4,h5,h6⟩:=ih;refine⟨v::vs,by simp only[List.mapM_cons,abh,h2,abg,h4,abi],by simp[h5],?_⟩;intro j v' x hv hx;cases j with
   |zero=>simp at hv hx;subst hv;subst hx;exact h3
   |succ j=>exact h6 j v' x (by simpa using hv) (by simpa using hx)
 obtain⟨vs,h1,h2,h3⟩:=key;refine⟨_,?_,OE vs xs h2 h3⟩;rw[UE,Il,ZG];simp only[abh,Sem.run_map,h1,abg,abi]
def aM(s:AS)(x:AV)(r:AV)(H':Hp):Prop :=
  ∀ext m w v,HeapRel ext s.hp m w->(∀b,ext b->b<w.heap.size)->Rep (Im ext s.hp m w) (Sz w) m v x ->
    ∃m',HeapRel ext H' m' w/\(∀k z b,lk H' k=some z->m' k=some b->aB s.hp m b)/\(∀k z,1000<=k->lk H' k=some z->(∃y,lk s.hp k=some y)/\m' k=m k) /\
      Rep (Im ext H' m' w) (Sz w) m' v r
def mo(P:abe)(rs:List ResultVar)(r:AV)(H':Hp):Exit->AS->Prop
  | .normal,s | .ret,s=>∃xs,ResL P s rs xs/\aM s (ck xs) r H'
  |_,_=>False
def kz:Nat->List AV->aX
  |_,[]=>[]
  |n,x::xs=>(n,some x)::kz (n+1) xs
theorem BG:∀(xs:List AV)(n t:Nat)(x:AV),lk (kz n xs) t=some x->n<=t/\xs[t-n]?=some x
 |[],n,t,x,h=>by simp[kz,lk]at h
 |y::ys,n,t,x,h=>by
  simp only[kz,aq]at h;split at h
  ·cases h;subst_vars;simp
  ·obtain⟨h1,h2⟩:=BG ys (n+1) t x h;refine⟨by omega,?_⟩;rw[show t-n=(t-(n+1))+1 by omega,Ym];exact h2
theorem RelM.unmark{C:Ctx}{m:Nat->Option Nat}{a:Act}{w:abf}(h:RelM C s m a w){D:Nat}{l:List Deferred}(h1:C.w0.heap.size<=D)(h2:w.heap[D]?=some (.deferred (some [])))
  (hl:oQ C.w0.heap.size l (w.putObj D (.deferred none))):RelM C s m { a with defers:=l } (w.putObj D (.deferred none)):=by
 have hlt:=h.heap.lt h2;have Ar:∀b,b≠D->(w.putObj D (.deferred none)).heap[b]?=w.heap[b]? := fun b hb=>World.putObj_heap_other hb
 have hc:∀(b:Nat)(cs:Array abc)(t:abd)(f:Nat×Nat),w.heap[b]?=some (Obj.cells cs t f)->(w.putObj D (.deferred none)).heap[b]?=some (Obj.cells cs t f):=fun b cs t f hb=>by
  rw[Ar b (fun e=>by rw[e,h2]at hb;cases hb)];exact hb
 have bV:∀b cs,Im C.ext s.hp m w b cs->Im C.ext s.hp m (w.putObj D (.deferred none)) b cs:=fun b cs ⟨e1,e2,t,f,e3⟩=>⟨e1,e2,t,f,hc _ _ _ _ e3⟩
 have aA:∀b n,Sz w b n->Sz (w.putObj D (.deferred none)) b n:=fun b n ⟨c,t,f,e1,e2⟩=>⟨c,t,f,hc _ _ _ _ e1,e2⟩
 refine⟨fun t x hx=>⟨(h.slots t x hx).1,(h.slots t x hx).2.mono bV aA (fun _ _ _ h=>h)⟩,⟨?_,h.heap.inj,fun k x b hk hb=>⟨(h.heap.sep k x b hk hb).1,by simpa[World.putObj]using(h.heap.sep k x b hk hb).2⟩⟩,?_,h.new,h.keep,hl,h.nt⟩
 ·intro k x hk;refine BlkRep.mono bV aA (fun _ _ _ h=>h) rfl (fun b hb=>Ar b (fun e=>?_)) (h.heap.blk k x hk);subst e;exact h.heap.cells hk hb h2
 ·refine⟨h.frame.os,h.frame.tape,h.frame.output,by simpa[World.putObj]using h.frame.size,fun b n hs => aA b n (h.frame.sz b n hs),fun b hb hn => ?_⟩;rw[Ar b oz];exact h.frame.keep b hb hn
theorem CJ{C:Ctx}{fn:Func}{n:Nat}{R:Ending->abf->Prop}(hR:∀m a w,a.defers=[]->RelM C s m a w->∃v,(results fn a.tmps).run P w=.ok v w/\R (.returned v) w) :
  ∀(Ds:List Nat)(m:Nat->Option Nat)(a:Act)(w:abf),a.defers=Ds.map pf->Ds.Nodup->(∀D∈Ds,C.w0.heap.size<=D/\w.heap[D]?=some (.deferred (some [])))->RelM C s m a w ->
   LeavesInM Fence.wide n P fn a.tmps R a.defers .returning w
 |[],m,a,w,ha,hn,hD,h=>by
  have hn:a.defers=[]:=ha;rw[hn];exact hR m a w hn h
 |D::Ds,m,a,w,ha,hn,hD,h=>by
  obtain⟨h1,h2⟩:=hD D (aaa ..);rw[ha];refine⟨by simp,.inl ⟨D,_,rfl,run_takeDeferred h2,?_⟩⟩;obtain⟨b9,hn'⟩:=List.nodup_cons.1 hn
  have hD':∀D'∈Ds,C.w0.heap.size<=D'/\(w.putObj D (.deferred none)).heap[D']?=some (.deferred (some [])):=fun D' hm=>by
   obtain⟨g1,g2⟩:=hD D' (Z8 _ hm);have az:D'≠D:=fun e=>b9 (by rw[<- e];exact hm)
   exact⟨g1,by rw[World.putObj_heap_other az];exact g2⟩
  exact CJ hR Ds m { a with defers:=Ds.map pf } _ rfl hn' hD' (h.unmark h1 h2 ⟨Ds,rfl,hn',hD'⟩)
theorem BI{f:FuncId}{fn:Func}{c:Code}{rs:List ResultVar}{args:List AV}{H:Hp}{r:AV}{H':Hp}(hf:P.funcs[f]?=some fn)(hb:fn.body=some c)
    (hn : (fn.name == "runtime.NumGoroutine") = false) (hrs : fn.results = rs.toArray) (hN : fn.ntmps = N) (hH : ∀ k z, lk H k = some z -> 1000 <= k)
    (h:iK P N c (mo P rs r H') ⟨kz 0 args,H⟩):Con P f args H r H':=by
  refine⟨KW hf hb hn,?_⟩;intro ext m w vs hext bw cM dP;refine(callsIn_wide (n:=0)).1 (callsIn_of_wp_marks hf hb trivial ?_ rfl)
  let C:Ctx:=⟨w,ext,aB H m,m,N,hext,none⟩
  have is:RelM C ⟨kz 0 args,H⟩ m { tmps:=vs++ZF (fn.ntmps-vs.size) undef,defers:=[] } w:=by
    refine⟨?_,bw,Frame.refl _ _,fun k x b h1 h2=>.inl ⟨k,x,h1,h2⟩,fun _ _ _ _=>rfl,oQ.nil _ _,?_⟩
    · intro t x hx
      obtain⟨_,h2⟩:=BG args 0 t x hx;simp only[Nat.sub_zero]at h2
      have ht:t<args.length:=by
        rcases Z2 t args.length with h |h
        · exact h
        · rw[Z5 h]at h2;cases h2
      have ht':t<vs.size:=by omega
      refine⟨by simp;omega,?_⟩
      have:(vs++ZF (fn.ntmps-vs.size) undef).getD t undef=vs[t]:=by
        rw[Z1,Zy ht',ZC ht'];rfl
      simp only[this];exact dP t vs[t] x (ZC ht') h2
    · show N<=_
      simp;omega
  refine wpIn_mono (h C m _ w 0 rfl rfl is) ?_;rintro e a' w' ⟨s',m',hq,hr⟩
  have ki:∀(xs:List AV),ResL P s' rs xs->aM s' (ck xs) r H'->LeavesInM Fence.wide 0 P fn a'.tmps (fun e w'=>∃v' m'',e=Ending.returned v'/\Frame (aB H m) w w'/\HeapRel ext H' m'' w' /\
        (∀k x b,lk H' k=some x->m'' k=some b->aB H m b\/w.heap.size<=b)/\(∀k x y,lk H k=some x->lk H' k=some y->m'' k=m k) /\
        Rep (Im ext H' m'' w') (Sz w') m'' v' r) a'.defers .returning w':=by
    intro xs hx j8;obtain⟨Ds,e1,e2,e3⟩:=hr.defers;refine CJ (C:=C) (s:=s') (fun m1 a1 w1 _ aC=>?_) Ds m' a' w' e1 e2 e3 hr;obtain⟨v,h1,h2⟩:=SD hrs hx aC;obtain⟨m'',h3,h4,h5,h6⟩:=j8 ext m1 w1 v aC.heap (fun b hb=>aC.ext_lt hb) h2;refine⟨v,h1,v,m'',rfl,aC.frame,h3,?_,?_,h6⟩
    · intro k z b hk hb
      obtain⟨k2,z2,ez,aH⟩:=h4 k z b hk hb;exact aC.new k2 z2 b ez aH
    · intro k z y hk hy
      obtain⟨⟨y',hy'⟩,h8⟩:=h5 k y (hH k z hk) hy;rw[h8];exact aC.keep k y' (hH k z hk) hy'
  cases e with
  |normal =>
    obtain⟨xs,h1,h2⟩:=hq;exact ki xs h1 h2
  |ret =>
    obtain⟨xs,h1,h2⟩:=hq;exact ki xs h1 h2
  |_=>exact hq.elim
theorem ye{f:FuncId}{fn:Func}{c:Code}{rs:List ResultVar}{args:List AV}{H:Hp}{r:AV}{H':Hp}(hf:P.funcs[f]?=some fn)(hb:fn.body=some c)
  (hn : (fn.name == "runtime.NumGoroutine") = false) (hrs : fn.results = rs.toArray) (hN : fn.ntmps = N) (hH : ∀ k z, lk H k = some z -> 1000 <= k)
  (h:aR P N c (mo P rs r H') ⟨kz 0 args,H⟩):Con P f args H r H':=BI hf hb hn hrs hN hH h.out
end Go.Lw
